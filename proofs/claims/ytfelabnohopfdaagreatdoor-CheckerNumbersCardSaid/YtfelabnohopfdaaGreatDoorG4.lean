/- Laws that the proofs of this seat share, part 4. -/
import Derived.Test.YtfelabnohopfdaaGreatDoorG3
import Derived.Test.YtfelabnohopfdaaGreatDoorShelf
import Derived.Lib.Bytealg
import Derived.Shelf.Spec.TrailingZeros
import Derived.Shelf.Strconv.Itoa3
namespace Go.Proofs.YtfelabnohopfdaaGreatDoor
open Go Go.Jog
set_option maxRecDepth 100000

theorem NatC.one {C : Mem} {v : Value} {l : List Nat} (hc : CanD l) (h : Sl C 1 v (l.map encW)) : NatC C v (valD l) := ⟨l, hc, rfl, h⟩
theorem natAdd {C : Mem} {u v : Value} {m n k : Nat} (hu : NatC C u m) (hv : NatC C v n) (hm : Sm k m) (hn : Sm k n) (hk : k ≤ 10000000) : Pur cx.P 63 [u, v] C fun w D => NatC D w (m + n) := by
  obtain ⟨a, ha, rfl, hsa⟩ := hu
  obtain ⟨b, hb, rfl, hsb⟩ := hv
  exact nadd_fn C u v a b hsa hsb ha.1 hb.1 (by have := hm.len ha; omega) (by have := hn.len hb; omega)
theorem natSub {C : Mem} {u v : Value} {m n k : Nat} (hu : NatC C u m) (hv : NatC C v n) (hm : Sm k m) (hn : n ≤ m) (hk : k ≤ 10000000) : Pur cx.P 64 [u, v] C fun w D => NatC D w (m - n) := by
  obtain ⟨a, ha, rfl, hsa⟩ := hu
  obtain ⟨b, hb, rfl, hsb⟩ := hv
  refine nsub_fn C u v a b hsa hsb ha.1 hb.1 (by have := hm.len ha; omega) ?_ hn
  rcases Nat.lt_or_ge a.length b.length with h | h
  · have := len_lt ha.1 hb h; omega
  · exact h
theorem natMul {C : Mem} {u v : Value} {m n j k : Nat} (hu : NatC C u m) (hv : NatC C v n) (hm : Sm j m) (hn : Sm k n) (hj : j ≤ 10000000) (hk : k ≤ 10000000) : Pur cx.P 61 [u, v] C fun w D => NatC D w (m * n) := by
  obtain ⟨a, ha, rfl, hsa⟩ := hu
  obtain ⟨b, hb, rfl, hsb⟩ := hv
  exact nmul_fn C u v a b hsa hsb ha.1 hb.1 (by have := hm.len ha; omega) (by have := hn.len hb; omega)
theorem natHalf {C : Mem} {u : Value} {m k : Nat} (hu : NatC C u m) (hm : Sm k m) (hk : k ≤ 10000000) : Pur cx.P 85 [u] C fun w D => NatC D w (m / 2) := by
  obtain ⟨a, ha, rfl, hsa⟩ := hu
  exact half_fn C u a hsa ha.1 (by have := hm.len ha; omega)
theorem natOdd {C : Mem} {u : Value} {m : Nat} (hu : NatC C u m) : Gives cx.P 84 [u] C (.bool (decide (m % 2 = 1))) := by
  obtain ⟨a, ha, rfl, hsa⟩ := hu
  exact odd_fn C u a hsa ha.1
theorem natCmp {C : Mem} {u v : Value} {m n : Nat} (hu : NatC C u m) (hv : NatC C v n) : Pur cx.P 43 [u, v] C fun w _ => ∃ z : Int, w = .int .i64 z ∧ CmpRes m n z := by
  obtain ⟨a, ha, rfl, hsa⟩ := hu
  obtain ⟨b, hb, rfl, hsb⟩ := hv
  exact compare_fn C u v a b hsa hsb ha hb
theorem NatC.form {C : Mem} {v : Value} {n : Nat} (h : NatC C v n) : ∃ A k c, v = .slice A k c ∧ (k = 0 ↔ n = 0) ∧ k ≤ 9223372036854775807 := by
  obtain ⟨l, hl, rfl, hs⟩ := h
  obtain ⟨A, c, rfl, h1, h2, _⟩ := id hs
  refine ⟨A, l.length, c, by simp, ?_, ?_⟩
  · rw [can_nil hl, List.length_eq_zero_iff]
  · have hmx : maxLen ≤ 9223372036854775807 := by simp [maxLen]
    simp only [List.length_map] at h1
    omega
theorem pow_sm {k m t x : Nat} (h : Sm k m) (hx : 0 < x) (hm : 2 ^ t * x ≤ m) : t < 32 * k := by
  unfold Sm at h
  have e : B32 ^ k = 2 ^ (32 * k) := by rw [Nat.pow_mul]
  rw [e] at h
  have h1 : 2 ^ t * 1 ≤ 2 ^ t * x := Nat.mul_le_mul_left _ hx
  exact (Nat.pow_lt_pow_iff_right (by decide)).1 (by omega : 2 ^ t < 2 ^ (32 * k))
set_option maxHeartbeats 2000000 in
theorem natGcd {C : Mem} {u v : Value} {m n k : Nat} (hu : NatC C u m) (hv : NatC C v n) (hm : Sm k m) (hn : Sm k n) (hk : k ≤ 1000000) (hm0 : 0 < m) (hn0 : 0 < n) : Pur cx.P 44 [u, v] C fun w D => NatC D w (Nat.gcd m n) := by
  refine Fn.intro (by kernel_rfl) Tryz.func44 rfl 50 rfl rfl (fun w0 => ?_)
  refine G.region rfl (fun R hR => ?_)
  refine D.pure rfl rfl rfl rfl rfl rfl ?_
  refine D.done [(0, [], _), (1, [], _)] ⟨rfl, rfl, trivial⟩ (hR _ _ _ rfl ?_); clear hR R
  refine G.region rfl (fun R hR => ?_)
  refine D.pure rfl rfl rfl rfl rfl rfl ?_
  refine D.done [(0, [], _), (1, [], _), (5, [], _)] ⟨rfl, rfl, rfl, trivial⟩ (hR _ _ _ rfl ?_); clear hR R
  refine G.loop (fun fr C' L' μ => ∃ (va vb : Value) (x y t : Nat), (NatC C' va x ∧ NatC C' vb y ∧ 0 < x ∧ 0 < y ∧ 2 ^ t * Nat.gcd x y = Nat.gcd m n ∧ 2 ^ t * x ≤ m ∧ x ≤ m ∧ y ≤ n) ∧ fr = [(0, [], va), (1, [], vb), (5, [], .int .i64 t)] ∧ L' = [] ∧ μ = x + 1) (fr' := [(0, [], _), (1, [], _), (5, [], _)]) ⟨rfl, rfl, rfl, trivial⟩ ⟨u, v, m, n, 0, ⟨hu, hv, hm0, hn0, by simp, by simp, Nat.le_refl _, Nat.le_refl _⟩, rfl, rfl, rfl⟩ (fun fr C0' L0' m hle0 hI => ?_)
  obtain ⟨va, vb, x, y, t, ⟨hva, hvb, hx0, hy0, hg, hxm, hxm2, hyn⟩, rfl, rfl, rfl⟩ := hI
  have ht := pow_sm hm hx0 hxm
  refine G.region rfl (fun R hR => ?_)
  refine D.pure rfl rfl rfl rfl rfl rfl ?_
  refine D.gives2 (natOdd (hva.mono (by (repeat (first | exact Mem.le.refl _ | assumption | (apply Mem.le.trans; rotate_left; assumption)))))) rfl rfl rfl rfl rfl rfl rfl (fun _ => rfl) ?_
  iterate 3 refine D.pure rfl rfl rfl rfl rfl rfl ?_
  refine D.gives (fun _ => (natOdd (hvb.mono (by (repeat (first | exact Mem.le.refl _ | assumption | (apply Mem.le.trans; rotate_left; assumption))))))) rfl rfl rfl rfl rfl rfl rfl rfl rfl ?_
  refine D.pure rfl rfl rfl rfl rfl rfl ?_
  refine D.pickAnd rfl rfl rfl rfl rfl rfl rfl rfl ?_
  refine D.done [(0, [], _), (1, [], _), (5, [], _), (13, [], _)] ⟨rfl, rfl, rfl, rfl, trivial⟩ (hR _ _ _ rfl ?_); clear hR R
  refine G.cond rfl (fun h13 => ?_) (fun h13 => ?_)
  · skip
    have hxe : x % 2 = 0 ∧ y % 2 = 0 := by
      simp at h13; omega
    refine G.region rfl (fun R hR => ?_)
    refine D.pure rfl rfl rfl rfl rfl rfl ?_
    refine D.callP (natHalf (hva.mono (by (repeat (first | exact Mem.le.refl _ | assumption | (apply Mem.le.trans; rotate_left; assumption))))) (hm.mono hxm2) (by omega)) rfl rfl rfl rfl rfl rfl rfl (fun _ => rfl) (fun v15 C15 hle15 hq15 => ?_)
    refine D.pure rfl rfl rfl rfl rfl rfl ?_
    refine D.callP (natHalf (hvb.mono (by (repeat (first | exact Mem.le.refl _ | assumption | (apply Mem.le.trans; rotate_left; assumption))))) (hn.mono hyn) (by omega)) rfl rfl rfl rfl rfl rfl rfl (fun _ => rfl) (fun v17 C17 hle17 hq17 => ?_)
    iterate 2 refine D.pure rfl rfl rfl rfl rfl rfl ?_
    refine D.done [(0, [], _), (1, [], _), (5, [], _)] ⟨rfl, rfl, rfl, trivial⟩ (hR _ _ _ rfl ?_); clear hR R
    refine G.region rfl (fun R hR => ?_)
    refine D.pure rfl rfl rfl rfl rfl rfl ?_
    refine D.i64 _ rfl rfl rfl rfl rfl (by omega) (by omega) rfl rfl ?_
    refine D.pure rfl rfl rfl rfl rfl rfl ?_
    refine D.done [(0, [], _), (1, [], _), (5, [], _)] ⟨rfl, rfl, rfl, trivial⟩ (hR _ _ _ rfl ?_); clear hR R
    refine G.again (m' := x / 2 + 1) (by omega) (by (repeat (first | exact Mem.le.refl _ | assumption | (apply Mem.le.trans; rotate_left; assumption)))) (fr' := [(0, [], _), (1, [], _), (5, [], _)]) ⟨rfl, rfl, rfl, trivial⟩ ⟨v15, v17, x / 2, y / 2, t + 1, ⟨hq15.mono (by (repeat (first | exact Mem.le.refl _ | assumption | (apply Mem.le.trans; rotate_left; assumption)))), hq17.mono (by (repeat (first | exact Mem.le.refl _ | assumption | (apply Mem.le.trans; rotate_left; assumption)))), by omega, by omega, by rw [Nat.pow_succ, Nat.mul_assoc, ← gcd_even hxe.1 hxe.2]; exact hg, by rw [Nat.pow_succ, Nat.mul_assoc, show 2 * (x / 2) = x by omega]; exact hxm, by omega, by omega⟩, rfl, rfl, rfl⟩
  · skip
    have hxo : x % 2 = 1 ∨ y % 2 = 1 := by
      simp at h13; omega
    have hgo := gcd_odd hxo
    obtain ⟨g, hgd⟩ : ∃ g, Nat.gcd x y = g := ⟨_, rfl⟩
    rw [hgd] at hg hgo
    refine G.loop (fun fr C' L' μ => ∃ (wa wb : Value) (p q : Nat), (NatC C' wa p ∧ NatC C' wb q ∧ 0 < q ∧ Nat.gcd p q = g ∧ Sm k p ∧ Sm k q) ∧ fr = [(0, [], wa), (1, [], wb), (5, [], .int .i64 t)] ∧ L' = [] ∧ μ = p + q) (fr' := [(0, [], _), (1, [], _), (5, [], _)]) ⟨rfl, rfl, rfl, trivial⟩ ⟨va, vb, x, y, ⟨hva.mono (by (repeat (first | exact Mem.le.refl _ | assumption | (apply Mem.le.trans; rotate_left; assumption)))), hvb.mono (by (repeat (first | exact Mem.le.refl _ | assumption | (apply Mem.le.trans; rotate_left; assumption)))), hy0, hgd, hm.mono hxm2, hn.mono hyn⟩, rfl, rfl, rfl⟩ (fun fr C1' L1' m hle1 hI => ?_)
    obtain ⟨wa, wb, p, q, ⟨hwa, hwb, hq0, hpq, hsp, hsq⟩, rfl, rfl, rfl⟩ := hI
    obtain ⟨A0, z0, c0, rfl, hz0, hz1⟩ := hwa.form
    refine G.region rfl (fun R hR => ?_)
    iterate 3 refine D.pure rfl rfl rfl rfl rfl rfl ?_
    refine D.done [(0, [], _), (1, [], _), (5, [], _), (22, [], _)] ⟨rfl, rfl, rfl, rfl, trivial⟩ (hR _ _ _ rfl ?_); clear hR R
    refine G.cond rfl (fun h22 => ?_) (fun h22 => ?_)
    · skip
      have hp0 : 0 < p := by
        have : (0 : Int) < (z0 : Int) := by simpa using h22
        have := mt hz0.2
        omega
      refine G.loop (fun fr C' L' μ => ∃ (wp : Value) (p2 : Nat), (NatC C' wp p2 ∧ 0 < p2 ∧ p2 ≤ p ∧ Nat.gcd p2 q = g) ∧ fr = [(0, [], wp), (1, [], wb), (5, [], .int .i64 t)] ∧ L' = [] ∧ μ = p2 + 1) (fr' := [(0, [], _), (1, [], _), (5, [], _)]) ⟨rfl, rfl, rfl, trivial⟩ ⟨_, p, ⟨hwa.mono (by (repeat (first | exact Mem.le.refl _ | assumption | (apply Mem.le.trans; rotate_left; assumption)))), hp0, Nat.le_refl _, hpq⟩, rfl, rfl, rfl⟩ (fun fr C2' L2' m hle2 hI => ?_)
      obtain ⟨wp, p2, ⟨hwp, hp20, hp2p, hp2g⟩, rfl, rfl, rfl⟩ := hI
      refine G.region rfl (fun R hR => ?_)
      refine D.pure rfl rfl rfl rfl rfl rfl ?_
      refine D.gives2 (natOdd (hwp.mono (by (repeat (first | exact Mem.le.refl _ | assumption | (apply Mem.le.trans; rotate_left; assumption)))))) rfl rfl rfl rfl rfl rfl rfl (fun _ => rfl) ?_
      refine D.pure rfl rfl rfl rfl rfl rfl ?_
      refine D.done [(0, [], _), (1, [], _), (5, [], _), (25, [], _)] ⟨rfl, rfl, rfl, rfl, trivial⟩ (hR _ _ _ rfl ?_); clear hR R
      refine G.cond rfl (fun h25 => ?_) (fun h25 => ?_)
      · skip
        have hpe : p2 % 2 = 0 := by
          simp at h25; omega
        refine G.region rfl (fun R hR => ?_)
        refine D.pure rfl rfl rfl rfl rfl rfl ?_
        refine D.callP (natHalf (hwp.mono (by (repeat (first | exact Mem.le.refl _ | assumption | (apply Mem.le.trans; rotate_left; assumption))))) (hsp.mono hp2p) (by omega)) rfl rfl rfl rfl rfl rfl rfl (fun _ => rfl) (fun v27 C27 hle27 hq27 => ?_)
        refine D.pure rfl rfl rfl rfl rfl rfl ?_
        refine D.done [(0, [], _), (1, [], _), (5, [], _)] ⟨rfl, rfl, rfl, trivial⟩ (hR _ _ _ rfl ?_); clear hR R
        refine G.again (m' := p2 / 2 + 1) (by omega) (by (repeat (first | exact Mem.le.refl _ | assumption | (apply Mem.le.trans; rotate_left; assumption)))) (fr' := [(0, [], _), (1, [], _), (5, [], _)]) ⟨rfl, rfl, rfl, trivial⟩ ⟨v27, p2 / 2, ⟨hq27.mono (by (repeat (first | exact Mem.le.refl _ | assumption | (apply Mem.le.trans; rotate_left; assumption)))), by omega, by omega, gcd_half hp2g hgo hpe⟩, rfl, rfl, rfl⟩
      · skip
        refine G.loop (fun fr C' L' μ => ∃ (wq : Value) (q2 : Nat), (NatC C' wq q2 ∧ 0 < q2 ∧ q2 ≤ q ∧ Nat.gcd p2 q2 = g) ∧ fr = [(0, [], wp), (1, [], wq), (5, [], .int .i64 t)] ∧ L' = [] ∧ μ = q2 + 1) (fr' := [(0, [], _), (1, [], _), (5, [], _)]) ⟨rfl, rfl, rfl, trivial⟩ ⟨_, q, ⟨hwb.mono (by (repeat (first | exact Mem.le.refl _ | assumption | (apply Mem.le.trans; rotate_left; assumption)))), hq0, Nat.le_refl _, hp2g⟩, rfl, rfl, rfl⟩ (fun fr C3' L3' m hle3 hI => ?_)
        obtain ⟨wq, q2, ⟨hwq, hq20, hq2q, hq2g⟩, rfl, rfl, rfl⟩ := hI
        refine G.region rfl (fun R hR => ?_)
        refine D.pure rfl rfl rfl rfl rfl rfl ?_
        refine D.gives2 (natOdd (hwq.mono (by (repeat (first | exact Mem.le.refl _ | assumption | (apply Mem.le.trans; rotate_left; assumption)))))) rfl rfl rfl rfl rfl rfl rfl (fun _ => rfl) ?_
        refine D.pure rfl rfl rfl rfl rfl rfl ?_
        refine D.done [(0, [], _), (1, [], _), (5, [], _), (30, [], _)] ⟨rfl, rfl, rfl, rfl, trivial⟩ (hR _ _ _ rfl ?_); clear hR R
        refine G.cond rfl (fun h30 => ?_) (fun h30 => ?_)
        · skip
          have hqe : q2 % 2 = 0 := by
            simp at h30; omega
          refine G.region rfl (fun R hR => ?_)
          refine D.pure rfl rfl rfl rfl rfl rfl ?_
          refine D.callP (natHalf (hwq.mono (by (repeat (first | exact Mem.le.refl _ | assumption | (apply Mem.le.trans; rotate_left; assumption))))) (hsq.mono hq2q) (by omega)) rfl rfl rfl rfl rfl rfl rfl (fun _ => rfl) (fun v32 C32 hle32 hq32 => ?_)
          refine D.pure rfl rfl rfl rfl rfl rfl ?_
          refine D.done [(0, [], _), (1, [], _), (5, [], _)] ⟨rfl, rfl, rfl, trivial⟩ (hR _ _ _ rfl ?_); clear hR R
          refine G.again (m' := q2 / 2 + 1) (by omega) (by (repeat (first | exact Mem.le.refl _ | assumption | (apply Mem.le.trans; rotate_left; assumption)))) (fr' := [(0, [], _), (1, [], _), (5, [], _)]) ⟨rfl, rfl, rfl, trivial⟩ ⟨v32, q2 / 2, ⟨hq32.mono (by (repeat (first | exact Mem.le.refl _ | assumption | (apply Mem.le.trans; rotate_left; assumption)))), by omega, by omega, by rw [Nat.gcd_comm]; exact gcd_half (by rw [Nat.gcd_comm]; exact hq2g) hgo hqe⟩, rfl, rfl, rfl⟩
        · skip
          refine G.region rfl (fun R hR => ?_)
          iterate 2 refine D.pure rfl rfl rfl rfl rfl rfl ?_
          refine D.callP (natCmp (hwp.mono (by (repeat (first | exact Mem.le.refl _ | assumption | (apply Mem.le.trans; rotate_left; assumption))))) (hwq.mono (by (repeat (first | exact Mem.le.refl _ | assumption | (apply Mem.le.trans; rotate_left; assumption)))))) rfl rfl rfl rfl rfl rfl rfl (fun _ => rfl) (fun v35 C35 hle35 hq35 => ?_)
          obtain ⟨z, rfl, hz⟩ := hq35
          refine D.pure rfl rfl rfl rfl rfl rfl ?_
          refine D.done [(0, [], _), (1, [], _), (5, [], _), (36, [], _)] ⟨rfl, rfl, rfl, rfl, trivial⟩ (hR _ _ _ rfl ?_); clear hR R
          refine G.cond rfl (fun h36 => ?_) (fun h36 => ?_)
          · skip
            have hlt : p2 < q2 := hz.1.1 (by simpa using h36)
            refine G.region rfl (fun R hR => ?_)
            iterate 4 refine D.pure rfl rfl rfl rfl rfl rfl ?_
            refine D.done [(0, [], _), (1, [], _), (5, [], _)] ⟨rfl, rfl, rfl, trivial⟩ (hR _ _ _ rfl ?_); clear hR R
            refine G.region rfl (fun R hR => ?_)
            iterate 2 refine D.pure rfl rfl rfl rfl rfl rfl ?_
            refine D.callP (natSub (hwq.mono (by (repeat (first | exact Mem.le.refl _ | assumption | (apply Mem.le.trans; rotate_left; assumption))))) (hwp.mono (by (repeat (first | exact Mem.le.refl _ | assumption | (apply Mem.le.trans; rotate_left; assumption))))) (hsq.mono hq2q) (Nat.le_of_lt hlt) (by omega)) rfl rfl rfl rfl rfl rfl rfl (fun _ => rfl) (fun v41 C41 hle41 hq41 => ?_)
            refine D.pure rfl rfl rfl rfl rfl rfl ?_
            refine D.done [(0, [], _), (1, [], _), (5, [], _)] ⟨rfl, rfl, rfl, trivial⟩ (hR _ _ _ rfl ?_); clear hR R
            refine G.again (m' := q2 - p2 + p2) (by omega) (by (repeat (first | exact Mem.le.refl _ | assumption | (apply Mem.le.trans; rotate_left; assumption)))) (fr' := [(0, [], _), (1, [], _), (5, [], _)]) ⟨rfl, rfl, rfl, trivial⟩ ⟨v41, wp, q2 - p2, p2, ⟨hq41.mono (by (repeat (first | exact Mem.le.refl _ | assumption | (apply Mem.le.trans; rotate_left; assumption)))), hwp.mono (by (repeat (first | exact Mem.le.refl _ | assumption | (apply Mem.le.trans; rotate_left; assumption)))), hp20, gcd_sub (by rw [Nat.gcd_comm]; exact hq2g) (Nat.le_of_lt hlt), hsq.mono (by omega), hsp.mono hp2p⟩, rfl, rfl, rfl⟩
          · skip
            have hlt : q2 ≤ p2 := by
              have h1 : ¬ z < 0 := by simpa using h36
              have := mt hz.1.2 h1
              omega
            refine G.region rfl (fun R hR => ?_)
            iterate 2 refine D.pure rfl rfl rfl rfl rfl rfl ?_
            refine D.callP (natSub (hwp.mono (by (repeat (first | exact Mem.le.refl _ | assumption | (apply Mem.le.trans; rotate_left; assumption))))) (hwq.mono (by (repeat (first | exact Mem.le.refl _ | assumption | (apply Mem.le.trans; rotate_left; assumption))))) (hsp.mono hp2p) hlt (by omega)) rfl rfl rfl rfl rfl rfl rfl (fun _ => rfl) (fun v41 C41 hle41 hq41 => ?_)
            refine D.pure rfl rfl rfl rfl rfl rfl ?_
            refine D.done [(0, [], _), (1, [], _), (5, [], _)] ⟨rfl, rfl, rfl, trivial⟩ (hR _ _ _ rfl ?_); clear hR R
            refine G.again (m' := p2 - q2 + q2) (by omega) (by (repeat (first | exact Mem.le.refl _ | assumption | (apply Mem.le.trans; rotate_left; assumption)))) (fr' := [(0, [], _), (1, [], _), (5, [], _)]) ⟨rfl, rfl, rfl, trivial⟩ ⟨v41, wq, p2 - q2, q2, ⟨hq41.mono (by (repeat (first | exact Mem.le.refl _ | assumption | (apply Mem.le.trans; rotate_left; assumption)))), hwq.mono (by (repeat (first | exact Mem.le.refl _ | assumption | (apply Mem.le.trans; rotate_left; assumption)))), hq20, gcd_sub hq2g hlt, hsp.mono (by omega), hsq.mono hq2q⟩, rfl, rfl, rfl⟩
    · skip
      have hp0 : p = 0 := by
        have : ¬ (0 : Int) < (z0 : Int) := by simpa using h22
        exact hz0.1 (by omega)
      have hqg : q = g := by rw [← hpq, hp0, Nat.gcd_zero_left]
      refine G.region rfl (fun R hR => ?_)
      iterate 2 refine D.pure rfl rfl rfl rfl rfl rfl ?_
      refine D.done [(1, [], _), (42, [], _), (43, [], _)] ⟨rfl, rfl, rfl, trivial⟩ (hR _ _ _ rfl ?_); clear hR R
      refine G.loop (fun fr C' L' μ => ∃ (i : Nat) (wr : Value), (i ≤ t ∧ NatC C' wr (2 ^ i * g)) ∧ fr = [(1, [], wr), (42, [], .int .i64 t), (43, [], .int .i64 i)] ∧ L' = [] ∧ μ = t - i) (fr' := [(1, [], _), (42, [], _), (43, [], _)]) ⟨rfl, rfl, rfl, trivial⟩ ⟨0, _, ⟨Nat.zero_le _, by rw [Nat.pow_zero, Nat.one_mul, ← hqg]; exact hwb.mono (by (repeat (first | exact Mem.le.refl _ | assumption | (apply Mem.le.trans; rotate_left; assumption))))⟩, rfl, rfl, rfl⟩ (fun fr C4' L4' m hle4 hI => ?_)
      obtain ⟨i, wr, ⟨hit, hwr⟩, rfl, rfl, rfl⟩ := hI
      refine G.region rfl (fun R hR => ?_)
      refine D.pure rfl rfl rfl rfl rfl rfl ?_
      refine D.done [(1, [], _), (42, [], _), (43, [], _), (44, [], _)] ⟨rfl, rfl, rfl, rfl, trivial⟩ (hR _ _ _ rfl ?_); clear hR R
      refine G.cond rfl (fun h44 => ?_) (fun h44 => ?_)
      · skip
        have hit2 : i < t := by simpa using h44
        have hsm : Sm k (2 ^ i * g) := by
          refine hm.mono (Nat.le_trans ?_ (Nat.gcd_le_left n hm0))
          rw [← hg]
          exact Nat.mul_le_mul_right _ (Nat.pow_le_pow_right (by decide) hit)
        refine G.region rfl (fun R hR => ?_)
        iterate 2 refine D.pure rfl rfl rfl rfl rfl rfl ?_
        refine D.callP (natAdd (hwr.mono (by (repeat (first | exact Mem.le.refl _ | assumption | (apply Mem.le.trans; rotate_left; assumption))))) (hwr.mono (by (repeat (first | exact Mem.le.refl _ | assumption | (apply Mem.le.trans; rotate_left; assumption))))) hsm hsm (by omega)) rfl rfl rfl rfl rfl rfl rfl (fun _ => rfl) (fun v47 C47 hle47 hq47 => ?_)
        refine D.pure rfl rfl rfl rfl rfl rfl ?_
        refine D.done [(1, [], _), (42, [], _), (43, [], _)] ⟨rfl, rfl, rfl, trivial⟩ (hR _ _ _ rfl ?_); clear hR R
        refine G.region rfl (fun R hR => ?_)
        refine D.i64 _ rfl rfl rfl rfl rfl (by omega) (by omega) rfl rfl ?_
        refine D.pure rfl rfl rfl rfl rfl rfl ?_
        refine D.done [(1, [], _), (42, [], _), (43, [], _)] ⟨rfl, rfl, rfl, trivial⟩ (hR _ _ _ rfl ?_); clear hR R
        refine G.again (m' := t - (i + 1)) (by omega) (by (repeat (first | exact Mem.le.refl _ | assumption | (apply Mem.le.trans; rotate_left; assumption)))) (fr' := [(1, [], _), (42, [], _), (43, [], _)]) ⟨rfl, rfl, rfl, trivial⟩ ⟨i + 1, v47, ⟨by omega, by rw [Nat.pow_succ, show 2 ^ i * 2 * g = 2 ^ i * g + 2 ^ i * g by rw [Nat.mul_assoc, Nat.mul_left_comm]; omega]; exact hq47.mono (by (repeat (first | exact Mem.le.refl _ | assumption | (apply Mem.le.trans; rotate_left; assumption))))⟩, rfl, rfl, rfl⟩
      · skip
        have hit2 : i = t := by
          have : ¬ i < t := by simpa using h44
          omega
        refine G.region rfl (fun R hR => ?_)
        iterate 2 refine D.pure rfl rfl rfl rfl rfl rfl ?_
        refine D.done [(4, [], _)] ⟨rfl, trivial⟩ (hR _ _ _ rfl ?_); clear hR R
        refine G.retN (G.dropAll (G.fin1 rfl rfl ?_))
        rw [← hg, ← hit2]
        exact ⟨rfl, hwr.mono (by (repeat (first | exact Mem.le.refl _ | assumption | (apply Mem.le.trans; rotate_left; assumption))))⟩
end Go.Proofs.YtfelabnohopfdaaGreatDoor
namespace Go.Proofs.YtfelabnohopfdaaGreatDoor
open Go Go.Jog
set_option maxRecDepth 100000

theorem natOne {C : Mem} {v : Value} (h : Sl C 1 v [[.int .u32 1]]) : NatC C v 1 := ⟨[1], ⟨fun x hx => by rw [List.mem_singleton.1 hx]; decide, by decide⟩, rfl, h⟩
theorem natNil (C : Mem) : NatC C (.slice none 0 0) 0 := ⟨[], ⟨(fun x hx => (by cases hx)), by decide⟩, rfl, Sl.nil C 1⟩
theorem valD_top {a : List Nat} (ha : DigD a) : valD a / 2 ^ (32 * a.length) = 0 := by
  refine Nat.div_eq_of_lt ?_
  have h := valD_lt ha
  have e : B32 ^ a.length = 2 ^ (32 * a.length) := by rw [Nat.pow_mul]
  omega
set_option maxHeartbeats 2000000 in
theorem nover_fn {C : Mem} {ua v : Value} {a : List Nat} {b k : Nat} (hs : Sl C 1 ua (a.map encW)) (hca : CanD a) (hv : NatC C v b) (hk : k ≤ 1000000) (hl : a.length ≤ k) (hb : Sm k b) (hb0 : 0 < b) : Pur cx.P 101 [ua, v] C fun w D => NatC D w (valD a / b) := by
  obtain ⟨A0, c0, rfl, _⟩ := id hs
  simp only [List.length_map] at hs ⊢
  have hB : B32 = 4294967296 := rfl
  have hda := hca.1
  refine Fn.intro (by kernel_rfl) Tryz.func101 rfl 54 rfl rfl (fun w0 => ?_)
  refine G.region rfl (fun R hR => ?_)
  refine D.pure rfl rfl rfl rfl rfl rfl ?_
  refine D.done [(0, [], _), (1, [], _)] ⟨rfl, rfl, trivial⟩ (hR _ _ _ rfl ?_); clear hR R
  refine G.region rfl (fun R hR => ?_)
  iterate 2 refine D.pure rfl rfl rfl rfl rfl rfl ?_
  refine D.makeArr rfl rfl rfl rfl rfl rfl rfl rfl rfl (Nat.le_refl _) (by show 4 * a.length ≤ 281474976710656; omega) (by simp only [maxLen]; omega) (fun _ => rfl) (fun b10 => ?_)
  refine D.pure rfl rfl rfl rfl rfl rfl ?_
  refine D.done [(0, [], _), (1, [], _), (5, [], _)] ⟨rfl, rfl, rfl, trivial⟩ (hR _ _ _ rfl ?_); clear hR R
  refine G.region rfl (fun R hR => ?_)
  refine D.pure rfl rfl rfl rfl rfl rfl ?_
  refine D.done [(0, [], _), (1, [], _), (5, [], _), (6, [], _)] ⟨rfl, rfl, rfl, rfl, trivial⟩ (hR _ _ _ rfl ?_); clear hR R
  refine G.region rfl (fun R hR => ?_)
  iterate 2 refine D.pure rfl rfl rfl rfl rfl rfl ?_
  refine D.i64 (((32 * a.length : Nat) : Int)) rfl rfl rfl rfl (by omega) (by omega) (by omega) rfl rfl ?_
  refine D.i64 _ rfl rfl rfl rfl rfl (by omega) (by omega) rfl rfl ?_
  refine D.pure rfl rfl rfl rfl rfl rfl ?_
  refine D.done [(0, [], _), (1, [], _), (5, [], _), (6, [], _), (7, [], _)] ⟨rfl, rfl, rfl, rfl, rfl, trivial⟩ (hR _ _ _ rfl ?_); clear hR R
  refine G.eqL (L' := [.arr (qW b10 a.length a.length) 112 1 a.length ((List.replicate a.length 0).map encW).flatten]) (by rw [← zrow_W]; rfl) ?_
  refine G.loop (fun fr C' L' μ => ∃ (p : Nat) (wr : Value) (o : List Nat), (p ≤ 32 * a.length ∧ o.length = a.length ∧ DigD o ∧ NatC C' wr (valD a / 2 ^ p % b) ∧ valD o = 2 ^ p * (valD a / 2 ^ p / b)) ∧ fr = [(0, [], .slice A0 a.length c0), (1, [], v), (5, [], qW b10 a.length a.length), (6, [], wr), (7, [], .int .i64 ((p : Int) - 1))] ∧ L' = [.arr (qW b10 a.length a.length) 112 1 a.length (o.map encW).flatten] ∧ μ = p + 1) (fr' := [(0, [], _), (1, [], _), (5, [], _), (6, [], _), (7, [], _)]) ⟨rfl, rfl, rfl, rfl, rfl, trivial⟩ ⟨32 * a.length, _, List.replicate a.length 0, ⟨Nat.le_refl _, List.length_replicate, (fun x hx => by rw [List.eq_of_mem_replicate hx]; decide), by rw [valD_top hda, Nat.zero_mod]; exact natNil _, by rw [valD_top hda, Nat.zero_div, Nat.mul_zero]; exact valD_zeros (fun x hx => List.eq_of_mem_replicate hx)⟩, rfl, rfl, rfl⟩ (fun fr C0' L0' m hle0 hI => ?_)
  obtain ⟨p, wr, o, ⟨hp, hol, hod, hwr, hov⟩, rfl, rfl, rfl⟩ := hI
  refine G.region rfl (fun R hR => ?_)
  iterate 2 refine D.pure rfl rfl rfl rfl rfl rfl ?_
  refine D.done [(0, [], _), (1, [], _), (5, [], _), (6, [], _), (7, [], _), (16, [], _)] ⟨rfl, rfl, rfl, rfl, rfl, rfl, trivial⟩ (hR _ _ _ rfl ?_); clear hR R
  refine G.cond rfl (fun h16 => ?_) (fun h16 => ?_)
  · skip
    have hp0 : 0 < p := by
      have : (0 : Int) ≤ (p : Int) - 1 := by simpa using h16
      omega
    obtain ⟨j, rfl⟩ : ∃ j, p = j + 1 := ⟨p - 1, by omega⟩
    rw [show ((j + 1 : Nat) : Int) - 1 = (j : Int) by omega]
    have hjl : j / 32 < a.length := by omega
    have hra : (a.map encW)[((j / 32 : Nat) : Int).toNat]? = some (encW (gD a (j / 32))) := by rw [show ((j / 32 : Nat) : Int).toNat = j / 32 from rfl, List.getElem?_map, gD_get hjl]; rfl
    have hx := gD_lt hda (j / 32)
    have hbit := bitD (p := j) hda
    have hr1 : valD a / 2 ^ (j + 1) % b < b := Nat.mod_lt _ hb0
    have hr2 : Sm k (valD a / 2 ^ (j + 1) % b) := hb.mono (Nat.le_of_lt hr1)
    have hbits := over_bit (A := valD a) (p := j) hb0 hov rfl
    refine G.region rfl (fun R hR => ?_)
    iterate 2 refine D.pure rfl rfl rfl rfl rfl rfl ?_
    refine D.callP (natAdd (hwr.mono (by (repeat (first | exact Mem.le.refl _ | assumption | (apply Mem.le.trans; rotate_left; assumption))))) (hwr.mono (by (repeat (first | exact Mem.le.refl _ | assumption | (apply Mem.le.trans; rotate_left; assumption))))) hr2 hr2 (by omega)) rfl rfl rfl rfl rfl rfl rfl (fun _ => rfl) (fun v21 C21 hle21 hq21 => ?_)
    refine D.pure rfl rfl rfl rfl rfl rfl ?_
    refine D.done [(0, [], _), (1, [], _), (5, [], _), (6, [], _), (7, [], _)] ⟨rfl, rfl, rfl, rfl, rfl, trivial⟩ (hR _ _ _ rfl ?_); clear hR R
    refine G.region rfl (fun R hR => ?_)
    iterate 2 refine D.pure rfl rfl rfl rfl rfl rfl ?_
    refine D.quoT ((j / 32 : Nat) : Int) rfl rfl rfl rfl rfl rfl (by omega) rfl (by rw [IntKind.wrap_i64]; omega) rfl rfl ?_
    refine D.index0 (hs.mono (by (repeat (first | exact Mem.le.refl _ | assumption | (apply Mem.le.trans; rotate_left; assumption))))) rfl rfl rfl rfl rfl rfl rfl rfl rfl rfl (by omega) hra (fun _ => rfl) (fun p25 hp25 => ?_)
    refine D.loadP0 hp25 rfl rfl rfl rfl rfl rfl rfl rfl ?_
    refine D.pure rfl rfl rfl rfl rfl rfl ?_
    refine D.rem rfl rfl rfl rfl rfl rfl (by omega) (by omega) rfl rfl ?_
    refine D.shrW ((gD a (j / 32))) ((j % 32)) rfl rfl rfl rfl rfl rfl rfl rfl (by omega) rfl rfl ?_
    refine D.andW ((gD a (j / 32) / 2 ^ (j % 32))) (1) rfl rfl rfl rfl rfl rfl rfl rfl (Nat.lt_of_le_of_lt (Nat.div_le_self _ _) hx) (by omega) rfl rfl ?_
    refine D.pure rfl rfl rfl rfl rfl rfl ?_
    refine D.done [(0, [], _), (1, [], _), (5, [], _), (6, [], _), (7, [], _), (31, [], _)] ⟨rfl, rfl, rfl, rfl, rfl, rfl, trivial⟩ (hR _ _ _ rfl ?_); clear hR R
    refine G.cut (fun fr C' L' μ => ∃ (wq : Value), (NatC C' wq (2 * (valD a / 2 ^ (j + 1) % b) + valD a / 2 ^ j % 2)) ∧ fr = [(0, [], .slice A0 a.length c0), (1, [], v), (5, [], qW b10 a.length a.length), (6, [], wq), (7, [], .int .i64 (j : Int))] ∧ L' = [.arr (qW b10 a.length a.length) 112 1 a.length (o.map encW).flatten]) ?_ (fun fr C31 L31 μ hle31 hI => ?_)
    · skip
      refine G.cond rfl (fun h31 => ?_) (fun h31 => ?_)
      · skip
        have hb1 : valD a / 2 ^ j % 2 = 1 := by
          rw [Nat.and_one_is_mod, hbit] at h31
          have := of_decide_eq_true h31
          omega
        refine G.region rfl (fun R hR => ?_)
        refine D.pure rfl rfl rfl rfl rfl rfl ?_
        refine D.buildSlice [[.int .u32 1]] rfl rfl rfl rfl rfl rfl rfl rfl rfl rfl rfl rfl (fun _ => rfl) (fun p33 C33 hle33 hs33 => ?_)
        refine D.callP (natAdd (hq21.mono (by (repeat (first | exact Mem.le.refl _ | assumption | (apply Mem.le.trans; rotate_left; assumption))))) (natOne (hs33.mono (by (repeat (first | exact Mem.le.refl _ | assumption | (apply Mem.le.trans; rotate_left; assumption)))))) (hr2.add hr2) (Sm.le (k := 1) (Sm.one (by decide)) (by omega)) (by omega)) rfl rfl rfl rfl rfl rfl rfl (fun _ => rfl) (fun v34 C34 hle34 hq34 => ?_)
        refine D.pure rfl rfl rfl rfl rfl rfl ?_
        refine D.done [(0, [], _), (1, [], _), (5, [], _), (6, [], _), (7, [], _)] ⟨rfl, rfl, rfl, rfl, rfl, trivial⟩ (hR _ _ _ rfl ?_); clear hR R
        refine G.meet 0 (by (repeat (first | exact Mem.le.refl _ | assumption | (apply Mem.le.trans; rotate_left; assumption)))) (fr' := [(0, [], _), (1, [], _), (5, [], _), (6, [], _), (7, [], _)]) ⟨rfl, rfl, rfl, rfl, rfl, trivial⟩ ⟨v34, by rw [hb1, show 2 * (valD a / 2 ^ (j + 1) % b) = valD a / 2 ^ (j + 1) % b + valD a / 2 ^ (j + 1) % b by omega]; exact hq34.mono (by (repeat (first | exact Mem.le.refl _ | assumption | (apply Mem.le.trans; rotate_left; assumption)))), rfl, rfl⟩
      · skip
        have hb1 : valD a / 2 ^ j % 2 = 0 := by
          rw [Nat.and_one_is_mod, hbit] at h31
          have := of_decide_eq_false h31
          omega
        refine G.meet 0 (by (repeat (first | exact Mem.le.refl _ | assumption | (apply Mem.le.trans; rotate_left; assumption)))) (fr' := [(0, [], _), (1, [], _), (5, [], _), (6, [], _), (7, [], _)]) ⟨rfl, rfl, rfl, rfl, rfl, trivial⟩ ⟨v21, by rw [hb1, show 2 * (valD a / 2 ^ (j + 1) % b) = valD a / 2 ^ (j + 1) % b + valD a / 2 ^ (j + 1) % b by omega]; exact hq21.mono (by (repeat (first | exact Mem.le.refl _ | assumption | (apply Mem.le.trans; rotate_left; assumption)))), rfl, rfl⟩
    · skip
      obtain ⟨wq, hwq, rfl, rfl⟩ := hI
      have hr3 : Sm (k + 1) (2 * (valD a / 2 ^ (j + 1) % b) + valD a / 2 ^ j % 2) := (hb.add hb).mono (by omega)
      refine G.region rfl (fun R hR => ?_)
      iterate 2 refine D.pure rfl rfl rfl rfl rfl rfl ?_
      refine D.callP (natCmp (hwq.mono (by (repeat (first | exact Mem.le.refl _ | assumption | (apply Mem.le.trans; rotate_left; assumption))))) (hv.mono (by (repeat (first | exact Mem.le.refl _ | assumption | (apply Mem.le.trans; rotate_left; assumption)))))) rfl rfl rfl rfl rfl rfl rfl (fun _ => rfl) (fun v37 C37 hle37 hq37 => ?_)
      obtain ⟨z, rfl, hz⟩ := hq37
      refine D.pure rfl rfl rfl rfl rfl rfl ?_
      refine D.done [(0, [], _), (1, [], _), (5, [], _), (6, [], _), (7, [], _), (38, [], _)] ⟨rfl, rfl, rfl, rfl, rfl, rfl, trivial⟩ (hR _ _ _ rfl ?_); clear hR R
      refine G.cond rfl (fun h38 => ?_) (fun h38 => ?_)
      · skip
        have hge : b ≤ 2 * (valD a / 2 ^ (j + 1) % b) + valD a / 2 ^ j % 2 := by
          have h0 : (0 : Int) ≤ z := by simpa using h38
          have := mt hz.1.2 (by omega)
          omega
        refine G.region rfl (fun R hR => ?_)
        iterate 2 refine D.pure rfl rfl rfl rfl rfl rfl ?_
        refine D.callP (natSub (hwq.mono (by (repeat (first | exact Mem.le.refl _ | assumption | (apply Mem.le.trans; rotate_left; assumption))))) (hv.mono (by (repeat (first | exact Mem.le.refl _ | assumption | (apply Mem.le.trans; rotate_left; assumption))))) hr3 hge (by omega)) rfl rfl rfl rfl rfl rfl rfl (fun _ => rfl) (fun v41 C41 hle41 hq41 => ?_)
        refine D.pure rfl rfl rfl rfl rfl rfl ?_
        refine D.done [(0, [], _), (1, [], _), (5, [], _), (6, [], _), (7, [], _)] ⟨rfl, rfl, rfl, rfl, rfl, trivial⟩ (hR _ _ _ rfl ?_); clear hR R
        have ho := gD_lt hod (j / 32)
        have hget : o[j / 32]? = some (gD o (j / 32)) := gD_get (by omega)
        have hfree : gD o (j / 32) % 2 ^ (j % 32 + 1) = 0 := part_free hod ⟨_, hov⟩
        have h2r : 2 ^ (j % 32) < 4294967296 := Nat.lt_of_lt_of_le (Nat.pow_lt_pow_right (by decide) (Nat.mod_lt j (by decide : 0 < 32))) (by decide)
        refine G.draw [0, 1, 2, 3, 4, 5, 6, 7, 8, 9, 10] [] rfl (by kernel_rfl) (fun R hB hR => ?_)
        iterate 2 refine D.pure rfl rfl rfl rfl rfl rfl ?_
        refine D.quoT ((j / 32 : Nat) : Int) rfl rfl rfl rfl rfl rfl (by omega) rfl (by rw [IntKind.wrap_i64]; omega) rfl rfl ?_
        refine D.indexS ((j / 32) * 1) rfl rfl rfl rfl rfl rfl rfl rfl rfl rfl (fun _ => ⟨by omega, by omega, rfl⟩) rfl rfl ?_
        refine D.loadArr (.head _) rfl rfl rfl rfl rfl rfl (fun _ => (by rw [row_read encW_len hget]; rfl)) rfl rfl ?_
        refine D.pure rfl rfl rfl rfl rfl rfl ?_
        refine D.rem rfl rfl rfl rfl rfl rfl (by omega) (by omega) rfl rfl ?_
        refine D.shlW (1) ((j % 32)) rfl rfl rfl rfl rfl rfl rfl rfl (by omega) rfl rfl ?_
        refine D.orW ((gD o (j / 32))) ((1 * 2 ^ (j % 32) % 4294967296)) rfl rfl rfl rfl rfl rfl rfl rfl (by omega) (by omega) rfl rfl ?_
        refine D.indexS ((j / 32) * 1) rfl rfl rfl rfl rfl rfl rfl rfl rfl rfl (fun _ => ⟨by omega, by omega, rfl⟩) rfl rfl ?_
        refine D.storeArr (j := 0) rfl rfl rfl rfl rfl rfl rfl rfl rfl rfl rfl (by show (j / 32) * 1 + 1 ≤ _; rw [rows_len encW_len, hol]; omega) ?_
        refine D.done [(0, [], _), (1, [], _), (5, [], _), (6, [], _), (7, [], _)] ⟨rfl, rfl, rfl, rfl, rfl, trivial⟩ (hR _ _ _ rfl ?_); clear hR hB R
        refine G.region rfl (fun R hR => ?_)
        refine D.pure rfl rfl rfl rfl rfl rfl ?_
        refine D.i64 _ rfl rfl rfl rfl rfl (by omega) (by omega) rfl rfl ?_
        refine D.pure rfl rfl rfl rfl rfl rfl ?_
        refine D.done [(0, [], _), (1, [], _), (5, [], _), (6, [], _), (7, [], _)] ⟨rfl, rfl, rfl, rfl, rfl, trivial⟩ (hR _ _ _ rfl ?_); clear hR R
        rw [Nat.one_mul, Nat.mod_eq_of_lt h2r, or_bit hfree]
        refine G.eqL (L' := [.arr (qW b10 a.length a.length) 112 1 a.length ((o.set (j / 32) (gD o (j / 32) + 2 ^ (j % 32))).map encW).flatten]) (by rw [← row_write encW_len _ (by omega : j / 32 < o.length)]; rfl) ?_
        refine G.again (m' := j + 1) (by omega) (by (repeat (first | exact Mem.le.refl _ | assumption | (apply Mem.le.trans; rotate_left; assumption)))) (fr' := [(0, [], _), (1, [], _), (5, [], _), (6, [], _), (7, [], _)]) ⟨rfl, rfl, rfl, rfl, rfl, trivial⟩ ⟨j, v41, o.set (j / 32) (gD o (j / 32) + 2 ^ (j % 32)), ⟨by omega, by simp [hol], hod.set (by rw [← or_bit hfree]; exact Nat.or_lt_two_pow (n := 32) ho h2r), by rw [← (hbits.1 hge).2]; exact hq41.mono (by (repeat (first | exact Mem.le.refl _ | assumption | (apply Mem.le.trans; rotate_left; assumption)))), by
          have h1 := valD_set (z := gD o (j / 32) + 2 ^ (j % 32)) hget
          rw [Nat.mul_add, pow_B32] at h1
          rw [← (hbits.1 hge).1]
          omega⟩, rfl, rfl, rfl⟩
      · skip
        have hge : ¬ b ≤ 2 * (valD a / 2 ^ (j + 1) % b) + valD a / 2 ^ j % 2 := by
          have h0 : ¬ (0 : Int) ≤ z := by simpa using h38
          have := hz.1.1 (by omega)
          omega
        refine G.region rfl (fun R hR => ?_)
        refine D.pure rfl rfl rfl rfl rfl rfl ?_
        refine D.i64 _ rfl rfl rfl rfl rfl (by omega) (by omega) rfl rfl ?_
        refine D.pure rfl rfl rfl rfl rfl rfl ?_
        refine D.done [(0, [], _), (1, [], _), (5, [], _), (6, [], _), (7, [], _)] ⟨rfl, rfl, rfl, rfl, rfl, trivial⟩ (hR _ _ _ rfl ?_); clear hR R
        refine G.again (m' := j + 1) (by omega) (by (repeat (first | exact Mem.le.refl _ | assumption | (apply Mem.le.trans; rotate_left; assumption)))) (fr' := [(0, [], _), (1, [], _), (5, [], _), (6, [], _), (7, [], _)]) ⟨rfl, rfl, rfl, rfl, rfl, trivial⟩ ⟨j, wq, o, ⟨by omega, hol, hod, by rw [← (hbits.2 hge).2]; exact hwq.mono (by (repeat (first | exact Mem.le.refl _ | assumption | (apply Mem.le.trans; rotate_left; assumption)))), (hbits.2 hge).1⟩, rfl, rfl, rfl⟩
  · skip
    have hp0 : p = 0 := by
      have : ¬ (0 : Int) ≤ (p : Int) - 1 := by simpa using h16
      omega
    refine G.regionO [(1, 3)] rfl (fun R hR => ?_)
    refine D.pure rfl rfl rfl rfl rfl rfl ?_
    refine D.call (trimO_fn _ _ o hol) rfl (.inr (by decide)) rfl rfl rfl rfl rfl rfl (List.Perm.refl _) (fun _ => rfl) (fun v53 C53 L53 hle53 hq53 => ?_)
    obtain ⟨rfl, hu⟩ := hq53
    refine D.pure rfl rfl rfl rfl rfl rfl ?_
    refine D.done [(4, [], _)] ⟨rfl, trivial⟩ (hR _ _ _ rfl ?_); clear hR R
    refine G.retN (G.dropAll (G.fin1 rfl rfl ?_))
    refine ⟨rfl, trimD o, trimD_can hod, ?_, hu⟩
    rw [trimD_val, hov, hp0, Nat.pow_zero, Nat.one_mul, Nat.div_one]
end Go.Proofs.YtfelabnohopfdaaGreatDoor
namespace Go.Jog
open Go
structure RankS (A : List Arc3) (n : Nat) (S : Arc3 → Prop) (e : List Nat) : Prop where
  len : e.length = n
  sound : ∀ v, v < n → ∃ u, Walk A (hAt e v) u v
  up : ∀ a ∈ A, S a → hAt e a.lo + 1 ≤ hAt e a.up
theorem RankS.start {A : List Arc3} {n : Nat} : RankS A n (fun _ => False) (List.replicate n 0) := by
  refine ⟨by simp, fun v hv => ⟨v, ?_⟩, fun a _ h => h.elim⟩
  have : hAt (List.replicate n 0) v = 0 := by simp [hAt, List.getD_eq_getElem?_getD, hv]
  rw [this]; exact Walk.zero.2 rfl
theorem RankS.mono {A : List Arc3} {n : Nat} {S T : Arc3 → Prop} {e : List Nat} (h : RankS A n S e) (hs : ∀ a ∈ A, T a → S a) : RankS A n T e :=
  ⟨h.len, h.sound, fun a ha ht => h.up a ha (hs a ha ht)⟩
theorem RankS.step {A : List Arc3} {n : Nat} {S : Arc3 → Prop} {e : List Nat} {a : Arc3} (h : RankS A n S e) (ha : a ∈ A) (hlo : a.lo < n) (hup : a.up < n) (hne : a.up ≠ a.lo) (hnp : ∀ b ∈ A, S b → b.lo ≠ a.up) :
    RankS A n (fun b => S b ∨ b = a) (e.set a.up (max (hAt e a.up) (hAt e a.lo + 1))) := by
  have hl := h.len
  have hs : ∀ v, hAt (e.set a.up (max (hAt e a.up) (hAt e a.lo + 1))) v = if v = a.up then max (hAt e a.up) (hAt e a.lo + 1) else hAt e v := fun v => hAt_setB (by omega)
  have hge : ∀ v, hAt e v ≤ hAt (e.set a.up (max (hAt e a.up) (hAt e a.lo + 1))) v := fun v => by
    rw [hs]; split
    · rename_i e1; subst e1; exact Nat.le_max_left _ _
    · exact Nat.le_refl _
  refine ⟨by simp [hl], fun v hv => ?_, fun b hb hbp => ?_⟩
  · rw [hs]
    by_cases e1 : v = a.up
    · subst e1
      rw [if_pos rfl]
      rcases Nat.le_total (hAt e a.up) (hAt e a.lo + 1) with h1 | h1
      · rw [Nat.max_eq_right h1]
        obtain ⟨u, hu⟩ := h.sound a.lo hlo
        exact ⟨u, Walk.snoc.2 ⟨a, ha, rfl, hu⟩⟩
      · rw [Nat.max_eq_left h1]; exact h.sound _ hv
    · rw [if_neg e1]; exact h.sound v hv
  · rcases hbp with hbp | rfl
    · have h1 := h.up b hb hbp
      rw [hs b.lo, if_neg (hnp b hb hbp)]
      exact Nat.le_trans h1 (hge _)
    · rw [hs b.lo, if_neg (Ne.symm hne), hs b.up, if_pos rfl]
      exact Nat.le_max_right _ _
theorem RankS.done {A : List Arc3} {n : Nat} {S : Arc3 → Prop} {e : List Nat} (h : RankS A n S e) (hb : Below n A) (hall : ∀ a ∈ A, S a) {v : Nat} (hv : v < n) : LongTo A v (hAt e v) := by
  refine ⟨h.sound v hv, ?_⟩
  intro k
  induction k generalizing v with
  | zero => intro u _; omega
  | succ k ih =>
    intro u hw
    obtain ⟨a, ha, hu, hw2⟩ := Walk.snoc.1 hw
    subst hu
    have h1 := h.up a ha (hall a ha)
    have h2 := ih (hb a ha).1 _ hw2
    omega

/-- The greatest of some numbers. -/
def IsMost (e : List Nat) (xs : List Nat) (m : Nat) : Prop := (∀ x ∈ xs, hAt e x ≤ m) ∧ (m = 0 ∨ ∃ x ∈ xs, hAt e x = m)
theorem IsMost.snoc {e xs : List Nat} {m i : Nat} (h : IsMost e xs m) : IsMost e (xs ++ [i]) (max m (hAt e i)) := by
  refine ⟨fun x hx => ?_, ?_⟩
  · rcases List.mem_append.1 hx with h1 | h1
    · exact Nat.le_trans (h.1 x h1) (Nat.le_max_left _ _)
    · rw [List.mem_singleton.1 h1]; exact Nat.le_max_right _ _
  · rcases Nat.le_total m (hAt e i) with h1 | h1
    · rw [Nat.max_eq_right h1]; exact .inr ⟨i, by simp, rfl⟩
    · rw [Nat.max_eq_left h1]
      rcases h.2 with h2 | ⟨x, hx, h2⟩
      · exact .inl h2
      · exact .inr ⟨x, by simp [hx], h2⟩
end Go.Jog
namespace Go.Jog
open Go
theorem Fn.frozen {P : Program} {f : FuncId} {args : List Value} {C : Mem} {L : List Ent} {v : Value} {t size len : Nat} {xs : List Value} {post : Value → Mem → List Ent → Prop} (rows : List (List Value)) (hen : Enters P f = true) (hx : xs = rows.flatten) (hl : ∀ r ∈ rows, r.length = size) (hn : rows.length = len)
    (h : ∀ C', C.le C' → Sl C' size v rows → Fn P f args C' L post) : Fn P f args C (.arr v t size len xs :: L) post := by
  subst hx
  refine ⟨hen, fun w hw => ?_⟩
  obtain ⟨C', h1, h2, h3⟩ := St.freezeArr (St.start hw) hl hn
  refine ((h C' h1 h2).2 w h3.sep).mono fun e w' ⟨v, C'', L'', e1, h4, h5⟩ => ⟨v, C'', L'', e1, ?_, h5⟩
  have := St.call (Lr := []) (by rw [List.append_nil]; exact h3) h4
  rwa [List.append_nil] at this

/-- Each guard's own operation bears the guards behind it. -/
def chG (ds : List (Option Nat)) (fr : Fr) : GL → Bool
  | [] => true
  | (j, _) :: r => (match ((ds[j]?).bind id).bind fr.get with
    | some (g', .bool _) => g' == r
    | _ => false) && chG ds fr r
theorem GH_of_GT {n : Nat} {ds : List (Option Nat)} {fr : Fr} {a : Act} {dd : List Deferred} (h : FrOk n ds dd fr a) : ∀ {g : GL}, chG ds fr g = true → GT ds fr g → GH ds a.tmps g
  | [], _, _ => fun p hp => by cases hp
  | (j, w) :: r, hc, hg => by
    simp only [chG, Bool.and_eq_true] at hc
    have ih := GH_of_GT h hc.2 hg.2
    have h1 := hg.1
    have h2 := hc.1
    cases hd : (ds[j]?).bind id with
    | none => rw [hd] at h2; simp at h2
    | some d =>
      rw [hd] at h1 h2
      simp only [Option.bind_some] at h1 h2
      split at h2
      · rename_i g' b hb
        rw [hb] at h1
        simp only at h1
        simp only [beq_iff_eq] at h2
        subst h2
        subst h1
        intro p hp
        rcases List.mem_cons.1 hp with rfl | hp
        · unfold yld
          rw [hd]
          have := (h.ent d g' (.bool b) hb).1 ih
          simp [this]
        · exact ih p hp
      · cases h2
section
variable {cx : Cx} {n : Nat} {ds : List (Option Nat)} {R : Rg n ds} {its : List It} {fr : Fr} {C : Mem} {L : List Ent} {i k d : Nat} {o : Oper} {g : GL}
/-- A guarded call that makes memory. -/
theorem D.callPG {β : Type} [Inhabited β] (f0 : β → Value) {post : β → Mem → Prop} {f : Operand} {args : Array Operand} {ts : Array TypeId} {fid : FuncId} {fi ca : Array Value} {vs args' : List Value}
    (c : GT ds fr g → Pur cx.P fid args' C fun v C' => ∃ b, v = f0 b ∧ post b C') (hk : Nat.ble k 1 = false) (hd : o.dst = some d) (hg : gOf ds fr o.guard = some g) (hop : o.op = .call ⟨.value f, args, ts⟩) (hf : ev fr g f = some (.func (.func fid) fi ca))
    (hargs : listO (ev fr g) args.toList = some vs) (he : fi.toList ++ vs ++ ca.toList = args') (hp : ∀ b, okPut n ds ((d, g, f0 b) :: fr) d = true) (hwf : wfG ds fr g = true) (hch : chG ds fr g = true)
    (h : ∀ b C', C.le C' → (GT ds fr g → post b C') → D cx R its ((d, g, f0 b) :: fr) C' L) : D cx R ((i, k, o) :: its) fr C L := by
  intro hC0 hits a ha
  obtain ⟨hkd, ho⟩ := hits (i, k, o) (by simp)
  simp only at hkd ho
  have hk1 : ¬ k ≤ 1 := fun hle => by rw [← Nat.ble_eq] at hle; rw [hle] at hk; cases hk
  simp only [List.map_cons, DU]
  unfold stepU
  simp only [ho, hkd, hk1, if_false]
  intro w hw
  unfold wpOp
  simp only [ho]
  have hwt := wanted_iff R.hy ha hg
  by_cases hG : GH ds a.tmps g
  · have hGT := GT_of ha hG (wfG_spec hwf)
    have hon : Region.wanted o (yielded R.ops a.tmps) = true := hwt.2 hG
    simp only [hon, if_true]
    refine .inl ?_
    unfold Oper.wp
    rw [run_call hop (ev_spec ha hG hf) (listO_spec (fun x y => ev_spec ha hG) hargs) he (c hGT).1 w]
    simp only [Oper.upon]
    refine ((c hGT).callAt (Lp := []) (Lr := L) hw).mono fun e w' ⟨v, C', L', e1, h1, h2, h3, b, h4, h5⟩ => ?_
    subst h3; subst h4; subst e1
    refine ⟨(C', L), fun _ => ⟨h1, fun _ hx => hx⟩, h2, ?_⟩
    rw [hd]
    exact h b C' h1 (fun _ => h5) (hC0.trans h1) (fun x hx => hits x (by simp [hx])) _ (ha.put (hp b) ⟨fun _ => rfl, fun hn => absurd hG hn⟩)
  · have hoff : Region.wanted o (yielded R.ops a.tmps) = false := by
      cases hx : Region.wanted o (yielded R.ops a.tmps) with
      | false => rfl
      | true => exact absurd (hwt.1 hx) hG
    simp only [hoff, Bool.false_eq_true, if_false]
    refine ⟨(C, L), fun _ => kle.refl _, hw, ?_⟩
    rw [hd]
    exact h default C (Mem.le.refl _) (fun hGT => absurd (GH_of_GT ha hch hGT) hG) hC0 (fun x hx => hits x (by simp [hx])) _ (ha.put (hp default) ⟨fun hn => absurd hn hG, fun _ => rfl⟩)
end
end Go.Jog
namespace Go.Jog
open Go
section
variable {cx : Cx} {n : Nat} {ds : List (Option Nat)} {R : Rg n ds} {its : List It} {fr : Fr} {C : Mem} {L : List Ent} {i k d : Nat} {o : Oper} {g : GL}
theorem D.newConstG {f : Nat → Value} {ob : Obj} (hk : Nat.ble k 1 = false) (hd : o.dst = some d) (hg : gOf ds fr o.guard = some g) (hp : ∀ b, okPut n ds ((d, g, f b) :: fr) d = true) (hwf : wfG ds fr g = true) (hch : chG ds fr g = true)
    (hrun : GT ds fr g → ∀ a, Sees (ev fr g) a → ∀ w, (execOp a.eval o).run cx.P w = .ok (.value (f w.heap.size)) (w.alloc ob))
    (h : ∀ b C', C.le C' → (GT ds fr g → C' b = some ob) → D cx R its ((d, g, f b) :: fr) C' L) : D cx R ((i, k, o) :: its) fr C L := by
  intro hC0 hits a ha
  obtain ⟨hkd, ho⟩ := hits (i, k, o) (by simp)
  simp only at hkd ho
  have hk1 : ¬ k ≤ 1 := fun hle => by rw [← Nat.ble_eq] at hle; rw [hle] at hk; cases hk
  simp only [List.map_cons, DU]
  unfold stepU
  simp only [ho, hkd, hk1, if_false]
  intro w hw
  unfold wpOp
  simp only [ho]
  have hwt := wanted_iff R.hy ha hg
  by_cases hG : GH ds a.tmps g
  · have hGT := GT_of ha hG (wfG_spec hwf)
    have hon : Region.wanted o (yielded R.ops a.tmps) = true := hwt.2 hG
    simp only [hon, if_true]
    refine .inl ?_
    unfold Oper.wp
    rw [hrun hGT a (fun x v hx => ev_spec ha hG hx) w]
    have h1 := St.alloc hw ob
    have h2 := h1.freeze
    refine ⟨(C.set w.heap.size ob, L), fun _ => ⟨h2.1, fun _ hx => hx⟩, h2.2, ?_⟩
    rw [hd]
    exact h w.heap.size _ h2.1 (fun _ => Mem.set_self _ _ _) (hC0.trans h2.1) (fun x hx => hits x (by simp [hx])) _ (ha.put (hp _) ⟨fun _ => rfl, fun hn => absurd hG hn⟩)
  · have hoff : Region.wanted o (yielded R.ops a.tmps) = false := by
      cases hx : Region.wanted o (yielded R.ops a.tmps) with
      | false => rfl
      | true => exact absurd (hwt.1 hx) hG
    simp only [hoff, Bool.false_eq_true, if_false]
    refine ⟨(C, L), fun _ => kle.refl _, hw, ?_⟩
    rw [hd]
    exact h 0 C (Mem.le.refl _) (fun hGT => absurd (GH_of_GT ha hch hGT) hG) hC0 (fun x hx => hits x (by simp [hx])) _ (ha.put (hp 0) ⟨fun hn => absurd hn hG, fun _ => rfl⟩)
theorem D.buildSliceG {t e len : Nat} {parts : Array (Nat × Operand)} {ti te : TI} (rows : List (List Value)) (hk : Nat.ble k 1 = false) (hd : o.dst = some d) (hg : gOf ds fr o.guard = some g) (hop : o.op = .buildSlice t len parts)
    (ht : cx.T.get t = some ti) (hte : ti.k = .slice e) (he : cx.T.get e = some te) (hrows : rowsO (ev fr g) parts.toList 0 = some rows) (hl : (rows.all fun r => Nat.beq r.length te.size) = true) (hlen : Nat.beq parts.toList.length len = true)
    (hbig : Nat.ble (len * te.size) 16777216 = true) (hs0 : Nat.beq te.size 0 = false) (hp : ∀ b, okPut n ds ((d, g, .slice (some ⟨b, 0, none⟩) rows.length rows.length) :: fr) d = true) (hwf : wfG ds fr g = true) (hch : chG ds fr g = true)
    (h : ∀ b C', C.le C' → (GT ds fr g → Sl C' te.size (.slice (some ⟨b, 0, none⟩) rows.length rows.length) rows) → D cx R its ((d, g, .slice (some ⟨b, 0, none⟩) rows.length rows.length) :: fr) C' L) : D cx R ((i, k, o) :: its) fr C L := by
  have hl' : ∀ r ∈ rows, r.length = te.size := fun r hr => Nat.eq_of_beq_eq_true (List.all_eq_true.1 hl r hr)
  have hlen' := Nat.eq_of_beq_eq_true hlen
  rw [Nat.ble_eq] at hbig
  have hpl := (partsO_of_rows hrows hl').2
  refine D.newConstG (f := fun b => .slice (some ⟨b, 0, none⟩) rows.length rows.length) (ob := .cells ⟨rows.flatten⟩ e) hk hd hg hp hwf hch (fun _ a hs w => ?_) (fun b C' hle hb => ?_)
  · have e1 : execOp a.eval o = (do Pure.pure (.value (← Instr.buildSlice t len (parts.map fun (i, x) => (i, a.eval x)))) : Sem Next) := by unfold execOp; rw [hop]
    rw [e1]
    have e2 : (parts.map fun (i, x) => (i, a.eval x)) = (parts.toList.map fun (i, x) => (i, a.eval x)).toArray := by apply Array.ext'; simp
    rw [e2]
    simp only [Sem.run_bind, run_buildSlice cx.hT ht hte he (fun x v hx => hs x v hx) hrows hl' hlen' hbig w, Result.andThen_ok, Sem.run_pure]
  · refine h _ C' hle (fun hG => Sl.ofBlock (hb hG) hl' (fun j v hj => by simpa using hj) (Nat.le_refl _) ?_)
    rw [hpl, hlen']
    have h0 : 0 < te.size := Nat.pos_of_ne_zero (fun e => by rw [e] at hs0; cases hs0)
    have : len ≤ len * te.size := Nat.le_mul_of_pos_right _ h0
    simp only [maxLen]; omega
end
end Go.Jog
namespace Go.Proofs.YtfelabnohopfdaaGreatDoor
open Go Go.Jog
set_option maxRecDepth 100000

theorem natOver {C : Mem} {u v : Value} {m b k : Nat} (hu : NatC C u m) (hv : NatC C v b) (hm : Sm k m) (hb : Sm k b) (hb0 : 0 < b) (hk : k ≤ 1000000) : Pur cx.P 101 [u, v] C fun w D => NatC D w (m / b) := by
  obtain ⟨a, ha, rfl, hsa⟩ := hu
  exact nover_fn hsa ha hv hk (hm.len ha) hb hb0
def encF (b : Bool) (u w : Value) : List Value := [.bool b, u, w]
/-- A fraction in memory. -/
def FrC (C : Mem) (v : Value) (q : Rat) : Prop := ∃ u w, v = .agg ⟨encF (decide (q.num < 0)) u w⟩ ∧ NatC C u q.num.natAbs ∧ NatC C w q.den
theorem FrC.mono {C D : Mem} {v : Value} {q : Rat} (h : FrC C v q) (hl : C.le D) : FrC D v q := by
  obtain ⟨u, w, h1, h2, h3⟩ := h
  exact ⟨u, w, h1, h2.mono hl, h3.mono hl⟩
theorem gcd_pos1 {n d : Nat} (h : ¬ 1 < Nat.gcd n d) (hn : 0 < n) : Nat.gcd n d = 1 := by
  have := Nat.gcd_pos_of_pos_left d hn
  omega
set_option maxHeartbeats 1000000 in
theorem lowest_fn {C : Mem} {u w : Value} {n d k : Nat} (b : Bool) (hu : NatC C u n) (hw : NatC C w d) (hn : Sm k n) (hd : Sm k d) (hd0 : 0 < d) (hk : k ≤ 1000000) : Pur cx.P 62 [.bool b, u, w] C fun r D => FrC D r (ratB b n d) := by
  obtain ⟨A0, z0, c0, rfl, hz0, hz1⟩ := hu.form
  obtain ⟨A9, z9, c9, rfl, _, _⟩ := hw.form
  have hdn : d ≠ 0 := by omega
  refine Fn.intro (by kernel_rfl) Tryz.func62 rfl 30 rfl rfl (fun w0 => ?_)
  refine G.region rfl (fun R hR => ?_)
  refine D.alloc rfl rfl rfl rfl rfl (fun _ => rfl) (fun b6 => ?_)
  refine D.done [(0, [], _), (1, [], _), (2, [], _), (6, [], _)] ⟨rfl, rfl, rfl, rfl, trivial⟩ (hR _ _ _ rfl ?_); clear hR R
  refine G.region rfl (fun R hR => ?_)
  iterate 3 refine D.pure rfl rfl rfl rfl rfl rfl ?_
  refine D.done [(0, [], _), (1, [], _), (2, [], _), (6, [], _), (10, [], _)] ⟨rfl, rfl, rfl, rfl, rfl, trivial⟩ (hR _ _ _ rfl ?_); clear hR R
  refine G.cond rfl (fun h10 => ?_) (fun h10 => ?_)
  · skip
    have hn0 : n = 0 := by
      have : (z0 : Int) = 0 := by simpa using h10
      exact hz0.1 (by omega)
    refine G.region rfl (fun R hR => ?_)
    refine D.buildSliceV [[.int .u32 1]] rfl rfl rfl rfl rfl rfl rfl rfl rfl rfl rfl rfl (fun _ => rfl) (fun b11 C11 hle11 hs11 => ?_)
    refine D.build (encF false (.slice none 0 0) (.slice (some ⟨b11, 0, none⟩) 1 1)) rfl rfl rfl rfl rfl rfl rfl rfl ?_
    refine D.store (j := 0) rfl rfl rfl rfl rfl rfl rfl rfl rfl rfl rfl rfl ?_
    refine D.done [(6, [], _)] ⟨rfl, trivial⟩ (hR _ _ _ rfl ?_); clear hR R
    refine G.retN (G.finC (.head _) rfl rfl rfl rfl ?_)
    refine ⟨rfl, ?_⟩
    rw [hn0, ratB_zero]
    exact ⟨_, _, rfl, natNil _, natOne (hs11.mono (by (repeat (first | exact Mem.le.refl _ | assumption | (apply Mem.le.trans; rotate_left; assumption)))))⟩
  · skip
    have hn0 : 0 < n := by
      have : ¬ (z0 : Int) = 0 := by simpa using h10
      have := mt hz0.2
      omega
    refine G.region rfl (fun R hR => ?_)
    iterate 2 refine D.pure rfl rfl rfl rfl rfl rfl ?_
    refine D.callP (natGcd (hu.mono (by (repeat (first | exact Mem.le.refl _ | assumption | (apply Mem.le.trans; rotate_left; assumption))))) (hw.mono (by (repeat (first | exact Mem.le.refl _ | assumption | (apply Mem.le.trans; rotate_left; assumption))))) hn hd hk hn0 hd0) rfl rfl rfl rfl rfl rfl rfl (fun _ => rfl) (fun v15 C15 hle15 hq15 => ?_)
    refine D.pure rfl rfl rfl rfl rfl rfl ?_
    refine D.done [(0, [], _), (1, [], _), (2, [], _), (6, [], _), (7, [], _)] ⟨rfl, rfl, rfl, rfl, rfl, trivial⟩ (hR _ _ _ rfl ?_); clear hR R
    refine G.region rfl (fun R hR => ?_)
    refine D.pure rfl rfl rfl rfl rfl rfl ?_
    refine D.buildSlice [[.int .u32 1]] rfl rfl rfl rfl rfl rfl rfl rfl rfl rfl rfl rfl (fun _ => rfl) (fun p17 C17 hle17 hs17 => ?_)
    refine D.callP (natCmp (hq15.mono (by (repeat (first | exact Mem.le.refl _ | assumption | (apply Mem.le.trans; rotate_left; assumption))))) (natOne (hs17.mono (by (repeat (first | exact Mem.le.refl _ | assumption | (apply Mem.le.trans; rotate_left; assumption))))))) rfl rfl rfl rfl rfl rfl rfl (fun _ => rfl) (fun v18 C18 hle18 hq18 => ?_)
    obtain ⟨z, rfl, hz⟩ := hq18
    have hgs : Sm k (Nat.gcd n d) := hn.mono (Nat.gcd_le_left d hn0)
    have hg0 : 0 < Nat.gcd n d := Nat.gcd_pos_of_pos_left d hn0
    refine D.pure rfl rfl rfl rfl rfl rfl ?_
    refine D.done [(0, [], _), (1, [], _), (2, [], _), (6, [], _), (7, [], _), (19, [], _)] ⟨rfl, rfl, rfl, rfl, rfl, rfl, trivial⟩ (hR _ _ _ rfl ?_); clear hR R
    refine G.cond rfl (fun h19 => ?_) (fun h19 => ?_)
    · skip
      refine G.region rfl (fun R hR => ?_)
      iterate 2 refine D.pure rfl rfl rfl rfl rfl rfl ?_
      refine D.callP (natOver (hu.mono (by (repeat (first | exact Mem.le.refl _ | assumption | (apply Mem.le.trans; rotate_left; assumption))))) (hq15.mono (by (repeat (first | exact Mem.le.refl _ | assumption | (apply Mem.le.trans; rotate_left; assumption))))) hn hgs hg0 hk) rfl rfl rfl rfl rfl rfl rfl (fun _ => rfl) (fun v22 C22 hle22 hq22 => ?_)
      iterate 2 refine D.pure rfl rfl rfl rfl rfl rfl ?_
      refine D.callP (natOver (hw.mono (by (repeat (first | exact Mem.le.refl _ | assumption | (apply Mem.le.trans; rotate_left; assumption))))) (hq15.mono (by (repeat (first | exact Mem.le.refl _ | assumption | (apply Mem.le.trans; rotate_left; assumption))))) hd hgs hg0 hk) rfl rfl rfl rfl rfl rfl rfl (fun _ => rfl) (fun v25 C25 hle25 hq25 => ?_)
      iterate 2 refine D.pure rfl rfl rfl rfl rfl rfl ?_
      refine D.done [(0, [], _), (1, [], _), (2, [], _), (6, [], _)] ⟨rfl, rfl, rfl, rfl, trivial⟩ (hR _ _ _ rfl ?_); clear hR R
      obtain ⟨A1, z1, c1, rfl, _, _⟩ := hq22.form
      obtain ⟨A2, z2, c2, rfl, _, _⟩ := hq25.form
      refine G.region rfl (fun R hR => ?_)
      iterate 3 refine D.pure rfl rfl rfl rfl rfl rfl ?_
      refine D.build (encF b (.slice A1 z1 c1) (.slice A2 z2 c2)) rfl rfl rfl rfl rfl rfl rfl rfl ?_
      refine D.store (j := 0) rfl rfl rfl rfl rfl rfl rfl rfl rfl rfl rfl rfl ?_
      refine D.done [(6, [], _)] ⟨rfl, trivial⟩ (hR _ _ _ rfl ?_); clear hR R
      refine G.retN (G.finC (.head _) rfl rfl rfl rfl ?_)
      refine ⟨rfl, .slice A1 z1 c1, .slice A2 z2 c2, ?_, ?_, ?_⟩
      · rw [ratB_neg hdn (by omega)]; rfl
      · rw [ratB_abs hdn]; exact hq22.mono (by (repeat (first | exact Mem.le.refl _ | assumption | (apply Mem.le.trans; rotate_left; assumption))))
      · rw [ratB_den hdn]; exact hq25.mono (by (repeat (first | exact Mem.le.refl _ | assumption | (apply Mem.le.trans; rotate_left; assumption))))
    · skip
      have hg1 : Nat.gcd n d = 1 := by
        refine gcd_pos1 (fun h => ?_) hn0
        have h1 : ¬ (0 : Int) < z := by simpa using h19
        exact h1 (hz.2.1.2 h)
      refine G.region rfl (fun R hR => ?_)
      iterate 3 refine D.pure rfl rfl rfl rfl rfl rfl ?_
      refine D.build (encF b (.slice A0 z0 c0) (.slice A9 z9 c9)) rfl rfl rfl rfl rfl rfl rfl rfl ?_
      refine D.store (j := 0) rfl rfl rfl rfl rfl rfl rfl rfl rfl rfl rfl rfl ?_
      refine D.done [(6, [], _)] ⟨rfl, trivial⟩ (hR _ _ _ rfl ?_); clear hR R
      refine G.retN (G.finC (.head _) rfl rfl rfl rfl ?_)
      refine ⟨rfl, .slice A0 z0 c0, .slice A9 z9 c9, ?_, ?_, ?_⟩
      · rw [ratB_neg hdn (by omega)]; rfl
      · rw [ratB_abs hdn, hg1, Nat.div_one]; exact hu.mono (by (repeat (first | exact Mem.le.refl _ | assumption | (apply Mem.le.trans; rotate_left; assumption))))
      · rw [ratB_den hdn, hg1, Nat.div_one]; exact hw.mono (by (repeat (first | exact Mem.le.refl _ | assumption | (apply Mem.le.trans; rotate_left; assumption))))
def sgn (q : Rat) : Int := if q < 0 then -1 else if q = 0 then 0 else 1
theorem num_neg_iff (q : Rat) : q.num < 0 ↔ q < 0 := by
  have := Rat.num_nonneg (q := q)
  rw [← Rat.not_le, ← this]; omega
theorem sign_fn {C : Mem} {v : Value} {q : Rat} (hv : FrC C v q) : Gives cx.P 32 [v] C (.int .i64 (sgn q)) := by
  obtain ⟨u, w, rfl, hu, hw⟩ := hv
  obtain ⟨A0, z0, c0, rfl, hz0, hz1⟩ := hu.form
  have hnn := num_neg_iff q
  refine Fn.intro (by kernel_rfl) Tryz.func32 rfl 11 rfl rfl (fun w0 => ?_)
  refine G.region rfl (fun R hR => ?_)
  refine D.box rfl rfl rfl rfl rfl rfl (fun _ => rfl) (fun b1 => ?_)
  refine D.pure rfl rfl rfl rfl rfl rfl ?_
  refine D.done [(1, [], _)] ⟨rfl, trivial⟩ (hR _ _ _ rfl ?_); clear hR R
  refine G.region rfl (fun R hR => ?_)
  refine D.pure rfl rfl rfl rfl rfl rfl ?_
  refine D.loadL (.head _) rfl rfl rfl rfl rfl rfl rfl rfl rfl ?_
  refine D.pure rfl rfl rfl rfl rfl rfl ?_
  refine D.done [(1, [], _), (3, [], _)] ⟨rfl, rfl, trivial⟩ (hR _ _ _ rfl ?_); clear hR R
  refine G.cond rfl (fun h3 => ?_) (fun h3 => ?_)
  · skip
    refine G.region rfl (fun R hR => ?_)
    refine D.pure rfl rfl rfl rfl rfl rfl ?_
    refine D.done [(2, [], _)] ⟨rfl, trivial⟩ (hR _ _ _ rfl ?_); clear hR R
    refine G.retN (G.dropAll (G.fin1 rfl rfl ?_))
    refine ⟨?_, rfl⟩
    have h : q < 0 := hnn.1 (by simpa using h3)
    unfold sgn; rw [if_pos h]
  · skip
    refine G.region rfl (fun R hR => ?_)
    refine D.pure rfl rfl rfl rfl rfl rfl ?_
    refine D.loadL (.head _) rfl rfl rfl rfl rfl rfl rfl rfl rfl ?_
    iterate 3 refine D.pure rfl rfl rfl rfl rfl rfl ?_
    refine D.done [(6, [], _)] ⟨rfl, trivial⟩ (hR _ _ _ rfl ?_); clear hR R
    refine G.cond rfl (fun h6 => ?_) (fun h6 => ?_)
    · skip
      refine G.region rfl (fun R hR => ?_)
      refine D.pure rfl rfl rfl rfl rfl rfl ?_
      refine D.done [(2, [], _)] ⟨rfl, trivial⟩ (hR _ _ _ rfl ?_); clear hR R
      refine G.retN (G.dropAll (G.fin1 rfl rfl ?_))
      refine ⟨?_, rfl⟩
      have h : ¬ q < 0 := fun h => by rw [decide_eq_true (hnn.2 h)] at h3; cases h3
      have h2 : q = 0 := by rw [← num_nil]; exact hz0.1 (by simpa using h6)
      unfold sgn; rw [if_neg h, if_pos h2]
    · skip
      refine G.region rfl (fun R hR => ?_)
      refine D.pure rfl rfl rfl rfl rfl rfl ?_
      refine D.done [(2, [], _)] ⟨rfl, trivial⟩ (hR _ _ _ rfl ?_); clear hR R
      refine G.retN (G.dropAll (G.fin1 rfl rfl ?_))
      refine ⟨?_, rfl⟩
      have h : ¬ q < 0 := fun h => by rw [decide_eq_true (hnn.2 h)] at h3; cases h3
      have h2 : ¬ q = 0 := fun h2 => by rw [hz0.2 (num_nil.2 h2)] at h6; simp at h6
      unfold sgn; rw [if_neg h, if_neg h2]
theorem neg_fn {C : Mem} {v : Value} {q : Rat} (hv : FrC C v q) : Pur cx.P 100 [v] C fun r D => FrC D r (-q) := by
  obtain ⟨u, w, rfl, hu, hw⟩ := hv
  obtain ⟨A0, z0, c0, rfl, hz0, hz1⟩ := hu.form
  obtain ⟨A9, z9, c9, rfl, _, _⟩ := hw.form
  refine Fn.intro (by kernel_rfl) Tryz.func100 rfl 14 rfl rfl (fun w0 => ?_)
  refine G.region rfl (fun R hR => ?_)
  refine D.box rfl rfl rfl rfl rfl rfl (fun _ => rfl) (fun b1 => ?_)
  refine D.alloc rfl rfl rfl rfl rfl (fun _ => rfl) (fun b2 => ?_)
  refine D.done [(1, [], _), (2, [], _)] ⟨rfl, rfl, trivial⟩ (hR _ _ _ rfl ?_); clear hR R
  refine G.region rfl (fun R hR => ?_)
  refine D.pure rfl rfl rfl rfl rfl rfl ?_
  refine D.loadL (.tail _ (.head _)) rfl rfl rfl rfl rfl rfl rfl rfl rfl ?_
  iterate 3 refine D.pure rfl rfl rfl rfl rfl rfl ?_
  refine D.loadL (.tail _ (.head _)) rfl rfl rfl rfl rfl rfl rfl rfl rfl ?_
  iterate 2 refine D.pure rfl rfl rfl rfl rfl rfl ?_
  refine D.pickAnd rfl rfl rfl rfl rfl rfl rfl rfl ?_
  refine D.pure rfl rfl rfl rfl rfl rfl ?_
  refine D.store (j := 1) rfl rfl rfl rfl rfl rfl rfl rfl rfl rfl rfl rfl ?_
  refine D.done [(1, [], _), (2, [], _)] ⟨rfl, rfl, trivial⟩ (hR _ _ _ rfl ?_); clear hR R
  refine G.region rfl (fun R hR => ?_)
  refine D.loadL (.head _) rfl rfl rfl rfl rfl rfl rfl rfl rfl ?_
  refine D.store (j := 1) rfl rfl rfl rfl rfl rfl rfl rfl rfl rfl rfl rfl ?_
  refine D.done [(2, [], _)] ⟨rfl, trivial⟩ (hR _ _ _ rfl ?_); clear hR R
  refine G.retN (G.finC (.head _) rfl rfl rfl rfl ?_)
  refine ⟨rfl, .slice A0 z0 c0, .slice A9 z9 c9, ?_, ?_, ?_⟩
  · have e : decide ((-q).num < 0) = (!decide (q.num < 0) && decide ((0 : Int) < (z0 : Int))) := by
      rw [Rat.neg_num]
      have h1 : z0 = 0 ↔ q.num = 0 := hz0.trans Int.natAbs_eq_zero
      by_cases h : q.num < 0
      · simp [h]; omega
      · simp only [h, decide_false, Bool.not_false, Bool.true_and, decide_eq_decide]; omega
    rw [e]; rfl
  · rw [Rat.neg_num, Int.natAbs_neg]; exact hu.mono (by (repeat (first | exact Mem.le.refl _ | assumption | (apply Mem.le.trans; rotate_left; assumption))))
  · exact hw.mono (by (repeat (first | exact Mem.le.refl _ | assumption | (apply Mem.le.trans; rotate_left; assumption))))
end Go.Proofs.YtfelabnohopfdaaGreatDoor
namespace Go.Proofs.YtfelabnohopfdaaGreatDoor
open Go Go.Jog
set_option maxRecDepth 100000

theorem FrC.form {C : Mem} {v : Value} {q : Rat} (h : FrC C v q) : ∃ A n c A' n' c', v = .agg ⟨encF (decide (q.num < 0)) (.slice A n c) (.slice A' n' c')⟩ := by
  obtain ⟨u, w, rfl, hu, hw⟩ := h
  obtain ⟨A1, n1, c1, rfl, _, _⟩ := hu.form
  obtain ⟨A2, n2, c2, rfl, _, _⟩ := hw.form
  exact ⟨_, _, _, _, _, _, rfl⟩
set_option maxHeartbeats 2000000 in
theorem fmul_fn {C : Mem} {u v : Value} {p q : Rat} {j k : Nat} (hu : FrC C u p) (hv : FrC C v q) (hp : SmQ j p) (hq : SmQ k q) (hjk : j + k ≤ 1000000) : Pur cx.P 59 [u, v] C fun r D => FrC D r (p * q) := by
  obtain ⟨pu, pw, rfl, hpu, hpw⟩ := hu
  obtain ⟨qu, qw, rfl, hqu, hqw⟩ := hv
  obtain ⟨A1, n1, c1, rfl, _, _⟩ := hpu.form
  obtain ⟨A2, n2, c2, rfl, _, _⟩ := hpw.form
  obtain ⟨A3, n3, c3, rfl, _, _⟩ := hqu.form
  obtain ⟨A4, n4, c4, rfl, _, _⟩ := hqw.form
  refine Fn.intro (by kernel_rfl) Tryz.func59 rfl 21 rfl rfl (fun w0 => ?_)
  refine G.region rfl (fun R hR => ?_)
  refine D.box rfl rfl rfl rfl rfl rfl (fun _ => rfl) (fun b2 => ?_)
  refine D.box rfl rfl rfl rfl rfl rfl (fun _ => rfl) (fun b3 => ?_)
  refine D.alloc rfl rfl rfl rfl rfl (fun _ => rfl) (fun b4 => ?_)
  refine D.done [(2, [], _), (3, [], _), (4, [], _)] ⟨rfl, rfl, rfl, trivial⟩ (hR _ _ _ rfl ?_); clear hR R
  refine G.draw [0, 1, 2, 3, 4, 5, 6, 7, 8, 10, 11, 12, 13, 9, 14, 15, 16] [] rfl (by kernel_rfl) (fun R hB hR => ?_)
  refine D.pure rfl rfl rfl rfl rfl rfl ?_
  refine D.loadL (.tail _ (.tail _ (.head _))) rfl rfl rfl rfl rfl rfl rfl rfl rfl ?_
  refine D.pure rfl rfl rfl rfl rfl rfl ?_
  refine D.loadL (.tail _ (.head _)) rfl rfl rfl rfl rfl rfl rfl rfl rfl ?_
  iterate 2 refine D.pure rfl rfl rfl rfl rfl rfl ?_
  refine D.loadL (.tail _ (.tail _ (.head _))) rfl rfl rfl rfl rfl rfl rfl rfl rfl ?_
  refine D.pure rfl rfl rfl rfl rfl rfl ?_
  refine D.loadL (.tail _ (.head _)) rfl rfl rfl rfl rfl rfl rfl rfl rfl ?_
  refine D.pure rfl rfl rfl rfl rfl rfl ?_
  refine D.loadL (.tail _ (.tail _ (.head _))) rfl rfl rfl rfl rfl rfl rfl rfl rfl ?_
  refine D.pure rfl rfl rfl rfl rfl rfl ?_
  refine D.loadL (.tail _ (.head _)) rfl rfl rfl rfl rfl rfl rfl rfl rfl ?_
  refine D.callP (natMul (hpu.mono (by (repeat (first | exact Mem.le.refl _ | assumption | (apply Mem.le.trans; rotate_left; assumption))))) (hqu.mono (by (repeat (first | exact Mem.le.refl _ | assumption | (apply Mem.le.trans; rotate_left; assumption))))) hp.1 hq.1 (by omega) (by omega)) rfl rfl rfl rfl rfl rfl rfl (fun _ => rfl) (fun v14 C14 hle14 hq14 => ?_)
  refine D.callP (natMul (hpw.mono (by (repeat (first | exact Mem.le.refl _ | assumption | (apply Mem.le.trans; rotate_left; assumption))))) (hqw.mono (by (repeat (first | exact Mem.le.refl _ | assumption | (apply Mem.le.trans; rotate_left; assumption))))) hp.2 hq.2 (by omega) (by omega)) rfl rfl rfl rfl rfl rfl rfl (fun _ => rfl) (fun v19 C19 hle19 hq19 => ?_)
  refine D.callP (lowest_fn (k := j + k) _ (hq14.mono (by (repeat (first | exact Mem.le.refl _ | assumption | (apply Mem.le.trans; rotate_left; assumption))))) (hq19.mono (by (repeat (first | exact Mem.le.refl _ | assumption | (apply Mem.le.trans; rotate_left; assumption))))) (hp.1.mul hq.1) (hp.2.mul hq.2) (Nat.mul_pos p.den_pos q.den_pos) hjk) rfl rfl rfl rfl rfl rfl rfl (fun _ => rfl) (fun v20 C20 hle20 hq20 => ?_)
  replace hq20 : FrC C20 v20 (p * q) := by rw [← mul_parts]; exact hq20
  obtain ⟨A5, n5, c5, A6, n6, c6, rfl⟩ := hq20.form
  refine D.store (j := 0) rfl rfl rfl rfl rfl rfl rfl rfl rfl rfl rfl rfl ?_
  refine D.done [(4, [], _)] ⟨rfl, trivial⟩ (hR _ _ _ rfl ?_); clear hR hB R
  refine G.retN (G.finC (.head _) rfl rfl rfl rfl ?_)
  exact ⟨rfl, hq20⟩
set_option maxHeartbeats 2000000 in
theorem fadd_fn {C : Mem} {u v : Value} {p q : Rat} {j k : Nat} (hu : FrC C u p) (hv : FrC C v q) (hp : SmQ j p) (hq : SmQ k q) (hjk : j + k < 1000000) : Pur cx.P 31 [u, v] C fun r D => FrC D r (p + q) := by
  obtain ⟨pu, pw, rfl, hpu, hpw⟩ := hu
  obtain ⟨qu, qw, rfl, hqu, hqw⟩ := hv
  obtain ⟨A1, n1, c1, rfl, _, _⟩ := hpu.form
  obtain ⟨A2, n2, c2, rfl, _, _⟩ := hpw.form
  obtain ⟨A3, n3, c3, rfl, _, _⟩ := hqu.form
  obtain ⟨A4, n4, c4, rfl, _, _⟩ := hqw.form
  have hx : Sm (j + k) (p.num.natAbs * q.den) := hp.1.mul hq.2
  have hy : Sm (j + k) (q.num.natAbs * p.den) := by rw [Nat.add_comm]; exact hq.1.mul hp.2
  have hd : Sm (j + k + 1) (p.den * q.den) := (hp.2.mul hq.2).le (by omega)
  have hd0 : 0 < p.den * q.den := Nat.mul_pos p.den_pos q.den_pos
  refine Fn.intro (by kernel_rfl) Tryz.func31 rfl 55 rfl rfl (fun w0 => ?_)
  refine G.region rfl (fun R hR => ?_)
  refine D.box rfl rfl rfl rfl rfl rfl (fun _ => rfl) (fun b2 => ?_)
  refine D.box rfl rfl rfl rfl rfl rfl (fun _ => rfl) (fun b3 => ?_)
  refine D.alloc rfl rfl rfl rfl rfl (fun _ => rfl) (fun b4 => ?_)
  refine D.done [(2, [], _), (3, [], _), (4, [], _)] ⟨rfl, rfl, rfl, trivial⟩ (hR _ _ _ rfl ?_); clear hR R
  refine G.draw [0, 1, 2, 3, 5, 6, 7, 8, 10, 11, 12, 13, 4, 9, 14, 15, 16, 17] [] rfl (by kernel_rfl) (fun R hB hR => ?_)
  refine D.pure rfl rfl rfl rfl rfl rfl ?_
  refine D.loadL (.tail _ (.tail _ (.head _))) rfl rfl rfl rfl rfl rfl rfl rfl rfl ?_
  refine D.pure rfl rfl rfl rfl rfl rfl ?_
  refine D.loadL (.tail _ (.head _)) rfl rfl rfl rfl rfl rfl rfl rfl rfl ?_
  refine D.pure rfl rfl rfl rfl rfl rfl ?_
  refine D.loadL (.tail _ (.head _)) rfl rfl rfl rfl rfl rfl rfl rfl rfl ?_
  refine D.pure rfl rfl rfl rfl rfl rfl ?_
  refine D.loadL (.tail _ (.tail _ (.head _))) rfl rfl rfl rfl rfl rfl rfl rfl rfl ?_
  refine D.pure rfl rfl rfl rfl rfl rfl ?_
  refine D.loadL (.tail _ (.tail _ (.head _))) rfl rfl rfl rfl rfl rfl rfl rfl rfl ?_
  refine D.pure rfl rfl rfl rfl rfl rfl ?_
  refine D.loadL (.tail _ (.head _)) rfl rfl rfl rfl rfl rfl rfl rfl rfl ?_
  refine D.callP (natMul (hpu.mono (by (repeat (first | exact Mem.le.refl _ | assumption | (apply Mem.le.trans; rotate_left; assumption))))) (hqw.mono (by (repeat (first | exact Mem.le.refl _ | assumption | (apply Mem.le.trans; rotate_left; assumption))))) hp.1 hq.2 (by omega) (by omega)) rfl rfl rfl rfl rfl rfl rfl (fun _ => rfl) (fun v12 C12 hle12 hq12 => ?_)
  refine D.callP (natMul (hqu.mono (by (repeat (first | exact Mem.le.refl _ | assumption | (apply Mem.le.trans; rotate_left; assumption))))) (hpw.mono (by (repeat (first | exact Mem.le.refl _ | assumption | (apply Mem.le.trans; rotate_left; assumption))))) hq.1 hp.2 (by omega) (by omega)) rfl rfl rfl rfl rfl rfl rfl (fun _ => rfl) (fun v17 C17 hle17 hq17 => ?_)
  refine D.callP (natMul (hpw.mono (by (repeat (first | exact Mem.le.refl _ | assumption | (apply Mem.le.trans; rotate_left; assumption))))) (hqw.mono (by (repeat (first | exact Mem.le.refl _ | assumption | (apply Mem.le.trans; rotate_left; assumption))))) hp.2 hq.2 (by omega) (by omega)) rfl rfl rfl rfl rfl rfl rfl (fun _ => rfl) (fun v22 C22 hle22 hq22 => ?_)
  iterate 3 refine D.pure rfl rfl rfl rfl rfl rfl ?_
  refine D.done [(2, [], _), (3, [], _), (4, [], _), (5, [], _), (6, [], _), (7, [], _)] ⟨rfl, rfl, rfl, rfl, rfl, rfl, trivial⟩ (hR _ _ _ rfl ?_); clear hR hB R
  refine G.region rfl (fun R hR => ?_)
  refine D.pure rfl rfl rfl rfl rfl rfl ?_
  refine D.loadL (.tail _ (.tail _ (.head _))) rfl rfl rfl rfl rfl rfl rfl rfl rfl ?_
  refine D.pure rfl rfl rfl rfl rfl rfl ?_
  refine D.loadL (.tail _ (.head _)) rfl rfl rfl rfl rfl rfl rfl rfl rfl ?_
  iterate 2 refine D.pure rfl rfl rfl rfl rfl rfl ?_
  refine D.done [(2, [], _), (3, [], _), (4, [], _), (5, [], _), (6, [], _), (7, [], _), (23, [], _)] ⟨rfl, rfl, rfl, rfl, rfl, rfl, rfl, trivial⟩ (hR _ _ _ rfl ?_); clear hR R
  refine G.cond rfl (fun h23 => ?_) (fun h23 => ?_)
  · skip
    have hs : decide (p.num < 0) = decide (q.num < 0) := by simpa using h23
    refine G.draw [0, 1, 2, 3, 5, 4, 6, 7] [] rfl (by kernel_rfl) (fun R hB hR => ?_)
    refine D.pure rfl rfl rfl rfl rfl rfl ?_
    refine D.loadL (.tail _ (.tail _ (.head _))) rfl rfl rfl rfl rfl rfl rfl rfl rfl ?_
    iterate 3 refine D.pure rfl rfl rfl rfl rfl rfl ?_
    refine D.callP (natAdd (hq12.mono (by (repeat (first | exact Mem.le.refl _ | assumption | (apply Mem.le.trans; rotate_left; assumption))))) (hq17.mono (by (repeat (first | exact Mem.le.refl _ | assumption | (apply Mem.le.trans; rotate_left; assumption))))) hx hy (by omega)) rfl rfl rfl rfl rfl rfl rfl (fun _ => rfl) (fun v33 C33 hle33 hq33 => ?_)
    refine D.callP (lowest_fn (k := j + k + 1) _ (hq33.mono (by (repeat (first | exact Mem.le.refl _ | assumption | (apply Mem.le.trans; rotate_left; assumption))))) (hq22.mono (by (repeat (first | exact Mem.le.refl _ | assumption | (apply Mem.le.trans; rotate_left; assumption))))) (hx.add hy) hd hd0 (by omega)) rfl rfl rfl rfl rfl rfl rfl (fun _ => rfl) (fun v35 C35 hle35 hq35 => ?_)
    replace hq35 : FrC C35 v35 (p + q) := by rw [← add_same hs]; exact hq35
    obtain ⟨A5, n5, c5, A6, n6, c6, rfl⟩ := hq35.form
    refine D.store (j := 0) rfl rfl rfl rfl rfl rfl rfl rfl rfl rfl rfl rfl ?_
    refine D.done [(4, [], _)] ⟨rfl, trivial⟩ (hR _ _ _ rfl ?_); clear hR hB R
    refine G.retN (G.finC (.head _) rfl rfl rfl rfl ?_)
    exact ⟨rfl, hq35⟩
  · skip
    have hs : ¬ decide (p.num < 0) = decide (q.num < 0) := fun h => by rw [h] at h23; simp at h23
    refine G.region rfl (fun R hR => ?_)
    iterate 2 refine D.pure rfl rfl rfl rfl rfl rfl ?_
    refine D.callP (natCmp (hq12.mono (by (repeat (first | exact Mem.le.refl _ | assumption | (apply Mem.le.trans; rotate_left; assumption))))) (hq17.mono (by (repeat (first | exact Mem.le.refl _ | assumption | (apply Mem.le.trans; rotate_left; assumption)))))) rfl rfl rfl rfl rfl rfl rfl (fun _ => rfl) (fun v39 C39 hle39 hq39 => ?_)
    obtain ⟨z, rfl, hz⟩ := hq39
    iterate 2 refine D.pure rfl rfl rfl rfl rfl rfl ?_
    refine D.done [(2, [], _), (3, [], _), (4, [], _), (5, [], _), (6, [], _), (7, [], _), (36, [], _)] ⟨rfl, rfl, rfl, rfl, rfl, rfl, rfl, trivial⟩ (hR _ _ _ rfl ?_); clear hR R
    refine G.cond rfl (fun h36 => ?_) (fun h36 => ?_)
    · skip
      have hge : q.num.natAbs * p.den ≤ p.num.natAbs * q.den := by
        have h0 : (0 : Int) ≤ z := by simpa using h36
        have := mt hz.1.2 (by omega)
        omega
      refine G.draw [0, 1, 2, 3, 5, 4, 6, 7] [] rfl (by kernel_rfl) (fun R hB hR => ?_)
      refine D.pure rfl rfl rfl rfl rfl rfl ?_
      refine D.loadL (.tail _ (.tail _ (.head _))) rfl rfl rfl rfl rfl rfl rfl rfl rfl ?_
      iterate 3 refine D.pure rfl rfl rfl rfl rfl rfl ?_
      refine D.callP (natSub (hq12.mono (by (repeat (first | exact Mem.le.refl _ | assumption | (apply Mem.le.trans; rotate_left; assumption))))) (hq17.mono (by (repeat (first | exact Mem.le.refl _ | assumption | (apply Mem.le.trans; rotate_left; assumption))))) hx hge (by omega)) rfl rfl rfl rfl rfl rfl rfl (fun _ => rfl) (fun v45 C45 hle45 hq45 => ?_)
      refine D.callP (lowest_fn (k := j + k + 1) _ (hq45.mono (by (repeat (first | exact Mem.le.refl _ | assumption | (apply Mem.le.trans; rotate_left; assumption))))) (hq22.mono (by (repeat (first | exact Mem.le.refl _ | assumption | (apply Mem.le.trans; rotate_left; assumption))))) ((hx.mono (by omega)).le (by omega)) hd hd0 (by omega)) rfl rfl rfl rfl rfl rfl rfl (fun _ => rfl) (fun v47 C47 hle47 hq47 => ?_)
      replace hq47 : FrC C47 v47 (p + q) := by rw [← add_up hs hge]; exact hq47
      obtain ⟨A5, n5, c5, A6, n6, c6, rfl⟩ := hq47.form
      refine D.store (j := 0) rfl rfl rfl rfl rfl rfl rfl rfl rfl rfl rfl rfl ?_
      refine D.done [(4, [], _)] ⟨rfl, trivial⟩ (hR _ _ _ rfl ?_); clear hR hB R
      refine G.retN (G.finC (.head _) rfl rfl rfl rfl ?_)
      exact ⟨rfl, hq47⟩
    · skip
      have hge : p.num.natAbs * q.den ≤ q.num.natAbs * p.den := by
        have h0 : ¬ (0 : Int) ≤ z := by simpa using h36
        have := hz.1.1 (by omega)
        omega
      refine G.draw [0, 1, 2, 3, 5, 4, 6, 7] [] rfl (by kernel_rfl) (fun R hB hR => ?_)
      refine D.pure rfl rfl rfl rfl rfl rfl ?_
      refine D.loadL (.tail _ (.head _)) rfl rfl rfl rfl rfl rfl rfl rfl rfl ?_
      iterate 3 refine D.pure rfl rfl rfl rfl rfl rfl ?_
      refine D.callP (natSub (hq17.mono (by (repeat (first | exact Mem.le.refl _ | assumption | (apply Mem.le.trans; rotate_left; assumption))))) (hq12.mono (by (repeat (first | exact Mem.le.refl _ | assumption | (apply Mem.le.trans; rotate_left; assumption))))) hy hge (by omega)) rfl rfl rfl rfl rfl rfl rfl (fun _ => rfl) (fun v52 C52 hle52 hq52 => ?_)
      refine D.callP (lowest_fn (k := j + k + 1) _ (hq52.mono (by (repeat (first | exact Mem.le.refl _ | assumption | (apply Mem.le.trans; rotate_left; assumption))))) (hq22.mono (by (repeat (first | exact Mem.le.refl _ | assumption | (apply Mem.le.trans; rotate_left; assumption))))) ((hy.mono (by omega)).le (by omega)) hd hd0 (by omega)) rfl rfl rfl rfl rfl rfl rfl (fun _ => rfl) (fun v54 C54 hle54 hq54 => ?_)
      replace hq54 : FrC C54 v54 (p + q) := by rw [← add_down hs hge]; exact hq54
      obtain ⟨A5, n5, c5, A6, n6, c6, rfl⟩ := hq54.form
      refine D.store (j := 0) rfl rfl rfl rfl rfl rfl rfl rfl rfl rfl rfl rfl ?_
      refine D.done [(4, [], _)] ⟨rfl, trivial⟩ (hR _ _ _ rfl ?_); clear hR hB R
      refine G.retN (G.finC (.head _) rfl rfl rfl rfl ?_)
      exact ⟨rfl, hq54⟩
theorem fsub_fn {C : Mem} {u v : Value} {p q : Rat} {j k : Nat} (hu : FrC C u p) (hv : FrC C v q) (hp : SmQ j p) (hq : SmQ k q) (hjk : j + k < 1000000) : Pur cx.P 60 [u, v] C fun r D => FrC D r (p - q) := by
  obtain ⟨A1, n1, c1, A2, n2, c2, rfl⟩ := hu.form
  obtain ⟨A3, n3, c3, A4, n4, c4, rfl⟩ := hv.form
  refine Fn.intro (by kernel_rfl) Tryz.func60 rfl 9 rfl rfl (fun w0 => ?_)
  refine G.region rfl (fun R hR => ?_)
  refine D.box rfl rfl rfl rfl rfl rfl (fun _ => rfl) (fun b2 => ?_)
  refine D.box rfl rfl rfl rfl rfl rfl (fun _ => rfl) (fun b3 => ?_)
  refine D.alloc rfl rfl rfl rfl rfl (fun _ => rfl) (fun b4 => ?_)
  refine D.done [(2, [], _), (3, [], _), (4, [], _)] ⟨rfl, rfl, rfl, trivial⟩ (hR _ _ _ rfl ?_); clear hR R
  refine G.draw [0, 1, 2, 3, 4] [] rfl (by kernel_rfl) (fun R hB hR => ?_)
  refine D.loadL (.tail _ (.tail _ (.head _))) rfl rfl rfl rfl rfl rfl rfl rfl rfl ?_
  refine D.loadL (.tail _ (.head _)) rfl rfl rfl rfl rfl rfl rfl rfl rfl ?_
  refine D.callP (neg_fn (hv.mono (by (repeat (first | exact Mem.le.refl _ | assumption | (apply Mem.le.trans; rotate_left; assumption)))))) rfl rfl rfl rfl rfl rfl rfl (fun _ => rfl) (fun v7 C7 hle7 hq7 => ?_)
  refine D.callP (fadd_fn (hu.mono (by (repeat (first | exact Mem.le.refl _ | assumption | (apply Mem.le.trans; rotate_left; assumption))))) (hq7.mono (by (repeat (first | exact Mem.le.refl _ | assumption | (apply Mem.le.trans; rotate_left; assumption))))) hp hq.neg hjk) rfl rfl rfl rfl rfl rfl rfl (fun _ => rfl) (fun v8 C8 hle8 hq8 => ?_)
  rw [← Rat.sub_eq_add_neg] at hq8
  obtain ⟨A5, n5, c5, A6, n6, c6, rfl⟩ := hq8.form
  refine D.store (j := 0) rfl rfl rfl rfl rfl rfl rfl rfl rfl rfl rfl rfl ?_
  refine D.done [(4, [], _)] ⟨rfl, trivial⟩ (hR _ _ _ rfl ?_); clear hR hB R
  refine G.retN (G.finC (.head _) rfl rfl rfl rfl ?_)
  exact ⟨rfl, hq8⟩
theorem fcmp_fn {C : Mem} {u v : Value} {p q : Rat} {j k : Nat} (hu : FrC C u p) (hv : FrC C v q) (hp : SmQ j p) (hq : SmQ k q) (hjk : j + k < 1000000) : Pur cx.P 29 [u, v] C fun r _ => r = .int .i64 (sgn (p - q)) := by
  obtain ⟨A1, n1, c1, A2, n2, c2, rfl⟩ := hu.form
  obtain ⟨A3, n3, c3, A4, n4, c4, rfl⟩ := hv.form
  refine Fn.intro (by kernel_rfl) Tryz.func29 rfl 9 rfl rfl (fun w0 => ?_)
  refine G.region rfl (fun R hR => ?_)
  refine D.box rfl rfl rfl rfl rfl rfl (fun _ => rfl) (fun b2 => ?_)
  refine D.box rfl rfl rfl rfl rfl rfl (fun _ => rfl) (fun b3 => ?_)
  refine D.pure rfl rfl rfl rfl rfl rfl ?_
  refine D.done [(2, [], _), (3, [], _)] ⟨rfl, rfl, trivial⟩ (hR _ _ _ rfl ?_); clear hR R
  refine G.region rfl (fun R hR => ?_)
  refine D.loadL (.tail _ (.head _)) rfl rfl rfl rfl rfl rfl rfl rfl rfl ?_
  refine D.loadL (.head _) rfl rfl rfl rfl rfl rfl rfl rfl rfl ?_
  refine D.callP (fsub_fn (hu.mono (by (repeat (first | exact Mem.le.refl _ | assumption | (apply Mem.le.trans; rotate_left; assumption))))) (hv.mono (by (repeat (first | exact Mem.le.refl _ | assumption | (apply Mem.le.trans; rotate_left; assumption))))) hp hq hjk) rfl rfl rfl rfl rfl rfl rfl (fun _ => rfl) (fun v7 C7 hle7 hq7 => ?_)
  refine D.gives2 (sign_fn hq7) rfl rfl rfl rfl rfl rfl rfl (fun _ => rfl) ?_
  refine D.pure rfl rfl rfl rfl rfl rfl ?_
  refine D.done [(4, [], _)] ⟨rfl, trivial⟩ (hR _ _ _ rfl ?_); clear hR R
  refine G.retN (G.dropAll (G.fin1 rfl rfl ?_))
  exact ⟨rfl, rfl⟩
end Go.Proofs.YtfelabnohopfdaaGreatDoor
namespace Go.Jog
open Go
def cut1 (c : UInt8) : List UInt8 → List UInt8 × Option (List UInt8)
  | [] => ([], none)
  | b :: s => if b = c then ([], some s) else (b :: (cut1 c s).1, (cut1 c s).2)
theorem cut1_cases (c : UInt8) : ∀ s : List UInt8, (cut1 c s = (s, none) ∧ Lib.indexByte s c = -1 ∧ c ∉ s) ∨ ∃ pre post, cut1 c s = (pre, some post) ∧ s = pre ++ c :: post ∧ c ∉ pre ∧ Lib.indexByte s c = pre.length
  | [] => .inl ⟨rfl, rfl, by simp⟩
  | b :: s => by
    by_cases hb : b = c
    · subst hb
      exact .inr ⟨[], s, by simp [cut1], rfl, by simp, by simp [Lib.indexByte]⟩
    · rcases cut1_cases c s with ⟨h1, h2, h3⟩ | ⟨pre, post, h1, h2, h3, h4⟩
      · refine .inl ⟨by simp [cut1, hb, h1], by simp [Lib.indexByte, hb, h2], by simp [Ne.symm hb, h3]⟩
      · refine .inr ⟨b :: pre, post, by simp [cut1, hb, h1], by simp [h2], by simp [Ne.symm hb, h3], ?_⟩
        have h5 : ¬ (pre.length : Int) = -1 := by omega
        simp [Lib.indexByte, hb, h4, h5]
theorem cut1_hit {c : UInt8} {s : List UInt8} (h : 0 ≤ Lib.indexByte s c) : ∃ pre post, cut1 c s = (pre, some post) ∧ s = pre ++ c :: post ∧ Lib.indexByte s c = pre.length := by
  rcases cut1_cases c s with ⟨_, h2, _⟩ | ⟨pre, post, h1, h2, _, h4⟩
  · omega
  · exact ⟨pre, post, h1, h2, h4⟩
theorem cut1_miss {c : UInt8} {s : List UInt8} (h : ¬ 0 ≤ Lib.indexByte s c) : cut1 c s = (s, none) := by
  rcases cut1_cases c s with ⟨h1, _⟩ | ⟨pre, post, h1, h2, _, h4⟩
  · exact h1
  · omega
/-- Digits that do not begin with 0, but for 0 itself; at most 200. -/
def okD (s : List UInt8) : Bool := !(s == []) && decide (s.length ≤ 200) && !(s.head? == some 48 && decide (1 < s.length)) && s.all digB
theorem okD_can {s : List UInt8} : okD s = true ↔ CanS s ∧ s.length ≤ 200 := by
  unfold okD CanS
  simp only [Bool.and_eq_true, Bool.not_eq_true', beq_eq_false_iff_ne, ne_eq, decide_eq_true_eq, List.all_eq_true, Bool.and_eq_false_imp, beq_iff_eq, decide_eq_false_iff_not]
  constructor
  · rintro ⟨⟨⟨h1, h2⟩, h3⟩, h4⟩
    refine ⟨⟨h4, h1, fun h => ?_⟩, h2⟩
    have := h3 h
    have : 0 < s.length := List.length_pos_iff.2 h1
    omega
  · rintro ⟨⟨h4, h1, h3⟩, h2⟩
    exact ⟨⟨⟨h1, h2⟩, fun h => by have := h3 h; omega⟩, h4⟩
theorem decV_tk {s : List UInt8} {i : Nat} {c : UInt8} (h : s[i]? = some c) : decV (s.take (i + 1)) = decV (s.take i) * 10 + (c.toNat - 48) := by
  rw [List.take_add_one, h, Option.toList_some, decV_append]
  congr 1
  unfold decV decF
  simp
theorem decV_sm {s : List UInt8} (h : ∀ c ∈ s, digB c = true) : Sm s.length (decV s) := Nat.lt_of_lt_of_le (decV_lt h) (Nat.pow_le_pow_left (by decide) _)
/-- What stands behind a byte at the beginning. -/
def dropP (c : UInt8) (s : List UInt8) : List UInt8 × Bool := if s.head? = some c then (s.tail, true) else (s, false)
end Go.Jog
namespace Go.Proofs.YtfelabnohopfdaaGreatDoor
open Go Go.Jog
set_option maxRecDepth 100000

theorem idxByte_fn (C : Mem) (s : Str) (c : UInt8) : Gives cx.P 88 [strV s, .int .u8 c.toNat] C (.int .i64 (Lib.indexByte s c)) := by
  have h := Gives.ofCalls (f := 88) (args := [strV s, .int .u8 c.toNat]) (P := cx.P) (by kernel_rfl) (fun w => Any.stringslite_IndexByte Tryz.idxByte ⟨s.toArray⟩ (c.toNat : Int) w) C
  simpa using h
theorem index1_fn (C : Mem) (s : Str) (c : UInt8) : Gives cx.P 111 [strV s, strV [c]] C (.int .i64 (Lib.indexByte s c)) := by
  refine Fn.intro (by kernel_rfl) Tryz.func111 rfl 143 rfl rfl (fun w0 => ?_)
  refine G.region rfl (fun R hR => ?_)
  refine D.pure rfl rfl rfl rfl rfl rfl ?_
  refine D.done [(0, [], _), (1, [], _)] ⟨rfl, rfl, trivial⟩ (hR _ _ _ rfl ?_); clear hR R
  refine G.region rfl (fun R hR => ?_)
  iterate 3 refine D.pure rfl rfl rfl rfl rfl rfl ?_
  refine D.done [(0, [], _), (1, [], _), (5, [], _)] ⟨rfl, rfl, rfl, trivial⟩ (hR _ _ _ rfl ?_); clear hR R
  refine G.region rfl (fun R hR => ?_)
  iterate 6 refine D.pure rfl rfl rfl rfl rfl rfl ?_
  refine D.pickOr rfl rfl rfl rfl rfl rfl rfl rfl ?_
  refine D.pure rfl rfl rfl rfl rfl rfl ?_
  refine D.done [(0, [], _), (1, [], _), (5, [], _), (16, [], _)] ⟨rfl, rfl, rfl, rfl, trivial⟩ (hR _ _ _ rfl ?_); clear hR R
  refine G.cond rfl (fun h16 => ?_) (fun h16 => ?_)
  · skip
    refine G.region rfl (fun R hR => ?_)
    refine D.pure rfl rfl rfl rfl rfl rfl ?_
    refine D.done [(4, [], _)] ⟨rfl, trivial⟩ (hR _ _ _ rfl ?_); clear hR R
    refine G.retN (G.dropAll (G.fin1 rfl rfl ?_))
    refine ⟨?_, rfl⟩
    have h : ([c] : Str) = s := by simpa using h16
    subst h
    simp [Lib.indexByte]
  · skip
    refine G.region rfl (fun R hR => ?_)
    iterate 3 refine D.pure rfl rfl rfl rfl rfl rfl ?_
    refine D.done [(0, [], _), (1, [], _), (5, [], _), (24, [], _)] ⟨rfl, rfl, rfl, rfl, trivial⟩ (hR _ _ _ rfl ?_); clear hR R
    refine G.cond rfl (fun h24 => ?_) (fun h24 => ?_)
    · skip
      refine G.region rfl (fun R hR => ?_)
      iterate 2 refine D.pure rfl rfl rfl rfl rfl rfl ?_
      refine D.indexStr rfl rfl rfl rfl rfl rfl rfl rfl (fun _ => ⟨by omega, (rfl : ([c] : Str)[(0 : Int).toNat]? = some c)⟩) rfl rfl ?_
      refine D.gives2 (idxByte_fn _ s c) rfl rfl rfl rfl rfl rfl rfl (fun _ => rfl) ?_
      refine D.pure rfl rfl rfl rfl rfl rfl ?_
      refine D.done [(4, [], _)] ⟨rfl, trivial⟩ (hR _ _ _ rfl ?_); clear hR R
      refine G.retN (G.dropAll (G.fin1 rfl rfl ?_))
      exact ⟨rfl, rfl⟩
    · skip
      exact absurd h24 (by simp)
theorem cutL_fn (C : Mem) (s : Str) (c : UInt8) (hl : s.length < 1000000) : Gives cx.P 82 [strV s, strV [c]] C (.tuple #[strV (cut1 c s).1, strV ((cut1 c s).2.getD []), .bool (cut1 c s).2.isSome]) := by
  refine Fn.intro (by kernel_rfl) Tryz.func82 rfl 23 rfl rfl (fun w0 => ?_)
  refine G.region rfl (fun R hR => ?_)
  iterate 3 refine D.pure rfl rfl rfl rfl rfl rfl ?_
  refine D.done [(0, [], _), (1, [], _)] ⟨rfl, rfl, trivial⟩ (hR _ _ _ rfl ?_); clear hR R
  refine G.region rfl (fun R hR => ?_)
  iterate 2 refine D.pure rfl rfl rfl rfl rfl rfl ?_
  refine D.gives2 (index1_fn _ s c) rfl rfl rfl rfl rfl rfl rfl (fun _ => rfl) ?_
  refine D.pure rfl rfl rfl rfl rfl rfl ?_
  refine D.done [(0, [], _), (1, [], _), (7, [], _)] ⟨rfl, rfl, rfl, trivial⟩ (hR _ _ _ rfl ?_); clear hR R
  refine G.region rfl (fun R hR => ?_)
  iterate 2 refine D.pure rfl rfl rfl rfl rfl rfl ?_
  refine D.done [(0, [], _), (1, [], _), (7, [], _), (12, [], _)] ⟨rfl, rfl, rfl, rfl, trivial⟩ (hR _ _ _ rfl ?_); clear hR R
  refine G.cond rfl (fun h12 => ?_) (fun h12 => ?_)
  · skip
    have h0 : 0 ≤ Lib.indexByte s c := by simpa using h12
    obtain ⟨pre, post, h1, h2, h3⟩ := cut1_hit h0
    have hle : s.length = pre.length + 1 + post.length := by rw [h2]; simp; omega
    rw [h1, h3]
    refine G.draw [0, 1, 2, 3, 4, 5, 6, 7, 8, 9, 10, 11] [] rfl (by kernel_rfl) (fun R hB hR => ?_)
    iterate 2 refine D.pure rfl rfl rfl rfl rfl rfl ?_
    refine D.sliceStr 0 pre.length rfl rfl rfl rfl rfl rfl rfl rfl rfl (fun _ => ⟨.inl ⟨rfl, rfl⟩, .inr ⟨_, rfl⟩, .inl ⟨rfl, rfl⟩, by omega, by omega, Nat.le_refl _⟩) rfl rfl ?_
    iterate 4 refine D.pure rfl rfl rfl rfl rfl rfl ?_
    refine D.i64 (((pre.length + 1 : Nat) : Int)) rfl rfl rfl rfl (by simp) (by omega) (by omega) rfl rfl ?_
    refine D.sliceStr (pre.length + 1) s.length rfl rfl rfl rfl rfl rfl rfl rfl rfl (fun _ => ⟨.inr ⟨_, rfl⟩, .inl ⟨rfl, rfl⟩, .inl ⟨rfl, rfl⟩, by omega, Nat.le_refl _, Nat.le_refl _⟩) rfl rfl ?_
    iterate 3 refine D.pure rfl rfl rfl rfl rfl rfl ?_
    refine D.done [(4, [], _), (5, [], _), (6, [], _)] ⟨rfl, rfl, rfl, trivial⟩ (hR _ _ _ rfl ?_); clear hR hB R
    refine G.retN (G.dropAll (G.fin3 rfl rfl rfl rfl ?_))
    refine ⟨?_, rfl⟩
    have e1 : (s.take pre.length).drop 0 = pre := by rw [h2]; simp
    have e2 : (s.take s.length).drop (pre.length + 1) = post := by rw [List.take_length, h2]; simp
    rw [e1, e2]; rfl
  · skip
    have h0 : ¬ 0 ≤ Lib.indexByte s c := by simpa using h12
    rw [cut1_miss h0]
    refine G.region rfl (fun R hR => ?_)
    iterate 4 refine D.pure rfl rfl rfl rfl rfl rfl ?_
    refine D.done [(4, [], _), (5, [], _), (6, [], _)] ⟨rfl, rfl, rfl, trivial⟩ (hR _ _ _ rfl ?_); clear hR R
    refine G.retN (G.dropAll (G.fin3 rfl rfl rfl rfl ?_))
    exact ⟨rfl, rfl⟩
theorem cut_fn (C : Mem) (s : Str) (c : UInt8) (hl : s.length < 1000000) : Gives cx.P 41 [strV s, strV [c]] C (.tuple #[strV (cut1 c s).1, strV ((cut1 c s).2.getD []), .bool (cut1 c s).2.isSome]) := by
  refine Fn.intro (by kernel_rfl) Tryz.func41 rfl 13 rfl rfl (fun w0 => ?_)
  refine G.region rfl (fun R hR => ?_)
  iterate 3 refine D.pure rfl rfl rfl rfl rfl rfl ?_
  refine D.done [(0, [], _), (1, [], _)] ⟨rfl, rfl, trivial⟩ (hR _ _ _ rfl ?_); clear hR R
  refine G.region rfl (fun R hR => ?_)
  iterate 2 refine D.pure rfl rfl rfl rfl rfl rfl ?_
  refine D.gives2 (cutL_fn _ s c hl) rfl rfl rfl rfl rfl rfl rfl (fun _ => rfl) ?_
  iterate 6 refine D.pure rfl rfl rfl rfl rfl rfl ?_
  refine D.done [(4, [], _), (5, [], _), (6, [], _)] ⟨rfl, rfl, rfl, trivial⟩ (hR _ _ _ rfl ?_); clear hR R
  refine G.retN (G.dropAll (G.fin3 rfl rfl rfl rfl ?_))
  exact ⟨rfl, rfl⟩
theorem hasP_fn (C : Mem) (s : Str) (c : UInt8) : Gives cx.P 110 [strV s, strV [c]] C (.bool (dropP c s).2) := by
  refine Fn.intro (by kernel_rfl) Tryz.func110 rfl 18 rfl rfl (fun w0 => ?_)
  refine G.region rfl (fun R hR => ?_)
  refine D.pure rfl rfl rfl rfl rfl rfl ?_
  refine D.done [(0, [], _), (1, [], _)] ⟨rfl, rfl, trivial⟩ (hR _ _ _ rfl ?_); clear hR R
  refine G.region rfl (fun R hR => ?_)
  iterate 9 refine D.pure rfl rfl rfl rfl rfl rfl ?_
  refine D.sliceStr 0 1 rfl rfl rfl rfl rfl rfl rfl rfl rfl (fun hg => ⟨.inl ⟨rfl, rfl⟩, .inr ⟨_, rfl⟩, .inl ⟨rfl, rfl⟩, by omega, (by have h : decide ((1 : Int) ≤ (s.length : Int)) = true := hg.1; simp at h; omega), Nat.le_refl _⟩) rfl rfl ?_
  iterate 2 refine D.pure rfl rfl rfl rfl rfl rfl ?_
  refine D.pickAnd rfl rfl rfl rfl rfl rfl rfl rfl ?_
  refine D.pure rfl rfl rfl rfl rfl rfl ?_
  refine D.done [(4, [], _)] ⟨rfl, trivial⟩ (hR _ _ _ rfl ?_); clear hR R
  refine G.retN (G.dropAll (G.fin1 rfl rfl ?_))
  refine ⟨?_, rfl⟩
  cases s with
  | nil => rfl
  | cons b s =>
    have h1 : decide ((1 : Int) ≤ ((b :: s).length : Nat)) = true := by simp; omega
    unfold dropP
    by_cases hb : b = c
    · subst hb; simp; omega
    · simp [hb]
theorem cutPL_fn (C : Mem) (s : Str) (c : UInt8) : Gives cx.P 81 [strV s, strV [c]] C (.tuple #[strV (dropP c s).1, .bool (dropP c s).2]) := by
  refine Fn.intro (by kernel_rfl) Tryz.func81 rfl 15 rfl rfl (fun w0 => ?_)
  refine G.region rfl (fun R hR => ?_)
  iterate 2 refine D.pure rfl rfl rfl rfl rfl rfl ?_
  refine D.done [(0, [], _), (1, [], _)] ⟨rfl, rfl, trivial⟩ (hR _ _ _ rfl ?_); clear hR R
  refine G.region rfl (fun R hR => ?_)
  iterate 2 refine D.pure rfl rfl rfl rfl rfl rfl ?_
  refine D.gives2 (hasP_fn _ s c) rfl rfl rfl rfl rfl rfl rfl (fun _ => rfl) ?_
  refine D.pure rfl rfl rfl rfl rfl rfl ?_
  refine D.done [(0, [], _), (1, [], _), (9, [], _)] ⟨rfl, rfl, rfl, trivial⟩ (hR _ _ _ rfl ?_); clear hR R
  refine G.cond rfl (fun h9 => ?_) (fun h9 => ?_)
  · skip
    have h : ¬ s.head? = some c := fun h => by unfold dropP at h9; rw [if_pos h] at h9; cases h9
    refine G.region rfl (fun R hR => ?_)
    iterate 3 refine D.pure rfl rfl rfl rfl rfl rfl ?_
    refine D.done [(4, [], _), (5, [], _)] ⟨rfl, rfl, trivial⟩ (hR _ _ _ rfl ?_); clear hR R
    refine G.retN (G.dropAll (G.fin2 rfl rfl rfl ?_))
    unfold dropP
    rw [if_neg h]
    exact ⟨rfl, rfl⟩
  · skip
    have h : s.head? = some c := Classical.byContradiction fun h => by unfold dropP at h9; rw [if_neg h] at h9; cases h9
    have hlen : 1 ≤ s.length := by cases s with
      | nil => cases h
      | cons b s => simp
    refine G.region rfl (fun R hR => ?_)
    iterate 3 refine D.pure rfl rfl rfl rfl rfl rfl ?_
    refine D.sliceStr 1 s.length rfl rfl rfl rfl rfl rfl rfl rfl rfl (fun _ => ⟨.inr ⟨_, rfl⟩, .inl ⟨rfl, rfl⟩, .inl ⟨rfl, rfl⟩, by omega, Nat.le_refl _, Nat.le_refl _⟩) rfl rfl ?_
    iterate 2 refine D.pure rfl rfl rfl rfl rfl rfl ?_
    refine D.done [(4, [], _), (5, [], _)] ⟨rfl, rfl, trivial⟩ (hR _ _ _ rfl ?_); clear hR R
    refine G.retN (G.dropAll (G.fin2 rfl rfl rfl ?_))
    unfold dropP
    rw [if_pos h]
    refine ⟨?_, rfl⟩
    rw [List.take_length, List.drop_one]; rfl
theorem cutP_fn (C : Mem) (s : Str) (c : UInt8) : Gives cx.P 40 [strV s, strV [c]] C (.tuple #[strV (dropP c s).1, .bool (dropP c s).2]) := by
  refine Fn.intro (by kernel_rfl) Tryz.func40 rfl 11 rfl rfl (fun w0 => ?_)
  refine G.region rfl (fun R hR => ?_)
  iterate 2 refine D.pure rfl rfl rfl rfl rfl rfl ?_
  refine D.done [(0, [], _), (1, [], _)] ⟨rfl, rfl, trivial⟩ (hR _ _ _ rfl ?_); clear hR R
  refine G.region rfl (fun R hR => ?_)
  iterate 2 refine D.pure rfl rfl rfl rfl rfl rfl ?_
  refine D.gives2 (cutPL_fn _ s c) rfl rfl rfl rfl rfl rfl rfl (fun _ => rfl) ?_
  iterate 4 refine D.pure rfl rfl rfl rfl rfl rfl ?_
  refine D.done [(4, [], _), (5, [], _)] ⟨rfl, rfl, trivial⟩ (hR _ _ _ rfl ?_); clear hR R
  refine G.retN (G.dropAll (G.fin2 rfl rfl rfl ?_))
  exact ⟨rfl, rfl⟩
end Go.Proofs.YtfelabnohopfdaaGreatDoor
namespace Go.Proofs.YtfelabnohopfdaaGreatDoor
open Go Go.Jog
set_option maxRecDepth 100000

theorem natSingle {C : Mem} {v : Value} {n : Nat} (hn : 0 < n) (hb : n < B32) (h : Sl C 1 v [[.int .u32 n]]) : NatC C v n := by
  refine ⟨[n], ⟨fun x hx => by rw [List.mem_singleton.1 hx]; exact hb, ?_⟩, rfl, h⟩
  simp; omega
theorem natTrim {C : Mem} {v : Value} {n : Nat} (hb : n < B32) (h : Sl C 1 v [[.int .u32 n]]) : Pur cx.P 83 [v] C fun u D => NatC D u n := by
  have hd : DigD [n] := fun x hx => by rw [List.mem_singleton.1 hx]; exact hb
  refine (trim_fn C v [n] h).mono fun u D L _ ⟨h1, h2⟩ => ⟨h1, trimD [n], trimD_can hd, ?_, h2⟩
  rw [trimD_val]; rfl
set_option maxHeartbeats 1000000 in
theorem digits_fn (C : Mem) (s : Str) : Pur cx.P 42 [strV s] C fun u D => ∃ A n c, u = .tuple #[.slice A n c, .bool (okD s)] ∧ (okD s = true → NatC D (.slice A n c) (decV s)) := by
  refine Fn.intro (by kernel_rfl) Tryz.func42 rfl 51 rfl rfl (fun w0 => ?_)
  refine G.region rfl (fun R hR => ?_)
  iterate 2 refine D.pure rfl rfl rfl rfl rfl rfl ?_
  refine D.done [(0, [], _)] ⟨rfl, trivial⟩ (hR _ _ _ rfl ?_); clear hR R
  refine G.region rfl (fun R hR => ?_)
  iterate 6 refine D.pure rfl rfl rfl rfl rfl rfl ?_
  refine D.pickOr rfl rfl rfl rfl rfl rfl rfl rfl ?_
  iterate 2 refine D.pure rfl rfl rfl rfl rfl rfl ?_
  refine D.indexStr (b := s.headD 0) rfl rfl rfl rfl rfl rfl rfl rfl (fun hg => ⟨by omega, (by
    cases s with
    | nil => exact Bool.noConfusion (show true = false from hg.1)
    | cons b s => rfl)⟩) rfl rfl ?_
  iterate 5 refine D.pure rfl rfl rfl rfl rfl rfl ?_
  refine D.pickAnd rfl rfl rfl rfl rfl rfl rfl rfl ?_
  refine D.pickOr rfl rfl rfl rfl rfl rfl rfl rfl ?_
  refine D.done [(0, [], _), (22, [], _)] ⟨rfl, rfl, trivial⟩ (hR _ _ _ rfl ?_); clear hR R
  refine G.cond rfl (fun h22 => ?_) (fun h22 => ?_)
  · skip
    have hno : okD s = false := by
      cases ho : okD s with
      | false => rfl
      | true =>
        obtain ⟨⟨_, h2, h3⟩, h4⟩ := okD_can.1 ho
        exfalso
        cases s with
        | nil => exact h2 rfl
        | cons b s =>
          simp at h22 h3 h4
          rcases h22 with h | h
          · omega
          · have hb : b = 48 := UInt8.toNat_inj.1 (by have h1 := h.1; show b.toNat = 48; omega)
            have := h3 hb
            subst this
            simp at h
    refine G.region rfl (fun R hR => ?_)
    iterate 2 refine D.pure rfl rfl rfl rfl rfl rfl ?_
    refine D.done [(2, [], _), (3, [], _)] ⟨rfl, rfl, trivial⟩ (hR _ _ _ rfl ?_); clear hR R
    refine G.retN (G.dropAll (G.fin2 rfl rfl rfl ?_))
    exact ⟨rfl, _, _, _, by rw [hno], fun h => by rw [hno] at h; cases h⟩
  · skip
    have hf : s ≠ [] ∧ s.length ≤ 200 ∧ (s.head? = some 48 → s.length = 1) := by
      cases s with
      | nil => simp at h22
      | cons b s =>
        simp at h22
        refine ⟨by simp, by simp; omega, fun h => ?_⟩
        have hb : b = 48 := by simpa using h
        subst hb
        have := h22.2
        simp at this
        have h0 : s.length = 0 := by omega
        rw [List.length_eq_zero_iff.1 h0]; rfl
    refine G.region rfl (fun R hR => ?_)
    refine D.pure rfl rfl rfl rfl rfl rfl ?_
    refine D.done [(0, [], _), (4, [], _)] ⟨rfl, rfl, trivial⟩ (hR _ _ _ rfl ?_); clear hR R
    refine G.region rfl (fun R hR => ?_)
    iterate 3 refine D.pure rfl rfl rfl rfl rfl rfl ?_
    refine D.done [(0, [], _), (4, [], _), (24, [], _), (25, [], _)] ⟨rfl, rfl, rfl, rfl, trivial⟩ (hR _ _ _ rfl ?_); clear hR R
    refine G.loop (fun fr C' L' μ => ∃ (i : Nat) (w : Value), (i ≤ s.length ∧ NatC C' w (decV (s.take i)) ∧ ∀ c ∈ s.take i, digB c = true) ∧ fr = [(0, [], strV s), (4, [], w), (24, [], .int .i64 s.length), (25, [], .int .i64 i)] ∧ L' = [] ∧ μ = s.length - i) (fr' := [(0, [], _), (4, [], _), (24, [], _), (25, [], _)]) ⟨rfl, rfl, rfl, rfl, trivial⟩ ⟨0, _, ⟨Nat.zero_le _, natNil _, by simp⟩, rfl, rfl, rfl⟩ (fun fr C0' L0' m hle0 hI => ?_)
    obtain ⟨i, w, ⟨hi, hw, hdig⟩, rfl, rfl, rfl⟩ := hI
    refine G.region rfl (fun R hR => ?_)
    refine D.pure rfl rfl rfl rfl rfl rfl ?_
    refine D.done [(0, [], _), (4, [], _), (24, [], _), (25, [], _), (26, [], _)] ⟨rfl, rfl, rfl, rfl, rfl, trivial⟩ (hR _ _ _ rfl ?_); clear hR R
    refine G.cond rfl (fun h26 => ?_) (fun h26 => ?_)
    · skip
      have hil : i < s.length := by simpa using h26
      obtain ⟨c, hc⟩ : ∃ c, s[i]? = some c := ⟨s[i], List.getElem?_eq_getElem hil⟩
      refine G.region rfl (fun R hR => ?_)
      iterate 2 refine D.pure rfl rfl rfl rfl rfl rfl ?_
      refine D.done [(0, [], _), (4, [], _), (5, [], _), (24, [], _), (25, [], _)] ⟨rfl, rfl, rfl, rfl, rfl, trivial⟩ (hR _ _ _ rfl ?_); clear hR R
      refine G.region rfl (fun R hR => ?_)
      iterate 2 refine D.pure rfl rfl rfl rfl rfl rfl ?_
      refine D.indexStr rfl rfl rfl rfl rfl rfl rfl rfl (fun _ => ⟨by omega, hc⟩) rfl rfl ?_
      iterate 4 refine D.pure rfl rfl rfl rfl rfl rfl ?_
      refine D.indexStr rfl rfl rfl rfl rfl rfl rfl rfl (fun _ => ⟨by omega, hc⟩) rfl rfl ?_
      refine D.pure rfl rfl rfl rfl rfl rfl ?_
      refine D.pickOr rfl rfl rfl rfl rfl rfl rfl rfl ?_
      refine D.done [(0, [], _), (4, [], _), (5, [], _), (24, [], _), (25, [], _), (37, [], _)] ⟨rfl, rfl, rfl, rfl, rfl, rfl, trivial⟩ (hR _ _ _ rfl ?_); clear hR R
      refine G.cond rfl (fun h37 => ?_) (fun h37 => ?_)
      · skip
        have hno : okD s = false := by
          cases ho : okD s with
          | false => rfl
          | true =>
            exfalso
            have h := (okD_can.1 ho).1.1 c (List.mem_of_getElem? hc)
            unfold digB at h
            simp at h37 h
            omega
        refine G.region rfl (fun R hR => ?_)
        iterate 2 refine D.pure rfl rfl rfl rfl rfl rfl ?_
        refine D.done [(2, [], _), (3, [], _)] ⟨rfl, rfl, trivial⟩ (hR _ _ _ rfl ?_); clear hR R
        refine G.retN (G.dropAll (G.fin2 rfl rfl rfl ?_))
        exact ⟨rfl, _, _, _, by rw [hno], fun h => by rw [hno] at h; cases h⟩
      · skip
        have hcd : 48 ≤ c.toNat ∧ c.toNat ≤ 57 := by
          simp at h37
          omega
        have hsm : Sm s.length (decV (s.take i)) := (decV_sm hdig).le (by rw [List.length_take]; omega)
        refine G.cut (fun fr C' L' μ => ∃ (w2 : Value), (NatC C' w2 (decV (s.take (i + 1)))) ∧ fr = [(0, [], strV s), (4, [], w2), (24, [], .int .i64 s.length), (25, [], .int .i64 i)] ∧ L' = []) ?_ (fun fr Cr9 Lr9 μ hler9 hI => ?_)
        · skip
          refine G.drawT (.cut [0, 3, 4, 5, 6, 7] (.alt 1 (.cut [] (.alt 2 (.fin [8, 9, 10, 11]) (.alt 8 (.fin [2, 9, 10, 11]) .stop))) (.alt 8 (.fin [1, 2, 9, 10, 11]) .stop))) [(7, 0)] rfl rfl (by kernel_rfl) (fun R hB hR hH => ?_)
          iterate 3 refine D.pure rfl rfl rfl rfl rfl rfl ?_
          refine D.indexStr rfl rfl rfl rfl rfl rfl rfl rfl (fun _ => ⟨by omega, hc⟩) rfl rfl ?_
          refine D.int (((c.toNat - 48 : Nat) : Int)) rfl rfl rfl rfl (by rw [IntKind.wrap_u8]; omega) rfl rfl ?_
          refine D.convQ (c := ((c.toNat - 48 : Nat) : Int)) rfl rfl rfl rfl rfl rfl rfl rfl (by rw [IntKind.wrap_u32]; omega) rfl rfl ?_
          refine D.fork hH rfl ⟨?_, ?_, trivial⟩
          · skip
            refine D.buildSlice [[.int .u32 10]] rfl rfl rfl rfl rfl rfl rfl rfl rfl rfl rfl rfl (fun _ => rfl) (fun p39 C39 hle39 hs39 => ?_)
            refine D.fork hH rfl ⟨?_, ?_, trivial⟩
            · skip
              refine D.callP (natMul (k := 1) (hw.mono (by (repeat (first | exact Mem.le.refl _ | assumption | (apply Mem.le.trans; rotate_left; assumption))))) (natSingle (n := 10) (by decide) (by decide) (hs39.mono (by (repeat (first | exact Mem.le.refl _ | assumption | (apply Mem.le.trans; rotate_left; assumption)))))) hsm (Sm.one (by decide)) (by omega) (by omega)) rfl rfl rfl rfl rfl rfl rfl (fun _ => rfl) (fun v40 C40 hle40 hq40 => ?_)
              refine D.buildSlice [[.int .u32 ((c.toNat - 48 : Nat) : Int)]] rfl rfl rfl rfl rfl rfl rfl rfl rfl rfl rfl rfl (fun _ => rfl) (fun p46 C46 hle46 hs46 => ?_)
              refine D.callP (natTrim (n := c.toNat - 48) (Nat.lt_of_le_of_lt (Nat.sub_le _ _) (Nat.lt_of_lt_of_le (UInt8.toNat_lt c) (by decide))) (hs46.mono (by (repeat (first | exact Mem.le.refl _ | assumption | (apply Mem.le.trans; rotate_left; assumption)))))) rfl rfl rfl rfl rfl rfl rfl (fun _ => rfl) (fun v47 C47 hle47 hq47 => ?_)
              refine D.callP (natAdd (k := s.length + 1) (hq40.mono (by (repeat (first | exact Mem.le.refl _ | assumption | (apply Mem.le.trans; rotate_left; assumption))))) (hq47.mono (by (repeat (first | exact Mem.le.refl _ | assumption | (apply Mem.le.trans; rotate_left; assumption))))) (hsm.mul (Sm.one (by decide))) (Sm.le (Sm.one (Nat.lt_of_le_of_lt (Nat.sub_le _ _) (Nat.lt_of_lt_of_le (UInt8.toNat_lt c) (by decide)))) (by omega)) (by omega)) rfl rfl rfl rfl rfl rfl rfl (fun _ => rfl) (fun v48 C48 hle48 hq48 => ?_)
              refine D.pure rfl rfl rfl rfl rfl rfl ?_
              refine D.done [(0, [], _), (4, [], _), (24, [], _), (25, [], _)] ⟨rfl, rfl, rfl, rfl, trivial⟩ (hR _ _ _ rfl ?_); clear hR hB hH R
              exact G.meet 0 (by (repeat (first | exact Mem.le.refl _ | assumption | (apply Mem.le.trans; rotate_left; assumption)))) (fr' := [(0, [], _), (4, [], _), (24, [], _), (25, [], _)]) ⟨rfl, rfl, rfl, rfl, trivial⟩ ⟨_, by rw [decV_tk hc]; exact hq48.mono (by (repeat (first | exact Mem.le.refl _ | assumption | (apply Mem.le.trans; rotate_left; assumption)))), rfl, rfl⟩
            · skip
              refine D.buildSlice [[.int .u32 ((c.toNat - 48 : Nat) : Int)]] rfl rfl rfl rfl rfl rfl rfl rfl rfl rfl rfl rfl (fun _ => rfl) (fun p46 C46 hle46 hs46 => ?_)
              refine D.callP (natMul (k := 1) (hw.mono (by (repeat (first | exact Mem.le.refl _ | assumption | (apply Mem.le.trans; rotate_left; assumption))))) (natSingle (n := 10) (by decide) (by decide) (hs39.mono (by (repeat (first | exact Mem.le.refl _ | assumption | (apply Mem.le.trans; rotate_left; assumption)))))) hsm (Sm.one (by decide)) (by omega) (by omega)) rfl rfl rfl rfl rfl rfl rfl (fun _ => rfl) (fun v40 C40 hle40 hq40 => ?_)
              refine D.callP (natTrim (n := c.toNat - 48) (Nat.lt_of_le_of_lt (Nat.sub_le _ _) (Nat.lt_of_lt_of_le (UInt8.toNat_lt c) (by decide))) (hs46.mono (by (repeat (first | exact Mem.le.refl _ | assumption | (apply Mem.le.trans; rotate_left; assumption)))))) rfl rfl rfl rfl rfl rfl rfl (fun _ => rfl) (fun v47 C47 hle47 hq47 => ?_)
              refine D.callP (natAdd (k := s.length + 1) (hq40.mono (by (repeat (first | exact Mem.le.refl _ | assumption | (apply Mem.le.trans; rotate_left; assumption))))) (hq47.mono (by (repeat (first | exact Mem.le.refl _ | assumption | (apply Mem.le.trans; rotate_left; assumption))))) (hsm.mul (Sm.one (by decide))) (Sm.le (Sm.one (Nat.lt_of_le_of_lt (Nat.sub_le _ _) (Nat.lt_of_lt_of_le (UInt8.toNat_lt c) (by decide)))) (by omega)) (by omega)) rfl rfl rfl rfl rfl rfl rfl (fun _ => rfl) (fun v48 C48 hle48 hq48 => ?_)
              refine D.pure rfl rfl rfl rfl rfl rfl ?_
              refine D.done [(0, [], _), (4, [], _), (24, [], _), (25, [], _)] ⟨rfl, rfl, rfl, rfl, trivial⟩ (hR _ _ _ rfl ?_); clear hR hB hH R
              exact G.meet 0 (by (repeat (first | exact Mem.le.refl _ | assumption | (apply Mem.le.trans; rotate_left; assumption)))) (fr' := [(0, [], _), (4, [], _), (24, [], _), (25, [], _)]) ⟨rfl, rfl, rfl, rfl, trivial⟩ ⟨_, by rw [decV_tk hc]; exact hq48.mono (by (repeat (first | exact Mem.le.refl _ | assumption | (apply Mem.le.trans; rotate_left; assumption)))), rfl, rfl⟩
          · skip
            refine D.buildSlice [[.int .u32 ((c.toNat - 48 : Nat) : Int)]] rfl rfl rfl rfl rfl rfl rfl rfl rfl rfl rfl rfl (fun _ => rfl) (fun p46 C46 hle46 hs46 => ?_)
            refine D.buildSlice [[.int .u32 10]] rfl rfl rfl rfl rfl rfl rfl rfl rfl rfl rfl rfl (fun _ => rfl) (fun p39 C39 hle39 hs39 => ?_)
            refine D.callP (natMul (k := 1) (hw.mono (by (repeat (first | exact Mem.le.refl _ | assumption | (apply Mem.le.trans; rotate_left; assumption))))) (natSingle (n := 10) (by decide) (by decide) (hs39.mono (by (repeat (first | exact Mem.le.refl _ | assumption | (apply Mem.le.trans; rotate_left; assumption)))))) hsm (Sm.one (by decide)) (by omega) (by omega)) rfl rfl rfl rfl rfl rfl rfl (fun _ => rfl) (fun v40 C40 hle40 hq40 => ?_)
            refine D.callP (natTrim (n := c.toNat - 48) (Nat.lt_of_le_of_lt (Nat.sub_le _ _) (Nat.lt_of_lt_of_le (UInt8.toNat_lt c) (by decide))) (hs46.mono (by (repeat (first | exact Mem.le.refl _ | assumption | (apply Mem.le.trans; rotate_left; assumption)))))) rfl rfl rfl rfl rfl rfl rfl (fun _ => rfl) (fun v47 C47 hle47 hq47 => ?_)
            refine D.callP (natAdd (k := s.length + 1) (hq40.mono (by (repeat (first | exact Mem.le.refl _ | assumption | (apply Mem.le.trans; rotate_left; assumption))))) (hq47.mono (by (repeat (first | exact Mem.le.refl _ | assumption | (apply Mem.le.trans; rotate_left; assumption))))) (hsm.mul (Sm.one (by decide))) (Sm.le (Sm.one (Nat.lt_of_le_of_lt (Nat.sub_le _ _) (Nat.lt_of_lt_of_le (UInt8.toNat_lt c) (by decide)))) (by omega)) (by omega)) rfl rfl rfl rfl rfl rfl rfl (fun _ => rfl) (fun v48 C48 hle48 hq48 => ?_)
            refine D.pure rfl rfl rfl rfl rfl rfl ?_
            refine D.done [(0, [], _), (4, [], _), (24, [], _), (25, [], _)] ⟨rfl, rfl, rfl, rfl, trivial⟩ (hR _ _ _ rfl ?_); clear hR hB hH R
            exact G.meet 0 (by (repeat (first | exact Mem.le.refl _ | assumption | (apply Mem.le.trans; rotate_left; assumption)))) (fr' := [(0, [], _), (4, [], _), (24, [], _), (25, [], _)]) ⟨rfl, rfl, rfl, rfl, trivial⟩ ⟨_, by rw [decV_tk hc]; exact hq48.mono (by (repeat (first | exact Mem.le.refl _ | assumption | (apply Mem.le.trans; rotate_left; assumption)))), rfl, rfl⟩
        obtain ⟨w2, hw2, rfl, rfl⟩ := hI
        refine G.region rfl (fun R hR => ?_)
        refine D.i64 _ rfl rfl rfl rfl rfl (by omega) (by omega) rfl rfl ?_
        refine D.pure rfl rfl rfl rfl rfl rfl ?_
        refine D.done [(0, [], _), (4, [], _), (24, [], _), (25, [], _)] ⟨rfl, rfl, rfl, rfl, trivial⟩ (hR _ _ _ rfl ?_); clear hR R
        refine G.again (m' := s.length - (i + 1)) (by omega) (by (repeat (first | exact Mem.le.refl _ | assumption | (apply Mem.le.trans; rotate_left; assumption)))) (fr' := [(0, [], _), (4, [], _), (24, [], _), (25, [], _)]) ⟨rfl, rfl, rfl, rfl, trivial⟩ ⟨i + 1, w2, ⟨by omega, hw2.mono (by (repeat (first | exact Mem.le.refl _ | assumption | (apply Mem.le.trans; rotate_left; assumption)))), fun x hx => by
          rw [List.take_add_one, hc] at hx
          rcases List.mem_append.1 hx with h | h
          · exact hdig x h
          · simp at h; subst h
            unfold digB; simp [hcd]⟩, rfl, rfl, rfl⟩
    · skip
      have hil : i = s.length := by
        have : ¬ i < s.length := by simpa using h26
        omega
      rw [hil, List.take_length] at hw hdig
      have hok : okD s = true := okD_can.2 ⟨⟨hdig, hf.1, hf.2.2⟩, hf.2.1⟩
      refine G.region rfl (fun R hR => ?_)
      iterate 3 refine D.pure rfl rfl rfl rfl rfl rfl ?_
      refine D.done [(2, [], _), (3, [], _)] ⟨rfl, rfl, trivial⟩ (hR _ _ _ rfl ?_); clear hR R
      refine G.retN (G.dropAll (G.fin2 rfl rfl rfl ?_))
      obtain ⟨A9, n9, c9, rfl, _, _⟩ := hw.form
      exact ⟨rfl, _, _, _, by rw [hok], fun _ => hw.mono (by (repeat (first | exact Mem.le.refl _ | assumption | (apply Mem.le.trans; rotate_left; assumption))))⟩
end Go.Proofs.YtfelabnohopfdaaGreatDoor
namespace Go.Proofs.YtfelabnohopfdaaGreatDoor
open Go Go.Jog
set_option maxRecDepth 100000

/-- What is read. -/
def readM (s : Str) : Option Rat :=
  if okD (cut1 47 (dropP 45 s).1).1 && !((dropP 45 s).2 && decV (cut1 47 (dropP 45 s).1).1 == 0) then
    match (cut1 47 (dropP 45 s).1).2 with
    | none => some (ratB (dropP 45 s).2 (decV (cut1 47 (dropP 45 s).1).1) 1)
    | some b => if okD b && decide (1 < decV b) && !(decV (cut1 47 (dropP 45 s).1).1 == 0) && (Nat.gcd (decV (cut1 47 (dropP 45 s).1).1) (decV b) == 1) then some (ratB (dropP 45 s).2 (decV (cut1 47 (dropP 45 s).1).1) (decV b)) else none
  else none
theorem frOf {C : Mem} {u w : Value} {n d : Nat} {b : Bool} (hd : 0 < d) (hg : Nat.gcd n d = 1) (hb : n = 0 → b = false) (hu : NatC C u n) (hw : NatC C w d) : FrC C (.agg ⟨encF b u w⟩) (ratB b n d) := by
  have hdn : d ≠ 0 := by omega
  refine ⟨u, w, ?_, ?_, ?_⟩
  · by_cases hn : n = 0
    · rw [hb hn, hn, ratB_zero]; rfl
    · rw [ratB_neg hdn hn]
  · rw [ratB_abs hdn, hg, Nat.div_one]; exact hu
  · rw [ratB_den hdn, hg, Nat.div_one]; exact hw
def zeroF : Value := .agg ⟨encF false (.slice none 0 0) (.slice none 0 0)⟩
def ReadAt (D : Mem) (v : Value) : Option Rat → Prop
  | none => v = zeroF
  | some q => FrC D v q
theorem not_off {b : Bool} (h : (!b) = false) : b = true := by cases b <;> simp_all
theorem natGcdV {C : Mem} {u v : Value} {m n k : Nat} (hu : NatC C u m) (hv : NatC C v n) (hm : Sm k m) (hn : Sm k n) (hk : k ≤ 1000000) (hm0 : 0 < m) (hn0 : 0 < n) : Pur cx.P 44 [u, v] C fun w D => ∃ b : Value, w = (fun x : Value => x) b ∧ NatC D b (Nat.gcd m n) :=
  (natGcd hu hv hm hn hk hm0 hn0).mono fun v _ _ _ ⟨h1, h2⟩ => ⟨h1, v, rfl, h2⟩
theorem okD_sm {s : Str} (h : okD s = true) : Sm 200 (decV s) := (decV_sm (okD_can.1 h).1.1).le (okD_can.1 h).2
set_option maxHeartbeats 2000000 in
theorem read_fn (C : Mem) (s : Str) (hl : s.length < 1000000) : Pur cx.P 18 [strV s] C fun u D => ∃ v, u = .tuple #[v, .bool (readM s).isSome] ∧ ReadAt D v (readM s) := by
  obtain ⟨t, neg, hdp⟩ : ∃ t b, dropP 45 s = (t, b) := ⟨_, _, rfl⟩
  obtain ⟨top, bo, hct⟩ : ∃ a b, cut1 47 t = (a, b) := ⟨_, _, rfl⟩
  have htl : t.length < 1000000 := by
    have : t = (dropP 45 s).1 := by rw [hdp]
    rw [this]; unfold dropP; split
    · simp; omega
    · exact hl
  have hM : readM s = if okD top && !(neg && decV top == 0) then (match bo with
    | none => some (ratB neg (decV top) 1)
    | some b => if okD b && decide (1 < decV b) && !(decV top == 0) && (Nat.gcd (decV top) (decV b) == 1) then some (ratB neg (decV top) (decV b)) else none) else none := by
    unfold readM; rw [hdp]; simp only; rw [hct]
  refine Fn.intro (by kernel_rfl) Tryz.func18 rfl 72 rfl rfl (fun w0 => ?_)
  refine G.region rfl (fun R hR => ?_)
  refine D.alloc rfl rfl rfl rfl rfl (fun _ => rfl) (fun b2 => ?_)
  refine D.pure rfl rfl rfl rfl rfl rfl ?_
  refine D.done [(0, [], _), (2, [], _)] ⟨rfl, rfl, trivial⟩ (hR _ _ _ rfl ?_); clear hR R
  refine G.region rfl (fun R hR => ?_)
  refine D.pure rfl rfl rfl rfl rfl rfl ?_
  refine D.gives2 (by have h := cutP_fn C s 45; rw [hdp] at h; exact h) rfl rfl rfl rfl rfl rfl rfl (fun _ => rfl) ?_
  iterate 5 refine D.pure rfl rfl rfl rfl rfl rfl ?_
  refine D.done [(2, [], _), (4, [], _), (5, [], _)] ⟨rfl, rfl, rfl, trivial⟩ (hR _ _ _ rfl ?_); clear hR R
  refine G.region rfl (fun R hR => ?_)
  refine D.pure rfl rfl rfl rfl rfl rfl ?_
  refine D.gives2 (by have h := cut_fn C t 47 htl; rw [hct] at h; exact h) rfl rfl rfl rfl rfl rfl rfl (fun _ => rfl) ?_
  iterate 7 refine D.pure rfl rfl rfl rfl rfl rfl ?_
  refine D.done [(2, [], _), (5, [], _), (6, [], _), (7, [], _), (8, [], _)] ⟨rfl, rfl, rfl, rfl, rfl, trivial⟩ (hR _ _ _ rfl ?_); clear hR R
  refine G.region rfl (fun R hR => ?_)
  refine D.pure rfl rfl rfl rfl rfl rfl ?_
  refine D.callP (digits_fn _ top) rfl rfl rfl rfl rfl rfl rfl (fun _ => rfl) (fun v25 C25 hle25 hq25 => ?_)
  obtain ⟨A1, n1, c1, rfl, hn1⟩ := hq25
  iterate 5 refine D.pure rfl rfl rfl rfl rfl rfl ?_
  refine D.done [(2, [], _), (5, [], _), (7, [], _), (8, [], _), (9, [], _), (10, [], _)] ⟨rfl, rfl, rfl, rfl, rfl, rfl, trivial⟩ (hR _ _ _ rfl ?_); clear hR R
  have hz1 : okD top = true → (n1 = 0 ↔ decV top = 0) := fun h => by
    obtain ⟨A, n, c, e, hh, _⟩ := (hn1 h).form
    injection e with e1 e2 e3
    rw [e2]; exact hh
  refine G.region rfl (fun R hR => ?_)
  iterate 8 refine D.pure rfl rfl rfl rfl rfl rfl ?_
  refine D.pickAnd rfl rfl rfl rfl rfl rfl rfl rfl ?_
  refine D.pickOr rfl rfl rfl rfl rfl rfl rfl rfl ?_
  refine D.done [(2, [], _), (5, [], _), (7, [], _), (8, [], _), (9, [], _), (37, [], _)] ⟨rfl, rfl, rfl, rfl, rfl, rfl, trivial⟩ (hR _ _ _ rfl ?_); clear hR R
  refine G.cond rfl (fun h37 => ?_) (fun h37 => ?_)
  · skip
    have hno : readM s = none := by
      rw [hM, if_neg]
      intro h
      simp at h h37
      rcases h37 with h1 | h1
      · rw [h1] at h; cases h.1
      · rcases h.2 with h2 | h2
        · rw [h2] at h1; cases h1.1
        · exact h2 ((hz1 h.1).1 (by omega))
    refine G.region rfl (fun R hR => ?_)
    refine D.build (encF false (.slice none 0 0) (.slice none 0 0)) rfl rfl rfl rfl rfl rfl rfl rfl ?_
    refine D.store (j := 0) rfl rfl rfl rfl rfl rfl rfl rfl rfl rfl rfl rfl ?_
    refine D.pure rfl rfl rfl rfl rfl rfl ?_
    refine D.done [(2, [], _), (3, [], _)] ⟨rfl, rfl, trivial⟩ (hR _ _ _ rfl ?_); clear hR R
    refine G.retN (G.finC2 (.head _) rfl rfl rfl rfl rfl ?_)
    exact ⟨rfl, _, by rw [hno]; rfl, by rw [hno]; rfl⟩
  · skip
    have hot : okD top = true ∧ (neg = true → ¬ decV top = 0) := by
      simp at h37
      refine ⟨h37.1, fun h h0 => ?_⟩
      have := h37.2 h
      have := (hz1 h37.1).2 h0
      omega
    have hcond : (okD top && !(neg && decV top == 0)) = true := by
      simp [hot.1]
      cases hn : neg with
      | false => exact .inl rfl
      | true => exact .inr (hot.2 hn)
    rw [if_pos hcond] at hM
    have hng : decV top = 0 → neg = false := fun h => by
      cases hn : neg with
      | false => rfl
      | true => exact absurd h (hot.2 hn)
    refine G.region rfl (fun R hR => ?_)
    refine D.buildSliceV [[.int .u32 1]] rfl rfl rfl rfl rfl rfl rfl rfl rfl rfl rfl rfl (fun _ => rfl) (fun b39 C39 hle39 hs39 => ?_)
    refine D.pure rfl rfl rfl rfl rfl rfl ?_
    refine D.done [(2, [], _), (5, [], _), (7, [], _), (8, [], _), (9, [], _), (11, [], _)] ⟨rfl, rfl, rfl, rfl, rfl, rfl, trivial⟩ (hR _ _ _ rfl ?_); clear hR R
    refine G.region rfl (fun R hR => ?_)
    refine D.pure rfl rfl rfl rfl rfl rfl ?_
    refine D.done [(2, [], _), (5, [], _), (7, [], _), (9, [], _), (11, [], _), (40, [], _)] ⟨rfl, rfl, rfl, rfl, rfl, rfl, trivial⟩ (hR _ _ _ rfl ?_); clear hR R
    refine G.cond rfl (fun h40 => ?_) (fun h40 => ?_)
    · skip
      obtain ⟨b, rfl⟩ : ∃ b, bo = some b := by
        cases bo with
        | none => cases h40
        | some b => exact ⟨b, rfl⟩
      refine G.region rfl (fun R hR => ?_)
      refine D.pure rfl rfl rfl rfl rfl rfl ?_
      refine D.callP (digits_fn _ b) rfl rfl rfl rfl rfl rfl rfl (fun _ => rfl) (fun v43 C43 hle43 hq43 => ?_)
      obtain ⟨A2, n2, c2, rfl, hn2⟩ := hq43
      iterate 5 refine D.pure rfl rfl rfl rfl rfl rfl ?_
      refine D.done [(2, [], _), (5, [], _), (9, [], _), (10, [], _), (11, [], _)] ⟨rfl, rfl, rfl, rfl, rfl, trivial⟩ (hR _ _ _ rfl ?_); clear hR R
      refine G.regionO [(5, 2), (16, 2), (18, 2)] rfl (fun R hR => ?_)
      iterate 4 refine D.pure rfl rfl rfl rfl rfl rfl ?_
      refine D.buildSliceG [[.int .u32 1]] rfl rfl rfl rfl rfl rfl rfl rfl rfl rfl rfl rfl (fun _ => rfl) rfl rfl (fun b50 C50 hle50 hs50 => ?_)
      refine D.callPG (fun z : Int => .int .i64 z) (fun hG51 => (by exact natCmp ((hn2 (not_off hG51.1)).mono (by (repeat (first | exact Mem.le.refl _ | assumption | (apply Mem.le.trans; rotate_left; assumption))))) (natOne ((hs50 ⟨hG51.1, trivial⟩).mono (by (repeat (first | exact Mem.le.refl _ | assumption | (apply Mem.le.trans; rotate_left; assumption)))))))) rfl rfl rfl rfl rfl rfl rfl (fun _ => rfl) rfl rfl (fun z51 C51 hle51 hq51 => ?_)
      refine D.pure rfl rfl rfl rfl rfl rfl ?_
      refine D.pickOr rfl rfl rfl rfl rfl rfl rfl rfl ?_
      iterate 4 refine D.pure rfl rfl rfl rfl rfl rfl ?_
      refine D.pickOr rfl rfl rfl rfl rfl rfl rfl rfl ?_
      iterate 3 refine D.pure rfl rfl rfl rfl rfl rfl ?_
      have k51 : okD b = true → CmpRes (decV b) 1 z51 := fun h => hq51 ⟨by show (!okD b) = false; rw [h]; rfl, trivial⟩
      have hgf : ((!okD b || decide (z51 ≤ 0)) || ((n1 : Int) == 0)) = false → okD b = true ∧ 1 < decV b ∧ 0 < decV top := fun h => by
        simp at h
        have h1 := (k51 h.1.1).2.1.1 h.1.2
        have h2 := mt (hz1 hot.1).2 (by omega)
        exact ⟨h.1.1, h1, by omega⟩
      refine D.callPG (fun x : Value => x) (fun hG62 => (by exact natGcdV (k := 200) ((hn1 hot.1).mono (by (repeat (first | exact Mem.le.refl _ | assumption | (apply Mem.le.trans; rotate_left; assumption))))) ((hn2 (hgf hG62.1).1).mono (by (repeat (first | exact Mem.le.refl _ | assumption | (apply Mem.le.trans; rotate_left; assumption))))) (okD_sm hot.1) (okD_sm (hgf hG62.1).1) (by omega) (hgf hG62.1).2.2 (Nat.lt_trans Nat.zero_lt_one (hgf hG62.1).2.1))) rfl rfl rfl rfl rfl rfl rfl (fun _ => rfl) rfl rfl (fun g62 C62 hle62 hq62 => ?_)
      refine D.buildSliceG [[.int .u32 1]] rfl rfl rfl rfl rfl rfl rfl rfl rfl rfl rfl rfl (fun _ => rfl) rfl rfl (fun b63 C63 hle63 hs63 => ?_)
      refine D.callPG (fun z : Int => .int .i64 z) (fun hG64 => (by exact natCmp ((hq62 ⟨hG64.1, trivial⟩).mono (by (repeat (first | exact Mem.le.refl _ | assumption | (apply Mem.le.trans; rotate_left; assumption))))) (natOne ((hs63 ⟨hG64.1, trivial⟩).mono (by (repeat (first | exact Mem.le.refl _ | assumption | (apply Mem.le.trans; rotate_left; assumption)))))))) rfl rfl rfl rfl rfl rfl rfl (fun _ => rfl) rfl rfl (fun z64 C64 hle64 hq64 => ?_)
      have k64 : ((!okD b || decide (z51 ≤ 0)) || ((n1 : Int) == 0)) = false → CmpRes (Nat.gcd (decV top) (decV b)) 1 z64 := fun h => hq64 ⟨h, trivial⟩
      refine D.pure rfl rfl rfl rfl rfl rfl ?_
      refine D.pickOr rfl rfl rfl rfl rfl rfl rfl rfl ?_
      refine D.done [(2, [], _), (5, [], _), (9, [], _), (11, [], _), (66, [], _)] ⟨rfl, rfl, rfl, rfl, rfl, trivial⟩ (hR _ _ _ rfl ?_); clear hR R
      refine G.cond rfl (fun h66 => ?_) (fun h66 => ?_)
      · skip
        have hno : readM s = none := by
          rw [hM]
          simp only
          rw [if_neg]
          intro h
          simp at h
          obtain ⟨⟨⟨h1, h2⟩, h3⟩, h4⟩ := h
          have h5 : ((!okD b || decide (z51 ≤ 0)) || ((n1 : Int) == 0)) = false := by
            have e1 := (k51 h1).2.1.2 h2
            have e2 := mt (hz1 hot.1).1 h3
            simp [h1]
            omega
          have h6 := k64 h5
          rw [h5] at h66
          have h7 : z64 = 0 := by
            have a1 := h6.1
            have a2 := h6.2.1
            omega
          rw [h7] at h66
          simp at h66
        refine G.region rfl (fun R hR => ?_)
        refine D.build (encF false (.slice none 0 0) (.slice none 0 0)) rfl rfl rfl rfl rfl rfl rfl rfl ?_
        refine D.store (j := 0) rfl rfl rfl rfl rfl rfl rfl rfl rfl rfl rfl rfl ?_
        refine D.pure rfl rfl rfl rfl rfl rfl ?_
        refine D.done [(2, [], _), (3, [], _)] ⟨rfl, rfl, trivial⟩ (hR _ _ _ rfl ?_); clear hR R
        refine G.retN (G.finC2 (.head _) rfl rfl rfl rfl rfl ?_)
        exact ⟨rfl, _, by rw [hno]; rfl, by rw [hno]; rfl⟩
      · skip
        have hr : okD b = true ∧ 1 < decV b ∧ 0 < decV top ∧ Nat.gcd (decV top) (decV b) = 1 := by
          rw [Bool.or_eq_false_iff] at h66
          have h1 := hgf h66.1
          have h2 := k64 h66.1
          have h3 : z64 = 0 := by simpa using h66.2
          refine ⟨h1.1, h1.2.1, h1.2.2, ?_⟩
          have a1 := h2.1
          have a2 := h2.2.1
          omega
        have hyes : readM s = some (ratB neg (decV top) (decV b)) := by
          rw [hM]
          simp only
          rw [if_pos]
          simp [hr.1, hr.2.1, hr.2.2.2]
          omega
        refine G.region rfl (fun R hR => ?_)
        iterate 3 refine D.pure rfl rfl rfl rfl rfl rfl ?_
        refine D.build (encF neg (.slice A1 n1 c1) (.slice A2 n2 c2)) rfl rfl rfl rfl rfl rfl rfl rfl ?_
        refine D.store (j := 0) rfl rfl rfl rfl rfl rfl rfl rfl rfl rfl rfl rfl ?_
        refine D.pure rfl rfl rfl rfl rfl rfl ?_
        refine D.done [(2, [], _), (3, [], _)] ⟨rfl, rfl, trivial⟩ (hR _ _ _ rfl ?_); clear hR R
        refine G.retN (G.finC2 (.head _) rfl rfl rfl rfl rfl ?_)
        refine ⟨rfl, _, by rw [hyes]; rfl, ?_⟩
        rw [hyes]
        exact frOf (by omega) hr.2.2.2 hng ((hn1 hot.1).mono (by (repeat (first | exact Mem.le.refl _ | assumption | (apply Mem.le.trans; rotate_left; assumption))))) ((hn2 hr.1).mono (by (repeat (first | exact Mem.le.refl _ | assumption | (apply Mem.le.trans; rotate_left; assumption)))))
    · skip
      obtain rfl : bo = none := by
        cases bo with
        | none => rfl
        | some b => cases h40
      refine G.region rfl (fun R hR => ?_)
      iterate 3 refine D.pure rfl rfl rfl rfl rfl rfl ?_
      refine D.build (encF neg (.slice A1 n1 c1) (.slice (some ⟨b39, 0, none⟩) 1 1)) rfl rfl rfl rfl rfl rfl rfl rfl ?_
      refine D.store (j := 0) rfl rfl rfl rfl rfl rfl rfl rfl rfl rfl rfl rfl ?_
      refine D.pure rfl rfl rfl rfl rfl rfl ?_
      refine D.done [(2, [], _), (3, [], _)] ⟨rfl, rfl, trivial⟩ (hR _ _ _ rfl ?_); clear hR R
      refine G.retN (G.finC2 (.head _) rfl rfl rfl rfl rfl ?_)
      refine ⟨rfl, _, by rw [hM]; rfl, ?_⟩
      rw [hM]
      exact frOf (by omega) (Nat.gcd_one_right _) hng ((hn1 hot.1).mono (by (repeat (first | exact Mem.le.refl _ | assumption | (apply Mem.le.trans; rotate_left; assumption))))) (natOne (hs39.mono (by (repeat (first | exact Mem.le.refl _ | assumption | (apply Mem.le.trans; rotate_left; assumption))))))
end Go.Proofs.YtfelabnohopfdaaGreatDoor
namespace Go.Jog
open Go Go.Proofs Go.Shelf

/-- A variable of the library's, as memory that nobody writes. -/
def VarC (P : Program) (C : Mem) (name : String) (cs : Array Value) : Prop := ∃ g e fz, P.globalNamed name = some g ∧ C g = some (.cells cs e fz)
theorem VarC.mono {P : Program} {C D : Mem} {name : String} {cs : Array Value} (h : VarC P C name cs) (hl : C.le D) : VarC P D name cs :=
  let ⟨g, e, fz, h1, h2⟩ := h
  ⟨g, e, fz, h1, hl _ _ h2⟩
theorem VarC.var {P : Program} {C : Mem} {name : String} {cs : Array Value} (h : VarC P C name cs) {L : List Ent} {w : World} (hw : Sep C L w) : w.var? P name = some cs := by
  obtain ⟨g, e, fz, h1, h2⟩ := h
  have h3 := hw.c _ _ h2
  simp [World.var?, h1, h3]
theorem VarC.ofWorld {P : Program} {W : World} {name : String} {cs : Array Value} (h : W.var? P name = some cs) : VarC P (memOf W) name cs := by
  unfold World.var? at h
  cases hg : P.globalNamed name with
  | none => rw [hg] at h; cases h
  | some g =>
    rw [hg] at h
    simp only [Option.bind_some] at h
    split at h
    · rename_i cs' e fz hb
      simp only [Option.some.injEq] at h
      subst h
      exact ⟨g, e, fz, hg, hb⟩
    · cases h

theorem St.grown {C : Mem} {w : World} (hw : Sep C [] w) (q : Nat) (os : Array Obj) : St w C [] C [] (Sort.grow (w.drewN q) os) :=
  ⟨⟨fun b o hb => by rw [Sort.heap_grow_old (w.drewN q) os (lt_of_heap (hw.c b o hb) : b < (w.drewN q).heap.size)]; exact hw.c b o hb, fun x hx => (by cases hx), List.Pairwise.nil, hw.n⟩,
    ⟨rfl, rfl, rfl, by simp [Sort.grow], fun k hk _ => Sort.heap_grow_old (w.drewN q) os hk, Nat.le_add_right _ _⟩, Mem.le.refl _, fun _ _ hk => .inl hk, fun _ hk => .inr hk⟩

section
variable {P : Program} {ρ : Ren}
/-- strconv.Itoa. -/
theorem itoa_fn (L : LaysM.n171 P ρ) (n : Int) (h0 : -9223372036854775808 ≤ n) (h1 : n ≤ 9223372036854775807) (C : Mem) (hT : VarC P C "internal/strconv.uint64pow10" (Lib.pow10Tab.map fun z => Value.int .u64 z).toArray) (hen : Enters P (ρ.f 171) = true) :
    Gives P (ρ.f 171) [.int .i64 n] C (strV (Lib.itoa n)) :=
  ⟨hen, fun w hw => (Any.strconv_Itoa L n h0 h1 w (hT.var hw)).mono fun e w' ⟨h2, q, os, h3⟩ => by
    subst h3
    exact ⟨_, C, [], h2, St.grown hw q os, rfl, rfl⟩⟩
end
end Go.Jog
namespace Go.Proofs.YtfelabnohopfdaaGreatDoor
open Go Go.Jog
set_option maxRecDepth 100000

/-- The library's table that the seat reads. -/
structure Tabs (C : Mem) : Prop where
  pow : VarC cx.P C "internal/strconv.uint64pow10" (Lib.pow10Tab.map fun z => Value.int .u64 z).toArray
theorem Tabs.mono {C D : Mem} (h : Tabs C) (hl : C.le D) : Tabs D := ⟨h.pow.mono hl⟩
theorem itoa_g (C : Mem) (hT : Tabs C) (n : Int) (h0 : -9223372036854775808 ≤ n) (h1 : n ≤ 9223372036854775807) : Gives cx.P 99 [.int .i64 n] C (strV (Lib.itoa n)) :=
  itoa_fn Tryz.itoa n h0 h1 C hT.pow (by kernel_rfl)

/-- The cells of a fraction. -/
structure FV where
  b : Bool
  A : Option Addr
  n : Nat
  c : Nat
  A2 : Option Addr
  n2 : Nat
  c2 : Nat
def FV.enc (x : FV) : List Value := [.bool x.b, .slice x.A x.n x.c, .slice x.A2 x.n2 x.c2]
theorem fv_len (x : FV) : x.enc.length = 3 := rfl
theorem FrC.fv {C : Mem} {v : Value} {q : Rat} (h : FrC C v q) : ∃ x : FV, v = .agg ⟨x.enc⟩ := by
  obtain ⟨A, n, c, A', n', c', rfl⟩ := h.form
  exact ⟨⟨_, A, n, c, A', n', c'⟩, rfl⟩
theorem ReadAt.fv {D : Mem} {v : Value} : ∀ {o : Option Rat}, ReadAt D v o → ∃ x : FV, v = .agg ⟨x.enc⟩
  | none, h => ⟨⟨false, none, 0, 0, none, 0, 0⟩, h⟩
  | some _, h => FrC.fv h
def RowsF (C : Mem) (xs : List FV) (qs : List Rat) : Prop := xs.length = qs.length ∧ ∀ (i : Nat) (x : FV) (q : Rat), xs[i]? = some x → qs[i]? = some q → FrC C (.agg ⟨x.enc⟩) q
theorem RowsF.mono {C D : Mem} {xs : List FV} {qs : List Rat} (h : RowsF C xs qs) (hl : C.le D) : RowsF D xs qs := ⟨h.1, fun i x q h1 h2 => (h.2 i x q h1 h2).mono hl⟩
theorem RowsF.nil (C : Mem) : RowsF C [] [] := ⟨rfl, fun i x q h => by simp at h⟩
theorem RowsF.snoc {C : Mem} {xs : List FV} {qs : List Rat} {x : FV} {q : Rat} (h : RowsF C xs qs) (hx : FrC C (.agg ⟨x.enc⟩) q) : RowsF C (xs ++ [x]) (qs ++ [q]) := by
  refine ⟨by simp [h.1], fun i y p h1 h2 => ?_⟩
  rcases Nat.lt_or_ge i xs.length with hi | hi
  · rw [List.getElem?_append_left hi] at h1
    rw [List.getElem?_append_left (by rw [← h.1]; exact hi)] at h2
    exact h.2 i y p h1 h2
  · rw [List.getElem?_append_right hi] at h1
    rw [List.getElem?_append_right (by rw [← h.1]; exact hi)] at h2
    cases hk : i - xs.length with
    | zero =>
      rw [← h.1, hk] at h2
      rw [hk] at h1
      simp at h1 h2
      subst h1 h2
      exact hx
    | succ k => rw [hk] at h1; simp at h1
/-- A slice of fractions. -/
def FrL (C : Mem) (v : Value) (qs : List Rat) : Prop := ∃ xs : List FV, Sl C 3 v (xs.map FV.enc) ∧ RowsF C xs qs
theorem FrL.mono {C D : Mem} {v : Value} {qs : List Rat} (h : FrL C v qs) (hl : C.le D) : FrL D v qs := by
  obtain ⟨xs, h1, h2⟩ := h
  exact ⟨xs, h1.mono hl, h2.mono hl⟩
theorem FrL.form {C : Mem} {v : Value} {qs : List Rat} (h : FrL C v qs) : ∃ A c, v = .slice A qs.length c := by
  obtain ⟨xs, h1, h2⟩ := h
  obtain ⟨A, c, rfl, _⟩ := h1
  exact ⟨A, c, by rw [List.length_map, show xs.length = qs.length from h2.1]⟩
theorem RowsF.get {C : Mem} {xs : List FV} {qs : List Rat} {i : Nat} {q : Rat} (h : RowsF C xs qs) (hq : qs[i]? = some q) : ∃ x, xs[i]? = some x ∧ (xs.map FV.enc)[i]? = some x.enc ∧ FrC C (.agg ⟨x.enc⟩) q := by
  have hi : i < qs.length := (List.getElem?_eq_some_iff.1 hq).1
  have hx : xs[i]? = some (xs[i]'(Nat.lt_of_lt_of_eq hi h.1.symm)) := List.getElem?_eq_getElem _
  exact ⟨_, hx, by rw [List.getElem?_map, hx]; rfl, h.2 i _ q hx hq⟩
def readsM : List Str → Option (List Rat)
  | [] => some []
  | s :: l => match readM s, readsM l with
    | some q, some qs => some (q :: qs)
    | _, _ => none
theorem readsM_snoc : ∀ (l : List Str) (s : Str), readsM (l ++ [s]) = match readsM l, readM s with
    | some qs, some q => some (qs ++ [q])
    | _, _ => none
  | [], s => by
    simp only [List.nil_append, readsM]
    cases readM s <;> rfl
  | a :: l, s => by
    simp only [List.cons_append, readsM, readsM_snoc l s]
    cases readM a <;> cases readsM l <;> cases readM s <;> rfl
theorem readsM_none : ∀ {l : List Str} {s : Str}, s ∈ l → readM s = none → readsM l = none
  | a :: l, s, hs, h => by
    simp only [readsM]
    rcases List.mem_cons.1 hs with rfl | h2
    · rw [h]
    · rw [readsM_none h2 h]
      cases readM a <;> rfl
theorem readsM_len : ∀ {l : List Str} {qs : List Rat}, readsM l = some qs → qs.length = l.length
  | [], qs, h => by simp only [readsM, Option.some.injEq] at h; subst h; rfl
  | a :: l, qs, h => by
    simp only [readsM] at h
    cases ha : readM a with
    | none => rw [ha] at h; cases h
    | some q =>
      cases hl : readsM l with
      | none => rw [ha, hl] at h; cases h
      | some ps =>
        rw [ha, hl] at h
        simp only [Option.some.injEq] at h
        subst h
        simp [readsM_len hl]
theorem oneSm {k : Nat} (hk : 0 < k) : Sm k 1 := (Sm.one (by decide)).le hk
theorem readM_sm {s : Str} {q : Rat} (h : readM s = some q) : SmQ 200 q := by
  unfold readM at h
  split at h
  · rename_i hc
    simp only [Bool.and_eq_true] at hc
    have h1 := okD_sm hc.1
    split at h
    · cases h
      exact SmQ.ratB _ (by omega) h1 (oneSm (by omega))
    · split at h
      · rename_i hc2
        simp only [Bool.and_eq_true, decide_eq_true_eq] at hc2
        cases h
        exact SmQ.ratB _ (by omega) h1 (okD_sm hc2.1.1.1)
      · cases h
  · cases h
theorem readsM_sm : ∀ {l : List Str} {qs : List Rat}, readsM l = some qs → ∀ q ∈ qs, SmQ 200 q
  | [], qs, h, q, hq => by simp only [readsM, Option.some.injEq] at h; subst h; simp at hq
  | a :: l, qs, h, q, hq => by
    simp only [readsM] at h
    cases ha : readM a with
    | none => rw [ha] at h; cases h
    | some p =>
      cases hl : readsM l with
      | none => rw [ha, hl] at h; cases h
      | some ps =>
        rw [ha, hl] at h
        simp only [Option.some.injEq] at h
        subst h
        rcases List.mem_cons.1 hq with rfl | h2
        · exact readM_sm ha
        · exact readsM_sm hl q h2
set_option maxHeartbeats 1000000 in
theorem readAll_fn (C : Mem) (v : Value) (l : List Str) (hv : Sl C 1 v (l.map encS)) (hl : l.length ≤ 1000000) (hs : ∀ s ∈ l, s.length < 1000000) : Pur cx.P 26 [v] C fun u D => ∃ A n c, u = .tuple #[.slice A n c, .bool (readsM l).isSome] ∧ ∀ qs, readsM l = some qs → FrL D (.slice A n c) qs := by
  obtain ⟨A0, c0, rfl, _⟩ := id hv
  simp only [List.length_map] at hv ⊢
  refine Fn.intro (by kernel_rfl) Tryz.func26 rfl 28 rfl rfl (fun w0 => ?_)
  refine G.region rfl (fun R hR => ?_)
  iterate 2 refine D.pure rfl rfl rfl rfl rfl rfl ?_
  refine D.done [(0, [], _)] ⟨rfl, trivial⟩ (hR _ _ _ rfl ?_); clear hR R
  refine G.region rfl (fun R hR => ?_)
  refine D.pure rfl rfl rfl rfl rfl rfl ?_
  refine D.done [(0, [], _), (4, [], _)] ⟨rfl, rfl, trivial⟩ (hR _ _ _ rfl ?_); clear hR R
  refine G.region rfl (fun R hR => ?_)
  iterate 3 refine D.pure rfl rfl rfl rfl rfl rfl ?_
  refine D.done [(4, [], _), (9, [], _), (10, [], _), (11, [], _)] ⟨rfl, rfl, rfl, rfl, trivial⟩ (hR _ _ _ rfl ?_); clear hR R
  refine G.nilArr 57 3 ?_
  refine G.loop (fun fr C' L' μ => ∃ (i : Nat) (qs : List Rat) (xs : List FV) (w : Value), (i ≤ l.length ∧ readsM (l.take i) = some qs ∧ RowsF C' xs qs ∧ xs.length = i) ∧ fr = [(4, [], w), (9, [], .slice A0 l.length c0), (10, [], .int .i64 l.length), (11, [], .int .i64 i)] ∧ L' = [.arr w 57 3 i (xs.map FV.enc).flatten] ∧ μ = l.length - i) (fr' := [(4, [], _), (9, [], _), (10, [], _), (11, [], _)]) ⟨rfl, rfl, rfl, rfl, trivial⟩ ⟨0, [], [], _, ⟨Nat.zero_le _, rfl, RowsF.nil _, rfl⟩, rfl, rfl, rfl⟩ (fun fr C0' L0' m hle0 hI => ?_)
  obtain ⟨i, qs, xs, w, ⟨hi, hqs, hxs, hxl⟩, rfl, rfl, rfl⟩ := hI
  refine G.region rfl (fun R hR => ?_)
  refine D.pure rfl rfl rfl rfl rfl rfl ?_
  refine D.done [(4, [], _), (9, [], _), (10, [], _), (11, [], _), (12, [], _)] ⟨rfl, rfl, rfl, rfl, rfl, trivial⟩ (hR _ _ _ rfl ?_); clear hR R
  refine G.cond rfl (fun h12 => ?_) (fun h12 => ?_)
  · skip
    have hil : i < l.length := by simpa using h12
    obtain ⟨s, hs0⟩ : ∃ s, l[i]? = some s := ⟨l[i], List.getElem?_eq_getElem hil⟩
    have hrow : (l.map encS)[i]? = some (encS s) := by rw [List.getElem?_map, hs0]; rfl
    have hsl := hs s (List.mem_of_getElem? hs0)
    have htk : l.take (i + 1) = l.take i ++ [s] := by rw [List.take_add_one, hs0]; rfl
    refine G.region rfl (fun R hR => ?_)
    refine D.index0 (hv.mono (by (repeat (first | exact Mem.le.refl _ | assumption | (apply Mem.le.trans; rotate_left; assumption))))) rfl rfl rfl rfl rfl rfl rfl rfl rfl rfl (by omega) hrow (fun _ => rfl) (fun p13 hp13 => ?_)
    refine D.loadP0 hp13 rfl rfl rfl rfl rfl rfl rfl rfl ?_
    refine D.pure rfl rfl rfl rfl rfl rfl ?_
    refine D.done [(4, [], _), (6, [], _), (9, [], _), (10, [], _), (11, [], _)] ⟨rfl, rfl, rfl, rfl, rfl, trivial⟩ (hR _ _ _ rfl ?_); clear hR R
    refine G.region rfl (fun R hR => ?_)
    refine D.pure rfl rfl rfl rfl rfl rfl ?_
    refine D.callP (read_fn _ s hsl) rfl rfl rfl rfl rfl rfl rfl (fun _ => rfl) (fun v17 C17 hle17 hq17 => ?_)
    obtain ⟨vf, rfl, hvf⟩ := hq17
    obtain ⟨x, rfl⟩ := hvf.fv
    iterate 3 refine D.pure rfl rfl rfl rfl rfl rfl ?_
    refine D.alloc rfl rfl rfl rfl rfl (fun _ => rfl) (fun b7 => ?_)
    refine D.store (j := 0) rfl rfl rfl rfl rfl rfl rfl rfl rfl rfl rfl rfl ?_
    refine D.pure rfl rfl rfl rfl rfl rfl ?_
    refine D.done [(4, [], _), (7, [], _), (8, [], _), (9, [], _), (10, [], _), (11, [], _)] ⟨rfl, rfl, rfl, rfl, rfl, rfl, trivial⟩ (hR _ _ _ rfl ?_); clear hR R
    refine G.region rfl (fun R hR => ?_)
    iterate 2 refine D.pure rfl rfl rfl rfl rfl rfl ?_
    refine D.done [(4, [], _), (7, [], _), (9, [], _), (10, [], _), (11, [], _), (21, [], _)] ⟨rfl, rfl, rfl, rfl, rfl, rfl, trivial⟩ (hR _ _ _ rfl ?_); clear hR R
    refine G.cond rfl (fun h21 => ?_) (fun h21 => ?_)
    · skip
      have hno : readM s = none := by
        cases h : readM s with
        | none => rfl
        | some q => rw [h] at h21; cases h21
      have hno2 : readsM l = none := readsM_none (List.mem_of_getElem? hs0) hno
      refine G.region rfl (fun R hR => ?_)
      iterate 2 refine D.pure rfl rfl rfl rfl rfl rfl ?_
      refine D.done [(2, [], _), (3, [], _)] ⟨rfl, rfl, trivial⟩ (hR _ _ _ rfl ?_); clear hR R
      refine G.retN (G.dropAll (G.fin2 rfl rfl rfl ?_))
      exact ⟨rfl, _, _, _, by rw [hno2]; rfl, fun qs h => by rw [hno2] at h; cases h⟩
    · skip
      obtain ⟨q, hq⟩ : ∃ q, readM s = some q := by
        cases h : readM s with
        | none => rw [h] at h21; cases h21
        | some q => exact ⟨q, rfl⟩
      rw [hq] at hvf
      refine G.region rfl (fun R hR => ?_)
      refine D.pure rfl rfl rfl rfl rfl rfl ?_
      refine D.loadL (.head _) rfl rfl rfl rfl rfl rfl rfl rfl rfl ?_
      refine D.buildSlice [x.enc] rfl rfl rfl rfl rfl rfl rfl rfl rfl rfl rfl rfl (fun _ => rfl) (fun p24 C24 hle24 hs24 => ?_)
      refine D.append (j := 1) rfl rfl rfl rfl rfl rfl rfl rfl rfl rfl rfl hs24 rfl (by simp only [List.length_singleton, maxLen]; omega) (by show (i + 1) * 56 ≤ _; omega) (fun _ => rfl) (fun v25 => ?_)
      refine D.pure rfl rfl rfl rfl rfl rfl ?_
      refine D.done [(4, [], _), (9, [], _), (10, [], _), (11, [], _)] ⟨rfl, rfl, rfl, rfl, trivial⟩ (hR _ _ _ rfl ?_); clear hR R
      refine G.region rfl (fun R hR => ?_)
      refine D.i64 _ rfl rfl rfl rfl rfl (by omega) (by omega) rfl rfl ?_
      refine D.pure rfl rfl rfl rfl rfl rfl ?_
      refine D.done [(4, [], _), (9, [], _), (10, [], _), (11, [], _)] ⟨rfl, rfl, rfl, rfl, trivial⟩ (hR _ _ _ rfl ?_); clear hR R
      refine G.dropE 1 rfl ?_
      refine G.eqL (L' := [.arr v25 57 3 (i + 1) ((xs ++ [x]).map FV.enc).flatten]) (by simp) ?_
      refine G.again (m' := l.length - (i + 1)) (by omega) (by (repeat (first | exact Mem.le.refl _ | assumption | (apply Mem.le.trans; rotate_left; assumption)))) (fr' := [(4, [], _), (9, [], _), (10, [], _), (11, [], _)]) ⟨rfl, rfl, rfl, rfl, trivial⟩ ⟨i + 1, qs ++ [q], xs ++ [x], v25, ⟨by omega, by rw [htk, readsM_snoc, hqs, hq], (hxs.mono (by (repeat (first | exact Mem.le.refl _ | assumption | (apply Mem.le.trans; rotate_left; assumption))))).snoc (FrC.mono hvf (by (repeat (first | exact Mem.le.refl _ | assumption | (apply Mem.le.trans; rotate_left; assumption))))), by simp [hxl]⟩, rfl, rfl, rfl⟩
  · skip
    have hil : i = l.length := by
      have : ¬ i < l.length := by simpa using h12
      omega
    rw [hil, List.take_length] at hqs
    refine G.freezeArr 0 (xs.map FV.enc) rfl rfl (by intro r hr; obtain ⟨y, _, rfl⟩ := List.mem_map.1 hr; rfl) (by rw [List.length_map, hxl]) (fun Cf hf hsd => ?_)
    obtain ⟨A9, c9, rfl, _⟩ := id hsd
    refine G.region rfl (fun R hR => ?_)
    iterate 3 refine D.pure rfl rfl rfl rfl rfl rfl ?_
    refine D.done [(2, [], _), (3, [], _)] ⟨rfl, rfl, trivial⟩ (hR _ _ _ rfl ?_); clear hR R
    refine G.retN (G.dropAll (G.fin2 rfl rfl rfl ?_))
    refine ⟨rfl, _, _, _, by rw [hqs]; rfl, fun ps h => ?_⟩
    rw [hqs] at h
    cases h
    exact ⟨xs, hsd.mono (by (repeat (first | exact Mem.le.refl _ | assumption | (apply Mem.le.trans; rotate_left; assumption)))), hxs.mono (by (repeat (first | exact Mem.le.refl _ | assumption | (apply Mem.le.trans; rotate_left; assumption))))⟩
end Go.Proofs.YtfelabnohopfdaaGreatDoor
namespace Go.Proofs.YtfelabnohopfdaaGreatDoor
open Go Go.Jog
set_option maxRecDepth 100000

theorem of_fn (C : Mem) (hT : Tabs C) (n : Int) (q : Rat) (h0 : -9223372036854775808 ≤ n) (h1 : n ≤ 9223372036854775807) (hl : (Lib.itoa n).length < 1000000) (hq : readM (Lib.itoa n) = some q) : Pur cx.P 58 [.int .i64 n] C fun u D => FrC D u q := by
  refine Fn.intro (by kernel_rfl) Tryz.func58 rfl 12 rfl rfl (fun w0 => ?_)
  refine G.region rfl (fun R hR => ?_)
  refine D.alloc rfl rfl rfl rfl rfl (fun _ => rfl) (fun b2 => ?_)
  refine D.done [(0, [], _), (2, [], _)] ⟨rfl, rfl, trivial⟩ (hR _ _ _ rfl ?_); clear hR R
  refine G.region rfl (fun R hR => ?_)
  refine D.pure rfl rfl rfl rfl rfl rfl ?_
  refine D.gives2 (itoa_g _ (hT.mono (by (repeat (first | exact Mem.le.refl _ | assumption | (apply Mem.le.trans; rotate_left; assumption))))) n h0 h1) rfl rfl rfl rfl rfl rfl rfl (fun _ => rfl) ?_
  refine D.callP (read_fn _ _ hl) rfl rfl rfl rfl rfl rfl rfl (fun _ => rfl) (fun v8 C8 hle8 hq8 => ?_)
  obtain ⟨vf, rfl, hvf⟩ := hq8
  obtain ⟨x, rfl⟩ := hvf.fv
  rw [hq] at hvf
  iterate 3 refine D.pure rfl rfl rfl rfl rfl rfl ?_
  refine D.alloc rfl rfl rfl rfl rfl (fun _ => rfl) (fun b3 => ?_)
  refine D.store (j := 0) rfl rfl rfl rfl rfl rfl rfl rfl rfl rfl rfl rfl ?_
  refine D.pure rfl rfl rfl rfl rfl rfl ?_
  refine D.done [(2, [], _), (3, [], _)] ⟨rfl, rfl, trivial⟩ (hR _ _ _ rfl ?_); clear hR R
  refine G.region rfl (fun R hR => ?_)
  refine D.loadL (.head _) rfl rfl rfl rfl rfl rfl rfl rfl rfl ?_
  refine D.store (j := 1) rfl rfl rfl rfl rfl rfl rfl rfl rfl rfl rfl rfl ?_
  refine D.done [(2, [], _)] ⟨rfl, trivial⟩ (hR _ _ _ rfl ?_); clear hR R
  refine G.retN (G.finC (.head _) rfl rfl rfl rfl ?_)
  exact ⟨rfl, FrC.mono hvf (by (repeat (first | exact Mem.le.refl _ | assumption | (apply Mem.le.trans; rotate_left; assumption))))⟩
theorem of0_fn (C : Mem) (hT : Tabs C) : Pur cx.P 58 [.int .i64 0] C fun u D => FrC D u 0 :=
  of_fn C hT 0 0 (by decide) (by decide) (by decide +kernel) (by decide +kernel)
def gQ (l : List Rat) (i : Nat) : Rat := l.getD i 0
theorem gQ_get {l : List Rat} {i : Nat} (h : i < l.length) : l[i]? = some (gQ l i) := by
  unfold gQ; rw [List.getD_eq_getElem?_getD, List.getElem?_eq_getElem h]; rfl
def dotN (ps qs : List Rat) : Nat → Rat
  | 0 => 0
  | i + 1 => dotN ps qs i + gQ ps i * gQ qs i
def dotR (ps qs : List Rat) : Rat := dotN ps qs ps.length
theorem dotN_sm {ps qs : List Rat} {j k : Nat} (hp : ∀ p ∈ ps, SmQ j p) (hq : ∀ q ∈ qs, SmQ k q) (hlen : ps.length ≤ qs.length) : ∀ i, i ≤ ps.length → SmQ ((j + k + 1) * i + 1) (dotN ps qs i)
  | 0, _ => ⟨by show Sm _ 0; unfold Sm; exact Nat.pow_pos (by decide), oneSm (by omega)⟩
  | i + 1, h => by
    have h1 := dotN_sm hp hq hlen i (by omega)
    have h2 := hp _ (List.mem_of_getElem? (gQ_get (l := ps) (i := i) (by omega)))
    have h3 := hq _ (List.mem_of_getElem? (gQ_get (l := qs) (i := i) (by omega)))
    have h4 := h1.add (h2.mul h3)
    have e : (j + k + 1) * (i + 1) + 1 = (j + k + 1) * i + 1 + (j + k) + 1 := by rw [Nat.mul_succ]; omega
    rw [e]
    exact h4
set_option maxHeartbeats 1000000 in
theorem sum_fn (C : Mem) (hT : Tabs C) (va vb : Value) (ps qs : List Rat) (j k : Nat) (ha : FrL C va ps) (hb : FrL C vb qs) (hlen : ps.length ≤ qs.length) (hp : ∀ p ∈ ps, SmQ j p) (hq : ∀ q ∈ qs, SmQ k q) (hs : (j + k + 1) * (ps.length + 1) ≤ 900000) :
    Pur cx.P 28 [va, vb] C fun u D => FrC D u (dotR ps qs) := by
  obtain ⟨xs, hsa, hxa⟩ := ha
  obtain ⟨ys, hsb, hxb⟩ := hb
  obtain ⟨A0, c0, rfl, hlx, hlx2, _⟩ := id hsa
  obtain ⟨B0, d0, rfl, _⟩ := id hsb
  have hlxs : xs.length = ps.length := hxa.1
  have hmx : maxLen ≤ 9223372036854775807 := by simp [maxLen]
  simp only [List.length_map] at hsa hsb hlx hlx2 ⊢
  refine Fn.intro (by kernel_rfl) Tryz.func28 rfl 26 rfl rfl (fun w0 => ?_)
  refine G.region rfl (fun R hR => ?_)
  refine D.alloc rfl rfl rfl rfl rfl (fun _ => rfl) (fun b4 => ?_)
  refine D.done [(0, [], _), (1, [], _), (4, [], _)] ⟨rfl, rfl, rfl, trivial⟩ (hR _ _ _ rfl ?_); clear hR R
  refine G.region rfl (fun R hR => ?_)
  refine D.callP (of0_fn _ (hT.mono (by (repeat (first | exact Mem.le.refl _ | assumption | (apply Mem.le.trans; rotate_left; assumption)))))) rfl rfl rfl rfl rfl rfl rfl (fun _ => rfl) (fun v7 C7 hle7 hq7 => ?_)
  obtain ⟨x0, rfl⟩ := hq7.fv
  refine D.alloc rfl rfl rfl rfl rfl (fun _ => rfl) (fun b5 => ?_)
  refine D.store (j := 0) rfl rfl rfl rfl rfl rfl rfl rfl rfl rfl rfl rfl ?_
  refine D.done [(0, [], _), (1, [], _), (4, [], _), (5, [], _)] ⟨rfl, rfl, rfl, rfl, trivial⟩ (hR _ _ _ rfl ?_); clear hR R
  refine G.region rfl (fun R hR => ?_)
  iterate 3 refine D.pure rfl rfl rfl rfl rfl rfl ?_
  refine D.done [(0, [], _), (1, [], _), (4, [], _), (5, [], _), (9, [], _), (10, [], _)] ⟨rfl, rfl, rfl, rfl, rfl, rfl, trivial⟩ (hR _ _ _ rfl ?_); clear hR R
  refine G.loop (fun fr C' L' μ => ∃ (i : Nat) (x : FV), (i ≤ ps.length ∧ FrC C' (.agg ⟨x.enc⟩) (dotN ps qs i)) ∧ fr = [(0, [], .slice A0 xs.length c0), (1, [], .slice B0 ys.length d0), (4, [], .pointer (some ⟨b4, 0, none⟩)), (5, [], .pointer (some ⟨b5, 0, none⟩)), (9, [], .int .i64 xs.length), (10, [], .int .i64 i)] ∧ L' = [.obj b5 (.cells ⟨x.enc⟩ 57 (0, 0)), .obj b4 (.cells ⟨(FV.mk false none 0 0 none 0 0).enc⟩ 57 (0, 0))] ∧ μ = ps.length - i) (fr' := [(0, [], _), (1, [], _), (4, [], _), (5, [], _), (9, [], _), (10, [], _)]) ⟨rfl, rfl, rfl, rfl, rfl, rfl, trivial⟩ ⟨0, x0, ⟨Nat.zero_le _, hq7⟩, rfl, rfl, rfl⟩ (fun fr C0' L0' m hle0 hI => ?_)
  obtain ⟨i, x, ⟨hi, hx⟩, rfl, rfl, rfl⟩ := hI
  refine G.region rfl (fun R hR => ?_)
  refine D.pure rfl rfl rfl rfl rfl rfl ?_
  refine D.done [(0, [], _), (1, [], _), (4, [], _), (5, [], _), (9, [], _), (10, [], _), (11, [], _)] ⟨rfl, rfl, rfl, rfl, rfl, rfl, rfl, trivial⟩ (hR _ _ _ rfl ?_); clear hR R
  refine G.cond rfl (fun h11 => ?_) (fun h11 => ?_)
  · skip
    have hil : i < ps.length := by rw [← hlxs]; simpa using h11
    obtain ⟨y, hy0, hyr, hy⟩ := hxa.get (gQ_get hil)
    obtain ⟨z, hz0, hzr, hz⟩ := hxb.get (gQ_get (Nat.lt_of_lt_of_le hil hlen))
    have h2 := hp _ (List.mem_of_getElem? (gQ_get hil))
    have h3 := hq _ (List.mem_of_getElem? (gQ_get (Nat.lt_of_lt_of_le hil hlen)))
    have hb1 : (j + k + 1) * (i + 1) ≤ 900000 := Nat.le_trans (Nat.mul_le_mul_left _ (by omega)) hs
    rw [Nat.mul_succ] at hb1
    have hdm := dotN_sm hp hq hlen i hi
    refine G.region rfl (fun R hR => ?_)
    iterate 2 refine D.pure rfl rfl rfl rfl rfl rfl ?_
    refine D.done [(0, [], _), (1, [], _), (4, [], _), (5, [], _), (6, [], _), (9, [], _), (10, [], _)] ⟨rfl, rfl, rfl, rfl, rfl, rfl, rfl, trivial⟩ (hR _ _ _ rfl ?_); clear hR R
    refine G.draw [0, 1, 2, 3, 4, 5, 6, 7, 8, 9, 10, 11] [] rfl (by kernel_rfl) (fun R hB hR => ?_)
    refine D.loadL (.head _) rfl rfl rfl rfl rfl rfl rfl rfl rfl ?_
    iterate 2 refine D.pure rfl rfl rfl rfl rfl rfl ?_
    refine D.index0 (hsa.mono (by (repeat (first | exact Mem.le.refl _ | assumption | (apply Mem.le.trans; rotate_left; assumption))))) rfl rfl rfl rfl rfl rfl rfl rfl rfl rfl (by omega) hyr (fun _ => rfl) (fun p16 hp16 => ?_)
    refine D.loadP0 hp16 rfl rfl rfl rfl rfl rfl rfl rfl ?_
    iterate 2 refine D.pure rfl rfl rfl rfl rfl rfl ?_
    refine D.index0 (hsb.mono (by (repeat (first | exact Mem.le.refl _ | assumption | (apply Mem.le.trans; rotate_left; assumption))))) rfl rfl rfl rfl rfl rfl rfl rfl rfl rfl (by omega) hzr (fun _ => rfl) (fun p20 hp20 => ?_)
    refine D.loadP0 hp20 rfl rfl rfl rfl rfl rfl rfl rfl ?_
    refine D.callP (fmul_fn (hy.mono (by (repeat (first | exact Mem.le.refl _ | assumption | (apply Mem.le.trans; rotate_left; assumption))))) (hz.mono (by (repeat (first | exact Mem.le.refl _ | assumption | (apply Mem.le.trans; rotate_left; assumption))))) h2 h3 (by omega)) rfl rfl rfl rfl rfl rfl rfl (fun _ => rfl) (fun v22 C22 hle22 hq22 => ?_)
    refine D.callP (fadd_fn (hx.mono (by (repeat (first | exact Mem.le.refl _ | assumption | (apply Mem.le.trans; rotate_left; assumption))))) (hq22.mono (by (repeat (first | exact Mem.le.refl _ | assumption | (apply Mem.le.trans; rotate_left; assumption))))) hdm (h2.mul h3) (by omega)) rfl rfl rfl rfl rfl rfl rfl (fun _ => rfl) (fun v23 C23 hle23 hq23 => ?_)
    obtain ⟨x2, rfl⟩ := hq23.fv
    refine D.store (j := 0) rfl rfl rfl rfl rfl rfl rfl rfl rfl rfl rfl rfl ?_
    refine D.done [(0, [], _), (1, [], _), (4, [], _), (5, [], _), (9, [], _), (10, [], _)] ⟨rfl, rfl, rfl, rfl, rfl, rfl, trivial⟩ (hR _ _ _ rfl ?_); clear hR hB R
    refine G.region rfl (fun R hR => ?_)
    refine D.i64 _ rfl rfl rfl rfl rfl (by omega) (by omega) rfl rfl ?_
    refine D.pure rfl rfl rfl rfl rfl rfl ?_
    refine D.done [(0, [], _), (1, [], _), (4, [], _), (5, [], _), (9, [], _), (10, [], _)] ⟨rfl, rfl, rfl, rfl, rfl, rfl, trivial⟩ (hR _ _ _ rfl ?_); clear hR R
    refine G.again (m' := ps.length - (i + 1)) (by omega) (by (repeat (first | exact Mem.le.refl _ | assumption | (apply Mem.le.trans; rotate_left; assumption)))) (fr' := [(0, [], _), (1, [], _), (4, [], _), (5, [], _), (9, [], _), (10, [], _)]) ⟨rfl, rfl, rfl, rfl, rfl, rfl, trivial⟩ ⟨i + 1, x2, ⟨by omega, hq23.mono (by (repeat (first | exact Mem.le.refl _ | assumption | (apply Mem.le.trans; rotate_left; assumption))))⟩, rfl, rfl, rfl⟩
  · skip
    have hil : i = ps.length := by
      have : ¬ i < xs.length := by simpa using h11
      omega
    refine G.region rfl (fun R hR => ?_)
    refine D.loadL (.head _) rfl rfl rfl rfl rfl rfl rfl rfl rfl ?_
    refine D.store (j := 1) rfl rfl rfl rfl rfl rfl rfl rfl rfl rfl rfl rfl ?_
    refine D.done [(4, [], _)] ⟨rfl, trivial⟩ (hR _ _ _ rfl ?_); clear hR R
    refine G.retN (G.finC (.head _) rfl rfl rfl rfl ?_)
    refine ⟨rfl, ?_⟩
    unfold dotR
    rw [← hil]
    exact hx.mono (by (repeat (first | exact Mem.le.refl _ | assumption | (apply Mem.le.trans; rotate_left; assumption))))
end Go.Proofs.YtfelabnohopfdaaGreatDoor
namespace Go.Jog
def findI {α : Type} (p : α → Bool) : List α → Nat → Int
  | [], _ => -1
  | x :: l, k => if p x = true then k else findI p l (k + 1)
theorem findI_at {α : Type} {p : α → Bool} : ∀ {l : List α} {x : α} {k j : Nat}, l[k]? = some x → (∀ y ∈ l.take k, p y = false) → p x = true → findI p l j = ((j + k : Nat) : Int)
  | [], x, k, j, h, _, _ => by simp at h
  | y :: l, x, 0, j, h, _, hp => by
    simp at h
    subst h
    simp [findI, hp]
  | y :: l, x, k + 1, j, h, ha, hp => by
    have := findI_at (l := l) (k := k) (j := j + 1) (by simpa using h) (fun z hz => ha z (by simp [hz])) hp
    simp only [findI, this]
    rw [if_neg (by rw [ha y (by simp)]; decide)]
    congr 1; omega
theorem findI_none {α : Type} {p : α → Bool} : ∀ {l : List α} {j : Nat}, (∀ y ∈ l, p y = false) → findI p l j = -1
  | [], _, _ => rfl
  | y :: l, j, h => by
    simp only [findI]
    rw [if_neg (by rw [h y (by simp)]; decide)]
    exact findI_none (fun z hz => h z (by simp [hz]))
theorem findI_cases {α : Type} {p : α → Bool} : ∀ (l : List α) (j : Nat), (findI p l j = -1 ∧ ∀ y ∈ l, p y = false) ∨ ∃ k x, findI p l j = ((j + k : Nat) : Int) ∧ l[k]? = some x ∧ p x = true ∧ ∀ y ∈ l.take k, p y = false
  | [], _ => .inl ⟨rfl, fun y hy => by cases hy⟩
  | y :: l, j => by
    simp only [findI]
    by_cases h : p y = true
    · exact .inr ⟨0, y, by rw [if_pos h]; rfl, by simp, h, by simp⟩
    · simp only [Bool.not_eq_true] at h
      rw [if_neg (by rw [h]; decide)]
      rcases findI_cases l (j + 1) with ⟨h1, h2⟩ | ⟨k, x, h1, h2, h3, h4⟩
      · refine .inl ⟨h1, fun z hz => ?_⟩
        rcases List.mem_cons.1 hz with rfl | hz
        · exact h
        · exact h2 z hz
      · refine .inr ⟨k + 1, x, by rw [h1]; congr 1; omega, by simpa using h2, h3, fun z hz => ?_⟩
        rw [List.take_succ_cons] at hz
        rcases List.mem_cons.1 hz with rfl | hz
        · exact h
        · exact h4 z hz

theorem findI_any {α : Type} {p : α → Bool} (l : List α) : decide (0 ≤ findI p l 0) = l.any p := by
  rcases findI_cases (p := p) l 0 with ⟨h1, h2⟩ | ⟨k, x, h1, h2, h3, _⟩
  · rw [h1]
    have : l.any p = false := by rw [List.any_eq_false]; exact fun y hy => by rw [h2 y hy]; decide
    rw [this]; rfl
  · rw [h1]
    have : l.any p = true := List.any_eq_true.2 ⟨x, List.mem_of_getElem? h2, h3⟩
    rw [this]; simp
end Go.Jog
namespace Go.Proofs.YtfelabnohopfdaaGreatDoor
open Go Go.Jog
set_option maxRecDepth 100000

theorem number_fn (C : Mem) (s : Str) (hl : s.length < 1000000) : Gives cx.P 6 [strV s] C (.bool (readM s).isSome) := by
  refine Fn.intro (by kernel_rfl) Tryz.func6 rfl 11 rfl rfl (fun w0 => ?_)
  refine G.region rfl (fun R hR => ?_)
  refine D.pure rfl rfl rfl rfl rfl rfl ?_
  refine D.done [(0, [], _)] ⟨rfl, trivial⟩ (hR _ _ _ rfl ?_); clear hR R
  refine G.region rfl (fun R hR => ?_)
  refine D.pure rfl rfl rfl rfl rfl rfl ?_
  refine D.callP (read_fn _ s hl) rfl rfl rfl rfl rfl rfl rfl (fun _ => rfl) (fun v7 C7 hle7 hq7 => ?_)
  obtain ⟨vf, rfl, hvf⟩ := hq7
  obtain ⟨x, rfl⟩ := hvf.fv
  iterate 3 refine D.pure rfl rfl rfl rfl rfl rfl ?_
  refine D.alloc rfl rfl rfl rfl rfl (fun _ => rfl) (fun b3 => ?_)
  refine D.store (j := 0) rfl rfl rfl rfl rfl rfl rfl rfl rfl rfl rfl rfl ?_
  refine D.pure rfl rfl rfl rfl rfl rfl ?_
  refine D.done [(4, [], _)] ⟨rfl, trivial⟩ (hR _ _ _ rfl ?_); clear hR R
  refine G.region rfl (fun R hR => ?_)
  iterate 2 refine D.pure rfl rfl rfl rfl rfl rfl ?_
  refine D.done [(2, [], _)] ⟨rfl, trivial⟩ (hR _ _ _ rfl ?_); clear hR R
  refine G.retN (G.dropAll (G.fin1 rfl rfl ?_))
  exact ⟨rfl, rfl⟩
theorem open1_fn (C : Mem) (x : FV) : Gives cx.P 57 [.agg ⟨x.enc⟩] C (.bool x.b) := by
  refine Fn.intro (by kernel_rfl) Tryz.func57 rfl 5 rfl rfl (fun w0 => ?_)
  refine G.region rfl (fun R hR => ?_)
  refine D.box rfl rfl rfl rfl rfl rfl (fun _ => rfl) (fun b1 => ?_)
  refine D.pure rfl rfl rfl rfl rfl rfl ?_
  refine D.done [(1, [], _)] ⟨rfl, trivial⟩ (hR _ _ _ rfl ?_); clear hR R
  refine G.region rfl (fun R hR => ?_)
  refine D.pure rfl rfl rfl rfl rfl rfl ?_
  refine D.loadL (.head _) rfl rfl rfl rfl rfl rfl rfl rfl rfl ?_
  refine D.pure rfl rfl rfl rfl rfl rfl ?_
  refine D.done [(2, [], _)] ⟨rfl, trivial⟩ (hR _ _ _ rfl ?_); clear hR R
  refine G.retN (G.dropAll (G.fin1 rfl rfl ?_))
  exact ⟨rfl, rfl⟩
theorem indexFr_fn (C : Mem) (v : Value) (xs : List FV) (g : FuncId) (cb : List Value) (p : FV → Bool) (hv : Sl C 3 v (xs.map FV.enc)) (hcb : ∀ x ∈ xs, ∀ C', C.le C' → Gives cx.P g (.agg ⟨x.enc⟩ :: cb) C' (.bool (p x))) :
    Gives cx.P 98 [v, .func (.func g) #[] ⟨cb⟩] C (.int .i64 (findI p xs 0)) := by
  obtain ⟨A0, c0, rfl, hlx, hlx2, _⟩ := id hv
  have hmx : maxLen ≤ 9223372036854775807 := by simp [maxLen]
  simp only [List.length_map] at hv hlx hlx2 ⊢
  refine Fn.intro (by kernel_rfl) Tryz.func98 rfl 19 rfl rfl (fun w0 => ?_)
  refine G.region rfl (fun R hR => ?_)
  refine D.pure rfl rfl rfl rfl rfl rfl ?_
  refine D.done [(0, [], _), (1, [], _)] ⟨rfl, rfl, trivial⟩ (hR _ _ _ rfl ?_); clear hR R
  refine G.region rfl (fun R hR => ?_)
  iterate 3 refine D.pure rfl rfl rfl rfl rfl rfl ?_
  refine D.done [(0, [], _), (1, [], _), (7, [], _), (8, [], _)] ⟨rfl, rfl, rfl, rfl, trivial⟩ (hR _ _ _ rfl ?_); clear hR R
  refine G.loop (fun fr C' L' μ => ∃ (k : Nat), (k ≤ xs.length ∧ ∀ y ∈ xs.take k, p y = false) ∧ fr = [(0, [], .slice A0 xs.length c0), (1, [], .func (.func g) #[] ⟨cb⟩), (7, [], .int .i64 xs.length), (8, [], .int .i64 k)] ∧ L' = [] ∧ μ = xs.length - k) (fr' := [(0, [], _), (1, [], _), (7, [], _), (8, [], _)]) ⟨rfl, rfl, rfl, rfl, trivial⟩ ⟨0, ⟨Nat.zero_le _, by simp⟩, rfl, rfl, rfl⟩ (fun fr C0' L0' m hle0 hI => ?_)
  obtain ⟨k, ⟨hk, hall⟩, rfl, rfl, rfl⟩ := hI
  refine G.region rfl (fun R hR => ?_)
  refine D.pure rfl rfl rfl rfl rfl rfl ?_
  refine D.done [(0, [], _), (1, [], _), (7, [], _), (8, [], _), (9, [], _)] ⟨rfl, rfl, rfl, rfl, rfl, trivial⟩ (hR _ _ _ rfl ?_); clear hR R
  refine G.cond rfl (fun h9 => ?_) (fun h9 => ?_)
  · skip
    have hkl : k < xs.length := by simpa using h9
    obtain ⟨x, hx⟩ : ∃ x, xs[k]? = some x := ⟨xs[k], List.getElem?_eq_getElem hkl⟩
    have hrow : (xs.map FV.enc)[k]? = some x.enc := by rw [List.getElem?_map, hx]; rfl
    refine G.region rfl (fun R hR => ?_)
    iterate 2 refine D.pure rfl rfl rfl rfl rfl rfl ?_
    refine D.done [(0, [], _), (1, [], _), (5, [], _), (7, [], _), (8, [], _)] ⟨rfl, rfl, rfl, rfl, rfl, trivial⟩ (hR _ _ _ rfl ?_); clear hR R
    refine G.region rfl (fun R hR => ?_)
    iterate 3 refine D.pure rfl rfl rfl rfl rfl rfl ?_
    refine D.index0 (hv.mono (by (repeat (first | exact Mem.le.refl _ | assumption | (apply Mem.le.trans; rotate_left; assumption))))) rfl rfl rfl rfl rfl rfl rfl rfl rfl rfl (by omega) hrow (fun _ => rfl) (fun p14 hp14 => ?_)
    refine D.loadP0 hp14 rfl rfl rfl rfl rfl rfl rfl rfl ?_
    refine D.gives2 (hcb x (List.mem_of_getElem? hx) _ (by (repeat (first | exact Mem.le.refl _ | assumption | (apply Mem.le.trans; rotate_left; assumption))))) rfl rfl rfl rfl rfl rfl rfl (fun _ => rfl) ?_
    refine D.done [(0, [], _), (1, [], _), (5, [], _), (7, [], _), (8, [], _), (16, [], _)] ⟨rfl, rfl, rfl, rfl, rfl, rfl, trivial⟩ (hR _ _ _ rfl ?_); clear hR R
    refine G.cond rfl (fun h16 => ?_) (fun h16 => ?_)
    · skip
      refine G.region rfl (fun R hR => ?_)
      iterate 2 refine D.pure rfl rfl rfl rfl rfl rfl ?_
      refine D.done [(4, [], _)] ⟨rfl, trivial⟩ (hR _ _ _ rfl ?_); clear hR R
      refine G.retN (G.dropAll (G.fin1 rfl rfl ?_))
      refine ⟨?_, rfl⟩
      rw [findI_at (k := k) (j := 0) hx hall h16, Nat.zero_add]
    · skip
      refine G.region rfl (fun R hR => ?_)
      refine D.i64 _ rfl rfl rfl rfl rfl (by omega) (by omega) rfl rfl ?_
      refine D.pure rfl rfl rfl rfl rfl rfl ?_
      refine D.done [(0, [], _), (1, [], _), (7, [], _), (8, [], _)] ⟨rfl, rfl, rfl, rfl, trivial⟩ (hR _ _ _ rfl ?_); clear hR R
      refine G.again (m' := xs.length - (k + 1)) (by omega) hle0 (fr' := [(0, [], _), (1, [], _), (7, [], _), (8, [], _)]) ⟨rfl, rfl, rfl, rfl, trivial⟩ ⟨k + 1, ⟨by omega, fun y hy => by
        rw [List.take_add_one, hx] at hy
        rcases List.mem_append.1 hy with h6 | h6
        · exact hall y h6
        · simp only [Option.toList_some, List.mem_singleton] at h6
          subst h6
          exact h16⟩, rfl, rfl, rfl⟩
  · skip
    have hkl : xs.length ≤ k := by
      have : ¬ k < xs.length := by simpa using h9
      omega
    refine G.region rfl (fun R hR => ?_)
    refine D.pure rfl rfl rfl rfl rfl rfl ?_
    refine D.done [(4, [], _)] ⟨rfl, trivial⟩ (hR _ _ _ rfl ?_); clear hR R
    refine G.retN (G.dropAll (G.fin1 rfl rfl ?_))
    rw [List.take_of_length_le hkl] at hall
    exact ⟨by rw [findI_none hall], rfl⟩
theorem contFr_fn (C : Mem) (v : Value) (xs : List FV) (g : FuncId) (cb : List Value) (p : FV → Bool) (hv : Sl C 3 v (xs.map FV.enc)) (hcb : ∀ x ∈ xs, ∀ C', C.le C' → Gives cx.P g (.agg ⟨x.enc⟩ :: cb) C' (.bool (p x))) :
    Gives cx.P 56 [v, .func (.func g) #[] ⟨cb⟩] C (.bool (xs.any p)) := by
  obtain ⟨A0, c0, rfl, hlx, hlx2, _⟩ := id hv
  refine Fn.intro (by kernel_rfl) Tryz.func56 rfl 9 rfl rfl (fun w0 => ?_)
  refine G.region rfl (fun R hR => ?_)
  refine D.pure rfl rfl rfl rfl rfl rfl ?_
  refine D.done [(0, [], _), (1, [], _)] ⟨rfl, rfl, trivial⟩ (hR _ _ _ rfl ?_); clear hR R
  refine G.region rfl (fun R hR => ?_)
  iterate 2 refine D.pure rfl rfl rfl rfl rfl rfl ?_
  refine D.gives2 (indexFr_fn _ _ xs g cb p hv hcb) rfl rfl rfl rfl rfl rfl rfl (fun _ => rfl) ?_
  iterate 2 refine D.pure rfl rfl rfl rfl rfl rfl ?_
  refine D.done [(4, [], _)] ⟨rfl, trivial⟩ (hR _ _ _ rfl ?_); clear hR R
  refine G.retN (G.dropAll (G.fin1 rfl rfl ?_))
  exact ⟨by rw [findI_any], rfl⟩
end Go.Proofs.YtfelabnohopfdaaGreatDoor
