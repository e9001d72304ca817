/- FOR ANY DESCRIPTIONS AND ANY LIST OF NUMBERS ContradictionSets ANSWERS true, and leaves them as they were. -/
import Derived.Test.YtcghlfepfcagbaaGreatG10
import Derived.Test.YtcghlfepfcagbaaGreatShelf
namespace Go.Proofs.YtcghlfepfcagbaaGreat
open Go Go.Jog
set_option maxRecDepth 100000

end Go.Proofs.YtcghlfepfcagbaaGreat
namespace Go.Proofs.YtcghlfepfcagbaaGreat
open Go Go.Jog
set_option maxRecDepth 100000

/-! ### Groups, plain -/
section
variable {α : Type}
structure Eqv (M : α → α → Bool) (K : List α) : Prop where
  refl : ∀ s ∈ K, M s s = true
  symm : ∀ s ∈ K, ∀ t ∈ K, M s t = true → M t s = true
  trans : ∀ s ∈ K, ∀ t ∈ K, ∀ u ∈ K, M s t = true → M t u = true → M s u = true
theorem Eqv.sub {M : α → α → Bool} {K R : List α} (h : Eqv M K) (hs : ∀ x ∈ R, x ∈ K) : Eqv M R :=
  ⟨fun s h1 => h.refl s (hs s h1), fun s h1 t h2 => h.symm s (hs s h1) t (hs t h2), fun s h1 t h2 u h3 => h.trans s (hs s h1) t (hs t h2) u (hs u h3)⟩
end
section
variable {α : Type} [DecidableEq α]
end
theorem OutS.at {C : Mem} {ov : List Value} {outs : List (List Str)} (h : OutS C ov outs) {j : Nat} {o : List Str} (ho : outs[j]? = some o) : ∃ A c, (ov.map fun x => [x])[j]? = some [.slice A o.length c] ∧ Sl C 1 (.slice A o.length c) (o.map encS) := by
  have hj := (List.getElem?_eq_some_iff.1 ho).1
  have hv : ov[j]? = some (ov[j]'(by rw [h.1]; exact hj)) := List.getElem?_eq_getElem _
  obtain ⟨A, c, he, _⟩ := id (h.2 j _ o hv ho)
  rw [List.length_map] at he
  have hs := h.2 j _ o hv ho
  rw [he] at hs hv
  exact ⟨A, c, by rw [List.getElem?_map, hv]; rfl, hs⟩
end Go.Proofs.YtcghlfepfcagbaaGreat
namespace Go.Proofs.YtcghlfepfcagbaaGreat
open Go Go.Jog
set_option maxRecDepth 100000

end Go.Proofs.YtcghlfepfcagbaaGreat
namespace Go.Proofs.YtcghlfepfcagbaaGreat
open Go Go.Jog
set_option maxRecDepth 100000

def woS (l : List Rel) (st : List Int) : List Rel := if chkE l st = 0 then woL l (natsOf st) else []
theorem wo_ok {C : Mem} {l : List Rel} {st : List Int} {r : Value} (h : WoRes C l st r) : ∃ A c, r = .tuple #[.slice A (woS l st).length c, .int .i64 (chkE l st)] ∧ Sl C 3 (.slice A (woS l st).length c) ((woS l st).map Rel.enc) := by
  unfold woS
  rcases h with ⟨h, rfl⟩ | ⟨h, v, rfl, hs⟩
  · rw [if_neg h]; exact ⟨none, 0, rfl, Sl.nil _ _⟩
  · rw [if_pos h, h]
    obtain ⟨A, c, hqe, _⟩ := id hs
    rw [List.length_map] at hqe
    subst hqe
    exact ⟨A, c, rfl, hs⟩
theorem rep_val {l : List Rel} {st : List Int} {r : Value} (h : RepRes2 l st r) : r = .tuple #[.bool (decide (chkE l st = 0) && noneB l (natsOf st)), .int .i64 (chkE l st)] := by
  rcases h with ⟨h, rfl⟩ | ⟨h, rfl⟩
  · rw [decide_eq_false h]; rfl
  · rw [h]; simp
theorem need_val {l : List Rel} {st : List Int} {r : Value} (h : NeedRes l st r) : r = .tuple #[.bool (decide (chkE l st = 0) && needB l (natsOf st)), .int .i64 (chkE l st)] := by
  rcases h with ⟨h, rfl⟩ | ⟨h, rfl⟩
  · rw [decide_eq_false h]; rfl
  · rw [h]; simp
theorem lwithoutG_fn (C : Mem) (v : Value) (l : List Rel) (bits : Nat) (hv : Sl C 3 v (l.map Rel.enc)) (hl : l.length ≤ 60) (hb : bits < 9223372036854775808) :
    Pur cx.P 20 [v, .int .i64 bits] C fun r C' => ∃ x : Option Addr × Nat, r = .slice x.1 (wobL l bits).length x.2 ∧ Sl C' 3 (.slice x.1 (wobL l bits).length x.2) ((wobL l bits).map Rel.enc) :=
  Fn.mono (lwithout_fn C v l bits hv hl hb) (fun r C' _ _ ⟨h1, h2⟩ => ⟨h1, by
    obtain ⟨A, c, hqe, _⟩ := id h2
    rw [List.length_map] at hqe
    subst hqe
    exact ⟨(A, c), rfl, h2⟩⟩)
theorem lcyclesG_fn (C : Mem) (v : Value) (l : List Rel) (hv : Sl C 3 v (l.map Rel.enc)) (hl : l.length ≤ 8) :
    Pur cx.P 17 [v] C fun r C' => ∃ x : Option Addr × Nat, r = .slice x.1 (cycL l).length x.2 ∧ LL C' (.slice x.1 (cycL l).length x.2) (cycL l) :=
  Fn.mono (lcycles_fn C v l hv hl) (fun r C' _ _ ⟨h1, h2⟩ => ⟨h1, by
    obtain ⟨ov, h3, h4⟩ := id h2
    obtain ⟨A, c, hqe, _⟩ := id h3
    rw [List.length_map, h4.1] at hqe
    subst hqe
    exact ⟨(A, c), rfl, h2⟩⟩)
theorem two_bit {x k : Nat} : (2 ^ x).testBit k = true ↔ k = x := by
  rw [Nat.testBit_two_pow, decide_eq_true_eq]; exact eq_comm
/-- In ascending numbers each stands once. -/
theorem asc_nodup {m : Nat} {st : List Int} (h : setE m st st.length = 0) : (natsOf st).Pairwise (· < ·) ∧ ∀ x ∈ natsOf st, x < m := by
  have hz := setE_zero (Nat.le_refl _) h
  have hget : ∀ (k : Nat) (hk : k < st.length), 0 ≤ st[k] ∧ st[k] < m ∧ (0 < k → st.getD (k - 1) 0 < st[k]) := fun k hk => hz k hk _ (List.getElem?_eq_getElem hk)
  have hstep : ∀ (j k : Nat) (hk : k < st.length) (hj : j < k), st[j]'(by omega) < st[k] := by
    intro j k
    induction k with
    | zero => intro _ hj; omega
    | succ k ih =>
      intro hk hj
      have h1 := (hget (k + 1) hk).2.2 (by omega)
      have h2 : st.getD (k + 1 - 1) 0 = st[k]'(by omega) := by
        rw [List.getD_eq_getElem?_getD, show k + 1 - 1 = k by omega, List.getElem?_eq_getElem (by omega : k < st.length)]; rfl
      rw [h2] at h1
      rcases Nat.lt_or_ge j k with h3 | h3
      · have := ih (by omega) h3; omega
      · have : j = k := by omega
        subst this; exact h1
  refine ⟨?_, ?_⟩
  · unfold natsOf
    rw [List.pairwise_map, List.pairwise_iff_getElem]
    intro i j hi hj hij
    have := hstep i j hj hij
    have := (hget i hi).1
    omega
  · intro x hx
    obtain ⟨y, hy, rfl⟩ := List.mem_map.1 hx
    obtain ⟨k, hk, rfl⟩ := List.mem_iff_getElem.1 hy
    have := hget k hk
    omega
theorem nats_mem {m : Nat} {st : List Int} (h : setE m st st.length = 0) {k : Nat} : k ∈ natsOf st ↔ (k : Int) ∈ st := by
  unfold natsOf
  rw [List.mem_map]
  constructor
  · rintro ⟨x, hx, rfl⟩
    obtain ⟨j, hj⟩ := List.getElem?_of_mem hx
    have := (setE_zero (Nat.le_refl _) h j (List.getElem?_eq_some_iff.1 hj).1 x hj).1
    rw [Int.toNat_of_nonneg this]; exact hx
  · intro hx; exact ⟨(k : Int), hx, by simp⟩
set_option maxHeartbeats 16000000 in
theorem csets_fn (C : Mem) (v vs : Value) (ss : List Seen) (st : List Int) (hv : Sl C 3 v (ss.map Seen.enc)) (hvs : Sl C 1 vs (st.map encI)) : Pur cx.P 7 [v, vs] C fun u _ => u = .bool true := by
  obtain ⟨A0, c0, rfl, _⟩ := id hv
  obtain ⟨As, cs, rfl, _⟩ := id hvs
  simp only [List.length_map] at hv hvs ⊢
  refine Fn.intro (by kernel_rfl) Tryz.func7 rfl 200 rfl rfl (fun w0 => ?_)
  refine G.region rfl (fun R hR => ?_)
  refine D.pure rfl rfl rfl rfl rfl rfl ?_
  refine D.done [(0, [], _), (1, [], _)] ⟨rfl, rfl, trivial⟩ (hR _ _ _ rfl ?_); clear hR R
  refine G.region rfl (fun R hR => ?_)
  refine D.callP (known23_fn _) rfl rfl rfl rfl rfl rfl rfl (fun _ => rfl) (fun v20 C20 hle20 hq20 => ?_)
  obtain rfl := hq20
  iterate 3 refine D.pure rfl rfl rfl rfl rfl rfl ?_
  refine D.gives (fun _ => (fits_fn _ _ _ _)) rfl rfl rfl rfl rfl rfl rfl rfl rfl ?_
  refine D.pure rfl rfl rfl rfl rfl rfl ?_
  refine D.pickOr rfl rfl rfl rfl rfl rfl rfl rfl ?_
  iterate 4 refine D.pure rfl rfl rfl rfl rfl rfl ?_
  refine D.pickOr rfl rfl rfl rfl rfl rfl rfl rfl ?_
  refine D.done [(0, [], _), (1, [], _), (31, [], _)] ⟨rfl, rfl, rfl, trivial⟩ (hR _ _ _ rfl ?_); clear hR R
  refine G.cond rfl (fun h31 => ?_) (fun h31 => ?_)
  · skip
    refine G.region rfl (fun R hR => ?_)
    refine D.callP (known23_fn _) rfl rfl rfl rfl rfl rfl rfl (fun _ => rfl) (fun v32 C32 hle32 hq32 => ?_)
    obtain rfl := hq32
    refine D.pure rfl rfl rfl rfl rfl rfl ?_
    refine D.done [(4, [], _)] ⟨rfl, trivial⟩ (hR _ _ _ rfl ?_); clear hR R
    refine G.retN (G.dropAll (G.fin1 rfl rfl ?_))
    exact ⟨rfl, rfl⟩
  · skip
    have hst9 : st.length ≤ 9 := by
      have : ¬ (9 : Int) < st.length := fun h => by simp [h] at h31
      omega
    refine G.region rfl (fun R hR => ?_)
    refine D.pure rfl rfl rfl rfl rfl rfl ?_
    refine D.callP (make_fn _ _ ss (hv.mono (by (repeat (first | exact Mem.le.refl _ | assumption | (apply Mem.le.trans; rotate_left; assumption)))))) rfl rfl rfl rfl rfl rfl rfl (fun _ => rfl) (fun v34 C34 hle34 hq34 => ?_)
    obtain ⟨l, hl⟩ : ∃ l, makeL ss = l := ⟨_, rfl⟩
    have hM : Made l := by rw [← hl]; exact made_makeL ss
    rw [hl] at hq34
    obtain ⟨Al, cl, rfl, hlc, _⟩ := id hq34
    simp only [List.length_map] at hq34 hlc
    have hl8 := hM.1
    have hE := hM.err
    simp only [List.length_map]
    refine D.pure rfl rfl rfl rfl rfl rfl ?_
    refine D.done [(1, [], _), (5, [], _)] ⟨rfl, rfl, trivial⟩ (hR _ _ _ rfl ?_); clear hR R
    refine G.region rfl (fun R hR => ?_)
    iterate 2 refine D.pure rfl rfl rfl rfl rfl rfl ?_
    refine D.callP (withoutR_fn _ _ _ l st (hq34.mono (by (repeat (first | exact Mem.le.refl _ | assumption | (apply Mem.le.trans; rotate_left; assumption))))) (by omega) hM.short (hvs.mono (by (repeat (first | exact Mem.le.refl _ | assumption | (apply Mem.le.trans; rotate_left; assumption))))) (by omega)) rfl rfl rfl rfl rfl rfl rfl (fun _ => rfl) (fun v38 C38 hle38 hq38 => ?_)
    obtain ⟨Aw, cw, rfl, hws⟩ := wo_ok hq38
    iterate 5 refine D.pure rfl rfl rfl rfl rfl rfl ?_
    refine D.done [(1, [], _), (5, [], _), (6, [], _), (7, [], _)] ⟨rfl, rfl, rfl, rfl, trivial⟩ (hR _ _ _ rfl ?_); clear hR R
    refine G.region rfl (fun R hR => ?_)
    iterate 2 refine D.pure rfl rfl rfl rfl rfl rfl ?_
    refine D.callP (repairedS_fn _ _ _ l st (hq34.mono (by (repeat (first | exact Mem.le.refl _ | assumption | (apply Mem.le.trans; rotate_left; assumption))))) (by omega) hM.short (hvs.mono (by (repeat (first | exact Mem.le.refl _ | assumption | (apply Mem.le.trans; rotate_left; assumption))))) (by omega)) rfl rfl rfl rfl rfl rfl rfl (fun _ => rfl) (fun v44 C44 hle44 hq44 => ?_)
    obtain rfl := rep_val hq44
    iterate 5 refine D.pure rfl rfl rfl rfl rfl rfl ?_
    refine D.done [(1, [], _), (5, [], _), (6, [], _), (7, [], _), (8, [], _), (9, [], _)] ⟨rfl, rfl, rfl, rfl, rfl, rfl, trivial⟩ (hR _ _ _ rfl ?_); clear hR R
    refine G.region rfl (fun R hR => ?_)
    iterate 2 refine D.pure rfl rfl rfl rfl rfl rfl ?_
    refine D.callP (needed_fn _ _ _ l st (hq34.mono (by (repeat (first | exact Mem.le.refl _ | assumption | (apply Mem.le.trans; rotate_left; assumption))))) (by omega) hM.short (hvs.mono (by (repeat (first | exact Mem.le.refl _ | assumption | (apply Mem.le.trans; rotate_left; assumption))))) (by omega)) rfl rfl rfl rfl rfl rfl rfl (fun _ => rfl) (fun v50 C50 hle50 hq50 => ?_)
    obtain rfl := need_val hq50
    iterate 5 refine D.pure rfl rfl rfl rfl rfl rfl ?_
    obtain ⟨ck, hck⟩ : ∃ ck, chkE l st = ck := ⟨_, rfl⟩
    rw [hck]
    refine D.done [(1, [], _), (5, [], _), (6, [], _), (7, [], _), (8, [], _), (9, [], _), (10, [], _), (11, [], _)] ⟨rfl, rfl, rfl, rfl, rfl, rfl, rfl, rfl, trivial⟩ (hR _ _ _ rfl ?_); clear hR R
    refine G.region rfl (fun R hR => ?_)
    iterate 2 refine D.pure rfl rfl rfl rfl rfl rfl ?_
    refine D.done [(1, [], _), (5, [], _), (6, [], _), (7, [], _), (8, [], _), (9, [], _), (10, [], _), (11, [], _), (12, [], _), (13, [], _)] ⟨rfl, rfl, rfl, rfl, rfl, rfl, rfl, rfl, rfl, rfl, trivial⟩ (hR _ _ _ rfl ?_); clear hR R
    refine G.region rfl (fun R hR => ?_)
    refine D.pure rfl rfl rfl rfl rfl rfl ?_
    refine D.done [(1, [], _), (5, [], _), (6, [], _), (7, [], _), (8, [], _), (9, [], _), (10, [], _), (11, [], _), (12, [], _), (13, [], _), (14, [], _)] ⟨rfl, rfl, rfl, rfl, rfl, rfl, rfl, rfl, rfl, rfl, rfl, trivial⟩ (hR _ _ _ rfl ?_); clear hR R
    refine G.loop (fun fr C' L' μ => ∃ (i b : Nat), (i ≤ st.length ∧ b < 256 ∧ (setE l.length st i = 0 → ∀ k : Nat, b.testBit k = true ↔ (k : Int) ∈ st.take i)) ∧ fr = [(1, [], .slice As st.length cs), (5, [], .slice Al l.length cl), (6, [], .slice Aw (woS l st).length cw), (7, [], .int .i64 ck), (8, [], .bool (decide (ck = 0) && noneB l (natsOf st))), (9, [], .int .i64 ck), (10, [], .bool (decide (ck = 0) && needB l (natsOf st))), (11, [], .int .i64 ck), (12, [], .int .i64 (setE l.length st i)), (13, [], .int .i64 b), (14, [], .int .i64 i)] ∧ L' = [] ∧ μ = st.length - i) (fr' := [(1, [], _), (5, [], _), (6, [], _), (7, [], _), (8, [], _), (9, [], _), (10, [], _), (11, [], _), (12, [], _), (13, [], _), (14, [], _)]) ⟨rfl, rfl, rfl, rfl, rfl, rfl, rfl, rfl, rfl, rfl, rfl, trivial⟩ ⟨0, 0, ⟨Nat.zero_le _, by decide, fun _ k => by simp⟩, rfl, rfl, rfl⟩ (fun fr C0' L0' m hle0 hI => ?_)
    obtain ⟨i, b, ⟨hi, hb, hbits⟩, rfl, rfl, rfl⟩ := hI
    refine G.region rfl (fun R hR => ?_)
    iterate 7 refine D.pure rfl rfl rfl rfl rfl rfl ?_
    refine D.pickAnd rfl rfl rfl rfl rfl rfl rfl rfl ?_
    refine D.done [(1, [], _), (5, [], _), (6, [], _), (7, [], _), (8, [], _), (9, [], _), (10, [], _), (11, [], _), (12, [], _), (13, [], _), (14, [], _), (60, [], _)] ⟨rfl, rfl, rfl, rfl, rfl, rfl, rfl, rfl, rfl, rfl, rfl, rfl, trivial⟩ (hR _ _ _ rfl ?_); clear hR R
    refine G.cond rfl (fun h60 => ?_) (fun h60 => ?_)
    · skip
      have h60' : i < st.length ∧ setE l.length st i = 0 := by simpa using h60
      obtain ⟨hil, hz⟩ := h60'
      obtain ⟨x, hx⟩ : ∃ x, st[i]? = some x := ⟨st[i], List.getElem?_eq_getElem hil⟩
      have hrx : (st.map encI)[i]? = some (encI x) := by rw [List.getElem?_map, hx]; rfl
      have hse : setE l.length st (i + 1) = if x < 0 ∨ (l.length : Int) ≤ x then 3 else if 0 < i ∧ x ≤ st.getD (i - 1) 0 then 6 else 0 := by
        simp only [setE]; rw [if_neg (by rw [hz]; simp), hx]
      have hprev : 0 < i → (st.map encI)[((i : Int) - 1).toNat]? = some (encI (st.getD (i - 1) 0)) := fun h => by
        have e : ((i : Int) - 1).toNat = i - 1 := by omega
        rw [e, List.getElem?_map, List.getElem?_eq_getElem (by omega : i - 1 < st.length), List.getD_eq_getElem?_getD, List.getElem?_eq_getElem (by omega : i - 1 < st.length)]; rfl
      have htk : st.take (i + 1) = st.take i ++ [x] := by rw [List.take_add_one, hx]; rfl
      refine G.region rfl (fun R hR => ?_)
      iterate 2 refine D.pure rfl rfl rfl rfl rfl rfl ?_
      refine D.index0 (hvs.mono (by (repeat (first | exact Mem.le.refl _ | assumption | (apply Mem.le.trans; rotate_left; assumption))))) rfl rfl rfl rfl rfl rfl rfl rfl rfl rfl (by omega) hrx (fun _ => rfl) (fun p73 hp73 => ?_)
      refine D.loadP0 hp73 rfl rfl rfl rfl rfl rfl rfl rfl ?_
      iterate 4 refine D.pure rfl rfl rfl rfl rfl rfl ?_
      refine D.index rfl rfl rfl rfl rfl rfl rfl rfl rfl rfl (fun hg => ⟨(hvs.mono (by (repeat (first | exact Mem.le.refl _ | assumption | (apply Mem.le.trans; rotate_left; assumption))))), by omega, hrx⟩) (fun _ => rfl) rfl (fun p79 hp79 => ?_)
      refine D.loadP rfl rfl rfl rfl rfl rfl hp79 rfl rfl rfl ?_
      iterate 3 refine D.pure rfl rfl rfl rfl rfl rfl ?_
      refine D.pickOr rfl rfl rfl rfl rfl rfl rfl rfl ?_
      refine D.pure rfl rfl rfl rfl rfl rfl ?_
      refine D.done [(1, [], _), (5, [], _), (6, [], _), (7, [], _), (8, [], _), (9, [], _), (10, [], _), (11, [], _), (12, [], _), (13, [], _), (14, [], _), (70, [], _)] ⟨rfl, rfl, rfl, rfl, rfl, rfl, rfl, rfl, rfl, rfl, rfl, rfl, trivial⟩ (hR _ _ _ rfl ?_); clear hR R
      refine G.cond rfl (fun h70 => ?_) (fun h70 => ?_)
      · skip
        have h70' : x < 0 ∨ (l.length : Int) ≤ x := by simpa using h70
        rw [if_pos h70'] at hse
        refine G.region rfl (fun R hR => ?_)
        refine D.pure rfl rfl rfl rfl rfl rfl ?_
        refine D.done [(1, [], _), (5, [], _), (6, [], _), (7, [], _), (8, [], _), (9, [], _), (10, [], _), (11, [], _), (12, [], _), (13, [], _), (14, [], _)] ⟨rfl, rfl, rfl, rfl, rfl, rfl, rfl, rfl, rfl, rfl, rfl, trivial⟩ (hR _ _ _ rfl ?_); clear hR R
        refine G.region rfl (fun R hR => ?_)
        refine D.pure rfl rfl rfl rfl rfl rfl ?_
        refine D.i64 _ rfl rfl rfl rfl rfl (by omega) (by omega) rfl rfl ?_
        refine D.pure rfl rfl rfl rfl rfl rfl ?_
        refine D.done [(1, [], _), (5, [], _), (6, [], _), (7, [], _), (8, [], _), (9, [], _), (10, [], _), (11, [], _), (12, [], _), (13, [], _), (14, [], _)] ⟨rfl, rfl, rfl, rfl, rfl, rfl, rfl, rfl, rfl, rfl, rfl, trivial⟩ (hR _ _ _ rfl ?_); clear hR R
        rw [show (3 : Int) = setE l.length st (i + 1) from hse.symm]
        refine G.again (m' := st.length - (i + 1)) (by omega) (by (repeat (first | exact Mem.le.refl _ | assumption | (apply Mem.le.trans; rotate_left; assumption)))) (fr' := [(1, [], _), (5, [], _), (6, [], _), (7, [], _), (8, [], _), (9, [], _), (10, [], _), (11, [], _), (12, [], _), (13, [], _), (14, [], _)]) ⟨rfl, rfl, rfl, rfl, rfl, rfl, rfl, rfl, rfl, rfl, rfl, trivial⟩ ⟨i + 1, b, ⟨by omega, hb, fun h => by rw [hse] at h; cases h⟩, rfl, rfl, rfl⟩
      · skip
        have h70' : ¬ (x < 0 ∨ (l.length : Int) ≤ x) := by simpa using h70
        rw [if_neg h70'] at hse
        refine G.draw [0, 1, 2, 3, 4, 5, 6, 7, 8, 9, 10, 11, 12, 13, 14] [] rfl (by kernel_rfl) (fun R hB hR => ?_)
        iterate 5 refine D.pure rfl rfl rfl rfl rfl rfl ?_
        refine D.index rfl rfl rfl rfl rfl rfl rfl rfl rfl rfl (fun hg => ⟨(hvs.mono (by (repeat (first | exact Mem.le.refl _ | assumption | (apply Mem.le.trans; rotate_left; assumption))))), by omega, hrx⟩) (fun _ => rfl) rfl (fun p91 hp91 => ?_)
        refine D.loadP rfl rfl rfl rfl rfl rfl hp91 rfl rfl rfl ?_
        iterate 2 refine D.pure rfl rfl rfl rfl rfl rfl ?_
        refine D.i64 (((i : Int) - 1)) rfl rfl rfl rfl rfl (by omega) (by omega) rfl rfl ?_
        refine D.index rfl rfl rfl rfl rfl rfl rfl rfl rfl rfl (fun hg => ⟨hvs.mono (by (repeat (first | exact Mem.le.refl _ | assumption | (apply Mem.le.trans; rotate_left; assumption)))), (by have h : decide ((0 : Int) < (i : Int)) = true := hg.1; simp at h; omega), hprev (by have h : decide ((0 : Int) < (i : Int)) = true := hg.1; simp at h; omega)⟩) (fun _ => rfl) rfl (fun p96 hp96 => ?_)
        refine D.loadP rfl rfl rfl rfl rfl rfl hp96 rfl rfl rfl ?_
        refine D.pure rfl rfl rfl rfl rfl rfl ?_
        refine D.pickAnd rfl rfl rfl rfl rfl rfl rfl rfl ?_
        refine D.pure rfl rfl rfl rfl rfl rfl ?_
        refine D.done [(1, [], _), (5, [], _), (6, [], _), (7, [], _), (8, [], _), (9, [], _), (10, [], _), (11, [], _), (12, [], _), (13, [], _), (14, [], _), (85, [], _)] ⟨rfl, rfl, rfl, rfl, rfl, rfl, rfl, rfl, rfl, rfl, rfl, rfl, trivial⟩ (hR _ _ _ rfl ?_); clear hR hB R
        refine G.cond rfl (fun h85 => ?_) (fun h85 => ?_)
        · skip
          have h85' : 0 < i ∧ x ≤ st.getD (i - 1) 0 := by simpa using h85
          rw [if_pos h85'] at hse
          refine G.region rfl (fun R hR => ?_)
          refine D.pure rfl rfl rfl rfl rfl rfl ?_
          refine D.done [(1, [], _), (5, [], _), (6, [], _), (7, [], _), (8, [], _), (9, [], _), (10, [], _), (11, [], _), (12, [], _), (13, [], _), (14, [], _)] ⟨rfl, rfl, rfl, rfl, rfl, rfl, rfl, rfl, rfl, rfl, rfl, trivial⟩ (hR _ _ _ rfl ?_); clear hR R
          refine G.region rfl (fun R hR => ?_)
          refine D.pure rfl rfl rfl rfl rfl rfl ?_
          refine D.i64 _ rfl rfl rfl rfl rfl (by omega) (by omega) rfl rfl ?_
          refine D.pure rfl rfl rfl rfl rfl rfl ?_
          refine D.done [(1, [], _), (5, [], _), (6, [], _), (7, [], _), (8, [], _), (9, [], _), (10, [], _), (11, [], _), (12, [], _), (13, [], _), (14, [], _)] ⟨rfl, rfl, rfl, rfl, rfl, rfl, rfl, rfl, rfl, rfl, rfl, trivial⟩ (hR _ _ _ rfl ?_); clear hR R
          rw [show (6 : Int) = setE l.length st (i + 1) from hse.symm]
          refine G.again (m' := st.length - (i + 1)) (by omega) (by (repeat (first | exact Mem.le.refl _ | assumption | (apply Mem.le.trans; rotate_left; assumption)))) (fr' := [(1, [], _), (5, [], _), (6, [], _), (7, [], _), (8, [], _), (9, [], _), (10, [], _), (11, [], _), (12, [], _), (13, [], _), (14, [], _)]) ⟨rfl, rfl, rfl, rfl, rfl, rfl, rfl, rfl, rfl, rfl, rfl, trivial⟩ ⟨i + 1, b, ⟨by omega, hb, fun h => by rw [hse] at h; cases h⟩, rfl, rfl, rfl⟩
        · skip
          have h85' : ¬ (0 < i ∧ x ≤ st.getD (i - 1) 0) := fun hh => by
            have : (false : Bool) = true := by rw [← h85]; simpa using hh
            cases this
          rw [if_neg h85'] at hse
          obtain ⟨xn, rfl⟩ : ∃ xn : Nat, x = xn := ⟨x.toNat, by omega⟩
          have hxn : xn < 8 := by omega
          have hb2 : b ||| 2 ^ xn < 2 ^ 8 := Nat.or_lt_two_pow hb (Nat.pow_lt_pow_right (by decide) hxn)
          refine G.region rfl (fun R hR => ?_)
          iterate 3 refine D.pure rfl rfl rfl rfl rfl rfl ?_
          refine D.index0 (hvs.mono (by (repeat (first | exact Mem.le.refl _ | assumption | (apply Mem.le.trans; rotate_left; assumption))))) rfl rfl rfl rfl rfl rfl rfl rfl rfl rfl (by omega) hrx (fun _ => rfl) (fun p66 hp66 => ?_)
          refine D.loadP0 hp66 rfl rfl rfl rfl rfl rfl rfl rfl ?_
          refine D.shl1 (xn) rfl rfl rfl rfl rfl rfl (by first | exact .inl rfl | exact .inr rfl) rfl (by omega) rfl rfl ?_
          refine D.orI (b) (2 ^ xn) rfl rfl rfl rfl rfl rfl rfl rfl (by omega) (by have : 2 ^ xn < 2 ^ 8 := Nat.pow_lt_pow_right (by decide) hxn; omega) rfl rfl ?_
          refine D.pure rfl rfl rfl rfl rfl rfl ?_
          refine D.done [(1, [], _), (5, [], _), (6, [], _), (7, [], _), (8, [], _), (9, [], _), (10, [], _), (11, [], _), (12, [], _), (13, [], _), (14, [], _)] ⟨rfl, rfl, rfl, rfl, rfl, rfl, rfl, rfl, rfl, rfl, rfl, trivial⟩ (hR _ _ _ rfl ?_); clear hR R
          refine G.region rfl (fun R hR => ?_)
          refine D.pure rfl rfl rfl rfl rfl rfl ?_
          refine D.i64 _ rfl rfl rfl rfl rfl (by omega) (by omega) rfl rfl ?_
          refine D.pure rfl rfl rfl rfl rfl rfl ?_
          refine D.done [(1, [], _), (5, [], _), (6, [], _), (7, [], _), (8, [], _), (9, [], _), (10, [], _), (11, [], _), (12, [], _), (13, [], _), (14, [], _)] ⟨rfl, rfl, rfl, rfl, rfl, rfl, rfl, rfl, rfl, rfl, rfl, trivial⟩ (hR _ _ _ rfl ?_); clear hR R
          rw [show setE l.length st i = setE l.length st (i + 1) from hz.trans hse.symm]
          refine G.again (m' := st.length - (i + 1)) (by omega) (by (repeat (first | exact Mem.le.refl _ | assumption | (apply Mem.le.trans; rotate_left; assumption)))) (fr' := [(1, [], _), (5, [], _), (6, [], _), (7, [], _), (8, [], _), (9, [], _), (10, [], _), (11, [], _), (12, [], _), (13, [], _), (14, [], _)]) ⟨rfl, rfl, rfl, rfl, rfl, rfl, rfl, rfl, rfl, rfl, rfl, trivial⟩ ⟨i + 1, b ||| 2 ^ xn, ⟨by omega, hb2, fun _ k => by
            rw [Nat.testBit_or, Bool.or_eq_true, hbits hz, two_bit, htk, List.mem_append, List.mem_singleton]
            constructor
            · rintro (h | h)
              · exact .inl h
              · exact .inr (by omega)
            · rintro (h | h)
              · exact .inl h
              · exact .inr (by omega)⟩, rfl, rfl, rfl⟩
    · skip
      have hfin : setE l.length st i = ck := by
        have h1 : setE l.length st st.length = ck := by rw [← hck, chkE, if_neg (by rw [hE]; simp)]
        by_cases hz : setE l.length st i = 0
        · have : i = st.length := by
            have : ¬ i < st.length := fun h => by simp [h, hz] at h60
            omega
          rw [← this] at h1; exact h1
        · have := setE_mono hz (st.length - i)
          rw [show i + (st.length - i) = st.length by omega, h1] at this
          exact this.symm
      rw [hfin]
      refine G.region rfl (fun R hR => ?_)
      iterate 2 refine D.pure rfl rfl rfl rfl rfl rfl ?_
      refine D.done [(1, [], _), (5, [], _), (6, [], _), (7, [], _), (8, [], _), (9, [], _), (10, [], _), (11, [], _), (12, [], _), (13, [], _), (101, [], _)] ⟨rfl, rfl, rfl, rfl, rfl, rfl, rfl, rfl, rfl, rfl, rfl, trivial⟩ (hR _ _ _ rfl ?_); clear hR R
      refine G.cond rfl (fun h101 => ?_) (fun h101 => ?_)
      · skip
        have h101' : ck ≠ 0 := by simpa using h101
        refine G.region rfl (fun R hR => ?_)
        iterate 7 refine D.pure rfl rfl rfl rfl rfl rfl ?_
        refine D.pickAnd rfl rfl rfl rfl rfl rfl rfl rfl ?_
        iterate 3 refine D.pure rfl rfl rfl rfl rfl rfl ?_
        refine D.pickAnd rfl rfl rfl rfl rfl rfl rfl rfl ?_
        iterate 4 refine D.pure rfl rfl rfl rfl rfl rfl ?_
        refine D.pickAnd rfl rfl rfl rfl rfl rfl rfl rfl ?_
        iterate 3 refine D.pure rfl rfl rfl rfl rfl rfl ?_
        refine D.pickAnd rfl rfl rfl rfl rfl rfl rfl rfl ?_
        iterate 4 refine D.pure rfl rfl rfl rfl rfl rfl ?_
        refine D.pickAnd rfl rfl rfl rfl rfl rfl rfl rfl ?_
        refine D.pure rfl rfl rfl rfl rfl rfl ?_
        refine D.done [(4, [], _)] ⟨rfl, trivial⟩ (hR _ _ _ rfl ?_); clear hR R
        refine G.retN (G.dropAll (G.fin1 rfl rfl ?_))
        refine ⟨rfl, ?_⟩
        have hw0 : (woS l st).length = 0 := by unfold woS; rw [if_neg (by rw [hck]; exact h101')]; rfl
        simp [h101', hw0]
      · skip
        have h101' : ck = 0 := by simpa using h101
        have hse0 : setE l.length st st.length = 0 := by
          have h1 : setE l.length st st.length = ck := by rw [← hck, chkE, if_neg (by rw [hE]; simp)]
          rw [h1, h101']
        have hi0 : i = st.length := by
          by_cases h : i < st.length
          · rw [h101'] at hfin; simp [h, hfin] at h60
          · omega
        subst hi0
        obtain ⟨hasc, hasc2⟩ := asc_nodup hse0
        have hbit := hbits hse0
        rw [List.take_length] at hbit
        have hwob : wobL l b = woL l (natsOf st) := wobL_eq (fun i _ => by rw [hbit, ← nats_mem hse0])
        have hwos : woS l st = woL l (natsOf st) := by unfold woS; rw [if_pos (by rw [hck]; exact h101')]
        have hvn := hvs
        rw [natsOf_enc hse0] at hvn
        have hnl : (natsOf st).length = st.length := by simp [natsOf]
        obtain ⟨ns, hns⟩ : ∃ ns, natsOf st = ns := ⟨_, rfl⟩
        rw [hns] at hwob hwos hvn hnl hasc hasc2 ⊢
        obtain ⟨W, hW⟩ : ∃ W, woL l ns = W := ⟨_, rfl⟩
        have hWl : W.length ≤ l.length := by rw [← hW]; exact woL_len l ns
        rw [hW] at hwob hwos
        rw [hwos] at hws ⊢
        subst h101'
        simp only [decide_true, Bool.true_and]
        refine G.region rfl (fun R hR => ?_)
        iterate 2 refine D.pure rfl rfl rfl rfl rfl rfl ?_
        refine D.callP (lwithout_fn _ _ l b (hq34.mono (by (repeat (first | exact Mem.le.refl _ | assumption | (apply Mem.le.trans; rotate_left; assumption))))) (by omega) (by omega)) rfl rfl rfl rfl rfl rfl rfl (fun _ => rfl) (fun v130 C130 hle130 hq130 => ?_)
        rw [hwob] at hq130
        obtain ⟨A15, c15, hqe, _⟩ := id hq130
        rw [List.length_map] at hqe
        subst hqe
        refine D.pure rfl rfl rfl rfl rfl rfl ?_
        refine D.done [(1, [], _), (5, [], _), (6, [], _), (7, [], _), (8, [], _), (9, [], _), (10, [], _), (11, [], _), (13, [], _), (15, [], _)] ⟨rfl, rfl, rfl, rfl, rfl, rfl, rfl, rfl, rfl, rfl, trivial⟩ (hR _ _ _ rfl ?_); clear hR R
        refine G.region rfl (fun R hR => ?_)
        iterate 8 refine D.pure rfl rfl rfl rfl rfl rfl ?_
        refine D.pickOr rfl rfl rfl rfl rfl rfl rfl rfl ?_
        iterate 3 refine D.pure rfl rfl rfl rfl rfl rfl ?_
        refine D.pickOr rfl rfl rfl rfl rfl rfl rfl rfl ?_
        iterate 3 refine D.pure rfl rfl rfl rfl rfl rfl ?_
        refine D.pickOr rfl rfl rfl rfl rfl rfl rfl rfl ?_
        refine D.done [(1, [], _), (5, [], _), (6, [], _), (8, [], _), (10, [], _), (13, [], _), (15, [], _), (147, [], _)] ⟨rfl, rfl, rfl, rfl, rfl, rfl, rfl, rfl, trivial⟩ (hR _ _ _ rfl ?_); clear hR R
        refine G.cond rfl (fun h147 => ?_) (fun h147 => ?_)
        · skip
          exfalso
          simp at h147
        · skip
          refine G.region rfl (fun R hR => ?_)
          refine D.pure rfl rfl rfl rfl rfl rfl ?_
          refine D.done [(1, [], _), (5, [], _), (6, [], _), (8, [], _), (10, [], _), (13, [], _), (15, [], _), (16, [], _)] ⟨rfl, rfl, rfl, rfl, rfl, rfl, rfl, rfl, trivial⟩ (hR _ _ _ rfl ?_); clear hR R
          skip
          refine G.loop (fun fr C' L' μ => ∃ (q : Nat), (q ≤ W.length) ∧ fr = [(1, [], .slice As st.length cs), (5, [], .slice Al l.length cl), (6, [], .slice Aw W.length cw), (8, [], .bool (noneB l ns)), (10, [], .bool (needB l ns)), (13, [], .int .i64 b), (15, [], .slice A15 W.length c15), (16, [], .int .i64 q)] ∧ L' = [] ∧ μ = W.length - q) (fr' := [(1, [], _), (5, [], _), (6, [], _), (8, [], _), (10, [], _), (13, [], _), (15, [], _), (16, [], _)]) ⟨rfl, rfl, rfl, rfl, rfl, rfl, rfl, rfl, trivial⟩ ⟨0, Nat.zero_le _, rfl, rfl, rfl⟩ (fun fr C1' L1' m hle1 hI => ?_)
          obtain ⟨q, hq, rfl, rfl, rfl⟩ := hI
          refine G.region rfl (fun R hR => ?_)
          iterate 4 refine D.pure rfl rfl rfl rfl rfl rfl ?_
          refine D.done [(1, [], _), (5, [], _), (6, [], _), (8, [], _), (10, [], _), (13, [], _), (15, [], _), (16, [], _), (151, [], _)] ⟨rfl, rfl, rfl, rfl, rfl, rfl, rfl, rfl, rfl, trivial⟩ (hR _ _ _ rfl ?_); clear hR R
          refine G.cond rfl (fun h151 => ?_) (fun h151 => ?_)
          · skip
            have hql : q < W.length := by simpa using h151
            obtain ⟨z, hz⟩ : ∃ z, W[q]? = some z := ⟨W[q], List.getElem?_eq_getElem hql⟩
            have hrz : (W.map Rel.enc)[q]? = some z.enc := by rw [List.getElem?_map, hz]; rfl
            refine G.draw [0, 1, 2, 3, 4, 5, 6, 7, 8] [] rfl (by kernel_rfl) (fun R hB hR => ?_)
            iterate 2 refine D.pure rfl rfl rfl rfl rfl rfl ?_
            refine D.index0 (hws.mono (by (repeat (first | exact Mem.le.refl _ | assumption | (apply Mem.le.trans; rotate_left; assumption))))) rfl rfl rfl rfl rfl rfl rfl rfl rfl rfl (by omega) hrz (fun _ => rfl) (fun p156 hp156 => ?_)
            refine D.loadP0 hp156 rfl rfl rfl rfl rfl rfl rfl rfl ?_
            iterate 2 refine D.pure rfl rfl rfl rfl rfl rfl ?_
            refine D.index0 (hq130.mono (by (repeat (first | exact Mem.le.refl _ | assumption | (apply Mem.le.trans; rotate_left; assumption))))) rfl rfl rfl rfl rfl rfl rfl rfl rfl rfl (by omega) hrz (fun _ => rfl) (fun p160 hp160 => ?_)
            refine D.loadP0 hp160 rfl rfl rfl rfl rfl rfl rfl rfl ?_
            refine D.neAgg (!decide (z = z)) (by kernel_rfl) rfl rfl rfl rfl rfl rfl rfl rfl (fun _ => congrArg (fun q => !q) (eqRow_rel _ _)) rfl rfl ?_
            refine D.done [(1, [], _), (5, [], _), (6, [], _), (8, [], _), (10, [], _), (13, [], _), (15, [], _), (16, [], _), (162, [], _)] ⟨rfl, rfl, rfl, rfl, rfl, rfl, rfl, rfl, rfl, trivial⟩ (hR _ _ _ rfl ?_); clear hR hB R
            refine G.cond rfl (fun h162 => ?_) (fun h162 => ?_)
            · skip
              exfalso
              simp at h162
            · skip
              refine G.region rfl (fun R hR => ?_)
              refine D.pure rfl rfl rfl rfl rfl rfl ?_
              refine D.i64 _ rfl rfl rfl rfl rfl (by omega) (by omega) rfl rfl ?_
              refine D.pure rfl rfl rfl rfl rfl rfl ?_
              refine D.done [(1, [], _), (5, [], _), (6, [], _), (8, [], _), (10, [], _), (13, [], _), (15, [], _), (16, [], _)] ⟨rfl, rfl, rfl, rfl, rfl, rfl, rfl, rfl, trivial⟩ (hR _ _ _ rfl ?_); clear hR R
              refine G.again (m' := W.length - (q + 1)) (by omega) (by (repeat (first | exact Mem.le.refl _ | assumption | (apply Mem.le.trans; rotate_left; assumption)))) (fr' := [(1, [], _), (5, [], _), (6, [], _), (8, [], _), (10, [], _), (13, [], _), (15, [], _), (16, [], _)]) ⟨rfl, rfl, rfl, rfl, rfl, rfl, rfl, rfl, trivial⟩ ⟨q + 1, by omega, rfl, rfl, rfl⟩
          · skip
            skip
            refine G.region rfl (fun R hR => ?_)
            refine D.pure rfl rfl rfl rfl rfl rfl ?_
            refine D.callP (lcyclesG_fn _ _ W (hq130.mono (by (repeat (first | exact Mem.le.refl _ | assumption | (apply Mem.le.trans; rotate_left; assumption))))) (by omega)) rfl rfl rfl rfl rfl rfl rfl (fun _ => rfl) (fun v164 C164 hle164 hq164 => ?_)
            obtain ⟨x164, hx164, _⟩ := hq164
            subst hx164
            iterate 3 refine D.pure rfl rfl rfl rfl rfl rfl ?_
            have hcz : ((((cycL W).length : Nat) : Int) == 0) = noneB l ns := by
              unfold noneB
              rw [hW, Bool.eq_iff_iff, beq_iff_eq, decide_eq_true_eq]
              constructor
              · intro h; exact List.eq_nil_of_length_eq_zero (by omega)
              · intro h; rw [h]; rfl
            rw [hcz]
            refine D.done [(1, [], _), (5, [], _), (8, [], _), (10, [], _), (13, [], _), (17, [], _)] ⟨rfl, rfl, rfl, rfl, rfl, rfl, trivial⟩ (hR _ _ _ rfl ?_); clear hR R
            refine G.region rfl (fun R hR => ?_)
            refine D.pure rfl rfl rfl rfl rfl rfl ?_
            refine D.done [(1, [], _), (5, [], _), (8, [], _), (10, [], _), (13, [], _), (17, [], _), (18, [], _)] ⟨rfl, rfl, rfl, rfl, rfl, rfl, rfl, trivial⟩ (hR _ _ _ rfl ?_); clear hR R
            refine G.region rfl (fun R hR => ?_)
            refine D.pure rfl rfl rfl rfl rfl rfl ?_
            refine D.done [(1, [], _), (5, [], _), (8, [], _), (10, [], _), (13, [], _), (17, [], _), (18, [], _), (19, [], _)] ⟨rfl, rfl, rfl, rfl, rfl, rfl, rfl, rfl, trivial⟩ (hR _ _ _ rfl ?_); clear hR R
            refine G.loop (fun fr C' L' μ => ∃ (q : Nat), (q ≤ st.length) ∧ fr = [(1, [], .slice As st.length cs), (5, [], .slice Al l.length cl), (8, [], .bool (noneB l ns)), (10, [], .bool (needB l ns)), (13, [], .int .i64 b), (17, [], .bool (noneB l ns)), (18, [], .bool ((List.range q).any fun k => noneB l (ns.eraseIdx k))), (19, [], .int .i64 q)] ∧ L' = [] ∧ μ = st.length - q) (fr' := [(1, [], _), (5, [], _), (8, [], _), (10, [], _), (13, [], _), (17, [], _), (18, [], _), (19, [], _)]) ⟨rfl, rfl, rfl, rfl, rfl, rfl, rfl, rfl, trivial⟩ ⟨0, Nat.zero_le _, rfl, rfl, rfl⟩ (fun fr C2' L2' m hle2 hI => ?_)
            obtain ⟨q, hq, rfl, rfl, rfl⟩ := hI
            refine G.region rfl (fun R hR => ?_)
            iterate 4 refine D.pure rfl rfl rfl rfl rfl rfl ?_
            refine D.done [(1, [], _), (5, [], _), (8, [], _), (10, [], _), (13, [], _), (17, [], _), (18, [], _), (19, [], _), (170, [], _)] ⟨rfl, rfl, rfl, rfl, rfl, rfl, rfl, rfl, rfl, trivial⟩ (hR _ _ _ rfl ?_); clear hR R
            refine G.cond rfl (fun h170 => ?_) (fun h170 => ?_)
            · skip
              have hql : q < st.length := by simpa using h170
              obtain ⟨z, hz⟩ : ∃ z, ns[q]? = some z := ⟨ns[q]'(by omega), List.getElem?_eq_getElem (by omega)⟩
              have hrz : (ns.map encN)[q]? = some (encN z) := by rw [List.getElem?_map, hz]; rfl
              have hz8 : z < 8 := by have := hasc2 z (List.mem_of_getElem? hz); omega
              have hp8 : 2 ^ z < 2 ^ 8 := Nat.pow_lt_pow_right (by decide) hz8
              have hand : andN b (2 ^ z) < 9223372036854775808 := and_small b _ (by omega)
              have hwe : wobL l (andN b (2 ^ z)) = woL l (ns.eraseIdx q) := wobL_eq (fun i hi => by
                rw [andN_bit (by omega), Bool.and_eq_true, Bool.and_eq_true, hbit, ← nats_mem hse0, hns, decide_eq_true_eq, Bool.not_eq_true', Bool.eq_false_iff, Ne, two_bit]
                have hnd : ns.Nodup := hasc.imp (fun h e => by omega)
                rw [List.mem_eraseIdx_iff_getElem]
                obtain ⟨hqn, hqe⟩ := List.getElem?_eq_some_iff.1 hz
                constructor
                · rintro ⟨h1, _, h3⟩
                  obtain ⟨j, hj, hje⟩ := List.mem_iff_getElem.1 h1
                  exact ⟨j, hj, fun e => h3 (by subst e; rw [← hje, hqe]), hje⟩
                · rintro ⟨j, hj, hne, hje⟩
                  refine ⟨by rw [← hje]; exact List.getElem_mem hj, by omega, fun e => ?_⟩
                  rw [e] at hje
                  exact hne ((List.getElem_inj hnd).1 (hje.trans hqe.symm)))
              have hWe := woL_len l (ns.eraseIdx q)
              refine G.regionO [(10, 2), (11, 2)] rfl (fun R hR => ?_)
              iterate 6 refine D.pure rfl rfl rfl rfl rfl rfl ?_
              refine D.index rfl rfl rfl rfl rfl rfl rfl rfl rfl rfl (fun hg => ⟨(hvn.mono (by (repeat (first | exact Mem.le.refl _ | assumption | (apply Mem.le.trans; rotate_left; assumption))))), by omega, hrz⟩) (fun _ => rfl) rfl (fun p179 hp179 => ?_)
              refine D.loadP rfl rfl rfl rfl rfl rfl hp179 rfl rfl rfl ?_
              refine D.shl1 (z) rfl rfl rfl rfl rfl rfl (by first | exact .inl rfl | exact .inr rfl) rfl (by omega) rfl rfl ?_
              refine D.andNotI (b) (2 ^ z) rfl rfl rfl rfl rfl rfl rfl rfl (by omega) (by omega) rfl rfl ?_
              refine D.callPG (fun x : Option Addr × Nat => .slice x.1 (wobL l (andN b (2 ^ z))).length x.2) (fun hG183 => (lwithoutG_fn _ _ l (andN b (2 ^ z)) (hq34.mono (by (repeat (first | exact Mem.le.refl _ | assumption | (apply Mem.le.trans; rotate_left; assumption))))) (by omega) hand)) rfl rfl rfl rfl rfl rfl rfl (fun _ => rfl) rfl rfl (fun v183 C183 hle183 hq183 => ?_)
              refine D.callPG (fun x : Option Addr × Nat => .slice x.1 (cycL (wobL l (andN b (2 ^ z)))).length x.2) (fun hG184 => (lcyclesG_fn _ _ (wobL l (andN b (2 ^ z))) (hq183 (by exact hG184)) (by rw [hwe]; omega))) rfl rfl rfl rfl rfl rfl rfl (fun _ => rfl) rfl rfl (fun v184 C184 hle184 hq184 => ?_)
              iterate 2 refine D.pure rfl rfl rfl rfl rfl rfl ?_
              refine D.pickOr rfl rfl rfl rfl rfl rfl rfl rfl ?_
              refine D.pure rfl rfl rfl rfl rfl rfl ?_
              have hcz2 : ((((cycL (wobL l (andN b (2 ^ z)))).length : Nat) : Int) == 0) = noneB l (ns.eraseIdx q) := by
                unfold noneB
                rw [hwe, Bool.eq_iff_iff, beq_iff_eq, decide_eq_true_eq]
                constructor
                · intro h; exact List.eq_nil_of_length_eq_zero (by omega)
                · intro h; rw [h]; rfl
              have hfe : (((List.range q).any fun k => noneB l (ns.eraseIdx k)) || ((((cycL (wobL l (andN b (2 ^ z)))).length : Nat) : Int) == 0)) = ((List.range (q + 1)).any fun k => noneB l (ns.eraseIdx k)) := by
                rw [hcz2, List.range_succ, List.any_append]; simp
              refine D.done [(1, [], _), (5, [], _), (8, [], _), (10, [], _), (13, [], _), (17, [], _), (18, [], _), (19, [], _)] ⟨rfl, rfl, rfl, rfl, rfl, rfl, rfl, rfl, trivial⟩ (hR _ _ _ rfl ?_); clear hR R
              refine G.region rfl (fun R hR => ?_)
              refine D.pure rfl rfl rfl rfl rfl rfl ?_
              refine D.i64 _ rfl rfl rfl rfl rfl (by omega) (by omega) rfl rfl ?_
              refine D.pure rfl rfl rfl rfl rfl rfl ?_
              refine D.done [(1, [], _), (5, [], _), (8, [], _), (10, [], _), (13, [], _), (17, [], _), (18, [], _), (19, [], _)] ⟨rfl, rfl, rfl, rfl, rfl, rfl, rfl, rfl, trivial⟩ (hR _ _ _ rfl ?_); clear hR R
              rw [hfe]
              refine G.again (m' := st.length - (q + 1)) (by omega) (by (repeat (first | exact Mem.le.refl _ | assumption | (apply Mem.le.trans; rotate_left; assumption)))) (fr' := [(1, [], _), (5, [], _), (8, [], _), (10, [], _), (13, [], _), (17, [], _), (18, [], _), (19, [], _)]) ⟨rfl, rfl, rfl, rfl, rfl, rfl, rfl, rfl, trivial⟩ ⟨q + 1, by omega, rfl, rfl, rfl⟩
            · skip
              have hql : q = st.length := by
                have : ¬ q < st.length := by simpa using h170
                omega
              subst hql
              refine G.region rfl (fun R hR => ?_)
              iterate 9 refine D.pure rfl rfl rfl rfl rfl rfl ?_
              refine D.pickAnd rfl rfl rfl rfl rfl rfl rfl rfl ?_
              refine D.pure rfl rfl rfl rfl rfl rfl ?_
              refine D.pickAnd rfl rfl rfl rfl rfl rfl rfl rfl ?_
              refine D.pure rfl rfl rfl rfl rfl rfl ?_
              refine D.done [(4, [], _)] ⟨rfl, trivial⟩ (hR _ _ _ rfl ?_); clear hR R
              refine G.retN (G.dropAll (G.fin1 rfl rfl ?_))
              refine ⟨rfl, ?_⟩
              have hnb : needB l ns = (noneB l ns && !((List.range st.length).any fun k => noneB l (ns.eraseIdx k))) := by
                unfold needB
                rw [hnl]
                congr 1
                rw [List.not_any_eq_all_not]
              rw [hnb]
              cases noneB l ns <;> simp
end Go.Proofs.YtcghlfepfcagbaaGreat
namespace Go.Proofs.YtcghlfepfcagbaaGreat
open Go Go.Jog Go.ChangeShapes Go.WideShapes Go.ChangeAt Go.RowKit
set_option maxRecDepth 100000

namespace lawContradictionSets
theorem laid_met (os : Os) (args : Array Value) : laidMetH Tryz.prog Rows.contradictionSetsRow.laid ((laidWorld os).forCall (fun _ _ => 0) ⟨#[], args, []⟩).memory :=
  laidMet_of_run' 8 (by kernel_rfl) (by kernel_rfl)
theorem contract (H : Type) (enc : TypeId × Value → H) (W : World) (base : Nat) (args : Array Value) (ds gs : List (DataW H)) (before : List MemPlace)
    (hval : ∀ (j : Nat) t v, Tryz.f7.params[j]? = some t → args[j]? = some v → Value.okWide Tryz.prog W .any base t v)
    (hW : DataW.Whole enc Tryz.prog Tryz.f7.params.toList Rows.contradictionSetsSpec.vars false W args.toList ds gs before) (_hsh : W.ShapedOpen Tryz.prog) :
    Calls Tryz.prog 7 args W fun e W' => ∃ v, e = .returned v ∧ Rows.contradictionSetsSpec.post enc Tryz.prog Tryz.f7 false true false false W args v W' := by
  have hW' := hW
  obtain ⟨p, q, hA0, hV, rfl, hfz, hnd⟩ := hW
  have hA : DataW.TrodAll enc Tryz.prog W 0 (fun _ => true) true Tryz.f7.params.toList args.toList ds p := hA0
  rw [Tryz.params7] at hA hval
  obtain ⟨v0, vs0, d0, ds0, p0, q0, hargs0, rfl, rfl, h0, r0⟩ := trodAll_cons hA
  obtain ⟨v1, vs1, d1, ds1, p1, q1, hargs1, rfl, rfl, h1, r1⟩ := trodAll_cons r0
  obtain ⟨rfl, rfl, rfl⟩ := trodAll_nil r1
  obtain rfl : args = #[v0, v1] := by cases args; simp_all
  obtain ⟨rfl, rfl⟩ := trodVars_none hV
  obtain ⟨a0, len0, cap0, rfl⟩ := okWide_slice Tryz.underlying22 (hval 0 22 v0 rfl rfl)
  obtain ⟨l0, hl0⟩ : ∃ l : List Seen, Sl (memOf W) 3 (.slice a0 len0 cap0) (l.map Seen.enc) := by
    obtain ⟨n, hn⟩ := (id h0)
    exact seens_of hn
  obtain ⟨a1, len1, cap1, rfl⟩ := okWide_slice Tryz.underlying31 (hval 1 31 v1 rfl rfl)
  obtain ⟨l1, hl1⟩ : ∃ l : List Int, Sl (memOf W) 1 (.slice a1 len1 cap1) (l.map encI) := by
    obtain ⟨n, hn⟩ := (id h1)
    exact ints_of hn
  simp only [List.append_nil] at hW'
  have hlt0 : ∀ x ∈ p0, x.block < W.heap.size := fun x hx => hW'.lt x (by simp [hx])
  have hlt1 : ∀ x ∈ p1, x.block < W.heap.size := fun x hx => hW'.lt x (by simp [hx])
  have main := gives_below (gives_of (csets_fn (memOf W) _ _ l0 l1 hl0 hl1))
  refine Calls.mono main fun e W' ⟨he, hb⟩ => ?_
  subst he
  refine ⟨_, rfl, post_of_below (pa := p0 ++ (p1 ++ ([]))) (pv := []) hW' (fun _ _ _ => trodAll_cons_mk (shut_bool Tryz.underlying4 _) trodAll_mk0) (fun sp hsp => ?_) (fun _ _ => rfl) (by simp) hb (ok_one (by kernel_rfl) rfl (okWide_bool_mk Tryz.underlying4 _))⟩
  exact trodAll_cons_mk (WideElems.Trod_stays laidOut' (by kernel_rfl) (of_decide_eq_true (by kernel_rfl)) h0 (fun x hx => hb.same (hlt0 x hx)) (fun x hx => hsp x (by simp [hx]))) (trodAll_cons_mk (WideElems.Trod_stays laidOut' (by kernel_rfl) (of_decide_eq_true (by kernel_rfl)) h1 (fun x hx => hb.same (hlt1 x hx)) (fun x hx => hsp x (by simp [hx]))) (trodAll_mk0))

theorem reads (os : Os) {H : Type} (enc : TypeId × Value → H) : ∃ places, DataW.whole enc Tryz.prog ((laidWorld os).forCall (fun _ _ => 0) ⟨#[], #[.slice none 0 0, .slice none 0 0], []⟩).memory Tryz.f7.params.toList Rows.contradictionSetsSpec.vars false (#[.slice none 0 0, .slice none 0 0] : Array Value).toList 8 = some ([.nil, .nil], [], places) :=
  ⟨[], by kernel_rfl⟩

theorem lifted (os : Os) (started : os.Started) (H : Type) (enc : TypeId × Value → H) (F : Stop.Interp) :
    ReturnsInHanded {} Tryz.checked os 7 .any ((OpenSpec.ofChange Rows.contradictionSetsSpec).preRow enc Tryz.prog Tryz.f7 Rows.contradictionSetsRow.domain false Rows.contradictionSetsRow.laid) (((OpenSpec.ofChange Rows.contradictionSetsSpec).at F).post enc Tryz.prog Tryz.f7 false true false false) := by
  obtain ⟨places, hx⟩ := reads os enc
  refine returnsInHanded_of_row (C := Tryz.checked) (s := OpenSpec.ofChange Rows.contradictionSetsSpec) own started (by kernel_rfl) Tryz.func7
    (witness_row_at (enc := enc) (C := Tryz.checked) false (laidWorld os) #[.slice none 0 0, .slice none 0 0] rfl (by kernel_rfl) (by kernel_rfl) (by kernel_rfl)
      (OpenSpec.preRow_of_cond 8 hx (by kernel_rfl) (fun k hk => by cases hk) (by kernel_rfl) (laid_met os _))) ?_
  intro W base args ds gs before hval hW _ _ _ hL hsh _
  exact contract H enc W base args ds gs before hval hW hsh

theorem said : Rows.ContradictionSetsSaid :=
  OpenClaim.holds_of_cond 7 Tryz.f7 rfl rfl rfl rfl rfl rfl rfl ⟨rfl, rfl, rfl, rfl, rfl⟩ rfl rfl rfl rfl rfl (by kernel_rfl) Tryz.func7 (by kernel_rfl)
    (of_decide_eq_true (by kernel_rfl)) (by unfold Func.isWrapper; first | (rw [if_pos (by decide +kernel)]; kernel_rfl) | (rw [if_neg (by decide +kernel)]; exact ⟨rfl, rfl⟩))
    (fun os started H enc _ F => by rw [OpenClaim.pre_eq_preRow]; exact lifted os started H enc F)

end lawContradictionSets

/-- FOR ANY DESCRIPTIONS AND ANY LIST OF NUMBERS ContradictionSets ANSWERS true, and leaves them as they were. -/
theorem contradictionSets_said : Rows.ContradictionSetsSaid := lawContradictionSets.said
#print axioms contradictionSets_said
end Go.Proofs.YtcghlfepfcagbaaGreat
