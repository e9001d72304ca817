/- FOR ANY TEXT CheckerNumbers ANSWERS true, and leaves it as it was. -/
import Derived.Test.YtfelabnohopfdaaGreatDoorG6
import Derived.Test.YtfelabnohopfdaaGreatDoorShelf
import Derived.Lib.ItoaMem
namespace Go.Proofs.YtfelabnohopfdaaGreatDoor
open Go Go.Jog
set_option maxRecDepth 100000

theorem split_fn (C : Mem) (s : Str) : Gives cx.P 86 [strV s] C (.tuple #[.bool (dropP 45 s).2, strV (dropP 45 s).1]) := by
  refine Fn.intro (by kernel_rfl) Tryz.func86 rfl 17 rfl rfl (fun w0 => ?_)
  refine G.region rfl (fun R hR => ?_)
  iterate 2 refine D.pure rfl rfl rfl rfl rfl rfl ?_
  refine D.done [(0, [], _)] ⟨rfl, trivial⟩ (hR _ _ _ rfl ?_); clear hR R
  refine G.region rfl (fun R hR => ?_)
  iterate 2 refine D.pure rfl rfl rfl rfl rfl rfl ?_
  refine D.done [(4, [], _)] ⟨rfl, trivial⟩ (hR _ _ _ rfl ?_); clear hR R
  refine G.region rfl (fun R hR => ?_)
  iterate 5 refine D.pure rfl rfl rfl rfl rfl rfl ?_
  refine D.indexStr (b := s.headD 0) rfl rfl rfl rfl rfl rfl rfl rfl (fun hg => ⟨by omega, (by
    cases s with
    | nil => exact Bool.noConfusion (show false = true from hg.1)
    | cons b s => rfl)⟩) rfl rfl ?_
  refine D.pure rfl rfl rfl rfl rfl rfl ?_
  refine D.pickAnd rfl rfl rfl rfl rfl rfl rfl rfl ?_
  refine D.done [(4, [], _), (13, [], _)] ⟨rfl, rfl, trivial⟩ (hR _ _ _ rfl ?_); clear hR R
  refine G.cond rfl (fun h13 => ?_) (fun h13 => ?_)
  · skip
    have hh : s.head? = some 45 := by
      cases s with
      | nil => cases h13
      | cons b s =>
        have h1 : b = 45 := by
          refine UInt8.toNat_inj.1 ?_
          show b.toNat = 45
          simp at h13
          omega
        rw [h1]; rfl
    have hlen : 1 ≤ s.length := by cases s with
      | nil => cases hh
      | cons b s => simp
    refine G.draw [0, 1, 2, 3] [] rfl (by kernel_rfl) (fun R hB hR => ?_)
    refine D.pure rfl rfl rfl rfl rfl rfl ?_
    refine D.sliceStr 1 s.length rfl rfl rfl rfl rfl rfl rfl rfl rfl (fun _ => ⟨.inr ⟨_, rfl⟩, .inl ⟨rfl, rfl⟩, .inl ⟨rfl, rfl⟩, by omega, Nat.le_refl _, Nat.le_refl _⟩) rfl rfl ?_
    iterate 2 refine D.pure rfl rfl rfl rfl rfl rfl ?_
    refine D.done [(2, [], _), (3, [], _)] ⟨rfl, rfl, trivial⟩ (hR _ _ _ rfl ?_); clear hR hB R
    refine G.retN (G.dropAll (G.fin2 rfl rfl rfl ?_))
    unfold dropP
    rw [if_pos hh]
    refine ⟨?_, rfl⟩
    rw [List.take_length, List.drop_one]; rfl
  · skip
    have hh : ¬ s.head? = some 45 := by
      cases s with
      | nil => simp
      | cons b s =>
        intro h
        have h1 : b = 45 := by simpa using h
        subst h1
        simp at h13
    refine G.region rfl (fun R hR => ?_)
    iterate 3 refine D.pure rfl rfl rfl rfl rfl rfl ?_
    refine D.done [(2, [], _), (3, [], _)] ⟨rfl, rfl, trivial⟩ (hR _ _ _ rfl ?_); clear hR R
    refine G.retN (G.dropAll (G.fin2 rfl rfl rfl ?_))
    unfold dropP
    rw [if_neg hh]
    exact ⟨rfl, rfl⟩
/-- The text of an integer, as it is. -/
def canonB (s : Str) : Bool := (dropP 45 s).1.all digB && !((dropP 45 s).1 == []) && !((dropP 45 s).1.head? == some 48 && ((dropP 45 s).2 || decide (1 < (dropP 45 s).1.length)))
set_option maxHeartbeats 1000000 in
theorem canon_fn (C : Mem) (s : Str) (hl : s.length < 1000000) : Gives cx.P 87 [strV s] C (.bool (canonB s)) := by
  obtain ⟨t, neg, hdp⟩ : ∃ t b, dropP 45 s = (t, b) := ⟨_, _, rfl⟩
  have htl : t.length < 1000000 := by
    have : t = (dropP 45 s).1 := by rw [hdp]
    rw [this]; unfold dropP; split
    · simp; omega
    · exact hl
  have hcb : canonB s = (t.all digB && !(t == []) && !(t.head? == some 48 && (neg || decide (1 < t.length)))) := by unfold canonB; rw [hdp]
  refine Fn.intro (by kernel_rfl) Tryz.func87 rfl 43 rfl rfl (fun w0 => ?_)
  refine G.region rfl (fun R hR => ?_)
  refine D.pure rfl rfl rfl rfl rfl rfl ?_
  refine D.done [(0, [], _)] ⟨rfl, trivial⟩ (hR _ _ _ rfl ?_); clear hR R
  refine G.region rfl (fun R hR => ?_)
  refine D.pure rfl rfl rfl rfl rfl rfl ?_
  refine D.gives2 (by have h := split_fn C s; rw [hdp] at h; exact h) rfl rfl rfl rfl rfl rfl rfl (fun _ => rfl) ?_
  iterate 5 refine D.pure rfl rfl rfl rfl rfl rfl ?_
  refine D.done [(3, [], _), (4, [], _)] ⟨rfl, rfl, trivial⟩ (hR _ _ _ rfl ?_); clear hR R
  refine G.region rfl (fun R hR => ?_)
  refine D.pure rfl rfl rfl rfl rfl rfl ?_
  refine D.done [(3, [], _), (4, [], _), (5, [], _)] ⟨rfl, rfl, rfl, trivial⟩ (hR _ _ _ rfl ?_); clear hR R
  refine G.loop (fun fr C' L' μ => ∃ (i : Nat), (i ≤ t.length ∧ ∀ c ∈ t.take i, digB c = true) ∧ fr = [(3, [], .bool neg), (4, [], strV t), (5, [], .int .i64 i)] ∧ L' = [] ∧ μ = t.length - i) (fr' := [(3, [], _), (4, [], _), (5, [], _)]) ⟨rfl, rfl, rfl, trivial⟩ ⟨0, ⟨Nat.zero_le _, by simp⟩, rfl, rfl, rfl⟩ (fun fr C0' L0' m hle0 hI => ?_)
  obtain ⟨i, ⟨hi, hdig⟩, rfl, rfl, rfl⟩ := hI
  refine G.region rfl (fun R hR => ?_)
  iterate 4 refine D.pure rfl rfl rfl rfl rfl rfl ?_
  refine D.done [(3, [], _), (4, [], _), (5, [], _), (14, [], _)] ⟨rfl, rfl, rfl, rfl, trivial⟩ (hR _ _ _ rfl ?_); clear hR R
  refine G.cond rfl (fun h14 => ?_) (fun h14 => ?_)
  · skip
    have hil : i < t.length := by simpa using h14
    obtain ⟨c, hc⟩ : ∃ c, t[i]? = some c := ⟨t[i], List.getElem?_eq_getElem hil⟩
    refine G.region rfl (fun R hR => ?_)
    iterate 2 refine D.pure rfl rfl rfl rfl rfl rfl ?_
    refine D.indexStr rfl rfl rfl rfl rfl rfl rfl rfl (fun _ => ⟨by omega, hc⟩) rfl rfl ?_
    iterate 4 refine D.pure rfl rfl rfl rfl rfl rfl ?_
    refine D.indexStr rfl rfl rfl rfl rfl rfl rfl rfl (fun _ => ⟨by omega, hc⟩) rfl rfl ?_
    refine D.pure rfl rfl rfl rfl rfl rfl ?_
    refine D.pickOr rfl rfl rfl rfl rfl rfl rfl rfl ?_
    refine D.done [(3, [], _), (4, [], _), (5, [], _), (26, [], _)] ⟨rfl, rfl, rfl, rfl, trivial⟩ (hR _ _ _ rfl ?_); clear hR R
    refine G.cond rfl (fun h26 => ?_) (fun h26 => ?_)
    · skip
      have hno : canonB s = false := by
        have h1 : t.all digB = false := by
          rw [List.all_eq_false]
          refine ⟨c, List.mem_of_getElem? hc, ?_⟩
          simp at h26
          unfold digB
          simp
          omega
        rw [hcb, h1]; rfl
      refine G.region rfl (fun R hR => ?_)
      refine D.pure rfl rfl rfl rfl rfl rfl ?_
      refine D.done [(2, [], _)] ⟨rfl, trivial⟩ (hR _ _ _ rfl ?_); clear hR R
      refine G.retN (G.dropAll (G.fin1 rfl rfl ?_))
      exact ⟨by rw [hno], rfl⟩
    · skip
      have hcd : digB c = true := by
        simp at h26
        unfold digB
        simp
        omega
      refine G.region rfl (fun R hR => ?_)
      refine D.pure rfl rfl rfl rfl rfl rfl ?_
      refine D.i64 _ rfl rfl rfl rfl rfl (by omega) (by omega) rfl rfl ?_
      refine D.pure rfl rfl rfl rfl rfl rfl ?_
      refine D.done [(3, [], _), (4, [], _), (5, [], _)] ⟨rfl, rfl, rfl, trivial⟩ (hR _ _ _ rfl ?_); clear hR R
      refine G.again (m' := t.length - (i + 1)) (by omega) (by (repeat (first | exact Mem.le.refl _ | assumption | (apply Mem.le.trans; rotate_left; assumption)))) (fr' := [(3, [], _), (4, [], _), (5, [], _)]) ⟨rfl, rfl, rfl, trivial⟩ ⟨i + 1, ⟨by omega, fun x hx => by
        rw [List.take_add_one, hc] at hx
        rcases List.mem_append.1 hx with h | h
        · exact hdig x h
        · simp at h; subst h; exact hcd⟩, rfl, rfl, rfl⟩
  · skip
    have hil : t.length ≤ i := by
      have : ¬ i < t.length := by simpa using h14
      omega
    rw [List.take_of_length_le hil] at hdig
    have hall : t.all digB = true := List.all_eq_true.2 hdig
    refine G.region rfl (fun R hR => ?_)
    iterate 5 refine D.pure rfl rfl rfl rfl rfl rfl ?_
    refine D.indexStr (b := t.headD 0) rfl rfl rfl rfl rfl rfl rfl rfl (fun hg => ⟨by omega, (by
      cases t with
      | nil => exact Bool.noConfusion (show true = false from hg.1)
      | cons b t => rfl)⟩) rfl rfl ?_
    iterate 7 refine D.pure rfl rfl rfl rfl rfl rfl ?_
    refine D.pickOr rfl rfl rfl rfl rfl rfl rfl rfl ?_
    refine D.pickAnd rfl rfl rfl rfl rfl rfl rfl rfl ?_
    refine D.pickOr rfl rfl rfl rfl rfl rfl rfl rfl ?_
    refine D.done [(42, [], _)] ⟨rfl, trivial⟩ (hR _ _ _ rfl ?_); clear hR R
    refine G.cond rfl (fun h42 => ?_) (fun h42 => ?_)
    · skip
      have hno : canonB s = false := by
        rw [hcb, hall]
        cases t with
        | nil => rfl
        | cons b t =>
          simp at h42
          rcases h42 with h | h
          · omega
          · have hb : b = 48 := UInt8.toNat_inj.1 (by have h1 := h.1; show b.toNat = 48; omega)
            subst hb
            rcases h.2 with h2 | h2
            · simp [h2]
            · have h3 : t ≠ [] := by rintro rfl; simp at h2
              simp [List.length_pos_iff.2 h3]
      refine G.region rfl (fun R hR => ?_)
      refine D.pure rfl rfl rfl rfl rfl rfl ?_
      refine D.done [(2, [], _)] ⟨rfl, trivial⟩ (hR _ _ _ rfl ?_); clear hR R
      refine G.retN (G.dropAll (G.fin1 rfl rfl ?_))
      exact ⟨by rw [hno], rfl⟩
    · skip
      have hyes : canonB s = true := by
        rw [hcb, hall]
        cases t with
        | nil => simp at h42
        | cons b t =>
          simp at h42
          simp
          by_cases hb : b = 48
          · subst hb
            have := h42.2
            simp at this
            exact .inr ⟨this.1, List.eq_nil_of_length_eq_zero (by omega)⟩
          · exact .inl hb
      refine G.region rfl (fun R hR => ?_)
      refine D.pure rfl rfl rfl rfl rfl rfl ?_
      refine D.done [(2, [], _)] ⟨rfl, trivial⟩ (hR _ _ _ rfl ?_); clear hR R
      refine G.retN (G.dropAll (G.fin1 rfl rfl ?_))
      exact ⟨by rw [hyes], rfl⟩
def rightI (s : Str) : Bool := canonB s && decide ((dropP 45 s).1.length ≤ 200)
theorem right1_fn (C : Mem) (s : Str) (hl : s.length < 1000000) : Gives cx.P 46 [strV s] C (.bool (rightI s)) := by
  refine Fn.intro (by kernel_rfl) Tryz.func46 rfl 17 rfl rfl (fun w0 => ?_)
  refine G.region rfl (fun R hR => ?_)
  refine D.pure rfl rfl rfl rfl rfl rfl ?_
  refine D.done [(0, [], _)] ⟨rfl, trivial⟩ (hR _ _ _ rfl ?_); clear hR R
  refine G.region rfl (fun R hR => ?_)
  refine D.pure rfl rfl rfl rfl rfl rfl ?_
  refine D.gives2 (split_fn _ s) rfl rfl rfl rfl rfl rfl rfl (fun _ => rfl) ?_
  iterate 5 refine D.pure rfl rfl rfl rfl rfl rfl ?_
  refine D.done [(0, [], _), (4, [], _)] ⟨rfl, rfl, trivial⟩ (hR _ _ _ rfl ?_); clear hR R
  refine G.region rfl (fun R hR => ?_)
  refine D.pure rfl rfl rfl rfl rfl rfl ?_
  refine D.gives2 (canon_fn _ s hl) rfl rfl rfl rfl rfl rfl rfl (fun _ => rfl) ?_
  iterate 4 refine D.pure rfl rfl rfl rfl rfl rfl ?_
  refine D.pickAnd rfl rfl rfl rfl rfl rfl rfl rfl ?_
  refine D.pure rfl rfl rfl rfl rfl rfl ?_
  refine D.done [(2, [], _)] ⟨rfl, trivial⟩ (hR _ _ _ rfl ?_); clear hR R
  refine G.retN (G.dropAll (G.fin1 rfl rfl ?_))
  refine ⟨?_, rfl⟩
  unfold rightI
  congr 2
  rw [decide_eq_decide]
  show (((dropP 45 s).1.length : Nat) : Int) ≤ 200 ↔ _
  omega
theorem indexByteS_fn (C : Mem) (s : Str) (c : UInt8) : Gives cx.P 47 [strV s, .int .u8 c.toNat] C (.int .i64 (Lib.indexByte s c)) := by
  refine Fn.intro (by kernel_rfl) Tryz.func47 rfl 8 rfl rfl (fun w0 => ?_)
  refine G.region rfl (fun R hR => ?_)
  refine D.pure rfl rfl rfl rfl rfl rfl ?_
  refine D.done [(0, [], _), (1, [], _)] ⟨rfl, rfl, trivial⟩ (hR _ _ _ rfl ?_); clear hR R
  refine G.region rfl (fun R hR => ?_)
  iterate 2 refine D.pure rfl rfl rfl rfl rfl rfl ?_
  refine D.gives2 (idxByte_fn _ s c) rfl rfl rfl rfl rfl rfl rfl (fun _ => rfl) ?_
  refine D.pure rfl rfl rfl rfl rfl rfl ?_
  refine D.done [(4, [], _)] ⟨rfl, trivial⟩ (hR _ _ _ rfl ?_); clear hR R
  refine G.retN (G.dropAll (G.fin1 rfl rfl ?_))
  exact ⟨rfl, rfl⟩
theorem parts2_fn (C : Mem) (s : Str) (hl : s.length < 1000000) : Gives cx.P 45 [strV s] C (.tuple #[strV (cut1 47 s).1, strV ((cut1 47 s).2.getD [49])]) := by
  refine Fn.intro (by kernel_rfl) Tryz.func45 rfl 17 rfl rfl (fun w0 => ?_)
  refine G.region rfl (fun R hR => ?_)
  iterate 2 refine D.pure rfl rfl rfl rfl rfl rfl ?_
  refine D.done [(0, [], _)] ⟨rfl, trivial⟩ (hR _ _ _ rfl ?_); clear hR R
  refine G.region rfl (fun R hR => ?_)
  refine D.pure rfl rfl rfl rfl rfl rfl ?_
  refine D.gives2 (indexByteS_fn _ s 47) rfl rfl rfl rfl rfl rfl rfl (fun _ => rfl) ?_
  refine D.pure rfl rfl rfl rfl rfl rfl ?_
  refine D.done [(0, [], _), (4, [], _)] ⟨rfl, rfl, trivial⟩ (hR _ _ _ rfl ?_); clear hR R
  refine G.region rfl (fun R hR => ?_)
  iterate 2 refine D.pure rfl rfl rfl rfl rfl rfl ?_
  refine D.done [(0, [], _), (4, [], _), (8, [], _)] ⟨rfl, rfl, rfl, trivial⟩ (hR _ _ _ rfl ?_); clear hR R
  refine G.cond rfl (fun h8 => ?_) (fun h8 => ?_)
  · skip
    have h0 : ¬ 0 ≤ Lib.indexByte s 47 := by
      have : Lib.indexByte s 47 < 0 := by simpa using h8
      omega
    rw [cut1_miss h0]
    refine G.region rfl (fun R hR => ?_)
    iterate 3 refine D.pure rfl rfl rfl rfl rfl rfl ?_
    refine D.done [(2, [], _), (3, [], _)] ⟨rfl, rfl, trivial⟩ (hR _ _ _ rfl ?_); clear hR R
    refine G.retN (G.dropAll (G.fin2 rfl rfl rfl ?_))
    exact ⟨rfl, rfl⟩
  · skip
    have h0 : 0 ≤ Lib.indexByte s 47 := by
      have : ¬ Lib.indexByte s 47 < 0 := by simpa using h8
      omega
    obtain ⟨pre, post, h1, h2, h3⟩ := cut1_hit h0
    have hle : s.length = pre.length + 1 + post.length := by rw [h2]; simp; omega
    rw [h1, h3]
    refine G.draw [0, 1, 2, 3, 4, 5, 6, 7, 8] [] rfl (by kernel_rfl) (fun R hB hR => ?_)
    iterate 2 refine D.pure rfl rfl rfl rfl rfl rfl ?_
    refine D.sliceStr 0 pre.length rfl rfl rfl rfl rfl rfl rfl rfl rfl (fun _ => ⟨.inl ⟨rfl, rfl⟩, .inr ⟨_, rfl⟩, .inl ⟨rfl, rfl⟩, by omega, by omega, Nat.le_refl _⟩) rfl rfl ?_
    iterate 2 refine D.pure rfl rfl rfl rfl rfl rfl ?_
    refine D.i64 (((pre.length + 1 : Nat) : Int)) rfl rfl rfl rfl (by omega) (by omega) (by omega) rfl rfl ?_
    refine D.sliceStr (pre.length + 1) s.length rfl rfl rfl rfl rfl rfl rfl rfl rfl (fun _ => ⟨.inr ⟨_, rfl⟩, .inl ⟨rfl, rfl⟩, .inl ⟨rfl, rfl⟩, by omega, Nat.le_refl _, Nat.le_refl _⟩) rfl rfl ?_
    iterate 2 refine D.pure rfl rfl rfl rfl rfl rfl ?_
    refine D.done [(2, [], _), (3, [], _)] ⟨rfl, rfl, trivial⟩ (hR _ _ _ rfl ?_); clear hR hB R
    refine G.retN (G.dropAll (G.fin2 rfl rfl rfl ?_))
    refine ⟨?_, rfl⟩
    have e1 : (s.take pre.length).drop 0 = pre := by rw [h2]; simp
    have e2 : (s.take s.length).drop (pre.length + 1) = post := by rw [List.take_length, h2]; simp
    rw [e1, e2]; rfl
end Go.Proofs.YtfelabnohopfdaaGreatDoor
namespace Go.Proofs.YtfelabnohopfdaaGreatDoor
open Go Go.Jog
set_option maxRecDepth 100000

theorem cut_p_fn (C : Mem) (v : Value) (l : List Nat) (hv : Sl C 1 v (l.map encN)) : Pur cx.P 140 [v] C fun u C' => Sl C' 1 u ((cutP l).map encN) := by
  obtain ⟨A0, c0, rfl, hlc, _⟩ := id hv
  simp only [List.length_map] at hv hlc ⊢
  refine Fn.intro (by kernel_rfl) Tryz.func140 rfl 21 rfl rfl (fun w0 => ?_)
  refine G.region rfl (fun R hR => ?_)
  refine D.pure rfl rfl rfl rfl rfl rfl ?_
  refine D.done [(0, [], _)] ⟨rfl, trivial⟩ (hR _ _ _ rfl ?_); clear hR R
  refine G.loop (fun fr C' L' μ => ∃ (k : Nat) (A : Option Addr) (c : Nat), (k ≤ l.length ∧ Sl C' 1 (.slice A k c) ((l.take k).map encN) ∧ cutN l l.length = cutN l k) ∧ fr = [(0, [], .slice A k c)] ∧ L' = [] ∧ μ = k + 1) (fr' := [(0, [], _)]) ⟨rfl, trivial⟩ ⟨l.length, A0, c0, ⟨Nat.le_refl _, by rw [List.take_length]; exact hv, rfl⟩, rfl, rfl, rfl⟩ (fun fr C0' L0' m hle0 hI => ?_)
  obtain ⟨k, A, c, ⟨hk, hs, ht⟩, rfl, rfl, rfl⟩ := hI
  obtain ⟨_, c9, hqe, hkc, _⟩ := id hs
  have hmx : maxLen ≤ 9223372036854775807 := by simp [maxLen]
  have hkc2 : k ≤ c := by
    rw [List.length_map, List.length_take] at hkc
    injection hqe with h1 h2 h3
    omega
  have hrow : 0 < k → ((l.take k).map encN)[((k : Int) - 1).toNat]? = some (encN (gP l (k - 1))) := fun h => by
    rw [show ((k : Int) - 1).toNat = k - 1 by omega, List.getElem?_map, List.getElem?_take, if_pos (by omega), List.getElem?_eq_getElem (by omega : k - 1 < l.length)]
    unfold gP
    rw [List.getD_eq_getElem?_getD, List.getElem?_eq_getElem (by omega : k - 1 < l.length)]; rfl
  refine G.region rfl (fun R hR => ?_)
  iterate 7 refine D.pure rfl rfl rfl rfl rfl rfl ?_
  refine D.i64 _ rfl rfl rfl rfl rfl (by omega) (by omega) rfl rfl ?_
  refine D.index rfl rfl rfl rfl rfl rfl rfl rfl rfl rfl (fun hg => ⟨hs, (by have h : decide ((0 : Int) < (k : Int)) = true := hg.1; simp at h; omega), hrow (by have h : decide ((0 : Int) < (k : Int)) = true := hg.1; simp at h; omega)⟩) (fun _ => rfl) rfl (fun p11 hp11 => ?_)
  refine D.loadP rfl rfl rfl rfl rfl rfl hp11 rfl rfl rfl ?_
  refine D.pure rfl rfl rfl rfl rfl rfl ?_
  refine D.pickAnd rfl rfl rfl rfl rfl rfl rfl rfl ?_
  refine D.done [(0, [], _), (14, [], _)] ⟨rfl, rfl, trivial⟩ (hR _ _ _ rfl ?_); clear hR R
  refine G.cond rfl (fun h14 => ?_) (fun h14 => ?_)
  · skip
    have hk0 : 0 < k ∧ gP l (k - 1) = 0 := by
      have : (0 : Int) < (k : Int) ∧ ((gP l (k - 1) : Nat) : Int) = 0 := by simpa using h14
      omega
    refine G.region rfl (fun R hR => ?_)
    iterate 3 refine D.pure rfl rfl rfl rfl rfl rfl ?_
    refine D.i64 (((k - 1 : Nat) : Int)) rfl rfl rfl rfl (by omega) (by omega) (by omega) rfl rfl ?_
    refine D.sliceV 0 (k - 1) c rfl rfl rfl rfl rfl rfl rfl rfl rfl rfl rfl rfl (fun _ => ⟨.inl ⟨rfl, rfl⟩, .inr ⟨_, rfl⟩, .inl ⟨rfl, rfl⟩, by omega, by omega, Nat.le_refl _⟩) rfl rfl ?_
    refine D.pure rfl rfl rfl rfl rfl rfl ?_
    refine D.done [(0, [], _)] ⟨rfl, trivial⟩ (hR _ _ _ rfl ?_); clear hR R
    have hsub := Sl.sub hs (l := 0) (h := k - 1) (m := c) (Nat.zero_le _) (by simp; omega) (by omega) (Nat.le_refl _)
    have esub : (((l.take k).map encN).take (k - 1)).drop 0 = (l.take (k - 1)).map encN := by
      rw [List.drop_zero, ← List.map_take, List.take_take, Nat.min_eq_left (by omega)]
    rw [esub] at hsub
    have etr : cutN l l.length = cutN l (k - 1) := by
      rw [ht]
      obtain ⟨j, rfl⟩ : ∃ j, k = j + 1 := ⟨k - 1, by omega⟩
      simp only [Nat.add_sub_cancel] at hk0 ⊢
      rw [cutN, if_pos]
      unfold gP at hk0
      rw [List.getD_eq_getElem?_getD, List.getElem?_eq_getElem (by omega)] at hk0
      rw [List.getElem?_eq_getElem (by omega)]
      exact congrArg some hk0.2
    refine G.again (m' := k - 1 + 1) (by omega) (by (repeat (first | exact Mem.le.refl _ | assumption | (apply Mem.le.trans; rotate_left; assumption)))) (fr' := [(0, [], _)]) ⟨rfl, trivial⟩ ⟨k - 1, _, c, ⟨by omega, hsub.mono (by (repeat (first | exact Mem.le.refl _ | assumption | (apply Mem.le.trans; rotate_left; assumption)))), etr⟩, rfl, rfl, rfl⟩
  · skip
    have hk0 : ¬ (0 < k ∧ gP l (k - 1) = 0) := fun hh => by
      have h1 : (decide ((0 : Int) < (k : Int)) && (((gP l (k - 1) : Nat) : Int) == 0)) = true := by
        rw [hh.2]; simp; omega
      rw [h1] at h14
      cases h14
    refine G.region rfl (fun R hR => ?_)
    iterate 2 refine D.pure rfl rfl rfl rfl rfl rfl ?_
    refine D.done [(2, [], _)] ⟨rfl, trivial⟩ (hR _ _ _ rfl ?_); clear hR R
    refine G.retN (G.dropAll (G.fin1 rfl rfl ?_))
    refine ⟨rfl, ?_⟩
    have e : cutN l k = k := by
      cases k with
      | zero => rfl
      | succ j =>
        simp only [Nat.add_sub_cancel] at hk0
        rw [cutN, if_neg]
        intro h
        refine hk0 ⟨by omega, ?_⟩
        unfold gP
        rw [List.getD_eq_getElem?_getD, h]; rfl
    unfold cutP
    rw [ht, e]
    exact hs
theorem cutO_fn (C : Mem) (v : Value) (l : List Nat) {n : Nat} (hn : l.length = n) : Jog.Fn cx.P 140 [v] C [.arr v 3 1 n (l.map encN).flatten] fun u C' L' => L' = [] ∧ Sl C' 1 u ((cutP l).map encN) :=
  Jog.Fn.give (l.map encN) (by kernel_rfl) (by intro r hr; obtain ⟨y, _, rfl⟩ := List.mem_map.1 hr; rfl) (by rw [List.length_map, hn]) (fun C' _ hs => cut_p_fn C' v l hs)
/-- A magnitude in pieces. -/
def PieC (C : Mem) (v : Value) (n : Nat) : Prop := ∃ l, CanP l ∧ valP l = n ∧ Sl C 1 v (l.map encN)
theorem PieC.mono {C D : Mem} {v : Value} {n : Nat} (h : PieC C v n) (hl : C.le D) : PieC D v n := by
  obtain ⟨l, h1, h2, h3⟩ := h
  exact ⟨l, h1, h2, h3.mono hl⟩
theorem pless_fn (C : Mem) (va vb : Value) (a b : List Nat) (ha : Sl C 1 va (a.map encN)) (hb : Sl C 1 vb (b.map encN)) (hca : CanP a) (hcb : CanP b) : Gives cx.P 138 [va, vb] C (.bool (decide (valP a < valP b))) := by
  have hmx : maxLen ≤ 9223372036854775807 := by simp [maxLen]
  obtain ⟨A0, c0, rfl, hla, hla2, _⟩ := id ha
  obtain ⟨B0, d0, rfl, hlb, hlb2, _⟩ := id hb
  simp only [List.length_map] at ha hb hla hlb ⊢
  refine Fn.intro (by kernel_rfl) Tryz.func138 rfl 41 rfl rfl (fun w0 => ?_)
  refine G.region rfl (fun R hR => ?_)
  refine D.pure rfl rfl rfl rfl rfl rfl ?_
  refine D.done [(0, [], _), (1, [], _)] ⟨rfl, rfl, trivial⟩ (hR _ _ _ rfl ?_); clear hR R
  refine G.region rfl (fun R hR => ?_)
  iterate 5 refine D.pure rfl rfl rfl rfl rfl rfl ?_
  refine D.done [(0, [], _), (1, [], _), (10, [], _)] ⟨rfl, rfl, rfl, trivial⟩ (hR _ _ _ rfl ?_); clear hR R
  refine G.cond rfl (fun h10 => ?_) (fun h10 => ?_)
  · skip
    have hne : a.length ≠ b.length := fun e => by
      rw [e] at h10; simp at h10
    refine G.region rfl (fun R hR => ?_)
    iterate 6 refine D.pure rfl rfl rfl rfl rfl rfl ?_
    refine D.done [(4, [], _)] ⟨rfl, trivial⟩ (hR _ _ _ rfl ?_); clear hR R
    refine G.retN (G.dropAll (G.fin1 rfl rfl ?_))
    refine ⟨?_, rfl⟩
    congr 1
    rw [decide_eq_decide]
    rcases Nat.lt_or_ge a.length b.length with h | h
    · have := lenP_lt hca.1 hcb h
      constructor
      · intro _; exact this
      · intro _; omega
    · have := lenP_lt hcb.1 hca (by omega)
      constructor <;> intro _ <;> omega
  · skip
    have hlen : a.length = b.length := by
      have : (a.length : Int) = b.length := by simpa using h10
      omega
    refine G.region rfl (fun R hR => ?_)
    iterate 2 refine D.pure rfl rfl rfl rfl rfl rfl ?_
    refine D.i64 _ rfl rfl rfl rfl rfl (by omega) (by omega) rfl rfl ?_
    refine D.pure rfl rfl rfl rfl rfl rfl ?_
    refine D.done [(0, [], _), (1, [], _), (5, [], _)] ⟨rfl, rfl, rfl, trivial⟩ (hR _ _ _ rfl ?_); clear hR R
    refine G.loop (fun fr C' L' μ => ∃ (k : Nat), (k ≤ a.length ∧ a.drop k = b.drop k) ∧ fr = [(0, [], .slice A0 a.length c0), (1, [], .slice B0 b.length d0), (5, [], .int .i64 ((k : Int) - 1))] ∧ L' = [] ∧ μ = k + 1) (fr' := [(0, [], _), (1, [], _), (5, [], _)]) ⟨rfl, rfl, rfl, trivial⟩ ⟨a.length, ⟨Nat.le_refl _, by rw [List.drop_length, hlen, List.drop_length]⟩, rfl, rfl, rfl⟩ (fun fr C0' L0' m hle0 hI => ?_)
    obtain ⟨k, ⟨hk, he⟩, rfl, rfl, rfl⟩ := hI
    refine G.region rfl (fun R hR => ?_)
    iterate 2 refine D.pure rfl rfl rfl rfl rfl rfl ?_
    refine D.done [(0, [], _), (1, [], _), (5, [], _), (20, [], _)] ⟨rfl, rfl, rfl, rfl, trivial⟩ (hR _ _ _ rfl ?_); clear hR R
    refine G.cond rfl (fun h20 => ?_) (fun h20 => ?_)
    · skip
      have hk0 : 0 < k := by
        have : (0 : Int) ≤ (k : Int) - 1 := by simpa using h20
        omega
      obtain ⟨j, rfl⟩ : ∃ j, k = j + 1 := ⟨k - 1, by omega⟩
      obtain ⟨x, hx⟩ : ∃ x, a[j]? = some x := ⟨a[j], List.getElem?_eq_getElem (by omega)⟩
      obtain ⟨y, hy⟩ : ∃ y, b[j]? = some y := ⟨b[j], List.getElem?_eq_getElem (by omega)⟩
      have hrx : (a.map encN)[(((j + 1 : Nat) : Int) - 1).toNat]? = some (encN x) := by
        rw [show (((j + 1 : Nat) : Int) - 1).toNat = j by omega, List.getElem?_map, hx]; rfl
      have hry : (b.map encN)[(((j + 1 : Nat) : Int) - 1).toNat]? = some (encN y) := by
        rw [show (((j + 1 : Nat) : Int) - 1).toNat = j by omega, List.getElem?_map, hy]; rfl
      refine G.draw [0, 1, 2, 3, 4, 5, 6, 7, 8] [] rfl (by kernel_rfl) (fun R hB hR => ?_)
      iterate 2 refine D.pure rfl rfl rfl rfl rfl rfl ?_
      refine D.index0 (ha.mono (by (repeat (first | exact Mem.le.refl _ | assumption | (apply Mem.le.trans; rotate_left; assumption))))) rfl rfl rfl rfl rfl rfl rfl rfl rfl rfl (by omega) hrx (fun _ => rfl) (fun p25 hp25 => ?_)
      refine D.loadP0 hp25 rfl rfl rfl rfl rfl rfl rfl rfl ?_
      iterate 2 refine D.pure rfl rfl rfl rfl rfl rfl ?_
      refine D.index0 (hb.mono (by (repeat (first | exact Mem.le.refl _ | assumption | (apply Mem.le.trans; rotate_left; assumption))))) rfl rfl rfl rfl rfl rfl rfl rfl rfl rfl (by omega) hry (fun _ => rfl) (fun p29 hp29 => ?_)
      refine D.loadP0 hp29 rfl rfl rfl rfl rfl rfl rfl rfl ?_
      refine D.pure rfl rfl rfl rfl rfl rfl ?_
      refine D.done [(0, [], _), (1, [], _), (5, [], _), (31, [], _)] ⟨rfl, rfl, rfl, rfl, trivial⟩ (hR _ _ _ rfl ?_); clear hR hB R
      refine G.cond rfl (fun h31 => ?_) (fun h31 => ?_)
      · skip
        have hxy : x ≠ y := fun e => by
          subst e; simp at h31
        refine G.draw [0, 1, 2, 3, 4, 5, 6, 7, 8, 9] [] rfl (by kernel_rfl) (fun R hB hR => ?_)
        iterate 2 refine D.pure rfl rfl rfl rfl rfl rfl ?_
        refine D.index0 (ha.mono (by (repeat (first | exact Mem.le.refl _ | assumption | (apply Mem.le.trans; rotate_left; assumption))))) rfl rfl rfl rfl rfl rfl rfl rfl rfl rfl (by omega) hrx (fun _ => rfl) (fun p34 hp34 => ?_)
        refine D.loadP0 hp34 rfl rfl rfl rfl rfl rfl rfl rfl ?_
        iterate 2 refine D.pure rfl rfl rfl rfl rfl rfl ?_
        refine D.index0 (hb.mono (by (repeat (first | exact Mem.le.refl _ | assumption | (apply Mem.le.trans; rotate_left; assumption))))) rfl rfl rfl rfl rfl rfl rfl rfl rfl rfl (by omega) hry (fun _ => rfl) (fun p38 hp38 => ?_)
        refine D.loadP0 hp38 rfl rfl rfl rfl rfl rfl rfl rfl ?_
        iterate 2 refine D.pure rfl rfl rfl rfl rfl rfl ?_
        refine D.done [(4, [], _)] ⟨rfl, trivial⟩ (hR _ _ _ rfl ?_); clear hR hB R
        refine G.retN (G.dropAll (G.fin1 rfl rfl ?_))
        refine ⟨?_, rfl⟩
        congr 1
        rw [decide_eq_decide]
        rcases Nat.lt_or_ge x y with h | h
        · have := atP_lt hca.1 hlen hx hy h he
          constructor
          · intro _; exact this
          · intro _; omega
        · have := atP_lt hcb.1 hlen.symm hy hx (by omega) he.symm
          constructor <;> intro _ <;> omega
      · skip
        have hxy : x = y := by
          have : (x : Int) = y := by simpa using h31
          omega
        refine G.region rfl (fun R hR => ?_)
        refine D.pure rfl rfl rfl rfl rfl rfl ?_
        refine D.i64 _ rfl rfl rfl rfl rfl (by omega) (by omega) rfl rfl ?_
        refine D.pure rfl rfl rfl rfl rfl rfl ?_
        refine D.done [(0, [], _), (1, [], _), (5, [], _)] ⟨rfl, rfl, rfl, trivial⟩ (hR _ _ _ rfl ?_); clear hR R
        rw [show ((j + 1 : Nat) : Int) - 1 - 1 = (j : Int) - 1 by omega]
        refine G.again (m' := j + 1) (by omega) (by (repeat (first | exact Mem.le.refl _ | assumption | (apply Mem.le.trans; rotate_left; assumption)))) (fr' := [(0, [], _), (1, [], _), (5, [], _)]) ⟨rfl, rfl, rfl, trivial⟩ ⟨j, ⟨by omega, by
          rw [List.drop_eq_getElem_cons (by omega : j < a.length), List.drop_eq_getElem_cons (by omega : j < b.length), he, (List.getElem?_eq_some_iff.1 hx).2, (List.getElem?_eq_some_iff.1 hy).2, hxy]⟩, rfl, rfl, rfl⟩
    · skip
      have hk0 : k = 0 := by
        have : ¬ (0 : Int) ≤ (k : Int) - 1 := by simpa using h20
        omega
      subst hk0
      refine G.region rfl (fun R hR => ?_)
      refine D.pure rfl rfl rfl rfl rfl rfl ?_
      refine D.done [(4, [], _)] ⟨rfl, trivial⟩ (hR _ _ _ rfl ?_); clear hR R
      refine G.retN (G.dropAll (G.fin1 rfl rfl ?_))
      refine ⟨?_, rfl⟩
      have : a = b := by simpa using he
      subst this
      simp
end Go.Proofs.YtfelabnohopfdaaGreatDoor
namespace Go.Proofs.YtfelabnohopfdaaGreatDoor
open Go Go.Jog
set_option maxRecDepth 100000

theorem cutS_step {s : Str} {lo i : Nat} {c : UInt8} (hlo : lo ≤ i) (hc : s[i]? = some c) : decV (cutS s lo (i + 1)) = 10 * decV (cutS s lo i) + (c.toNat - 48) := by
  have hlt := (List.getElem?_eq_some_iff.1 hc).1
  have e : cutS s lo (i + 1) = cutS s lo i ++ [c] := by
    unfold cutS
    rw [List.take_add_one, hc, Option.toList_some, List.drop_append, List.length_take, Nat.min_eq_left (by omega), show lo - i = 0 by omega]
    rfl
  rw [e]
  unfold decV
  rw [List.foldl_append]
  rfl
theorem cutS_nil (s : Str) (lo : Nat) : cutS s lo lo = [] := by
  unfold cutS
  rw [List.drop_eq_nil_iff, List.length_take]
  omega
set_option maxHeartbeats 1000000 in
theorem take_fn (C : Mem) (s : Str) (hs : ∀ c ∈ s, digB c = true) (hl : s.length ≤ 100000) : Pur cx.P 118 [strV s] C fun u D => PieC D u (decV s) := by
  refine Fn.intro (by kernel_rfl) Tryz.func118 rfl 35 rfl rfl (fun w0 => ?_)
  refine G.region rfl (fun R hR => ?_)
  refine D.pure rfl rfl rfl rfl rfl rfl ?_
  refine D.done [(0, [], _)] ⟨rfl, trivial⟩ (hR _ _ _ rfl ?_); clear hR R
  refine G.region rfl (fun R hR => ?_)
  refine D.pure rfl rfl rfl rfl rfl rfl ?_
  refine D.done [(0, [], _), (3, [], _)] ⟨rfl, rfl, trivial⟩ (hR _ _ _ rfl ?_); clear hR R
  refine G.region rfl (fun R hR => ?_)
  iterate 3 refine D.pure rfl rfl rfl rfl rfl rfl ?_
  refine D.done [(0, [], _), (3, [], _), (4, [], _)] ⟨rfl, rfl, rfl, trivial⟩ (hR _ _ _ rfl ?_); clear hR R
  refine G.nilArr 3 1 ?_
  refine G.loop (fun fr C' L' μ => ∃ (e j : Nat) (ei : Int) (out : List Nat) (w : Value), ((ei = e ∧ e + 4 * j = s.length ∨ ei ≤ 0 ∧ e = 0) ∧ -4 ≤ ei ∧ ei ≤ 100000 ∧ e ≤ s.length ∧ out.length = j ∧ j ≤ 100000 ∧ DigP out ∧ valP out = decV (s.drop e)) ∧ fr = [(0, [], strV s), (3, [], w), (4, [], .int .i64 ei)] ∧ L' = [.arr w 3 1 j (out.map encN).flatten] ∧ μ = e + 1) (fr' := [(0, [], _), (3, [], _), (4, [], _)]) ⟨rfl, rfl, rfl, trivial⟩ ⟨s.length, 0, (s.length : Int), [], _, ⟨.inl ⟨rfl, rfl⟩, by omega, by omega, Nat.le_refl _, rfl, by omega, (fun x hx => (by cases hx)), by rw [List.drop_length]; rfl⟩, rfl, rfl, rfl⟩ (fun fr C0' L0' m hle0 hI => ?_)
  obtain ⟨e, j, ei, out, w, ⟨hei, hem, heM, hes, hol, hjM, hod, hov⟩, rfl, rfl, rfl⟩ := hI
  refine G.region rfl (fun R hR => ?_)
  iterate 2 refine D.pure rfl rfl rfl rfl rfl rfl ?_
  refine D.done [(0, [], _), (3, [], _), (4, [], _), (10, [], _)] ⟨rfl, rfl, rfl, rfl, trivial⟩ (hR _ _ _ rfl ?_); clear hR R
  refine G.cond rfl (fun h10 => ?_) (fun h10 => ?_)
  · skip
    obtain ⟨rfl, hej⟩ : ei = e ∧ e + 4 * j = s.length := by
      have h0 : 0 < ei := by simpa using h10
      rcases hei with h | h
      · exact h
      · omega
    have he0 : 0 < e := by
      have h0 : (0 : Int) < (e : Int) := by simpa using h10
      omega
    refine G.region rfl (fun R hR => ?_)
    refine D.pure rfl rfl rfl rfl rfl rfl ?_
    refine D.done [(0, [], _), (3, [], _), (4, [], _), (5, [], _)] ⟨rfl, rfl, rfl, rfl, trivial⟩ (hR _ _ _ rfl ?_); clear hR R
    refine G.region rfl (fun R hR => ?_)
    refine D.pure rfl rfl rfl rfl rfl rfl ?_
    refine D.i64 _ rfl rfl rfl rfl rfl (by omega) (by omega) rfl rfl ?_
    refine D.max (((e - 4 : Nat) : Int)) rfl rfl rfl rfl rfl rfl (by omega) rfl rfl ?_
    refine D.pure rfl rfl rfl rfl rfl rfl ?_
    refine D.done [(0, [], _), (3, [], _), (4, [], _), (5, [], _), (6, [], _)] ⟨rfl, rfl, rfl, rfl, rfl, trivial⟩ (hR _ _ _ rfl ?_); clear hR R
    rw [show (Value.int .i64 0) = .int .i64 ((decV (cutS s (e - 4) (e - 4)) : Nat) : Int) by rw [cutS_nil]; rfl]
    refine G.loop (fun fr C' L' μ => ∃ (i : Nat), (e - 4 ≤ i ∧ i ≤ e) ∧ fr = [(0, [], strV s), (3, [], w), (4, [], .int .i64 (e : Int)), (5, [], .int .i64 (decV (cutS s (e - 4) i) : Nat)), (6, [], .int .i64 i)] ∧ L' = [.arr w 3 1 j (out.map encN).flatten] ∧ μ = e - i) (fr' := [(0, [], _), (3, [], _), (4, [], _), (5, [], _), (6, [], _)]) ⟨rfl, rfl, rfl, rfl, rfl, trivial⟩ ⟨e - 4, ⟨Nat.le_refl _, by omega⟩, rfl, rfl, rfl⟩ (fun fr C1' L1' m hle1 hI => ?_)
    obtain ⟨i, ⟨hi1, hi2⟩, rfl, rfl, rfl⟩ := hI
    refine G.region rfl (fun R hR => ?_)
    iterate 3 refine D.pure rfl rfl rfl rfl rfl rfl ?_
    refine D.done [(0, [], _), (3, [], _), (4, [], _), (5, [], _), (6, [], _), (18, [], _)] ⟨rfl, rfl, rfl, rfl, rfl, rfl, trivial⟩ (hR _ _ _ rfl ?_); clear hR R
    refine G.cond rfl (fun h18 => ?_) (fun h18 => ?_)
    · skip
      have hie : i < e := by simpa using h18
      obtain ⟨c, hc⟩ : ∃ c, s[i]? = some c := ⟨s[i]'(by omega), List.getElem?_eq_getElem _⟩
      have hcd := hs c (List.mem_of_getElem? hc)
      have hcd2 : 48 ≤ c.toNat ∧ c.toNat ≤ 57 := by unfold digB at hcd; simpa using hcd
      have hlt : decV (cutS s (e - 4) i) < 10000 := cutS_lt hs (by omega)
      refine G.region rfl (fun R hR => ?_)
      refine D.pure rfl rfl rfl rfl rfl rfl ?_
      refine D.i64 (((10 * decV (cutS s (e - 4) i) : Nat) : Int)) rfl rfl rfl rfl (by omega) (by omega) (by omega) rfl rfl ?_
      iterate 2 refine D.pure rfl rfl rfl rfl rfl rfl ?_
      refine D.indexStr rfl rfl rfl rfl rfl rfl rfl rfl (fun _ => ⟨by omega, hc⟩) rfl rfl ?_
      refine D.conv (c := ((c.toNat : Nat) : Int)) rfl rfl rfl rfl rfl rfl rfl rfl (by rw [IntKind.wrap_i64]; omega) (fun _ => rfl) ?_
      refine D.i64 (((10 * decV (cutS s (e - 4) i) + c.toNat : Nat) : Int)) rfl rfl rfl rfl (by omega) (by omega) (by omega) rfl rfl ?_
      refine D.i64 (((10 * decV (cutS s (e - 4) i) + (c.toNat - 48) : Nat) : Int)) rfl rfl rfl rfl (by omega) (by omega) (by omega) rfl rfl ?_
      refine D.pure rfl rfl rfl rfl rfl rfl ?_
      refine D.done [(0, [], _), (3, [], _), (4, [], _), (5, [], _), (6, [], _)] ⟨rfl, rfl, rfl, rfl, rfl, trivial⟩ (hR _ _ _ rfl ?_); clear hR R
      refine G.region rfl (fun R hR => ?_)
      refine D.pure rfl rfl rfl rfl rfl rfl ?_
      refine D.i64 _ rfl rfl rfl rfl rfl (by omega) (by omega) rfl rfl ?_
      refine D.pure rfl rfl rfl rfl rfl rfl ?_
      refine D.done [(0, [], _), (3, [], _), (4, [], _), (5, [], _), (6, [], _)] ⟨rfl, rfl, rfl, rfl, rfl, trivial⟩ (hR _ _ _ rfl ?_); clear hR R
      rw [← cutS_step hi1 hc]
      refine G.again (m' := e - (i + 1)) (by omega) (by (repeat (first | exact Mem.le.refl _ | assumption | (apply Mem.le.trans; rotate_left; assumption)))) (fr' := [(0, [], _), (3, [], _), (4, [], _), (5, [], _), (6, [], _)]) ⟨rfl, rfl, rfl, rfl, rfl, trivial⟩ ⟨i + 1, ⟨by omega, by omega⟩, rfl, rfl, rfl⟩
    · skip
      have hie : i = e := by
        have : ¬ i < e := by simpa using h18
        omega
      subst hie
      refine G.region rfl (fun R hR => ?_)
      iterate 2 refine D.pure rfl rfl rfl rfl rfl rfl ?_
      refine D.buildSlice [encN (decV (cutS s (i - 4) i))] rfl rfl rfl rfl rfl rfl rfl rfl rfl rfl rfl rfl (fun _ => rfl) (fun p31 C31 hle31 hs31 => ?_)
      refine D.append (j := 0) rfl rfl rfl rfl rfl rfl rfl rfl rfl rfl rfl hs31 rfl (by simp only [List.length_singleton, maxLen]; omega) (by show (j + 1) * 8 ≤ _; omega) (fun _ => rfl) (fun v32 => ?_)
      refine D.pure rfl rfl rfl rfl rfl rfl ?_
      refine D.done [(0, [], _), (3, [], _), (4, [], _)] ⟨rfl, rfl, rfl, trivial⟩ (hR _ _ _ rfl ?_); clear hR R
      refine G.region rfl (fun R hR => ?_)
      refine D.pure rfl rfl rfl rfl rfl rfl ?_
      refine D.i64 _ rfl rfl rfl rfl rfl (by omega) (by omega) rfl rfl ?_
      refine D.pure rfl rfl rfl rfl rfl rfl ?_
      refine D.done [(0, [], _), (3, [], _), (4, [], _)] ⟨rfl, rfl, rfl, trivial⟩ (hR _ _ _ rfl ?_); clear hR R
      refine G.eqL (L' := [.arr v32 3 1 (j + 1) ((out ++ [decV (cutS s (i - 4) i)]).map encN).flatten]) (by simp [encN]) ?_
      refine G.again (m' := i - 4 + 1) (by omega) (by (repeat (first | exact Mem.le.refl _ | assumption | (apply Mem.le.trans; rotate_left; assumption)))) (fr' := [(0, [], _), (3, [], _), (4, [], _)]) ⟨rfl, rfl, rfl, trivial⟩ ⟨i - 4, j + 1, (i : Int) - 4, out ++ [decV (cutS s (i - 4) i)], v32, ⟨by
        rcases Nat.lt_or_ge i 4 with h | h
        · exact .inr ⟨by omega, by omega⟩
        · exact .inl ⟨by omega, by omega⟩, by omega, by omega, by omega, by simp [hol], by omega, hod.snoc (cutS_lt hs (by omega)), take_step hej hol (by omega) hov⟩, rfl, rfl, rfl⟩
  · skip
    have he0 : e = 0 := by
      have h0 : ¬ 0 < ei := by simpa using h10
      rcases hei with h | h
      · omega
      · exact h.2
    refine G.regionO [(1, 3)] rfl (fun R hR => ?_)
    refine D.pure rfl rfl rfl rfl rfl rfl ?_
    refine D.call (cutO_fn _ _ out hol) rfl (.inr (by decide)) rfl rfl rfl rfl rfl rfl (List.Perm.refl _) (fun _ => rfl) (fun v34 C34 L34 hle34 hq34 => ?_)
    obtain ⟨rfl, hu⟩ := hq34
    refine D.pure rfl rfl rfl rfl rfl rfl ?_
    refine D.done [(2, [], _)] ⟨rfl, trivial⟩ (hR _ _ _ rfl ?_); clear hR R
    refine G.retN (G.dropAll (G.fin1 rfl rfl ?_))
    refine ⟨rfl, cutP out, cutP_can hod, ?_, hu⟩
    rw [cutP_val, hov, he0, List.drop_zero]
end Go.Proofs.YtfelabnohopfdaaGreatDoor
namespace Go.Jog
open Go
section
variable {cx : Cx} {n : Nat} {ds : List (Option Nat)} {R : Rg n ds} {its : List It} {fr : Fr} {C : Mem} {L : List Ent} {i k d : Nat} {o : Oper} {g : GL}
theorem D.remT {t ty : Nat} {x y : Operand} {ki : IntKind} {p q : Int} (c : Int) (hk : Nat.ble k 1 = true) (hd : o.dst = some d) (hop : o.op = .binOp .rem t x y ty) (hg : gOf ds fr o.guard = some g) (hx : ev fr g x = some (.int ki p)) (hy : ev fr g y = some (.int ki q))
    (hq : 0 < q) (hc : p.tmod q = c) (hp : okPut n ds ((d, g, .int ki c) :: fr) d = true) (hwf : wfG ds fr g = true)
    (h : D cx R its ((d, g, .int ki c) :: fr) C L) : D cx R ((i, k, o) :: its) fr C L :=
  D.run _ hk hd hg (fun _ a hs w => by
    rw [exec_binOp hop (hs _ _ hx) (hs _ _ hy) (fun _ _ => .inl (by simp)) (.inl (by simp)) w]
    have hq0 : q ≠ 0 := by omega
    simp [binOp, Op.intDiv, hq0, hc]) hp hwf h
end
theorem decDigits_dec (n : Nat) : Lib.decDigits n = decS n := by
  induction n using Nat.strongRecOn with
  | ind n ih =>
    rw [Lib.decDigits, decS]
    split
    · rfl
    · rw [ih (n / 10) (by omega)]
/-- The text of an integer. -/
def txt (z : Int) : List UInt8 := if z < 0 then 45 :: decS z.natAbs else decS z.natAbs
theorem itoa_txt (z : Int) : Lib.itoa z = txt z := by
  unfold Lib.itoa txt
  split
  · rw [decDigits_dec]
  · rename_i h
    rw [decDigits_dec]
    congr 1
    omega
theorem itoa_nat (n : Nat) : Lib.itoa (n : Int) = decS n := by rw [Lib.itoa_nonneg, decDigits_dec]
/-- The numeral of ten thousand and a piece. -/
theorem tenK {x : Nat} (h : x < 10000) : decS (10000 + x) = 49 :: padS 4 x := by
  obtain ⟨h1, h2, h3⟩ := padS_ok 4 x h
  have hc : CanS (49 :: padS 4 x) := ⟨fun c hc => by
    rcases List.mem_cons.1 hc with rfl | hc
    · decide
    · exact h2 c hc, by simp, fun he => by simp at he⟩
  have hv : decV (49 :: padS 4 x) = 10000 + x := by
    rw [decV_cons, h1, h3]; rfl
  rw [canS_dec hc, hv]
theorem carry_one {V : Int} {out : List Nat} {i : Nat} {o : Int} (hl : out.length = i) (h : V = (valP out : Nat) + (10000 : Int) ^ i * o) :
    V = (valP (out ++ [(o % 10000).toNat]) : Nat) + (10000 : Int) ^ (i + 1) * ((o - o % 10000) / 10000) := by
  obtain ⟨h1, h2, h3⟩ := carry_piece o
  rw [valP_snoc, hl, h]
  have e : ((o % 10000).toNat : Int) = o % 10000 := Int.toNat_of_nonneg h1
  rw [Int.natCast_add, Int.natCast_mul, e, Int.natCast_pow, Int.pow_succ]
  have e2 : ((BP : Nat) : Int) = 10000 := rfl
  rw [e2]
  conv => lhs; rw [h3]
  rw [Int.mul_add, Int.mul_assoc]
  omega
theorem over_pos {V : Int} {out : List Nat} {i : Nat} {o : Int} (hl : out.length = i) (hd : DigP out) (hV : 0 ≤ V) (h : V = (valP out : Nat) + (10000 : Int) ^ i * o) : 0 ≤ o := by
  have h1 := valP_lt hd
  rw [hl] at h1
  have h2 : ((valP out : Nat) : Int) < (10000 : Int) ^ i := by
    have : ((valP out : Nat) : Int) < ((BP ^ i : Nat) : Int) := by omega
    rwa [Int.natCast_pow] at this
  apply Classical.byContradiction
  intro hn
  have h3 : o ≤ -1 := by omega
  have h4 : (10000 : Int) ^ i * o ≤ (10000 : Int) ^ i * (-1) := Int.mul_le_mul_of_nonneg_left h3 (Int.pow_nonneg (by decide))
  omega
end Go.Jog
namespace Go.Proofs.YtfelabnohopfdaaGreatDoor
open Go Go.Jog
set_option maxRecDepth 100000

theorem itoaN_g (C : Mem) (hT : Tabs C) (n : Nat) (h : n ≤ 1000000000000000000) : Gives cx.P 99 [.int .i64 n] C (strV (decS n)) := by
  have h1 := itoa_g C hT (n : Int) (by omega) (by omega)
  rwa [itoa_nat] at h1
theorem itoaZ_g (C : Mem) (hT : Tabs C) (z : Int) (h0 : -9223372036854775808 ≤ z) (h1 : z ≤ 9223372036854775807) : Gives cx.P 99 [.int .i64 z] C (strV (txt z)) := by
  have h := itoa_g C hT z h0 h1
  rwa [itoa_txt] at h
theorem itoaK_g (C : Mem) (hT : Tabs C) (x : Nat) (hx : x < 10000) : Gives cx.P 99 [.int .i64 (10000 + x : Nat)] C (strV (49 :: padS 4 x)) := by
  have h := itoaN_g C hT (10000 + x) (by omega)
  rwa [tenK hx] at h
theorem decS_len {n k : Nat} (h : n < 10 ^ k) (hk : 0 < k) : (decS n).length ≤ k := by
  apply Classical.byContradiction
  intro hn
  have h1 := canS_low (decS_ok n).1 (by omega)
  rw [(decS_ok n).2] at h1
  have h2 : 10 ^ k ≤ 10 ^ ((decS n).length - 1) := Nat.pow_le_pow_right (by decide) (by omega)
  omega
theorem decS_valP_len {l : List Nat} (h : DigP l) : (decS (valP l)).length ≤ 4 * l.length + 1 := by
  refine decS_len ?_ (by omega)
  have h1 := valP_lt h
  rw [← pow_BP] at h1
  have h2 : 10 ^ (4 * l.length) ≤ 10 ^ (4 * l.length + 1) := Nat.pow_le_pow_right (by decide) (by omega)
  omega
theorem gP_row {l : List Nat} {k : Nat} (h : k < l.length) : (l.map encN)[k]? = some (encN (gP l k)) ∧ l[k]? = some (gP l k) := by
  have e : l[k]? = some (gP l k) := by
    unfold gP; rw [List.getD_eq_getElem?_getD, List.getElem?_eq_getElem h]; rfl
  exact ⟨by rw [List.getElem?_map, e]; rfl, e⟩
set_option maxHeartbeats 1000000 in
theorem give_fn (C : Mem) (hT : Tabs C) (v : Value) (l : List Nat) (hv : Sl C 1 v (l.map encN)) (hc : CanP l) (hl : l.length ≤ 100000) : Gives cx.P 142 [v] C (strV (decS (valP l))) := by
  obtain ⟨A0, c0, rfl, _⟩ := id hv
  simp only [List.length_map] at hv ⊢
  have hd := hc.1
  refine Fn.intro (by kernel_rfl) Tryz.func142 rfl 34 rfl rfl (fun w0 => ?_)
  refine G.region rfl (fun R hR => ?_)
  refine D.pure rfl rfl rfl rfl rfl rfl ?_
  refine D.done [(0, [], _)] ⟨rfl, trivial⟩ (hR _ _ _ rfl ?_); clear hR R
  refine G.region rfl (fun R hR => ?_)
  iterate 3 refine D.pure rfl rfl rfl rfl rfl rfl ?_
  refine D.done [(0, [], _), (8, [], _)] ⟨rfl, rfl, trivial⟩ (hR _ _ _ rfl ?_); clear hR R
  refine G.cond rfl (fun h8 => ?_) (fun h8 => ?_)
  · skip
    have h0 : l = [] := by
      have : (l.length : Int) = 0 := by simpa using h8
      exact List.eq_nil_of_length_eq_zero (by omega)
    refine G.region rfl (fun R hR => ?_)
    refine D.pure rfl rfl rfl rfl rfl rfl ?_
    refine D.done [(2, [], _)] ⟨rfl, trivial⟩ (hR _ _ _ rfl ?_); clear hR R
    refine G.retN (G.dropAll (G.fin1 rfl rfl ?_))
    refine ⟨?_, rfl⟩
    rw [h0, show decS (valP []) = [48] by rw [decS]; rfl]; rfl
  · skip
    have h0 : 0 < l.length := by
      have : ¬ (l.length : Int) = 0 := by simpa using h8
      omega
    have hrl : (l.map encN)[((l.length : Int) - 1).toNat]? = some (encN (gP l (l.length - 1))) := by rw [show ((l.length : Int) - 1).toNat = l.length - 1 by omega]; exact (gP_row (by omega)).1
    have hgl : gP l (l.length - 1) < 10000 := gP_lt hd _
    have hdr : valP (l.drop (l.length - 1)) = gP l (l.length - 1) := by
      rw [List.drop_eq_getElem_cons (by omega), List.drop_of_length_le (by omega)]
      have h1 := (gP_row (l := l) (k := l.length - 1) (by omega)).2
      rw [(List.getElem?_eq_some_iff.1 h1).2]
      simp [valP]
    have hgp : 0 < gP l (l.length - 1) := by
      have h1 := (gP_row (l := l) (k := l.length - 1) (by omega)).2
      have h2 := hc.2
      rw [List.getLast?_eq_getElem?, h1] at h2
      rcases Nat.eq_zero_or_pos (gP l (l.length - 1)) with h | h
      · rw [h] at h2; exact absurd rfl h2
      · exact h
    refine G.region rfl (fun R hR => ?_)
    iterate 3 refine D.pure rfl rfl rfl rfl rfl rfl ?_
    refine D.i64 _ rfl rfl rfl rfl rfl (by omega) (by omega) rfl rfl ?_
    refine D.index0 (hv.mono (by (repeat (first | exact Mem.le.refl _ | assumption | (apply Mem.le.trans; rotate_left; assumption))))) rfl rfl rfl rfl rfl rfl rfl rfl rfl rfl (by omega) hrl (fun _ => rfl) (fun p13 hp13 => ?_)
    refine D.loadP0 hp13 rfl rfl rfl rfl rfl rfl rfl rfl ?_
    refine D.gives2 (itoaN_g _ (hT.mono (by (repeat (first | exact Mem.le.refl _ | assumption | (apply Mem.le.trans; rotate_left; assumption))))) (gP l (l.length - 1)) (by omega)) rfl rfl rfl rfl rfl rfl rfl (fun _ => rfl) ?_
    refine D.pure rfl rfl rfl rfl rfl rfl ?_
    refine D.done [(0, [], _), (3, [], _)] ⟨rfl, rfl, trivial⟩ (hR _ _ _ rfl ?_); clear hR R
    refine G.region rfl (fun R hR => ?_)
    iterate 2 refine D.pure rfl rfl rfl rfl rfl rfl ?_
    refine D.i64 _ rfl rfl rfl rfl rfl (by omega) (by omega) rfl rfl ?_
    refine D.pure rfl rfl rfl rfl rfl rfl ?_
    refine D.done [(0, [], _), (3, [], _), (4, [], _)] ⟨rfl, rfl, rfl, trivial⟩ (hR _ _ _ rfl ?_); clear hR R
    rw [show (l.length : Int) - 2 = ((l.length - 1 : Nat) : Int) - 1 by omega]
    refine G.loop (fun fr C' L' μ => ∃ (k : Nat) (o : Str), (k < l.length ∧ CanS o ∧ decV o = valP (l.drop k) ∧ 0 < decV o ∧ o.length ≤ 25 + 4 * (l.length - k)) ∧ fr = [(0, [], .slice A0 l.length c0), (3, [], strV o), (4, [], .int .i64 ((k : Int) - 1))] ∧ L' = [] ∧ μ = k + 1) (fr' := [(0, [], _), (3, [], _), (4, [], _)]) ⟨rfl, rfl, rfl, trivial⟩ ⟨l.length - 1, decS (gP l (l.length - 1)), ⟨by omega, (decS_ok _).1, by rw [(decS_ok _).2, hdr], by rw [(decS_ok _).2]; exact hgp, by
      have h2 := decS_len (k := 4) (n := gP l (l.length - 1)) hgl (by omega)
      omega⟩, rfl, rfl, rfl⟩ (fun fr C0' L0' m hle0 hI => ?_)
    obtain ⟨k, o, ⟨hk, hoc, hov, ho0, hol⟩, rfl, rfl, rfl⟩ := hI
    refine G.region rfl (fun R hR => ?_)
    iterate 2 refine D.pure rfl rfl rfl rfl rfl rfl ?_
    refine D.done [(0, [], _), (3, [], _), (4, [], _), (20, [], _)] ⟨rfl, rfl, rfl, rfl, trivial⟩ (hR _ _ _ rfl ?_); clear hR R
    refine G.cond rfl (fun h20 => ?_) (fun h20 => ?_)
    · skip
      have hk0 : 0 < k := by
        have : (0 : Int) ≤ (k : Int) - 1 := by simpa using h20
        omega
      obtain ⟨j, rfl⟩ : ∃ j, k = j + 1 := ⟨k - 1, by omega⟩
      rw [show ((j + 1 : Nat) : Int) - 1 = (j : Int) by omega]
      obtain ⟨hrj, hgj⟩ := gP_row (l := l) (k := j) (by omega)
      have hx := gP_lt hd j
      have hx2 : gP l j < 10000 := hx
      have hpl := (padS_ok 4 (gP l j) hx).1
      refine G.region rfl (fun R hR => ?_)
      iterate 2 refine D.pure rfl rfl rfl rfl rfl rfl ?_
      refine D.index0 (hv.mono (by (repeat (first | exact Mem.le.refl _ | assumption | (apply Mem.le.trans; rotate_left; assumption))))) rfl rfl rfl rfl rfl rfl rfl rfl rfl rfl (by omega) hrj (fun _ => rfl) (fun p25 hp25 => ?_)
      refine D.loadP0 hp25 rfl rfl rfl rfl rfl rfl rfl rfl ?_
      refine D.i64 (((10000 + gP l j : Nat) : Int)) rfl rfl rfl rfl (by omega) (by omega) (by omega) rfl rfl ?_
      refine D.gives2 (itoaK_g _ (hT.mono (by (repeat (first | exact Mem.le.refl _ | assumption | (apply Mem.le.trans; rotate_left; assumption))))) _ hx2) rfl rfl rfl rfl rfl rfl rfl (fun _ => rfl) ?_
      refine D.pure rfl rfl rfl rfl rfl rfl ?_
      refine D.done [(0, [], _), (3, [], _), (4, [], _), (5, [], _)] ⟨rfl, rfl, rfl, rfl, trivial⟩ (hR _ _ _ rfl ?_); clear hR R
      refine G.region rfl (fun R hR => ?_)
      iterate 2 refine D.pure rfl rfl rfl rfl rfl rfl ?_
      refine D.sliceStr 1 (49 :: padS 4 (gP l j)).length rfl rfl rfl rfl rfl rfl rfl rfl rfl (fun _ => ⟨.inr ⟨_, rfl⟩, .inl ⟨rfl, rfl⟩, .inl ⟨rfl, rfl⟩, by simp, Nat.le_refl _, Nat.le_refl _⟩) rfl rfl ?_
      refine D.concat rfl rfl rfl rfl rfl rfl (fun _ => (by simp only [List.length_append, List.length_drop, List.length_take, List.length_cons]; omega)) rfl rfl ?_
      refine D.pure rfl rfl rfl rfl rfl rfl ?_
      refine D.done [(0, [], _), (3, [], _), (4, [], _)] ⟨rfl, rfl, rfl, trivial⟩ (hR _ _ _ rfl ?_); clear hR R
      refine G.region rfl (fun R hR => ?_)
      refine D.pure rfl rfl rfl rfl rfl rfl ?_
      refine D.i64 _ rfl rfl rfl rfl rfl (by omega) (by omega) rfl rfl ?_
      refine D.pure rfl rfl rfl rfl rfl rfl ?_
      refine D.done [(0, [], _), (3, [], _), (4, [], _)] ⟨rfl, rfl, rfl, trivial⟩ (hR _ _ _ rfl ?_); clear hR R
      rw [List.take_length, List.drop_one, List.tail_cons]
      obtain ⟨g1, g2, g3⟩ := give_step hd hgj hoc hov ho0
      refine G.again (m' := j + 1) (by omega) (by (repeat (first | exact Mem.le.refl _ | assumption | (apply Mem.le.trans; rotate_left; assumption)))) (fr' := [(0, [], _), (3, [], _), (4, [], _)]) ⟨rfl, rfl, rfl, trivial⟩ ⟨j, o ++ padS 4 (gP l j), ⟨by omega, g1, g2, g3, by rw [List.length_append, hpl]; omega⟩, rfl, rfl, rfl⟩
    · skip
      have hk0 : k = 0 := by
        have : ¬ (0 : Int) ≤ (k : Int) - 1 := by simpa using h20
        omega
      subst hk0
      refine G.region rfl (fun R hR => ?_)
      iterate 2 refine D.pure rfl rfl rfl rfl rfl rfl ?_
      refine D.done [(2, [], _)] ⟨rfl, trivial⟩ (hR _ _ _ rfl ?_); clear hR R
      refine G.retN (G.dropAll (G.fin1 rfl rfl ?_))
      refine ⟨?_, rfl⟩
      rw [canS_dec hoc, hov, List.drop_zero]
/-- An integer of a sign and a magnitude. -/
def sgZ (m : Bool) (n : Nat) : Int := if m then -(n : Int) else n
theorem txt_sg (m : Bool) (n : Nat) (h : m = true → 0 < n) : txt (sgZ m n) = if m then 45 :: decS n else decS n := by
  unfold txt sgZ
  cases m with
  | false => simp
  | true => have := h rfl; simp; omega
theorem made_fn (C : Mem) (hT : Tabs C) (m : Bool) (v : Value) (l : List Nat) (hv : Sl C 1 v (l.map encN)) (hd : DigP l) (hl : l.length ≤ 100000) : Gives cx.P 120 [.bool m, v] C (strV (txt (sgZ m (valP l)))) := by
  have hcc := cutP_can hd
  have hcl : (cutP l).length ≤ 100000 := by unfold cutP; rw [List.length_take]; omega
  have hnil : (cutP l).length = 0 ↔ valP l = 0 := by rw [← cutP_val, canP_nil hcc, List.length_eq_zero_iff]
  refine Fn.intro (by kernel_rfl) Tryz.func120 rfl 18 rfl rfl (fun w0 => ?_)
  refine G.region rfl (fun R hR => ?_)
  refine D.pure rfl rfl rfl rfl rfl rfl ?_
  refine D.done [(0, [], _), (1, [], _)] ⟨rfl, rfl, trivial⟩ (hR _ _ _ rfl ?_); clear hR R
  refine G.region rfl (fun R hR => ?_)
  refine D.pure rfl rfl rfl rfl rfl rfl ?_
  refine D.callP (cut_p_fn _ _ l hv) rfl rfl rfl rfl rfl rfl rfl (fun _ => rfl) (fun v6 C6 hle6 hq6 => ?_)
  obtain ⟨A1, c1, rfl, _⟩ := id hq6
  rw [List.length_map] at hq6
  rw [List.length_map]
  refine D.pure rfl rfl rfl rfl rfl rfl ?_
  refine D.done [(0, [], _), (1, [], _)] ⟨rfl, rfl, trivial⟩ (hR _ _ _ rfl ?_); clear hR R
  refine G.region rfl (fun R hR => ?_)
  iterate 5 refine D.pure rfl rfl rfl rfl rfl rfl ?_
  refine D.pickAnd rfl rfl rfl rfl rfl rfl rfl rfl ?_
  refine D.done [(1, [], _), (12, [], _)] ⟨rfl, rfl, trivial⟩ (hR _ _ _ rfl ?_); clear hR R
  refine G.cond rfl (fun h12 => ?_) (fun h12 => ?_)
  · skip
    have hm : m = true ∧ 0 < valP l := by
      simp at h12
      refine ⟨h12.1, ?_⟩
      have h2 := h12.2
      rcases Nat.eq_zero_or_pos (valP l) with h | h
      · have := hnil.2 h; omega
      · exact h
    refine G.region rfl (fun R hR => ?_)
    refine D.pure rfl rfl rfl rfl rfl rfl ?_
    refine D.gives2 (give_fn _ (hT.mono (by (repeat (first | exact Mem.le.refl _ | assumption | (apply Mem.le.trans; rotate_left; assumption))))) _ (cutP l) (hq6.mono (by (repeat (first | exact Mem.le.refl _ | assumption | (apply Mem.le.trans; rotate_left; assumption))))) hcc hcl) rfl rfl rfl rfl rfl rfl rfl (fun _ => rfl) ?_
    refine D.concat rfl rfl rfl rfl rfl rfl (fun _ => (by have := decS_valP_len hcc.1; simp only [List.length_append, List.length_cons, List.length_nil]; omega)) rfl rfl ?_
    refine D.pure rfl rfl rfl rfl rfl rfl ?_
    refine D.done [(4, [], _)] ⟨rfl, trivial⟩ (hR _ _ _ rfl ?_); clear hR R
    refine G.retN (G.dropAll (G.fin1 rfl rfl ?_))
    refine ⟨?_, rfl⟩
    rw [txt_sg m _ (fun _ => hm.2), if_pos hm.1, cutP_val]; rfl
  · skip
    have hm : m = true → valP l = 0 := fun h => by
      rcases Nat.eq_zero_or_pos (cutP l).length with h0 | h0
      · exact hnil.1 h0
      · exfalso
        have h1 : decide ((0 : Int) < ((cutP l).length : Nat)) = true := decide_eq_true (by omega)
        rw [h, h1] at h12
        cases h12
    refine G.region rfl (fun R hR => ?_)
    refine D.pure rfl rfl rfl rfl rfl rfl ?_
    refine D.gives2 (give_fn _ (hT.mono (by (repeat (first | exact Mem.le.refl _ | assumption | (apply Mem.le.trans; rotate_left; assumption))))) _ (cutP l) (hq6.mono (by (repeat (first | exact Mem.le.refl _ | assumption | (apply Mem.le.trans; rotate_left; assumption))))) hcc hcl) rfl rfl rfl rfl rfl rfl rfl (fun _ => rfl) ?_
    refine D.pure rfl rfl rfl rfl rfl rfl ?_
    refine D.done [(4, [], _)] ⟨rfl, trivial⟩ (hR _ _ _ rfl ?_); clear hR R
    refine G.retN (G.dropAll (G.fin1 rfl rfl ?_))
    refine ⟨?_, rfl⟩
    rw [cutP_val]
    congr 1
    cases m with
    | false => rw [txt_sg false _ (fun h => by cases h)]; rfl
    | true => rw [hm rfl]; rfl
end Go.Proofs.YtfelabnohopfdaaGreatDoor
namespace Go.Proofs.YtfelabnohopfdaaGreatDoor
open Go Go.Jog
set_option maxRecDepth 100000

def gI (p : List Int) (i : Nat) : Int := p.getD i 0
theorem gI_row {p : List Int} {k : Nat} (h : k < p.length) : (p.map encI)[k]? = some (encI (gI p k)) ∧ p[k]? = some (gI p k) := by
  have e : p[k]? = some (gI p k) := by
    unfold gI; rw [List.getD_eq_getElem?_getD, List.getElem?_eq_getElem h]; rfl
  exact ⟨by rw [List.getElem?_map, e]; rfl, e⟩
theorem gI_out {p : List Int} {k : Nat} (h : p.length ≤ k) : gI p k = 0 := by
  unfold gI; rw [List.getD_eq_getElem?_getD, List.getElem?_eq_none h]; rfl
theorem valI_tk (p : List Int) (k : Nat) : valI (p.take (k + 1)) = valI (p.take k) + (10000 : Int) ^ k * gI p k := by
  rcases Nat.lt_or_ge k p.length with h | h
  · exact valI_take (gI_row h).2
  · rw [gI_out h, List.take_of_length_le h, List.take_of_length_le (by omega)]; simp
theorem quo_exact (o : Int) : (o - o % 10000).tdiv 10000 = (o - o % 10000) / 10000 := Int.tdiv_eq_ediv_of_dvd (Int.dvd_of_emod_eq_zero (by omega))
set_option maxHeartbeats 2000000 in
theorem carry_fn (C : Mem) (v : Value) (p : List Int) (hv : Sl C 1 v (p.map encI)) (hpos : 0 ≤ valI p) (hb : ∀ x ∈ p, -1000000000000 ≤ x ∧ x ≤ 1000000000000) (hl : p.length ≤ 100000) : Pur cx.P 141 [v] C fun u D => PieC D u (valI p).toNat := by
  obtain ⟨A0, c0, rfl, _⟩ := id hv
  simp only [List.length_map] at hv ⊢
  refine Fn.intro (by kernel_rfl) Tryz.func141 rfl 43 rfl rfl (fun w0 => ?_)
  refine G.region rfl (fun R hR => ?_)
  refine D.pure rfl rfl rfl rfl rfl rfl ?_
  refine D.done [(0, [], _)] ⟨rfl, trivial⟩ (hR _ _ _ rfl ?_); clear hR R
  refine G.region rfl (fun R hR => ?_)
  refine D.pure rfl rfl rfl rfl rfl rfl ?_
  refine D.done [(0, [], _), (3, [], _)] ⟨rfl, rfl, trivial⟩ (hR _ _ _ rfl ?_); clear hR R
  refine G.region rfl (fun R hR => ?_)
  refine D.pure rfl rfl rfl rfl rfl rfl ?_
  refine D.done [(0, [], _), (3, [], _), (4, [], _)] ⟨rfl, rfl, rfl, trivial⟩ (hR _ _ _ rfl ?_); clear hR R
  refine G.region rfl (fun R hR => ?_)
  refine D.pure rfl rfl rfl rfl rfl rfl ?_
  refine D.done [(0, [], _), (3, [], _), (4, [], _), (5, [], _)] ⟨rfl, rfl, rfl, rfl, trivial⟩ (hR _ _ _ rfl ?_); clear hR R
  refine G.nilArr 3 1 ?_
  refine G.loop (fun fr C' L' μ => ∃ (i : Nat) (o : Int) (out : List Nat) (w : Value), (out.length = i ∧ DigP out ∧ -1000000000000 ≤ o ∧ o ≤ 1000000000000 ∧ valI (p.take i) = (valP out : Nat) + (10000 : Int) ^ i * o ∧ (p.length ≤ i → (i : Int) + o ≤ 1000000100000)) ∧ fr = [(0, [], .slice A0 p.length c0), (3, [], w), (4, [], .int .i64 o), (5, [], .int .i64 i)] ∧ L' = [.arr w 3 1 i (out.map encN).flatten] ∧ μ = (p.length - i) * 4611686018427387904 + o.natAbs) (fr' := [(0, [], _), (3, [], _), (4, [], _), (5, [], _)]) ⟨rfl, rfl, rfl, rfl, trivial⟩ ⟨0, 0, [], _, ⟨rfl, (fun x hx => (by cases hx)), by omega, by omega, by simp [valI, valP], fun h => by omega⟩, rfl, rfl, rfl⟩ (fun fr C0' L0' m hle0 hI => ?_)
  obtain ⟨i, o, out, w, ⟨hol, hod, ho1, ho2, hov, hi2⟩, rfl, rfl, rfl⟩ := hI
  have hopos : p.length ≤ i → 0 ≤ o := fun h => by
    refine over_pos hol hod (V := valI p) hpos ?_
    rw [← hov, List.take_of_length_le h]
  have hiM : (i : Int) ≤ 1000000100000 := by
    rcases Nat.lt_or_ge i p.length with h | h
    · omega
    · have := hopos h; have := hi2 h; omega
  refine G.region rfl (fun R hR => ?_)
  iterate 7 refine D.pure rfl rfl rfl rfl rfl rfl ?_
  refine D.pickOr rfl rfl rfl rfl rfl rfl rfl rfl ?_
  refine D.done [(0, [], _), (3, [], _), (4, [], _), (5, [], _), (14, [], _)] ⟨rfl, rfl, rfl, rfl, rfl, trivial⟩ (hR _ _ _ rfl ?_); clear hR R
  refine G.cond rfl (fun h14 => ?_) (fun h14 => ?_)
  · skip
    have hgo : i < p.length ∨ o ≠ 0 := by
      simp at h14
      omega
    have hgb : -1000000000000 ≤ gI p i ∧ gI p i ≤ 1000000000000 := by
      rcases Nat.lt_or_ge i p.length with h | h
      · exact hb _ (List.mem_of_getElem? (gI_row h).2)
      · rw [gI_out h]; omega
    refine G.region rfl (fun R hR => ?_)
    iterate 4 refine D.pure rfl rfl rfl rfl rfl rfl ?_
    refine D.done [(0, [], _), (3, [], _), (4, [], _), (5, [], _), (20, [], _)] ⟨rfl, rfl, rfl, rfl, rfl, trivial⟩ (hR _ _ _ rfl ?_); clear hR R
    refine G.cut (fun fr C' L' μ => (True) ∧ fr = [(0, [], .slice A0 p.length c0), (3, [], w), (4, [], .int .i64 (o + gI p i)), (5, [], .int .i64 i)] ∧ L' = [.arr w 3 1 i (out.map encN).flatten]) ?_ (fun fr C20 L20 μ hle20 hI => ?_)
    · skip
      refine G.cond rfl (fun h20 => ?_) (fun h20 => ?_)
      · skip
        have hil : i < p.length := by simpa using h20
        refine G.region rfl (fun R hR => ?_)
        iterate 3 refine D.pure rfl rfl rfl rfl rfl rfl ?_
        refine D.index0 (hv.mono (by (repeat (first | exact Mem.le.refl _ | assumption | (apply Mem.le.trans; rotate_left; assumption))))) rfl rfl rfl rfl rfl rfl rfl rfl rfl rfl (by omega) (gI_row hil).1 (fun _ => rfl) (fun p24 hp24 => ?_)
        refine D.loadP0 hp24 rfl rfl rfl rfl rfl rfl rfl rfl ?_
        refine D.i64 _ rfl rfl rfl rfl rfl (by omega) (by omega) rfl rfl ?_
        refine D.pure rfl rfl rfl rfl rfl rfl ?_
        refine D.done [(0, [], _), (3, [], _), (4, [], _), (5, [], _)] ⟨rfl, rfl, rfl, rfl, trivial⟩ (hR _ _ _ rfl ?_); clear hR R
        refine G.meet 0 (Mem.le.refl _) (fr' := [(0, [], _), (3, [], _), (4, [], _), (5, [], _)]) ⟨rfl, rfl, rfl, rfl, trivial⟩ ⟨trivial, rfl, rfl⟩
      · skip
        have hil : p.length ≤ i := by
          have : ¬ i < p.length := by simpa using h20
          omega
        rw [show o = o + gI p i by rw [gI_out hil, Int.add_zero]]
        refine G.meet 0 (Mem.le.refl _) (fr' := [(0, [], _), (3, [], _), (4, [], _), (5, [], _)]) ⟨rfl, rfl, rfl, rfl, trivial⟩ ⟨trivial, by rw [gI_out hil]; simp, rfl⟩
    · skip
      obtain ⟨_, rfl, rfl⟩ := hI
      refine G.region rfl (fun R hR => ?_)
      refine D.pure rfl rfl rfl rfl rfl rfl ?_
      refine D.remT (Int.tmod (o + gI p i) 10000) rfl rfl rfl rfl rfl rfl (by omega) rfl rfl rfl ?_
      refine D.pure rfl rfl rfl rfl rfl rfl ?_
      refine D.done [(0, [], _), (3, [], _), (4, [], _), (5, [], _), (6, [], _)] ⟨rfl, rfl, rfl, rfl, rfl, trivial⟩ (hR _ _ _ rfl ?_); clear hR R
      have hrp := rest_pos (o + gI p i)
      have htm : -10000 ≤ Int.tmod (o + gI p i) 10000 ∧ Int.tmod (o + gI p i) 10000 < 10000 := by
        have := Int.emod_nonneg (o + gI p i) (show (10000 : Int) ≠ 0 by decide)
        have := Int.emod_lt_of_pos (o + gI p i) (show (0 : Int) < 10000 by decide)
        split at hrp <;> omega
      refine G.region rfl (fun R hR => ?_)
      iterate 2 refine D.pure rfl rfl rfl rfl rfl rfl ?_
      refine D.done [(0, [], _), (3, [], _), (4, [], _), (5, [], _), (6, [], _), (30, [], _)] ⟨rfl, rfl, rfl, rfl, rfl, rfl, trivial⟩ (hR _ _ _ rfl ?_); clear hR R
      refine G.cut (fun fr C' L' μ => (True) ∧ fr = [(0, [], .slice A0 p.length c0), (3, [], w), (4, [], .int .i64 (o + gI p i)), (5, [], .int .i64 i), (6, [], .int .i64 (((o + gI p i) % 10000).toNat : Nat))] ∧ L' = [.arr w 3 1 i (out.map encN).flatten]) ?_ (fun fr C30 L30 μ hle30 hI => ?_)
      · skip
        refine G.cond rfl (fun h30 => ?_) (fun h30 => ?_)
        · skip
          have hneg : Int.tmod (o + gI p i) 10000 < 0 := by simpa using h30
          rw [if_pos hneg] at hrp
          refine G.region rfl (fun R hR => ?_)
          refine D.pure rfl rfl rfl rfl rfl rfl ?_
          refine D.i64 (((((o + gI p i) % 10000).toNat : Nat) : Int)) rfl rfl rfl rfl (by omega) (by omega) (by omega) rfl rfl ?_
          refine D.pure rfl rfl rfl rfl rfl rfl ?_
          refine D.done [(0, [], _), (3, [], _), (4, [], _), (5, [], _), (6, [], _)] ⟨rfl, rfl, rfl, rfl, rfl, trivial⟩ (hR _ _ _ rfl ?_); clear hR R
          refine G.meet 0 (Mem.le.refl _) (fr' := [(0, [], _), (3, [], _), (4, [], _), (5, [], _), (6, [], _)]) ⟨rfl, rfl, rfl, rfl, rfl, trivial⟩ ⟨trivial, rfl, rfl⟩
        · skip
          have hneg : ¬ Int.tmod (o + gI p i) 10000 < 0 := by simpa using h30
          rw [if_neg hneg] at hrp
          rw [show Int.tmod (o + gI p i) 10000 = ((((o + gI p i) % 10000).toNat : Nat) : Int) by omega]
          refine G.meet 0 (Mem.le.refl _) (fr' := [(0, [], _), (3, [], _), (4, [], _), (5, [], _), (6, [], _)]) ⟨rfl, rfl, rfl, rfl, rfl, trivial⟩ ⟨trivial, rfl, rfl⟩
      · skip
        obtain ⟨_, rfl, rfl⟩ := hI
        refine G.region rfl (fun R hR => ?_)
        iterate 2 refine D.pure rfl rfl rfl rfl rfl rfl ?_
        refine D.buildSlice [encN (((o + gI p i) % 10000).toNat)] rfl rfl rfl rfl rfl rfl rfl rfl rfl rfl rfl rfl (fun _ => rfl) (fun p35 C35 hle35 hs35 => ?_)
        refine D.append (j := 0) rfl rfl rfl rfl rfl rfl rfl rfl rfl rfl rfl hs35 rfl (by simp only [List.length_singleton, maxLen]; omega) (by show (i + 1) * 8 ≤ _; omega) (fun _ => rfl) (fun v36 => ?_)
        refine D.pure rfl rfl rfl rfl rfl rfl ?_
        refine D.done [(0, [], _), (3, [], _), (4, [], _), (5, [], _), (6, [], _)] ⟨rfl, rfl, rfl, rfl, rfl, trivial⟩ (hR _ _ _ rfl ?_); clear hR R
        refine G.region rfl (fun R hR => ?_)
        iterate 2 refine D.pure rfl rfl rfl rfl rfl rfl ?_
        refine D.i64 ((o + gI p i - (o + gI p i) % 10000)) rfl rfl rfl rfl (by omega) (by omega) (by omega) rfl rfl ?_
        refine D.quoT ((o + gI p i - (o + gI p i) % 10000) / 10000) rfl rfl rfl rfl rfl rfl (by omega) (quo_exact _) (by rw [IntKind.wrap_i64]; omega) rfl rfl ?_
        refine D.pure rfl rfl rfl rfl rfl rfl ?_
        refine D.done [(0, [], _), (3, [], _), (4, [], _), (5, [], _)] ⟨rfl, rfl, rfl, rfl, trivial⟩ (hR _ _ _ rfl ?_); clear hR R
        refine G.region rfl (fun R hR => ?_)
        refine D.pure rfl rfl rfl rfl rfl rfl ?_
        refine D.i64 _ rfl rfl rfl rfl rfl (by omega) (by omega) rfl rfl ?_
        refine D.pure rfl rfl rfl rfl rfl rfl ?_
        refine D.done [(0, [], _), (3, [], _), (4, [], _), (5, [], _)] ⟨rfl, rfl, rfl, rfl, trivial⟩ (hR _ _ _ rfl ?_); clear hR R
        have hm : (p.length - (i + 1)) * 4611686018427387904 + ((o + gI p i - (o + gI p i) % 10000) / 10000).natAbs < (p.length - i) * 4611686018427387904 + o.natAbs := by
          rcases Nat.lt_or_ge i p.length with h2 | h2
          · omega
          · have h3 := hopos h2
            rw [gI_out h2]
            omega
        refine G.eqL (L' := [.arr v36 3 1 (i + 1) ((out ++ [((o + gI p i) % 10000).toNat]).map encN).flatten]) (by simp [encN]) ?_
        refine G.again (m' := (p.length - (i + 1)) * 4611686018427387904 + ((o + gI p i - (o + gI p i) % 10000) / 10000).natAbs) (by omega) (by (repeat (first | exact Mem.le.refl _ | assumption | (apply Mem.le.trans; rotate_left; assumption)))) (fr' := [(0, [], _), (3, [], _), (4, [], _), (5, [], _)]) ⟨rfl, rfl, rfl, rfl, trivial⟩ ⟨i + 1, (o + gI p i - (o + gI p i) % 10000) / 10000, out ++ [((o + gI p i) % 10000).toNat], v36, ⟨by simp [hol], hod.snoc (by show ((o + gI p i) % 10000).toNat < 10000; omega), by omega, by omega, by
          refine carry_one hol ?_
          rw [valI_tk, hov, Int.mul_add]
          omega, fun h => by
          rcases Nat.lt_or_ge i p.length with h2 | h2
          · omega
          · have h3 := hopos h2
            have h4 := hi2 h2
            rw [gI_out h2] at *
            omega⟩, rfl, rfl, rfl⟩
  · skip
    have hgo : p.length ≤ i ∧ o = 0 := by
      simp at h14
      omega
    refine G.regionO [(1, 3)] rfl (fun R hR => ?_)
    refine D.pure rfl rfl rfl rfl rfl rfl ?_
    refine D.call (cutO_fn _ _ out hol) rfl (.inr (by decide)) rfl rfl rfl rfl rfl rfl (List.Perm.refl _) (fun _ => rfl) (fun v42 C42 L42 hle42 hq42 => ?_)
    obtain ⟨rfl, hu⟩ := hq42
    refine D.pure rfl rfl rfl rfl rfl rfl ?_
    refine D.done [(2, [], _)] ⟨rfl, trivial⟩ (hR _ _ _ rfl ?_); clear hR R
    refine G.retN (G.dropAll (G.fin1 rfl rfl ?_))
    refine ⟨rfl, cutP out, cutP_can hod, ?_, hu⟩
    rw [List.take_of_length_le hgo.1, hgo.2] at hov
    rw [cutP_val]
    omega
end Go.Proofs.YtfelabnohopfdaaGreatDoor
namespace Go.Proofs.YtfelabnohopfdaaGreatDoor
open Go Go.Jog
set_option maxRecDepth 100000

theorem valI_set : ∀ (l : List Int) (i : Nat) (x : Int), i < l.length → valI (l.set i x) = valI l + (10000 : Int) ^ i * (x - gI l i)
  | [], i, x, h => by simp at h
  | a :: l, 0, x, _ => by
    show x + 10000 * valI l = a + 10000 * valI l + 1 * (x - a)
    omega
  | a :: l, i + 1, x, h => by
    have ih := valI_set l i x (by simpa using h)
    show a + 10000 * valI (l.set i x) = a + 10000 * valI l + (10000 : Int) ^ (i + 1) * (x - gI l i)
    rw [ih, Int.mul_add, ← Int.mul_assoc, Int.pow_succ, Int.mul_comm ((10000 : Int) ^ i) 10000]
    omega
theorem valI_zero (l : List Int) : valI (l ++ [0]) = valI l := by rw [valI_snoc]; omega
/-- A sum of pieces and a multiple of others, as far as it is made. -/
structure Joins (p q : List Nat) (k : Int) (i : Nat) (o : List Int) : Prop where
  len : o.length = max p.length i
  val : valI o = (valP p : Nat) + k * (valP (q.take i) : Nat)
  rest : ∀ j, i ≤ j → gI o j = (gP p j : Nat)
  lim : ∀ x ∈ o, -100000000 ≤ x ∧ x ≤ 100000000
theorem gI_nat (p : List Nat) (j : Nat) : gI (p.map fun x : Nat => (x : Int)) j = (gP p j : Nat) := by
  unfold gI gP
  rw [List.getD_eq_getElem?_getD, List.getD_eq_getElem?_getD, List.getElem?_map]
  cases p[j]? <;> rfl
theorem joins_start (p q : List Nat) (k : Int) (hp : DigP p) : Joins p q k 0 (p.map fun x : Nat => (x : Int)) := by
  refine ⟨by simp, by rw [valI_nat]; simp [valP], fun j _ => gI_nat p j, fun x hx => ?_⟩
  obtain ⟨y, hy, rfl⟩ := List.mem_map.1 hx
  have : y < 10000 := hp y hy
  omega
theorem Joins.zero {p q : List Nat} {k : Int} {i : Nat} {o : List Int} (h : Joins p q k i o) (hl : o.length ≤ i) : valI (o ++ [0]) = (valP p : Nat) + k * (valP (q.take i) : Nat) ∧ (∀ j, i ≤ j → gI (o ++ [0]) j = (gP p j : Nat)) ∧ (∀ x ∈ o ++ [0], -100000000 ≤ x ∧ x ≤ 100000000) := by
  refine ⟨by rw [valI_zero, h.val], fun j hj => ?_, fun x hx => ?_⟩
  · have h1 := h.rest j hj
    have h2 : gI o j = 0 := by unfold gI; rw [List.getD_eq_getElem?_getD, List.getElem?_eq_none (by omega)]; rfl
    rw [← h1, h2]
    unfold gI
    rw [List.getD_eq_getElem?_getD, List.getElem?_append_right (by omega)]
    cases j - o.length <;> rfl
  · rcases List.mem_append.1 hx with h1 | h1
    · exact h.lim x h1
    · simp at h1; subst h1; omega
theorem gI_set_ne {o : List Int} {i j : Nat} {x : Int} (h : i ≠ j) : gI (o.set i x) j = gI o j := by
  unfold gI
  rw [List.getD_eq_getElem?_getD, List.getD_eq_getElem?_getD, List.getElem?_set_ne h]
theorem joins_step {p q : List Nat} {k : Int} {i y : Nat} {o : List Int} (hp : DigP p) (hq : DigP q) (hk : -9999 ≤ k ∧ k ≤ 9999) (hy : q[i]? = some y) (hlen : o.length = max p.length (i + 1))
    (hv : valI o = (valP p : Nat) + k * (valP (q.take i) : Nat)) (hr : ∀ j, i ≤ j → gI o j = (gP p j : Nat)) (hm : ∀ x ∈ o, -100000000 ≤ x ∧ x ≤ 100000000) :
    Joins p q k (i + 1) (o.set i (gI o i + k * (y : Nat))) := by
  have hy1 : y < 10000 := hq y (List.mem_of_getElem? hy)
  have hg : gP p i < 10000 := gP_lt hp i
  have hmul : -99980001 ≤ k * (y : Int) ∧ k * (y : Int) ≤ 99980001 := by
    have h0 : (0 : Int) ≤ y := by omega
    have h1 : k * (y : Int) ≤ 9999 * (y : Int) := Int.mul_le_mul_of_nonneg_right hk.2 h0
    have h2 : (-9999 : Int) * (y : Int) ≤ k * (y : Int) := Int.mul_le_mul_of_nonneg_right hk.1 h0
    omega
  refine ⟨by rw [List.length_set]; exact hlen, ?_, fun j hj => ?_, fun x hx => ?_⟩
  · rw [valI_set o i _ (by omega), hv, valP_take hy]
    have e : ((valP (q.take i) + BP ^ i * y : Nat) : Int) = (valP (q.take i) : Nat) + (10000 : Int) ^ i * (y : Int) := by
      rw [Int.natCast_add, Int.natCast_mul, Int.natCast_pow]; rfl
    rw [e, Int.mul_add, show gI o i + k * (y : Int) - gI o i = k * (y : Int) by omega, Int.mul_left_comm]
    omega
  · rw [gI_set_ne (by omega)]; exact hr j (by omega)
  · rcases List.mem_or_eq_of_mem_set hx with h1 | h1
    · exact hm x h1
    · subst h1
      rw [hr i (Nat.le_refl _)]
      omega
theorem gI_someI {p : List Int} {k : Nat} (h : k < p.length) : p[k]? = some (gI p k) := by
  unfold gI; rw [List.getD_eq_getElem?_getD, List.getElem?_eq_getElem h]; rfl
theorem canP_short {l : List Nat} (h : CanP l) {m : Nat} (hv : valP l < BP ^ m) : l.length ≤ m := by
  apply Classical.byContradiction
  intro hn
  have h1 := canP_low h (by omega)
  have h2 : BP ^ m ≤ BP ^ (l.length - 1) := Nat.pow_le_pow_right (by decide) (by omega)
  omega
theorem encI_len (x : Int) : (encI x).length = 1 := rfl
theorem encN_len (x : Nat) : (encN x).length = 1 := rfl
theorem carryO_fn (C : Mem) (v : Value) (p : List Int) {n : Nat} (hn : p.length = n) (hpos : 0 ≤ valI p) (hb : ∀ x ∈ p, -1000000000000 ≤ x ∧ x ≤ 1000000000000) (hl : p.length ≤ 100000) : Jog.Fn cx.P 141 [v] C [.arr v 3 1 n (p.map encI).flatten] fun u C' L' => L' = [] ∧ PieC C' u (valI p).toNat :=
  Jog.Fn.give (p.map encI) (by kernel_rfl) (by intro r hr; obtain ⟨y, _, rfl⟩ := List.mem_map.1 hr; rfl) (by rw [List.length_map, hn]) (fun C' _ hs => carry_fn C' v p hs hpos hb hl)
set_option maxHeartbeats 2000000 in
theorem joined_fn (C : Mem) (vp vq : Value) (p q : List Nat) (k : Int) (hp : Sl C 1 vp (p.map encN)) (hq : Sl C 1 vq (q.map encN)) (hdp : DigP p) (hdq : DigP q) (hk : -9999 ≤ k ∧ k ≤ 9999) (hpos : 0 ≤ (valP p : Int) + k * (valP q : Int)) (hlp : p.length ≤ 50000) (hlq : q.length ≤ 50000) :
    Pur cx.P 119 [vp, vq, .int .i64 k, .int .i64 0] C fun u D => PieC D u ((valP p : Int) + k * (valP q : Int)).toNat := by
  obtain ⟨A0, c0, rfl, _⟩ := id hq
  simp only [List.length_map] at hq ⊢
  refine Fn.intro (by kernel_rfl) Tryz.func119 rfl 45 rfl rfl (fun w0 => ?_)
  refine G.region rfl (fun R hR => ?_)
  refine D.pure rfl rfl rfl rfl rfl rfl ?_
  refine D.done [(0, [], _), (1, [], _), (2, [], _), (3, [], _)] ⟨rfl, rfl, rfl, rfl, trivial⟩ (hR _ _ _ rfl ?_); clear hR R
  refine G.region rfl (fun R hR => ?_)
  refine D.buildArr [] rfl rfl rfl rfl rfl rfl rfl rfl rfl rfl rfl rfl (fun _ => rfl) (fun b11 => ?_)
  refine D.pure rfl rfl rfl rfl rfl rfl ?_
  refine D.append (j := 0) rfl rfl rfl rfl rfl rfl rfl rfl rfl rfl rfl hp (by rw [List.all_eq_true]; intro r hr; obtain ⟨y, _, rfl⟩ := List.mem_map.1 hr; rfl) (by rw [List.length_map]; simp only [List.length_nil, maxLen]; omega) (by rw [List.length_map]; show (0 + p.length) * 8 ≤ _; omega) (fun _ => rfl) (fun v13 => ?_)
  refine D.pure rfl rfl rfl rfl rfl rfl ?_
  refine D.done [(1, [], _), (2, [], _), (3, [], _), (9, [], _)] ⟨rfl, rfl, rfl, rfl, trivial⟩ (hR _ _ _ rfl ?_); clear hR R
  refine G.region rfl (fun R hR => ?_)
  refine D.pure rfl rfl rfl rfl rfl rfl ?_
  refine D.done [(1, [], _), (2, [], _), (3, [], _), (9, [], _), (10, [], _)] ⟨rfl, rfl, rfl, rfl, rfl, trivial⟩ (hR _ _ _ rfl ?_); clear hR R
  refine G.eqL (L' := [.arr v13 3 1 (p.map fun x : Nat => (x : Int)).length (((p.map fun x : Nat => (x : Int)).map encI).flatten)]) (by rw [List.map_map]; simp; rfl) ?_
  refine G.loop (fun fr C' L' μ => ∃ (i : Nat) (o : List Int) (w : Value), (i ≤ q.length ∧ Joins p q k i o) ∧ fr = [(1, [], .slice A0 q.length c0), (2, [], .int .i64 k), (3, [], .int .i64 0), (9, [], w), (10, [], .int .i64 i)] ∧ L' = [.arr w 3 1 o.length (o.map encI).flatten] ∧ μ = q.length - i) (fr' := [(1, [], _), (2, [], _), (3, [], _), (9, [], _), (10, [], _)]) ⟨rfl, rfl, rfl, rfl, rfl, trivial⟩ ⟨0, _, _, ⟨Nat.zero_le _, joins_start p q k hdp⟩, rfl, rfl, rfl⟩ (fun fr C0' L0' m hle0 hI => ?_)
  obtain ⟨i, o, w, ⟨hi, hJ⟩, rfl, rfl, rfl⟩ := hI
  refine G.region rfl (fun R hR => ?_)
  iterate 4 refine D.pure rfl rfl rfl rfl rfl rfl ?_
  refine D.done [(1, [], _), (2, [], _), (3, [], _), (9, [], _), (10, [], _), (17, [], _)] ⟨rfl, rfl, rfl, rfl, rfl, rfl, trivial⟩ (hR _ _ _ rfl ?_); clear hR R
  refine G.cond rfl (fun h17 => ?_) (fun h17 => ?_)
  · skip
    have hil : i < q.length := by simpa using h17
    have hol := hJ.len
    refine G.loop (fun fr C' L' μ => ∃ (o2 : List Int) (w2 : Value), ((o2 = o ∨ (o2 = o ++ [0] ∧ o.length ≤ i))) ∧ fr = [(1, [], .slice A0 q.length c0), (2, [], .int .i64 k), (3, [], .int .i64 0), (9, [], w2), (10, [], .int .i64 i)] ∧ L' = [.arr w2 3 1 o2.length (o2.map encI).flatten] ∧ μ = i + 1 - o2.length) (fr' := [(1, [], _), (2, [], _), (3, [], _), (9, [], _), (10, [], _)]) ⟨rfl, rfl, rfl, rfl, rfl, trivial⟩ ⟨o, w, .inl rfl, rfl, rfl, rfl⟩ (fun fr C1' L1' m hle1 hI => ?_)
    obtain ⟨o2, w2, ho2, rfl, rfl, rfl⟩ := hI
    refine G.rowSlice 0 rfl (fun Aw cw he => ?_)
    subst he
    have ho2l : o2.length ≤ 50002 := by
      have h1 : o2.length ≤ o.length + 1 := by
        have h2 := ho2.imp (fun e => congrArg List.length e) (fun e => congrArg List.length e.1)
        rw [List.length_append, List.length_singleton] at h2
        omega
      omega
    refine G.region rfl (fun R hR => ?_)
    iterate 4 refine D.pure rfl rfl rfl rfl rfl rfl ?_
    refine D.i64 (((i : Nat) : Int)) rfl rfl rfl rfl (by omega) (by omega) (by omega) rfl rfl ?_
    refine D.pure rfl rfl rfl rfl rfl rfl ?_
    refine D.done [(1, [], _), (2, [], _), (3, [], _), (9, [], _), (10, [], _), (25, [], _)] ⟨rfl, rfl, rfl, rfl, rfl, rfl, trivial⟩ (hR _ _ _ rfl ?_); clear hR R
    refine G.cond rfl (fun h25 => ?_) (fun h25 => ?_)
    · skip
      have hle2 : o2.length ≤ i := by
        have : (o2.length : Int) ≤ i := by simpa using h25
        omega
      have ho3 : o2 = o := by
        refine ho2.elim id fun h => ?_
        have := h.1 ▸ hle2
        rw [List.length_append, List.length_singleton] at this
        omega
      subst ho3
      refine G.region rfl (fun R hR => ?_)
      refine D.pure rfl rfl rfl rfl rfl rfl ?_
      refine D.buildSlice [encI 0] rfl rfl rfl rfl rfl rfl rfl rfl rfl rfl rfl rfl (fun _ => rfl) (fun p27 C27 hle27 hs27 => ?_)
      refine D.append (j := 0) rfl rfl rfl rfl rfl rfl rfl rfl rfl rfl rfl hs27 rfl (by simp only [List.length_singleton, maxLen]; omega) (by show (o2.length + 1) * 8 ≤ _; omega) (fun _ => rfl) (fun v28 => ?_)
      refine D.pure rfl rfl rfl rfl rfl rfl ?_
      refine D.done [(1, [], _), (2, [], _), (3, [], _), (9, [], _), (10, [], _)] ⟨rfl, rfl, rfl, rfl, rfl, trivial⟩ (hR _ _ _ rfl ?_); clear hR R
      refine G.eqL (L' := [.arr v28 3 1 (o2 ++ [0]).length ((o2 ++ [0]).map encI).flatten]) (by simp [encI]) ?_
      have hm1 : i + 1 - (o2 ++ [0]).length < i + 1 - o2.length := by rw [List.length_append, List.length_singleton]; omega
      refine G.again (m' := i + 1 - (o2 ++ [0]).length) (by omega) (by (repeat (first | exact Mem.le.refl _ | assumption | (apply Mem.le.trans; rotate_left; assumption)))) (fr' := [(1, [], _), (2, [], _), (3, [], _), (9, [], _), (10, [], _)]) ⟨rfl, rfl, rfl, rfl, rfl, trivial⟩ ⟨o2 ++ [0], v28, .inr ⟨rfl, hle2⟩, rfl, rfl, rfl⟩
    · skip
      have hlt : i < o2.length := by
        have : ¬ (o2.length : Int) ≤ i := by simpa using h25
        omega
      have hfacts : o2.length = max p.length (i + 1) ∧ valI o2 = (valP p : Nat) + k * (valP (q.take i) : Nat) ∧ (∀ j, i ≤ j → gI o2 j = (gP p j : Nat)) ∧ (∀ x ∈ o2, -100000000 ≤ x ∧ x ≤ 100000000) := by
        refine ho2.elim (fun h => ?_) fun h => ?_
        · subst h
          exact ⟨by omega, hJ.val, hJ.rest, hJ.lim⟩
        · obtain ⟨h1, h2⟩ := h
          subst h1
          have h3 := hJ.zero h2
          exact ⟨by rw [List.length_append, List.length_singleton]; omega, h3⟩
      obtain ⟨hlen, hv2, hr2, hm2⟩ := hfacts
      obtain ⟨hrq, hgq⟩ := gP_row (l := q) (k := i) hil
      have hgl : gP q i < 10000 := gP_lt hdq i
      have hmul : -99980001 ≤ k * ((gP q i : Nat) : Int) ∧ k * ((gP q i : Nat) : Int) ≤ 99980001 := by
        have h0 : (0 : Int) ≤ ((gP q i : Nat) : Int) := by omega
        have h1 : k * ((gP q i : Nat) : Int) ≤ 9999 * ((gP q i : Nat) : Int) := Int.mul_le_mul_of_nonneg_right hk.2 h0
        have h2 : (-9999 : Int) * ((gP q i : Nat) : Int) ≤ k * ((gP q i : Nat) : Int) := Int.mul_le_mul_of_nonneg_right hk.1 h0
        omega
      have hgo := hm2 _ (List.mem_of_getElem? (gI_someI hlt))
      refine G.rowForm 0 (m := o2.length - 1) (v := .slice Aw o2.length cw) (t := 3) (s := 1) (xs := (o2.map encI).flatten) (by rw [show o2.length - 1 + 1 = o2.length by omega]; rfl) (fun g0 cc hgc => ?_)
      injection hgc with hgc1 hgc2 hgc3
      subst hgc1 hgc3
      refine G.draw [0, 1, 2, 3, 4, 5, 6, 7, 8, 9, 10, 11, 12, 13, 14] [] rfl (by kernel_rfl) (fun R hB hR => ?_)
      iterate 3 refine D.pure rfl rfl rfl rfl rfl rfl ?_
      refine D.i64 (((i : Nat) : Int)) rfl rfl rfl rfl (by omega) (by omega) (by omega) rfl rfl ?_
      refine D.indexS (i * 1) rfl rfl rfl rfl rfl rfl rfl rfl rfl rfl (fun _ => ⟨by omega, by omega, rfl⟩) rfl rfl ?_
      refine D.loadArr (.head _) rfl rfl rfl rfl rfl rfl (fun _ => (by rw [row_read encI_len (gI_someI hlt)]; rfl)) rfl rfl ?_
      iterate 3 refine D.pure rfl rfl rfl rfl rfl rfl ?_
      refine D.index0 (hq.mono (by (repeat (first | exact Mem.le.refl _ | assumption | (apply Mem.le.trans; rotate_left; assumption))))) rfl rfl rfl rfl rfl rfl rfl rfl rfl rfl (by omega) hrq (fun _ => rfl) (fun p38 hp38 => ?_)
      refine D.loadP0 hp38 rfl rfl rfl rfl rfl rfl rfl rfl ?_
      refine D.i64 _ rfl rfl rfl rfl rfl (by omega) (by omega) rfl rfl ?_
      refine D.i64 _ rfl rfl rfl rfl rfl (by omega) (by omega) rfl rfl ?_
      refine D.indexS (i * 1) rfl rfl rfl rfl rfl rfl rfl rfl rfl rfl (fun _ => ⟨by omega, by omega, rfl⟩) rfl rfl ?_
      refine D.storeArr (j := 0) rfl rfl rfl rfl rfl rfl rfl rfl rfl rfl rfl (by show i * 1 + 1 ≤ _; rw [rows_len encI_len]; omega) ?_
      refine D.done [(1, [], _), (2, [], _), (3, [], _), (9, [], _), (10, [], _)] ⟨rfl, rfl, rfl, rfl, rfl, trivial⟩ (hR _ _ _ rfl ?_); clear hR hB R
      refine G.region rfl (fun R hR => ?_)
      refine D.pure rfl rfl rfl rfl rfl rfl ?_
      refine D.i64 _ rfl rfl rfl rfl rfl (by omega) (by omega) rfl rfl ?_
      refine D.pure rfl rfl rfl rfl rfl rfl ?_
      refine D.done [(1, [], _), (2, [], _), (3, [], _), (9, [], _), (10, [], _)] ⟨rfl, rfl, rfl, rfl, rfl, trivial⟩ (hR _ _ _ rfl ?_); clear hR R
      refine G.eqL (L' := [.arr (.slice (some ⟨g0, 0, none⟩) o2.length cw) 3 1 (o2.set i (gI o2 i + k * ((gP q i : Nat) : Int))).length ((o2.set i (gI o2 i + k * ((gP q i : Nat) : Int))).map encI).flatten]) (by rw [← row_write encI_len _ hlt, List.length_set]; rfl) ?_
      refine G.again (m' := q.length - (i + 1)) (by omega) (by (repeat (first | exact Mem.le.refl _ | assumption | (apply Mem.le.trans; rotate_left; assumption)))) (fr' := [(1, [], _), (2, [], _), (3, [], _), (9, [], _), (10, [], _)]) ⟨rfl, rfl, rfl, rfl, rfl, trivial⟩ ⟨i + 1, _, _, ⟨by omega, joins_step hdp hdq hk hgq hlen hv2 hr2 hm2⟩, rfl, rfl, rfl⟩
  · skip
    have hil : i = q.length := by
      have : ¬ i < q.length := by simpa using h17
      omega
    have hval : valI o = (valP p : Int) + k * (valP q : Int) := by rw [hJ.val, hil, List.take_length]
    refine G.regionO [(1, 3)] rfl (fun R hR => ?_)
    refine D.pure rfl rfl rfl rfl rfl rfl ?_
    refine D.call (carryO_fn _ _ o rfl (by rw [hval]; exact hpos) (fun x hx => by have := hJ.lim x hx; omega) (by have := hJ.len; omega)) rfl (.inr (by decide)) rfl rfl rfl rfl rfl rfl (List.Perm.refl _) (fun _ => rfl) (fun v44 C44 L44 hle44 hq44 => ?_)
    obtain ⟨rfl, hu⟩ := hq44
    refine D.pure rfl rfl rfl rfl rfl rfl ?_
    refine D.done [(8, [], _)] ⟨rfl, trivial⟩ (hR _ _ _ rfl ?_); clear hR R
    refine G.retN (G.dropAll (G.fin1 rfl rfl ?_))
    rw [hval] at hu
    exact ⟨rfl, hu⟩
end Go.Proofs.YtfelabnohopfdaaGreatDoor
namespace Go.Proofs.YtfelabnohopfdaaGreatDoor
open Go Go.Jog
set_option maxRecDepth 100000

theorem zrow_N (n : Nat) : zrow ([.int .i64 0] : List Value) n = ((List.replicate n 0).map encN).flatten := by
  rw [zrow_flatten, List.map_replicate]; rfl
theorem valP_drop {l : List Nat} {j : Nat} (h : j < l.length) : valP (l.drop j) = gP l j + BP * valP (l.drop (j + 1)) := by
  rw [List.drop_eq_getElem_cons h, (List.getElem?_eq_some_iff.1 (gP_row h).2).2]; rfl
theorem valP_set_drop {l : List Nat} {j x : Nat} (h : j < l.length) : valP ((l.set j x).drop j) = x + BP * valP (l.drop (j + 1)) := by
  rw [valP_drop (by rw [List.length_set]; exact h), List.drop_set_of_lt (by omega)]
  congr 1
  unfold gP
  rw [List.getD_eq_getElem?_getD, List.getElem?_set_self h]; rfl
theorem digP_set {l : List Nat} (h : DigP l) {j x : Nat} (hx : x < BP) : DigP (l.set j x) := fun y hy => by
  rcases List.mem_or_eq_of_mem_set hy with h1 | h1
  · exact h y h1
  · rw [h1]; exact hx
set_option maxHeartbeats 4000000 in
theorem parts_fn (C : Mem) (vp vq : Value) (p q : List Nat) (hp : Sl C 1 vp (p.map encN)) (hq : Sl C 1 vq (q.map encN)) (hdp : DigP p) (hcq : CanP q) (hQ : 0 < valP q) (hlp : p.length ≤ 10000) (hlq : q.length ≤ 10000) :
    Pur cx.P 117 [vp, vq] C fun u D => ∃ u1 u2, u = .tuple #[u1, u2] ∧ PieC D u1 (valP p / valP q) ∧ PieC D u2 (valP p % valP q) := by
  obtain ⟨A0, c0, rfl, _⟩ := id hp
  obtain ⟨B0, d0, rfl, _⟩ := id hq
  simp only [List.length_map] at hp hq ⊢
  refine Fn.intro (by kernel_rfl) Tryz.func117 rfl 58 rfl rfl (fun w0 => ?_)
  refine G.region rfl (fun R hR => ?_)
  iterate 2 refine D.pure rfl rfl rfl rfl rfl rfl ?_
  refine D.done [(0, [], _), (1, [], _)] ⟨rfl, rfl, trivial⟩ (hR _ _ _ rfl ?_); clear hR R
  refine G.region rfl (fun R hR => ?_)
  iterate 2 refine D.pure rfl rfl rfl rfl rfl rfl ?_
  refine D.makeArr rfl rfl rfl rfl rfl rfl rfl rfl rfl (Nat.le_refl _) (by show 8 * p.length ≤ 281474976710656; omega) (by simp only [maxLen]; omega) (fun _ => rfl) (fun b14 => ?_)
  refine D.pure rfl rfl rfl rfl rfl rfl ?_
  refine D.done [(0, [], _), (1, [], _), (6, [], _)] ⟨rfl, rfl, rfl, trivial⟩ (hR _ _ _ rfl ?_); clear hR R
  refine G.region rfl (fun R hR => ?_)
  refine D.pure rfl rfl rfl rfl rfl rfl ?_
  refine D.done [(0, [], _), (1, [], _), (6, [], _), (7, [], _)] ⟨rfl, rfl, rfl, rfl, trivial⟩ (hR _ _ _ rfl ?_); clear hR R
  refine G.region rfl (fun R hR => ?_)
  iterate 2 refine D.pure rfl rfl rfl rfl rfl rfl ?_
  refine D.i64 _ rfl rfl rfl rfl rfl (by omega) (by omega) rfl rfl ?_
  refine D.pure rfl rfl rfl rfl rfl rfl ?_
  refine D.done [(0, [], _), (1, [], _), (6, [], _), (7, [], _), (8, [], _)] ⟨rfl, rfl, rfl, rfl, rfl, trivial⟩ (hR _ _ _ rfl ?_); clear hR R
  refine G.eqL (L' := [.arr (qW b14 p.length p.length) 3 1 p.length ((List.replicate p.length 0).map encN).flatten]) (by rw [← zrow_N]; rfl) ?_
  refine G.loop (fun fr C' L' μ => ∃ (k : Nat) (o l : List Nat) (vr : Value), (k ≤ p.length ∧ o.length = p.length ∧ DigP o ∧ valP (o.drop k) = valP (p.drop k) / valP q ∧ Sl C' 1 vr (l.map encN) ∧ CanP l ∧ valP l = valP (p.drop k) % valP q) ∧ fr = [(0, [], .slice A0 p.length c0), (1, [], .slice B0 q.length d0), (6, [], qW b14 p.length p.length), (7, [], vr), (8, [], .int .i64 ((k : Int) - 1))] ∧ L' = [.arr (qW b14 p.length p.length) 3 1 p.length (o.map encN).flatten] ∧ μ = k + 1) (fr' := [(0, [], _), (1, [], _), (6, [], _), (7, [], _), (8, [], _)]) ⟨rfl, rfl, rfl, rfl, rfl, trivial⟩ ⟨p.length, List.replicate p.length 0, [], .slice none 0 0, ⟨Nat.le_refl _, List.length_replicate, (fun x hx => by rw [List.eq_of_mem_replicate hx]; decide), by rw [List.drop_length, List.drop_of_length_le (by simp)]; simp [valP], Sl.nil _ _, ⟨fun x hx => (by cases hx), by simp⟩, by rw [List.drop_length]; simp [valP]⟩, rfl, rfl, rfl⟩ (fun fr C0' L0' m hle0 hI => ?_)
  obtain ⟨k, o, l, vr, ⟨hk, hol, hod, hov, hs, hcl, hlv⟩, rfl, rfl, rfl⟩ := hI
  refine G.region rfl (fun R hR => ?_)
  iterate 2 refine D.pure rfl rfl rfl rfl rfl rfl ?_
  refine D.done [(0, [], _), (1, [], _), (6, [], _), (7, [], _), (8, [], _), (19, [], _)] ⟨rfl, rfl, rfl, rfl, rfl, rfl, trivial⟩ (hR _ _ _ rfl ?_); clear hR R
  refine G.cond rfl (fun h19 => ?_) (fun h19 => ?_)
  · skip
    have hk0 : 0 < k := by
      have : (0 : Int) ≤ (k : Int) - 1 := by simpa using h19
      omega
    obtain ⟨j, rfl⟩ : ∃ j, k = j + 1 := ⟨k - 1, by omega⟩
    rw [show ((j + 1 : Nat) : Int) - 1 = (j : Int) by omega]
    obtain ⟨hrj, hgj⟩ := gP_row (l := p) (k := j) (by omega)
    have hx : gP p j < BP := gP_lt hdp j
    have hx2 : gP p j < 10000 := hx
    have hllen : l.length ≤ q.length := canP_short hcl (by rw [hlv]; exact Nat.lt_trans (Nat.mod_lt _ hQ) (valP_lt hcq.1))
    have hrd : DigP (gP p j :: l) := fun y hy => by
      rcases List.mem_cons.1 hy with h | h
      · rw [h]; exact hx
      · exact hcl.1 y h
    refine G.regionO [(7, 3)] rfl (fun R hR => ?_)
    iterate 2 refine D.pure rfl rfl rfl rfl rfl rfl ?_
    refine D.index0 (hp.mono (by (repeat (first | exact Mem.le.refl _ | assumption | (apply Mem.le.trans; rotate_left; assumption))))) rfl rfl rfl rfl rfl rfl rfl rfl rfl rfl (by omega) hrj (fun _ => rfl) (fun p24 hp24 => ?_)
    refine D.loadP0 hp24 rfl rfl rfl rfl rfl rfl rfl rfl ?_
    refine D.buildArr [encN (gP p j)] rfl rfl rfl rfl rfl rfl rfl rfl rfl rfl rfl rfl (fun _ => rfl) (fun b26 => ?_)
    refine D.pure rfl rfl rfl rfl rfl rfl ?_
    refine D.append (j := 0) rfl rfl rfl rfl rfl rfl rfl rfl rfl rfl rfl (hs.mono (by (repeat (first | exact Mem.le.refl _ | assumption | (apply Mem.le.trans; rotate_left; assumption))))) (by rw [List.all_eq_true]; intro r hr; obtain ⟨y, _, rfl⟩ := List.mem_map.1 hr; rfl) (by rw [List.length_map]; simp only [List.length_singleton, maxLen]; omega) (by rw [List.length_map]; show (1 + l.length) * 8 ≤ _; omega) (fun _ => rfl) (fun v28 => ?_)
    refine D.call (cutO_fn _ _ (gP p j :: l) (n := 1 + (l.map encN).length) (by rw [List.length_map]; simp; omega)) rfl (.inr (by decide)) rfl rfl rfl rfl rfl rfl (List.Perm.refl _) (fun _ => rfl) (fun v29 C29 L29 hle29 hq29 => ?_)
    obtain ⟨rfl, hu⟩ := hq29
    refine D.pure rfl rfl rfl rfl rfl rfl ?_
    refine D.done [(0, [], _), (1, [], _), (6, [], _), (7, [], _), (8, [], _)] ⟨rfl, rfl, rfl, rfl, rfl, trivial⟩ (hR _ _ _ rfl ?_); clear hR R
    obtain ⟨r, hrc, hrv, hrs, hrl⟩ : ∃ r, CanP r ∧ valP r = gP p j + BP * (valP (p.drop (j + 1)) % valP q) ∧ Sl C29 1 v29 (r.map encN) ∧ r.length ≤ 20000 := ⟨cutP (gP p j :: l), cutP_can hrd, by rw [cutP_val]; show gP p j + BP * valP l = _; rw [hlv], hu, by unfold cutP; rw [List.length_take, List.length_cons]; omega⟩
    have hdm := div_piece (t := valP (p.drop (j + 1))) (x := gP p j) hQ
    rw [← valP_drop (by omega), ← hrv] at hdm
    have hdl : valP r / valP q < BP := by rw [hrv]; exact div_piece_lt hQ hx
    have hdl2 : valP r / valP q < 10000 := hdl
    refine G.region rfl (fun R hR => ?_)
    iterate 2 refine D.pure rfl rfl rfl rfl rfl rfl ?_
    refine D.done [(0, [], _), (1, [], _), (6, [], _), (7, [], _), (8, [], _), (9, [], _), (10, [], _)] ⟨rfl, rfl, rfl, rfl, rfl, rfl, rfl, trivial⟩ (hR _ _ _ rfl ?_); clear hR R
    refine G.loop (fun fr C' L' μ => ∃ (low high : Nat), (low ≤ valP r / valP q ∧ valP r / valP q ≤ high ∧ high ≤ 9999) ∧ fr = [(0, [], .slice A0 p.length c0), (1, [], .slice B0 q.length d0), (6, [], qW b14 p.length p.length), (7, [], v29), (8, [], .int .i64 j), (9, [], .int .i64 low), (10, [], .int .i64 high)] ∧ L' = [.arr (qW b14 p.length p.length) 3 1 p.length (o.map encN).flatten] ∧ μ = high - low) (fr' := [(0, [], _), (1, [], _), (6, [], _), (7, [], _), (8, [], _), (9, [], _), (10, [], _)]) ⟨rfl, rfl, rfl, rfl, rfl, rfl, rfl, trivial⟩ ⟨0, 9999, ⟨Nat.zero_le _, by omega, Nat.le_refl _⟩, rfl, rfl, rfl⟩ (fun fr C1' L1' m hle1 hI => ?_)
    obtain ⟨low, high, ⟨hlo, hhi, hh9⟩, rfl, rfl, rfl⟩ := hI
    refine G.region rfl (fun R hR => ?_)
    iterate 3 refine D.pure rfl rfl rfl rfl rfl rfl ?_
    refine D.done [(0, [], _), (1, [], _), (6, [], _), (7, [], _), (8, [], _), (9, [], _), (10, [], _), (32, [], _)] ⟨rfl, rfl, rfl, rfl, rfl, rfl, rfl, rfl, trivial⟩ (hR _ _ _ rfl ?_); clear hR R
    refine G.cond rfl (fun h32 => ?_) (fun h32 => ?_)
    · skip
      have hlh : low < high := by simpa using h32
      obtain ⟨hv1, hv2⟩ := halving hQ hlo hhi hlh
      refine G.region rfl (fun R hR => ?_)
      iterate 2 refine D.pure rfl rfl rfl rfl rfl rfl ?_
      refine D.i64 _ rfl rfl rfl rfl rfl (by omega) (by omega) rfl rfl ?_
      refine D.i64 _ rfl rfl rfl rfl rfl (by omega) (by omega) rfl rfl ?_
      refine D.quoT ((((low + high + 1) / 2 : Nat) : Int)) rfl rfl rfl rfl rfl rfl (by omega) (by rw [Int.tdiv_eq_ediv_of_nonneg (by omega)]; omega) (by rw [IntKind.wrap_i64]; omega) rfl rfl ?_
      refine D.pure rfl rfl rfl rfl rfl rfl ?_
      refine D.done [(0, [], _), (1, [], _), (6, [], _), (7, [], _), (8, [], _), (9, [], _), (10, [], _), (11, [], _)] ⟨rfl, rfl, rfl, rfl, rfl, rfl, rfl, rfl, trivial⟩ (hR _ _ _ rfl ?_); clear hR R
      refine G.region rfl (fun R hR => ?_)
      iterate 3 refine D.pure rfl rfl rfl rfl rfl rfl ?_
      refine D.callP (joined_fn _ _ _ [] q ((((low + high + 1) / 2 : Nat) : Int)) (Sl.nil _ _) (hq.mono (by (repeat (first | exact Mem.le.refl _ | assumption | (apply Mem.le.trans; rotate_left; assumption))))) (fun x hx => (by cases hx)) hcq.1 (by omega) (by rw [← Int.natCast_mul]; omega) (by simp) (by omega)) rfl rfl rfl rfl rfl rfl rfl (fun _ => rfl) (fun v41 C41 hle41 hq41 => ?_)
      obtain ⟨l2, hc2, hv3, hs2⟩ := hq41
      have hv4 : valP l2 = valP q * ((low + high + 1) / 2) := by
        have h0 : ((valP ([] : List Nat) : Nat) : Int) = 0 := rfl
        rw [hv3, h0, Int.zero_add, ← Int.natCast_mul, Int.toNat_natCast, Nat.mul_comm]
      refine D.gives2 (pless_fn _ _ _ r l2 (hrs.mono (by (repeat (first | exact Mem.le.refl _ | assumption | (apply Mem.le.trans; rotate_left; assumption))))) (hs2.mono (by (repeat (first | exact Mem.le.refl _ | assumption | (apply Mem.le.trans; rotate_left; assumption))))) hrc hc2) rfl rfl rfl rfl rfl rfl rfl (fun _ => rfl) ?_
      refine D.done [(0, [], _), (1, [], _), (6, [], _), (7, [], _), (8, [], _), (9, [], _), (10, [], _), (11, [], _), (42, [], _)] ⟨rfl, rfl, rfl, rfl, rfl, rfl, rfl, rfl, rfl, trivial⟩ (hR _ _ _ rfl ?_); clear hR R
      refine G.cond rfl (fun h42 => ?_) (fun h42 => ?_)
      · skip
        have hlt : valP r < valP q * ((low + high + 1) / 2) := by
          rw [← hv4]; simpa using h42
        have hv5 := hv1 hlt
        refine G.region rfl (fun R hR => ?_)
        refine D.pure rfl rfl rfl rfl rfl rfl ?_
        refine D.i64 _ rfl rfl rfl rfl rfl (by omega) (by omega) rfl rfl ?_
        refine D.pure rfl rfl rfl rfl rfl rfl ?_
        refine D.done [(0, [], _), (1, [], _), (6, [], _), (7, [], _), (8, [], _), (9, [], _), (10, [], _)] ⟨rfl, rfl, rfl, rfl, rfl, rfl, rfl, trivial⟩ (hR _ _ _ rfl ?_); clear hR R
        rw [show ((((low + high + 1) / 2 : Nat) : Int)) - 1 = (((low + high + 1) / 2 - 1 : Nat) : Int) by omega]
        refine G.again (m' := (low + high + 1) / 2 - 1 - low) (by omega) (by (repeat (first | exact Mem.le.refl _ | assumption | (apply Mem.le.trans; rotate_left; assumption)))) (fr' := [(0, [], _), (1, [], _), (6, [], _), (7, [], _), (8, [], _), (9, [], _), (10, [], _)]) ⟨rfl, rfl, rfl, rfl, rfl, rfl, rfl, trivial⟩ ⟨low, (low + high + 1) / 2 - 1, ⟨hv5.1, hv5.2, by omega⟩, rfl, rfl, rfl⟩
      · skip
        have hlt : ¬ valP r < valP q * ((low + high + 1) / 2) := by
          rw [← hv4]; simpa using h42
        have hv5 := hv2 hlt
        refine G.region rfl (fun R hR => ?_)
        iterate 2 refine D.pure rfl rfl rfl rfl rfl rfl ?_
        refine D.done [(0, [], _), (1, [], _), (6, [], _), (7, [], _), (8, [], _), (9, [], _), (10, [], _)] ⟨rfl, rfl, rfl, rfl, rfl, rfl, rfl, trivial⟩ (hR _ _ _ rfl ?_); clear hR R
        refine G.again (m' := high - (low + high + 1) / 2) (by omega) (by (repeat (first | exact Mem.le.refl _ | assumption | (apply Mem.le.trans; rotate_left; assumption)))) (fr' := [(0, [], _), (1, [], _), (6, [], _), (7, [], _), (8, [], _), (9, [], _), (10, [], _)]) ⟨rfl, rfl, rfl, rfl, rfl, rfl, rfl, trivial⟩ ⟨(low + high + 1) / 2, high, ⟨hv5.1, hv5.2, hh9⟩, rfl, rfl, rfl⟩
    · skip
      have hlh : low = valP r / valP q := by
        have : ¬ low < high := by simpa using h32
        omega
      have hrm : ((valP r : Nat) : Int) + -(low : Int) * ((valP q : Nat) : Int) = ((valP r % valP q : Nat) : Int) := by
        have h1 := Nat.div_add_mod (valP r) (valP q)
        rw [← hlh] at h1
        have h2 : ((valP q * low + valP r % valP q : Nat) : Int) = (valP r : Nat) := by rw [h1]
        rw [Int.natCast_add, Int.natCast_mul] at h2
        rw [Int.neg_mul, Int.mul_comm (low : Int)]
        omega
      refine G.region rfl (fun R hR => ?_)
      iterate 3 refine D.pure rfl rfl rfl rfl rfl rfl ?_
      refine D.indexS (j * 1) rfl rfl rfl rfl rfl rfl rfl rfl rfl rfl (fun _ => ⟨by omega, by omega, rfl⟩) rfl rfl ?_
      refine D.storeArr (j := 0) rfl rfl rfl rfl rfl rfl rfl rfl rfl rfl rfl (by show j * 1 + 1 ≤ _; rw [rows_len encN_len]; omega) ?_
      refine D.done [(0, [], _), (1, [], _), (6, [], _), (7, [], _), (8, [], _), (9, [], _)] ⟨rfl, rfl, rfl, rfl, rfl, rfl, trivial⟩ (hR _ _ _ rfl ?_); clear hR R
      refine G.region rfl (fun R hR => ?_)
      iterate 4 refine D.pure rfl rfl rfl rfl rfl rfl ?_
      rw [show IntKind.i64.wrap (0 - (low : Int)) = -(low : Int) by rw [IntKind.wrap_i64]; omega]
      refine D.callP (joined_fn _ _ _ r q (-(low : Int)) (hrs.mono (by (repeat (first | exact Mem.le.refl _ | assumption | (apply Mem.le.trans; rotate_left; assumption))))) (hq.mono (by (repeat (first | exact Mem.le.refl _ | assumption | (apply Mem.le.trans; rotate_left; assumption))))) hrc.1 hcq.1 (by omega) (by rw [hrm]; omega) (by omega) (by omega)) rfl rfl rfl rfl rfl rfl rfl (fun _ => rfl) (fun v54 C54 hle54 hq54 => ?_)
      obtain ⟨l3, hc3, hv6, hs3⟩ := hq54
      rw [hrm, Int.toNat_natCast] at hv6
      refine D.pure rfl rfl rfl rfl rfl rfl ?_
      refine D.done [(0, [], _), (1, [], _), (6, [], _), (7, [], _), (8, [], _)] ⟨rfl, rfl, rfl, rfl, rfl, trivial⟩ (hR _ _ _ rfl ?_); clear hR R
      refine G.region rfl (fun R hR => ?_)
      refine D.pure rfl rfl rfl rfl rfl rfl ?_
      refine D.i64 _ rfl rfl rfl rfl rfl (by omega) (by omega) rfl rfl ?_
      refine D.pure rfl rfl rfl rfl rfl rfl ?_
      refine D.done [(0, [], _), (1, [], _), (6, [], _), (7, [], _), (8, [], _)] ⟨rfl, rfl, rfl, rfl, rfl, trivial⟩ (hR _ _ _ rfl ?_); clear hR R
      refine G.eqL (L' := [.arr (qW b14 p.length p.length) 3 1 p.length ((o.set j low).map encN).flatten]) (by rw [← row_write encN_len _ (by omega : j < o.length)]; rfl) ?_
      refine G.again (m' := j + 1) (by omega) (by (repeat (first | exact Mem.le.refl _ | assumption | (apply Mem.le.trans; rotate_left; assumption)))) (fr' := [(0, [], _), (1, [], _), (6, [], _), (7, [], _), (8, [], _)]) ⟨rfl, rfl, rfl, rfl, rfl, trivial⟩ ⟨j, o.set j low, l3, _, ⟨by omega, by rw [List.length_set]; exact hol, digP_set hod (by show low < BP; omega), by rw [valP_set_drop (by omega), hov, hdm.1, hlh]; omega, hs3.mono (by (repeat (first | exact Mem.le.refl _ | assumption | (apply Mem.le.trans; rotate_left; assumption)))), hc3, by rw [hv6, hdm.2, hrv]⟩, rfl, rfl, rfl⟩
  · skip
    have hk0 : k = 0 := by
      have : ¬ (0 : Int) ≤ (k : Int) - 1 := by simpa using h19
      omega
    subst hk0
    refine G.regionO [(1, 3)] rfl (fun R hR => ?_)
    refine D.pure rfl rfl rfl rfl rfl rfl ?_
    refine D.call (cutO_fn _ _ o hol) rfl (.inr (by decide)) rfl rfl rfl rfl rfl rfl (List.Perm.refl _) (fun _ => rfl) (fun v56 C56 L56 hle56 hq56 => ?_)
    obtain ⟨rfl, hu⟩ := hq56
    iterate 3 refine D.pure rfl rfl rfl rfl rfl rfl ?_
    refine D.done [(4, [], _), (5, [], _)] ⟨rfl, rfl, trivial⟩ (hR _ _ _ rfl ?_); clear hR R
    refine G.retN (G.dropAll (G.fin2 rfl rfl rfl ?_))
    exact ⟨rfl, _, _, rfl, ⟨cutP o, cutP_can hod, by rw [cutP_val, ← List.drop_zero (l := o), hov, List.drop_zero], hu⟩, ⟨l, hcl, by rw [hlv, List.drop_zero], hs.mono (by (repeat (first | exact Mem.le.refl _ | assumption | (apply Mem.le.trans; rotate_left; assumption))))⟩⟩
end Go.Proofs.YtfelabnohopfdaaGreatDoor
namespace Go.Proofs.YtfelabnohopfdaaGreatDoor
open Go Go.Jog
set_option maxRecDepth 100000

theorem dropP_txt (z : Int) : dropP 45 (txt z) = (decS z.natAbs, decide (z < 0)) := by
  unfold txt
  split
  · rename_i h
    rw [decide_eq_true h]; rfl
  · rename_i h
    rw [decide_eq_false h]
    unfold dropP
    rw [if_neg]
    intro h0
    have h1 := (decS_ok z.natAbs).1.1 45 (List.mem_of_mem_head? h0)
    revert h1; decide
theorem txt_zero (z : Int) : txt z = [48] ↔ z = 0 := by
  constructor
  · intro h
    have h1 : (dropP 45 (txt z)).1 = [48] := by rw [h]; rfl
    rw [dropP_txt] at h1
    have h2 := (decS_ok z.natAbs).2
    have h3 : decS z.natAbs = [48] := h1
    rw [h3] at h2
    have h4 : decV [48] = 0 := rfl
    omega
  · rintro rfl
    unfold txt
    rw [if_neg (by omega), show decS (0 : Int).natAbs = decS 0 from rfl, decS]; rfl
theorem txtEq0 (z : Int) : ((⟨(txt z).toArray⟩ : ByteArray).data.toList == (⟨#[48]⟩ : ByteArray).data.toList) = decide (z = 0) := by
  show (txt z == [48]) = _
  rw [eqStr, decide_eq_decide]; exact txt_zero z
theorem txt_nat (n : Nat) : txt (n : Int) = decS n := by
  unfold txt
  rw [if_neg (by omega)]; rfl
theorem split_txt (C : Mem) (z : Int) : Gives cx.P 86 [strV (txt z)] C (.tuple #[.bool (decide (z < 0)), strV (decS z.natAbs)]) := by
  have h := split_fn C (txt z)
  rwa [dropP_txt] at h
theorem decV_tk10 {s : Str} {i : Nat} {c : UInt8} (h : s[i]? = some c) : decV (s.take (i + 1)) = 10 * decV (s.take i) + (c.toNat - 48) := by
  rw [decV_tk h]; omega
theorem decV_le17 {s : Str} (hs : ∀ c ∈ s, digB c = true) (hl : s.length ≤ 17) (i : Nat) : decV (s.take i) < 100000000000000000 := by
  have h1 := decV_lt (s := s.take i) (fun c hc => hs c (List.mem_of_mem_take hc))
  have h2 : 10 ^ (s.take i).length ≤ 10 ^ 17 := Nat.pow_le_pow_right (by decide) (by rw [List.length_take]; omega)
  omega
set_option maxHeartbeats 1000000 in
theorem small_fn (C : Mem) (z : Int) (hl : (decS z.natAbs).length ≤ 17) : Gives cx.P 139 [strV (txt z)] C (.tuple #[.int .i64 z, .bool true]) := by
  obtain ⟨s, hsd⟩ : ∃ s, decS z.natAbs = s := ⟨_, rfl⟩
  have hs := (decS_ok z.natAbs).1.1
  have hv := (decS_ok z.natAbs).2
  rw [hsd] at hl hs hv
  refine Fn.intro (by kernel_rfl) Tryz.func139 rfl 45 rfl rfl (fun w0 => ?_)
  refine G.region rfl (fun R hR => ?_)
  iterate 2 refine D.pure rfl rfl rfl rfl rfl rfl ?_
  refine D.done [(0, [], _)] ⟨rfl, trivial⟩ (hR _ _ _ rfl ?_); clear hR R
  refine G.region rfl (fun R hR => ?_)
  refine D.pure rfl rfl rfl rfl rfl rfl ?_
  refine D.gives2 (by have h := split_txt C z; rw [hsd] at h; exact h) rfl rfl rfl rfl rfl rfl rfl (fun _ => rfl) ?_
  iterate 5 refine D.pure rfl rfl rfl rfl rfl rfl ?_
  refine D.done [(4, [], _), (5, [], _)] ⟨rfl, rfl, trivial⟩ (hR _ _ _ rfl ?_); clear hR R
  refine G.region rfl (fun R hR => ?_)
  iterate 3 refine D.pure rfl rfl rfl rfl rfl rfl ?_
  refine D.done [(4, [], _), (5, [], _), (16, [], _)] ⟨rfl, rfl, rfl, trivial⟩ (hR _ _ _ rfl ?_); clear hR R
  refine G.cond rfl (fun h16 => ?_) (fun h16 => ?_)
  · skip
    exfalso
    have : (s.length : Int) > 19 := by simpa using h16
    omega
  · skip
    refine G.region rfl (fun R hR => ?_)
    refine D.pure rfl rfl rfl rfl rfl rfl ?_
    refine D.done [(4, [], _), (5, [], _), (6, [], _)] ⟨rfl, rfl, rfl, trivial⟩ (hR _ _ _ rfl ?_); clear hR R
    refine G.region rfl (fun R hR => ?_)
    refine D.pure rfl rfl rfl rfl rfl rfl ?_
    refine D.done [(4, [], _), (5, [], _), (6, [], _), (7, [], _)] ⟨rfl, rfl, rfl, rfl, trivial⟩ (hR _ _ _ rfl ?_); clear hR R
    refine G.loop (fun fr C' L' μ => ∃ (i : Nat), (i ≤ s.length) ∧ fr = [(4, [], .bool (decide (z < 0))), (5, [], strV s), (6, [], .int .i64 (-((decV (s.take i) : Nat) : Int))), (7, [], .int .i64 i)] ∧ L' = [] ∧ μ = s.length - i) (fr' := [(4, [], _), (5, [], _), (6, [], _), (7, [], _)]) ⟨rfl, rfl, rfl, rfl, trivial⟩ ⟨0, Nat.zero_le _, rfl, rfl, rfl⟩ (fun fr C0' L0' m hle0 hI => ?_)
    obtain ⟨i, hi, rfl, rfl, rfl⟩ := hI
    refine G.region rfl (fun R hR => ?_)
    iterate 4 refine D.pure rfl rfl rfl rfl rfl rfl ?_
    refine D.done [(4, [], _), (5, [], _), (6, [], _), (7, [], _), (20, [], _)] ⟨rfl, rfl, rfl, rfl, rfl, trivial⟩ (hR _ _ _ rfl ?_); clear hR R
    refine G.cond rfl (fun h20 => ?_) (fun h20 => ?_)
    · skip
      have hil : i < s.length := by simpa using h20
      obtain ⟨c, hc⟩ : ∃ c, s[i]? = some c := ⟨s[i], List.getElem?_eq_getElem hil⟩
      have hcd := hs c (List.mem_of_getElem? hc)
      have hcr : 48 ≤ c.toNat ∧ c.toNat ≤ 57 := by simpa [digB] using hcd
      have hV := decV_le17 hs hl i
      have htd : (-9223372036854775808 + (((c.toNat : Nat) : Int) - 48)).tdiv 10 = -((9223372036854775808 - (((c.toNat : Nat) : Int) - 48)) / 10) := by
        rw [show (-9223372036854775808 + (((c.toNat : Nat) : Int) - 48)) = -(9223372036854775808 - (((c.toNat : Nat) : Int) - 48)) by omega, Int.neg_tdiv, Int.tdiv_eq_ediv_of_nonneg (by omega)]
      refine G.region rfl (fun R hR => ?_)
      iterate 2 refine D.pure rfl rfl rfl rfl rfl rfl ?_
      refine D.indexStr rfl rfl rfl rfl rfl rfl rfl rfl (fun _ => ⟨by omega, hc⟩) rfl rfl ?_
      refine D.conv (c := ((c.toNat : Nat) : Int)) rfl rfl rfl rfl rfl rfl rfl rfl (by rw [IntKind.wrap_i64]; omega) (fun _ => rfl) ?_
      refine D.i64 _ rfl rfl rfl rfl rfl (by omega) (by omega) rfl rfl ?_
      refine D.pure rfl rfl rfl rfl rfl rfl ?_
      refine D.done [(4, [], _), (5, [], _), (6, [], _), (7, [], _), (8, [], _)] ⟨rfl, rfl, rfl, rfl, rfl, trivial⟩ (hR _ _ _ rfl ?_); clear hR R
      refine G.region rfl (fun R hR => ?_)
      iterate 2 refine D.pure rfl rfl rfl rfl rfl rfl ?_
      refine D.i64 _ rfl rfl rfl rfl rfl (by omega) (by omega) rfl rfl ?_
      refine D.quoT (-((9223372036854775808 - (((c.toNat : Nat) : Int) - 48)) / 10)) rfl rfl rfl rfl rfl rfl (by omega) htd (by rw [IntKind.wrap_i64]; omega) rfl rfl ?_
      refine D.pure rfl rfl rfl rfl rfl rfl ?_
      refine D.done [(4, [], _), (5, [], _), (6, [], _), (7, [], _), (8, [], _), (32, [], _)] ⟨rfl, rfl, rfl, rfl, rfl, rfl, trivial⟩ (hR _ _ _ rfl ?_); clear hR R
      refine G.cond rfl (fun h32 => ?_) (fun h32 => ?_)
      · skip
        exfalso
        simp only [decide_eq_true_eq] at h32
        omega
      · skip
        refine G.region rfl (fun R hR => ?_)
        refine D.pure rfl rfl rfl rfl rfl rfl ?_
        refine D.i64 _ rfl rfl rfl rfl rfl (by omega) (by omega) rfl rfl ?_
        refine D.pure rfl rfl rfl rfl rfl rfl ?_
        refine D.i64 _ rfl rfl rfl rfl rfl (by omega) (by omega) rfl rfl ?_
        refine D.pure rfl rfl rfl rfl rfl rfl ?_
        refine D.done [(4, [], _), (5, [], _), (6, [], _), (7, [], _)] ⟨rfl, rfl, rfl, rfl, trivial⟩ (hR _ _ _ rfl ?_); clear hR R
        refine G.region rfl (fun R hR => ?_)
        refine D.pure rfl rfl rfl rfl rfl rfl ?_
        refine D.i64 _ rfl rfl rfl rfl rfl (by omega) (by omega) rfl rfl ?_
        refine D.pure rfl rfl rfl rfl rfl rfl ?_
        refine D.done [(4, [], _), (5, [], _), (6, [], _), (7, [], _)] ⟨rfl, rfl, rfl, rfl, trivial⟩ (hR _ _ _ rfl ?_); clear hR R
        rw [show 10 * -((decV (s.take i) : Nat) : Int) - (((c.toNat : Nat) : Int) - 48) = -((decV (s.take (i + 1)) : Nat) : Int) by rw [decV_tk10 hc]; omega]
        refine G.again (m' := s.length - (i + 1)) (by omega) (by (repeat (first | exact Mem.le.refl _ | assumption | (apply Mem.le.trans; rotate_left; assumption)))) (fr' := [(4, [], _), (5, [], _), (6, [], _), (7, [], _)]) ⟨rfl, rfl, rfl, rfl, trivial⟩ ⟨i + 1, (by omega), rfl, rfl, rfl⟩
    · skip
      have hil : i = s.length := by
        have : ¬ i < s.length := by simpa using h20
        omega
      rw [hil, List.take_length, hv]
      refine G.region rfl (fun R hR => ?_)
      iterate 2 refine D.pure rfl rfl rfl rfl rfl rfl ?_
      refine D.done [(6, [], _), (37, [], _)] ⟨rfl, rfl, trivial⟩ (hR _ _ _ rfl ?_); clear hR R
      refine G.cond rfl (fun h37 => ?_) (fun h37 => ?_)
      · skip
        have hz : z < 0 := by simpa using h37
        refine G.region rfl (fun R hR => ?_)
        iterate 3 refine D.pure rfl rfl rfl rfl rfl rfl ?_
        refine D.done [(2, [], _), (3, [], _)] ⟨rfl, rfl, trivial⟩ (hR _ _ _ rfl ?_); clear hR R
        refine G.retN (G.dropAll (G.fin2 rfl rfl rfl ?_))
        refine ⟨?_, rfl⟩
        rw [show -((z.natAbs : Nat) : Int) = z by omega]
      · skip
        have hz : ¬ z < 0 := by simpa using h37
        have hzl : z.natAbs < 100000000000000000 := by
          have := decV_le17 hs hl s.length
          rwa [List.take_length, hv] at this
        refine G.region rfl (fun R hR => ?_)
        iterate 3 refine D.pure rfl rfl rfl rfl rfl rfl ?_
        refine D.done [(6, [], _), (40, [], _)] ⟨rfl, rfl, trivial⟩ (hR _ _ _ rfl ?_); clear hR R
        refine G.cond rfl (fun h40 => ?_) (fun h40 => ?_)
        · skip
          exfalso
          simp at h40
          omega
        · skip
          refine G.region rfl (fun R hR => ?_)
          iterate 4 refine D.pure rfl rfl rfl rfl rfl rfl ?_
          refine D.done [(2, [], _), (3, [], _)] ⟨rfl, rfl, trivial⟩ (hR _ _ _ rfl ?_); clear hR R
          refine G.retN (G.dropAll (G.fin2 rfl rfl rfl ?_))
          refine ⟨?_, rfl⟩
          rw [show IntKind.i64.wrap (0 - -((z.natAbs : Nat) : Int)) = z by rw [IntKind.wrap_i64]; omega]
theorem brief_fn (C : Mem) (z : Int) : Gives cx.P 115 [strV (txt z)] C (.tuple #[.int .i64 (if (decS z.natAbs).length ≤ 17 then z else 0), .bool (decide ((decS z.natAbs).length ≤ 17))]) := by
  refine Fn.intro (by kernel_rfl) Tryz.func115 rfl 18 rfl rfl (fun w0 => ?_)
  refine G.region rfl (fun R hR => ?_)
  iterate 2 refine D.pure rfl rfl rfl rfl rfl rfl ?_
  refine D.done [(0, [], _)] ⟨rfl, trivial⟩ (hR _ _ _ rfl ?_); clear hR R
  refine G.region rfl (fun R hR => ?_)
  refine D.pure rfl rfl rfl rfl rfl rfl ?_
  refine D.gives2 (split_txt C z) rfl rfl rfl rfl rfl rfl rfl (fun _ => rfl) ?_
  iterate 5 refine D.pure rfl rfl rfl rfl rfl rfl ?_
  refine D.done [(0, [], _), (5, [], _)] ⟨rfl, rfl, trivial⟩ (hR _ _ _ rfl ?_); clear hR R
  refine G.region rfl (fun R hR => ?_)
  iterate 3 refine D.pure rfl rfl rfl rfl rfl rfl ?_
  refine D.done [(0, [], _), (13, [], _)] ⟨rfl, rfl, trivial⟩ (hR _ _ _ rfl ?_); clear hR R
  refine G.cond rfl (fun h13 => ?_) (fun h13 => ?_)
  · skip
    have hn : ¬ (decS z.natAbs).length ≤ 17 := by
      have : ((decS z.natAbs).length : Int) > 17 := by simpa using h13
      omega
    refine G.region rfl (fun R hR => ?_)
    iterate 2 refine D.pure rfl rfl rfl rfl rfl rfl ?_
    refine D.done [(2, [], _), (3, [], _)] ⟨rfl, rfl, trivial⟩ (hR _ _ _ rfl ?_); clear hR R
    refine G.retN (G.dropAll (G.fin2 rfl rfl rfl ?_))
    rw [if_neg hn, decide_eq_false hn]
    exact ⟨rfl, rfl⟩
  · skip
    have hn : (decS z.natAbs).length ≤ 17 := by
      have : ¬ ((decS z.natAbs).length : Int) > 17 := by simpa using h13
      omega
    refine G.region rfl (fun R hR => ?_)
    refine D.pure rfl rfl rfl rfl rfl rfl ?_
    refine D.gives2 (small_fn _ z hn) rfl rfl rfl rfl rfl rfl rfl (fun _ => rfl) ?_
    iterate 4 refine D.pure rfl rfl rfl rfl rfl rfl ?_
    refine D.done [(2, [], _), (3, [], _)] ⟨rfl, rfl, trivial⟩ (hR _ _ _ rfl ?_); clear hR R
    refine G.retN (G.dropAll (G.fin2 rfl rfl rfl ?_))
    rw [if_pos hn, decide_eq_true hn]
    exact ⟨rfl, rfl⟩
theorem of_ref_fn (C : Mem) (hT : Tabs C) (z : Int) (h0 : -9223372036854775808 ≤ z) (h1 : z ≤ 9223372036854775807) : Gives cx.P 116 [.int .i64 z] C (strV (txt z)) := by
  refine Fn.intro (by kernel_rfl) Tryz.func116 rfl 5 rfl rfl (fun w0 => ?_)
  refine G.region rfl (fun R hR => ?_)
  refine D.pure rfl rfl rfl rfl rfl rfl ?_
  refine D.done [(0, [], _)] ⟨rfl, trivial⟩ (hR _ _ _ rfl ?_); clear hR R
  refine G.region rfl (fun R hR => ?_)
  refine D.pure rfl rfl rfl rfl rfl rfl ?_
  refine D.gives2 (itoaZ_g _ hT z h0 h1) rfl rfl rfl rfl rfl rfl rfl (fun _ => rfl) ?_
  refine D.pure rfl rfl rfl rfl rfl rfl ?_
  refine D.done [(2, [], _)] ⟨rfl, trivial⟩ (hR _ _ _ rfl ?_); clear hR R
  refine G.retN (G.dropAll (G.fin1 rfl rfl ?_))
  exact ⟨rfl, rfl⟩
theorem sign_ref_fn (C : Mem) (z : Int) : Gives cx.P 89 [strV (txt z)] C (.int .i64 (if z < 0 then -1 else if z = 0 then 0 else 1)) := by
  refine Fn.intro (by kernel_rfl) Tryz.func89 rfl 13 rfl rfl (fun w0 => ?_)
  refine G.region rfl (fun R hR => ?_)
  refine D.pure rfl rfl rfl rfl rfl rfl ?_
  refine D.done [(0, [], _)] ⟨rfl, trivial⟩ (hR _ _ _ rfl ?_); clear hR R
  refine G.region rfl (fun R hR => ?_)
  refine D.pure rfl rfl rfl rfl rfl rfl ?_
  refine D.gives2 (split_txt C z) rfl rfl rfl rfl rfl rfl rfl (fun _ => rfl) ?_
  iterate 5 refine D.pure rfl rfl rfl rfl rfl rfl ?_
  refine D.done [(0, [], _), (3, [], _)] ⟨rfl, rfl, trivial⟩ (hR _ _ _ rfl ?_); clear hR R
  refine G.region rfl (fun R hR => ?_)
  refine D.pure rfl rfl rfl rfl rfl rfl ?_
  refine D.done [(0, [], _), (10, [], _)] ⟨rfl, rfl, trivial⟩ (hR _ _ _ rfl ?_); clear hR R
  refine G.cond rfl (fun h10 => ?_) (fun h10 => ?_)
  · skip
    have hz : z < 0 := by simpa using h10
    refine G.region rfl (fun R hR => ?_)
    refine D.pure rfl rfl rfl rfl rfl rfl ?_
    refine D.done [(2, [], _)] ⟨rfl, trivial⟩ (hR _ _ _ rfl ?_); clear hR R
    refine G.retN (G.dropAll (G.fin1 rfl rfl ?_))
    rw [if_pos hz]
    exact ⟨rfl, rfl⟩
  · skip
    have hz : ¬ z < 0 := by simpa using h10
    rw [if_neg hz]
    refine G.region rfl (fun R hR => ?_)
    iterate 2 refine D.pure rfl rfl rfl rfl rfl rfl ?_
    refine D.done [(12, [], _)] ⟨rfl, trivial⟩ (hR _ _ _ rfl ?_); clear hR R
    refine G.cond rfl (fun h12 => ?_) (fun h12 => ?_)
    · skip
      rw [txtEq0] at h12
      have hz0 : z = 0 := by simpa using h12
      refine G.region rfl (fun R hR => ?_)
      refine D.pure rfl rfl rfl rfl rfl rfl ?_
      refine D.done [(2, [], _)] ⟨rfl, trivial⟩ (hR _ _ _ rfl ?_); clear hR R
      refine G.retN (G.dropAll (G.fin1 rfl rfl ?_))
      rw [if_pos hz0]
      exact ⟨rfl, rfl⟩
    · skip
      rw [txtEq0] at h12
      have hz0 : ¬ z = 0 := by simpa using h12
      refine G.region rfl (fun R hR => ?_)
      refine D.pure rfl rfl rfl rfl rfl rfl ?_
      refine D.done [(2, [], _)] ⟨rfl, trivial⟩ (hR _ _ _ rfl ?_); clear hR R
      refine G.retN (G.dropAll (G.fin1 rfl rfl ?_))
      rw [if_neg hz0]
      exact ⟨rfl, rfl⟩
theorem neg_ref_fn (C : Mem) (z : Int) (hl : (decS z.natAbs).length ≤ 1000000) : Gives cx.P 114 [strV (txt z)] C (strV (txt (-z))) := by
  refine Fn.intro (by kernel_rfl) Tryz.func114 rfl 18 rfl rfl (fun w0 => ?_)
  refine G.region rfl (fun R hR => ?_)
  refine D.pure rfl rfl rfl rfl rfl rfl ?_
  refine D.done [(0, [], _)] ⟨rfl, trivial⟩ (hR _ _ _ rfl ?_); clear hR R
  refine G.region rfl (fun R hR => ?_)
  refine D.pure rfl rfl rfl rfl rfl rfl ?_
  refine D.gives2 (split_txt C z) rfl rfl rfl rfl rfl rfl rfl (fun _ => rfl) ?_
  iterate 5 refine D.pure rfl rfl rfl rfl rfl rfl ?_
  refine D.done [(0, [], _), (3, [], _), (4, [], _)] ⟨rfl, rfl, rfl, trivial⟩ (hR _ _ _ rfl ?_); clear hR R
  refine G.region rfl (fun R hR => ?_)
  iterate 4 refine D.pure rfl rfl rfl rfl rfl rfl ?_
  refine D.pickOr rfl rfl rfl rfl rfl rfl rfl rfl ?_
  refine D.done [(4, [], _), (14, [], _)] ⟨rfl, rfl, trivial⟩ (hR _ _ _ rfl ?_); clear hR R
  refine G.cond rfl (fun h14 => ?_) (fun h14 => ?_)
  · skip
    rw [txtEq0] at h14
    have hz : z ≤ 0 := by simp at h14; omega
    refine G.region rfl (fun R hR => ?_)
    iterate 2 refine D.pure rfl rfl rfl rfl rfl rfl ?_
    refine D.done [(2, [], _)] ⟨rfl, trivial⟩ (hR _ _ _ rfl ?_); clear hR R
    refine G.retN (G.dropAll (G.fin1 rfl rfl ?_))
    refine ⟨?_, rfl⟩
    rw [show txt (-z) = decS z.natAbs by rw [show -z = ((z.natAbs : Nat) : Int) by omega, txt_nat]]
  · skip
    rw [txtEq0] at h14
    have hz : 0 < z := by simp at h14; omega
    refine G.region rfl (fun R hR => ?_)
    refine D.pure rfl rfl rfl rfl rfl rfl ?_
    refine D.concat rfl rfl rfl rfl rfl rfl (fun _ => (by simp only [List.length_append, List.length_cons, List.length_nil]; omega)) rfl rfl ?_
    refine D.pure rfl rfl rfl rfl rfl rfl ?_
    refine D.done [(2, [], _)] ⟨rfl, trivial⟩ (hR _ _ _ rfl ?_); clear hR R
    refine G.retN (G.dropAll (G.fin1 rfl rfl ?_))
    refine ⟨?_, rfl⟩
    rw [show txt (-z) = 45 :: decS z.natAbs by unfold txt; rw [if_pos (by omega)]; congr 2; omega]; rfl
theorem abs_ref_fn (C : Mem) (z : Int) : Gives cx.P 91 [strV (txt z)] C (strV (decS z.natAbs)) := by
  refine Fn.intro (by kernel_rfl) Tryz.func91 rfl 11 rfl rfl (fun w0 => ?_)
  refine G.region rfl (fun R hR => ?_)
  refine D.pure rfl rfl rfl rfl rfl rfl ?_
  refine D.done [(0, [], _)] ⟨rfl, trivial⟩ (hR _ _ _ rfl ?_); clear hR R
  refine G.region rfl (fun R hR => ?_)
  refine D.pure rfl rfl rfl rfl rfl rfl ?_
  refine D.gives2 (split_txt C z) rfl rfl rfl rfl rfl rfl rfl (fun _ => rfl) ?_
  iterate 5 refine D.pure rfl rfl rfl rfl rfl rfl ?_
  refine D.done [(4, [], _)] ⟨rfl, trivial⟩ (hR _ _ _ rfl ?_); clear hR R
  refine G.region rfl (fun R hR => ?_)
  iterate 2 refine D.pure rfl rfl rfl rfl rfl rfl ?_
  refine D.done [(2, [], _)] ⟨rfl, trivial⟩ (hR _ _ _ rfl ?_); clear hR R
  refine G.retN (G.dropAll (G.fin1 rfl rfl ?_))
  exact ⟨rfl, rfl⟩
end Go.Proofs.YtfelabnohopfdaaGreatDoor
namespace Go.Proofs.YtfelabnohopfdaaGreatDoor
open Go Go.Jog
set_option maxRecDepth 100000

theorem BP200 : BP ^ 200 = 10 ^ 800 := by decide +kernel
theorem decS_short {n : Nat} (h : n < BP ^ 200) : (decS n).length ≤ 800 := decS_len (by rw [← BP200]; exact h) (by omega)
theorem PieC.take {D : Mem} {u : Value} {n : Nat} (h : PieC D u n) (hn : n < BP ^ 201) : ∃ l, CanP l ∧ valP l = n ∧ l.length ≤ 201 ∧ Sl D 1 u (l.map encN) := by
  obtain ⟨l, h1, h2, h3⟩ := h
  exact ⟨l, h1, h2, canP_short h1 (by rw [h2]; exact hn), h3⟩
theorem takeN_fn (C : Mem) (n : Nat) (h : n < BP ^ 200) : Pur cx.P 118 [strV (decS n)] C fun u D => ∃ l, CanP l ∧ valP l = n ∧ l.length ≤ 200 ∧ Sl D 1 u (l.map encN) :=
  (take_fn C (decS n) (decS_ok n).1.1 (by have := decS_short h; omega)).mono fun u D _ _ ⟨h0, l, h1, h2, h3⟩ => ⟨h0, l, h1, by rw [h2, (decS_ok n).2], canP_short h1 (by rw [h2, (decS_ok n).2]; exact h), h3⟩
theorem BP_lt : BP ^ 200 + BP ^ 200 < BP ^ 201 := by decide +kernel
theorem brief_lt {z : Int} (h : (decS z.natAbs).length ≤ 17) : z.natAbs < 100000000000000000 := by
  have h1 := decV_lt (decS_ok z.natAbs).1.1
  rw [(decS_ok z.natAbs).2] at h1
  have h2 : 10 ^ (decS z.natAbs).length ≤ 10 ^ 17 := Nat.pow_le_pow_right (by decide) h
  omega
theorem sg_same {z w : Int} (h : decide (z < 0) = decide (w < 0)) : sgZ (decide (z < 0)) (z.natAbs + w.natAbs) = z + w := by
  rw [decide_eq_decide] at h
  unfold sgZ
  by_cases hz : z < 0
  · have := h.1 hz; rw [decide_eq_true hz, if_pos rfl]; omega
  · have : ¬ w < 0 := fun h1 => hz (h.2 h1)
    rw [decide_eq_false hz, if_neg (by simp)]; omega
theorem sg_less {z w : Int} (h : decide (z < 0) ≠ decide (w < 0)) (hl : z.natAbs < w.natAbs) : sgZ (decide (w < 0)) (w.natAbs - z.natAbs) = z + w := by
  rw [ne_eq, decide_eq_decide] at h
  unfold sgZ
  by_cases hw : w < 0
  · have : ¬ z < 0 := fun h1 => h ⟨fun _ => hw, fun _ => h1⟩
    rw [decide_eq_true hw, if_pos rfl]; omega
  · have : z < 0 := Classical.byContradiction fun h1 => h ⟨fun h2 => absurd h2 h1, fun h2 => absurd h2 hw⟩
    rw [decide_eq_false hw, if_neg (by simp)]; omega
theorem sg_more {z w : Int} (h : decide (z < 0) ≠ decide (w < 0)) (hl : ¬ z.natAbs < w.natAbs) : sgZ (decide (z < 0)) (z.natAbs - w.natAbs) = z + w := by
  rw [ne_eq, decide_eq_decide] at h
  unfold sgZ
  by_cases hz : z < 0
  · have : ¬ w < 0 := fun h1 => h ⟨fun _ => h1, fun _ => hz⟩
    rw [decide_eq_true hz, if_pos rfl]; omega
  · have : w < 0 := Classical.byContradiction fun h1 => h ⟨fun h2 => absurd h2 hz, fun h2 => absurd h2 h1⟩
    rw [decide_eq_false hz, if_neg (by simp)]; omega
set_option maxHeartbeats 2000000 in
theorem add_ref_fn (C : Mem) (hT : Tabs C) (z w : Int) (hz : z.natAbs < BP ^ 200) (hw : w.natAbs < BP ^ 200) : Gives cx.P 113 [strV (txt z), strV (txt w)] C (strV (txt (z + w))) := by
  have hBl := BP_lt
  refine Fn.intro (by kernel_rfl) Tryz.func113 rfl 70 rfl rfl (fun w0 => ?_)
  refine G.region rfl (fun R hR => ?_)
  refine D.pure rfl rfl rfl rfl rfl rfl ?_
  refine D.done [(0, [], _), (1, [], _)] ⟨rfl, rfl, trivial⟩ (hR _ _ _ rfl ?_); clear hR R
  refine G.region rfl (fun R hR => ?_)
  refine D.pure rfl rfl rfl rfl rfl rfl ?_
  refine D.gives2 (brief_fn C z) rfl rfl rfl rfl rfl rfl rfl (fun _ => rfl) ?_
  iterate 5 refine D.pure rfl rfl rfl rfl rfl rfl ?_
  refine D.done [(0, [], _), (1, [], _), (5, [], _), (6, [], _)] ⟨rfl, rfl, rfl, rfl, trivial⟩ (hR _ _ _ rfl ?_); clear hR R
  refine G.region rfl (fun R hR => ?_)
  refine D.pure rfl rfl rfl rfl rfl rfl ?_
  refine D.gives2 (brief_fn _ w) rfl rfl rfl rfl rfl rfl rfl (fun _ => rfl) ?_
  iterate 5 refine D.pure rfl rfl rfl rfl rfl rfl ?_
  refine D.done [(0, [], _), (1, [], _), (5, [], _), (6, [], _), (7, [], _), (8, [], _)] ⟨rfl, rfl, rfl, rfl, rfl, rfl, trivial⟩ (hR _ _ _ rfl ?_); clear hR R
  refine G.region rfl (fun R hR => ?_)
  iterate 3 refine D.pure rfl rfl rfl rfl rfl rfl ?_
  refine D.pickAnd rfl rfl rfl rfl rfl rfl rfl rfl ?_
  refine D.done [(0, [], _), (1, [], _), (5, [], _), (7, [], _), (28, [], _)] ⟨rfl, rfl, rfl, rfl, rfl, trivial⟩ (hR _ _ _ rfl ?_); clear hR R
  refine G.cond rfl (fun h28 => ?_) (fun h28 => ?_)
  · skip
    have hb : (decS z.natAbs).length ≤ 17 ∧ (decS w.natAbs).length ≤ 17 := by simpa using h28
    have hb1 := brief_lt hb.1
    have hb2 := brief_lt hb.2
    rw [if_pos hb.1, if_pos hb.2]
    refine G.region rfl (fun R hR => ?_)
    iterate 2 refine D.pure rfl rfl rfl rfl rfl rfl ?_
    refine D.i64 _ rfl rfl rfl rfl rfl (by omega) (by omega) rfl rfl ?_
    refine D.gives2 (of_ref_fn _ hT (z + w) (by omega) (by omega)) rfl rfl rfl rfl rfl rfl rfl (fun _ => rfl) ?_
    refine D.pure rfl rfl rfl rfl rfl rfl ?_
    refine D.done [(4, [], _)] ⟨rfl, trivial⟩ (hR _ _ _ rfl ?_); clear hR R
    refine G.retN (G.dropAll (G.fin1 rfl rfl ?_))
    exact ⟨rfl, rfl⟩
  · skip
    refine G.region rfl (fun R hR => ?_)
    refine D.pure rfl rfl rfl rfl rfl rfl ?_
    refine D.gives2 (split_txt _ z) rfl rfl rfl rfl rfl rfl rfl (fun _ => rfl) ?_
    iterate 5 refine D.pure rfl rfl rfl rfl rfl rfl ?_
    refine D.done [(1, [], _), (9, [], _), (10, [], _)] ⟨rfl, rfl, rfl, trivial⟩ (hR _ _ _ rfl ?_); clear hR R
    refine G.region rfl (fun R hR => ?_)
    refine D.pure rfl rfl rfl rfl rfl rfl ?_
    refine D.gives2 (split_txt _ w) rfl rfl rfl rfl rfl rfl rfl (fun _ => rfl) ?_
    iterate 5 refine D.pure rfl rfl rfl rfl rfl rfl ?_
    refine D.done [(9, [], _), (10, [], _), (11, [], _), (12, [], _)] ⟨rfl, rfl, rfl, rfl, trivial⟩ (hR _ _ _ rfl ?_); clear hR R
    refine G.region rfl (fun R hR => ?_)
    refine D.pure rfl rfl rfl rfl rfl rfl ?_
    refine D.callP (takeN_fn _ z.natAbs hz) rfl rfl rfl rfl rfl rfl rfl (fun _ => rfl) (fun v44 C44 hle44 hq44 => ?_)
    obtain ⟨lp, hcp, hvp, hlp, hsp⟩ := hq44
    refine D.pure rfl rfl rfl rfl rfl rfl ?_
    refine D.callP (takeN_fn _ w.natAbs hw) rfl rfl rfl rfl rfl rfl rfl (fun _ => rfl) (fun v46 C46 hle46 hq46 => ?_)
    obtain ⟨lq, hcq, hvq, hlq, hsq⟩ := hq46
    iterate 2 refine D.pure rfl rfl rfl rfl rfl rfl ?_
    refine D.done [(9, [], _), (11, [], _), (13, [], _), (14, [], _)] ⟨rfl, rfl, rfl, rfl, trivial⟩ (hR _ _ _ rfl ?_); clear hR R
    refine G.region rfl (fun R hR => ?_)
    iterate 4 refine D.pure rfl rfl rfl rfl rfl rfl ?_
    refine D.done [(9, [], _), (11, [], _), (13, [], _), (14, [], _), (47, [], _)] ⟨rfl, rfl, rfl, rfl, rfl, trivial⟩ (hR _ _ _ rfl ?_); clear hR R
    refine G.cond rfl (fun h47 => ?_) (fun h47 => ?_)
    · skip
      have hsame : decide (z < 0) = decide (w < 0) := by simpa using h47
      refine G.region rfl (fun R hR => ?_)
      iterate 3 refine D.pure rfl rfl rfl rfl rfl rfl ?_
      refine D.callP (joined_fn _ _ _ lp lq 1 (hsp.mono (by (repeat (first | exact Mem.le.refl _ | assumption | (apply Mem.le.trans; rotate_left; assumption))))) (hsq.mono (by (repeat (first | exact Mem.le.refl _ | assumption | (apply Mem.le.trans; rotate_left; assumption))))) hcp.1 hcq.1 (by omega) (by omega) (by omega) (by omega)) rfl rfl rfl rfl rfl rfl rfl (fun _ => rfl) (fun v54 C54 hle54 hq54 => ?_)
      rw [show ((valP lp : Int) + 1 * (valP lq : Int)).toNat = z.natAbs + w.natAbs by omega] at hq54
      obtain ⟨l3, hc3, hv3, hl3, hs3⟩ := PieC.take hq54 (by omega)
      refine D.gives2 (made_fn _ (hT.mono (by (repeat (first | exact Mem.le.refl _ | assumption | (apply Mem.le.trans; rotate_left; assumption))))) (decide (z < 0)) _ l3 (hs3.mono (by (repeat (first | exact Mem.le.refl _ | assumption | (apply Mem.le.trans; rotate_left; assumption))))) hc3.1 (by omega)) rfl rfl rfl rfl rfl rfl rfl (fun _ => rfl) ?_
      refine D.pure rfl rfl rfl rfl rfl rfl ?_
      refine D.done [(4, [], _)] ⟨rfl, trivial⟩ (hR _ _ _ rfl ?_); clear hR R
      refine G.retN (G.dropAll (G.fin1 rfl rfl ?_))
      refine ⟨?_, rfl⟩
      rw [hv3, sg_same hsame]
    · skip
      have hsame : decide (z < 0) ≠ decide (w < 0) := by simpa using h47
      refine G.region rfl (fun R hR => ?_)
      iterate 2 refine D.pure rfl rfl rfl rfl rfl rfl ?_
      refine D.gives2 (pless_fn _ _ _ lp lq (hsp.mono (by (repeat (first | exact Mem.le.refl _ | assumption | (apply Mem.le.trans; rotate_left; assumption))))) (hsq.mono (by (repeat (first | exact Mem.le.refl _ | assumption | (apply Mem.le.trans; rotate_left; assumption))))) hcp hcq) rfl rfl rfl rfl rfl rfl rfl (fun _ => rfl) ?_
      refine D.pure rfl rfl rfl rfl rfl rfl ?_
      refine D.done [(9, [], _), (11, [], _), (13, [], _), (14, [], _), (56, [], _)] ⟨rfl, rfl, rfl, rfl, rfl, trivial⟩ (hR _ _ _ rfl ?_); clear hR R
      refine G.cond rfl (fun h56 => ?_) (fun h56 => ?_)
      · skip
        have hlt : z.natAbs < w.natAbs := by
          have : valP lp < valP lq := by simpa using h56
          omega
        refine G.region rfl (fun R hR => ?_)
        iterate 3 refine D.pure rfl rfl rfl rfl rfl rfl ?_
        refine D.callP (joined_fn _ _ _ lq lp (-1) (hsq.mono (by (repeat (first | exact Mem.le.refl _ | assumption | (apply Mem.le.trans; rotate_left; assumption))))) (hsp.mono (by (repeat (first | exact Mem.le.refl _ | assumption | (apply Mem.le.trans; rotate_left; assumption))))) hcq.1 hcp.1 (by omega) (by omega) (by omega) (by omega)) rfl rfl rfl rfl rfl rfl rfl (fun _ => rfl) (fun v63 C63 hle63 hq63 => ?_)
        rw [show ((valP lq : Int) + -1 * (valP lp : Int)).toNat = w.natAbs - z.natAbs by omega] at hq63
        obtain ⟨l3, hc3, hv3, hl3, hs3⟩ := PieC.take hq63 (by omega)
        refine D.gives2 (made_fn _ (hT.mono (by (repeat (first | exact Mem.le.refl _ | assumption | (apply Mem.le.trans; rotate_left; assumption))))) (decide (w < 0)) _ l3 (hs3.mono (by (repeat (first | exact Mem.le.refl _ | assumption | (apply Mem.le.trans; rotate_left; assumption))))) hc3.1 (by omega)) rfl rfl rfl rfl rfl rfl rfl (fun _ => rfl) ?_
        refine D.pure rfl rfl rfl rfl rfl rfl ?_
        refine D.done [(4, [], _)] ⟨rfl, trivial⟩ (hR _ _ _ rfl ?_); clear hR R
        refine G.retN (G.dropAll (G.fin1 rfl rfl ?_))
        refine ⟨?_, rfl⟩
        rw [hv3, sg_less hsame hlt]
      · skip
        have hlt : ¬ z.natAbs < w.natAbs := by
          have : ¬ valP lp < valP lq := by simpa using h56
          omega
        refine G.region rfl (fun R hR => ?_)
        iterate 3 refine D.pure rfl rfl rfl rfl rfl rfl ?_
        refine D.callP (joined_fn _ _ _ lp lq (-1) (hsp.mono (by (repeat (first | exact Mem.le.refl _ | assumption | (apply Mem.le.trans; rotate_left; assumption))))) (hsq.mono (by (repeat (first | exact Mem.le.refl _ | assumption | (apply Mem.le.trans; rotate_left; assumption))))) hcp.1 hcq.1 (by omega) (by omega) (by omega) (by omega)) rfl rfl rfl rfl rfl rfl rfl (fun _ => rfl) (fun v68 C68 hle68 hq68 => ?_)
        rw [show ((valP lp : Int) + -1 * (valP lq : Int)).toNat = z.natAbs - w.natAbs by omega] at hq68
        obtain ⟨l3, hc3, hv3, hl3, hs3⟩ := PieC.take hq68 (by omega)
        refine D.gives2 (made_fn _ (hT.mono (by (repeat (first | exact Mem.le.refl _ | assumption | (apply Mem.le.trans; rotate_left; assumption))))) (decide (z < 0)) _ l3 (hs3.mono (by (repeat (first | exact Mem.le.refl _ | assumption | (apply Mem.le.trans; rotate_left; assumption))))) hc3.1 (by omega)) rfl rfl rfl rfl rfl rfl rfl (fun _ => rfl) ?_
        refine D.pure rfl rfl rfl rfl rfl rfl ?_
        refine D.done [(4, [], _)] ⟨rfl, trivial⟩ (hR _ _ _ rfl ?_); clear hR R
        refine G.retN (G.dropAll (G.fin1 rfl rfl ?_))
        refine ⟨?_, rfl⟩
        rw [hv3, sg_more hsame hlt]
theorem sub_ref_fn (C : Mem) (hT : Tabs C) (z w : Int) (hz : z.natAbs < BP ^ 200) (hw : w.natAbs < BP ^ 200) : Gives cx.P 90 [strV (txt z), strV (txt w)] C (strV (txt (z - w))) := by
  refine Fn.intro (by kernel_rfl) Tryz.func90 rfl 9 rfl rfl (fun w0 => ?_)
  refine G.region rfl (fun R hR => ?_)
  refine D.pure rfl rfl rfl rfl rfl rfl ?_
  refine D.done [(0, [], _), (1, [], _)] ⟨rfl, rfl, trivial⟩ (hR _ _ _ rfl ?_); clear hR R
  refine G.region rfl (fun R hR => ?_)
  iterate 2 refine D.pure rfl rfl rfl rfl rfl rfl ?_
  refine D.gives2 (neg_ref_fn _ w (by have := decS_short hw; omega)) rfl rfl rfl rfl rfl rfl rfl (fun _ => rfl) ?_
  refine D.gives2 (add_ref_fn _ hT z (-w) hz (by rw [Int.natAbs_neg]; exact hw)) rfl rfl rfl rfl rfl rfl rfl (fun _ => rfl) ?_
  refine D.pure rfl rfl rfl rfl rfl rfl ?_
  refine D.done [(4, [], _)] ⟨rfl, trivial⟩ (hR _ _ _ rfl ?_); clear hR R
  refine G.retN (G.dropAll (G.fin1 rfl rfl ?_))
  exact ⟨rfl, rfl⟩
theorem compare_ref_fn (C : Mem) (hT : Tabs C) (z w : Int) (hz : z.natAbs < BP ^ 200) (hw : w.natAbs < BP ^ 200) : Gives cx.P 48 [strV (txt z), strV (txt w)] C (.int .i64 (if z - w < 0 then -1 else if z - w = 0 then 0 else 1)) := by
  refine Fn.intro (by kernel_rfl) Tryz.func48 rfl 9 rfl rfl (fun w0 => ?_)
  refine G.region rfl (fun R hR => ?_)
  refine D.pure rfl rfl rfl rfl rfl rfl ?_
  refine D.done [(0, [], _), (1, [], _)] ⟨rfl, rfl, trivial⟩ (hR _ _ _ rfl ?_); clear hR R
  refine G.region rfl (fun R hR => ?_)
  iterate 2 refine D.pure rfl rfl rfl rfl rfl rfl ?_
  refine D.gives2 (sub_ref_fn _ hT z w hz hw) rfl rfl rfl rfl rfl rfl rfl (fun _ => rfl) ?_
  refine D.gives2 (sign_ref_fn _ (z - w)) rfl rfl rfl rfl rfl rfl rfl (fun _ => rfl) ?_
  refine D.pure rfl rfl rfl rfl rfl rfl ?_
  refine D.done [(4, [], _)] ⟨rfl, trivial⟩ (hR _ _ _ rfl ?_); clear hR R
  refine G.retN (G.dropAll (G.fin1 rfl rfl ?_))
  exact ⟨rfl, rfl⟩
end Go.Proofs.YtfelabnohopfdaaGreatDoor
namespace Go.Proofs.YtfelabnohopfdaaGreatDoor
open Go Go.Jog
set_option maxRecDepth 100000

theorem split_dec (C : Mem) (n : Nat) : Gives cx.P 86 [strV (decS n)] C (.tuple #[.bool false, strV (decS n)]) := by
  have h := split_txt C (n : Int)
  rw [txt_nat, decide_eq_false (by omega)] at h
  exact h
theorem brief_dec (C : Mem) (n : Nat) : Gives cx.P 115 [strV (decS n)] C (.tuple #[.int .i64 (if (decS n).length ≤ 17 then (n : Int) else 0), .bool (decide ((decS n).length ≤ 17))]) := by
  have h := brief_fn C (n : Int)
  rw [txt_nat] at h
  exact h
theorem briefN_lt {n : Nat} (h : (decS n).length ≤ 17) : n < 100000000000000000 := brief_lt (z := (n : Int)) h
theorem of_dec (C : Mem) (hT : Tabs C) (n : Nat) (h : n ≤ 9223372036854775807) : Gives cx.P 116 [.int .i64 n] C (strV (decS n)) := by
  have h := of_ref_fn C hT (n : Int) (by omega) (by omega)
  rwa [txt_nat] at h
theorem made_dec (C : Mem) (hT : Tabs C) (v : Value) (l : List Nat) (hv : Sl C 1 v (l.map encN)) (hd : DigP l) (hl : l.length ≤ 100000) : Gives cx.P 120 [.bool false, v] C (strV (decS (valP l))) := by
  have h := made_fn C hT false v l hv hd hl
  rw [show sgZ false (valP l) = ((valP l : Nat) : Int) from rfl, txt_nat] at h
  exact h
theorem wrapN {q : Nat} (h : q ≤ 9223372036854775807) : IntKind.i64.wrap ((q : Nat) : Int) = (q : Nat) := by rw [IntKind.wrap_i64]; omega
set_option maxHeartbeats 2000000 in
theorem divmod_ref_fn (C : Mem) (hT : Tabs C) (a b : Nat) (ha : a < BP ^ 200) (hb : b < BP ^ 200) (hb0 : 0 < b) : Gives cx.P 92 [strV (decS a), strV (decS b)] C (.tuple #[strV (decS (a / b)), strV (decS (a % b))]) := by
  have hBl := BP_lt
  refine Fn.intro (by kernel_rfl) Tryz.func92 rfl 93 rfl rfl (fun w0 => ?_)
  refine G.region rfl (fun R hR => ?_)
  iterate 2 refine D.pure rfl rfl rfl rfl rfl rfl ?_
  refine D.done [(0, [], _), (1, [], _)] ⟨rfl, rfl, trivial⟩ (hR _ _ _ rfl ?_); clear hR R
  refine G.region rfl (fun R hR => ?_)
  refine D.pure rfl rfl rfl rfl rfl rfl ?_
  refine D.gives2 (brief_dec C a) rfl rfl rfl rfl rfl rfl rfl (fun _ => rfl) ?_
  iterate 5 refine D.pure rfl rfl rfl rfl rfl rfl ?_
  refine D.done [(0, [], _), (1, [], _), (6, [], _), (7, [], _)] ⟨rfl, rfl, rfl, rfl, trivial⟩ (hR _ _ _ rfl ?_); clear hR R
  refine G.region rfl (fun R hR => ?_)
  refine D.pure rfl rfl rfl rfl rfl rfl ?_
  refine D.gives2 (brief_dec _ b) rfl rfl rfl rfl rfl rfl rfl (fun _ => rfl) ?_
  iterate 5 refine D.pure rfl rfl rfl rfl rfl rfl ?_
  refine D.done [(0, [], _), (1, [], _), (6, [], _), (7, [], _), (8, [], _), (9, [], _)] ⟨rfl, rfl, rfl, rfl, rfl, rfl, trivial⟩ (hR _ _ _ rfl ?_); clear hR R
  refine G.region rfl (fun R hR => ?_)
  iterate 3 refine D.pure rfl rfl rfl rfl rfl rfl ?_
  refine D.pickAnd rfl rfl rfl rfl rfl rfl rfl rfl ?_
  refine D.done [(0, [], _), (1, [], _), (6, [], _), (8, [], _), (31, [], _)] ⟨rfl, rfl, rfl, rfl, rfl, trivial⟩ (hR _ _ _ rfl ?_); clear hR R
  refine G.cond rfl (fun h31 => ?_) (fun h31 => ?_)
  · skip
    have hs : (decS a).length ≤ 17 ∧ (decS b).length ≤ 17 := by simpa using h31
    have h1 := briefN_lt hs.1
    have h2 := briefN_lt hs.2
    rw [if_pos hs.1, if_pos hs.2]
    have h0 := Nat.div_le_self a b
    refine G.draw [0, 1, 2, 3, 4, 5, 6, 7] [] rfl (by kernel_rfl) (fun R hB hR => ?_)
    iterate 2 refine D.pure rfl rfl rfl rfl rfl rfl ?_
    refine D.quoT (((a / b : Nat) : Int)) rfl rfl rfl rfl rfl rfl (by omega) (by rw [Int.tdiv_eq_ediv_of_nonneg (by omega)]; rfl) (wrapN (by omega)) rfl rfl ?_
    iterate 2 refine D.pure rfl rfl rfl rfl rfl rfl ?_
    refine D.rem rfl rfl rfl rfl rfl rfl (by omega) (by omega) rfl rfl ?_
    iterate 2 refine D.pure rfl rfl rfl rfl rfl rfl ?_
    refine D.done [(6, [], _), (8, [], _), (10, [], _), (11, [], _)] ⟨rfl, rfl, rfl, rfl, trivial⟩ (hR _ _ _ rfl ?_); clear hR hB R
    refine G.region rfl (fun R hR => ?_)
    iterate 2 refine D.pure rfl rfl rfl rfl rfl rfl ?_
    refine D.done [(6, [], _), (8, [], _), (10, [], _), (11, [], _), (39, [], _)] ⟨rfl, rfl, rfl, rfl, rfl, trivial⟩ (hR _ _ _ rfl ?_); clear hR R
    refine G.cond rfl (fun h39 => ?_) (fun h39 => ?_)
    · skip
      exfalso
      have h3 := Int.emod_nonneg (a : Int) (show (b : Int) ≠ 0 by omega)
      simp only [decide_eq_true_eq] at h39
      omega
    · skip
      rw [← Int.natCast_emod]
      have h3 := Nat.div_le_self a b
      have h4 := Nat.mod_lt a hb0
      refine G.region rfl (fun R hR => ?_)
      refine D.pure rfl rfl rfl rfl rfl rfl ?_
      refine D.gives2 (of_dec _ hT (a / b) (by omega)) rfl rfl rfl rfl rfl rfl rfl (fun _ => rfl) ?_
      refine D.pure rfl rfl rfl rfl rfl rfl ?_
      refine D.gives2 (of_dec _ hT (a % b) (by omega)) rfl rfl rfl rfl rfl rfl rfl (fun _ => rfl) ?_
      iterate 2 refine D.pure rfl rfl rfl rfl rfl rfl ?_
      refine D.done [(4, [], _), (5, [], _)] ⟨rfl, rfl, trivial⟩ (hR _ _ _ rfl ?_); clear hR R
      refine G.retN (G.dropAll (G.fin2 rfl rfl rfl ?_))
      exact ⟨rfl, rfl⟩
  · skip
    refine G.region rfl (fun R hR => ?_)
    refine D.pure rfl rfl rfl rfl rfl rfl ?_
    refine D.gives2 (split_dec _ a) rfl rfl rfl rfl rfl rfl rfl (fun _ => rfl) ?_
    iterate 5 refine D.pure rfl rfl rfl rfl rfl rfl ?_
    refine D.done [(1, [], _), (12, [], _), (13, [], _)] ⟨rfl, rfl, rfl, trivial⟩ (hR _ _ _ rfl ?_); clear hR R
    refine G.region rfl (fun R hR => ?_)
    refine D.pure rfl rfl rfl rfl rfl rfl ?_
    refine D.gives2 (split_dec _ b) rfl rfl rfl rfl rfl rfl rfl (fun _ => rfl) ?_
    iterate 5 refine D.pure rfl rfl rfl rfl rfl rfl ?_
    refine D.done [(12, [], _), (13, [], _), (14, [], _), (15, [], _)] ⟨rfl, rfl, rfl, rfl, trivial⟩ (hR _ _ _ rfl ?_); clear hR R
    refine G.region rfl (fun R hR => ?_)
    refine D.pure rfl rfl rfl rfl rfl rfl ?_
    refine D.callP (takeN_fn _ a ha) rfl rfl rfl rfl rfl rfl rfl (fun _ => rfl) (fun v67 C67 hle67 hq67 => ?_)
    obtain ⟨lp, hcp, hvp, hlp, hsp⟩ := hq67
    refine D.pure rfl rfl rfl rfl rfl rfl ?_
    refine D.callP (takeN_fn _ b hb) rfl rfl rfl rfl rfl rfl rfl (fun _ => rfl) (fun v69 C69 hle69 hq69 => ?_)
    obtain ⟨lq, hcq, hvq, hlq, hsq⟩ := hq69
    refine D.callP (parts_fn _ _ _ lp lq (hsp.mono (by (repeat (first | exact Mem.le.refl _ | assumption | (apply Mem.le.trans; rotate_left; assumption))))) (hsq.mono (by (repeat (first | exact Mem.le.refl _ | assumption | (apply Mem.le.trans; rotate_left; assumption))))) hcp.1 hcq (by omega) (by omega) (by omega)) rfl rfl rfl rfl rfl rfl rfl (fun _ => rfl) (fun v70 C70 hle70 hq70 => ?_)
    obtain ⟨u1, u2, rfl, hu1, hu2⟩ := hq70
    rw [hvp, hvq] at hu1 hu2
    obtain ⟨l1, hc1, hv1, hl1, hs1⟩ := PieC.take hu1 (by have := Nat.div_le_self a b; omega)
    obtain ⟨l2, hc2, hv2, hl2, hs2⟩ := PieC.take hu2 (by have := Nat.mod_lt a hb0; omega)
    obtain ⟨A2, c2, rfl, _⟩ := id hs2
    iterate 5 refine D.pure rfl rfl rfl rfl rfl rfl ?_
    refine D.done [(12, [], _), (14, [], _), (15, [], _), (16, [], _), (17, [], _)] ⟨rfl, rfl, rfl, rfl, rfl, trivial⟩ (hR _ _ _ rfl ?_); clear hR R
    refine G.region rfl (fun R hR => ?_)
    iterate 5 refine D.pure rfl rfl rfl rfl rfl rfl ?_
    refine D.pickAnd rfl rfl rfl rfl rfl rfl rfl rfl ?_
    refine D.done [(12, [], _), (14, [], _), (15, [], _), (16, [], _), (17, [], _), (78, [], _)] ⟨rfl, rfl, rfl, rfl, rfl, rfl, trivial⟩ (hR _ _ _ rfl ?_); clear hR R
    refine G.cond rfl (fun h78 => ?_) (fun h78 => ?_)
    · skip
      exfalso
      simp at h78
    · skip
      refine G.region rfl (fun R hR => ?_)
      iterate 4 refine D.pure rfl rfl rfl rfl rfl rfl ?_
      refine D.gives2 (made_dec _ (hT.mono (by (repeat (first | exact Mem.le.refl _ | assumption | (apply Mem.le.trans; rotate_left; assumption))))) _ l1 (hs1.mono (by (repeat (first | exact Mem.le.refl _ | assumption | (apply Mem.le.trans; rotate_left; assumption))))) hc1.1 (by omega)) rfl rfl rfl rfl rfl rfl rfl (fun _ => rfl) ?_
      refine D.pure rfl rfl rfl rfl rfl rfl ?_
      refine D.gives2 (made_dec _ (hT.mono (by (repeat (first | exact Mem.le.refl _ | assumption | (apply Mem.le.trans; rotate_left; assumption))))) _ l2 (hs2.mono (by (repeat (first | exact Mem.le.refl _ | assumption | (apply Mem.le.trans; rotate_left; assumption))))) hc2.1 (by omega)) rfl rfl rfl rfl rfl rfl rfl (fun _ => rfl) ?_
      iterate 2 refine D.pure rfl rfl rfl rfl rfl rfl ?_
      refine D.done [(4, [], _), (5, [], _)] ⟨rfl, rfl, trivial⟩ (hR _ _ _ rfl ?_); clear hR R
      refine G.retN (G.dropAll (G.fin2 rfl rfl rfl ?_))
      rw [hv1, hv2]
      exact ⟨rfl, rfl⟩
theorem decEq0 (n : Nat) : ((⟨(decS n).toArray⟩ : ByteArray).data.toList == (⟨#[48]⟩ : ByteArray).data.toList) = decide (n = 0) := by
  have h := txtEq0 (n : Int)
  rw [txt_nat] at h
  rw [h, decide_eq_decide]; omega
set_option maxHeartbeats 1000000 in
theorem gcd_ref_fn (C : Mem) (hT : Tabs C) (z w : Int) (hz : z.natAbs < BP ^ 200) (hw : w.natAbs < BP ^ 200) : Gives cx.P 49 [strV (txt z), strV (txt w)] C (strV (decS (Nat.gcd z.natAbs w.natAbs))) := by
  refine Fn.intro (by kernel_rfl) Tryz.func49 rfl 22 rfl rfl (fun w0 => ?_)
  refine G.region rfl (fun R hR => ?_)
  refine D.pure rfl rfl rfl rfl rfl rfl ?_
  refine D.done [(0, [], _), (1, [], _)] ⟨rfl, rfl, trivial⟩ (hR _ _ _ rfl ?_); clear hR R
  refine G.region rfl (fun R hR => ?_)
  refine D.pure rfl rfl rfl rfl rfl rfl ?_
  refine D.gives2 (abs_ref_fn _ z) rfl rfl rfl rfl rfl rfl rfl (fun _ => rfl) ?_
  refine D.pure rfl rfl rfl rfl rfl rfl ?_
  refine D.gives2 (abs_ref_fn _ w) rfl rfl rfl rfl rfl rfl rfl (fun _ => rfl) ?_
  iterate 2 refine D.pure rfl rfl rfl rfl rfl rfl ?_
  refine D.done [(0, [], _), (1, [], _)] ⟨rfl, rfl, trivial⟩ (hR _ _ _ rfl ?_); clear hR R
  refine G.loop (fun fr C' L' μ => ∃ (a b : Nat), (a < BP ^ 200 ∧ b < BP ^ 200 ∧ Nat.gcd a b = Nat.gcd z.natAbs w.natAbs) ∧ fr = [(0, [], strV (decS a)), (1, [], strV (decS b))] ∧ L' = [] ∧ μ = b + 1) (fr' := [(0, [], _), (1, [], _)]) ⟨rfl, rfl, trivial⟩ ⟨z.natAbs, w.natAbs, ⟨hz, hw, rfl⟩, rfl, rfl, rfl⟩ (fun fr C0' L0' m hle0 hI => ?_)
  obtain ⟨a, b, ⟨ha, hb, hg⟩, rfl, rfl, rfl⟩ := hI
  refine G.region rfl (fun R hR => ?_)
  iterate 2 refine D.pure rfl rfl rfl rfl rfl rfl ?_
  refine D.done [(0, [], _), (1, [], _), (12, [], _)] ⟨rfl, rfl, rfl, trivial⟩ (hR _ _ _ rfl ?_); clear hR R
  refine G.cond rfl (fun h12 => ?_) (fun h12 => ?_)
  · skip
    have hb0 : 0 < b := by
      rw [decEq0] at h12
      have : b ≠ 0 := by simpa using h12
      omega
    have hlt := Nat.mod_lt a hb0
    refine G.region rfl (fun R hR => ?_)
    iterate 2 refine D.pure rfl rfl rfl rfl rfl rfl ?_
    refine D.gives2 (divmod_ref_fn _ (hT.mono (by (repeat (first | exact Mem.le.refl _ | assumption | (apply Mem.le.trans; rotate_left; assumption))))) a b ha hb hb0) rfl rfl rfl rfl rfl rfl rfl (fun _ => rfl) ?_
    iterate 5 refine D.pure rfl rfl rfl rfl rfl rfl ?_
    refine D.done [(1, [], _), (6, [], _)] ⟨rfl, rfl, trivial⟩ (hR _ _ _ rfl ?_); clear hR R
    refine G.region rfl (fun R hR => ?_)
    iterate 4 refine D.pure rfl rfl rfl rfl rfl rfl ?_
    refine D.done [(0, [], _), (1, [], _)] ⟨rfl, rfl, trivial⟩ (hR _ _ _ rfl ?_); clear hR R
    refine G.again (m' := a % b + 1) (by omega) (by (repeat (first | exact Mem.le.refl _ | assumption | (apply Mem.le.trans; rotate_left; assumption)))) (fr' := [(0, [], _), (1, [], _)]) ⟨rfl, rfl, trivial⟩ ⟨b, a % b, ⟨hb, by omega, by rw [← hg, euclid a b hb0]⟩, rfl, rfl, rfl⟩
  · skip
    have hb0 : b = 0 := by
      rw [decEq0] at h12
      simpa using h12
    refine G.region rfl (fun R hR => ?_)
    iterate 2 refine D.pure rfl rfl rfl rfl rfl rfl ?_
    refine D.done [(4, [], _)] ⟨rfl, trivial⟩ (hR _ _ _ rfl ?_); clear hR R
    refine G.retN (G.dropAll (G.fin1 rfl rfl ?_))
    refine ⟨?_, rfl⟩
    rw [← hg, hb0, Nat.gcd_zero_right]
/-- The integer of a text. -/
def decZ (s : Str) : Int := sgZ (dropP 45 s).2 (decV (dropP 45 s).1)
theorem canS_zero {t : Str} (h : CanS t) : t.head? = some 48 ↔ decV t = 0 := by
  constructor
  · intro h0
    have h1 := h.2.2 h0
    cases t with
    | nil => cases h0
    | cons b t =>
      have hb : b = 48 := by simpa using h0
      have ht : t = [] := by cases t with
        | nil => rfl
        | cons c t => simp at h1
      subst hb ht; rfl
  · intro h0
    have := canS_unique h (decS_ok 0).1 (by rw [h0, (decS_ok 0).2])
    rw [this, decS]; rfl
theorem canon_iff {s : Str} : canonB s = true ↔ CanS (dropP 45 s).1 ∧ ((dropP 45 s).2 = true → 0 < decV (dropP 45 s).1) := by
  obtain ⟨t, neg, hdp⟩ : ∃ t b, dropP 45 s = (t, b) := ⟨_, _, rfl⟩
  unfold canonB
  rw [hdp]
  simp only [Bool.and_eq_true, Bool.not_eq_true', beq_eq_false_iff_ne, ne_eq, List.all_eq_true, Bool.and_eq_false_imp, beq_iff_eq, Bool.or_eq_false_iff, decide_eq_false_iff_not]
  constructor
  · rintro ⟨⟨h1, h2⟩, h3⟩
    have hc : CanS t := ⟨h1, h2, fun h => by
      have := (h3 h).2
      have : 0 < t.length := List.length_pos_iff.2 h2
      omega⟩
    refine ⟨hc, fun hn => ?_⟩
    rcases Nat.eq_zero_or_pos (decV t) with h | h
    · have := (h3 ((canS_zero hc).2 h)).1
      rw [hn] at this; cases this
    · exact h
  · rintro ⟨hc, h⟩
    refine ⟨⟨hc.1, hc.2.1⟩, fun h0 => ?_⟩
    have h1 := (canS_zero hc).1 h0
    have h2 := hc.2.2 h0
    refine ⟨?_, by omega⟩
    cases hn : neg with
    | false => rfl
    | true => have := h hn; omega
theorem dropP_put (s : Str) : s = if (dropP 45 s).2 then 45 :: (dropP 45 s).1 else (dropP 45 s).1 := by
  unfold dropP
  split
  · rename_i h
    cases s with
    | nil => cases h
    | cons b s =>
      have hb : b = 45 := by simpa using h
      subst hb; rfl
  · rfl
theorem canon_txt {s : Str} (h : canonB s = true) : s = txt (decZ s) := by
  obtain ⟨h1, h2⟩ := canon_iff.1 h
  unfold decZ
  rw [txt_sg _ _ h2, ← canS_dec h1]
  exact dropP_put s
def restOk (zn : Int) : Option Str → Bool
  | none => true
  | some b => decide (1 < decZ b) && !(zn == 0) && (Nat.gcd zn.natAbs (decZ b).natAbs == 1)
/-- What the reference says of a number. -/
def ratOk (s : Str) : Bool := rightI (cut1 47 s).1 && rightI ((cut1 47 s).2.getD [49]) && restOk (decZ (cut1 47 s).1) (cut1 47 s).2
theorem cut1_drop (s : Str) : dropP 45 (cut1 47 s).1 = ((cut1 47 (dropP 45 s).1).1, (dropP 45 s).2) ∧ (cut1 47 s).2 = (cut1 47 (dropP 45 s).1).2 := by
  cases s with
  | nil => exact ⟨rfl, rfl⟩
  | cons b s =>
    by_cases hb : b = 45
    · subst hb
      have e : dropP 45 (45 :: s) = (s, true) := rfl
      have e2 : cut1 47 (45 :: s) = (45 :: (cut1 47 s).1, (cut1 47 s).2) := rfl
      rw [e, e2]; exact ⟨rfl, rfl⟩
    · have e : dropP 45 (b :: s) = (b :: s, false) := by unfold dropP; rw [if_neg (by simp [hb])]
      rw [e]
      refine ⟨?_, rfl⟩
      unfold dropP
      rw [if_neg]
      unfold cut1
      split
      · simp
      · simp [hb]
theorem rightI_iff {s : Str} : rightI s = true ↔ okD (dropP 45 s).1 = true ∧ ((dropP 45 s).2 = true → 0 < decV (dropP 45 s).1) := by
  unfold rightI
  rw [Bool.and_eq_true, canon_iff, okD_can, decide_eq_true_eq]
  constructor
  · rintro ⟨⟨h1, h2⟩, h3⟩; exact ⟨⟨h1, h3⟩, h2⟩
  · rintro ⟨⟨h1, h3⟩, h2⟩; exact ⟨⟨h1, h2⟩, h3⟩
theorem okD_head {s : Str} (h : okD s = true) : dropP 45 s = (s, false) := by
  unfold dropP
  rw [if_neg]
  intro h0
  have h1 := (okD_can.1 h).1.1 45 (List.mem_of_mem_head? h0)
  revert h1; decide
theorem den_iff {b : Str} : rightI b = true ∧ 1 < decZ b ↔ okD b = true ∧ 1 < decV b := by
  constructor
  · rintro ⟨h1, h2⟩
    obtain ⟨h3, _⟩ := rightI_iff.1 h1
    have hn : (dropP 45 b).2 = false := by
      cases hn : (dropP 45 b).2 with
      | false => rfl
      | true => unfold decZ sgZ at h2; rw [hn, if_pos rfl] at h2; omega
    have hb : (dropP 45 b).1 = b := by have := dropP_put b; rw [hn] at this; exact this.symm
    unfold decZ sgZ at h2
    rw [hn, hb] at h2
    rw [hb] at h3
    refine ⟨h3, ?_⟩
    have h4 : (1 : Int) < (decV b : Nat) := by simpa using h2
    omega
  · rintro ⟨h1, h2⟩
    have hd := okD_head h1
    refine ⟨rightI_iff.2 (by rw [hd]; exact ⟨h1, fun h => by cases h⟩), ?_⟩
    unfold decZ sgZ
    rw [hd]
    show (1 : Int) < (decV b : Nat)
    omega
theorem decZ_abs (s : Str) : (decZ s).natAbs = decV (dropP 45 s).1 := by
  unfold decZ sgZ; split <;> omega
theorem ratOk_eq (s : Str) : ratOk s = (readM s).isSome := by
  obtain ⟨hd, he⟩ := cut1_drop s
  rw [Bool.eq_iff_iff]
  unfold ratOk readM
  rw [Bool.and_eq_true, Bool.and_eq_true, he]
  have hr1 : rightI (cut1 47 s).1 = true ↔ (okD (cut1 47 (dropP 45 s).1).1 && !((dropP 45 s).2 && decV (cut1 47 (dropP 45 s).1).1 == 0)) = true := by
    rw [rightI_iff, hd]
    cases (dropP 45 s).2 <;> simp <;> omega
  rw [hr1]
  have hz : (decZ (cut1 47 s).1).natAbs = decV (cut1 47 (dropP 45 s).1).1 := by rw [decZ_abs, hd]
  by_cases h0 : (okD (cut1 47 (dropP 45 s).1).1 && !((dropP 45 s).2 && decV (cut1 47 (dropP 45 s).1).1 == 0)) = true
  · rw [if_pos h0]
    cases hb : (cut1 47 (dropP 45 s).1).2 with
    | none =>
      refine ⟨fun _ => rfl, fun _ => ⟨⟨h0, ?_⟩, rfl⟩⟩
      show rightI [49] = true
      decide
    | some b =>
      unfold restOk
      show (_ ∧ rightI b = true) ∧ _ ↔ _
      have hgd : (decZ (cut1 47 s).1 == 0) = (decV (cut1 47 (dropP 45 s).1).1 == 0) := by
        rw [Bool.eq_iff_iff, beq_iff_eq, beq_iff_eq]; omega
      simp only [hz, hgd, Bool.and_eq_true, decide_eq_true_eq]
      constructor
      · rintro ⟨⟨_, h1⟩, ⟨h2, h3⟩, h4⟩
        obtain ⟨h5, h6⟩ := den_iff.1 ⟨h1, h2⟩
        have hbz : (decZ b).natAbs = decV b := by rw [decZ_abs, okD_head h5]
        rw [hbz] at h4
        rw [if_pos ⟨⟨⟨h5, h6⟩, h3⟩, h4⟩]; rfl
      · intro h
        split at h
        · rename_i h1
          obtain ⟨⟨⟨h5, h6⟩, h3⟩, h4⟩ := h1
          obtain ⟨h7, h8⟩ := den_iff.2 ⟨h5, h6⟩
          have hbz : (decZ b).natAbs = decV b := by rw [decZ_abs, okD_head h5]
          rw [hbz]
          exact ⟨⟨Bool.and_eq_true_iff.1 h0, h7⟩, ⟨h8, h3⟩, h4⟩
        · cases h
  · rw [if_neg h0]
    constructor
    · rintro ⟨⟨h, _⟩, _⟩; exact absurd h h0
    · intro h; cases h
theorem ratOk_len {s : Str} {n : Nat} (h : s.length ≤ n) : (cut1 47 s).1.length ≤ n ∧ ((cut1 47 s).2.getD [49]).length ≤ n + 1 := by
  rcases cut1_cases 47 s with ⟨h1, _⟩ | ⟨pre, post, h1, h2, _⟩
  · rw [h1]; exact ⟨h, by simp⟩
  · have e := congrArg List.length h2
    rw [List.length_append, List.length_cons] at e
    rw [h1]
    simp only [Option.getD_some]
    omega
theorem right_val {s : Str} (h : rightI s = true) : s = txt (decZ s) ∧ (decZ s).natAbs < BP ^ 200 := by
  have h1 := rightI_iff.1 h
  refine ⟨canon_txt (by unfold rightI at h; exact (Bool.and_eq_true_iff.1 h).1), ?_⟩
  rw [decZ_abs]
  have h2 := okD_can.1 h1.1
  have h3 := decV_lt h2.1.1
  have h4 : ∀ M, (dropP 45 s).1.length ≤ M → 10 ^ (dropP 45 s).1.length ≤ 10 ^ M := fun M h => Nat.pow_le_pow_right (by decide) h
  rw [BP200]; exact Nat.lt_of_lt_of_le h3 (h4 800 (by omega))
theorem one_val : ([49] : Str) = txt 1 := by
  unfold txt
  rw [if_neg (by omega), show decS (1 : Int).natAbs = decS 1 from rfl, decS]; rfl
theorem one_lt : (1 : Int).natAbs < BP ^ 200 := by decide +kernel
theorem decEq1 (n : Nat) : ((⟨(decS n).toArray⟩ : ByteArray).data.toList == (⟨#[49]⟩ : ByteArray).data.toList) = (n == 1) := by
  show (decS n == [49]) = _
  rw [eqStr, Bool.eq_iff_iff, decide_eq_true_eq, beq_iff_eq]
  constructor
  · intro h
    have h2 := (decS_ok n).2
    rw [h] at h2
    exact h2.symm
  · rintro rfl
    rw [decS]; rfl
set_option maxHeartbeats 1000000 in
theorem right2_fn (C : Mem) (hT : Tabs C) (s : Str) (hl : s.length ≤ 999998) : Gives cx.P 19 [strV s] C (.bool (ratOk s)) := by
  have hls := ratOk_len hl
  obtain ⟨num, bo, hct⟩ : ∃ a b, cut1 47 s = (a, b) := ⟨_, _, rfl⟩
  have hM : ratOk s = (rightI num && rightI (bo.getD [49]) && restOk (decZ num) bo) := by
    unfold ratOk; rw [hct]
  rw [hct] at hls
  simp only at hls
  refine Fn.intro (by kernel_rfl) Tryz.func19 rfl 34 rfl rfl (fun w0 => ?_)
  refine G.region rfl (fun R hR => ?_)
  refine D.pure rfl rfl rfl rfl rfl rfl ?_
  refine D.done [(0, [], _)] ⟨rfl, trivial⟩ (hR _ _ _ rfl ?_); clear hR R
  refine G.region rfl (fun R hR => ?_)
  refine D.pure rfl rfl rfl rfl rfl rfl ?_
  refine D.gives2 (by have h := parts2_fn C s (by omega); rw [hct] at h; exact h) rfl rfl rfl rfl rfl rfl rfl (fun _ => rfl) ?_
  iterate 5 refine D.pure rfl rfl rfl rfl rfl rfl ?_
  refine D.done [(0, [], _), (3, [], _), (4, [], _)] ⟨rfl, rfl, rfl, trivial⟩ (hR _ _ _ rfl ?_); clear hR R
  refine G.region rfl (fun R hR => ?_)
  refine D.pure rfl rfl rfl rfl rfl rfl ?_
  refine D.gives2 (right1_fn _ num (by omega)) rfl rfl rfl rfl rfl rfl rfl (fun _ => rfl) ?_
  iterate 3 refine D.pure rfl rfl rfl rfl rfl rfl ?_
  refine D.gives (fun _ => (right1_fn _ (bo.getD [49]) (by omega))) rfl rfl rfl rfl rfl rfl rfl rfl rfl ?_
  refine D.pure rfl rfl rfl rfl rfl rfl ?_
  refine D.pickOr rfl rfl rfl rfl rfl rfl rfl rfl ?_
  refine D.done [(0, [], _), (3, [], _), (4, [], _), (17, [], _)] ⟨rfl, rfl, rfl, rfl, trivial⟩ (hR _ _ _ rfl ?_); clear hR R
  refine G.cond rfl (fun h17 => ?_) (fun h17 => ?_)
  · skip
    have hno : ratOk s = false := by
      rw [hM]
      cases h1 : rightI num with
      | false => rfl
      | true =>
        rw [h1] at h17
        have h2 : rightI (bo.getD [49]) = false := by simpa using h17
        rw [h2]; rfl
    refine G.region rfl (fun R hR => ?_)
    refine D.pure rfl rfl rfl rfl rfl rfl ?_
    refine D.done [(2, [], _)] ⟨rfl, trivial⟩ (hR _ _ _ rfl ?_); clear hR R
    refine G.retN (G.dropAll (G.fin1 rfl rfl ?_))
    exact ⟨by rw [hno], rfl⟩
  · skip
    have hr : rightI num = true ∧ rightI (bo.getD [49]) = true := by simpa using h17
    rw [hr.1, hr.2] at hM
    obtain ⟨hn1, hn2⟩ := right_val hr.1
    refine G.region rfl (fun R hR => ?_)
    refine D.pure rfl rfl rfl rfl rfl rfl ?_
    refine D.gives2 (indexByteS_fn _ s 47) rfl rfl rfl rfl rfl rfl rfl (fun _ => rfl) ?_
    refine D.pure rfl rfl rfl rfl rfl rfl ?_
    refine D.done [(3, [], _), (4, [], _), (20, [], _)] ⟨rfl, rfl, rfl, trivial⟩ (hR _ _ _ rfl ?_); clear hR R
    refine G.cond rfl (fun h20 => ?_) (fun h20 => ?_)
    · skip
      have h0 : ¬ 0 ≤ Lib.indexByte s 47 := by
        have : Lib.indexByte s 47 < 0 := by simpa using h20
        omega
      have hbo : bo = none := by
        have h := cut1_miss h0
        rw [hct] at h
        exact (Prod.mk.inj h).2
      rw [hbo] at hM
      refine G.region rfl (fun R hR => ?_)
      refine D.pure rfl rfl rfl rfl rfl rfl ?_
      refine D.done [(2, [], _)] ⟨rfl, trivial⟩ (hR _ _ _ rfl ?_); clear hR R
      refine G.retN (G.dropAll (G.fin1 rfl rfl ?_))
      exact ⟨by rw [hM]; rfl, rfl⟩
    · skip
      have h0 : 0 ≤ Lib.indexByte s 47 := by
        have : ¬ Lib.indexByte s 47 < 0 := by simpa using h20
        omega
      obtain ⟨b, hbo⟩ : ∃ b, bo = some b := by
        obtain ⟨pre, post, h1, _⟩ := cut1_hit h0
        rw [hct] at h1
        exact ⟨post, (Prod.mk.inj h1).2⟩
      subst hbo
      obtain ⟨hd1, hd2⟩ := right_val hr.2
      have hd1' : b = txt (decZ b) := hd1
      have hd2' : (decZ b).natAbs < BP ^ 200 := hd2
      obtain ⟨zn, ezn⟩ : ∃ z, decZ num = z := ⟨_, rfl⟩
      obtain ⟨zd, ezd⟩ : ∃ z, decZ b = z := ⟨_, rfl⟩
      unfold restOk at hM
      simp only [ezn, ezd] at hM hn1 hn2 hd1' hd2'
      rw [show strV num = strV (txt zn) from congrArg strV hn1, show strV ((some b).getD [49]) = strV (txt zd) from congrArg strV hd1']
      refine G.region rfl (fun R hR => ?_)
      refine D.pure rfl rfl rfl rfl rfl rfl ?_
      refine D.gives2 (by have h := compare_ref_fn _ (hT.mono (by (repeat (first | exact Mem.le.refl _ | assumption | (apply Mem.le.trans; rotate_left; assumption))))) zd 1 hd2' one_lt; rw [← one_val] at h; exact h) rfl rfl rfl rfl rfl rfl rfl (fun _ => rfl) ?_
      iterate 4 refine D.pure rfl rfl rfl rfl rfl rfl ?_
      refine D.pickAnd rfl rfl rfl rfl rfl rfl rfl rfl ?_
      iterate 3 refine D.pure rfl rfl rfl rfl rfl rfl ?_
      refine D.gives (fun _ => (gcd_ref_fn _ (hT.mono (by (repeat (first | exact Mem.le.refl _ | assumption | (apply Mem.le.trans; rotate_left; assumption))))) zn zd hn2 hd2')) rfl rfl rfl rfl rfl rfl rfl rfl rfl ?_
      refine D.pure rfl rfl rfl rfl rfl rfl ?_
      refine D.pickAnd rfl rfl rfl rfl rfl rfl rfl rfl ?_
      refine D.pure rfl rfl rfl rfl rfl rfl ?_
      refine D.done [(2, [], _)] ⟨rfl, trivial⟩ (hR _ _ _ rfl ?_); clear hR R
      refine G.retN (G.dropAll (G.fin1 rfl rfl ?_))
      refine ⟨?_, rfl⟩
      have e1 : decide (0 < if zd - 1 < 0 then (-1 : Int) else if zd - 1 = 0 then 0 else 1) = decide (1 < zd) := by
        rw [decide_eq_decide]
        split
        · omega
        · split <;> omega
      have e2 : (zn == 0) = decide (zn = 0) := by by_cases h : zn = 0 <;> simp [h]
      rw [hM, e1, txtEq0, decEq1, e2]
      rfl
end Go.Proofs.YtfelabnohopfdaaGreatDoor
namespace Go.Proofs.YtfelabnohopfdaaGreatDoor
open Go Go.Jog
set_option maxRecDepth 100000

theorem right_law_fn (C : Mem) (hT : Tabs C) (s : Str) (hl : s.length ≤ 999998) : Gives cx.P 7 [strV s] C (.bool (ratOk s)) := by
  refine Fn.intro (by kernel_rfl) Tryz.func7 rfl 5 rfl rfl (fun w0 => ?_)
  refine G.region rfl (fun R hR => ?_)
  refine D.pure rfl rfl rfl rfl rfl rfl ?_
  refine D.done [(0, [], _)] ⟨rfl, trivial⟩ (hR _ _ _ rfl ?_); clear hR R
  refine G.region rfl (fun R hR => ?_)
  refine D.pure rfl rfl rfl rfl rfl rfl ?_
  refine D.gives2 (right2_fn C hT s hl) rfl rfl rfl rfl rfl rfl rfl (fun _ => rfl) ?_
  refine D.pure rfl rfl rfl rfl rfl rfl ?_
  refine D.done [(2, [], _)] ⟨rfl, trivial⟩ (hR _ _ _ rfl ?_); clear hR R
  refine G.retN (G.dropAll (G.fin1 rfl rfl ?_))
  exact ⟨rfl, rfl⟩
theorem numbers_fn (C : Mem) (hT : Tabs C) (s : Str) : Gives cx.P 3 [strV s] C (.bool true) := by
  refine Fn.intro (by kernel_rfl) Tryz.func3 rfl 16 rfl rfl (fun w0 => ?_)
  refine G.region rfl (fun R hR => ?_)
  refine D.pure rfl rfl rfl rfl rfl rfl ?_
  refine D.done [(0, [], _)] ⟨rfl, trivial⟩ (hR _ _ _ rfl ?_); clear hR R
  refine G.region rfl (fun R hR => ?_)
  refine D.gives2 (known_fn C hT) rfl rfl rfl rfl rfl rfl rfl (fun _ => rfl) ?_
  iterate 5 refine D.pure rfl rfl rfl rfl rfl rfl ?_
  refine D.pickOr rfl rfl rfl rfl rfl rfl rfl rfl ?_
  refine D.done [(0, [], _), (9, [], _)] ⟨rfl, rfl, trivial⟩ (hR _ _ _ rfl ?_); clear hR R
  refine G.cond rfl (fun h9 => ?_) (fun h9 => ?_)
  · skip
    refine G.region rfl (fun R hR => ?_)
    refine D.gives2 (known_fn _ (hT.mono (by (repeat (first | exact Mem.le.refl _ | assumption | (apply Mem.le.trans; rotate_left; assumption)))))) rfl rfl rfl rfl rfl rfl rfl (fun _ => rfl) ?_
    refine D.pure rfl rfl rfl rfl rfl rfl ?_
    refine D.done [(2, [], _)] ⟨rfl, trivial⟩ (hR _ _ _ rfl ?_); clear hR R
    refine G.retN (G.dropAll (G.fin1 rfl rfl ?_))
    exact ⟨rfl, rfl⟩
  · skip
    have hl : s.length ≤ 450 := by
      have : ¬ (s.length : Int) > 450 := by simpa using h9
      omega
    refine G.region rfl (fun R hR => ?_)
    refine D.pure rfl rfl rfl rfl rfl rfl ?_
    refine D.gives2 (number_fn _ s (by omega)) rfl rfl rfl rfl rfl rfl rfl (fun _ => rfl) ?_
    refine D.pure rfl rfl rfl rfl rfl rfl ?_
    refine D.gives2 (right_law_fn _ (hT.mono (by (repeat (first | exact Mem.le.refl _ | assumption | (apply Mem.le.trans; rotate_left; assumption))))) s (by omega)) rfl rfl rfl rfl rfl rfl rfl (fun _ => rfl) ?_
    iterate 2 refine D.pure rfl rfl rfl rfl rfl rfl ?_
    refine D.done [(2, [], _)] ⟨rfl, trivial⟩ (hR _ _ _ rfl ?_); clear hR R
    refine G.retN (G.dropAll (G.fin1 rfl rfl ?_))
    refine ⟨?_, rfl⟩
    rw [ratOk_eq, beq_self_eq_true]
end Go.Proofs.YtfelabnohopfdaaGreatDoor
namespace Go.Proofs.YtfelabnohopfdaaGreatDoor
open Go Go.Jog Go.ChangeShapes Go.WideShapes Go.ChangeAt Go.RowKit
set_option maxRecDepth 100000

namespace lawCheckerNumbers
theorem laid_met (os : Os) (args : Array Value) : laidMetH Tryz.prog Rows.checkerNumbersRow.laid ((laidWorld os).forCall (fun _ _ => 0) ⟨#[], args, []⟩).memory :=
  laidMet_of_run' 8 (by kernel_rfl) (by kernel_rfl)
theorem contract (H : Type) (enc : TypeId × Value → H) (W : World) (base : Nat) (args : Array Value) (ds gs : List (DataW H)) (before : List MemPlace)
    (hval : ∀ (j : Nat) t v, Tryz.f3.params[j]? = some t → args[j]? = some v → Value.okWide Tryz.prog W .any base t v)
    (hW : DataW.Whole enc Tryz.prog Tryz.f3.params.toList Rows.checkerNumbersSpec.vars false W args.toList ds gs before) (hL : laidMet Tryz.prog Rows.checkerNumbersRow.laid W) :
    Calls Tryz.prog 3 args W fun e W' => ∃ v, e = .returned v ∧ Rows.checkerNumbersSpec.post enc Tryz.prog Tryz.f3 false true false false W args v W' := by
  have hW' := hW
  obtain ⟨p, q, hA0, hV, rfl, hfz, hnd⟩ := hW
  have hA : DataW.TrodAll enc Tryz.prog W 0 (fun _ => true) true Tryz.f3.params.toList args.toList ds p := hA0
  rw [Tryz.params3] at hA hval
  obtain ⟨v0, vs0, d0, ds0, p0, q0, hargs0, rfl, rfl, h0, r0⟩ := trodAll_cons hA
  obtain ⟨rfl, rfl, rfl⟩ := trodAll_nil r0
  obtain rfl : args = #[v0] := by cases args; simp_all
  obtain ⟨rfl, rfl⟩ := trodVars_none hV
  obtain ⟨l0, rfl⟩ : ∃ s : Str, v0 = strV s := by
    obtain ⟨b, rfl⟩ := okWide_string Tryz.underlying22 (hval 0 22 v0 rfl rfl)
    obtain ⟨⟨l⟩⟩ := b
    exact ⟨l, rfl⟩
  simp only [List.append_nil] at hW'
  have hlt0 : ∀ x ∈ p0, x.block < W.heap.size := fun x hx => hW'.lt x (by simp [hx])
  have main := gives_below (numbers_fn (memOf W) (tabs_of hL) l0)
  refine Calls.mono main fun e W' ⟨he, hb⟩ => ?_
  subst he
  refine ⟨_, rfl, post_of_below (pa := p0 ++ ([])) (pv := []) hW' (fun _ _ _ => trodAll_cons_mk (shut_bool Tryz.underlying4 _) trodAll_mk0) (fun sp hsp => ?_) (fun _ _ => rfl) (by simp) hb (ok_one (by kernel_rfl) rfl (okWide_bool_mk Tryz.underlying4 _))⟩
  exact trodAll_cons_mk (WideElems.Trod_stays laidOut' (by kernel_rfl) (of_decide_eq_true (by kernel_rfl)) h0 (fun x hx => hb.same (hlt0 x hx)) (fun x hx => hsp x (by simp [hx]))) (trodAll_mk0)

theorem reads (os : Os) {H : Type} (enc : TypeId × Value → H) : ∃ places, DataW.whole enc Tryz.prog ((laidWorld os).forCall (fun _ _ => 0) ⟨#[], #[.string ⟨#[]⟩], []⟩).memory Tryz.f3.params.toList Rows.checkerNumbersSpec.vars false (#[.string ⟨#[]⟩] : Array Value).toList 8 = some ([.lit (.string [])], [], places) :=
  ⟨[], by kernel_rfl⟩

theorem lifted (os : Os) (started : os.Started) (H : Type) (enc : TypeId × Value → H) (F : Stop.Interp) :
    ReturnsInHanded {} Tryz.checked os 3 .any ((OpenSpec.ofChange Rows.checkerNumbersSpec).preRow enc Tryz.prog Tryz.f3 Rows.checkerNumbersRow.domain false Rows.checkerNumbersRow.laid) (((OpenSpec.ofChange Rows.checkerNumbersSpec).at F).post enc Tryz.prog Tryz.f3 false true false false) := by
  obtain ⟨places, hx⟩ := reads os enc
  refine returnsInHanded_of_row (C := Tryz.checked) (s := OpenSpec.ofChange Rows.checkerNumbersSpec) own started (by kernel_rfl) Tryz.func3
    (witness_row_at (enc := enc) (C := Tryz.checked) false (laidWorld os) #[.string ⟨#[]⟩] rfl (by kernel_rfl) (by kernel_rfl) (by kernel_rfl)
      (OpenSpec.preRow_of_cond 8 hx (by kernel_rfl) (fun k hk => by cases hk) (by kernel_rfl) (laid_met os _))) ?_
  intro W base args ds gs before hval hW _ _ _ hL _ _
  exact contract H enc W base args ds gs before hval hW hL

theorem said : Rows.CheckerNumbersSaid :=
  OpenClaim.holds_of_cond 3 Tryz.f3 rfl rfl rfl rfl rfl rfl rfl ⟨rfl, rfl, rfl, rfl, rfl⟩ rfl rfl rfl rfl rfl (by kernel_rfl) Tryz.func3 (by kernel_rfl)
    (of_decide_eq_true (by kernel_rfl)) (by unfold Func.isWrapper; first | (rw [if_pos (by decide +kernel)]; kernel_rfl) | (rw [if_neg (by decide +kernel)]; exact ⟨rfl, rfl⟩))
    (fun os started H enc _ F => by rw [OpenClaim.pre_eq_preRow]; exact lifted os started H enc F)

theorem plain (f : FuncId) (fn : Func) (hf : Tryz.pinned.checked.prog.funcNamed "klippe/klippelaw55.CheckerNumbers" = some f) (hfn : Tryz.pinned.checked.prog.funcs[f]? = some fn) :
    true = Tryz.pinned.checked.prog.looks [] ∧ ∀ (j : Nat) t, fn.params[j]? = some t → Tryz.pinned.checked.prog.wantsStandIn t = false := by
  obtain rfl : f = 3 := Option.some.inj ((show Tryz.prog.funcNamed "klippe/klippelaw55.CheckerNumbers" = some 3 by kernel_rfl).symm.trans hf) |>.symm
  obtain rfl : fn = Tryz.f3 := (Option.some.inj (Tryz.func3.symm.trans hfn)).symm
  refine ⟨by kernel_rfl, fun j t ht => ?_⟩
  rw [Tryz.params3] at ht
  have hm := Array.mem_of_getElem? ht
  simp only [List.mem_toArray, List.mem_cons, List.not_mem_nil, or_false] at hm
  subst hm
  · exact (show Tryz.prog.wantsStandIn 22 = false by kernel_rfl)
end lawCheckerNumbers

/-- FOR ANY TEXT CheckerNumbers ANSWERS true, and leaves it as it was. The listed tables as the program's text lays them (the card ties them). -/
theorem checkerNumbers_card : Rows.CheckerNumbersCardSaid :=
  Claim7.holds_tied_plain_at .later [] _ _ _ _ lawCheckerNumbers.said (fun _ h => by cases h) (by kernel_rfl) (fun _ h => by cases h) checkerNumbers_row_tie rfl ⟨rfl, rfl⟩ (by kernel_rfl) rfl lawCheckerNumbers.plain (by kernel_rfl)
#print axioms checkerNumbers_card
end Go.Proofs.YtfelabnohopfdaaGreatDoor
