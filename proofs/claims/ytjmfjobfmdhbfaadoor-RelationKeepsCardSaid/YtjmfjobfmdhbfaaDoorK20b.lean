/- slices.Clone and slices.Compact at the element types of layer 20. -/
import Derived.Test.YtjmfjobfmdhbfaaDoorJogR
import Derived.Test.YtjmfjobfmdhbfaaDoorK20a
namespace Go.Proofs.YtjmfjobfmdhbfaaDoor
open Go Go.Jog
structure ArcE where
  lower : Str
  upper : Str
  deriving DecidableEq, Inhabited
def ArcE.enc (x : ArcE) : List Value := [strV x.lower, strV x.upper]
def encS (s : Str) : List Value := [strV s]
theorem rel_len (x : Rel) : x.enc.length = 3 := rfl
theorem arc_len (x : ArcE) : x.enc.length = 2 := rfl
theorem str_len (x : Str) : (encS x).length = 1 := rfl
theorem rel_oneB (l : List Rel) : (l.map Rel.enc).all (fun r => r.all oneB) = true := by simp [Rel.enc, oneB, strV]
theorem arc_oneB (l : List ArcE) : (l.map ArcE.enc).all (fun r => r.all oneB) = true := by simp [ArcE.enc, oneB, strV]
theorem str_oneB (l : List Str) : (l.map encS).all (fun r => r.all oneB) = true := by simp [encS, oneB, strV]
theorem eqStr (a b : Str) : (a == b) = decide (a = b) := by by_cases h : a = b <;> simp [h]
theorem eqRow_rel (x y : Rel) : (x.kind == y.kind && ((x.upper == y.upper) && ((x.lower == y.lower) && true))) = decide (x = y) := by
  obtain ⟨a, b, c⟩ := x
  obtain ⟨a', b', c'⟩ := y
  by_cases h1 : a = a' <;> by_cases h2 : b = b' <;> by_cases h3 : c = c' <;> simp [h1, h2, h3]
theorem eqRow_arc (x y : ArcE) : ((x.lower == y.lower) && ((x.upper == y.upper) && true)) = decide (x = y) := by
  obtain ⟨b, c⟩ := x
  obtain ⟨b', c'⟩ := y
  by_cases h2 : b = b' <;> by_cases h3 : c = c' <;> simp [h2, h3]
set_option maxRecDepth 100000

theorem clone_rel (C : Mem) (v : Value) (l : List Rel) (hv : Sl C 3 v (l.map Rel.enc)) (hl : l.length ≤ 1000000) :
    Jog.Fn cx.P 31 [v] C [] fun u C' L' => L' = [.arr u 33 3 l.length (l.map Rel.enc).flatten] := by
  have hv0 := hv
  obtain ⟨A, c, rfl, hlc, hcm, _, hcells⟩ := hv0
  refine Fn.intro (by kernel_rfl) Tryd.func31 rfl 8 rfl rfl (fun w0 => ?_)
  refine G.region rfl (fun R hR => ?_)
  refine D.pure rfl rfl rfl rfl rfl rfl ?_
  refine D.done [(0, [], _)] ⟨rfl, trivial⟩ (hR _ _ _ rfl ?_); clear hR R
  refine G.region rfl (fun R hR => ?_)
  refine D.pure rfl rfl rfl rfl rfl rfl ?_
  refine D.nilEq rfl rfl rfl rfl rfl rfl rfl rfl rfl ?_
  refine D.done [(0, [], _), (4, [], _)] ⟨rfl, rfl, trivial⟩ (hR _ _ _ rfl ?_); clear hR R
  refine G.cond rfl (fun h4 => ?_) (fun h4 => ?_)
  · skip
    have hl0 : l = [] := by
      cases l with
      | nil => rfl
      | cons x l =>
        obtain ⟨a, ha, _⟩ := hcells 0 ((Rel.enc) x) (by simp)
        subst ha
        simp at h4
    refine G.region rfl (fun R hR => ?_)
    refine D.pure rfl rfl rfl rfl rfl rfl ?_
    refine D.done [(2, [], _)] ⟨rfl, trivial⟩ (hR _ _ _ rfl ?_); clear hR R
    refine G.nilArr 33 3 (G.retN (G.fin1 rfl rfl ?_))
    subst hl0
    rfl
  · skip
    refine G.region rfl (fun R hR => ?_)
    refine D.buildArr [] rfl rfl rfl rfl rfl rfl rfl rfl rfl rfl rfl rfl (fun _ => rfl) (fun b5 => ?_)
    refine D.pure rfl rfl rfl rfl rfl rfl ?_
    refine D.append (j := 0) rfl rfl rfl rfl rfl rfl rfl rfl rfl rfl rfl hv (rel_oneB l) (by simp only [List.length_nil, List.length_map, maxLen]; omega) (by simp only [List.length_nil, List.length_map]; omega) (fun _ => rfl) (fun v7 => ?_)
    refine D.pure rfl rfl rfl rfl rfl rfl ?_
    refine D.done [(2, [], _)] ⟨rfl, trivial⟩ (hR _ _ _ rfl ?_); clear hR R
    refine G.retN (G.fin1 rfl rfl ?_)
    simp

set_option maxHeartbeats 1000000 in
theorem compact_rel (C : Mem) (v : Value) (l : List Rel) (hl : l.length ≤ 1000000) :
    Jog.Fn cx.P 34 [v] C [.arr v 33 3 l.length (l.map Rel.enc).flatten] fun u C' L' => L' = [] ∧ Sl C' 3 u ((compact l).map Rel.enc) := by
  refine Fn.intro (by kernel_rfl) Tryd.func34 rfl 61 rfl rfl (fun w0 => ?_)
  refine G.form (.head _) (fun hform hxl => ?_)
  have hlt : l.length < 2 ∨ ∃ g c, v = .slice (some ⟨g, 0, none⟩) l.length c ∧ l.length ≤ c ∧ c ≤ maxLen := by
    rcases hform with ⟨h1, h2⟩ | h1
    · exact .inl (by omega)
    · exact .inr h1
  obtain ⟨A, c0, hv⟩ : ∃ A c0, v = .slice A l.length c0 := by
    rcases hform with ⟨h1, h2⟩ | ⟨g, c, h1, _⟩
    · exact ⟨none, 0, by rw [h1, h2]⟩
    · exact ⟨_, c, h1⟩
  refine G.region rfl (fun R hR => ?_)
  refine D.pure rfl rfl rfl rfl rfl rfl ?_
  refine D.done [(0, [], _)] ⟨rfl, trivial⟩ (hR _ _ _ rfl ?_); clear hR R
  subst hv
  refine G.region rfl (fun R hR => ?_)
  iterate 3 refine D.pure rfl rfl rfl rfl rfl rfl ?_
  refine D.done [(0, [], _), (8, [], _)] ⟨rfl, rfl, trivial⟩ (hR _ _ _ rfl ?_); clear hR R
  refine G.cond rfl (fun h8 => ?_) (fun h8 => ?_)
  · skip
    simp only [decide_eq_true_eq] at h8
    have hid : compact l = l := compact_id (fun i x y _ h2 => by have := (List.getElem?_eq_some_iff.1 h2).1; omega)
    refine G.region rfl (fun R hR => ?_)
    iterate 2 refine D.pure rfl rfl rfl rfl rfl rfl ?_
    refine D.done [(2, [], _)] ⟨rfl, trivial⟩ (hR _ _ _ rfl ?_); clear hR R
    refine G.freezeArr 0 (l.map Rel.enc) rfl rfl (by intro r hr; obtain ⟨x, _, rfl⟩ := List.mem_map.1 hr; exact rel_len x) (by simp) (fun Cf hlef hsf => G.retN (G.fin1 rfl rfl ?_))
    exact ⟨rfl, by rw [hid]; exact hsf⟩
  · skip
    simp only [decide_eq_false_iff_not] at h8
    obtain ⟨g, c, hv, hlc, hcm⟩ := hlt.resolve_left (by omega)
    obtain ⟨rfl, rfl⟩ : some (⟨g, 0, none⟩ : Addr) = A ∧ c = c0 := by cases hv; exact ⟨rfl, rfl⟩
    refine G.region rfl (fun R hR => ?_)
    refine D.pure rfl rfl rfl rfl rfl rfl ?_
    refine D.done [(0, [], _), (3, [], _)] ⟨rfl, rfl, trivial⟩ (hR _ _ _ rfl ?_); clear hR R
    refine G.loop (fun fr C' L' μ => ∃ (k : Nat), (1 ≤ k ∧ k ≤ l.length ∧ ∀ i x y, i + 1 < k → l[i]? = some x → l[i + 1]? = some y → x ≠ y) ∧ fr = [(0, [], .slice (some ⟨g, 0, none⟩) l.length c), (3, [], .int .i64 k)] ∧ L' = [.arr (.slice (some ⟨g, 0, none⟩) l.length c) 33 3 l.length (l.map Rel.enc).flatten] ∧ μ = l.length - k) (fr' := [(0, [], _), (3, [], _)]) ⟨rfl, rfl, trivial⟩ ⟨1, ⟨Nat.le_refl _, by omega, fun i x y hi => by omega⟩, rfl, rfl, rfl⟩ (fun fr C0' L0' m hle0 hI => ?_)
    obtain ⟨k, ⟨hk1, hkl, hne⟩, rfl, rfl, rfl⟩ := hI
    refine G.region rfl (fun R hR => ?_)
    iterate 4 refine D.pure rfl rfl rfl rfl rfl rfl ?_
    refine D.done [(0, [], _), (3, [], _), (13, [], _)] ⟨rfl, rfl, rfl, trivial⟩ (hR _ _ _ rfl ?_); clear hR R
    refine G.cond rfl (fun h13 => ?_) (fun h13 => ?_)
    · skip
      simp only [decide_eq_true_eq] at h13
      obtain ⟨z, hz⟩ : ∃ z, l[k]? = some z := ⟨l[k]'(by omega), List.getElem?_eq_getElem (by omega)⟩
      obtain ⟨y, hy⟩ : ∃ y, l[k - 1]? = some y := ⟨l[k - 1]'(by omega), List.getElem?_eq_getElem (by omega)⟩
      refine G.draw [0, 1, 2, 3, 4, 5, 6, 7, 8, 9] [] rfl (by kernel_rfl) (fun R hB hR => ?_)
      iterate 2 refine D.pure rfl rfl rfl rfl rfl rfl ?_
      refine D.indexS (k * 3) rfl rfl rfl rfl rfl rfl rfl rfl rfl rfl (fun _ => ⟨by omega, by omega, rfl⟩) rfl rfl ?_
      refine D.loadArr (.head _) rfl rfl rfl rfl rfl rfl (fun _ => (by rw [row_read rel_len hz]; rfl)) rfl rfl ?_
      iterate 2 refine D.pure rfl rfl rfl rfl rfl rfl ?_
      refine D.i64 (((k - 1 : Nat) : Int)) rfl rfl rfl rfl (by omega) (by omega) (by omega) rfl rfl ?_
      refine D.indexS ((k - 1) * 3) rfl rfl rfl rfl rfl rfl rfl rfl rfl rfl (fun _ => ⟨by omega, by omega, rfl⟩) rfl rfl ?_
      refine D.loadArr (.head _) rfl rfl rfl rfl rfl rfl (fun _ => (by rw [row_read rel_len hy]; rfl)) rfl rfl ?_
      refine D.eqAgg (decide (z = y)) (by kernel_rfl) rfl rfl rfl rfl rfl rfl rfl rfl (fun _ => eqRow_rel _ _) rfl rfl ?_
      refine D.done [(0, [], _), (3, [], _), (25, [], _)] ⟨rfl, rfl, rfl, trivial⟩ (hR _ _ _ rfl ?_); clear hR hB R
      refine G.cond rfl (fun h25 => ?_) (fun h25 => ?_)
      · skip
        simp only [decide_eq_true_eq] at h25
        subst h25
        refine G.region rfl (fun R hR => ?_)
        iterate 2 refine D.pure rfl rfl rfl rfl rfl rfl ?_
        have hA : (if c = k then (some ⟨g, 0, none⟩ : Option Addr) else (some (⟨g, 0, none⟩ : Addr)).map (·.add (k * 3))) = some ⟨g, k * 3, none⟩ := by
          rw [if_neg (by omega)]
          simp only [Option.map_some, Addr.add_lit, Nat.zero_add]
        refine D.sliceV k l.length c rfl rfl rfl rfl rfl rfl rfl rfl rfl rfl rfl rfl (fun _ => ⟨.inr ⟨_, rfl⟩, .inl ⟨rfl, rfl⟩, .inl ⟨rfl, rfl⟩, by omega, hlc, Nat.le_refl _⟩) rfl rfl ?_
        rw [hA]
        refine D.pure rfl rfl rfl rfl rfl rfl ?_
        refine D.done [(0, [], _), (3, [], _), (4, [], (.slice (some ⟨g, k * 3, none⟩) (l.length - k) (c - k)))] ⟨rfl, rfl, rfl, trivial⟩ (hR _ _ _ rfl ?_); clear hR R
        refine G.region rfl (fun R hR => ?_)
        refine D.pure rfl rfl rfl rfl rfl rfl ?_
        refine D.done [(0, [], _), (3, [], _), (4, [], _), (5, [], _)] ⟨rfl, rfl, rfl, rfl, trivial⟩ (hR _ _ _ rfl ?_); clear hR R
        have hck : compact (l.take k) = l.take k := compact_id (fun i x y h1 h2 => by
          have hb := (List.getElem?_eq_some_iff.1 h2).1
          simp only [List.length_take] at hb
          rw [List.getElem?_take] at h1 h2
          rw [if_pos (by omega)] at h1 h2
          exact hne i x y (by omega) h1 h2)
        have hk1' : l.take (k + 1) = l.take k ++ [z] := by rw [List.take_add_one, hz]; rfl
        have hcs : compact (l.take (k + 1)) = l.take k := by
          rw [hk1', compact_snoc (z := z) (i := k - 1) (by rw [List.getElem?_take, if_pos (by omega)]; exact hy) (by simp only [List.length_take]; omega), if_pos rfl, hck]
        refine G.loop (fun fr C' L' μ => ∃ (q : Nat) (i : Nat) (r : List Rel), (1 ≤ q ∧ k + q ≤ l.length ∧ r.length = l.length ∧ i = (compact (l.take (k + q))).length ∧ i ≤ k + q - 1 ∧ r.take i = compact (l.take (k + q)) ∧ (∀ j, k + q - 1 ≤ j → r[j]? = l[j]?)) ∧ fr = [(0, [], .slice (some ⟨g, 0, none⟩) l.length c), (3, [], .int .i64 i), (4, [], .slice (some ⟨g, k * 3, none⟩) (l.length - k) (c - k)), (5, [], .int .i64 q)] ∧ L' = [.arr (.slice (some ⟨g, 0, none⟩) l.length c) 33 3 l.length (r.map Rel.enc).flatten] ∧ μ = l.length - (k + q)) (fr' := [(0, [], _), (3, [], _), (4, [], _), (5, [], _)]) ⟨rfl, rfl, rfl, rfl, trivial⟩ ⟨1, k, l, ⟨Nat.le_refl _, by omega, rfl, by rw [hcs]; simp only [List.length_take]; omega, by omega, by rw [hcs], fun _ _ => rfl⟩, rfl, rfl, rfl⟩ (fun fr C1' L1' m hle1 hI => ?_)
        obtain ⟨q, i, r, ⟨hq1, hql, hrl, hi, hik, hrt, hrs⟩, rfl, rfl, rfl⟩ := hI
        refine G.region rfl (fun R hR => ?_)
        iterate 4 refine D.pure rfl rfl rfl rfl rfl rfl ?_
        refine D.done [(0, [], _), (3, [], _), (4, [], _), (5, [], _), (32, [], _)] ⟨rfl, rfl, rfl, rfl, rfl, trivial⟩ (hR _ _ _ rfl ?_); clear hR R
        refine G.cond rfl (fun h32 => ?_) (fun h32 => ?_)
        · skip
          simp only [decide_eq_true_eq] at h32
          obtain ⟨b2, hb2⟩ : ∃ z, r[k + q]? = some z := ⟨r[k + q]'(by omega), List.getElem?_eq_getElem (by omega)⟩
          obtain ⟨a2, ha2⟩ : ∃ y, r[k + q - 1]? = some y := ⟨r[k + q - 1]'(by omega), List.getElem?_eq_getElem (by omega)⟩
          have hb2l : l[k + q]? = some b2 := by rw [← hrs _ (by omega)]; exact hb2
          have ha2l : l[k + q - 1]? = some a2 := by rw [← hrs _ (by omega)]; exact ha2
          have hnext : compact (l.take (k + (q + 1))) = if a2 = b2 then compact (l.take (k + q)) else compact (l.take (k + q)) ++ [b2] := by
            have e : l.take (k + (q + 1)) = l.take (k + q) ++ [b2] := by rw [show k + (q + 1) = k + q + 1 by omega, List.take_add_one, hb2l]; rfl
            rw [e, compact_snoc (z := a2) (i := k + q - 1) (by rw [List.getElem?_take, if_pos (by omega)]; exact ha2l) (by simp only [List.length_take]; omega)]
          refine G.draw [0, 1, 2, 3, 4, 5, 6, 7, 8, 9] [] rfl (by kernel_rfl) (fun R hB hR => ?_)
          iterate 2 refine D.pure rfl rfl rfl rfl rfl rfl ?_
          refine D.indexSo ((k + q) * 3) rfl rfl rfl rfl rfl rfl rfl rfl rfl rfl (fun _ => ⟨by omega, by omega, Nat.add_mul k q 3⟩) rfl rfl ?_
          refine D.loadArr (.head _) rfl rfl rfl rfl rfl rfl (fun _ => (by rw [row_read rel_len hb2]; rfl)) rfl rfl ?_
          iterate 2 refine D.pure rfl rfl rfl rfl rfl rfl ?_
          refine D.i64 (((q - 1 : Nat) : Int)) rfl rfl rfl rfl (by omega) (by omega) (by omega) rfl rfl ?_
          refine D.indexSo ((k + q - 1) * 3) rfl rfl rfl rfl rfl rfl rfl rfl rfl rfl (fun _ => ⟨by omega, by omega, (by rw [Nat.add_sub_assoc hq1]; exact Nat.add_mul k (q - 1) 3)⟩) rfl rfl ?_
          refine D.loadArr (.head _) rfl rfl rfl rfl rfl rfl (fun _ => (by rw [row_read rel_len ha2]; rfl)) rfl rfl ?_
          refine D.neAgg (!decide (b2 = a2)) (by kernel_rfl) rfl rfl rfl rfl rfl rfl rfl rfl (fun _ => congrArg (fun q => !q) (eqRow_rel _ _)) rfl rfl ?_
          refine D.done [(0, [], _), (3, [], _), (4, [], _), (5, [], _), (44, [], _)] ⟨rfl, rfl, rfl, rfl, rfl, trivial⟩ (hR _ _ _ rfl ?_); clear hR hB R
          refine G.cond rfl (fun h44 => ?_) (fun h44 => ?_)
          · skip
            simp only [Bool.not_eq_true', decide_eq_false_iff_not] at h44
            refine G.region rfl (fun R hR => ?_)
            iterate 4 refine D.pure rfl rfl rfl rfl rfl rfl ?_
            refine D.indexSo ((k + q) * 3) rfl rfl rfl rfl rfl rfl rfl rfl rfl rfl (fun _ => ⟨by omega, by omega, Nat.add_mul k q 3⟩) rfl rfl ?_
            refine D.loadArr (.head _) rfl rfl rfl rfl rfl rfl (fun _ => (by rw [row_read rel_len hb2]; rfl)) rfl rfl ?_
            refine D.indexS (i * 3) rfl rfl rfl rfl rfl rfl rfl rfl rfl rfl (fun _ => ⟨by omega, by omega, rfl⟩) rfl rfl ?_
            refine D.storeArr (j := 0) rfl rfl rfl rfl rfl rfl rfl rfl rfl rfl rfl (by rw [rows_len rel_len, hrl]; have h9 : (i + 1) * 3 ≤ l.length * 3 := Nat.mul_le_mul_right _ (by omega); rw [Nat.add_mul] at h9; simpa [Rel.enc] using h9) ?_
            refine D.done [(0, [], _), (3, [], _), (4, [], _), (5, [], _)] ⟨rfl, rfl, rfl, rfl, trivial⟩ (hR _ _ _ rfl ?_); clear hR R
            refine G.region rfl (fun R hR => ?_)
            refine D.pure rfl rfl rfl rfl rfl rfl ?_
            refine D.i64 (((i + 1 : Nat) : Int)) rfl rfl rfl rfl (by omega) (by omega) (by omega) rfl rfl ?_
            refine D.pure rfl rfl rfl rfl rfl rfl ?_
            refine D.done [(0, [], _), (3, [], _), (4, [], _), (5, [], _)] ⟨rfl, rfl, rfl, rfl, trivial⟩ (hR _ _ _ rfl ?_); clear hR R
            refine G.region rfl (fun R hR => ?_)
            refine D.pure rfl rfl rfl rfl rfl rfl ?_
            refine D.i64 (((q + 1 : Nat) : Int)) rfl rfl rfl rfl (by omega) (by omega) (by omega) rfl rfl ?_
            refine D.pure rfl rfl rfl rfl rfl rfl ?_
            refine D.done [(0, [], _), (3, [], _), (4, [], _), (5, [], _)] ⟨rfl, rfl, rfl, rfl, trivial⟩ (hR _ _ _ rfl ?_); clear hR R
            have hw : storeInto (r.map Rel.enc).flatten (Rel.enc b2) (i * 3) = ((r.set i b2).map Rel.enc).flatten := row_write rel_len b2 (by omega)
            have hw' : ∀ L0, (Ent.arr (.slice (some ⟨g, 0, none⟩) l.length c) 33 3 l.length (storeInto (r.map Rel.enc).flatten (Rel.enc b2) (i * 3)) :: L0) = Ent.arr (.slice (some ⟨g, 0, none⟩) l.length c) 33 3 l.length ((r.set i b2).map Rel.enc).flatten :: L0 := fun L0 => by rw [hw]
            refine G.eqL (hw' []) ?_
            refine G.again (m' := l.length - (k + (q + 1))) (by omega) hle1 (fr' := [(0, [], _), (3, [], _), (4, [], _), (5, [], _)]) ⟨rfl, rfl, rfl, rfl, trivial⟩ ⟨q + 1, i + 1, r.set i b2, ⟨by omega, by omega, by simpa using hrl, by rw [hnext, if_neg (Ne.symm h44), List.length_append, ← hi]; rfl, by omega, by
              rw [hnext, if_neg (Ne.symm h44), ← hrt, List.take_add_one, List.take_set_of_le (Nat.le_refl _), List.getElem?_set_self (by omega)]
              rfl, fun j hj => by rw [List.getElem?_set_ne (by omega)]; exact hrs j (by omega)⟩, rfl, rfl, rfl⟩
          · skip
            simp only [Bool.not_eq_false', decide_eq_true_eq] at h44
            subst h44
            refine G.region rfl (fun R hR => ?_)
            refine D.pure rfl rfl rfl rfl rfl rfl ?_
            refine D.i64 (((q + 1 : Nat) : Int)) rfl rfl rfl rfl (by omega) (by omega) (by omega) rfl rfl ?_
            refine D.pure rfl rfl rfl rfl rfl rfl ?_
            refine D.done [(0, [], _), (3, [], _), (4, [], _), (5, [], _)] ⟨rfl, rfl, rfl, rfl, trivial⟩ (hR _ _ _ rfl ?_); clear hR R
            refine G.again (m' := l.length - (k + (q + 1))) (by omega) hle1 (fr' := [(0, [], _), (3, [], _), (4, [], _), (5, [], _)]) ⟨rfl, rfl, rfl, rfl, trivial⟩ ⟨q + 1, i, r, ⟨by omega, by omega, hrl, by rw [hnext, if_pos rfl]; exact hi, by omega, by rw [hnext, if_pos rfl]; exact hrt, fun j hj => hrs j (by omega)⟩, rfl, rfl, rfl⟩
        · skip
          simp only [decide_eq_false_iff_not] at h32
          have hkq : k + q = l.length := by omega
          rw [hkq, List.take_length] at hrt hi
          have hil : i ≤ l.length := by rw [hi]; exact compact_length_le l
          refine G.region rfl (fun R hR => ?_)
          iterate 2 refine D.pure rfl rfl rfl rfl rfl rfl ?_
          refine D.sliceV i l.length c rfl rfl rfl rfl rfl rfl rfl rfl rfl rfl rfl rfl (fun _ => ⟨.inr ⟨_, rfl⟩, .inl ⟨rfl, rfl⟩, .inl ⟨rfl, rfl⟩, by omega, hlc, Nat.le_refl _⟩) rfl rfl ?_
          refine D.clear 0 (off := i * 3) rfl rfl rfl rfl rfl rfl rfl rfl rfl rfl rfl (by
            by_cases hci : c = i
            · exact .inl (by omega)
            · refine .inr ?_
              rw [if_neg hci]
              simp only [Option.map_some, Addr.add_lit, Nat.zero_add]) (by rw [rows_len rel_len, hrl, ← Nat.add_mul]; exact Nat.mul_le_mul_right _ (by omega)) ?_
          refine D.done [(0, [], _), (3, [], _)] ⟨rfl, rfl, trivial⟩ (hR _ _ _ rfl ?_); clear hR R
          refine G.region rfl (fun R hR => ?_)
          iterate 2 refine D.pure rfl rfl rfl rfl rfl rfl ?_
          refine D.sliceV 0 i c rfl rfl rfl rfl rfl rfl rfl rfl rfl rfl rfl rfl (fun _ => ⟨.inl ⟨rfl, rfl⟩, .inr ⟨_, rfl⟩, .inl ⟨rfl, rfl⟩, by omega, by omega, Nat.le_refl _⟩) rfl rfl ?_
          refine D.pure rfl rfl rfl rfl rfl rfl ?_
          refine D.done [(2, [], _)] ⟨rfl, trivial⟩ (hR _ _ _ rfl ?_); clear hR R
          refine G.freezeArr 0 ((r.take i).map Rel.enc ++ List.replicate (l.length - i) ([.int .i64 0, .string ⟨#[]⟩, .string ⟨#[]⟩] : List Value)) rfl ?_ ?_ (by simp; omega) (fun Cf hlef hsf => G.retN (G.fin1 rfl rfl ?_))
          · unfold storeInto
            have e1 : (zrow ([.int .i64 0, .string ⟨#[]⟩, .string ⟨#[]⟩] : List Value) (l.length - i)).length = (l.length - i) * 3 := zrow_length _ _
            refine Eq.trans (congrArg (· ++ _) (congrArg (· ++ _) (flatten_take_drop rel_len r i).1)) ?_
            rw [List.flatten_append, List.append_assoc]
            congr 1
            rw [← zrow_flatten]
            refine Eq.trans (congrArg (_ ++ ·) (List.drop_eq_nil_of_le ?_)) (List.append_nil _)
            rw [rows_len rel_len, hrl]
            refine Nat.le_trans (Nat.le_of_eq ?_) (Nat.le_of_eq (congrArg (i * 3 + ·) e1.symm))
            rw [← Nat.add_mul]; congr 1; omega
          · intro x hx
            rcases List.mem_append.1 hx with hx | hx
            · obtain ⟨y, _, rfl⟩ := List.mem_map.1 hx; exact rel_len y
            · rw [List.eq_of_mem_replicate hx]; rfl
          refine ⟨rfl, ?_⟩
          have hsub := Sl.sub hsf (l := 0) (h := i) (m := c) (Nat.zero_le _) (by simp; omega) (by omega) (Nat.le_refl _)
          have hti : (((r.take i).map Rel.enc ++ List.replicate (l.length - i) ([.int .i64 0, .string ⟨#[]⟩, .string ⟨#[]⟩] : List Value)).take i).drop 0 = (compact l).map Rel.enc := by
            rw [List.drop_zero, List.take_append_of_le_length (by simp; omega), List.take_of_length_le (by simp; omega), hrt]
          rw [hti] at hsub
          exact hsub
      · skip
        simp only [decide_eq_false_iff_not] at h25
        refine G.region rfl (fun R hR => ?_)
        refine D.pure rfl rfl rfl rfl rfl rfl ?_
        refine D.i64 (((k + 1 : Nat) : Int)) rfl rfl rfl rfl (by omega) (by omega) (by omega) rfl rfl ?_
        refine D.pure rfl rfl rfl rfl rfl rfl ?_
        refine D.done [(0, [], _), (3, [], _)] ⟨rfl, rfl, trivial⟩ (hR _ _ _ rfl ?_); clear hR R
        refine G.again (m' := l.length - (k + 1)) (by omega) hle0 (fr' := [(0, [], _), (3, [], _)]) ⟨rfl, rfl, trivial⟩ ⟨k + 1, ⟨by omega, by omega, fun i x y' hi h1 h2 => by
          by_cases hi' : i + 1 < k
          · exact hne i x y' hi' h1 h2
          · have e : i = k - 1 := by omega
            subst e
            rw [show k - 1 + 1 = k by omega, hz] at h2
            rw [hy] at h1
            cases h1; cases h2
            exact fun e => h25 e.symm⟩, rfl, rfl, rfl⟩
    · skip
      simp only [decide_eq_false_iff_not] at h13
      have hkl' : k = l.length := by omega
      have hid : compact l = l := compact_id (fun i x y h1 h2 => hne i x y (by have := (List.getElem?_eq_some_iff.1 h2).1; omega) h1 h2)
      refine G.region rfl (fun R hR => ?_)
      iterate 2 refine D.pure rfl rfl rfl rfl rfl rfl ?_
      refine D.done [(2, [], _)] ⟨rfl, trivial⟩ (hR _ _ _ rfl ?_); clear hR R
      refine G.freezeArr 0 (l.map Rel.enc) rfl rfl (by intro r hr; obtain ⟨x, _, rfl⟩ := List.mem_map.1 hr; exact rel_len x) (by simp) (fun Cf hlef hsf => G.retN (G.fin1 rfl rfl ?_))
      exact ⟨rfl, by rw [hid]; exact hsf⟩

set_option maxHeartbeats 1000000 in
theorem compact_arc (C : Mem) (v : Value) (l : List ArcE) (hl : l.length ≤ 1000000) :
    Jog.Fn cx.P 50 [v] C [.arr v 61 2 l.length (l.map ArcE.enc).flatten] fun u C' L' => L' = [] ∧ Sl C' 2 u ((compact l).map ArcE.enc) := by
  refine Fn.intro (by kernel_rfl) Tryd.func50 rfl 61 rfl rfl (fun w0 => ?_)
  refine G.form (.head _) (fun hform hxl => ?_)
  have hlt : l.length < 2 ∨ ∃ g c, v = .slice (some ⟨g, 0, none⟩) l.length c ∧ l.length ≤ c ∧ c ≤ maxLen := by
    rcases hform with ⟨h1, h2⟩ | h1
    · exact .inl (by omega)
    · exact .inr h1
  obtain ⟨A, c0, hv⟩ : ∃ A c0, v = .slice A l.length c0 := by
    rcases hform with ⟨h1, h2⟩ | ⟨g, c, h1, _⟩
    · exact ⟨none, 0, by rw [h1, h2]⟩
    · exact ⟨_, c, h1⟩
  refine G.region rfl (fun R hR => ?_)
  refine D.pure rfl rfl rfl rfl rfl rfl ?_
  refine D.done [(0, [], _)] ⟨rfl, trivial⟩ (hR _ _ _ rfl ?_); clear hR R
  subst hv
  refine G.region rfl (fun R hR => ?_)
  iterate 3 refine D.pure rfl rfl rfl rfl rfl rfl ?_
  refine D.done [(0, [], _), (8, [], _)] ⟨rfl, rfl, trivial⟩ (hR _ _ _ rfl ?_); clear hR R
  refine G.cond rfl (fun h8 => ?_) (fun h8 => ?_)
  · skip
    simp only [decide_eq_true_eq] at h8
    have hid : compact l = l := compact_id (fun i x y _ h2 => by have := (List.getElem?_eq_some_iff.1 h2).1; omega)
    refine G.region rfl (fun R hR => ?_)
    iterate 2 refine D.pure rfl rfl rfl rfl rfl rfl ?_
    refine D.done [(2, [], _)] ⟨rfl, trivial⟩ (hR _ _ _ rfl ?_); clear hR R
    refine G.freezeArr 0 (l.map ArcE.enc) rfl rfl (by intro r hr; obtain ⟨x, _, rfl⟩ := List.mem_map.1 hr; exact arc_len x) (by simp) (fun Cf hlef hsf => G.retN (G.fin1 rfl rfl ?_))
    exact ⟨rfl, by rw [hid]; exact hsf⟩
  · skip
    simp only [decide_eq_false_iff_not] at h8
    obtain ⟨g, c, hv, hlc, hcm⟩ := hlt.resolve_left (by omega)
    obtain ⟨rfl, rfl⟩ : some (⟨g, 0, none⟩ : Addr) = A ∧ c = c0 := by cases hv; exact ⟨rfl, rfl⟩
    refine G.region rfl (fun R hR => ?_)
    refine D.pure rfl rfl rfl rfl rfl rfl ?_
    refine D.done [(0, [], _), (3, [], _)] ⟨rfl, rfl, trivial⟩ (hR _ _ _ rfl ?_); clear hR R
    refine G.loop (fun fr C' L' μ => ∃ (k : Nat), (1 ≤ k ∧ k ≤ l.length ∧ ∀ i x y, i + 1 < k → l[i]? = some x → l[i + 1]? = some y → x ≠ y) ∧ fr = [(0, [], .slice (some ⟨g, 0, none⟩) l.length c), (3, [], .int .i64 k)] ∧ L' = [.arr (.slice (some ⟨g, 0, none⟩) l.length c) 61 2 l.length (l.map ArcE.enc).flatten] ∧ μ = l.length - k) (fr' := [(0, [], _), (3, [], _)]) ⟨rfl, rfl, trivial⟩ ⟨1, ⟨Nat.le_refl _, by omega, fun i x y hi => by omega⟩, rfl, rfl, rfl⟩ (fun fr C0' L0' m hle0 hI => ?_)
    obtain ⟨k, ⟨hk1, hkl, hne⟩, rfl, rfl, rfl⟩ := hI
    refine G.region rfl (fun R hR => ?_)
    iterate 4 refine D.pure rfl rfl rfl rfl rfl rfl ?_
    refine D.done [(0, [], _), (3, [], _), (13, [], _)] ⟨rfl, rfl, rfl, trivial⟩ (hR _ _ _ rfl ?_); clear hR R
    refine G.cond rfl (fun h13 => ?_) (fun h13 => ?_)
    · skip
      simp only [decide_eq_true_eq] at h13
      obtain ⟨z, hz⟩ : ∃ z, l[k]? = some z := ⟨l[k]'(by omega), List.getElem?_eq_getElem (by omega)⟩
      obtain ⟨y, hy⟩ : ∃ y, l[k - 1]? = some y := ⟨l[k - 1]'(by omega), List.getElem?_eq_getElem (by omega)⟩
      refine G.draw [0, 1, 2, 3, 4, 5, 6, 7, 8, 9] [] rfl (by kernel_rfl) (fun R hB hR => ?_)
      iterate 2 refine D.pure rfl rfl rfl rfl rfl rfl ?_
      refine D.indexS (k * 2) rfl rfl rfl rfl rfl rfl rfl rfl rfl rfl (fun _ => ⟨by omega, by omega, rfl⟩) rfl rfl ?_
      refine D.loadArr (.head _) rfl rfl rfl rfl rfl rfl (fun _ => (by rw [row_read arc_len hz]; rfl)) rfl rfl ?_
      iterate 2 refine D.pure rfl rfl rfl rfl rfl rfl ?_
      refine D.i64 (((k - 1 : Nat) : Int)) rfl rfl rfl rfl (by omega) (by omega) (by omega) rfl rfl ?_
      refine D.indexS ((k - 1) * 2) rfl rfl rfl rfl rfl rfl rfl rfl rfl rfl (fun _ => ⟨by omega, by omega, rfl⟩) rfl rfl ?_
      refine D.loadArr (.head _) rfl rfl rfl rfl rfl rfl (fun _ => (by rw [row_read arc_len hy]; rfl)) rfl rfl ?_
      refine D.eqAgg (decide (z = y)) (by kernel_rfl) rfl rfl rfl rfl rfl rfl rfl rfl (fun _ => eqRow_arc _ _) rfl rfl ?_
      refine D.done [(0, [], _), (3, [], _), (25, [], _)] ⟨rfl, rfl, rfl, trivial⟩ (hR _ _ _ rfl ?_); clear hR hB R
      refine G.cond rfl (fun h25 => ?_) (fun h25 => ?_)
      · skip
        simp only [decide_eq_true_eq] at h25
        subst h25
        refine G.region rfl (fun R hR => ?_)
        iterate 2 refine D.pure rfl rfl rfl rfl rfl rfl ?_
        have hA : (if c = k then (some ⟨g, 0, none⟩ : Option Addr) else (some (⟨g, 0, none⟩ : Addr)).map (·.add (k * 2))) = some ⟨g, k * 2, none⟩ := by
          rw [if_neg (by omega)]
          simp only [Option.map_some, Addr.add_lit, Nat.zero_add]
        refine D.sliceV k l.length c rfl rfl rfl rfl rfl rfl rfl rfl rfl rfl rfl rfl (fun _ => ⟨.inr ⟨_, rfl⟩, .inl ⟨rfl, rfl⟩, .inl ⟨rfl, rfl⟩, by omega, hlc, Nat.le_refl _⟩) rfl rfl ?_
        rw [hA]
        refine D.pure rfl rfl rfl rfl rfl rfl ?_
        refine D.done [(0, [], _), (3, [], _), (4, [], (.slice (some ⟨g, k * 2, none⟩) (l.length - k) (c - k)))] ⟨rfl, rfl, rfl, trivial⟩ (hR _ _ _ rfl ?_); clear hR R
        refine G.region rfl (fun R hR => ?_)
        refine D.pure rfl rfl rfl rfl rfl rfl ?_
        refine D.done [(0, [], _), (3, [], _), (4, [], _), (5, [], _)] ⟨rfl, rfl, rfl, rfl, trivial⟩ (hR _ _ _ rfl ?_); clear hR R
        have hck : compact (l.take k) = l.take k := compact_id (fun i x y h1 h2 => by
          have hb := (List.getElem?_eq_some_iff.1 h2).1
          simp only [List.length_take] at hb
          rw [List.getElem?_take] at h1 h2
          rw [if_pos (by omega)] at h1 h2
          exact hne i x y (by omega) h1 h2)
        have hk1' : l.take (k + 1) = l.take k ++ [z] := by rw [List.take_add_one, hz]; rfl
        have hcs : compact (l.take (k + 1)) = l.take k := by
          rw [hk1', compact_snoc (z := z) (i := k - 1) (by rw [List.getElem?_take, if_pos (by omega)]; exact hy) (by simp only [List.length_take]; omega), if_pos rfl, hck]
        refine G.loop (fun fr C' L' μ => ∃ (q : Nat) (i : Nat) (r : List ArcE), (1 ≤ q ∧ k + q ≤ l.length ∧ r.length = l.length ∧ i = (compact (l.take (k + q))).length ∧ i ≤ k + q - 1 ∧ r.take i = compact (l.take (k + q)) ∧ (∀ j, k + q - 1 ≤ j → r[j]? = l[j]?)) ∧ fr = [(0, [], .slice (some ⟨g, 0, none⟩) l.length c), (3, [], .int .i64 i), (4, [], .slice (some ⟨g, k * 2, none⟩) (l.length - k) (c - k)), (5, [], .int .i64 q)] ∧ L' = [.arr (.slice (some ⟨g, 0, none⟩) l.length c) 61 2 l.length (r.map ArcE.enc).flatten] ∧ μ = l.length - (k + q)) (fr' := [(0, [], _), (3, [], _), (4, [], _), (5, [], _)]) ⟨rfl, rfl, rfl, rfl, trivial⟩ ⟨1, k, l, ⟨Nat.le_refl _, by omega, rfl, by rw [hcs]; simp only [List.length_take]; omega, by omega, by rw [hcs], fun _ _ => rfl⟩, rfl, rfl, rfl⟩ (fun fr C1' L1' m hle1 hI => ?_)
        obtain ⟨q, i, r, ⟨hq1, hql, hrl, hi, hik, hrt, hrs⟩, rfl, rfl, rfl⟩ := hI
        refine G.region rfl (fun R hR => ?_)
        iterate 4 refine D.pure rfl rfl rfl rfl rfl rfl ?_
        refine D.done [(0, [], _), (3, [], _), (4, [], _), (5, [], _), (32, [], _)] ⟨rfl, rfl, rfl, rfl, rfl, trivial⟩ (hR _ _ _ rfl ?_); clear hR R
        refine G.cond rfl (fun h32 => ?_) (fun h32 => ?_)
        · skip
          simp only [decide_eq_true_eq] at h32
          obtain ⟨b2, hb2⟩ : ∃ z, r[k + q]? = some z := ⟨r[k + q]'(by omega), List.getElem?_eq_getElem (by omega)⟩
          obtain ⟨a2, ha2⟩ : ∃ y, r[k + q - 1]? = some y := ⟨r[k + q - 1]'(by omega), List.getElem?_eq_getElem (by omega)⟩
          have hb2l : l[k + q]? = some b2 := by rw [← hrs _ (by omega)]; exact hb2
          have ha2l : l[k + q - 1]? = some a2 := by rw [← hrs _ (by omega)]; exact ha2
          have hnext : compact (l.take (k + (q + 1))) = if a2 = b2 then compact (l.take (k + q)) else compact (l.take (k + q)) ++ [b2] := by
            have e : l.take (k + (q + 1)) = l.take (k + q) ++ [b2] := by rw [show k + (q + 1) = k + q + 1 by omega, List.take_add_one, hb2l]; rfl
            rw [e, compact_snoc (z := a2) (i := k + q - 1) (by rw [List.getElem?_take, if_pos (by omega)]; exact ha2l) (by simp only [List.length_take]; omega)]
          refine G.draw [0, 1, 2, 3, 4, 5, 6, 7, 8, 9] [] rfl (by kernel_rfl) (fun R hB hR => ?_)
          iterate 2 refine D.pure rfl rfl rfl rfl rfl rfl ?_
          refine D.indexSo ((k + q) * 2) rfl rfl rfl rfl rfl rfl rfl rfl rfl rfl (fun _ => ⟨by omega, by omega, Nat.add_mul k q 2⟩) rfl rfl ?_
          refine D.loadArr (.head _) rfl rfl rfl rfl rfl rfl (fun _ => (by rw [row_read arc_len hb2]; rfl)) rfl rfl ?_
          iterate 2 refine D.pure rfl rfl rfl rfl rfl rfl ?_
          refine D.i64 (((q - 1 : Nat) : Int)) rfl rfl rfl rfl (by omega) (by omega) (by omega) rfl rfl ?_
          refine D.indexSo ((k + q - 1) * 2) rfl rfl rfl rfl rfl rfl rfl rfl rfl rfl (fun _ => ⟨by omega, by omega, (by rw [Nat.add_sub_assoc hq1]; exact Nat.add_mul k (q - 1) 2)⟩) rfl rfl ?_
          refine D.loadArr (.head _) rfl rfl rfl rfl rfl rfl (fun _ => (by rw [row_read arc_len ha2]; rfl)) rfl rfl ?_
          refine D.neAgg (!decide (b2 = a2)) (by kernel_rfl) rfl rfl rfl rfl rfl rfl rfl rfl (fun _ => congrArg (fun q => !q) (eqRow_arc _ _)) rfl rfl ?_
          refine D.done [(0, [], _), (3, [], _), (4, [], _), (5, [], _), (44, [], _)] ⟨rfl, rfl, rfl, rfl, rfl, trivial⟩ (hR _ _ _ rfl ?_); clear hR hB R
          refine G.cond rfl (fun h44 => ?_) (fun h44 => ?_)
          · skip
            simp only [Bool.not_eq_true', decide_eq_false_iff_not] at h44
            refine G.region rfl (fun R hR => ?_)
            iterate 4 refine D.pure rfl rfl rfl rfl rfl rfl ?_
            refine D.indexSo ((k + q) * 2) rfl rfl rfl rfl rfl rfl rfl rfl rfl rfl (fun _ => ⟨by omega, by omega, Nat.add_mul k q 2⟩) rfl rfl ?_
            refine D.loadArr (.head _) rfl rfl rfl rfl rfl rfl (fun _ => (by rw [row_read arc_len hb2]; rfl)) rfl rfl ?_
            refine D.indexS (i * 2) rfl rfl rfl rfl rfl rfl rfl rfl rfl rfl (fun _ => ⟨by omega, by omega, rfl⟩) rfl rfl ?_
            refine D.storeArr (j := 0) rfl rfl rfl rfl rfl rfl rfl rfl rfl rfl rfl (by rw [rows_len arc_len, hrl]; have h9 : (i + 1) * 2 ≤ l.length * 2 := Nat.mul_le_mul_right _ (by omega); rw [Nat.add_mul] at h9; simpa [ArcE.enc] using h9) ?_
            refine D.done [(0, [], _), (3, [], _), (4, [], _), (5, [], _)] ⟨rfl, rfl, rfl, rfl, trivial⟩ (hR _ _ _ rfl ?_); clear hR R
            refine G.region rfl (fun R hR => ?_)
            refine D.pure rfl rfl rfl rfl rfl rfl ?_
            refine D.i64 (((i + 1 : Nat) : Int)) rfl rfl rfl rfl (by omega) (by omega) (by omega) rfl rfl ?_
            refine D.pure rfl rfl rfl rfl rfl rfl ?_
            refine D.done [(0, [], _), (3, [], _), (4, [], _), (5, [], _)] ⟨rfl, rfl, rfl, rfl, trivial⟩ (hR _ _ _ rfl ?_); clear hR R
            refine G.region rfl (fun R hR => ?_)
            refine D.pure rfl rfl rfl rfl rfl rfl ?_
            refine D.i64 (((q + 1 : Nat) : Int)) rfl rfl rfl rfl (by omega) (by omega) (by omega) rfl rfl ?_
            refine D.pure rfl rfl rfl rfl rfl rfl ?_
            refine D.done [(0, [], _), (3, [], _), (4, [], _), (5, [], _)] ⟨rfl, rfl, rfl, rfl, trivial⟩ (hR _ _ _ rfl ?_); clear hR R
            have hw : storeInto (r.map ArcE.enc).flatten (ArcE.enc b2) (i * 2) = ((r.set i b2).map ArcE.enc).flatten := row_write arc_len b2 (by omega)
            have hw' : ∀ L0, (Ent.arr (.slice (some ⟨g, 0, none⟩) l.length c) 61 2 l.length (storeInto (r.map ArcE.enc).flatten (ArcE.enc b2) (i * 2)) :: L0) = Ent.arr (.slice (some ⟨g, 0, none⟩) l.length c) 61 2 l.length ((r.set i b2).map ArcE.enc).flatten :: L0 := fun L0 => by rw [hw]
            refine G.eqL (hw' []) ?_
            refine G.again (m' := l.length - (k + (q + 1))) (by omega) hle1 (fr' := [(0, [], _), (3, [], _), (4, [], _), (5, [], _)]) ⟨rfl, rfl, rfl, rfl, trivial⟩ ⟨q + 1, i + 1, r.set i b2, ⟨by omega, by omega, by simpa using hrl, by rw [hnext, if_neg (Ne.symm h44), List.length_append, ← hi]; rfl, by omega, by
              rw [hnext, if_neg (Ne.symm h44), ← hrt, List.take_add_one, List.take_set_of_le (Nat.le_refl _), List.getElem?_set_self (by omega)]
              rfl, fun j hj => by rw [List.getElem?_set_ne (by omega)]; exact hrs j (by omega)⟩, rfl, rfl, rfl⟩
          · skip
            simp only [Bool.not_eq_false', decide_eq_true_eq] at h44
            subst h44
            refine G.region rfl (fun R hR => ?_)
            refine D.pure rfl rfl rfl rfl rfl rfl ?_
            refine D.i64 (((q + 1 : Nat) : Int)) rfl rfl rfl rfl (by omega) (by omega) (by omega) rfl rfl ?_
            refine D.pure rfl rfl rfl rfl rfl rfl ?_
            refine D.done [(0, [], _), (3, [], _), (4, [], _), (5, [], _)] ⟨rfl, rfl, rfl, rfl, trivial⟩ (hR _ _ _ rfl ?_); clear hR R
            refine G.again (m' := l.length - (k + (q + 1))) (by omega) hle1 (fr' := [(0, [], _), (3, [], _), (4, [], _), (5, [], _)]) ⟨rfl, rfl, rfl, rfl, trivial⟩ ⟨q + 1, i, r, ⟨by omega, by omega, hrl, by rw [hnext, if_pos rfl]; exact hi, by omega, by rw [hnext, if_pos rfl]; exact hrt, fun j hj => hrs j (by omega)⟩, rfl, rfl, rfl⟩
        · skip
          simp only [decide_eq_false_iff_not] at h32
          have hkq : k + q = l.length := by omega
          rw [hkq, List.take_length] at hrt hi
          have hil : i ≤ l.length := by rw [hi]; exact compact_length_le l
          refine G.region rfl (fun R hR => ?_)
          iterate 2 refine D.pure rfl rfl rfl rfl rfl rfl ?_
          refine D.sliceV i l.length c rfl rfl rfl rfl rfl rfl rfl rfl rfl rfl rfl rfl (fun _ => ⟨.inr ⟨_, rfl⟩, .inl ⟨rfl, rfl⟩, .inl ⟨rfl, rfl⟩, by omega, hlc, Nat.le_refl _⟩) rfl rfl ?_
          refine D.clear 0 (off := i * 2) rfl rfl rfl rfl rfl rfl rfl rfl rfl rfl rfl (by
            by_cases hci : c = i
            · exact .inl (by omega)
            · refine .inr ?_
              rw [if_neg hci]
              simp only [Option.map_some, Addr.add_lit, Nat.zero_add]) (by rw [rows_len arc_len, hrl, ← Nat.add_mul]; exact Nat.mul_le_mul_right _ (by omega)) ?_
          refine D.done [(0, [], _), (3, [], _)] ⟨rfl, rfl, trivial⟩ (hR _ _ _ rfl ?_); clear hR R
          refine G.region rfl (fun R hR => ?_)
          iterate 2 refine D.pure rfl rfl rfl rfl rfl rfl ?_
          refine D.sliceV 0 i c rfl rfl rfl rfl rfl rfl rfl rfl rfl rfl rfl rfl (fun _ => ⟨.inl ⟨rfl, rfl⟩, .inr ⟨_, rfl⟩, .inl ⟨rfl, rfl⟩, by omega, by omega, Nat.le_refl _⟩) rfl rfl ?_
          refine D.pure rfl rfl rfl rfl rfl rfl ?_
          refine D.done [(2, [], _)] ⟨rfl, trivial⟩ (hR _ _ _ rfl ?_); clear hR R
          refine G.freezeArr 0 ((r.take i).map ArcE.enc ++ List.replicate (l.length - i) ([.string ⟨#[]⟩, .string ⟨#[]⟩] : List Value)) rfl ?_ ?_ (by simp; omega) (fun Cf hlef hsf => G.retN (G.fin1 rfl rfl ?_))
          · unfold storeInto
            have e1 : (zrow ([.string ⟨#[]⟩, .string ⟨#[]⟩] : List Value) (l.length - i)).length = (l.length - i) * 2 := zrow_length _ _
            refine Eq.trans (congrArg (· ++ _) (congrArg (· ++ _) (flatten_take_drop arc_len r i).1)) ?_
            rw [List.flatten_append, List.append_assoc]
            congr 1
            rw [← zrow_flatten]
            refine Eq.trans (congrArg (_ ++ ·) (List.drop_eq_nil_of_le ?_)) (List.append_nil _)
            rw [rows_len arc_len, hrl]
            refine Nat.le_trans (Nat.le_of_eq ?_) (Nat.le_of_eq (congrArg (i * 2 + ·) e1.symm))
            rw [← Nat.add_mul]; congr 1; omega
          · intro x hx
            rcases List.mem_append.1 hx with hx | hx
            · obtain ⟨y, _, rfl⟩ := List.mem_map.1 hx; exact arc_len y
            · rw [List.eq_of_mem_replicate hx]; rfl
          refine ⟨rfl, ?_⟩
          have hsub := Sl.sub hsf (l := 0) (h := i) (m := c) (Nat.zero_le _) (by simp; omega) (by omega) (Nat.le_refl _)
          have hti : (((r.take i).map ArcE.enc ++ List.replicate (l.length - i) ([.string ⟨#[]⟩, .string ⟨#[]⟩] : List Value)).take i).drop 0 = (compact l).map ArcE.enc := by
            rw [List.drop_zero, List.take_append_of_le_length (by simp; omega), List.take_of_length_le (by simp; omega), hrt]
          rw [hti] at hsub
          exact hsub
      · skip
        simp only [decide_eq_false_iff_not] at h25
        refine G.region rfl (fun R hR => ?_)
        refine D.pure rfl rfl rfl rfl rfl rfl ?_
        refine D.i64 (((k + 1 : Nat) : Int)) rfl rfl rfl rfl (by omega) (by omega) (by omega) rfl rfl ?_
        refine D.pure rfl rfl rfl rfl rfl rfl ?_
        refine D.done [(0, [], _), (3, [], _)] ⟨rfl, rfl, trivial⟩ (hR _ _ _ rfl ?_); clear hR R
        refine G.again (m' := l.length - (k + 1)) (by omega) hle0 (fr' := [(0, [], _), (3, [], _)]) ⟨rfl, rfl, trivial⟩ ⟨k + 1, ⟨by omega, by omega, fun i x y' hi h1 h2 => by
          by_cases hi' : i + 1 < k
          · exact hne i x y' hi' h1 h2
          · have e : i = k - 1 := by omega
            subst e
            rw [show k - 1 + 1 = k by omega, hz] at h2
            rw [hy] at h1
            cases h1; cases h2
            exact fun e => h25 e.symm⟩, rfl, rfl, rfl⟩
    · skip
      simp only [decide_eq_false_iff_not] at h13
      have hkl' : k = l.length := by omega
      have hid : compact l = l := compact_id (fun i x y h1 h2 => hne i x y (by have := (List.getElem?_eq_some_iff.1 h2).1; omega) h1 h2)
      refine G.region rfl (fun R hR => ?_)
      iterate 2 refine D.pure rfl rfl rfl rfl rfl rfl ?_
      refine D.done [(2, [], _)] ⟨rfl, trivial⟩ (hR _ _ _ rfl ?_); clear hR R
      refine G.freezeArr 0 (l.map ArcE.enc) rfl rfl (by intro r hr; obtain ⟨x, _, rfl⟩ := List.mem_map.1 hr; exact arc_len x) (by simp) (fun Cf hlef hsf => G.retN (G.fin1 rfl rfl ?_))
      exact ⟨rfl, by rw [hid]; exact hsf⟩

set_option maxHeartbeats 1000000 in
theorem compact_str (C : Mem) (v : Value) (l : List Str) (hl : l.length ≤ 1000000) :
    Jog.Fn cx.P 45 [v] C [.arr v 9 1 l.length (l.map encS).flatten] fun u C' L' => L' = [] ∧ Sl C' 1 u ((compact l).map encS) := by
  refine Fn.intro (by kernel_rfl) Tryd.func45 rfl 61 rfl rfl (fun w0 => ?_)
  refine G.form (.head _) (fun hform hxl => ?_)
  have hlt : l.length < 2 ∨ ∃ g c, v = .slice (some ⟨g, 0, none⟩) l.length c ∧ l.length ≤ c ∧ c ≤ maxLen := by
    rcases hform with ⟨h1, h2⟩ | h1
    · exact .inl (by omega)
    · exact .inr h1
  obtain ⟨A, c0, hv⟩ : ∃ A c0, v = .slice A l.length c0 := by
    rcases hform with ⟨h1, h2⟩ | ⟨g, c, h1, _⟩
    · exact ⟨none, 0, by rw [h1, h2]⟩
    · exact ⟨_, c, h1⟩
  refine G.region rfl (fun R hR => ?_)
  refine D.pure rfl rfl rfl rfl rfl rfl ?_
  refine D.done [(0, [], _)] ⟨rfl, trivial⟩ (hR _ _ _ rfl ?_); clear hR R
  subst hv
  refine G.region rfl (fun R hR => ?_)
  iterate 3 refine D.pure rfl rfl rfl rfl rfl rfl ?_
  refine D.done [(0, [], _), (8, [], _)] ⟨rfl, rfl, trivial⟩ (hR _ _ _ rfl ?_); clear hR R
  refine G.cond rfl (fun h8 => ?_) (fun h8 => ?_)
  · skip
    simp only [decide_eq_true_eq] at h8
    have hid : compact l = l := compact_id (fun i x y _ h2 => by have := (List.getElem?_eq_some_iff.1 h2).1; omega)
    refine G.region rfl (fun R hR => ?_)
    iterate 2 refine D.pure rfl rfl rfl rfl rfl rfl ?_
    refine D.done [(2, [], _)] ⟨rfl, trivial⟩ (hR _ _ _ rfl ?_); clear hR R
    refine G.freezeArr 0 (l.map encS) rfl rfl (by intro r hr; obtain ⟨x, _, rfl⟩ := List.mem_map.1 hr; exact str_len x) (by simp) (fun Cf hlef hsf => G.retN (G.fin1 rfl rfl ?_))
    exact ⟨rfl, by rw [hid]; exact hsf⟩
  · skip
    simp only [decide_eq_false_iff_not] at h8
    obtain ⟨g, c, hv, hlc, hcm⟩ := hlt.resolve_left (by omega)
    obtain ⟨rfl, rfl⟩ : some (⟨g, 0, none⟩ : Addr) = A ∧ c = c0 := by cases hv; exact ⟨rfl, rfl⟩
    refine G.region rfl (fun R hR => ?_)
    refine D.pure rfl rfl rfl rfl rfl rfl ?_
    refine D.done [(0, [], _), (3, [], _)] ⟨rfl, rfl, trivial⟩ (hR _ _ _ rfl ?_); clear hR R
    refine G.loop (fun fr C' L' μ => ∃ (k : Nat), (1 ≤ k ∧ k ≤ l.length ∧ ∀ i x y, i + 1 < k → l[i]? = some x → l[i + 1]? = some y → x ≠ y) ∧ fr = [(0, [], .slice (some ⟨g, 0, none⟩) l.length c), (3, [], .int .i64 k)] ∧ L' = [.arr (.slice (some ⟨g, 0, none⟩) l.length c) 9 1 l.length (l.map encS).flatten] ∧ μ = l.length - k) (fr' := [(0, [], _), (3, [], _)]) ⟨rfl, rfl, trivial⟩ ⟨1, ⟨Nat.le_refl _, by omega, fun i x y hi => by omega⟩, rfl, rfl, rfl⟩ (fun fr C0' L0' m hle0 hI => ?_)
    obtain ⟨k, ⟨hk1, hkl, hne⟩, rfl, rfl, rfl⟩ := hI
    refine G.region rfl (fun R hR => ?_)
    iterate 4 refine D.pure rfl rfl rfl rfl rfl rfl ?_
    refine D.done [(0, [], _), (3, [], _), (13, [], _)] ⟨rfl, rfl, rfl, trivial⟩ (hR _ _ _ rfl ?_); clear hR R
    refine G.cond rfl (fun h13 => ?_) (fun h13 => ?_)
    · skip
      simp only [decide_eq_true_eq] at h13
      obtain ⟨z, hz⟩ : ∃ z, l[k]? = some z := ⟨l[k]'(by omega), List.getElem?_eq_getElem (by omega)⟩
      obtain ⟨y, hy⟩ : ∃ y, l[k - 1]? = some y := ⟨l[k - 1]'(by omega), List.getElem?_eq_getElem (by omega)⟩
      refine G.draw [0, 1, 2, 3, 4, 5, 6, 7, 8, 9] [] rfl (by kernel_rfl) (fun R hB hR => ?_)
      iterate 2 refine D.pure rfl rfl rfl rfl rfl rfl ?_
      refine D.indexS (k * 1) rfl rfl rfl rfl rfl rfl rfl rfl rfl rfl (fun _ => ⟨by omega, by omega, rfl⟩) rfl rfl ?_
      refine D.loadArr (.head _) rfl rfl rfl rfl rfl rfl (fun _ => (by rw [row_read str_len hz]; rfl)) rfl rfl ?_
      iterate 2 refine D.pure rfl rfl rfl rfl rfl rfl ?_
      refine D.i64 (((k - 1 : Nat) : Int)) rfl rfl rfl rfl (by omega) (by omega) (by omega) rfl rfl ?_
      refine D.indexS ((k - 1) * 1) rfl rfl rfl rfl rfl rfl rfl rfl rfl rfl (fun _ => ⟨by omega, by omega, rfl⟩) rfl rfl ?_
      refine D.loadArr (.head _) rfl rfl rfl rfl rfl rfl (fun _ => (by rw [row_read str_len hy]; rfl)) rfl rfl ?_
      refine D.as (.bool (decide (z = y))) rfl rfl rfl rfl (congrArg Value.bool (eqStr _ _)) rfl rfl ?_
      refine D.done [(0, [], _), (3, [], _), (25, [], _)] ⟨rfl, rfl, rfl, trivial⟩ (hR _ _ _ rfl ?_); clear hR hB R
      refine G.cond rfl (fun h25 => ?_) (fun h25 => ?_)
      · skip
        simp only [decide_eq_true_eq] at h25
        subst h25
        refine G.region rfl (fun R hR => ?_)
        iterate 2 refine D.pure rfl rfl rfl rfl rfl rfl ?_
        have hA : (if c = k then (some ⟨g, 0, none⟩ : Option Addr) else (some (⟨g, 0, none⟩ : Addr)).map (·.add (k * 1))) = some ⟨g, k * 1, none⟩ := by
          rw [if_neg (by omega)]
          simp only [Option.map_some, Addr.add_lit, Nat.zero_add]
        refine D.sliceV k l.length c rfl rfl rfl rfl rfl rfl rfl rfl rfl rfl rfl rfl (fun _ => ⟨.inr ⟨_, rfl⟩, .inl ⟨rfl, rfl⟩, .inl ⟨rfl, rfl⟩, by omega, hlc, Nat.le_refl _⟩) rfl rfl ?_
        rw [hA]
        refine D.pure rfl rfl rfl rfl rfl rfl ?_
        refine D.done [(0, [], _), (3, [], _), (4, [], (.slice (some ⟨g, k * 1, none⟩) (l.length - k) (c - k)))] ⟨rfl, rfl, rfl, trivial⟩ (hR _ _ _ rfl ?_); clear hR R
        refine G.region rfl (fun R hR => ?_)
        refine D.pure rfl rfl rfl rfl rfl rfl ?_
        refine D.done [(0, [], _), (3, [], _), (4, [], _), (5, [], _)] ⟨rfl, rfl, rfl, rfl, trivial⟩ (hR _ _ _ rfl ?_); clear hR R
        have hck : compact (l.take k) = l.take k := compact_id (fun i x y h1 h2 => by
          have hb := (List.getElem?_eq_some_iff.1 h2).1
          simp only [List.length_take] at hb
          rw [List.getElem?_take] at h1 h2
          rw [if_pos (by omega)] at h1 h2
          exact hne i x y (by omega) h1 h2)
        have hk1' : l.take (k + 1) = l.take k ++ [z] := by rw [List.take_add_one, hz]; rfl
        have hcs : compact (l.take (k + 1)) = l.take k := by
          rw [hk1', compact_snoc (z := z) (i := k - 1) (by rw [List.getElem?_take, if_pos (by omega)]; exact hy) (by simp only [List.length_take]; omega), if_pos rfl, hck]
        refine G.loop (fun fr C' L' μ => ∃ (q : Nat) (i : Nat) (r : List Str), (1 ≤ q ∧ k + q ≤ l.length ∧ r.length = l.length ∧ i = (compact (l.take (k + q))).length ∧ i ≤ k + q - 1 ∧ r.take i = compact (l.take (k + q)) ∧ (∀ j, k + q - 1 ≤ j → r[j]? = l[j]?)) ∧ fr = [(0, [], .slice (some ⟨g, 0, none⟩) l.length c), (3, [], .int .i64 i), (4, [], .slice (some ⟨g, k * 1, none⟩) (l.length - k) (c - k)), (5, [], .int .i64 q)] ∧ L' = [.arr (.slice (some ⟨g, 0, none⟩) l.length c) 9 1 l.length (r.map encS).flatten] ∧ μ = l.length - (k + q)) (fr' := [(0, [], _), (3, [], _), (4, [], _), (5, [], _)]) ⟨rfl, rfl, rfl, rfl, trivial⟩ ⟨1, k, l, ⟨Nat.le_refl _, by omega, rfl, by rw [hcs]; simp only [List.length_take]; omega, by omega, by rw [hcs], fun _ _ => rfl⟩, rfl, rfl, rfl⟩ (fun fr C1' L1' m hle1 hI => ?_)
        obtain ⟨q, i, r, ⟨hq1, hql, hrl, hi, hik, hrt, hrs⟩, rfl, rfl, rfl⟩ := hI
        refine G.region rfl (fun R hR => ?_)
        iterate 4 refine D.pure rfl rfl rfl rfl rfl rfl ?_
        refine D.done [(0, [], _), (3, [], _), (4, [], _), (5, [], _), (32, [], _)] ⟨rfl, rfl, rfl, rfl, rfl, trivial⟩ (hR _ _ _ rfl ?_); clear hR R
        refine G.cond rfl (fun h32 => ?_) (fun h32 => ?_)
        · skip
          simp only [decide_eq_true_eq] at h32
          obtain ⟨b2, hb2⟩ : ∃ z, r[k + q]? = some z := ⟨r[k + q]'(by omega), List.getElem?_eq_getElem (by omega)⟩
          obtain ⟨a2, ha2⟩ : ∃ y, r[k + q - 1]? = some y := ⟨r[k + q - 1]'(by omega), List.getElem?_eq_getElem (by omega)⟩
          have hb2l : l[k + q]? = some b2 := by rw [← hrs _ (by omega)]; exact hb2
          have ha2l : l[k + q - 1]? = some a2 := by rw [← hrs _ (by omega)]; exact ha2
          have hnext : compact (l.take (k + (q + 1))) = if a2 = b2 then compact (l.take (k + q)) else compact (l.take (k + q)) ++ [b2] := by
            have e : l.take (k + (q + 1)) = l.take (k + q) ++ [b2] := by rw [show k + (q + 1) = k + q + 1 by omega, List.take_add_one, hb2l]; rfl
            rw [e, compact_snoc (z := a2) (i := k + q - 1) (by rw [List.getElem?_take, if_pos (by omega)]; exact ha2l) (by simp only [List.length_take]; omega)]
          refine G.draw [0, 1, 2, 3, 4, 5, 6, 7, 8, 9] [] rfl (by kernel_rfl) (fun R hB hR => ?_)
          iterate 2 refine D.pure rfl rfl rfl rfl rfl rfl ?_
          refine D.indexSo ((k + q) * 1) rfl rfl rfl rfl rfl rfl rfl rfl rfl rfl (fun _ => ⟨by omega, by omega, Nat.add_mul k q 1⟩) rfl rfl ?_
          refine D.loadArr (.head _) rfl rfl rfl rfl rfl rfl (fun _ => (by rw [row_read str_len hb2]; rfl)) rfl rfl ?_
          iterate 2 refine D.pure rfl rfl rfl rfl rfl rfl ?_
          refine D.i64 (((q - 1 : Nat) : Int)) rfl rfl rfl rfl (by omega) (by omega) (by omega) rfl rfl ?_
          refine D.indexSo ((k + q - 1) * 1) rfl rfl rfl rfl rfl rfl rfl rfl rfl rfl (fun _ => ⟨by omega, by omega, (by rw [Nat.add_sub_assoc hq1]; exact Nat.add_mul k (q - 1) 1)⟩) rfl rfl ?_
          refine D.loadArr (.head _) rfl rfl rfl rfl rfl rfl (fun _ => (by rw [row_read str_len ha2]; rfl)) rfl rfl ?_
          refine D.as (.bool (!decide (b2 = a2))) rfl rfl rfl rfl (congrArg (fun q => Value.bool (!q)) (eqStr _ _)) rfl rfl ?_
          refine D.done [(0, [], _), (3, [], _), (4, [], _), (5, [], _), (44, [], _)] ⟨rfl, rfl, rfl, rfl, rfl, trivial⟩ (hR _ _ _ rfl ?_); clear hR hB R
          refine G.cond rfl (fun h44 => ?_) (fun h44 => ?_)
          · skip
            simp only [Bool.not_eq_true', decide_eq_false_iff_not] at h44
            refine G.region rfl (fun R hR => ?_)
            iterate 4 refine D.pure rfl rfl rfl rfl rfl rfl ?_
            refine D.indexSo ((k + q) * 1) rfl rfl rfl rfl rfl rfl rfl rfl rfl rfl (fun _ => ⟨by omega, by omega, Nat.add_mul k q 1⟩) rfl rfl ?_
            refine D.loadArr (.head _) rfl rfl rfl rfl rfl rfl (fun _ => (by rw [row_read str_len hb2]; rfl)) rfl rfl ?_
            refine D.indexS (i * 1) rfl rfl rfl rfl rfl rfl rfl rfl rfl rfl (fun _ => ⟨by omega, by omega, rfl⟩) rfl rfl ?_
            refine D.storeArr (j := 0) rfl rfl rfl rfl rfl rfl rfl rfl rfl rfl rfl (by rw [rows_len str_len, hrl]; have h9 : (i + 1) * 1 ≤ l.length * 1 := Nat.mul_le_mul_right _ (by omega); rw [Nat.add_mul] at h9; simpa [encS] using h9) ?_
            refine D.done [(0, [], _), (3, [], _), (4, [], _), (5, [], _)] ⟨rfl, rfl, rfl, rfl, trivial⟩ (hR _ _ _ rfl ?_); clear hR R
            refine G.region rfl (fun R hR => ?_)
            refine D.pure rfl rfl rfl rfl rfl rfl ?_
            refine D.i64 (((i + 1 : Nat) : Int)) rfl rfl rfl rfl (by omega) (by omega) (by omega) rfl rfl ?_
            refine D.pure rfl rfl rfl rfl rfl rfl ?_
            refine D.done [(0, [], _), (3, [], _), (4, [], _), (5, [], _)] ⟨rfl, rfl, rfl, rfl, trivial⟩ (hR _ _ _ rfl ?_); clear hR R
            refine G.region rfl (fun R hR => ?_)
            refine D.pure rfl rfl rfl rfl rfl rfl ?_
            refine D.i64 (((q + 1 : Nat) : Int)) rfl rfl rfl rfl (by omega) (by omega) (by omega) rfl rfl ?_
            refine D.pure rfl rfl rfl rfl rfl rfl ?_
            refine D.done [(0, [], _), (3, [], _), (4, [], _), (5, [], _)] ⟨rfl, rfl, rfl, rfl, trivial⟩ (hR _ _ _ rfl ?_); clear hR R
            have hw : storeInto (r.map encS).flatten (encS b2) (i * 1) = ((r.set i b2).map encS).flatten := row_write str_len b2 (by omega)
            have hw' : ∀ L0, (Ent.arr (.slice (some ⟨g, 0, none⟩) l.length c) 9 1 l.length (storeInto (r.map encS).flatten (encS b2) (i * 1)) :: L0) = Ent.arr (.slice (some ⟨g, 0, none⟩) l.length c) 9 1 l.length ((r.set i b2).map encS).flatten :: L0 := fun L0 => by rw [hw]
            refine G.eqL (hw' []) ?_
            refine G.again (m' := l.length - (k + (q + 1))) (by omega) hle1 (fr' := [(0, [], _), (3, [], _), (4, [], _), (5, [], _)]) ⟨rfl, rfl, rfl, rfl, trivial⟩ ⟨q + 1, i + 1, r.set i b2, ⟨by omega, by omega, by simpa using hrl, by rw [hnext, if_neg (Ne.symm h44), List.length_append, ← hi]; rfl, by omega, by
              rw [hnext, if_neg (Ne.symm h44), ← hrt, List.take_add_one, List.take_set_of_le (Nat.le_refl _), List.getElem?_set_self (by omega)]
              rfl, fun j hj => by rw [List.getElem?_set_ne (by omega)]; exact hrs j (by omega)⟩, rfl, rfl, rfl⟩
          · skip
            simp only [Bool.not_eq_false', decide_eq_true_eq] at h44
            subst h44
            refine G.region rfl (fun R hR => ?_)
            refine D.pure rfl rfl rfl rfl rfl rfl ?_
            refine D.i64 (((q + 1 : Nat) : Int)) rfl rfl rfl rfl (by omega) (by omega) (by omega) rfl rfl ?_
            refine D.pure rfl rfl rfl rfl rfl rfl ?_
            refine D.done [(0, [], _), (3, [], _), (4, [], _), (5, [], _)] ⟨rfl, rfl, rfl, rfl, trivial⟩ (hR _ _ _ rfl ?_); clear hR R
            refine G.again (m' := l.length - (k + (q + 1))) (by omega) hle1 (fr' := [(0, [], _), (3, [], _), (4, [], _), (5, [], _)]) ⟨rfl, rfl, rfl, rfl, trivial⟩ ⟨q + 1, i, r, ⟨by omega, by omega, hrl, by rw [hnext, if_pos rfl]; exact hi, by omega, by rw [hnext, if_pos rfl]; exact hrt, fun j hj => hrs j (by omega)⟩, rfl, rfl, rfl⟩
        · skip
          simp only [decide_eq_false_iff_not] at h32
          have hkq : k + q = l.length := by omega
          rw [hkq, List.take_length] at hrt hi
          have hil : i ≤ l.length := by rw [hi]; exact compact_length_le l
          refine G.region rfl (fun R hR => ?_)
          iterate 2 refine D.pure rfl rfl rfl rfl rfl rfl ?_
          refine D.sliceV i l.length c rfl rfl rfl rfl rfl rfl rfl rfl rfl rfl rfl rfl (fun _ => ⟨.inr ⟨_, rfl⟩, .inl ⟨rfl, rfl⟩, .inl ⟨rfl, rfl⟩, by omega, hlc, Nat.le_refl _⟩) rfl rfl ?_
          refine D.clear 0 (off := i * 1) rfl rfl rfl rfl rfl rfl rfl rfl rfl rfl rfl (by
            by_cases hci : c = i
            · exact .inl (by omega)
            · refine .inr ?_
              rw [if_neg hci]
              simp only [Option.map_some, Addr.add_lit, Nat.zero_add]) (by rw [rows_len str_len, hrl, ← Nat.add_mul]; exact Nat.mul_le_mul_right _ (by omega)) ?_
          refine D.done [(0, [], _), (3, [], _)] ⟨rfl, rfl, trivial⟩ (hR _ _ _ rfl ?_); clear hR R
          refine G.region rfl (fun R hR => ?_)
          iterate 2 refine D.pure rfl rfl rfl rfl rfl rfl ?_
          refine D.sliceV 0 i c rfl rfl rfl rfl rfl rfl rfl rfl rfl rfl rfl rfl (fun _ => ⟨.inl ⟨rfl, rfl⟩, .inr ⟨_, rfl⟩, .inl ⟨rfl, rfl⟩, by omega, by omega, Nat.le_refl _⟩) rfl rfl ?_
          refine D.pure rfl rfl rfl rfl rfl rfl ?_
          refine D.done [(2, [], _)] ⟨rfl, trivial⟩ (hR _ _ _ rfl ?_); clear hR R
          refine G.freezeArr 0 ((r.take i).map encS ++ List.replicate (l.length - i) ([.string ⟨#[]⟩] : List Value)) rfl ?_ ?_ (by simp; omega) (fun Cf hlef hsf => G.retN (G.fin1 rfl rfl ?_))
          · unfold storeInto
            have e1 : (zrow ([.string ⟨#[]⟩] : List Value) (l.length - i)).length = (l.length - i) * 1 := zrow_length _ _
            refine Eq.trans (congrArg (· ++ _) (congrArg (· ++ _) (flatten_take_drop str_len r i).1)) ?_
            rw [List.flatten_append, List.append_assoc]
            congr 1
            rw [← zrow_flatten]
            refine Eq.trans (congrArg (_ ++ ·) (List.drop_eq_nil_of_le ?_)) (List.append_nil _)
            rw [rows_len str_len, hrl]
            refine Nat.le_trans (Nat.le_of_eq ?_) (Nat.le_of_eq (congrArg (i * 1 + ·) e1.symm))
            rw [← Nat.add_mul]; congr 1; omega
          · intro x hx
            rcases List.mem_append.1 hx with hx | hx
            · obtain ⟨y, _, rfl⟩ := List.mem_map.1 hx; exact str_len y
            · rw [List.eq_of_mem_replicate hx]; rfl
          refine ⟨rfl, ?_⟩
          have hsub := Sl.sub hsf (l := 0) (h := i) (m := c) (Nat.zero_le _) (by simp; omega) (by omega) (Nat.le_refl _)
          have hti : (((r.take i).map encS ++ List.replicate (l.length - i) ([.string ⟨#[]⟩] : List Value)).take i).drop 0 = (compact l).map encS := by
            rw [List.drop_zero, List.take_append_of_le_length (by simp; omega), List.take_of_length_le (by simp; omega), hrt]
          rw [hti] at hsub
          exact hsub
      · skip
        simp only [decide_eq_false_iff_not] at h25
        refine G.region rfl (fun R hR => ?_)
        refine D.pure rfl rfl rfl rfl rfl rfl ?_
        refine D.i64 (((k + 1 : Nat) : Int)) rfl rfl rfl rfl (by omega) (by omega) (by omega) rfl rfl ?_
        refine D.pure rfl rfl rfl rfl rfl rfl ?_
        refine D.done [(0, [], _), (3, [], _)] ⟨rfl, rfl, trivial⟩ (hR _ _ _ rfl ?_); clear hR R
        refine G.again (m' := l.length - (k + 1)) (by omega) hle0 (fr' := [(0, [], _), (3, [], _)]) ⟨rfl, rfl, trivial⟩ ⟨k + 1, ⟨by omega, by omega, fun i x y' hi h1 h2 => by
          by_cases hi' : i + 1 < k
          · exact hne i x y' hi' h1 h2
          · have e : i = k - 1 := by omega
            subst e
            rw [show k - 1 + 1 = k by omega, hz] at h2
            rw [hy] at h1
            cases h1; cases h2
            exact fun e => h25 e.symm⟩, rfl, rfl, rfl⟩
    · skip
      simp only [decide_eq_false_iff_not] at h13
      have hkl' : k = l.length := by omega
      have hid : compact l = l := compact_id (fun i x y h1 h2 => hne i x y (by have := (List.getElem?_eq_some_iff.1 h2).1; omega) h1 h2)
      refine G.region rfl (fun R hR => ?_)
      iterate 2 refine D.pure rfl rfl rfl rfl rfl rfl ?_
      refine D.done [(2, [], _)] ⟨rfl, trivial⟩ (hR _ _ _ rfl ?_); clear hR R
      refine G.freezeArr 0 (l.map encS) rfl rfl (by intro r hr; obtain ⟨x, _, rfl⟩ := List.mem_map.1 hr; exact str_len x) (by simp) (fun Cf hlef hsf => G.retN (G.fin1 rfl rfl ?_))
      exact ⟨rfl, by rw [hid]; exact hsf⟩

end Go.Proofs.YtjmfjobfmdhbfaaDoor
