/- Layer 20: names, Check and CheckAll of the relations, over the translation of this seat. -/
import Derived.Test.YtjmfjobfmdhbfaaDoorJogS
import Derived.Test.YtjmfjobfmdhbfaaDoorProg
namespace Go.Proofs.YtjmfjobfmdhbfaaDoor
open Go Go.Jog
def tab : Tab := [(2, ⟨.int .i64, 1, 8, [.int .i64], false⟩),
  (3, ⟨.int .i64, 1, 8, [.int .i64], false⟩),
  (4, ⟨.bool, 1, 1, [.bool], false⟩),
  (5, ⟨.int .u8, 1, 1, [.int .u8], false⟩),
  (9, ⟨.str, 1, 16, [.str], false⟩),
  (12, ⟨.int .u64, 1, 8, [.int .u64], false⟩),
  (21, ⟨.int .i32, 1, 4, [.int .i32], false⟩),
  (22, ⟨.slice 67, 1, 24, [.slice], false⟩),
  (24, ⟨.slice 33, 1, 24, [.slice], false⟩),
  (25, ⟨.int .i64, 1, 8, [.int .i64], false⟩),
  (33, ⟨.struct [(3, 0), (9, 1), (9, 2)], 3, 40, [.int .i64, .str, .str], true⟩),
  (36, ⟨.slice 9, 1, 24, [.slice], false⟩),
  (44, ⟨.slice 3, 1, 24, [.slice], false⟩),
  (48, ⟨.slice 51, 1, 24, [.slice], false⟩),
  (51, ⟨.arr 2 3, 2, 16, [.int .i64, .int .i64], true⟩),
  (57, ⟨.slice 61, 1, 24, [.slice], false⟩),
  (61, ⟨.struct [(9, 0), (9, 1)], 2, 32, [.str, .str], true⟩),
  (66, ⟨.arr 3 5, 3, 3, [.int .u8, .int .u8, .int .u8], true⟩),
  (67, ⟨.arr 3 5, 3, 3, [.int .u8, .int .u8, .int .u8], true⟩),
  (71, ⟨.arr 4 9, 4, 64, [.str, .str, .str, .str], true⟩),
  (74, ⟨.arr 5 9, 5, 80, [.str, .str, .str, .str, .str], true⟩),
  (76, ⟨.slice 5, 1, 24, [.slice], false⟩),
  (77, ⟨.ptr 9, 1, 8, [.ptr], false⟩),
  (78, ⟨.slice 77, 1, 24, [.slice], false⟩),
  (89, ⟨.int .u64, 1, 8, [.int .u64], false⟩),
  (105, ⟨.int .u32, 1, 4, [.int .u32], false⟩),
  (107, ⟨.int .u64, 1, 8, [.int .u64], false⟩),
  (126, ⟨.ptr 3, 1, 8, [.ptr], false⟩),
  (145, ⟨.arr 16 144, 32, 32, [.int .u8, .int .u8, .int .u8, .int .u8, .int .u8, .int .u8, .int .u8, .int .u8, .int .u8, .int .u8, .int .u8, .int .u8, .int .u8, .int .u8, .int .u8, .int .u8, .int .u8, .int .u8, .int .u8, .int .u8, .int .u8, .int .u8, .int .u8, .int .u8, .int .u8, .int .u8, .int .u8, .int .u8, .int .u8, .int .u8, .int .u8, .int .u8], true⟩),
  (151, ⟨.arr 0 16, 0, 0, [], true⟩),
  (158, ⟨.ptr 5, 1, 8, [.ptr], false⟩)]
noncomputable def cx : Cx := { P := Tryd.prog, T := tab, mixed := by kernel_rfl, hT := by kernel_rfl }

abbrev Str := List UInt8

/-! ### The model -/
structure Rel where
  kind : Int
  upper : Str
  lower : Str
  deriving DecidableEq, Inhabited
def Rel.enc (x : Rel) : List Value := [.int .i64 x.kind, strV x.upper, strV x.lower]

def letterB (b : UInt8) : Bool := (decide (97 ≤ (b.toNat : Int)) && decide ((b.toNat : Int) ≤ 122)) || (decide (65 ≤ (b.toNat : Int)) && decide ((b.toNat : Int) ≤ 90))
def digitB (b : UInt8) : Bool := (decide (48 ≤ (b.toNat : Int)) && decide ((b.toNat : Int) ≤ 57)) || ((b.toNat : Int) == 95)
def nameByte (k : Nat) (b : UInt8) : Bool := letterB b || (!(k == 0) && digitB b)
def nameFrom : Nat → Str → Bool
  | _, [] => true
  | k, b :: s => nameByte k b && nameFrom (k + 1) s
def isNameB (s : Str) : Bool := !(s == []) && decide (s.length ≤ 32) && nameFrom 0 s

theorem nameFrom_at : ∀ {s : Str} {k i : Nat} {b : UInt8}, s[i]? = some b → nameByte (k + i) b = false → nameFrom k s = false
  | [], k, i, b, h, _ => by simp at h
  | c :: s, k, 0, b, h, hn => by
    simp at h
    subst h
    simp only [Nat.add_zero] at hn
    simp [nameFrom, hn]
  | c :: s, k, i + 1, b, h, hn => by
    have := nameFrom_at (k := k + 1) (by simpa using h) (by rw [show k + 1 + i = k + (i + 1) by omega]; exact hn)
    simp [nameFrom, this]
theorem nameFrom_all : ∀ {s : Str} {k : Nat}, (∀ i b, s[i]? = some b → nameByte (k + i) b = true) → nameFrom k s = true
  | [], k, _ => rfl
  | c :: s, k, h => by
    have h0 := h 0 c (by simp)
    simp only [Nat.add_zero] at h0
    have h1 := nameFrom_all (s := s) (k := k + 1) (fun i b hb => by
      have := h (i + 1) b (by simpa using hb)
      rwa [show k + (i + 1) = k + 1 + i by omega] at this)
    simp [nameFrom, h0, h1]

/-! ### IsName -/
set_option maxRecDepth 100000 in
theorem isName_spec (C : Mem) (s : Str) (hl : s.length < 1000000) : Gives cx.P 26 [strV s] C (.bool (isNameB s)) := by
  refine Fn.intro (by kernel_rfl) Tryd.func26 rfl 57 rfl rfl (fun w0 => ?_)
  refine G.region rfl (fun R hR => ?_)
  refine D.pure rfl rfl rfl rfl rfl rfl ?_
  refine D.done [(0, [], _), (2, [], _)] ⟨rfl, rfl, trivial⟩ (hR _ _ _ rfl ?_); clear hR R
  refine G.region rfl (fun R hR => ?_)
  iterate 6 refine D.pure rfl rfl rfl rfl rfl rfl ?_
  refine D.pickOr rfl rfl rfl rfl rfl rfl rfl rfl ?_
  refine D.done [(0, [], _), (13, [], _)] ⟨rfl, rfl, trivial⟩ (hR _ _ _ rfl ?_); clear hR R
  refine G.cond rfl (fun h => ?_) (fun h => ?_)
  · skip
    refine G.region rfl (fun R hR => ?_)
    refine D.pure rfl rfl rfl rfl rfl rfl ?_
    refine D.done [(2, [], _)] ⟨rfl, trivial⟩ (hR _ _ _ rfl ?_); clear hR R
    refine G.retN (G.dropAll (G.fin1 rfl rfl ?_))
    refine ⟨?_, rfl⟩
    congr 1
    simp only [Bool.or_eq_true, beq_iff_eq, decide_eq_true_eq] at h
    unfold isNameB
    rcases h with h | h
    · have : s = [] := h
      simp [this]
    · have h2 : ¬ s.length ≤ 32 := by omega
      simp [h2]
  · skip
    simp only [Bool.or_eq_false_iff, beq_eq_false_iff_ne, decide_eq_false_iff_not] at h
    have hne : s ≠ [] := h.1
    have h32 : s.length ≤ 32 := by have := h.2; omega
    refine G.region rfl (fun R hR => ?_)
    refine D.pure rfl rfl rfl rfl rfl rfl ?_
    refine D.strBytes rfl rfl rfl rfl rfl rfl rfl rfl rfl rfl (by simp only [maxLen]; omega) (fun _ => rfl) (fun p15 C1 hle1 hs1 => ?_)
    have hsl := hs1
    obtain ⟨A, c, rfl, _⟩ := hsl
    iterate 2 refine D.pure rfl rfl rfl rfl rfl rfl ?_
    refine D.done [(15, [], _), (16, [], _), (17, [], _)] ⟨rfl, rfl, rfl, trivial⟩ (hR _ _ _ rfl ?_); clear hR R
    refine G.loop (fun fr C' L' m => ∃ k : Nat, k ≤ s.length ∧ (∀ i b, i < k → s[i]? = some b → nameByte (0 + i) b = true) ∧ fr = [(15, [], .slice A (s.map fun b => [Value.int .u8 b.toNat]).length c), (16, [], .int .i64 (s.map fun b => [Value.int .u8 b.toNat]).length), (17, [], .int .i64 k)] ∧ L' = [] ∧ m = s.length - k) (m := s.length) (fr' := [(15, [], _), (16, [], _), (17, [], _)]) ⟨rfl, rfl, rfl, trivial⟩ ⟨0, Nat.zero_le _, fun i b hi => by omega, rfl, rfl, rfl⟩ (fun fr C' L' m hle hI => ?_)
    obtain ⟨k, hk, hall, rfl, rfl, rfl⟩ := hI
    refine G.region rfl (fun R hR => ?_)
    refine D.pure rfl rfl rfl rfl rfl rfl ?_
    refine D.done [(15, [], _), (16, [], _), (17, [], _), (18, [], _)] ⟨rfl, rfl, rfl, rfl, trivial⟩ (hR _ _ _ rfl ?_); clear hR R
    refine G.cond rfl (fun h => ?_) (fun h => ?_)
    · skip
      simp only [List.length_map, decide_eq_true_eq] at h
      have hk1 : k < s.length := by omega
      obtain ⟨b, hb⟩ : ∃ b, s[k]? = some b := ⟨s[k], List.getElem?_eq_getElem hk1⟩
      have hs2 := hs1.mono hle
      refine G.region rfl (fun R hR => ?_)
      refine D.pure rfl rfl rfl rfl rfl rfl ?_
      refine D.index0 hs2 rfl rfl rfl rfl rfl rfl rfl rfl rfl rfl (by omega) (row := [.int .u8 b.toNat]) (by simp [hb]) (fun _ => rfl) (fun p20 hp20 => ?_)
      refine D.loadP0 hp20 rfl rfl rfl rfl rfl rfl rfl rfl ?_
      iterate 2 refine D.pure rfl rfl rfl rfl rfl rfl ?_
      refine D.done [(3, [], _), (4, [], _), (15, [], _), (16, [], _), (17, [], _)] ⟨rfl, rfl, rfl, rfl, rfl, trivial⟩ (hR _ _ _ rfl ?_); clear hR R
      refine G.region rfl (fun R hR => ?_)
      iterate 5 refine D.pure rfl rfl rfl rfl rfl rfl ?_
      refine D.pickAnd rfl rfl rfl rfl rfl rfl rfl rfl ?_
      iterate 6 refine D.pure rfl rfl rfl rfl rfl rfl ?_
      refine D.pickAnd rfl rfl rfl rfl rfl rfl rfl rfl ?_
      refine D.pickOr rfl rfl rfl rfl rfl rfl rfl rfl ?_
      refine D.pure rfl rfl rfl rfl rfl rfl ?_
      refine D.done [(3, [], _), (4, [], _), (5, [], .bool (letterB b)), (15, [], _), (16, [], _), (17, [], _)] ⟨rfl, rfl, rfl, rfl, rfl, rfl, trivial⟩ (hR _ _ _ rfl ?_); clear hR R
      refine G.region rfl (fun R hR => ?_)
      iterate 5 refine D.pure rfl rfl rfl rfl rfl rfl ?_
      refine D.pickAnd rfl rfl rfl rfl rfl rfl rfl rfl ?_
      iterate 3 refine D.pure rfl rfl rfl rfl rfl rfl ?_
      refine D.pickOr rfl rfl rfl rfl rfl rfl rfl rfl ?_
      refine D.pure rfl rfl rfl rfl rfl rfl ?_
      refine D.done [(3, [], _), (5, [], _), (6, [], .bool (digitB b)), (15, [], _), (16, [], _), (17, [], _)] ⟨rfl, rfl, rfl, rfl, rfl, rfl, trivial⟩ (hR _ _ _ rfl ?_); clear hR R
      refine G.region rfl (fun R hR => ?_)
      iterate 8 refine D.pure rfl rfl rfl rfl rfl rfl ?_
      refine D.pickOr rfl rfl rfl rfl rfl rfl rfl rfl ?_
      refine D.pickAnd rfl rfl rfl rfl rfl rfl rfl rfl ?_
      refine D.done [(15, [], _), (16, [], _), (17, [], _), (55, [], .bool (!(letterB b) && (((k : Int) == 0) || !(digitB b))))] ⟨rfl, rfl, rfl, rfl, trivial⟩ (hR _ _ _ rfl ?_); clear hR R
      have hbyte : (!(letterB b) && (((k : Int) == 0) || !(digitB b))) = !(nameByte (0 + k) b) := by
        have e : ((k : Int) == 0) = (0 + k == 0) := by
          rw [Nat.zero_add]
          by_cases hk0 : k = 0
          · subst hk0; rfl
          · have : ¬ (k : Int) = 0 := by omega
            rw [beq_eq_false_iff_ne.2 this, beq_eq_false_iff_ne.2 hk0]
        unfold nameByte
        rw [e]
        cases letterB b <;> cases digitB b <;> cases (0 + k == 0) <;> rfl
      refine G.cond rfl (fun h => ?_) (fun h => ?_)
      · skip
        rw [hbyte] at h
        refine G.region rfl (fun R hR => ?_)
        refine D.pure rfl rfl rfl rfl rfl rfl ?_
        refine D.done [(2, [], _)] ⟨rfl, trivial⟩ (hR _ _ _ rfl ?_); clear hR R
        refine G.retN (G.dropAll (G.fin1 rfl rfl ?_))
        refine ⟨?_, rfl⟩
        have := nameFrom_at (k := 0) hb (by simpa using h)
        simp [isNameB, this]
      · skip
        rw [hbyte] at h
        refine G.region rfl (fun R hR => ?_)
        refine D.i64 ((k + 1 : Nat) : Int) rfl rfl rfl rfl (by omega) (by omega) (by omega) rfl rfl ?_
        refine D.pure rfl rfl rfl rfl rfl rfl ?_
        refine D.done [(15, [], _), (16, [], _), (17, [], _)] ⟨rfl, rfl, rfl, trivial⟩ (hR _ _ _ rfl ?_); clear hR R
        refine G.again (m' := s.length - (k + 1)) (by omega) hle (fr' := [(15, [], _), (16, [], _), (17, [], _)]) ⟨rfl, rfl, rfl, trivial⟩ ⟨k + 1, by omega, ?_, rfl, rfl, rfl⟩
        intro i b' hi hb'
        rcases Nat.lt_or_ge i k with h1 | h1
        · exact hall i b' h1 hb'
        · have : i = k := by omega
          subst this
          rw [hb] at hb'
          cases hb'
          simpa using h
    · skip
      simp only [List.length_map, decide_eq_false_iff_not] at h
      refine G.region rfl (fun R hR => ?_)
      refine D.pure rfl rfl rfl rfl rfl rfl ?_
      refine D.done [(2, [], _)] ⟨rfl, trivial⟩ (hR _ _ _ rfl ?_); clear hR R
      refine G.retN (G.dropAll (G.fin1 rfl rfl ?_))
      refine ⟨?_, rfl⟩
      have := nameFrom_all (s := s) (k := 0) (fun i b hb => hall i b (by have := (List.getElem?_eq_some_iff.1 hb).1; omega) hb)
      simp [isNameB, this, hne, h32]

/-! ### Check, CheckAll -/
def Rel.short (x : Rel) : Prop := x.upper.length < 1000000 ∧ x.lower.length < 1000000
def errOf (x : Rel) : Int := if x.kind < 1 ∨ 4 < x.kind then 12 else if isNameB x.upper = false ∨ isNameB x.lower = false then 8 else if x.upper = x.lower then 14 else 0
def errs : List Rel → Int
  | [] => 0
  | x :: l => if errOf x = 0 then errs l else errOf x
def errAll (l : List Rel) : Int := if 200 < l.length then 4 else errs l
theorem errs_at : ∀ {l : List Rel} {k : Nat} {x : Rel}, l[k]? = some x → (∀ y ∈ l.take k, errOf y = 0) → errOf x ≠ 0 → errs l = errOf x
  | [], k, x, h, _, _ => by simp at h
  | y :: l, 0, x, h, _, hn => by
    simp at h
    subst h
    simp [errs, hn]
  | y :: l, k + 1, x, h, ha, hn => by
    have := errs_at (l := l) (k := k) (by simpa using h) (fun z hz => ha z (by simp [hz])) hn
    simp [errs, ha y (by simp), this]
theorem errs_zero : ∀ {l : List Rel}, (∀ y ∈ l, errOf y = 0) → errs l = 0
  | [], _ => rfl
  | y :: l, h => by simp [errs, h y (by simp), errs_zero (l := l) (fun z hz => h z (by simp [hz]))]

set_option maxRecDepth 100000 in
theorem check_spec (C : Mem) (x : Rel) (h1 : x.upper.length < 1000000) (h2 : x.lower.length < 1000000) : Gives cx.P 40 [.agg ⟨x.enc⟩] C (.int .i64 (errOf x)) := by
  refine Fn.intro (by kernel_rfl) Tryd.func40 rfl 29 rfl rfl (fun w0 => ?_)
  refine G.region rfl (fun R hR => ?_)
  refine D.box rfl rfl rfl rfl rfl rfl (fun _ => rfl) (fun b1 => ?_)
  refine D.pure rfl rfl rfl rfl rfl rfl ?_
  refine D.done [(1, [], _)] ⟨rfl, trivial⟩ (hR _ _ _ rfl ?_); clear hR R
  refine G.region rfl (fun R hR => ?_)
  refine D.pure rfl rfl rfl rfl rfl rfl ?_
  refine D.loadL (.head _) rfl rfl rfl rfl rfl rfl rfl rfl rfl ?_
  iterate 3 refine D.pure rfl rfl rfl rfl rfl rfl ?_
  refine D.loadL (.head _) rfl rfl rfl rfl rfl rfl rfl rfl rfl ?_
  refine D.pure rfl rfl rfl rfl rfl rfl ?_
  refine D.pickOr rfl rfl rfl rfl rfl rfl rfl rfl ?_
  refine D.pure rfl rfl rfl rfl rfl rfl ?_
  refine D.done [(1, [], _), (3, [], _)] ⟨rfl, rfl, trivial⟩ (hR _ _ _ rfl ?_); clear hR R
  refine G.cond rfl (fun h => ?_) (fun h => ?_)
  · skip
    refine G.region rfl (fun R hR => ?_)
    refine D.pure rfl rfl rfl rfl rfl rfl ?_
    refine D.done [(2, [], _)] ⟨rfl, trivial⟩ (hR _ _ _ rfl ?_); clear hR R
    refine G.retN (G.dropAll (G.fin1 rfl rfl ?_))
    simp at h
    exact ⟨by rw [errOf, if_pos (by omega)], rfl⟩
  · skip
    simp at h
    have h1 : ¬ (x.kind < 1 ∨ 4 < x.kind) := by omega
    refine G.region rfl (fun R hR => ?_)
    refine D.pure rfl rfl rfl rfl rfl rfl ?_
    refine D.loadL (.head _) rfl rfl rfl rfl rfl rfl rfl rfl rfl ?_
    refine D.gives2 (isName_spec _ _ (by assumption)) rfl rfl rfl rfl rfl rfl rfl (fun _ => rfl) ?_
    iterate 3 refine D.pure rfl rfl rfl rfl rfl rfl ?_
    refine D.loadL (.head _) rfl rfl rfl rfl rfl rfl rfl rfl rfl ?_
    refine D.gives (fun _ => isName_spec _ _ (by assumption)) rfl rfl rfl rfl rfl rfl rfl rfl rfl ?_
    refine D.pure rfl rfl rfl rfl rfl rfl ?_
    refine D.pickOr rfl rfl rfl rfl rfl rfl rfl rfl ?_
    refine D.pure rfl rfl rfl rfl rfl rfl ?_
    refine D.done [(1, [], _), (12, [], _)] ⟨rfl, rfl, trivial⟩ (hR _ _ _ rfl ?_); clear hR R
    refine G.cond rfl (fun h => ?_) (fun h => ?_)
    · skip
      refine G.region rfl (fun R hR => ?_)
      refine D.pure rfl rfl rfl rfl rfl rfl ?_
      refine D.done [(2, [], _)] ⟨rfl, trivial⟩ (hR _ _ _ rfl ?_); clear hR R
      refine G.retN (G.dropAll (G.fin1 rfl rfl ?_))
      simp at h
      exact ⟨by rw [errOf, if_neg h1, if_pos h], rfl⟩
    · skip
      simp at h
      refine G.region rfl (fun R hR => ?_)
      refine D.pure rfl rfl rfl rfl rfl rfl ?_
      refine D.loadL (.head _) rfl rfl rfl rfl rfl rfl rfl rfl rfl ?_
      refine D.pure rfl rfl rfl rfl rfl rfl ?_
      refine D.loadL (.head _) rfl rfl rfl rfl rfl rfl rfl rfl rfl ?_
      iterate 2 refine D.pure rfl rfl rfl rfl rfl rfl ?_
      refine D.done [(23, [], _)] ⟨rfl, trivial⟩ (hR _ _ _ rfl ?_); clear hR R
      refine G.cond rfl (fun h => ?_) (fun h => ?_)
      · skip
        refine G.region rfl (fun R hR => ?_)
        refine D.pure rfl rfl rfl rfl rfl rfl ?_
        refine D.done [(2, [], _)] ⟨rfl, trivial⟩ (hR _ _ _ rfl ?_); clear hR R
        refine G.retN (G.dropAll (G.fin1 rfl rfl ?_))
        simp at h
        exact ⟨by rw [errOf, if_neg h1, if_neg (by simp [*]), if_pos h], rfl⟩
      · skip
        refine G.region rfl (fun R hR => ?_)
        refine D.pure rfl rfl rfl rfl rfl rfl ?_
        refine D.done [(2, [], _)] ⟨rfl, trivial⟩ (hR _ _ _ rfl ?_); clear hR R
        refine G.retN (G.dropAll (G.fin1 rfl rfl ?_))
        have h5 : ¬ x.upper = x.lower := fun e => by rw [e] at h; simp at h
        exact ⟨by rw [errOf, if_neg h1, if_neg (by simp [*]), if_neg h5], rfl⟩

set_option maxRecDepth 100000 in
theorem checkAll_spec (C : Mem) (l : List Rel) (v : Value) (hv : Sl C 3 v (l.map Rel.enc)) (hok : ∀ x ∈ l, x.short) : Gives cx.P 30 [v] C (.int .i64 (errAll l)) := by
  have hv0 := hv
  obtain ⟨A, c, rfl, _⟩ := hv0
  refine Fn.intro (by kernel_rfl) Tryd.func30 rfl 21 rfl rfl (fun w0 => ?_)
  refine G.region rfl (fun R hR => ?_)
  refine D.pure rfl rfl rfl rfl rfl rfl ?_
  refine D.done [(0, [], _)] ⟨rfl, trivial⟩ (hR _ _ _ rfl ?_); clear hR R
  refine G.region rfl (fun R hR => ?_)
  iterate 3 refine D.pure rfl rfl rfl rfl rfl rfl ?_
  refine D.done [(0, [], _), (8, [], _)] ⟨rfl, rfl, trivial⟩ (hR _ _ _ rfl ?_); clear hR R
  refine G.cond rfl (fun h => ?_) (fun h => ?_)
  · skip
    refine G.region rfl (fun R hR => ?_)
    refine D.pure rfl rfl rfl rfl rfl rfl ?_
    refine D.done [(2, [], _)] ⟨rfl, trivial⟩ (hR _ _ _ rfl ?_); clear hR R
    refine G.retN (G.dropAll (G.fin1 rfl rfl ?_))
    simp at h
    exact ⟨by rw [errAll, if_pos (by omega)], rfl⟩
  · skip
    simp at h
    refine G.region rfl (fun R hR => ?_)
    iterate 3 refine D.pure rfl rfl rfl rfl rfl rfl ?_
    refine D.done [(9, [], _), (10, [], _), (11, [], _)] ⟨rfl, rfl, rfl, trivial⟩ (hR _ _ _ rfl ?_); clear hR R
    refine G.loop (fun fr C' L' m => ∃ k : Nat, k ≤ l.length ∧ (∀ x ∈ l.take k, errOf x = 0) ∧ fr = [(9, [], .slice A (l.map Rel.enc).length c), (10, [], .int .i64 (l.map Rel.enc).length), (11, [], .int .i64 k)] ∧ L' = [] ∧ m = l.length - k) (fr' := [(9, [], _), (10, [], _), (11, [], _)]) ⟨rfl, rfl, rfl, trivial⟩ ⟨0, Nat.zero_le _, by simp, rfl, rfl, rfl⟩ (fun fr C' L' m hle hI => ?_)
    obtain ⟨k, hk, hall, rfl, rfl, rfl⟩ := hI
    refine G.region rfl (fun R hR => ?_)
    refine D.pure rfl rfl rfl rfl rfl rfl ?_
    refine D.done [(9, [], _), (10, [], _), (11, [], _), (12, [], _)] ⟨rfl, rfl, rfl, rfl, trivial⟩ (hR _ _ _ rfl ?_); clear hR R
    refine G.cond rfl (fun h => ?_) (fun h => ?_)
    · skip
      simp at h
      have hkl : k < l.length := h
      have hv1 := hv.mono hle
      have hrow : (l.map Rel.enc)[k]? = some (l[k]).enc := by simp [h]
      refine G.region rfl (fun R hR => ?_)
      refine D.index0 hv1 rfl rfl rfl rfl rfl rfl rfl rfl rfl rfl (by omega) hrow (fun _ => rfl) (fun p13 hp13 => ?_)
      refine D.loadP0 hp13 rfl rfl rfl rfl rfl rfl rfl rfl ?_
      refine D.alloc rfl rfl rfl rfl rfl (fun _ => rfl) (fun b4 => ?_)
      refine D.store (j := 0) rfl rfl rfl rfl rfl rfl rfl rfl rfl rfl rfl rfl ?_
      refine D.done [(4, [], _), (9, [], _), (10, [], _), (11, [], _)] ⟨rfl, rfl, rfl, rfl, trivial⟩ (hR _ _ _ rfl ?_); clear hR R
      refine G.region rfl (fun R hR => ?_)
      refine D.loadL (.head _) rfl rfl rfl rfl rfl rfl rfl rfl rfl ?_
      refine D.gives2 (check_spec _ _ (hok _ (List.getElem_mem h)).1 (hok _ (List.getElem_mem h)).2) rfl rfl rfl rfl rfl rfl rfl (fun _ => rfl) ?_
      refine D.pure rfl rfl rfl rfl rfl rfl ?_
      refine D.done [(5, [], _), (9, [], _), (10, [], _), (11, [], _)] ⟨rfl, rfl, rfl, rfl, trivial⟩ (hR _ _ _ rfl ?_); clear hR R
      refine G.region rfl (fun R hR => ?_)
      iterate 2 refine D.pure rfl rfl rfl rfl rfl rfl ?_
      refine D.done [(5, [], _), (9, [], _), (10, [], _), (11, [], _), (18, [], _)] ⟨rfl, rfl, rfl, rfl, rfl, trivial⟩ (hR _ _ _ rfl ?_); clear hR R
      refine G.cond rfl (fun h => ?_) (fun h => ?_)
      · skip
        refine G.region rfl (fun R hR => ?_)
        iterate 2 refine D.pure rfl rfl rfl rfl rfl rfl ?_
        refine D.done [(2, [], _)] ⟨rfl, trivial⟩ (hR _ _ _ rfl ?_); clear hR R
        refine G.retN (G.dropAll (G.fin1 rfl rfl ?_))
        have h5 : errOf l[k] ≠ 0 := by simpa using h
        refine ⟨?_, rfl⟩
        rw [errAll, if_neg (by omega), errs_at (k := k) (List.getElem?_eq_getElem hkl) hall h5]
      · skip
        refine G.region rfl (fun R hR => ?_)
        refine D.i64 ((k + 1 : Nat) : Int) rfl rfl rfl rfl (by omega) (by omega) (by omega) rfl rfl ?_
        refine D.pure rfl rfl rfl rfl rfl rfl ?_
        refine D.done [(9, [], _), (10, [], _), (11, [], _)] ⟨rfl, rfl, rfl, trivial⟩ (hR _ _ _ rfl ?_); clear hR R
        refine G.dropAll (G.again (m' := l.length - (k + 1)) (by omega) hle (fr' := [(9, [], _), (10, [], _), (11, [], _)]) ⟨rfl, rfl, rfl, trivial⟩ ⟨k + 1, by omega, ?_, rfl, rfl, rfl⟩)
        intro y hy
        rw [List.take_succ_eq_append_getElem hkl] at hy
        rcases List.mem_append.1 hy with h6 | h6
        · exact hall y h6
        · simp only [List.mem_singleton] at h6
          subst h6
          simpa using h
    · skip
      refine G.region rfl (fun R hR => ?_)
      refine D.pure rfl rfl rfl rfl rfl rfl ?_
      refine D.done [(2, [], _)] ⟨rfl, trivial⟩ (hR _ _ _ rfl ?_); clear hR R
      refine G.retN (G.dropAll (G.fin1 rfl rfl ?_))
      simp only [List.length_map, decide_eq_false_iff_not] at h
      have e : l.take k = l := List.take_of_length_le (by omega)
      rw [e] at hall
      exact ⟨by rw [errAll, if_neg (by omega), errs_zero hall], rfl⟩
end Go.Proofs.YtjmfjobfmdhbfaaDoor
