/- Layer 20, plain law: the order of the relations, the normal form. No program in this text. -/
import Derived.Test.YtjmfjobfmdhbfaaDoorK20c
import Derived.Sort.LotA
namespace Go.Proofs.YtjmfjobfmdhbfaaDoor
open Go Go.Jog

/-! ### Comparisons -/
structure TotC {α : Type} (f : α → α → Int) : Prop where
  eq : ∀ x y, f x y = 0 ↔ x = y
  sym : ∀ x y, f x y < 0 ↔ 0 < f y x
  trans : ∀ x y z, f x y < 0 → f y z < 0 → f x z < 0

theorem bl_irrefl (x : Str) : Op.bytesLess x x = false := by rw [bytesLess_eq]; simp
theorem bl_trans (x y z : Str) (h1 : Op.bytesLess x y = true) (h2 : Op.bytesLess y z = true) : Op.bytesLess x z = true := by
  rw [bytesLess_eq] at *
  simp only [decide_eq_true_eq] at *
  exact List.lt_trans h1 h2
theorem bl_total (x y : Str) (h : x ≠ y) : Op.bytesLess x y = true ∨ Op.bytesLess y x = true := by
  simp only [bytesLess_eq, decide_eq_true_eq]
  by_cases h1 : x < y
  · exact .inl h1
  · rcases List.le_total x y with h2 | h2
    · by_cases h3 : y < x
      · exact .inr h3
      · exact absurd (List.le_antisymm (List.not_lt.1 h3) (List.not_lt.1 h1)) h
    · by_cases h3 : y < x
      · exact .inr h3
      · exact absurd (List.le_antisymm (List.not_lt.1 h3) (List.not_lt.1 h1)) h

theorem tot_cmpI : TotC cmpI where
  eq x y := by unfold cmpI; split <;> (try split) <;> constructor <;> intros <;> omega
  sym x y := by
    unfold cmpI
    rcases Int.lt_trichotomy x y with h | h | h
    · have h2 : ¬ y < x := by omega
      have h3 : ¬ y = x := by omega
      simp [h, h2, h3]
    · subst h
      simp
    · have h2 : ¬ x < y := by omega
      have h3 : ¬ x = y := by omega
      simp [h, h2, h3]
  trans x y z := by unfold cmpI; intro h1 h2; split at h1 <;> (try split at h1) <;> split at h2 <;> (try split at h2) <;> split <;> (try split) <;> omega

theorem cmpS_neg (x y : Str) : cmpS x y < 0 ↔ Op.bytesLess x y = true := by
  unfold cmpS
  split
  · simp [*]
  · split <;> simp_all
theorem tot_cmpS : TotC cmpS where
  eq x y := by
    unfold cmpS
    split
    · rename_i h
      constructor
      · intro h2; omega
      · intro h2; subst h2; rw [bl_irrefl] at h; cases h
    · split <;> simp_all
  sym x y := by
    rw [cmpS_neg]
    unfold cmpS
    constructor
    · intro h
      have h2 : ¬ Op.bytesLess y x = true := fun h3 => by have := bl_trans _ _ _ h h3; rw [bl_irrefl] at this; cases this
      have h3 : ¬ y = x := fun e => by subst e; rw [bl_irrefl] at h; cases h
      rw [if_neg h2, if_neg h3]; decide
    · intro h
      by_cases h2 : Op.bytesLess y x = true
      · rw [if_pos h2] at h; omega
      · rw [if_neg h2] at h
        by_cases h3 : y = x
        · rw [if_pos h3] at h; omega
        · exact (bl_total y x h3).resolve_left h2
  trans x y z := by
    rw [cmpS_neg, cmpS_neg, cmpS_neg]
    exact bl_trans x y z

theorem orI_cons (a : Int) (l : List Int) : orI (a :: l) = if a = 0 then orI l else a := rfl
theorem orI_nil : orI [] = 0 := rfl

theorem tot_cmpR : TotC cmpR where
  eq x y := by
    obtain ⟨a, b, c⟩ := x
    obtain ⟨a', b', c'⟩ := y
    have h1 := tot_cmpI.eq a a'; have h2 := tot_cmpS.eq b b'; have h3 := tot_cmpS.eq c c'
    simp only [cmpR, orI_cons, orI_nil, Rel.mk.injEq]
    by_cases e1 : cmpI a a' = 0 <;> by_cases e2 : cmpS b b' = 0 <;> by_cases e3 : cmpS c c' = 0 <;> simp_all
  sym x y := by
    obtain ⟨a, b, c⟩ := x
    obtain ⟨a', b', c'⟩ := y
    have h1 := tot_cmpI.eq a a'; have h2 := tot_cmpS.eq b b'; have h3 := tot_cmpS.eq c c'
    have h1' := tot_cmpI.eq a' a; have h2' := tot_cmpS.eq b' b; have h3' := tot_cmpS.eq c' c
    have s1 := tot_cmpI.sym a a'; have s2 := tot_cmpS.sym b b'; have s3 := tot_cmpS.sym c c'
    simp only [cmpR, orI_cons, orI_nil]
    by_cases e1 : a = a'
    · subst e1
      simp only [h1.2 rfl, if_true]
      by_cases e2 : b = b'
      · subst e2
        simp only [h2.2 rfl, if_true]
        by_cases e3 : c = c'
        · subst e3
          simp [h3.2 rfl]
        · simp only [mt h3.1 e3, mt h3'.1 (Ne.symm e3), if_false]
          exact s3
      · simp only [mt h2.1 e2, mt h2'.1 (Ne.symm e2), if_false]
        exact s2
    · simp only [mt h1.1 e1, mt h1'.1 (Ne.symm e1), if_false]
      exact s1
  trans x y z := by
    obtain ⟨a, b, c⟩ := x
    obtain ⟨a', b', c'⟩ := y
    obtain ⟨a2, b2, c2⟩ := z
    have t1 := tot_cmpI.trans a a' a2; have t2 := tot_cmpS.trans b b' b2; have t3 := tot_cmpS.trans c c' c2
    have i1 := fun x y => tot_cmpI.eq x y
    have i2 := fun x y => tot_cmpS.eq x y
    have irr1 : ∀ x, cmpI x x = 0 := fun x => (i1 x x).2 rfl
    have irr2 : ∀ x, cmpS x x = 0 := fun x => (i2 x x).2 rfl
    simp only [cmpR, orI_cons, orI_nil]
    intro h1 h2
    by_cases e1 : a = a'
    · subst e1
      rw [if_pos (irr1 a)] at h1
      by_cases e1' : a = a2
      · subst e1'
        rw [if_pos (irr1 a)] at h2 ⊢
        by_cases e2 : b = b'
        · subst e2
          rw [if_pos (irr2 b)] at h1
          by_cases e2' : b = b2
          · subst e2'
            rw [if_pos (irr2 b)] at h2 ⊢
            have g1 : cmpS c c' < 0 := by split at h1 <;> omega
            have g2 : cmpS c' c2 < 0 := by split at h2 <;> omega
            have g3 := t3 g1 g2
            rw [if_neg (by omega)]; exact g3
          · rw [if_neg (mt (i2 b b2).1 e2')] at h2 ⊢
            exact h2
        · rw [if_neg (mt (i2 b b').1 e2)] at h1
          by_cases e2' : b' = b2
          · subst e2'
            rw [if_neg (by omega)]; exact h1
          · rw [if_neg (mt (i2 b' b2).1 e2')] at h2
            have := t2 h1 h2
            rw [if_neg (by omega)]; exact this
      · rw [if_neg (mt (i1 a a2).1 e1')] at h2 ⊢
        exact h2
    · rw [if_neg (mt (i1 a a').1 e1)] at h1
      by_cases e1' : a' = a2
      · subst e1'
        rw [if_neg (by omega)]; exact h1
      · rw [if_neg (mt (i1 a' a2).1 e1')] at h2
        have := t1 h1 h2
        rw [if_neg (by omega)]; exact this

theorem tot_cmpA : TotC cmpA where
  eq x y := by
    obtain ⟨b, c⟩ := x
    obtain ⟨b', c'⟩ := y
    have h2 := tot_cmpS.eq b b'; have h3 := tot_cmpS.eq c c'
    simp only [cmpA, orI_cons, orI_nil, ArcE.mk.injEq]
    by_cases e2 : cmpS b b' = 0 <;> by_cases e3 : cmpS c c' = 0 <;> simp_all
  sym x y := by
    obtain ⟨b, c⟩ := x
    obtain ⟨b', c'⟩ := y
    have h2 := tot_cmpS.eq b b'; have h3 := tot_cmpS.eq c c'
    have h2' := tot_cmpS.eq b' b; have h3' := tot_cmpS.eq c' c
    have s2 := tot_cmpS.sym b b'; have s3 := tot_cmpS.sym c c'
    simp only [cmpA, orI_cons, orI_nil]
    by_cases e2 : b = b'
    · subst e2
      simp only [h2.2 rfl, if_true]
      by_cases e3 : c = c'
      · subst e3
        simp [h3.2 rfl]
      · simp only [mt h3.1 e3, mt h3'.1 (Ne.symm e3), if_false]
        exact s3
    · simp only [mt h2.1 e2, mt h2'.1 (Ne.symm e2), if_false]
      exact s2
  trans x y z := by
    obtain ⟨b, c⟩ := x
    obtain ⟨b', c'⟩ := y
    obtain ⟨b2, c2⟩ := z
    have t2 := tot_cmpS.trans b b' b2; have t3 := tot_cmpS.trans c c' c2
    have i2 := fun x y => tot_cmpS.eq x y
    have irr2 : ∀ x, cmpS x x = 0 := fun x => (i2 x x).2 rfl
    simp only [cmpA, orI_cons, orI_nil]
    intro h1 h2
    by_cases e2 : b = b'
    · subst e2
      rw [if_pos (irr2 b)] at h1
      by_cases e2' : b = b2
      · subst e2'
        rw [if_pos (irr2 b)] at h2 ⊢
        have g1 : cmpS c c' < 0 := by split at h1 <;> omega
        have g2 : cmpS c' c2 < 0 := by split at h2 <;> omega
        have g3 := t3 g1 g2
        rw [if_neg (by omega)]; exact g3
      · rw [if_neg (mt (i2 b b2).1 e2')] at h2 ⊢
        exact h2
    · rw [if_neg (mt (i2 b b').1 e2)] at h1
      by_cases e2' : b' = b2
      · subst e2'
        rw [if_neg (by omega)]; exact h1
      · rw [if_neg (mt (i2 b' b2).1 e2')] at h2
        have := t2 h1 h2
        rw [if_neg (by omega)]; exact this

section
variable {α : Type} {f : α → α → Int}
theorem TotC.refl (T : TotC f) (x : α) : f x x = 0 := (T.eq x x).2 rfl
theorem TotC.asymm (T : TotC f) {x y : α} (h : f x y < 0) : ¬ f y x < 0 := fun h2 => by have := (T.sym x y).1 h; omega
theorem TotC.tri (T : TotC f) (x y : α) : f x y < 0 ∨ x = y ∨ f y x < 0 := by
  by_cases h : f x y = 0
  · exact .inr (.inl ((T.eq x y).1 h))
  · by_cases h2 : f x y < 0
    · exact .inl h2
    · exact .inr (.inr ((T.sym y x).2 (by omega)))
theorem TotC.swo (T : TotC f) : Sort.SWO (ltOf f) where
  irrefl x := by simp [ltOf, T.refl x]
  trans x y z h1 h2 := by
    simp only [ltOf, decide_eq_true_eq] at *
    exact T.trans x y z h1 h2
  ntrans x y z h1 h2 := by
    simp only [ltOf, decide_eq_false_iff_not] at *
    intro h3
    rcases T.tri x y with h | h | h
    · exact h1 h
    · subst h; exact h2 h3
    · exact h2 (T.trans _ _ _ h h3)

/-- Two strictly ascending lists of the same elements are one. -/
theorem TotC.unique (T : TotC f) : ∀ {a b : List α}, a.Pairwise (fun x y => f x y < 0) → b.Pairwise (fun x y => f x y < 0) → (∀ x, x ∈ a ↔ x ∈ b) → a = b
  | [], [], _, _, _ => rfl
  | [], y :: b, _, _, h => absurd ((h y).2 (by simp)) (by simp)
  | x :: a, [], _, _, h => absurd ((h x).1 (by simp)) (by simp)
  | x :: a, y :: b, ha, hb, h => by
    rw [List.pairwise_cons] at ha hb
    have hxy : x = y := by
      have h1 := (h x).1 (by simp)
      have h2 := (h y).2 (by simp)
      rcases List.mem_cons.1 h1 with e | h1
      · exact e
      · rcases List.mem_cons.1 h2 with e | h2
        · exact e.symm
        · exact absurd (hb.1 x h1) (T.asymm (ha.1 y h2))
    subst hxy
    congr 1
    refine TotC.unique T ha.2 hb.2 (fun z => ⟨fun hz => ?_, fun hz => ?_⟩)
    · rcases List.mem_cons.1 ((h z).1 (by simp [hz])) with e | h1
      · subst e; have := ha.1 z hz; rw [T.refl] at this; omega
      · exact h1
    · rcases List.mem_cons.1 ((h z).2 (by simp [hz])) with e | h1
      · subst e; have := hb.1 z hz; rw [T.refl] at this; omega
      · exact h1

variable [DecidableEq α]
/-- An ascending list without its repetitions. -/
theorem TotC.compact_strict (T : TotC f) {l : List α} (h : l.Pairwise fun x y => ltOf f y x = false) : (compact l).Pairwise (fun x y => f x y < 0) := by
  have hd : ∀ (l : List α) (x : α), (x :: l).Pairwise (fun x y => ltOf f y x = false) → (x :: dedup x l).Pairwise (fun x y => f x y < 0) := by
    intro l
    induction l with
    | nil => intro x _; simp [dedup]
    | cons y l ih =>
      intro x h
      rw [List.pairwise_cons] at h
      have hy := h.1 y (by simp)
      simp only [ltOf, decide_eq_false_iff_not] at hy
      simp only [dedup]
      by_cases e : y = x
      · subst e
        rw [if_pos rfl]
        exact ih y h.2
      · rw [if_neg e]
        have ihy := ih y h.2
        have hxy : f x y < 0 := by
          rcases T.tri x y with h1 | h1 | h1
          · exact h1
          · exact absurd h1.symm e
          · exact absurd h1 hy
        refine List.pairwise_cons.2 ⟨fun z hz => ?_, ihy⟩
        rcases List.mem_cons.1 hz with e2 | hz
        · subst e2; exact hxy
        · exact T.trans _ _ _ hxy ((List.pairwise_cons.1 ihy).1 z hz)
  cases l with
  | nil => exact List.Pairwise.nil
  | cons x l => exact hd l x h
theorem mem_dedup : ∀ {l : List α} {x y : α}, y ∈ l → y = x ∨ y ∈ dedup x l
  | z :: l, x, y, h => by
    simp only [dedup]
    rcases List.mem_cons.1 h with e | h
    · subst e
      split
      · rename_i e; exact .inl e
      · exact .inr (by simp)
    · split
      · exact mem_dedup h
      · rcases mem_dedup (x := z) h with e | h1
        · exact .inr (by simp [e])
        · exact .inr (by simp [h1])
theorem mem_compact {l : List α} {y : α} : y ∈ compact l ↔ y ∈ l := by
  refine ⟨compact_mem, fun h => ?_⟩
  cases l with
  | nil => exact h
  | cons x l =>
    simp only [compact]
    rcases List.mem_cons.1 h with e | h
    · simp [e]
    · rcases mem_dedup (x := x) h with e | h1 <;> simp [*]

/-- Inserted where it belongs, if it is not there. -/
def ins (f : α → α → Int) (x : α) : List α → List α
  | [] => [x]
  | y :: l => if f y x < 0 then y :: ins f x l else if y = x then y :: l else x :: y :: l
theorem mem_ins {x z : α} : ∀ {l : List α}, z ∈ ins f x l ↔ z = x ∨ z ∈ l
  | [] => by simp [ins]
  | y :: l => by
    simp only [ins]
    split
    · simp only [List.mem_cons, mem_ins (l := l)]
      constructor
      · rintro (h | h | h) <;> simp [h]
      · rintro (h | h | h) <;> simp [h]
    · split
      · rename_i e
        subst e
        simp
      · simp
theorem TotC.ins_strict (T : TotC f) {x : α} : ∀ {l : List α}, l.Pairwise (fun x y => f x y < 0) → (ins f x l).Pairwise (fun x y => f x y < 0)
  | [], _ => by simp [ins]
  | y :: l, h => by
    have h' := List.pairwise_cons.1 h
    simp only [ins]
    split
    · rename_i hyx
      refine List.pairwise_cons.2 ⟨fun z hz => ?_, TotC.ins_strict T h'.2⟩
      rcases mem_ins.1 hz with e | hz
      · subst e; exact hyx
      · exact h'.1 z hz
    · split
      · exact h
      · rename_i h1 h2
        have hxy : f x y < 0 := by
          rcases T.tri x y with h3 | h3 | h3
          · exact h3
          · exact absurd h3.symm h2
          · exact absurd h3 h1
        refine List.pairwise_cons.2 ⟨fun z hz => ?_, h⟩
        rcases List.mem_cons.1 hz with e | hz
        · subst e; exact hxy
        · exact T.trans _ _ _ hxy (h'.1 z hz)
/-- The ascending list of the elements, each once. -/
def setL (f : α → α → Int) (l : List α) : List α := l.foldl (fun a x => ins f x a) []
theorem mem_setL_aux {z : α} : ∀ {l a : List α}, z ∈ l.foldl (fun a x => ins f x a) a ↔ z ∈ l ∨ z ∈ a
  | [], a => by simp
  | x :: l, a => by
    simp only [List.foldl_cons, mem_setL_aux (l := l), mem_ins, List.mem_cons]
    constructor
    · rintro (h | h | h) <;> simp [h]
    · rintro ((h | h) | h) <;> simp [h]
theorem mem_setL {l : List α} {z : α} : z ∈ setL f l ↔ z ∈ l := by simp [setL, mem_setL_aux]
theorem TotC.setL_strict (T : TotC f) (l : List α) : (setL f l).Pairwise (fun x y => f x y < 0) := by
  have : ∀ (l a : List α), a.Pairwise (fun x y => f x y < 0) → (l.foldl (fun a x => ins f x a) a).Pairwise (fun x y => f x y < 0) := by
    intro l
    induction l with
    | nil => intro a h; exact h
    | cons x l ih => intro a h; exact ih _ (T.ins_strict h)
  exact this l [] List.Pairwise.nil
/-- Sorted and without its repetitions. -/
theorem TotC.compact_eq (T : TotC f) {l l' : List α} (hp : l'.Perm l) (hs : l'.Pairwise fun x y => ltOf f y x = false) : compact l' = setL f l :=
  T.unique (T.compact_strict hs) (T.setL_strict l) (fun x => by rw [mem_compact, mem_setL, hp.mem_iff])
end
end Go.Proofs.YtjmfjobfmdhbfaaDoor
