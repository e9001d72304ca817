/- Lists that a loop makes piece by piece. Program-independent. -/
import Derived.Test.YtjmfjobfmdhbfaaDoorJogK
namespace Go.Jog
section
variable {α : Type}
def cat (f : Nat → List α) : Nat → List α
  | 0 => []
  | n + 1 => cat f n ++ f n
theorem cat_succ (f : Nat → List α) (n : Nat) : cat f (n + 1) = cat f n ++ f n := rfl
theorem cat_prefix {f : Nat → List α} {i : Nat} : ∀ {n : Nat}, i ≤ n → cat f i <+: cat f n
  | 0, h => by obtain rfl : i = 0 := by omega
               exact List.prefix_refl _
  | n + 1, h => by
    by_cases e : i = n + 1
    · subst e; exact List.prefix_refl _
    · exact (cat_prefix (n := n) (by omega)).trans (List.prefix_append _ _)
theorem getElem?_of_prefix {a b : List α} {i : Nat} {x : α} (h : a <+: b) (hx : a[i]? = some x) : b[i]? = some x := by
  obtain ⟨c, rfl⟩ := h
  rw [List.getElem?_append_left (List.getElem?_eq_some_iff.1 hx).1]
  exact hx
theorem cat_at {f : Nat → List α} {i n : Nat} {pre post : List α} {x : α} (h : i < n) (he : f i = pre ++ x :: post) : (cat f n)[(cat f i).length + pre.length]? = some x := by
  refine getElem?_of_prefix (cat_prefix (i := i + 1) (by omega)) ?_
  rw [cat_succ, he, List.getElem?_append_right (by omega)]
  simp
theorem cat_length_le {f : Nat → List α} {i n : Nat} (h : i ≤ n) : (cat f i).length ≤ (cat f n).length := (cat_prefix h).length_le
theorem cat_length_mul {f : Nat → List α} {m : Nat} (hf : ∀ i, (f i).length ≤ m) : ∀ n, (cat f n).length ≤ n * m
  | 0 => by simp [cat]
  | n + 1 => by
    have := cat_length_mul hf n
    have := hf n
    rw [cat_succ, List.length_append, Nat.add_mul]; omega
theorem mem_cat {f : Nat → List α} {x : α} : ∀ {n : Nat}, x ∈ cat f n ↔ ∃ i, i < n ∧ x ∈ f i
  | 0 => by simp [cat]
  | n + 1 => by
    rw [cat_succ, List.mem_append, mem_cat]
    constructor
    · rintro (⟨i, h1, h2⟩ | h)
      · exact ⟨i, by omega, h2⟩
      · exact ⟨n, by omega, h⟩
    · rintro ⟨i, h1, h2⟩
      by_cases e : i = n
      · subst e; exact .inr h2
      · exact .inl ⟨i, by omega, h2⟩
theorem cat_pairwise {f : Nat → List α} {r : α → α → Prop} : ∀ {n : Nat}, (∀ i, i < n → (f i).Pairwise r) → (∀ i j, i < j → j < n → ∀ x ∈ f i, ∀ y ∈ f j, r x y) → (cat f n).Pairwise r
  | 0, _, _ => List.Pairwise.nil
  | n + 1, h1, h2 => by
    rw [cat_succ, List.pairwise_append]
    refine ⟨cat_pairwise (fun i hi => h1 i (by omega)) (fun i j hi hj => h2 i j hi (by omega)), h1 n (by omega), fun x hx y hy => ?_⟩
    obtain ⟨i, hi, hx⟩ := mem_cat.1 hx
    exact h2 i n hi (by omega) x hx y hy
theorem cat_congr {f g : Nat → List α} : ∀ {n : Nat}, (∀ i, i < n → f i = g i) → cat f n = cat g n
  | 0, _ => rfl
  | n + 1, h => by rw [cat_succ, cat_succ, cat_congr (fun i hi => h i (by omega)), h n (by omega)]
theorem cat_nil {f : Nat → List α} : ∀ {n : Nat}, (∀ i, i < n → f i = []) → cat f n = []
  | 0, _ => rfl
  | n + 1, h => by rw [cat_succ, cat_nil (fun i hi => h i (by omega)), h n (by omega)]; rfl
def oneIf (b : Bool) (x : α) : List α := if b = true then [x] else []
theorem oneIf_true {b : Bool} {x : α} (h : b = true) : oneIf b x = [x] := if_pos h
theorem oneIf_false {b : Bool} {x : α} (h : b = false) : oneIf b x = [] := if_neg (by rw [h]; decide)
theorem oneIf_len (b : Bool) (x : α) : (oneIf b x).length ≤ 1 := by unfold oneIf; split <;> simp
theorem mem_oneIf {b : Bool} {x y : α} : y ∈ oneIf b x ↔ b = true ∧ y = x := by unfold oneIf; split <;> simp_all
/-- The indices below n with a property. -/
def idxs (p : Nat → Bool) (n : Nat) : List Nat := cat (fun i => oneIf (p i) i) n
theorem idxs_true {p : Nat → Bool} {n : Nat} (h : p n = true) : idxs p (n + 1) = idxs p n ++ [n] := by rw [idxs, cat_succ, oneIf_true h]; rfl
theorem idxs_false {p : Nat → Bool} {n : Nat} (h : p n = false) : idxs p (n + 1) = idxs p n := by rw [idxs, cat_succ, oneIf_false h, List.append_nil]; rfl
theorem idxs_at {p : Nat → Bool} {i n : Nat} (h : i < n) (hp : p i = true) : (idxs p n)[(idxs p i).length]? = some i :=
  cat_at (f := fun i => oneIf (p i) i) (pre := []) (post := []) h (oneIf_true hp)
theorem idxs_len (p : Nat → Bool) (n : Nat) : (idxs p n).length ≤ n := by
  have := cat_length_mul (f := fun i => oneIf (p i) i) (m := 1) (fun i => oneIf_len _ _) n
  rw [Nat.mul_one] at this
  exact this
theorem idxs_mono {p : Nat → Bool} {i n : Nat} (h : i ≤ n) : (idxs p i).length ≤ (idxs p n).length := cat_length_le h
/-- An owned row with one row more. -/
theorem arr_snoc {enc : α → List Value} {v : Value} {e : TypeId} {s n : Nat} {P Q : List α} {x : α} {L : List Ent} (hQ : Q = P ++ [x]) (hn : n = P.length) : Ent.arr v e s (n + [enc x].length) ((P.map enc).flatten ++ [enc x].flatten) :: L = Ent.arr v e s Q.length ((Q.map enc).flatten) :: L := by
  subst hQ; subst hn; simp
end
end Go.Jog
