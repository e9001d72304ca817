/- From a row's world and arguments to this logic's memory, and back. Program-independent. -/
import Derived.Test.YtjmfjobfmdhbfaaDoorJogR
import Derived.OpenShut
import Derived.ChangeSame
import Derived.ChangeVars
import Derived.Deep.Slices
import Derived.Deep.DeepHandedRow
import Derived.LaidLaws
import Derived.WalkKit
import Derived.ProofKit
import Derived.Shelf.Vars
namespace Go.Jog
open Go Go.RowKit Go.WideShapes Go.ChangeShapes Go.Deep

/-- All that lies in a world, as memory that nobody writes. -/
def memOf (W : World) : Mem := fun k => W.heap[k]?
theorem sep_memOf (W : World) : Sep (memOf W) [] W := ⟨fun _ _ h => h, fun x hx => (by cases hx), List.Pairwise.nil, fun k ⟨x, hx, _⟩ => (by cases hx)⟩
theorem ccell_of {W : World} {a : Addr} {v : Value} (h : W.cell? a = some v) : CCell (memOf W) a v := by
  unfold World.cell? at h
  split at h
  · rename_i c t fz hb
    split at h
    · cases h
    · rename_i hs
      exact ⟨by simpa using hs, c, t, fz, hb, h⟩
  · cases h

theorem gives_below {P : Program} {f : FuncId} {args : List Value} {W : World} {v : Value} (h : Gives P f args (memOf W) v) : Calls P f args.toArray W fun e W' => e = .returned v ∧ Below W.heap.size W W' :=
  (h.2 W (sep_memOf W)).mono fun e W' ⟨u, C', L', he, hst, hu, hl⟩ => ⟨by rw [he, hu], hst.ev.below (fun k ⟨x, hx, _⟩ => by cases hx)⟩

theorem list_of {α : Type} {p : Nat → α → Prop} : ∀ {n : Nat}, (∀ i, i < n → ∃ x, p i x) → ∃ l : List α, l.length = n ∧ ∀ i x, l[i]? = some x → p i x
  | 0, _ => ⟨[], rfl, fun i x h => by simp at h⟩
  | n + 1, h => by
    obtain ⟨l, h1, h2⟩ := list_of (n := n) (fun i hi => h i (by omega))
    obtain ⟨x, hx⟩ := h n (by omega)
    refine ⟨l ++ [x], by simp [h1], fun i y hy => ?_⟩
    by_cases hi : i < n
    · rw [List.getElem?_append_left (by omega)] at hy
      exact h2 i y hy
    · rw [List.getElem?_append_right (by omega)] at hy
      have : i - l.length = 0 := by
        rcases Nat.eq_zero_or_pos (i - l.length) with h0 | h0
        · exact h0
        · rw [List.getElem?_eq_none (by simp; omega)] at hy; cases hy
      rw [this] at hy
      simp only [List.getElem?_cons_zero, Option.some.injEq] at hy
      subst hy
      have hin : i = n := by omega
      subst hin; exact hx

section
variable {H : Type} {enc : TypeId × Value → H} {P : Program} {W : World} {spare : Nat → Bool} {held : Bool}
/-- An argument that is a slice, its elements read as what they are. -/
theorem sl_of_arg {α : Type} {t e : TypeId} {k : Nat} {fuel : Nat} {v : Value} {x : DataW H × List MemPlace} (en : α → List Value) (ht : P.underlying t = some (.slice e)) (hc : P.cellsOf e = k) (hk0 : k ≠ 0)
    (hel : ∀ (n : Nat) (cs : List Value) (y : DataW H × List MemPlace), cs.length = k → DataW.trod enc P W 0 spare held n e cs = some y → ∃ z : α, cs = en z)
    (h : DataW.trod enc P W 0 spare held fuel t [v] = some x) : ∃ l : List α, Sl (memOf W) k v (l.map en) := by
  rcases open_slice ht h with ⟨h1, _⟩ | ⟨a, len, cap, m, n, D, Pl, hcs, _, hl, hm, hmm, _, hx⟩
  · simp only [List.cons.injEq, and_true] at h1
    subst h1
    exact ⟨[], Sl.nil _ _⟩
  · simp only [List.cons.injEq, and_true] at hcs
    subst hcs
    have hlm : len ≤ m := by rw [hmm]; split <;> omega
    rw [hc] at hx
    obtain ⟨l, hlen, hl2⟩ := list_of (α := α) (n := len) (p := fun i z => W.cells? 0 (a.add (i * k)) k = some (en z)) (fun i hi => by
      obtain ⟨cs', h1, h2⟩ := hx i (by omega)
      obtain ⟨_, h3, _⟩ := World.cells?_some h1
      obtain ⟨z, rfl⟩ := hel n cs' _ h3 h2
      exact ⟨z, h1⟩)
    refine ⟨l, some a, cap, by simp [hlen], by simp [hlen]; exact hl, hm, fun r hr => ?_, fun i r hi => ?_⟩
    · obtain ⟨z, hz, rfl⟩ := List.mem_map.1 hr
      obtain ⟨i, hi⟩ := List.getElem?_of_mem hz
      exact (World.cells?_some (hl2 i z hi)).2.1
    · rw [List.getElem?_map] at hi
      cases hz : l[i]? with
      | none => rw [hz] at hi; cases hi
      | some z =>
        rw [hz] at hi
        simp only [Option.map_some, Option.some.injEq] at hi
        subst hi
        obtain ⟨_, h4, h5⟩ := World.cells?_some (hl2 i z hz)
        have key : ∀ j u, (en z)[j]? = some u → W.cell? ((a.add (i * k)).add j) = some u := fun j u hj => by
          have hjk : j < k := by rw [← h4]; exact (List.getElem?_eq_some_iff.1 hj).1
          rw [h5 j hjk]; exact hj
        have hs : a.spot = none := by
          have h0 : 0 < l.length := by have := (List.getElem?_eq_some_iff.1 hz).1; omega
          obtain ⟨z0, hz0⟩ : ∃ z0, l[0]? = some z0 := ⟨l[0], List.getElem?_eq_getElem h0⟩
          obtain ⟨_, h6, h7⟩ := World.cells?_some (hl2 0 z0 hz0)
          have h8 := h7 0 (by omega)
          rw [List.getElem?_eq_getElem (by omega)] at h8
          have h9 := (ccell_of h8).1
          simpa [Addr.add] using h9
        exact ⟨a, rfl, hs, fun j u hj => by
          have := ccell_of (key j u hj)
          rwa [add_add a _ _ hs] at this⟩

theorem post_of_below {f : Func} {s : ChangeSpec} {apart fresh handsOn again : Bool} {W W' : World} {args : Array Value} {v : Value} {ds gs : List (DataW H)} {before pa pv : List MemPlace}
    (hW : DataW.Whole enc P f.params.toList s.vars apart W args.toList ds gs before)
    (hres : ∀ (b : Nat) (sp : Nat → Bool) (hd : Bool), DataW.TrodAll enc P W' b sp hd f.resultTypes.toList (v.resultList f.resultTypes.size) (s.fn H (ds ++ gs)).results [])
    (hargs : ∀ sp : Nat → Bool, (∀ p ∈ before, sp p.block = true) → DataW.TrodAll enc P W' 0 sp true f.params.toList args.toList (s.fn H (ds ++ gs)).args pa)
    (hvars : ∀ sp : Nat → Bool, (∀ p ∈ before, sp p.block = true) → DataW.TrodVars enc P W' sp s.vars (s.fn H (ds ++ gs)).vars pv)
    (hps : before = pa ++ pv) (hb : Below W.heap.size W W')
    (hok : ∀ (j : Nat) (t : TypeId) (r : Value), f.resultTypes[j]? = some t → (v.resultList f.resultTypes.size)[j]? = some r → Value.okWide P W' .any 0 t r) :
    s.post enc P f apart fresh handsOn again W args v W' := by
  have hlt : ∀ p ∈ before, p.block < W.heap.size := fun p hp => hW.lt p hp
  have hold : ∀ p ∈ before, (fun b => decide (b < W.heap.size)) p.block = true := fun p hp => by simpa using hlt p hp
  refine ⟨ds, gs, before, [], pa, pv, hW, hres _ _ _, hargs _ hold, hvars _ hold, World.keptBut_mono (fun p hp => ⟨hp, ?_⟩) (hb.frame (· ∈ before)), fun _ => ?_⟩
  · rw [hps, List.mem_append] at hp
    exact Or.inr hp
  · obtain ⟨_, _, _, _, _, hz, hn⟩ := hW
    refine ⟨hok, _, _, ([] ++ pa) ++ pv, ⟨[] ++ pa, pv, trodAll_append (hargs _ (fun _ _ => rfl)) (hres _ _ _), hvars _ (fun _ _ => rfl), rfl, ?_, ?_⟩, ?_⟩
    · intro b off hp
      have hin : MemPlace.cell b off ∈ before := by rw [hps]; simpa using hp
      rw [hb.frozen (hlt _ hin)]
      exact hz b off hin
    · intro ha
      have := hn ha
      rw [hps] at this
      simpa using this
    · intro p hp _
      rw [hps]
      simpa using hp
end
end Go.Jog
