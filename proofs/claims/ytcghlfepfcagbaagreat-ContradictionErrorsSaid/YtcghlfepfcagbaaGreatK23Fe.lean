/- FOR ANY DESCRIPTIONS, ANY RELATION AND ANY NUMBER ContradictionErrors ANSWERS true, and leaves them as they were. -/
import Derived.Test.YtcghlfepfcagbaaGreatG10
import Derived.Test.YtcghlfepfcagbaaGreatShelf
namespace Go.Proofs.YtcghlfepfcagbaaGreat
open Go Go.Jog Go.ChangeShapes Go.WideShapes Go.ChangeAt Go.RowKit
set_option maxRecDepth 100000

section
variable {H : Type} {enc : TypeId × Value → H} {W : World} {spare : Nat → Bool} {held : Bool}
theorem str_of {n : Nat} {c : Value} {y : DataW H × List MemPlace} (h : DataW.trod enc Tryz.prog W 0 spare held n 9 [c] = some y) : ∃ s : Str, c = strV s := by
  obtain ⟨⟨⟨l⟩⟩, h1, _⟩ := DataW.trod_string Tryz.underlying9 h
  simp only [List.cons.injEq, and_true] at h1
  exact ⟨l, h1⟩
theorem intb_of {n : Nat} {c : Value} {y : DataW H × List MemPlace} (h : DataW.trod enc Tryz.prog W 0 spare held n 3 [c] = some y) : ∃ m : Int, c = .int .i64 m ∧ -9223372036854775808 ≤ m ∧ m ≤ 9223372036854775807 := by
  obtain ⟨m, h1, _, h3⟩ := DataW.trod_int Tryz.underlying3 h
  simp only [List.cons.injEq, and_true] at h1
  refine ⟨m, h1, ?_⟩
  simp [Lit.wf, IntKind.min, IntKind.max, IntKind.signed, IntKind.bits] at h3
  omega
theorem rel_of {n : Nat} {cs : List Value} {y : DataW H × List MemPlace} (h : DataW.trod enc Tryz.prog W 0 spare held n 55 cs = some y) : ∃ z : Rel, cs = z.enc := by
  obtain ⟨y0, y1, y2, n', _, hl, h0, h1, h2⟩ := Go.Deep.trod_struct3 Tryz.underlying55 h
  have hc : Tryz.prog.cellsOf 55 = 3 := by kernel_rfl
  have hi : Tryz.prog.cellsOf 3 = 1 := by kernel_rfl
  have hs : Tryz.prog.cellsOf 9 = 1 := by kernel_rfl
  rw [hc] at hl
  match cs, hl with
  | [c0, c1, c2], _ =>
    simp only [hi, hs] at h0 h1 h2
    obtain ⟨m, rfl⟩ := int_of h0
    obtain ⟨u, rfl⟩ := str_of h1
    obtain ⟨l, rfl⟩ := str_of h2
    exact ⟨⟨m, u, l⟩, rfl⟩
end
end Go.Proofs.YtcghlfepfcagbaaGreat
namespace Go.Proofs.YtcghlfepfcagbaaGreat
open Go Go.Jog
set_option maxRecDepth 100000

end Go.Proofs.YtcghlfepfcagbaaGreat
namespace Go.Proofs.YtcghlfepfcagbaaGreat
open Go Go.Jog
set_option maxRecDepth 100000

/-! ### Groups, plain -/
section
variable {α : Type}
structure Eqv (M : α → α → Bool) (K : List α) : Prop where
  refl : ∀ s ∈ K, M s s = true
  symm : ∀ s ∈ K, ∀ t ∈ K, M s t = true → M t s = true
  trans : ∀ s ∈ K, ∀ t ∈ K, ∀ u ∈ K, M s t = true → M t u = true → M s u = true
theorem Eqv.sub {M : α → α → Bool} {K R : List α} (h : Eqv M K) (hs : ∀ x ∈ R, x ∈ K) : Eqv M R :=
  ⟨fun s h1 => h.refl s (hs s h1), fun s h1 t h2 => h.symm s (hs s h1) t (hs t h2), fun s h1 t h2 u h3 => h.trans s (hs s h1) t (hs t h2) u (hs u h3)⟩
end
section
variable {α : Type} [DecidableEq α]
end
theorem OutS.at {C : Mem} {ov : List Value} {outs : List (List Str)} (h : OutS C ov outs) {j : Nat} {o : List Str} (ho : outs[j]? = some o) : ∃ A c, (ov.map fun x => [x])[j]? = some [.slice A o.length c] ∧ Sl C 1 (.slice A o.length c) (o.map encS) := by
  have hj := (List.getElem?_eq_some_iff.1 ho).1
  have hv : ov[j]? = some (ov[j]'(by rw [h.1]; exact hj)) := List.getElem?_eq_getElem _
  obtain ⟨A, c, he, _⟩ := id (h.2 j _ o hv ho)
  rw [List.length_map] at he
  have hs := h.2 j _ o hv ho
  rw [he] at hs hv
  exact ⟨A, c, by rw [List.getElem?_map, hv]; rfl, hs⟩
end Go.Proofs.YtcghlfepfcagbaaGreat
namespace Go.Proofs.YtcghlfepfcagbaaGreat
open Go Go.Jog
set_option maxRecDepth 100000

end Go.Proofs.YtcghlfepfcagbaaGreat
namespace Go.Proofs.YtcghlfepfcagbaaGreat
open Go Go.Jog
set_option maxRecDepth 100000

end Go.Proofs.YtcghlfepfcagbaaGreat
namespace Go.Proofs.YtcghlfepfcagbaaGreat
open Go Go.Jog
set_option maxRecDepth 100000

end Go.Proofs.YtcghlfepfcagbaaGreat
namespace Go.Proofs.YtcghlfepfcagbaaGreat
open Go Go.Jog
set_option maxRecDepth 100000

theorem OutN.append {C : Mem} {a b : List Value} {la lb : List (List Nat)} (h : OutN C a la) (k : OutN C b lb) : OutN C (a ++ b) (la ++ lb) := by
  have h0 := h.1
  refine ⟨by simp [h0, k.1], fun j v o h1 h2 => ?_⟩
  rcases Nat.lt_or_ge j a.length with hlt | hge
  · rw [List.getElem?_append_left hlt] at h1
    rw [List.getElem?_append_left (by omega)] at h2
    exact h.2 j v o h1 h2
  · rw [List.getElem?_append_right hge] at h1
    rw [List.getElem?_append_right (by omega), ← h0] at h2
    exact k.2 _ v o h1 h2
theorem OutN.take {C : Mem} {a : List Value} {la : List (List Nat)} (h : OutN C a la) (n : Nat) : OutN C (a.take n) (la.take n) := by
  refine ⟨by simp [h.1], fun j v o h1 h2 => ?_⟩
  rw [List.getElem?_take] at h1 h2
  split at h1
  · rename_i hj; rw [if_pos hj] at h2; exact h.2 j v o h1 h2
  · cases h1
theorem OutN.drop {C : Mem} {a : List Value} {la : List (List Nat)} (h : OutN C a la) (n : Nat) : OutN C (a.drop n) (la.drop n) := by
  refine ⟨by simp [h.1], fun j v o h1 h2 => ?_⟩
  rw [List.getElem?_drop] at h1 h2
  exact h.2 _ v o h1 h2
theorem OutN.one {C : Mem} {v : Value} {o : List Nat} (h : Sl C 1 v (o.map encN)) : OutN C [v] [o] := by
  refine ⟨rfl, fun j v' o' h1 h2 => ?_⟩
  cases j with
  | zero => simp at h1 h2; subst h1; subst h2; exact h
  | succ j => simp at h1
theorem OutN.oneB {C : Mem} {a : List Value} {la : List (List Nat)} (h : OutN C a la) : (a.map fun x => [x]).all (fun r => r.all oneB) = true := by
  rw [List.all_eq_true]
  intro r hr
  obtain ⟨v, hv, rfl⟩ := List.mem_map.1 hr
  obtain ⟨j, hj⟩ := List.getElem?_of_mem hv
  have hjl := (List.getElem?_eq_some_iff.1 hj).1
  obtain ⟨A, c, h1, _⟩ := h.2 j v _ hj (List.getElem?_eq_getElem (by rw [← h.1]; exact hjl))
  rw [h1]; rfl
end Go.Proofs.YtcghlfepfcagbaaGreat
namespace Go.Proofs.YtcghlfepfcagbaaGreat
open Go Go.Jog
set_option maxRecDepth 100000

end Go.Proofs.YtcghlfepfcagbaaGreat
namespace Go.Proofs.YtcghlfepfcagbaaGreat
open Go Go.Jog
set_option maxRecDepth 100000

end Go.Proofs.YtcghlfepfcagbaaGreat
namespace Go.Proofs.YtcghlfepfcagbaaGreat
open Go Go.Jog
set_option maxRecDepth 100000

abbrev Pr := Str × Str
def prE (x : Pr) : List Value := [strV x.1, strV x.2]
theorem pr_len (x : Pr) : (prE x).length = 2 := rfl
theorem eqRow_pr (x y : Pr) : ((x.1 == y.1) && ((x.2 == y.2) && true)) = decide (x = y) := by
  obtain ⟨b, c⟩ := x
  obtain ⟨b', c'⟩ := y
  by_cases h2 : b = b' <;> by_cases h3 : c = c' <;> simp [h2, h3]
def idxPr (x : Pr) : List Pr → Nat → Int
  | [], _ => -1
  | y :: l, i => if x = y then (i : Int) else idxPr x l (i + 1)
theorem idxPr_miss {x : Pr} : ∀ {l : List Pr} {i : Nat}, x ∉ l → idxPr x l i = -1
  | [], _, _ => rfl
  | y :: l, i, h => by
    rw [idxPr, if_neg (fun e => h (by simp [e])), idxPr_miss (fun e => h (by simp [e]))]
theorem idxPr_hit {x : Pr} : ∀ {l : List Pr} {i k : Nat}, l[k]? = some x → x ∉ l.take k → idxPr x l i = ((i + k : Nat) : Int)
  | [], _, _, h, _ => by simp at h
  | y :: l, i, 0, h, _ => by
    simp at h; subst h
    rw [idxPr, if_pos rfl]; rfl
  | y :: l, i, k + 1, h, hn => by
    rw [List.take_succ_cons, List.mem_cons, not_or] at hn
    rw [idxPr, if_neg hn.1, idxPr_hit (k := k) (by simpa using h) hn.2]
    congr 1; omega
theorem idxPr_mem {x : Pr} : ∀ {l : List Pr} {i : Nat}, x ∈ l → 0 ≤ idxPr x l i
  | [], _, h => by cases h
  | y :: l, i, h => by
    rw [idxPr]
    split
    · omega
    · rename_i e
      exact idxPr_mem ((List.mem_cons.1 h).resolve_left e)
theorem indexPr_fn (C : Mem) (v : Value) (l : List Pr) (x : Pr) (hv : Sl C 2 v (l.map prE)) (hl : l.length ≤ 1000000) : Gives cx.P 76 [v, .agg ⟨prE x⟩] C (.int .i64 (idxPr x l 0)) := by
  obtain ⟨Av, cv, rfl, _⟩ := id hv
  simp only [List.length_map] at hv ⊢
  refine Fn.intro (by kernel_rfl) Tryz.func76 rfl 19 rfl rfl (fun w0 => ?_)
  refine G.region rfl (fun R hR => ?_)
  refine D.box rfl rfl rfl rfl rfl rfl (fun _ => rfl) (fun b3 => ?_)
  refine D.pure rfl rfl rfl rfl rfl rfl ?_
  refine D.done [(0, [], _), (3, [], _)] ⟨rfl, rfl, trivial⟩ (hR _ _ _ rfl ?_); clear hR R
  refine G.region rfl (fun R hR => ?_)
  iterate 3 refine D.pure rfl rfl rfl rfl rfl rfl ?_
  refine D.done [(0, [], _), (3, [], _), (7, [], _), (8, [], _)] ⟨rfl, rfl, rfl, rfl, trivial⟩ (hR _ _ _ rfl ?_); clear hR R
  refine G.loop (fun fr C' L' μ => ∃ (k : Nat), (k ≤ l.length ∧ x ∉ l.take k) ∧ fr = [(0, [], .slice Av l.length cv), (3, [], .pointer (some ⟨b3, 0, none⟩)), (7, [], .int .i64 l.length), (8, [], .int .i64 k)] ∧ L' = [.obj b3 (.cells ⟨prE x⟩ 62 (0, 0))] ∧ μ = l.length - k) (fr' := [(0, [], _), (3, [], _), (7, [], _), (8, [], _)]) ⟨rfl, rfl, rfl, rfl, trivial⟩ ⟨0, ⟨Nat.zero_le _, by simp⟩, rfl, rfl, rfl⟩ (fun fr C0' L0' m hle0 hI => ?_)
  obtain ⟨k, ⟨hk, hn⟩, rfl, rfl, rfl⟩ := hI
  refine G.region rfl (fun R hR => ?_)
  refine D.pure rfl rfl rfl rfl rfl rfl ?_
  refine D.done [(0, [], _), (3, [], _), (7, [], _), (8, [], _), (9, [], _)] ⟨rfl, rfl, rfl, rfl, rfl, trivial⟩ (hR _ _ _ rfl ?_); clear hR R
  refine G.cond rfl (fun h9 => ?_) (fun h9 => ?_)
  · skip
    simp only [decide_eq_true_eq] at h9
    have hkl : k < l.length := by omega
    obtain ⟨y, hy⟩ : ∃ y, l[k]? = some y := ⟨l[k], List.getElem?_eq_getElem hkl⟩
    have hry : (l.map prE)[k]? = some (prE y) := by rw [List.getElem?_map, hy]; rfl
    refine G.region rfl (fun R hR => ?_)
    iterate 2 refine D.pure rfl rfl rfl rfl rfl rfl ?_
    refine D.done [(0, [], _), (3, [], _), (5, [], _), (7, [], _), (8, [], _)] ⟨rfl, rfl, rfl, rfl, rfl, trivial⟩ (hR _ _ _ rfl ?_); clear hR R
    refine G.draw [0, 1, 2, 3, 4, 5] [] rfl (by kernel_rfl) (fun R hB hR => ?_)
    refine D.loadL (.head _) rfl rfl rfl rfl rfl rfl rfl rfl rfl ?_
    iterate 2 refine D.pure rfl rfl rfl rfl rfl rfl ?_
    refine D.index0 (hv.mono (by (repeat (first | exact Mem.le.refl _ | assumption | (apply Mem.le.trans; rotate_left; assumption))))) rfl rfl rfl rfl rfl rfl rfl rfl rfl rfl (by omega) hry (fun _ => rfl) (fun p14 hp14 => ?_)
    refine D.loadP0 hp14 rfl rfl rfl rfl rfl rfl rfl rfl ?_
    refine D.eqAgg (decide (x = y)) (by kernel_rfl) rfl rfl rfl rfl rfl rfl rfl rfl (fun _ => eqRow_pr _ _) rfl rfl ?_
    refine D.done [(0, [], _), (3, [], _), (5, [], _), (7, [], _), (8, [], _), (16, [], _)] ⟨rfl, rfl, rfl, rfl, rfl, rfl, trivial⟩ (hR _ _ _ rfl ?_); clear hR hB R
    refine G.cond rfl (fun h16 => ?_) (fun h16 => ?_)
    · skip
      have h16' : x = y := by simpa using h16
      subst h16'
      refine G.region rfl (fun R hR => ?_)
      iterate 2 refine D.pure rfl rfl rfl rfl rfl rfl ?_
      refine D.done [(4, [], _)] ⟨rfl, trivial⟩ (hR _ _ _ rfl ?_); clear hR R
      refine G.retN (G.dropAll (G.fin1 rfl rfl ?_))
      refine ⟨?_, rfl⟩
      rw [idxPr_hit hy hn, Nat.zero_add]
    · skip
      have h16' : ¬ x = y := by simpa using h16
      refine G.region rfl (fun R hR => ?_)
      refine D.i64 _ rfl rfl rfl rfl rfl (by omega) (by omega) rfl rfl ?_
      refine D.pure rfl rfl rfl rfl rfl rfl ?_
      refine D.done [(0, [], _), (3, [], _), (7, [], _), (8, [], _)] ⟨rfl, rfl, rfl, rfl, trivial⟩ (hR _ _ _ rfl ?_); clear hR R
      refine G.again (m' := l.length - (k + 1)) (by omega) (by (repeat (first | exact Mem.le.refl _ | assumption | (apply Mem.le.trans; rotate_left; assumption)))) (fr' := [(0, [], _), (3, [], _), (7, [], _), (8, [], _)]) ⟨rfl, rfl, rfl, rfl, trivial⟩ ⟨k + 1, ⟨by omega, by rw [List.take_add_one, hy]; simp [hn, h16']⟩, rfl, rfl, rfl⟩
  · skip
    simp only [decide_eq_false_iff_not] at h9
    have hkl : k = l.length := by omega
    subst hkl
    rw [List.take_length] at hn
    refine G.region rfl (fun R hR => ?_)
    refine D.pure rfl rfl rfl rfl rfl rfl ?_
    refine D.done [(4, [], _)] ⟨rfl, trivial⟩ (hR _ _ _ rfl ?_); clear hR R
    refine G.retN (G.dropAll (G.fin1 rfl rfl ?_))
    refine ⟨?_, rfl⟩
    rw [idxPr_miss hn]
theorem containsPr_fn (C : Mem) (v : Value) (l : List Pr) (x : Pr) (hv : Sl C 2 v (l.map prE)) (hl : l.length ≤ 1000000) : Gives cx.P 61 [v, .agg ⟨prE x⟩] C (.bool (decide (x ∈ l))) := by
  refine Fn.intro (by kernel_rfl) Tryz.func61 rfl 9 rfl rfl (fun w0 => ?_)
  refine G.region rfl (fun R hR => ?_)
  refine D.box rfl rfl rfl rfl rfl rfl (fun _ => rfl) (fun b3 => ?_)
  refine D.pure rfl rfl rfl rfl rfl rfl ?_
  refine D.done [(0, [], _), (3, [], _)] ⟨rfl, rfl, trivial⟩ (hR _ _ _ rfl ?_); clear hR R
  refine G.region rfl (fun R hR => ?_)
  refine D.pure rfl rfl rfl rfl rfl rfl ?_
  refine D.loadL (.head _) rfl rfl rfl rfl rfl rfl rfl rfl rfl ?_
  refine D.gives2 (indexPr_fn _ v l x hv hl) rfl rfl rfl rfl rfl rfl rfl (fun _ => rfl) ?_
  iterate 2 refine D.pure rfl rfl rfl rfl rfl rfl ?_
  refine D.done [(4, [], _)] ⟨rfl, trivial⟩ (hR _ _ _ rfl ?_); clear hR R
  refine G.retN (G.dropAll (G.fin1 rfl rfl ?_))
  refine ⟨?_, rfl⟩
  by_cases h : x ∈ l
  · have := idxPr_mem (i := 0) h
    simp [h, this]
  · rw [idxPr_miss h]; simp [h]
theorem closDepends (C : Mem) (x : Pr) (l : List Pr) (v : Value) (b : Nat) (tb : TypeId) (hb : C b = some (.cells ⟨[v]⟩ tb (0, 0))) (hv : Sl C 2 v (l.map prE)) (hl : l.length ≤ 1000000) : Gives cx.P 60 [.agg ⟨prE x⟩, .pointer (some ⟨b, 0, none⟩)] C (.bool (decide (x ∈ l))) := by
  have hp1 : PtrTo C (.pointer (some ⟨b, 0, none⟩)) [v] := PtrTo.block hb 0
  refine Fn.intro (by kernel_rfl) Tryz.func60 rfl 7 rfl rfl (fun w0 => ?_)
  refine G.region rfl (fun R hR => ?_)
  refine D.box rfl rfl rfl rfl rfl rfl (fun _ => rfl) (fun b2 => ?_)
  refine D.pure rfl rfl rfl rfl rfl rfl ?_
  refine D.done [(1, [], _), (2, [], _)] ⟨rfl, rfl, trivial⟩ (hR _ _ _ rfl ?_); clear hR R
  refine G.region rfl (fun R hR => ?_)
  refine D.loadP0 hp1 rfl rfl rfl rfl rfl rfl rfl rfl ?_
  refine D.loadL (.head _) rfl rfl rfl rfl rfl rfl rfl rfl rfl ?_
  refine D.gives2 (containsPr_fn _ v l x hv hl) rfl rfl rfl rfl rfl rfl rfl (fun _ => rfl) ?_
  refine D.pure rfl rfl rfl rfl rfl rfl ?_
  refine D.done [(3, [], _)] ⟨rfl, trivial⟩ (hR _ _ _ rfl ?_); clear hR R
  refine G.retN (G.dropAll (G.fin1 rfl rfl ?_))
  exact ⟨rfl, rfl⟩
def findI {α : Type} (p : α → Bool) : List α → Nat → Int
  | [], _ => -1
  | x :: l, k => if p x = true then k else findI p l (k + 1)
theorem findI_at {α : Type} {p : α → Bool} : ∀ {l : List α} {x : α} {k j : Nat}, l[k]? = some x → (∀ y ∈ l.take k, p y = false) → p x = true → findI p l j = ((j + k : Nat) : Int)
  | [], x, k, j, h, _, _ => by simp at h
  | y :: l, x, 0, j, h, _, hp => by
    simp at h
    subst h
    simp [findI, hp]
  | y :: l, x, k + 1, j, h, ha, hp => by
    have := findI_at (l := l) (k := k) (j := j + 1) (by simpa using h) (fun z hz => ha z (by simp [hz])) hp
    simp only [findI, this]
    rw [if_neg (by rw [ha y (by simp)]; decide)]
    congr 1; omega
theorem findI_none {α : Type} {p : α → Bool} : ∀ {l : List α} {j : Nat}, (∀ y ∈ l, p y = false) → findI p l j = -1
  | [], _, _ => rfl
  | y :: l, j, h => by
    simp only [findI]
    rw [if_neg (by rw [h y (by simp)]; decide)]
    exact findI_none (fun z hz => h z (by simp [hz]))
theorem findI_cases {α : Type} {p : α → Bool} : ∀ (l : List α) (j : Nat), (findI p l j = -1 ∧ ∀ y ∈ l, p y = false) ∨ ∃ k x, findI p l j = ((j + k : Nat) : Int) ∧ l[k]? = some x ∧ p x = true ∧ ∀ y ∈ l.take k, p y = false
  | [], _ => .inl ⟨rfl, fun y hy => by cases hy⟩
  | y :: l, j => by
    simp only [findI]
    by_cases h : p y = true
    · exact .inr ⟨0, y, by rw [if_pos h]; rfl, by simp, h, by simp⟩
    · simp only [Bool.not_eq_true] at h
      rw [if_neg (by rw [h]; decide)]
      rcases findI_cases l (j + 1) with ⟨h1, h2⟩ | ⟨k, x, h1, h2, h3, h4⟩
      · refine .inl ⟨h1, fun z hz => ?_⟩
        rcases List.mem_cons.1 hz with rfl | hz
        · exact h
        · exact h2 z hz
      · refine .inr ⟨k + 1, x, by rw [h1]; congr 1; omega, by simpa using h2, h3, fun z hz => ?_⟩
        rw [List.take_succ_cons] at hz
        rcases List.mem_cons.1 hz with rfl | hz
        · exact h
        · exact h4 z hz

theorem indexFunc_pr (C : Mem) (v : Value) (l : List Pr) (g : FuncId) (cb : List Value) (p : Pr → Bool) (hl : l.length ≤ 1000000) (hcb : ∀ x ∈ l, ∀ C', C.le C' → Gives cx.P g (.agg ⟨prE x⟩ :: cb) C' (.bool (p x))) :
    Jog.Fn cx.P 75 [v, .func (.func g) #[] ⟨cb⟩] C [.arr v 62 2 l.length (l.map prE).flatten] fun u _C' L' => u = .int .i64 (findI p l 0) ∧ L' = [.arr v 62 2 l.length (l.map prE).flatten] := by
  refine Fn.intro (by kernel_rfl) Tryz.func75 rfl 19 rfl rfl (fun w0 => ?_)
  refine G.form (.head _) (fun hform hxl => ?_)
  obtain ⟨A, c0, hv⟩ : ∃ A c0, v = .slice A l.length c0 := by
    rcases hform with ⟨h1, h2⟩ | ⟨g, c, h1, _⟩
    · exact ⟨none, 0, by rw [h1, h2]⟩
    · exact ⟨_, c, h1⟩
  subst hv
  refine G.region rfl (fun R hR => ?_)
  refine D.pure rfl rfl rfl rfl rfl rfl ?_
  refine D.done [(0, [], _), (1, [], _)] ⟨rfl, rfl, trivial⟩ (hR _ _ _ rfl ?_); clear hR R
  refine G.region rfl (fun R hR => ?_)
  iterate 3 refine D.pure rfl rfl rfl rfl rfl rfl ?_
  refine D.done [(0, [], _), (1, [], _), (7, [], _), (8, [], _)] ⟨rfl, rfl, rfl, rfl, trivial⟩ (hR _ _ _ rfl ?_); clear hR R
  refine G.loop (fun fr C' L' μ => ∃ (k : Nat), (k ≤ l.length ∧ ∀ y ∈ l.take k, p y = false) ∧ fr = [(0, [], .slice A l.length c0), (1, [], .func (.func g) #[] ⟨cb⟩), (7, [], .int .i64 l.length), (8, [], .int .i64 k)] ∧ L' = [.arr (.slice A l.length c0) 62 2 l.length (l.map prE).flatten] ∧ μ = l.length - k) (fr' := [(0, [], _), (1, [], _), (7, [], _), (8, [], _)]) ⟨rfl, rfl, rfl, rfl, trivial⟩ ⟨0, ⟨Nat.zero_le _, by simp⟩, rfl, rfl, rfl⟩ (fun fr C0' L0' m hle0 hI => ?_)
  obtain ⟨k, ⟨hk, hall⟩, rfl, rfl, rfl⟩ := hI
  refine G.region rfl (fun R hR => ?_)
  refine D.pure rfl rfl rfl rfl rfl rfl ?_
  refine D.done [(0, [], _), (1, [], _), (7, [], _), (8, [], _), (9, [], _)] ⟨rfl, rfl, rfl, rfl, rfl, trivial⟩ (hR _ _ _ rfl ?_); clear hR R
  refine G.cond rfl (fun h9 => ?_) (fun h9 => ?_)
  · skip
    simp only [decide_eq_true_eq] at h9
    have hkl : k < l.length := by omega
    obtain ⟨x, hx⟩ : ∃ x, l[k]? = some x := ⟨l[k], List.getElem?_eq_getElem hkl⟩
    have hxm : x ∈ l := List.mem_of_getElem? hx
    obtain ⟨gb, c, hgc⟩ : ∃ g c, (Value.slice A l.length c0) = .slice (some ⟨g, 0, none⟩) l.length c := by
      rcases hform with ⟨h1, h2⟩ | ⟨g, c, h1, _⟩
      · omega
      · exact ⟨g, c, h1⟩
    obtain ⟨rfl, rfl⟩ : some (⟨gb, 0, none⟩ : Addr) = A ∧ c = c0 := by cases hgc; exact ⟨rfl, rfl⟩
    refine G.region rfl (fun R hR => ?_)
    iterate 2 refine D.pure rfl rfl rfl rfl rfl rfl ?_
    refine D.done [(0, [], _), (1, [], _), (5, [], _), (7, [], _), (8, [], _)] ⟨rfl, rfl, rfl, rfl, rfl, trivial⟩ (hR _ _ _ rfl ?_); clear hR R
    refine G.region rfl (fun R hR => ?_)
    iterate 3 refine D.pure rfl rfl rfl rfl rfl rfl ?_
    refine D.indexS (k * 2) rfl rfl rfl rfl rfl rfl rfl rfl rfl rfl (fun _ => ⟨by omega, by omega, rfl⟩) rfl rfl ?_
    refine D.loadArr (.head _) rfl rfl rfl rfl rfl rfl (fun _ => (by rw [row_read pr_len hx]; rfl)) rfl rfl ?_
    refine D.gives2 (hcb x hxm _ hle0) rfl rfl rfl rfl rfl rfl rfl (fun _ => rfl) ?_
    refine D.done [(0, [], _), (1, [], _), (5, [], _), (7, [], _), (8, [], _), (16, [], _)] ⟨rfl, rfl, rfl, rfl, rfl, rfl, trivial⟩ (hR _ _ _ rfl ?_); clear hR R
    refine G.cond rfl (fun h16 => ?_) (fun h16 => ?_)
    · skip
      refine G.region rfl (fun R hR => ?_)
      iterate 2 refine D.pure rfl rfl rfl rfl rfl rfl ?_
      refine D.done [(4, [], _)] ⟨rfl, trivial⟩ (hR _ _ _ rfl ?_); clear hR R
      refine G.retN (G.fin1 rfl rfl ?_)
      exact ⟨by rw [findI_at (k := k) (j := 0) hx hall h16, Nat.zero_add], rfl⟩
    · skip
      refine G.region rfl (fun R hR => ?_)
      refine D.i64 _ rfl rfl rfl rfl rfl (by omega) (by omega) rfl rfl ?_
      refine D.pure rfl rfl rfl rfl rfl rfl ?_
      refine D.done [(0, [], _), (1, [], _), (7, [], _), (8, [], _)] ⟨rfl, rfl, rfl, rfl, trivial⟩ (hR _ _ _ rfl ?_); clear hR R
      refine G.again (m' := l.length - (k + 1)) (by omega) hle0 (fr' := [(0, [], _), (1, [], _), (7, [], _), (8, [], _)]) ⟨rfl, rfl, rfl, rfl, trivial⟩ ⟨k + 1, ⟨by omega, fun y hy => by
        rw [List.take_add_one, hx] at hy
        rcases List.mem_append.1 hy with h6 | h6
        · exact hall y h6
        · simp only [Option.toList_some, List.mem_singleton] at h6
          subst h6
          exact h16⟩, rfl, rfl, rfl⟩
  · skip
    simp only [decide_eq_false_iff_not] at h9
    refine G.region rfl (fun R hR => ?_)
    refine D.pure rfl rfl rfl rfl rfl rfl ?_
    refine D.done [(4, [], _)] ⟨rfl, trivial⟩ (hR _ _ _ rfl ?_); clear hR R
    refine G.retN (G.fin1 rfl rfl ?_)
    rw [List.take_of_length_le (by omega)] at hall
    exact ⟨by rw [findI_none hall], rfl⟩

set_option maxHeartbeats 1000000 in
theorem deleteFunc_pr (C : Mem) (v : Value) (l : List Pr) (fg : FuncId) (cb : List Value) (p : Pr → Bool) (hl : l.length ≤ 1000000) (hcb : ∀ x ∈ l, ∀ C', C.le C' → Gives cx.P fg (.agg ⟨prE x⟩ :: cb) C' (.bool (p x))) :
    Jog.Fn cx.P 59 [v, .func (.func fg) #[] ⟨cb⟩] C [.arr v 62 2 l.length (l.map prE).flatten] fun u C' L' => L' = [] ∧ Sl C' 2 u ((l.filter fun x => !(p x)).map prE) := by
  refine Fn.intro (by kernel_rfl) Tryz.func59 rfl 42 rfl rfl (fun w0 => ?_)
  refine G.form (.head _) (fun hform hxl => ?_)
  obtain ⟨A, c0, hv⟩ : ∃ A c0, v = .slice A l.length c0 := by
    rcases hform with ⟨h1, h2⟩ | ⟨g, c, h1, _⟩
    · exact ⟨none, 0, by rw [h1, h2]⟩
    · exact ⟨_, c, h1⟩
  subst hv
  refine G.region rfl (fun R hR => ?_)
  refine D.pure rfl rfl rfl rfl rfl rfl ?_
  refine D.done [(0, [], _), (1, [], _)] ⟨rfl, rfl, trivial⟩ (hR _ _ _ rfl ?_); clear hR R
  refine G.regionO [(2, 3)] rfl (fun R hR => ?_)
  iterate 2 refine D.pure rfl rfl rfl rfl rfl rfl ?_
  refine D.call (indexFunc_pr _ _ l fg cb p hl hcb) rfl (.inr (by decide)) rfl rfl rfl rfl rfl rfl (List.Perm.refl _) (fun _ => rfl) (fun v10 C10 L10 hle10 hq10 => ?_)
  obtain ⟨rfl, rfl⟩ := hq10
  refine D.pure rfl rfl rfl rfl rfl rfl ?_
  refine D.done [(0, [], _), (1, [], _), (5, [], _)] ⟨rfl, rfl, rfl, trivial⟩ (hR _ _ _ rfl ?_); clear hR R
  refine G.region rfl (fun R hR => ?_)
  iterate 2 refine D.pure rfl rfl rfl rfl rfl rfl ?_
  refine D.done [(0, [], _), (1, [], _), (5, [], _), (12, [], _)] ⟨rfl, rfl, rfl, rfl, trivial⟩ (hR _ _ _ rfl ?_); clear hR R
  refine G.cond rfl (fun h12 => ?_) (fun h12 => ?_)
  · skip
    have hnone : ∀ y ∈ l, p y = false := by
      rcases findI_cases (p := p) l 0 with ⟨_, h2⟩ | ⟨k, x, h1, _⟩
      · exact h2
      · exfalso; rw [h1] at h12; simp at h12
    have hid : l.filter (fun x => !(p x)) = l := List.filter_eq_self.2 (fun y hy => by rw [hnone y hy]; rfl)
    refine G.region rfl (fun R hR => ?_)
    iterate 2 refine D.pure rfl rfl rfl rfl rfl rfl ?_
    refine D.done [(4, [], _)] ⟨rfl, trivial⟩ (hR _ _ _ rfl ?_); clear hR R
    refine G.freezeArr 0 (l.map prE) rfl rfl (by intro r hr; obtain ⟨x, _, rfl⟩ := List.mem_map.1 hr; exact pr_len x) (by simp) (fun Cf hlef hsf => G.retN (G.fin1 rfl rfl ?_))
    exact ⟨rfl, by rw [hid]; exact hsf⟩
  · skip
    obtain ⟨k0, x0, hk0, hx0, hp0, hall0⟩ : ∃ k x, findI p l 0 = ((k : Nat) : Int) ∧ l[k]? = some x ∧ p x = true ∧ ∀ y ∈ l.take k, p y = false := by
      rcases findI_cases (p := p) l 0 with ⟨h1, h2⟩ | ⟨k, x, h1, h2⟩
      · exfalso; rw [h1] at h12; simp at h12
      · exact ⟨k, x, by rw [h1, Nat.zero_add], h2⟩
    have hk0l : k0 < l.length := (List.getElem?_eq_some_iff.1 hx0).1
    rw [hk0]
    obtain ⟨g, c, hgc, hlc, hcm⟩ : ∃ g c, (Value.slice A l.length c0) = .slice (some ⟨g, 0, none⟩) l.length c ∧ l.length ≤ c ∧ c ≤ maxLen := by
      rcases hform with ⟨h1, h2⟩ | ⟨g, c, h1, h2, h3⟩
      · omega
      · exact ⟨g, c, h1, h2, h3⟩
    obtain ⟨rfl, rfl⟩ : some (⟨g, 0, none⟩ : Addr) = A ∧ c = c0 := by cases hgc; exact ⟨rfl, rfl⟩
    have hstart : (l.take (k0 + 1)).filter (fun x => !(p x)) = l.take k0 := by
      rw [List.take_add_one, hx0, List.filter_append]
      simp only [Option.toList_some, List.filter_cons, hp0, Bool.not_true, List.filter_nil]
      rw [if_neg (by decide), List.append_nil]
      exact List.filter_eq_self.2 (fun y hy => by rw [hall0 y hy]; rfl)
    refine G.region rfl (fun R hR => ?_)
    refine D.pure rfl rfl rfl rfl rfl rfl ?_
    refine D.i64 _ rfl rfl rfl rfl rfl (by omega) (by omega) rfl rfl ?_
    refine D.pure rfl rfl rfl rfl rfl rfl ?_
    refine D.done [(0, [], _), (1, [], _), (5, [], _), (6, [], _)] ⟨rfl, rfl, rfl, rfl, trivial⟩ (hR _ _ _ rfl ?_); clear hR R
    refine G.loop (fun fr C' L' μ => ∃ (j i : Nat) (r : List Pr), (i < j ∧ j ≤ l.length ∧ r.length = l.length ∧ r.take i = (l.take j).filter (fun x => !(p x)) ∧ (∀ q, j ≤ q → r[q]? = l[q]?)) ∧ fr = [(0, [], .slice (some ⟨g, 0, none⟩) l.length c), (1, [], .func (.func fg) #[] ⟨cb⟩), (5, [], .int .i64 i), (6, [], .int .i64 j)] ∧ L' = [.arr (.slice (some ⟨g, 0, none⟩) l.length c) 62 2 l.length (r.map prE).flatten] ∧ μ = l.length - j) (fr' := [(0, [], _), (1, [], _), (5, [], _), (6, [], _)]) ⟨rfl, rfl, rfl, rfl, trivial⟩ ⟨k0 + 1, k0, l, ⟨by omega, by omega, rfl, hstart.symm, fun _ _ => rfl⟩, rfl, rfl, rfl⟩ (fun fr C0' L0' m hle0 hI => ?_)
    obtain ⟨j, i, r, ⟨hij, hjl, hrl, hrt, hrs⟩, rfl, rfl, rfl⟩ := hI
    refine G.region rfl (fun R hR => ?_)
    iterate 4 refine D.pure rfl rfl rfl rfl rfl rfl ?_
    refine D.done [(0, [], _), (1, [], _), (5, [], _), (6, [], _), (19, [], _)] ⟨rfl, rfl, rfl, rfl, rfl, trivial⟩ (hR _ _ _ rfl ?_); clear hR R
    refine G.cond rfl (fun h19 => ?_) (fun h19 => ?_)
    · skip
      simp only [decide_eq_true_eq] at h19
      have hjl' : j < l.length := by omega
      obtain ⟨x, hx⟩ : ∃ x, r[j]? = some x := ⟨r[j]'(by omega), List.getElem?_eq_getElem (by omega)⟩
      have hxl' : l[j]? = some x := by rw [← hrs j (Nat.le_refl _)]; exact hx
      have hxm : x ∈ l := List.mem_of_getElem? hxl'
      have htk : (l.take (j + 1)).filter (fun x => !(p x)) = (l.take j).filter (fun x => !(p x)) ++ (if p x = true then [] else [x]) := by
        rw [List.take_add_one, hxl', List.filter_append]
        cases hpx : p x <;> simp [hpx]
      refine G.region rfl (fun R hR => ?_)
      iterate 2 refine D.pure rfl rfl rfl rfl rfl rfl ?_
      refine D.indexS (j * 2) rfl rfl rfl rfl rfl rfl rfl rfl rfl rfl (fun _ => ⟨by omega, by omega, rfl⟩) rfl rfl ?_
      refine D.loadArr (.head _) rfl rfl rfl rfl rfl rfl (fun _ => (by rw [row_read pr_len hx]; rfl)) rfl rfl ?_
      refine D.alloc rfl rfl rfl rfl rfl (fun _ => rfl) (fun b7 => ?_)
      refine D.store (j := 0) rfl rfl rfl rfl rfl rfl rfl rfl rfl rfl rfl rfl ?_
      refine D.done [(0, [], _), (1, [], _), (5, [], _), (6, [], _), (7, [], _)] ⟨rfl, rfl, rfl, rfl, rfl, trivial⟩ (hR _ _ _ rfl ?_); clear hR R
      refine G.region rfl (fun R hR => ?_)
      refine D.pure rfl rfl rfl rfl rfl rfl ?_
      refine D.loadL (.head _) rfl rfl rfl rfl rfl rfl rfl rfl rfl ?_
      refine D.gives2 (hcb x hxm _ (hle10.trans hle0)) rfl rfl rfl rfl rfl rfl rfl (fun _ => rfl) ?_
      refine D.pure rfl rfl rfl rfl rfl rfl ?_
      refine D.done [(0, [], _), (1, [], _), (5, [], _), (6, [], _), (7, [], _), (29, [], _)] ⟨rfl, rfl, rfl, rfl, rfl, rfl, trivial⟩ (hR _ _ _ rfl ?_); clear hR R
      refine G.cond rfl (fun h29 => ?_) (fun h29 => ?_)
      · skip
        simp only [Bool.not_eq_true'] at h29
        refine G.region rfl (fun R hR => ?_)
        iterate 2 refine D.pure rfl rfl rfl rfl rfl rfl ?_
        refine D.loadL (.head _) rfl rfl rfl rfl rfl rfl rfl rfl rfl ?_
        refine D.indexS (i * 2) rfl rfl rfl rfl rfl rfl rfl rfl rfl rfl (fun _ => ⟨by omega, by omega, rfl⟩) rfl rfl ?_
        refine D.storeArr (j := 1) rfl rfl rfl rfl rfl rfl rfl rfl rfl rfl rfl (by show i * 2 + 2 ≤ _; rw [rows_len pr_len, hrl]; have h9 : (i + 1) * 2 ≤ l.length * 2 := Nat.mul_le_mul_right _ (by omega); omega) ?_
        refine D.done [(0, [], _), (1, [], _), (5, [], _), (6, [], _)] ⟨rfl, rfl, rfl, rfl, trivial⟩ (hR _ _ _ rfl ?_); clear hR R
        refine G.region rfl (fun R hR => ?_)
        refine D.pure rfl rfl rfl rfl rfl rfl ?_
        refine D.i64 _ rfl rfl rfl rfl rfl (by omega) (by omega) rfl rfl ?_
        refine D.pure rfl rfl rfl rfl rfl rfl ?_
        refine D.done [(0, [], _), (1, [], _), (5, [], _), (6, [], _)] ⟨rfl, rfl, rfl, rfl, trivial⟩ (hR _ _ _ rfl ?_); clear hR R
        refine G.region rfl (fun R hR => ?_)
        refine D.pure rfl rfl rfl rfl rfl rfl ?_
        refine D.i64 _ rfl rfl rfl rfl rfl (by omega) (by omega) rfl rfl ?_
        refine D.pure rfl rfl rfl rfl rfl rfl ?_
        refine D.done [(0, [], _), (1, [], _), (5, [], _), (6, [], _)] ⟨rfl, rfl, rfl, rfl, trivial⟩ (hR _ _ _ rfl ?_); clear hR R
        have hw : storeInto (r.map prE).flatten (prE x) (i * 2) = ((r.set i x).map prE).flatten := row_write pr_len x (by omega)
        refine G.dropE 1 rfl ?_
        refine G.eqL (L' := [.arr (.slice (some ⟨g, 0, none⟩) l.length c) 62 2 l.length ((r.set i x).map prE).flatten]) (by rw [← hw]; rfl) ?_
        refine G.again (m' := l.length - (j + 1)) (by omega) hle0 (fr' := [(0, [], _), (1, [], _), (5, [], _), (6, [], _)]) ⟨rfl, rfl, rfl, rfl, trivial⟩ ⟨j + 1, i + 1, r.set i x, ⟨by omega, by omega, by simpa using hrl, by
          rw [htk, if_neg (by rw [h29]; decide), ← hrt, List.take_add_one, List.take_set_of_le (Nat.le_refl _), List.getElem?_set_self (by omega)]
          rfl, fun q hq => by rw [List.getElem?_set_ne (by omega)]; exact hrs q (by omega)⟩, rfl, rfl, rfl⟩
      · skip
        simp only [Bool.not_eq_false'] at h29
        refine G.region rfl (fun R hR => ?_)
        refine D.pure rfl rfl rfl rfl rfl rfl ?_
        refine D.i64 _ rfl rfl rfl rfl rfl (by omega) (by omega) rfl rfl ?_
        refine D.pure rfl rfl rfl rfl rfl rfl ?_
        refine D.done [(0, [], _), (1, [], _), (5, [], _), (6, [], _)] ⟨rfl, rfl, rfl, rfl, trivial⟩ (hR _ _ _ rfl ?_); clear hR R
        refine G.dropE 0 rfl ?_
        refine G.again (m' := l.length - (j + 1)) (by omega) hle0 (fr' := [(0, [], _), (1, [], _), (5, [], _), (6, [], _)]) ⟨rfl, rfl, rfl, rfl, trivial⟩ ⟨j + 1, i, r, ⟨by omega, by omega, hrl, by rw [htk, if_pos h29, List.append_nil]; exact hrt, fun q hq => hrs q (by omega)⟩, rfl, rfl, rfl⟩
    · skip
      simp only [decide_eq_false_iff_not] at h19
      have hje : j = l.length := by omega
      rw [hje, List.take_length] at hrt
      have hil : i ≤ l.length := by omega
      refine G.region rfl (fun R hR => ?_)
      iterate 2 refine D.pure rfl rfl rfl rfl rfl rfl ?_
      refine D.sliceV i l.length c rfl rfl rfl rfl rfl rfl rfl rfl rfl rfl rfl rfl (fun _ => ⟨.inr ⟨_, rfl⟩, .inl ⟨rfl, rfl⟩, .inl ⟨rfl, rfl⟩, by omega, hlc, Nat.le_refl _⟩) rfl rfl ?_
      refine D.clear 0 (off := i * 2) rfl rfl rfl rfl rfl rfl rfl rfl rfl rfl rfl (by
        by_cases hci : c = i
        · exact .inl (by omega)
        · refine .inr ?_
          rw [if_neg hci]
          simp only [Option.map_some, Addr.add_lit, Nat.zero_add]) (by rw [rows_len pr_len, hrl, ← Nat.add_mul]; exact Nat.mul_le_mul_right _ (by omega)) ?_
      refine D.done [(0, [], _), (5, [], _)] ⟨rfl, rfl, trivial⟩ (hR _ _ _ rfl ?_); clear hR R
      refine G.region rfl (fun R hR => ?_)
      iterate 2 refine D.pure rfl rfl rfl rfl rfl rfl ?_
      refine D.sliceV 0 i c rfl rfl rfl rfl rfl rfl rfl rfl rfl rfl rfl rfl (fun _ => ⟨.inl ⟨rfl, rfl⟩, .inr ⟨_, rfl⟩, .inl ⟨rfl, rfl⟩, by omega, by omega, Nat.le_refl _⟩) rfl rfl ?_
      refine D.pure rfl rfl rfl rfl rfl rfl ?_
      refine D.done [(4, [], _)] ⟨rfl, trivial⟩ (hR _ _ _ rfl ?_); clear hR R
      refine G.freezeArr 0 ((r.take i).map prE ++ List.replicate (l.length - i) ([.string ⟨#[]⟩, .string ⟨#[]⟩] : List Value)) rfl ?_ ?_ (by simp; omega) (fun Cf hlef hsf => G.retN (G.fin1 rfl rfl ?_))
      · unfold storeInto
        have e1 : (zrow ([.string ⟨#[]⟩, .string ⟨#[]⟩] : List Value) (l.length - i)).length = (l.length - i) * 2 := zrow_length _ _
        refine Eq.trans (congrArg (· ++ _) (congrArg (· ++ _) (flatten_take_drop pr_len r i).1)) ?_
        rw [List.flatten_append, List.append_assoc]
        congr 1
        rw [← zrow_flatten]
        refine Eq.trans (congrArg (_ ++ ·) (List.drop_eq_nil_of_le ?_)) (List.append_nil _)
        rw [rows_len pr_len, hrl]
        refine Nat.le_trans (Nat.le_of_eq ?_) (Nat.le_of_eq (congrArg (i * 2 + ·) e1.symm))
        rw [← Nat.add_mul]; congr 1; omega
      · intro x hx
        rcases List.mem_append.1 hx with hx | hx
        · obtain ⟨y, _, rfl⟩ := List.mem_map.1 hx; exact pr_len y
        · rw [List.eq_of_mem_replicate hx]; rfl
      refine ⟨rfl, ?_⟩
      have hsub := Sl.sub hsf (l := 0) (h := i) (m := c) (Nat.zero_le _) (by simp; omega) (by omega) (Nat.le_refl _)
      have hti : (((r.take i).map prE ++ List.replicate (l.length - i) ([.string ⟨#[]⟩, .string ⟨#[]⟩] : List Value)).take i).drop 0 = (l.filter fun x => !(p x)).map prE := by
        rw [List.drop_zero, List.take_append_of_le_length (by simp; omega), List.take_of_length_le (by simp; omega), hrt]
      rw [hti] at hsub
      exact hsub

end Go.Proofs.YtcghlfepfcagbaaGreat
namespace Go.Proofs.YtcghlfepfcagbaaGreat
open Go Go.Jog
set_option maxRecDepth 100000

def prN (N : List Str) (x : Nat × Nat) : Pr := (nameAt N x.1, nameAt N x.2)
def cloP (t : Nat → Nat → Bool) (l : List Rel) : List Pr := (cloL t (unitsL l).length (unitsL l).length).map (prN (unitsL l))
theorem cloP_enc (t : Nat → Nat → Bool) (l : List Rel) : (cloP t l).map prE = (cloL t (unitsL l).length (unitsL l).length).map (pairE (unitsL l)) := by
  unfold cloP; rw [List.map_map]; rfl
theorem cloP_len {t : Nat → Nat → Bool} {l : List Rel} (hE : errU l = 0) : (cloP t l).length ≤ 3600 := by
  have h1 := errU_names hE
  have h2 := cloL_len t (unitsL l).length (unitsL l).length
  have h3 : (unitsL l).length * (unitsL l).length ≤ 60 * 60 := Nat.mul_le_mul h1 h1
  unfold cloP
  rw [List.length_map]; omega
set_option maxHeartbeats 1000000 in
theorem closureO_fn (C : Mem) (v : Value) (l : List Rel) (hv : Sl C 3 v (l.map Rel.enc)) (hl : l.length ≤ 100000) (hE : errU l = 0) (hsh : ∀ x ∈ l, x.short) : Jog.Fn cx.P 58 [v] C [] fun r _ L' => ∃ (t : Nat → Nat → Bool) (w : Value), (∀ i k, t i k = true ↔ Reach (arcsOf l) i k) ∧ r = .tuple #[w, .int .i64 0] ∧ L' = [.arr w 62 2 (cloP t l).length ((cloP t l).map prE).flatten] := by
  obtain ⟨A, hA⟩ : ∃ A, arcsOf l = A := ⟨_, rfl⟩
  obtain ⟨N, hN⟩ : ∃ N, unitsL l = N := ⟨_, rfl⟩
  have hok := gok_of hl
  rw [hA, hN] at hok
  obtain ⟨t, ht⟩ : ∃ t : Nat → Nat → Bool, ∀ i k, t i k = true ↔ Reach A i k := ⟨fun i k => @decide (Reach A i k) (Classical.propDecidable _), fun i k => by simp⟩
  refine Fn.intro (by kernel_rfl) Tryz.func58 rfl 53 rfl rfl (fun w0 => ?_)
  refine G.region rfl (fun R hR => ?_)
  iterate 2 refine D.pure rfl rfl rfl rfl rfl rfl ?_
  refine D.done [(0, [], _)] ⟨rfl, trivial⟩ (hR _ _ _ rfl ?_); clear hR R
  refine G.region rfl (fun R hR => ?_)
  refine D.pure rfl rfl rfl rfl rfl rfl ?_
  refine D.gives2 (check_fn _ _ l hv hl hsh) rfl rfl rfl rfl rfl rfl rfl (fun _ => rfl) ?_
  refine D.pure rfl rfl rfl rfl rfl rfl ?_
  refine D.done [(0, [], _), (4, [], _)] ⟨rfl, rfl, trivial⟩ (hR _ _ _ rfl ?_); clear hR R
  refine G.region rfl (fun R hR => ?_)
  iterate 2 refine D.pure rfl rfl rfl rfl rfl rfl ?_
  refine D.done [(0, [], _), (4, [], _), (14, [], _)] ⟨rfl, rfl, rfl, trivial⟩ (hR _ _ _ rfl ?_); clear hR R
  refine G.cond rfl (fun h14 => ?_) (fun h14 => ?_)
  · skip
    exfalso
    rw [hE] at h14
    simp at h14
  · skip
    have h14' : errU l = 0 := hE
    have hN60 := errU_names h14'
    rw [hN] at hN60
    refine G.region rfl (fun R hR => ?_)
    refine D.pure rfl rfl rfl rfl rfl rfl ?_
    refine D.callP (build_fn _ _ l (hv.mono (by (repeat (first | exact Mem.le.refl _ | assumption | (apply Mem.le.trans; rotate_left; assumption))))) hl) rfl rfl rfl rfl rfl rfl rfl (fun _ => rfl) (fun v17 C17 hle17 hq17 => ?_)
    refine D.pure rfl rfl rfl rfl rfl rfl ?_
    refine D.done [(5, [], _)] ⟨rfl, trivial⟩ (hR _ _ _ rfl ?_); clear hR R
    have hgr : Graph C17 v17 N A := by rw [← hA, ← hN]; exact hq17
    obtain ⟨b, An, cn, x2, Aa, ca, x4, hgp, hobj, hnames, harcs⟩ := hgr.parts
    subst hgp
    refine G.region rfl (fun R hR => ?_)
    refine D.pure rfl rfl rfl rfl rfl rfl ?_
    refine D.done [(5, [], _), (6, [], _)] ⟨rfl, rfl, trivial⟩ (hR _ _ _ rfl ?_); clear hR R
    refine G.region rfl (fun R hR => ?_)
    iterate 3 refine D.pure rfl rfl rfl rfl rfl rfl ?_
    refine D.loadP0 (PtrTo.block (Mem.get hobj (by (repeat (first | exact Mem.le.refl _ | assumption | (apply Mem.le.trans; rotate_left; assumption))))) _) rfl rfl rfl rfl rfl rfl rfl rfl ?_
    iterate 2 refine D.pure rfl rfl rfl rfl rfl rfl ?_
    refine D.done [(5, [], _), (6, [], _), (21, [], _), (22, [], _), (23, [], _)] ⟨rfl, rfl, rfl, rfl, rfl, trivial⟩ (hR _ _ _ rfl ?_); clear hR R
    refine G.nilArr 62 2 ?_
    refine G.loop (fun fr C' L' μ => ∃ (i : Nat) (w : Value), (i ≤ N.length) ∧ fr = [(5, [], .pointer (some ⟨b, 0, none⟩)), (6, [], w), (21, [], .slice An N.length cn), (22, [], .int .i64 N.length), (23, [], .int .i64 i)] ∧ L' = [.arr w 62 2 (cloL t N.length i).length ((cloL t N.length i).map (pairE N)).flatten] ∧ μ = N.length - i) (fr' := [(5, [], _), (6, [], _), (21, [], _), (22, [], _), (23, [], _)]) ⟨rfl, rfl, rfl, rfl, rfl, trivial⟩ ⟨0, _, Nat.zero_le _, rfl, rfl, rfl⟩ (fun fr C0' L0' m hle0 hI => ?_)
    obtain ⟨i, w, hi, rfl, rfl, rfl⟩ := hI
    refine G.region rfl (fun R hR => ?_)
    refine D.pure rfl rfl rfl rfl rfl rfl ?_
    refine D.done [(5, [], _), (6, [], _), (21, [], _), (22, [], _), (23, [], _), (24, [], _)] ⟨rfl, rfl, rfl, rfl, rfl, rfl, trivial⟩ (hR _ _ _ rfl ?_); clear hR R
    refine G.cond rfl (fun h24 => ?_) (fun h24 => ?_)
    · skip
      simp only [decide_eq_true_eq] at h24
      have hil : i < N.length := by omega
      have hrn : (N.map encS)[i]? = some (encS (nameAt N i)) := by rw [List.getElem?_map, nameAt_get hil]; rfl
      refine G.region rfl (fun R hR => ?_)
      refine D.pure rfl rfl rfl rfl rfl rfl ?_
      refine D.index0 (hnames.mono (by (repeat (first | exact Mem.le.refl _ | assumption | (apply Mem.le.trans; rotate_left; assumption))))) rfl rfl rfl rfl rfl rfl rfl rfl rfl rfl (by omega) hrn (fun _ => rfl) (fun p26 hp26 => ?_)
      refine D.loadP0 hp26 rfl rfl rfl rfl rfl rfl rfl rfl ?_
      iterate 2 refine D.pure rfl rfl rfl rfl rfl rfl ?_
      refine D.done [(5, [], _), (6, [], _), (7, [], _), (8, [], _), (21, [], _), (22, [], _), (23, [], _)] ⟨rfl, rfl, rfl, rfl, rfl, rfl, rfl, trivial⟩ (hR _ _ _ rfl ?_); clear hR R
      refine G.region rfl (fun R hR => ?_)
      iterate 2 refine D.pure rfl rfl rfl rfl rfl rfl ?_
      refine D.callP (reached_fn _ _ N A i (hgr.mono (by (repeat (first | exact Mem.le.refl _ | assumption | (apply Mem.le.trans; rotate_left; assumption))))) hok hil) rfl rfl rfl rfl rfl rfl rfl (fun _ => rfl) (fun v30 C30 hle30 hq30 => ?_)
      obtain ⟨rs, hrs, hrl, hrr⟩ := hq30
      obtain ⟨Ar, cr, rfl, _⟩ := id hrs
      simp only [List.length_map, hrl] at hrs ⊢
      iterate 2 refine D.pure rfl rfl rfl rfl rfl rfl ?_
      refine D.done [(5, [], _), (6, [], _), (8, [], _), (21, [], _), (22, [], _), (23, [], _), (30, [], _), (31, [], _), (32, [], _)] ⟨rfl, rfl, rfl, rfl, rfl, rfl, rfl, rfl, rfl, trivial⟩ (hR _ _ _ rfl ?_); clear hR R
      refine G.eqL (L' := [.arr w 62 2 (cloL t N.length i ++ cloRow t i 0).length ((cloL t N.length i ++ cloRow t i 0).map (pairE N)).flatten]) (by rw [show cloRow t i 0 = [] from rfl, List.append_nil]) ?_
      refine G.loop (fun fr C' L' μ => ∃ (k : Nat) (w : Value), (k ≤ N.length) ∧ fr = [(5, [], .pointer (some ⟨b, 0, none⟩)), (6, [], w), (8, [], strV (nameAt N i)), (21, [], .slice An N.length cn), (22, [], .int .i64 N.length), (23, [], .int .i64 i), (30, [], .slice Ar N.length cr), (31, [], .int .i64 N.length), (32, [], .int .i64 k)] ∧ L' = [.arr w 62 2 (cloL t N.length i ++ cloRow t i k).length ((cloL t N.length i ++ cloRow t i k).map (pairE N)).flatten] ∧ μ = N.length - k) (fr' := [(5, [], _), (6, [], _), (8, [], _), (21, [], _), (22, [], _), (23, [], _), (30, [], _), (31, [], _), (32, [], _)]) ⟨rfl, rfl, rfl, rfl, rfl, rfl, rfl, rfl, rfl, trivial⟩ ⟨0, w, Nat.zero_le _, rfl, rfl, rfl⟩ (fun fr C1' L1' m hle1 hI => ?_)
      obtain ⟨k, w, hk, rfl, rfl, rfl⟩ := hI
      refine G.region rfl (fun R hR => ?_)
      refine D.pure rfl rfl rfl rfl rfl rfl ?_
      refine D.done [(5, [], _), (6, [], _), (8, [], _), (21, [], _), (22, [], _), (23, [], _), (30, [], _), (31, [], _), (32, [], _), (33, [], _)] ⟨rfl, rfl, rfl, rfl, rfl, rfl, rfl, rfl, rfl, rfl, trivial⟩ (hR _ _ _ rfl ?_); clear hR R
      refine G.cond rfl (fun h33 => ?_) (fun h33 => ?_)
      · skip
        simp only [decide_eq_true_eq] at h33
        have hkl : k < N.length := by omega
        have hrw : (rs.map encB)[k]? = some [.bool (bAt rs k)] := by rw [List.getElem?_map, get_bAt (by omega)]; rfl
        have hrk : (N.map encS)[k]? = some (encS (nameAt N k)) := by rw [List.getElem?_map, nameAt_get hkl]; rfl
        have hbt : bAt rs k = t i k := by
          rw [Bool.eq_iff_iff, hrr, ht]
        have hl1 := cloL_len t N.length i
        have hl2 := cloRow_len t i k
        have hl3 : i * N.length ≤ 60 * 60 := Nat.mul_le_mul (by omega) hN60
        have hl4 : (cloL t N.length i ++ cloRow t i k).length ≤ 3660 := by rw [List.length_append]; omega
        refine G.region rfl (fun R hR => ?_)
        refine D.pure rfl rfl rfl rfl rfl rfl ?_
        refine D.index0 (hrs.mono (by (repeat (first | exact Mem.le.refl _ | assumption | (apply Mem.le.trans; rotate_left; assumption))))) rfl rfl rfl rfl rfl rfl rfl rfl rfl rfl (by omega) hrw (fun _ => rfl) (fun p35 hp35 => ?_)
        refine D.loadP0 hp35 rfl rfl rfl rfl rfl rfl rfl rfl ?_
        iterate 2 refine D.pure rfl rfl rfl rfl rfl rfl ?_
        refine D.done [(5, [], _), (6, [], _), (8, [], _), (9, [], _), (10, [], _), (21, [], _), (22, [], _), (23, [], _), (30, [], _), (31, [], _), (32, [], _)] ⟨rfl, rfl, rfl, rfl, rfl, rfl, rfl, rfl, rfl, rfl, rfl, trivial⟩ (hR _ _ _ rfl ?_); clear hR R
        refine G.region rfl (fun R hR => ?_)
        refine D.pure rfl rfl rfl rfl rfl rfl ?_
        refine D.done [(5, [], _), (6, [], _), (8, [], _), (9, [], _), (21, [], _), (22, [], _), (23, [], _), (30, [], _), (31, [], _), (32, [], _), (37, [], _)] ⟨rfl, rfl, rfl, rfl, rfl, rfl, rfl, rfl, rfl, rfl, rfl, trivial⟩ (hR _ _ _ rfl ?_); clear hR R
        refine G.cond rfl (fun h37 => ?_) (fun h37 => ?_)
        · skip
          have h37' : t i k = true := by rw [← hbt]; exact h37
          refine G.region rfl (fun R hR => ?_)
          iterate 5 refine D.pure rfl rfl rfl rfl rfl rfl ?_
          refine D.loadP0 (PtrTo.block (Mem.get hobj (by (repeat (first | exact Mem.le.refl _ | assumption | (apply Mem.le.trans; rotate_left; assumption))))) _) rfl rfl rfl rfl rfl rfl rfl rfl ?_
          refine D.pure rfl rfl rfl rfl rfl rfl ?_
          refine D.index0 (hnames.mono (by (repeat (first | exact Mem.le.refl _ | assumption | (apply Mem.le.trans; rotate_left; assumption))))) rfl rfl rfl rfl rfl rfl rfl rfl rfl rfl (by omega) hrk (fun _ => rfl) (fun p45 hp45 => ?_)
          refine D.loadP0 hp45 rfl rfl rfl rfl rfl rfl rfl rfl ?_
          refine D.build [strV (nameAt N i), strV (nameAt N k)] rfl rfl rfl rfl rfl rfl rfl rfl ?_
          refine D.buildSlice [[strV (nameAt N i), strV (nameAt N k)]] rfl rfl rfl rfl rfl rfl rfl rfl rfl rfl rfl rfl (fun _ => rfl) (fun p48 C48 hle48 hs48 => ?_)
          refine D.append (j := 0) rfl rfl rfl rfl rfl rfl rfl rfl rfl rfl rfl hs48 rfl (by simp only [List.length_singleton, maxLen]; omega) (by simp only [List.length_singleton]; omega) (fun _ => rfl) (fun v49 => ?_)
          refine D.pure rfl rfl rfl rfl rfl rfl ?_
          refine D.done [(5, [], _), (6, [], _), (8, [], _), (21, [], _), (22, [], _), (23, [], _), (30, [], _), (31, [], _), (32, [], _)] ⟨rfl, rfl, rfl, rfl, rfl, rfl, rfl, rfl, rfl, trivial⟩ (hR _ _ _ rfl ?_); clear hR R
          refine G.region rfl (fun R hR => ?_)
          refine D.i64 _ rfl rfl rfl rfl rfl (by omega) (by omega) rfl rfl ?_
          refine D.pure rfl rfl rfl rfl rfl rfl ?_
          refine D.done [(5, [], _), (6, [], _), (8, [], _), (21, [], _), (22, [], _), (23, [], _), (30, [], _), (31, [], _), (32, [], _)] ⟨rfl, rfl, rfl, rfl, rfl, rfl, rfl, rfl, rfl, trivial⟩ (hR _ _ _ rfl ?_); clear hR R
          refine G.eqL (L' := [.arr v49 62 2 (cloL t N.length i ++ cloRow t i (k + 1)).length ((cloL t N.length i ++ cloRow t i (k + 1)).map (pairE N)).flatten]) (by
            have e : cloRow t i (k + 1) = cloRow t i k ++ [(i, k)] := by unfold cloRow; rw [cat_succ, oneIf_true h37']
            rw [e]; simp [pairE]; try omega) ?_
          refine G.again (m' := N.length - (k + 1)) (by omega) (by (repeat (first | exact Mem.le.refl _ | assumption | (apply Mem.le.trans; rotate_left; assumption)))) (fr' := [(5, [], _), (6, [], _), (8, [], _), (21, [], _), (22, [], _), (23, [], _), (30, [], _), (31, [], _), (32, [], _)]) ⟨rfl, rfl, rfl, rfl, rfl, rfl, rfl, rfl, rfl, trivial⟩ ⟨k + 1, v49, by omega, rfl, rfl, rfl⟩
        · skip
          have h37' : t i k = false := by rw [← hbt]; exact h37
          refine G.region rfl (fun R hR => ?_)
          refine D.i64 _ rfl rfl rfl rfl rfl (by omega) (by omega) rfl rfl ?_
          refine D.pure rfl rfl rfl rfl rfl rfl ?_
          refine D.done [(5, [], _), (6, [], _), (8, [], _), (21, [], _), (22, [], _), (23, [], _), (30, [], _), (31, [], _), (32, [], _)] ⟨rfl, rfl, rfl, rfl, rfl, rfl, rfl, rfl, rfl, trivial⟩ (hR _ _ _ rfl ?_); clear hR R
          refine G.eqL (L' := [.arr w 62 2 (cloL t N.length i ++ cloRow t i (k + 1)).length ((cloL t N.length i ++ cloRow t i (k + 1)).map (pairE N)).flatten]) (by
            have e : cloRow t i (k + 1) = cloRow t i k := by unfold cloRow; rw [cat_succ, oneIf_false h37', List.append_nil]
            rw [e]) ?_
          refine G.again (m' := N.length - (k + 1)) (by omega) (by (repeat (first | exact Mem.le.refl _ | assumption | (apply Mem.le.trans; rotate_left; assumption)))) (fr' := [(5, [], _), (6, [], _), (8, [], _), (21, [], _), (22, [], _), (23, [], _), (30, [], _), (31, [], _), (32, [], _)]) ⟨rfl, rfl, rfl, rfl, rfl, rfl, rfl, rfl, rfl, trivial⟩ ⟨k + 1, w, by omega, rfl, rfl, rfl⟩
      · skip
        simp only [decide_eq_false_iff_not] at h33
        have hkl : k = N.length := by omega
        subst hkl
        refine G.region rfl (fun R hR => ?_)
        refine D.i64 _ rfl rfl rfl rfl rfl (by omega) (by omega) rfl rfl ?_
        refine D.pure rfl rfl rfl rfl rfl rfl ?_
        refine D.done [(5, [], _), (6, [], _), (21, [], _), (22, [], _), (23, [], _)] ⟨rfl, rfl, rfl, rfl, rfl, trivial⟩ (hR _ _ _ rfl ?_); clear hR R
        refine G.again (m' := N.length - (i + 1)) (by omega) (by (repeat (first | exact Mem.le.refl _ | assumption | (apply Mem.le.trans; rotate_left; assumption)))) (fr' := [(5, [], _), (6, [], _), (21, [], _), (22, [], _), (23, [], _)]) ⟨rfl, rfl, rfl, rfl, rfl, trivial⟩ ⟨i + 1, w, by omega, rfl, rfl, rfl⟩
    · skip
      simp only [decide_eq_false_iff_not] at h24
      have hil : i = N.length := by omega
      subst hil
      refine G.region rfl (fun R hR => ?_)
      iterate 3 refine D.pure rfl rfl rfl rfl rfl rfl ?_
      refine D.done [(2, [], _), (3, [], _)] ⟨rfl, rfl, trivial⟩ (hR _ _ _ rfl ?_); clear hR R
      refine G.retN (G.fin2 rfl rfl rfl ?_)
      refine ⟨t, w, by rw [hA]; exact ht, rfl, ?_⟩
      rw [cloP_enc, hN]
      unfold cloP
      rw [List.length_map, hN]
def DepRes (C : Mem) (l : List Rel) (idx : Int) (r : Value) : Prop :=
  (errU l ≠ 0 ∧ r = .tuple #[nilV, .int .i64 (errU l)]) ∨
  (errU l = 0 ∧ (((idx < 0 ∨ (l.length : Int) ≤ idx) ∧ r = .tuple #[nilV, .int .i64 3]) ∨
    ∃ i : Nat, idx = i ∧ i < l.length ∧ ((cycL l ≠ [] ∧ r = .tuple #[nilV, .int .i64 27]) ∨
      (cycL l = [] ∧ ∃ (t t' : Nat → Nat → Bool) (v : Value), (∀ i k, t i k = true ↔ Reach (arcsOf l) i k) ∧ (∀ p k, t' p k = true ↔ Reach (arcsOf (woL l [i])) p k) ∧ r = .tuple #[v, .int .i64 0] ∧
        Sl C 2 v (((cloP t l).filter fun x => !decide (x ∈ cloP t' (woL l [i]))).map prE)))))
set_option maxHeartbeats 1000000 in
theorem depends_fn (C : Mem) (v : Value) (l : List Rel) (idx : Int) (hv : Sl C 3 v (l.map Rel.enc)) (hl : l.length ≤ 100000) (hsh : ∀ x ∈ l, x.short) (hi1 : -9223372036854775808 ≤ idx) (hi2 : idx ≤ 9223372036854775807) : Pur cx.P 31 [v, .int .i64 idx] C fun r C' => DepRes C' l idx r := by
  obtain ⟨A0, c0, rfl, _⟩ := id hv
  simp only [List.length_map] at hv ⊢
  refine Fn.intro (by kernel_rfl) Tryz.func31 rfl 55 rfl rfl (fun w0 => ?_)
  refine G.region rfl (fun R hR => ?_)
  iterate 2 refine D.pure rfl rfl rfl rfl rfl rfl ?_
  refine D.done [(0, [], _), (1, [], _)] ⟨rfl, rfl, trivial⟩ (hR _ _ _ rfl ?_); clear hR R
  refine G.region rfl (fun R hR => ?_)
  refine D.pure rfl rfl rfl rfl rfl rfl ?_
  refine D.gives2 (check_fn _ _ l hv hl hsh) rfl rfl rfl rfl rfl rfl rfl (fun _ => rfl) ?_
  refine D.pure rfl rfl rfl rfl rfl rfl ?_
  refine D.done [(0, [], _), (1, [], _), (6, [], _)] ⟨rfl, rfl, rfl, trivial⟩ (hR _ _ _ rfl ?_); clear hR R
  refine G.region rfl (fun R hR => ?_)
  iterate 2 refine D.pure rfl rfl rfl rfl rfl rfl ?_
  refine D.done [(0, [], _), (1, [], _), (6, [], _), (16, [], _)] ⟨rfl, rfl, rfl, rfl, trivial⟩ (hR _ _ _ rfl ?_); clear hR R
  refine G.cond rfl (fun h16 => ?_) (fun h16 => ?_)
  · skip
    have h16' : errU l ≠ 0 := by simpa using h16
    refine G.region rfl (fun R hR => ?_)
    iterate 3 refine D.pure rfl rfl rfl rfl rfl rfl ?_
    refine D.done [(4, [], _), (5, [], _)] ⟨rfl, rfl, trivial⟩ (hR _ _ _ rfl ?_); clear hR R
    refine G.retN (G.dropAll (G.fin2 rfl rfl rfl ?_))
    exact ⟨rfl, .inl ⟨h16', rfl⟩⟩
  · skip
    have hE : errU l = 0 := by simpa using h16
    refine G.region rfl (fun R hR => ?_)
    iterate 7 refine D.pure rfl rfl rfl rfl rfl rfl ?_
    refine D.pickOr rfl rfl rfl rfl rfl rfl rfl rfl ?_
    refine D.done [(0, [], _), (1, [], _), (25, [], _)] ⟨rfl, rfl, rfl, trivial⟩ (hR _ _ _ rfl ?_); clear hR R
    refine G.cond rfl (fun h25 => ?_) (fun h25 => ?_)
    · skip
      have h25' : idx < 0 ∨ (l.length : Int) ≤ idx := by simpa using h25
      refine G.region rfl (fun R hR => ?_)
      iterate 2 refine D.pure rfl rfl rfl rfl rfl rfl ?_
      refine D.done [(4, [], _), (5, [], _)] ⟨rfl, rfl, trivial⟩ (hR _ _ _ rfl ?_); clear hR R
      refine G.retN (G.dropAll (G.fin2 rfl rfl rfl ?_))
      exact ⟨rfl, .inr ⟨hE, .inl ⟨h25', rfl⟩⟩⟩
    · skip
      have h25' : ¬ (idx < 0 ∨ (l.length : Int) ≤ idx) := by simpa using h25
      obtain ⟨i, rfl⟩ : ∃ i : Nat, idx = i := ⟨idx.toNat, by omega⟩
      have hil : i < l.length := by omega
      have hwl := woL_len l [i]
      have hwE := errU_sub hE hwl (fun y hy => mem_woL hy)
      refine G.region rfl (fun R hR => ?_)
      refine D.pure rfl rfl rfl rfl rfl rfl ?_
      refine D.callP (cycle_fn _ _ l (hv.mono (by (repeat (first | exact Mem.le.refl _ | assumption | (apply Mem.le.trans; rotate_left; assumption))))) hl hsh) rfl rfl rfl rfl rfl rfl rfl (fun _ => rfl) (fun v28 C28 hle28 hq28 => ?_)
      obtain ⟨Ac, cc, f, rfl, _, hcf⟩ := cyc_ok hE hq28
      iterate 7 refine D.pure rfl rfl rfl rfl rfl rfl ?_
      refine D.done [(0, [], _), (1, [], _), (8, [], _)] ⟨rfl, rfl, rfl, trivial⟩ (hR _ _ _ rfl ?_); clear hR R
      refine G.region rfl (fun R hR => ?_)
      refine D.pure rfl rfl rfl rfl rfl rfl ?_
      refine D.done [(0, [], _), (1, [], _), (32, [], _)] ⟨rfl, rfl, rfl, trivial⟩ (hR _ _ _ rfl ?_); clear hR R
      refine G.cond rfl (fun h32 => ?_) (fun h32 => ?_)
      · skip
        have h32' : f = true := h32
        refine G.region rfl (fun R hR => ?_)
        iterate 2 refine D.pure rfl rfl rfl rfl rfl rfl ?_
        refine D.done [(4, [], _), (5, [], _)] ⟨rfl, rfl, trivial⟩ (hR _ _ _ rfl ?_); clear hR R
        refine G.retN (G.dropAll (G.fin2 rfl rfl rfl ?_))
        exact ⟨rfl, .inr ⟨hE, .inr ⟨i, rfl, hil, .inl ⟨hcf.1 h32', rfl⟩⟩⟩⟩
      · skip
        have h32' : cycL l = [] := by
          apply Classical.byContradiction
          intro h
          have := hcf.2 h
          rw [h32] at this; cases this
        refine G.regionO [(1, 3)] rfl (fun R hR => ?_)
        refine D.pure rfl rfl rfl rfl rfl rfl ?_
        refine D.call (closureO_fn _ _ l (hv.mono (by (repeat (first | exact Mem.le.refl _ | assumption | (apply Mem.le.trans; rotate_left; assumption))))) hl hE hsh) rfl (.inl rfl) rfl rfl rfl rfl rfl rfl (List.Perm.refl _) (fun _ => rfl) (fun v35 C35 L35 hle35 hq35 => ?_)
        obtain ⟨t, w, ht, rfl, rfl⟩ := hq35
        iterate 5 refine D.pure rfl rfl rfl rfl rfl rfl ?_
        refine D.done [(0, [], _), (1, [], _), (10, [], _), (11, [], _)] ⟨rfl, rfl, rfl, rfl, trivial⟩ (hR _ _ _ rfl ?_); clear hR R
        refine G.region rfl (fun R hR => ?_)
        iterate 2 refine D.pure rfl rfl rfl rfl rfl rfl ?_
        refine D.done [(0, [], _), (1, [], _), (10, [], _), (11, [], _), (39, [], _)] ⟨rfl, rfl, rfl, rfl, rfl, trivial⟩ (hR _ _ _ rfl ?_); clear hR R
        refine G.cond rfl (fun h39 => ?_) (fun h39 => ?_)
        · skip
          exfalso
          simp at h39
        · skip
          refine G.region rfl (fun R hR => ?_)
          iterate 2 refine D.pure rfl rfl rfl rfl rfl rfl ?_
          refine D.buildSlice [encN i] rfl rfl rfl rfl rfl rfl rfl rfl rfl rfl rfl rfl (fun _ => rfl) (fun p44 C44 hle44 hs44 => ?_)
          refine D.callP (without_fn _ _ _ l [i] (hv.mono (by (repeat (first | exact Mem.le.refl _ | assumption | (apply Mem.le.trans; rotate_left; assumption))))) hl (hs44.mono (by (repeat (first | exact Mem.le.refl _ | assumption | (apply Mem.le.trans; rotate_left; assumption))))) (by simp)) rfl rfl rfl rfl rfl rfl rfl (fun _ => rfl) (fun v45 C45 hle45 hq45 => ?_)
          refine D.callP (closure_spec _ _ (woL l [i]) (hq45.mono (by (repeat (first | exact Mem.le.refl _ | assumption | (apply Mem.le.trans; rotate_left; assumption))))) (by omega) (fun y hy => hsh y (mem_woL hy))) rfl rfl rfl rfl rfl rfl rfl (fun _ => rfl) (fun v46 C46 hle46 hq46 => ?_)
          obtain ⟨t', vr, ht', rfl, hrs⟩ : ∃ (t' : Nat → Nat → Bool) (vr : Value), (∀ p k, t' p k = true ↔ Reach (arcsOf (woL l [i])) p k) ∧ v46 = .tuple #[vr, .int .i64 0] ∧ Sl C46 2 vr ((cloP t' (woL l [i])).map prE) := by
            rcases hq46 with ⟨h, _⟩ | ⟨_, t', vr, h1, h2, h3⟩
            · exact absurd hwE h
            · exact ⟨t', vr, h1, h2, by rw [cloP_enc]; exact h3⟩
          obtain ⟨Avr, cvr, rfl, _⟩ := id hrs
          iterate 3 refine D.pure rfl rfl rfl rfl rfl rfl ?_
          refine D.alloc rfl rfl rfl rfl rfl (fun _ => rfl) (fun b12 => ?_)
          refine D.store (j := 0) rfl rfl rfl rfl rfl rfl rfl rfl rfl rfl rfl rfl ?_
          refine D.pure rfl rfl rfl rfl rfl rfl ?_
          refine D.done [(10, [], _), (11, [], _), (12, [], _)] ⟨rfl, rfl, rfl, trivial⟩ (hR _ _ _ rfl ?_); clear hR R
          refine G.region rfl (fun R hR => ?_)
          iterate 2 refine D.pure rfl rfl rfl rfl rfl rfl ?_
          refine D.done [(10, [], _), (11, [], _), (12, [], _), (50, [], _)] ⟨rfl, rfl, rfl, rfl, trivial⟩ (hR _ _ _ rfl ?_); clear hR R
          refine G.cond rfl (fun h50 => ?_) (fun h50 => ?_)
          · skip
            exfalso
            simp at h50
          · skip
            refine G.freeze 0 rfl (fun Cz hlez hbz => ?_)
            refine G.regionO [(2, 3)] rfl (fun R hR => ?_)
            iterate 2 refine D.pure rfl rfl rfl rfl rfl rfl ?_
            refine D.call (deleteFunc_pr _ _ (cloP t l) _ [.pointer (some ⟨b12, 0, none⟩)] (fun x => decide (x ∈ cloP t' (woL l [i]))) (by have := cloP_len (t := t) hE; omega) (fun x _ C' hle => closDepends C' x (cloP t' (woL l [i])) _ b12 _ (hle _ _ hbz) (hrs.mono (by (repeat (first | exact Mem.le.refl _ | assumption | (apply Mem.le.trans; rotate_left; assumption))))) (by have := cloP_len (t := t') hwE; omega))) rfl (.inr (by decide)) rfl rfl rfl rfl rfl rfl (List.Perm.refl _) (fun _ => rfl) (fun v54 C54 L54 hle54 hq54 => ?_)
            obtain ⟨rfl, hsw⟩ := hq54
            iterate 2 refine D.pure rfl rfl rfl rfl rfl rfl ?_
            refine D.done [(4, [], _), (5, [], _)] ⟨rfl, rfl, trivial⟩ (hR _ _ _ rfl ?_); clear hR R
            refine G.retN (G.dropAll (G.fin2 rfl rfl rfl ?_))
            exact ⟨rfl, .inr ⟨hE, .inr ⟨i, rfl, hil, .inr ⟨h32', t, t', _, ht, ht', rfl, hsw⟩⟩⟩⟩
end Go.Proofs.YtcghlfepfcagbaaGreat
namespace Go.Proofs.YtcghlfepfcagbaaGreat
open Go Go.Jog
set_option maxRecDepth 100000

end Go.Proofs.YtcghlfepfcagbaaGreat
namespace Go.Proofs.YtcghlfepfcagbaaGreat
open Go Go.Jog
set_option maxRecDepth 100000

theorem makeO_fn (C : Mem) (v : Value) (l : List Seen) (hv : Sl C 3 v (l.map Seen.enc)) : Jog.Fn cx.P 13 [v] C [] fun u _ L' => L' = [.arr u 55 3 (makeL l).length ((makeL l).map Rel.enc).flatten] := by
  obtain ⟨A, c, rfl, _⟩ := id hv
  simp only [List.length_map] at hv ⊢
  refine Fn.intro (by kernel_rfl) Tryz.func13 rfl 54 rfl rfl (fun w0 => ?_)
  refine G.region rfl (fun R hR => ?_)
  refine D.pure rfl rfl rfl rfl rfl rfl ?_
  refine D.done [(0, [], _)] ⟨rfl, trivial⟩ (hR _ _ _ rfl ?_); clear hR R
  refine G.region rfl (fun R hR => ?_)
  refine D.pure rfl rfl rfl rfl rfl rfl ?_
  refine D.done [(0, [], _), (3, [], _)] ⟨rfl, rfl, trivial⟩ (hR _ _ _ rfl ?_); clear hR R
  refine G.region rfl (fun R hR => ?_)
  refine D.pure rfl rfl rfl rfl rfl rfl ?_
  refine D.done [(0, [], _), (3, [], _), (4, [], _)] ⟨rfl, rfl, rfl, trivial⟩ (hR _ _ _ rfl ?_); clear hR R
  refine G.nilArr 55 3 ?_
  refine G.loop (fun fr C' L' μ => ∃ (k : Nat) (w3 : Value), (k ≤ l.length ∧ k ≤ 8) ∧ fr = [(0, [], .slice A l.length c), (3, [], w3), (4, [], .int .i64 k)] ∧ L' = [.arr w3 55 3 k (((l.take k).map mkR).map Rel.enc).flatten] ∧ μ = 8 - k) (fr' := [(0, [], _), (3, [], _), (4, [], _)]) ⟨rfl, rfl, rfl, trivial⟩ ⟨0, _, ⟨Nat.zero_le _, by omega⟩, rfl, rfl, rfl⟩ (fun fr C0' L0' m hle0 hI => ?_)
  obtain ⟨k, w3, ⟨hk, hk8⟩, rfl, rfl, rfl⟩ := hI
  refine G.region rfl (fun R hR => ?_)
  iterate 7 refine D.pure rfl rfl rfl rfl rfl rfl ?_
  refine D.pickAnd rfl rfl rfl rfl rfl rfl rfl rfl ?_
  refine D.done [(0, [], _), (3, [], _), (4, [], _), (14, [], _)] ⟨rfl, rfl, rfl, rfl, trivial⟩ (hR _ _ _ rfl ?_); clear hR R
  refine G.cond rfl (fun h14 => ?_) (fun h14 => ?_)
  · skip
    simp only [Bool.and_eq_true, decide_eq_true_eq] at h14
    have hkl : k < l.length := by omega
    obtain ⟨x, hx⟩ : ∃ x, l[k]? = some x := ⟨l[k], List.getElem?_eq_getElem hkl⟩
    have hrow : (l.map Seen.enc)[k]? = some x.enc := by rw [List.getElem?_map, hx]; rfl
    have hxa := x.a.toNat_lt
    have hxb := x.b.toNat_lt
    have hxc := x.c.toNat_lt
    have htk : (l.take (k + 1)).map mkR = (l.take k).map mkR ++ [mkR x] := by rw [List.take_add_one, hx]; simp
    refine G.draw [0, 1, 2, 3, 4, 5, 6, 7, 8, 9, 10, 11, 12, 13, 14, 15] [(6, 0), (13, 0)] rfl (by kernel_rfl) (fun R hB hR => ?_)
    iterate 2 refine D.pure rfl rfl rfl rfl rfl rfl ?_
    refine D.index0 (hv.mono (by (repeat (first | exact Mem.le.refl _ | assumption | (apply Mem.le.trans; rotate_left; assumption))))) rfl rfl rfl rfl rfl rfl rfl rfl rfl rfl (by omega) hrow (fun _ => rfl) (fun p19 hp19 => ?_)
    refine D.fieldP0 hp19 rfl rfl rfl rfl rfl rfl rfl rfl rfl rfl (fun _ => rfl) (fun p20 hp20 => ?_)
    refine D.loadP0 hp20 rfl rfl rfl rfl rfl rfl rfl rfl ?_
    refine D.rem rfl rfl rfl rfl rfl rfl (by omega) (by omega) rfl rfl ?_
    refine D.convQ (c := (upN x : Int)) rfl rfl rfl rfl rfl rfl rfl rfl (by rw [IntKind.wrap_i64]; unfold upN; omega) rfl rfl ?_
    iterate 2 refine D.pure rfl rfl rfl rfl rfl rfl ?_
    refine D.index0 (hv.mono (by (repeat (first | exact Mem.le.refl _ | assumption | (apply Mem.le.trans; rotate_left; assumption))))) rfl rfl rfl rfl rfl rfl rfl rfl rfl rfl (by omega) hrow (fun _ => rfl) (fun p26 hp26 => ?_)
    refine D.fieldP0 hp26 rfl rfl rfl rfl rfl rfl rfl rfl rfl rfl (fun _ => rfl) (fun p27 hp27 => ?_)
    refine D.loadP0 hp27 rfl rfl rfl rfl rfl rfl rfl rfl ?_
    refine D.rem rfl rfl rfl rfl rfl rfl (by omega) (by omega) rfl rfl ?_
    refine D.convQ (c := ((x.c.toNat % 6 : Nat) : Int)) rfl rfl rfl rfl rfl rfl rfl rfl (by rw [IntKind.wrap_i64]; omega) rfl rfl ?_
    iterate 2 refine D.pure rfl rfl rfl rfl rfl rfl ?_
    refine D.done [(0, [], _), (3, [], _), (4, [], _), (5, [], _), (6, [], _)] ⟨rfl, rfl, rfl, rfl, rfl, trivial⟩ (hR _ _ _ rfl ?_); clear hR hB R
    refine G.region rfl (fun R hR => ?_)
    iterate 3 refine D.pure rfl rfl rfl rfl rfl rfl ?_
    refine D.done [(0, [], _), (3, [], _), (4, [], _), (5, [], _), (6, [], _), (33, [], _)] ⟨rfl, rfl, rfl, rfl, rfl, rfl, trivial⟩ (hR _ _ _ rfl ?_); clear hR R
    refine G.cut (fun fr C' L' μ => (True) ∧ fr = [(0, [], .slice A l.length c), (3, [], w3), (4, [], .int .i64 k), (5, [], .int .i64 (upN x)), (6, [], .int .i64 (lowN x))] ∧ L' = [.arr w3 55 3 k (((l.take k).map mkR).map Rel.enc).flatten]) ?_ (fun fr C33 L33 μ hle33 hI => ?_)
    · skip
      refine G.cond rfl (fun h33 => ?_) (fun h33 => ?_)
      · skip
        have h33' : upN x = x.c.toNat % 6 := by
          have h : (upN x : Int) = ((x.c.toNat % 6 : Nat) : Int) := by simpa using h33
          omega
        have hup6 : upN x < 6 := by unfold upN; omega
        refine G.region rfl (fun R hR => ?_)
        refine D.pure rfl rfl rfl rfl rfl rfl ?_
        refine D.i64 _ rfl rfl rfl rfl rfl (by omega) (by omega) rfl rfl ?_
        refine D.rem rfl rfl rfl rfl rfl rfl (by omega) (by omega) rfl rfl ?_
        refine D.pure rfl rfl rfl rfl rfl rfl ?_
        refine D.done [(0, [], _), (3, [], _), (4, [], _), (5, [], _), (6, [], _)] ⟨rfl, rfl, rfl, rfl, rfl, trivial⟩ (hR _ _ _ rfl ?_); clear hR R
        have hlow : ((upN x : Int) + 1) % 6 = (lowN x : Int) := by
          unfold lowN
          have : x.b.toNat % 6 = x.c.toNat % 6 := h33'
          rw [if_pos this]; unfold upN; omega
        refine G.meet 0 (Mem.le.refl _) (fr' := [(0, [], _), (3, [], _), (4, [], _), (5, [], _), (6, [], _)]) ⟨rfl, rfl, rfl, rfl, rfl, trivial⟩ ⟨trivial, by rw [← hlow], rfl⟩
      · skip
        have h33' : ¬ upN x = x.c.toNat % 6 := fun e => by
          have : (false : Bool) = true := by rw [← h33]; simp [e]
          cases this
        have hlow : x.c.toNat % 6 = lowN x := by
          unfold lowN
          rw [if_neg (show ¬ x.b.toNat % 6 = x.c.toNat % 6 from h33')]
        refine G.meet 0 (Mem.le.refl _) (fr' := [(0, [], _), (3, [], _), (4, [], _), (5, [], _), (6, [], _)]) ⟨rfl, rfl, rfl, rfl, rfl, trivial⟩ ⟨trivial, by rw [← hlow], rfl⟩
    · skip
      obtain ⟨htriv, rfl, rfl⟩ := hI
      have hup6 : upN x < 6 := by unfold upN; omega
      have hlow6 : lowN x < 6 := by unfold lowN; split <;> omega
      refine G.draw [0, 1, 2, 3, 4, 5, 6, 7, 8, 9, 10, 11, 12, 13, 14, 15, 16] [(10, 1), (12, 1), (7, 0)] rfl (by kernel_rfl) (fun R hB hR => ?_)
      iterate 3 refine D.pure rfl rfl rfl rfl rfl rfl ?_
      refine D.index0 (hv.mono (by (repeat (first | exact Mem.le.refl _ | assumption | (apply Mem.le.trans; rotate_left; assumption))))) rfl rfl rfl rfl rfl rfl rfl rfl rfl rfl (by omega) hrow (fun _ => rfl) (fun p40 hp40 => ?_)
      refine D.fieldP0 hp40 rfl rfl rfl rfl rfl rfl rfl rfl rfl rfl (fun _ => rfl) (fun p41 hp41 => ?_)
      refine D.loadP0 hp41 rfl rfl rfl rfl rfl rfl rfl rfl ?_
      refine D.rem rfl rfl rfl rfl rfl rfl (by omega) (by omega) rfl rfl ?_
      refine D.convQ (c := ((x.a.toNat % 4 : Nat) : Int)) rfl rfl rfl rfl rfl rfl rfl rfl (by rw [IntKind.wrap_i64]; omega) rfl rfl ?_
      refine D.i64 (((1 + x.a.toNat % 4 : Nat) : Int)) rfl rfl rfl rfl (by omega) (by omega) (by omega) rfl rfl ?_
      refine D.pure rfl rfl rfl rfl rfl rfl ?_
      refine D.gives (fun _ => (lname_fn _ (upN x) (by omega))) rfl rfl rfl rfl rfl rfl rfl rfl rfl ?_
      refine D.pure rfl rfl rfl rfl rfl rfl ?_
      refine D.gives (fun _ => (lname_fn _ (lowN x) (by omega))) rfl rfl rfl rfl rfl rfl rfl rfl rfl ?_
      refine D.build (mkR x).enc rfl rfl rfl rfl rfl rfl rfl rfl ?_
      refine D.buildSlice [(mkR x).enc] rfl rfl rfl rfl rfl rfl rfl rfl rfl rfl rfl rfl (fun _ => rfl) (fun p51 C51 hle51 hs51 => ?_)
      refine D.append (j := 0) rfl rfl rfl rfl rfl rfl rfl rfl rfl rfl rfl hs51 rfl (by simp only [List.length_singleton, maxLen]; omega) (by simp only [List.length_singleton]; omega) (fun _ => rfl) (fun v52 => ?_)
      refine D.pure rfl rfl rfl rfl rfl rfl ?_
      refine D.done [(0, [], _), (3, [], _), (4, [], _)] ⟨rfl, rfl, rfl, trivial⟩ (hR _ _ _ rfl ?_); clear hR hB R
      refine G.region rfl (fun R hR => ?_)
      refine D.pure rfl rfl rfl rfl rfl rfl ?_
      refine D.i64 (((k + 1 : Nat) : Int)) rfl rfl rfl rfl (by omega) (by omega) (by omega) rfl rfl ?_
      refine D.pure rfl rfl rfl rfl rfl rfl ?_
      refine D.done [(0, [], _), (3, [], _), (4, [], _)] ⟨rfl, rfl, rfl, trivial⟩ (hR _ _ _ rfl ?_); clear hR R
      refine G.eqL (L' := [.arr v52 55 3 (k + 1) (((l.take (k + 1)).map mkR).map Rel.enc).flatten]) (by rw [htk]; simp) ?_
      refine G.again (m' := 8 - (k + 1)) (by omega) (by (repeat (first | exact Mem.le.refl _ | assumption | (apply Mem.le.trans; rotate_left; assumption)))) (fr' := [(0, [], _), (3, [], _), (4, [], _)]) ⟨rfl, rfl, rfl, trivial⟩ ⟨k + 1, v52, ⟨by omega, by omega⟩, rfl, rfl, rfl⟩
  · skip
    simp only [Bool.and_eq_false_iff, decide_eq_false_iff_not] at h14
    refine G.region rfl (fun R hR => ?_)
    iterate 2 refine D.pure rfl rfl rfl rfl rfl rfl ?_
    refine D.done [(2, [], _)] ⟨rfl, trivial⟩ (hR _ _ _ rfl ?_); clear hR R
    refine G.retN (G.fin1 rfl rfl ?_)
    have e : l.take k = l.take 8 := by
      rcases h14 with h | h
      · rw [List.take_of_length_le (by omega), List.take_of_length_le (by omega)]
      · congr 1; omega
    have hlen : (makeL l).length = k := by rw [makeL, ← e]; simp; omega
    rw [hlen, makeL, ← e]
section
variable {C : Mem} {l : List Rel} {r : Value}
theorem eCycs (he : errU l ≠ 0) (h : CycsRes C l r) : r = .tuple #[nilV, .int .i64 (errU l)] := by
  rcases h with ⟨_, h⟩ | ⟨h, _⟩
  · exact h
  · exact absurd h he
theorem eThr {i : Int} (he : errU l ≠ 0) (h : ThrRes C l i r) : r = .tuple #[nilV, .bool false, .int .i64 (errU l)] := by
  rcases h with ⟨_, h⟩ | ⟨h, _⟩
  · exact h
  · exact absurd h he
theorem eInv (he : errU l ≠ 0) (h : InvRes C l r) : r = .tuple #[nilV, .int .i64 (errU l)] := by
  rcases h with ⟨_, h⟩ | ⟨h, _⟩
  · exact h
  · exact absurd h he
theorem eKnots (he : errU l ≠ 0) (h : KnotsRes C l r) : r = .tuple #[nilV, .int .i64 (errU l)] := by
  rcases h with ⟨_, h⟩ | ⟨h, _⟩
  · exact h
  · exact absurd h he
theorem eReps (he : errU l ≠ 0) (h : RepsRes C l r) : r = .tuple #[nilV, .int .i64 (errU l)] := by
  rcases h with ⟨_, h⟩ | ⟨h, _⟩
  · exact h
  · exact absurd h he
theorem eDep {i : Int} (he : errU l ≠ 0) (h : DepRes C l i r) : r = .tuple #[nilV, .int .i64 (errU l)] := by
  rcases h with ⟨_, h⟩ | ⟨h, _⟩
  · exact h
  · exact absurd h he
theorem chk_err {st : List Int} (he : errU l ≠ 0) : chkE l st = errU l := by unfold chkE; rw [if_pos he]
theorem eWo {st : List Int} (he : chkE l st ≠ 0) (h : WoRes C l st r) : r = .tuple #[nilV, .int .i64 (chkE l st)] := by
  rcases h with ⟨_, h⟩ | ⟨h, _⟩
  · exact h
  · exact absurd h he
theorem eRep {st : List Int} (he : chkE l st ≠ 0) (h : RepRes2 l st r) : r = .tuple #[.bool false, .int .i64 (chkE l st)] := by
  rcases h with ⟨_, h⟩ | ⟨h, _⟩
  · exact h
  · exact absurd h he
theorem eNeed {st : List Int} (he : chkE l st ≠ 0) (h : NeedRes l st r) : r = .tuple #[.bool false, .int .i64 (chkE l st)] := by
  rcases h with ⟨_, h⟩ | ⟨h, _⟩
  · exact h
  · exact absurd h he
theorem rThr {i : Int} (he : errU l = 0) (hi : i < 0 ∨ (l.length : Int) ≤ i) (h : ThrRes C l i r) : r = .tuple #[nilV, .bool false, .int .i64 3] := by
  rcases h with ⟨h, _⟩ | ⟨_, ⟨_, h⟩ | ⟨j, k, ok, hj, hjl, _⟩⟩
  · exact absurd he h
  · exact h
  · omega
theorem rDep {i : Int} (he : errU l = 0) (hi : i < 0 ∨ (l.length : Int) ≤ i) (h : DepRes C l i r) : r = .tuple #[nilV, .int .i64 3] := by
  rcases h with ⟨h, _⟩ | ⟨_, ⟨_, h⟩ | ⟨j, hj, hjl, _⟩⟩
  · exact absurd he h
  · exact h
  · omega
theorem rChk {i : Int} (he : errU l = 0) (hi : i < 0 ∨ (l.length : Int) ≤ i) : chkE l [i] = 3 := by
  unfold chkE
  rw [if_neg (by rw [he]; simp)]
  show setE l.length [i] 1 = 3
  simp only [setE]
  rw [if_neg (by simp)]
  show (if i < 0 ∨ (l.length : Int) ≤ i then (3 : Int) else _) = 3
  rw [if_pos hi]
end
set_option maxHeartbeats 8000000 in
theorem cerrors_fn (C : Mem) (v : Value) (ss : List Seen) (x : Rel) (idx : Int) (hv : Sl C 3 v (ss.map Seen.enc)) (hi1 : -9223372036854775808 ≤ idx) (hi2 : idx ≤ 9223372036854775807) : Pur cx.P 10 [v, .agg ⟨x.enc⟩, .int .i64 idx] C fun u _ => u = .bool true := by
  obtain ⟨A0, c0, rfl, _⟩ := id hv
  simp only [List.length_map] at hv ⊢
  refine Fn.intro (by kernel_rfl) Tryz.func10 rfl 241 rfl rfl (fun w0 => ?_)
  refine G.region rfl (fun R hR => ?_)
  refine D.box rfl rfl rfl rfl rfl rfl (fun _ => rfl) (fun b4 => ?_)
  refine D.pure rfl rfl rfl rfl rfl rfl ?_
  refine D.done [(0, [], _), (2, [], _), (4, [], _)] ⟨rfl, rfl, rfl, trivial⟩ (hR _ _ _ rfl ?_); clear hR R
  refine G.region rfl (fun R hR => ?_)
  refine D.callP (known23_fn _) rfl rfl rfl rfl rfl rfl rfl (fun _ => rfl) (fun v35 C35 hle35 hq35 => ?_)
  obtain rfl := hq35
  iterate 3 refine D.pure rfl rfl rfl rfl rfl rfl ?_
  refine D.gives (fun _ => (fits_fn _ _ _ _)) rfl rfl rfl rfl rfl rfl rfl rfl rfl ?_
  refine D.pure rfl rfl rfl rfl rfl rfl ?_
  refine D.pickOr rfl rfl rfl rfl rfl rfl rfl rfl ?_
  iterate 2 refine D.pure rfl rfl rfl rfl rfl rfl ?_
  refine D.loadL (.head _) rfl rfl rfl rfl rfl rfl rfl rfl rfl ?_
  iterate 2 refine D.pure rfl rfl rfl rfl rfl rfl ?_
  refine D.pickOr rfl rfl rfl rfl rfl rfl rfl rfl ?_
  iterate 2 refine D.pure rfl rfl rfl rfl rfl rfl ?_
  refine D.loadL (.head _) rfl rfl rfl rfl rfl rfl rfl rfl rfl ?_
  iterate 2 refine D.pure rfl rfl rfl rfl rfl rfl ?_
  refine D.pickOr rfl rfl rfl rfl rfl rfl rfl rfl ?_
  refine D.done [(0, [], _), (2, [], _), (4, [], _), (53, [], _)] ⟨rfl, rfl, rfl, rfl, trivial⟩ (hR _ _ _ rfl ?_); clear hR R
  refine G.cond rfl (fun h53 => ?_) (fun h53 => ?_)
  · skip
    refine G.region rfl (fun R hR => ?_)
    refine D.callP (known23_fn _) rfl rfl rfl rfl rfl rfl rfl (fun _ => rfl) (fun v54 C54 hle54 hq54 => ?_)
    obtain rfl := hq54
    refine D.pure rfl rfl rfl rfl rfl rfl ?_
    refine D.done [(6, [], _)] ⟨rfl, trivial⟩ (hR _ _ _ rfl ?_); clear hR R
    refine G.retN (G.dropAll (G.fin1 rfl rfl ?_))
    exact ⟨rfl, rfl⟩
  · skip
    have hup : x.upper.length ≤ 40 := by
      have : ¬ (40 : Int) < x.upper.length := fun h => by simp [h] at h53
      omega
    have hlo : x.lower.length ≤ 40 := by
      have : ¬ (40 : Int) < x.lower.length := fun h => by simp [h] at h53
      omega
    have hM : Made (makeL ss) := made_makeL ss
    obtain ⟨l, hl⟩ : ∃ l, makeL ss ++ [x] = l := ⟨_, rfl⟩
    have hm8 := hM.1
    have hll : l.length = (makeL ss).length + 1 := by rw [← hl]; simp
    have hsh : ∀ y ∈ l, y.short := fun y hy => by
      rw [← hl] at hy
      rcases List.mem_append.1 hy with h | h
      · exact hM.short y h
      · rw [List.mem_singleton.1 h]; exact ⟨by omega, by omega⟩
    refine G.cut (fun fr C' L' μ => ∃ (w : Value), (Sl C' 3 w (l.map Rel.enc)) ∧ fr = [(2, [], .int .i64 idx), (7, [], w)] ∧ L' = [.obj b4 (.cells ⟨x.enc⟩ 55 (0, 0))]) ?_ (fun fr Cr3 Lr3 μ hler3 hI => ?_)
    · skip
      refine G.drawT (.cut [0] (.alt 1 (.fin [2, 3, 4, 5]) (.alt 2 (.cut [] (.alt 1 (.fin [3, 4, 5]) (.alt 3 (.fin [1, 4, 5]) .stop))) .stop))) [(1, 3)] rfl rfl (by kernel_rfl) (fun R hB hR hH => ?_)
      refine D.pure rfl rfl rfl rfl rfl rfl ?_
      refine D.fork hH rfl ⟨?_, ?_, trivial⟩
      · skip
        refine D.call (makeO_fn _ _ ss (hv.mono (by (repeat (first | exact Mem.le.refl _ | assumption | (apply Mem.le.trans; rotate_left; assumption)))))) rfl (.inl rfl) rfl rfl rfl rfl rfl rfl (List.Perm.refl _) (fun _ => rfl) (fun v56 C56 L56 hle56 hq56 => ?_)
        first
          | (subst hq56; refine D.loadL (.tail _ (.head _)) rfl rfl rfl rfl rfl rfl rfl rfl rfl ?_)
          | refine D.loadL (.head _) rfl rfl rfl rfl rfl rfl rfl rfl rfl ?_
        refine D.buildSlice [x.enc] rfl rfl rfl rfl rfl rfl rfl rfl rfl rfl rfl rfl (fun _ => rfl) (fun p58 C58 hle58 hs58 => ?_)
        try subst hq56
        refine D.append (j := 0) rfl rfl rfl rfl rfl rfl rfl rfl rfl rfl rfl (hs58.mono (by (repeat (first | exact Mem.le.refl _ | assumption | (apply Mem.le.trans; rotate_left; assumption))))) rfl (by simp only [List.length_singleton, maxLen]; omega) (by simp only [List.length_singleton]; omega) (fun _ => rfl) (fun v59 => ?_)
        refine D.pure rfl rfl rfl rfl rfl rfl ?_
        refine D.done [(2, [], _), (7, [], _)] ⟨rfl, rfl, trivial⟩ (hR _ _ _ rfl ?_); clear hR hB hH R
        refine G.freezeArr 0 (l.map Rel.enc) rfl (by rw [← hl]; simp) (by intro r hr; obtain ⟨y, _, rfl⟩ := List.mem_map.1 hr; exact rel_len y) (by rw [List.length_map, hll]; rfl) (fun Cf hlef hsd => ?_)
        exact G.meet 0 (by (repeat (first | exact Mem.le.refl _ | assumption | (apply Mem.le.trans; rotate_left; assumption)))) (fr' := [(2, [], _), (7, [], _)]) ⟨rfl, rfl, trivial⟩ ⟨_, hsd, rfl, rfl⟩
      · skip
        first
          | (subst hq56; refine D.loadL (.tail _ (.head _)) rfl rfl rfl rfl rfl rfl rfl rfl rfl ?_)
          | refine D.loadL (.head _) rfl rfl rfl rfl rfl rfl rfl rfl rfl ?_
        refine D.fork hH rfl ⟨?_, ?_, trivial⟩
        · skip
          refine D.call (makeO_fn _ _ ss (hv.mono (by (repeat (first | exact Mem.le.refl _ | assumption | (apply Mem.le.trans; rotate_left; assumption)))))) rfl (.inl rfl) rfl rfl rfl rfl rfl rfl (List.Perm.refl _) (fun _ => rfl) (fun v56 C56 L56 hle56 hq56 => ?_)
          refine D.buildSlice [x.enc] rfl rfl rfl rfl rfl rfl rfl rfl rfl rfl rfl rfl (fun _ => rfl) (fun p58 C58 hle58 hs58 => ?_)
          try subst hq56
          refine D.append (j := 0) rfl rfl rfl rfl rfl rfl rfl rfl rfl rfl rfl (hs58.mono (by (repeat (first | exact Mem.le.refl _ | assumption | (apply Mem.le.trans; rotate_left; assumption))))) rfl (by simp only [List.length_singleton, maxLen]; omega) (by simp only [List.length_singleton]; omega) (fun _ => rfl) (fun v59 => ?_)
          refine D.pure rfl rfl rfl rfl rfl rfl ?_
          refine D.done [(2, [], _), (7, [], _)] ⟨rfl, rfl, trivial⟩ (hR _ _ _ rfl ?_); clear hR hB hH R
          refine G.freezeArr 0 (l.map Rel.enc) rfl (by rw [← hl]; simp) (by intro r hr; obtain ⟨y, _, rfl⟩ := List.mem_map.1 hr; exact rel_len y) (by rw [List.length_map, hll]; rfl) (fun Cf hlef hsd => ?_)
          exact G.meet 0 (by (repeat (first | exact Mem.le.refl _ | assumption | (apply Mem.le.trans; rotate_left; assumption)))) (fr' := [(2, [], _), (7, [], _)]) ⟨rfl, rfl, trivial⟩ ⟨_, hsd, rfl, rfl⟩
        · skip
          refine D.buildSlice [x.enc] rfl rfl rfl rfl rfl rfl rfl rfl rfl rfl rfl rfl (fun _ => rfl) (fun p58 C58 hle58 hs58 => ?_)
          refine D.call (makeO_fn _ _ ss (hv.mono (by (repeat (first | exact Mem.le.refl _ | assumption | (apply Mem.le.trans; rotate_left; assumption)))))) rfl (.inl rfl) rfl rfl rfl rfl rfl rfl (List.Perm.refl _) (fun _ => rfl) (fun v56 C56 L56 hle56 hq56 => ?_)
          try subst hq56
          refine D.append (j := 0) rfl rfl rfl rfl rfl rfl rfl rfl rfl rfl rfl (hs58.mono (by (repeat (first | exact Mem.le.refl _ | assumption | (apply Mem.le.trans; rotate_left; assumption))))) rfl (by simp only [List.length_singleton, maxLen]; omega) (by simp only [List.length_singleton]; omega) (fun _ => rfl) (fun v59 => ?_)
          refine D.pure rfl rfl rfl rfl rfl rfl ?_
          refine D.done [(2, [], _), (7, [], _)] ⟨rfl, rfl, trivial⟩ (hR _ _ _ rfl ?_); clear hR hB hH R
          refine G.freezeArr 0 (l.map Rel.enc) rfl (by rw [← hl]; simp) (by intro r hr; obtain ⟨y, _, rfl⟩ := List.mem_map.1 hr; exact rel_len y) (by rw [List.length_map, hll]; rfl) (fun Cf hlef hsd => ?_)
          exact G.meet 0 (by (repeat (first | exact Mem.le.refl _ | assumption | (apply Mem.le.trans; rotate_left; assumption)))) (fr' := [(2, [], _), (7, [], _)]) ⟨rfl, rfl, trivial⟩ ⟨_, hsd, rfl, rfl⟩
    obtain ⟨w, hsl, rfl, rfl⟩ := hI
    obtain ⟨Al, cl, rfl, _⟩ := id hsl
    rw [List.length_map] at hsl ⊢
    refine G.region rfl (fun R hR => ?_)
    refine D.pure rfl rfl rfl rfl rfl rfl ?_
    refine D.gives2 (check_fn _ _ l hsl (by omega) hsh) rfl rfl rfl rfl rfl rfl rfl (fun _ => rfl) ?_
    refine D.pure rfl rfl rfl rfl rfl rfl ?_
    refine D.done [(2, [], _), (7, [], _), (8, [], _)] ⟨rfl, rfl, rfl, trivial⟩ (hR _ _ _ rfl ?_); clear hR R
    refine G.region rfl (fun R hR => ?_)
    iterate 2 refine D.pure rfl rfl rfl rfl rfl rfl ?_
    refine D.done [(2, [], _), (7, [], _), (8, [], _), (63, [], _)] ⟨rfl, rfl, rfl, rfl, trivial⟩ (hR _ _ _ rfl ?_); clear hR R
    refine G.cond rfl (fun h63 => ?_) (fun h63 => ?_)
    · skip
      have hE : errU l ≠ 0 := by simpa using h63
      have hck := chk_err (st := []) hE
      have hcn : chkE l [] ≠ 0 := by rw [hck]; exact hE
      refine G.region rfl (fun R hR => ?_)
      refine D.pure rfl rfl rfl rfl rfl rfl ?_
      refine D.callP (cycles_fn _ _ l (hsl.mono (by (repeat (first | exact Mem.le.refl _ | assumption | (apply Mem.le.trans; rotate_left; assumption))))) (by omega) hsh) rfl rfl rfl rfl rfl rfl rfl (fun _ => rfl) (fun v66 C66 hle66 hq66 => ?_)
      obtain rfl := eCycs hE hq66
      iterate 5 refine D.pure rfl rfl rfl rfl rfl rfl ?_
      refine D.done [(7, [], _), (8, [], _), (9, [], _), (10, [], _)] ⟨rfl, rfl, rfl, rfl, trivial⟩ (hR _ _ _ rfl ?_); clear hR R
      refine G.region rfl (fun R hR => ?_)
      refine D.pure rfl rfl rfl rfl rfl rfl ?_
      refine D.callP (through_fn _ _ l 0 (hsl.mono (by (repeat (first | exact Mem.le.refl _ | assumption | (apply Mem.le.trans; rotate_left; assumption))))) (by omega) hsh (by omega) (by omega)) rfl rfl rfl rfl rfl rfl rfl (fun _ => rfl) (fun v71 C71 hle71 hq71 => ?_)
      obtain rfl := eThr hE hq71
      iterate 7 refine D.pure rfl rfl rfl rfl rfl rfl ?_
      refine D.done [(7, [], _), (8, [], _), (9, [], _), (10, [], _), (11, [], _), (12, [], _), (13, [], _)] ⟨rfl, rfl, rfl, rfl, rfl, rfl, rfl, trivial⟩ (hR _ _ _ rfl ?_); clear hR R
      refine G.region rfl (fun R hR => ?_)
      refine D.pure rfl rfl rfl rfl rfl rfl ?_
      refine D.callP (involvedR_fn _ _ l (hsl.mono (by (repeat (first | exact Mem.le.refl _ | assumption | (apply Mem.le.trans; rotate_left; assumption))))) (by omega) hsh) rfl rfl rfl rfl rfl rfl rfl (fun _ => rfl) (fun v77 C77 hle77 hq77 => ?_)
      obtain rfl := eInv hE hq77
      iterate 5 refine D.pure rfl rfl rfl rfl rfl rfl ?_
      refine D.done [(7, [], _), (8, [], _), (9, [], _), (10, [], _), (11, [], _), (12, [], _), (13, [], _), (14, [], _), (15, [], _)] ⟨rfl, rfl, rfl, rfl, rfl, rfl, rfl, rfl, rfl, trivial⟩ (hR _ _ _ rfl ?_); clear hR R
      refine G.region rfl (fun R hR => ?_)
      refine D.pure rfl rfl rfl rfl rfl rfl ?_
      refine D.callP (knots_fn _ _ l (hsl.mono (by (repeat (first | exact Mem.le.refl _ | assumption | (apply Mem.le.trans; rotate_left; assumption))))) (by omega) hsh) rfl rfl rfl rfl rfl rfl rfl (fun _ => rfl) (fun v82 C82 hle82 hq82 => ?_)
      obtain rfl := eKnots hE hq82
      iterate 5 refine D.pure rfl rfl rfl rfl rfl rfl ?_
      refine D.done [(7, [], _), (8, [], _), (9, [], _), (10, [], _), (11, [], _), (12, [], _), (13, [], _), (14, [], _), (15, [], _), (16, [], _), (17, [], _)] ⟨rfl, rfl, rfl, rfl, rfl, rfl, rfl, rfl, rfl, rfl, rfl, trivial⟩ (hR _ _ _ rfl ?_); clear hR R
      refine G.region rfl (fun R hR => ?_)
      refine D.pure rfl rfl rfl rfl rfl rfl ?_
      refine D.callP (withoutR_fn _ _ _ l [] (hsl.mono (by (repeat (first | exact Mem.le.refl _ | assumption | (apply Mem.le.trans; rotate_left; assumption))))) (by omega) hsh (Sl.nilS _ _) (by simp)) rfl rfl rfl rfl rfl rfl rfl (fun _ => rfl) (fun v87 C87 hle87 hq87 => ?_)
      have e87 := eWo hcn hq87
      rw [hck] at e87
      subst e87
      iterate 5 refine D.pure rfl rfl rfl rfl rfl rfl ?_
      refine D.done [(7, [], _), (8, [], _), (9, [], _), (10, [], _), (11, [], _), (12, [], _), (13, [], _), (14, [], _), (15, [], _), (16, [], _), (17, [], _), (18, [], _), (19, [], _)] ⟨rfl, rfl, rfl, rfl, rfl, rfl, rfl, rfl, rfl, rfl, rfl, rfl, rfl, trivial⟩ (hR _ _ _ rfl ?_); clear hR R
      refine G.region rfl (fun R hR => ?_)
      refine D.pure rfl rfl rfl rfl rfl rfl ?_
      refine D.callP (repairedS_fn _ _ _ l [] (hsl.mono (by (repeat (first | exact Mem.le.refl _ | assumption | (apply Mem.le.trans; rotate_left; assumption))))) (by omega) hsh (Sl.nilS _ _) (by simp)) rfl rfl rfl rfl rfl rfl rfl (fun _ => rfl) (fun v92 C92 hle92 hq92 => ?_)
      have e92 := eRep hcn hq92
      rw [hck] at e92
      subst e92
      iterate 5 refine D.pure rfl rfl rfl rfl rfl rfl ?_
      refine D.done [(7, [], _), (8, [], _), (9, [], _), (10, [], _), (11, [], _), (12, [], _), (13, [], _), (14, [], _), (15, [], _), (16, [], _), (17, [], _), (18, [], _), (19, [], _), (20, [], _), (21, [], _)] ⟨rfl, rfl, rfl, rfl, rfl, rfl, rfl, rfl, rfl, rfl, rfl, rfl, rfl, rfl, rfl, trivial⟩ (hR _ _ _ rfl ?_); clear hR R
      refine G.region rfl (fun R hR => ?_)
      refine D.pure rfl rfl rfl rfl rfl rfl ?_
      refine D.callP (needed_fn _ _ _ l [] (hsl.mono (by (repeat (first | exact Mem.le.refl _ | assumption | (apply Mem.le.trans; rotate_left; assumption))))) (by omega) hsh (Sl.nilS _ _) (by simp)) rfl rfl rfl rfl rfl rfl rfl (fun _ => rfl) (fun v97 C97 hle97 hq97 => ?_)
      have e97 := eNeed hcn hq97
      rw [hck] at e97
      subst e97
      iterate 5 refine D.pure rfl rfl rfl rfl rfl rfl ?_
      refine D.done [(7, [], _), (8, [], _), (9, [], _), (10, [], _), (11, [], _), (12, [], _), (13, [], _), (14, [], _), (15, [], _), (16, [], _), (17, [], _), (18, [], _), (19, [], _), (20, [], _), (21, [], _), (22, [], _), (23, [], _)] ⟨rfl, rfl, rfl, rfl, rfl, rfl, rfl, rfl, rfl, rfl, rfl, rfl, rfl, rfl, rfl, rfl, rfl, trivial⟩ (hR _ _ _ rfl ?_); clear hR R
      refine G.region rfl (fun R hR => ?_)
      refine D.pure rfl rfl rfl rfl rfl rfl ?_
      refine D.callP (repairs_fn _ _ l (hsl.mono (by (repeat (first | exact Mem.le.refl _ | assumption | (apply Mem.le.trans; rotate_left; assumption))))) (by omega) hsh) rfl rfl rfl rfl rfl rfl rfl (fun _ => rfl) (fun v102 C102 hle102 hq102 => ?_)
      obtain rfl := eReps hE hq102
      iterate 5 refine D.pure rfl rfl rfl rfl rfl rfl ?_
      refine D.done [(7, [], _), (8, [], _), (9, [], _), (10, [], _), (11, [], _), (12, [], _), (13, [], _), (14, [], _), (15, [], _), (16, [], _), (17, [], _), (18, [], _), (19, [], _), (20, [], _), (21, [], _), (22, [], _), (23, [], _), (24, [], _), (25, [], _)] ⟨rfl, rfl, rfl, rfl, rfl, rfl, rfl, rfl, rfl, rfl, rfl, rfl, rfl, rfl, rfl, rfl, rfl, rfl, rfl, trivial⟩ (hR _ _ _ rfl ?_); clear hR R
      refine G.region rfl (fun R hR => ?_)
      refine D.pure rfl rfl rfl rfl rfl rfl ?_
      refine D.callP (depends_fn _ _ l 0 (hsl.mono (by (repeat (first | exact Mem.le.refl _ | assumption | (apply Mem.le.trans; rotate_left; assumption))))) (by omega) hsh (by omega) (by omega)) rfl rfl rfl rfl rfl rfl rfl (fun _ => rfl) (fun v107 C107 hle107 hq107 => ?_)
      obtain rfl := eDep hE hq107
      iterate 5 refine D.pure rfl rfl rfl rfl rfl rfl ?_
      refine D.done [(8, [], _), (9, [], _), (10, [], _), (11, [], _), (12, [], _), (13, [], _), (14, [], _), (15, [], _), (16, [], _), (17, [], _), (18, [], _), (19, [], _), (20, [], _), (21, [], _), (22, [], _), (23, [], _), (24, [], _), (25, [], _), (26, [], _), (27, [], _)] ⟨rfl, rfl, rfl, rfl, rfl, rfl, rfl, rfl, rfl, rfl, rfl, rfl, rfl, rfl, rfl, rfl, rfl, rfl, rfl, rfl, trivial⟩ (hR _ _ _ rfl ?_); clear hR R
      refine G.region rfl (fun R hR => ?_)
      iterate 4 refine D.pure rfl rfl rfl rfl rfl rfl ?_
      refine D.i64 _ rfl rfl rfl rfl rfl (by omega) (by omega) rfl rfl ?_
      iterate 2 refine D.pure rfl rfl rfl rfl rfl rfl ?_
      refine D.i64 _ rfl rfl rfl rfl rfl (by omega) (by omega) rfl rfl ?_
      iterate 2 refine D.pure rfl rfl rfl rfl rfl rfl ?_
      refine D.i64 _ rfl rfl rfl rfl rfl (by omega) (by omega) rfl rfl ?_
      iterate 2 refine D.pure rfl rfl rfl rfl rfl rfl ?_
      refine D.i64 _ rfl rfl rfl rfl rfl (by omega) (by omega) rfl rfl ?_
      iterate 2 refine D.pure rfl rfl rfl rfl rfl rfl ?_
      refine D.i64 _ rfl rfl rfl rfl rfl (by omega) (by omega) rfl rfl ?_
      iterate 2 refine D.pure rfl rfl rfl rfl rfl rfl ?_
      refine D.i64 _ rfl rfl rfl rfl rfl (by omega) (by omega) rfl rfl ?_
      iterate 4 refine D.pure rfl rfl rfl rfl rfl rfl ?_
      refine D.pickAnd rfl rfl rfl rfl rfl rfl rfl rfl ?_
      iterate 3 refine D.pure rfl rfl rfl rfl rfl rfl ?_
      refine D.pickAnd rfl rfl rfl rfl rfl rfl rfl rfl ?_
      iterate 3 refine D.pure rfl rfl rfl rfl rfl rfl ?_
      refine D.pickAnd rfl rfl rfl rfl rfl rfl rfl rfl ?_
      iterate 4 refine D.pure rfl rfl rfl rfl rfl rfl ?_
      refine D.pickAnd rfl rfl rfl rfl rfl rfl rfl rfl ?_
      iterate 4 refine D.pure rfl rfl rfl rfl rfl rfl ?_
      refine D.pickAnd rfl rfl rfl rfl rfl rfl rfl rfl ?_
      iterate 4 refine D.pure rfl rfl rfl rfl rfl rfl ?_
      refine D.pickAnd rfl rfl rfl rfl rfl rfl rfl rfl ?_
      iterate 4 refine D.pure rfl rfl rfl rfl rfl rfl ?_
      refine D.pickAnd rfl rfl rfl rfl rfl rfl rfl rfl ?_
      iterate 4 refine D.pure rfl rfl rfl rfl rfl rfl ?_
      refine D.pickAnd rfl rfl rfl rfl rfl rfl rfl rfl ?_
      iterate 4 refine D.pure rfl rfl rfl rfl rfl rfl ?_
      refine D.pickAnd rfl rfl rfl rfl rfl rfl rfl rfl ?_
      iterate 4 refine D.pure rfl rfl rfl rfl rfl rfl ?_
      refine D.pickAnd rfl rfl rfl rfl rfl rfl rfl rfl ?_
      iterate 4 refine D.pure rfl rfl rfl rfl rfl rfl ?_
      refine D.pickAnd rfl rfl rfl rfl rfl rfl rfl rfl ?_
      iterate 4 refine D.pure rfl rfl rfl rfl rfl rfl ?_
      refine D.pickAnd rfl rfl rfl rfl rfl rfl rfl rfl ?_
      refine D.pure rfl rfl rfl rfl rfl rfl ?_
      refine D.done [(6, [], _)] ⟨rfl, trivial⟩ (hR _ _ _ rfl ?_); clear hR R
      refine G.retN (G.dropAll (G.fin1 rfl rfl ?_))
      exact ⟨rfl, by simp⟩
    · skip
      have hE : errU l = 0 := by simpa using h63
      refine G.region rfl (fun R hR => ?_)
      iterate 7 refine D.pure rfl rfl rfl rfl rfl rfl ?_
      refine D.pickAnd rfl rfl rfl rfl rfl rfl rfl rfl ?_
      refine D.done [(2, [], _), (7, [], _), (195, [], _)] ⟨rfl, rfl, rfl, trivial⟩ (hR _ _ _ rfl ?_); clear hR R
      refine G.cond rfl (fun h195 => ?_) (fun h195 => ?_)
      · skip
        refine G.region rfl (fun R hR => ?_)
        refine D.pure rfl rfl rfl rfl rfl rfl ?_
        refine D.done [(6, [], _)] ⟨rfl, trivial⟩ (hR _ _ _ rfl ?_); clear hR R
        refine G.retN (G.dropAll (G.fin1 rfl rfl ?_))
        exact ⟨rfl, rfl⟩
      · skip
        have hir : idx < 0 ∨ (l.length : Int) ≤ idx := by
          apply Classical.byContradiction
          intro h
          have h1 : 0 ≤ idx := by omega
          have h2 : idx < (l.length : Int) := by omega
          simp [h1, h2] at h195
        have hck := rChk hE hir
        have hcn : chkE l [idx] ≠ 0 := by rw [hck]; simp
        refine G.region rfl (fun R hR => ?_)
        iterate 2 refine D.pure rfl rfl rfl rfl rfl rfl ?_
        refine D.callP (through_fn _ _ l idx (hsl.mono (by (repeat (first | exact Mem.le.refl _ | assumption | (apply Mem.le.trans; rotate_left; assumption))))) (by omega) hsh hi1 hi2) rfl rfl rfl rfl rfl rfl rfl (fun _ => rfl) (fun v199 C199 hle199 hq199 => ?_)
        obtain rfl := rThr hE hir hq199
        iterate 7 refine D.pure rfl rfl rfl rfl rfl rfl ?_
        refine D.done [(2, [], _), (7, [], _), (28, [], _), (29, [], _), (30, [], _)] ⟨rfl, rfl, rfl, rfl, rfl, trivial⟩ (hR _ _ _ rfl ?_); clear hR R
        refine G.region rfl (fun R hR => ?_)
        iterate 2 refine D.pure rfl rfl rfl rfl rfl rfl ?_
        refine D.callP (depends_fn _ _ l idx (hsl.mono (by (repeat (first | exact Mem.le.refl _ | assumption | (apply Mem.le.trans; rotate_left; assumption))))) (by omega) hsh hi1 hi2) rfl rfl rfl rfl rfl rfl rfl (fun _ => rfl) (fun v206 C206 hle206 hq206 => ?_)
        obtain rfl := rDep hE hir hq206
        iterate 5 refine D.pure rfl rfl rfl rfl rfl rfl ?_
        refine D.done [(2, [], _), (7, [], _), (28, [], _), (29, [], _), (30, [], _), (31, [], _), (32, [], _)] ⟨rfl, rfl, rfl, rfl, rfl, rfl, rfl, trivial⟩ (hR _ _ _ rfl ?_); clear hR R
        refine G.region rfl (fun R hR => ?_)
        iterate 2 refine D.pure rfl rfl rfl rfl rfl rfl ?_
        refine D.buildSlice [encI idx] rfl rfl rfl rfl rfl rfl rfl rfl rfl rfl rfl rfl (fun _ => rfl) (fun p212 C212 hle212 hs212 => ?_)
        refine D.callP (withoutR_fn _ _ _ l [idx] (hsl.mono (by (repeat (first | exact Mem.le.refl _ | assumption | (apply Mem.le.trans; rotate_left; assumption))))) (by omega) hsh (hs212.mono (by (repeat (first | exact Mem.le.refl _ | assumption | (apply Mem.le.trans; rotate_left; assumption))))) (by simp)) rfl rfl rfl rfl rfl rfl rfl (fun _ => rfl) (fun v213 C213 hle213 hq213 => ?_)
        have e213 := eWo hcn hq213
        rw [hck] at e213
        subst e213
        iterate 5 refine D.pure rfl rfl rfl rfl rfl rfl ?_
        refine D.done [(28, [], _), (29, [], _), (30, [], _), (31, [], _), (32, [], _), (33, [], _), (34, [], _)] ⟨rfl, rfl, rfl, rfl, rfl, rfl, rfl, trivial⟩ (hR _ _ _ rfl ?_); clear hR R
        refine G.region rfl (fun R hR => ?_)
        iterate 4 refine D.pure rfl rfl rfl rfl rfl rfl ?_
        refine D.i64 _ rfl rfl rfl rfl rfl (by omega) (by omega) rfl rfl ?_
        iterate 2 refine D.pure rfl rfl rfl rfl rfl rfl ?_
        refine D.i64 _ rfl rfl rfl rfl rfl (by omega) (by omega) rfl rfl ?_
        iterate 4 refine D.pure rfl rfl rfl rfl rfl rfl ?_
        refine D.pickAnd rfl rfl rfl rfl rfl rfl rfl rfl ?_
        iterate 3 refine D.pure rfl rfl rfl rfl rfl rfl ?_
        refine D.pickAnd rfl rfl rfl rfl rfl rfl rfl rfl ?_
        iterate 3 refine D.pure rfl rfl rfl rfl rfl rfl ?_
        refine D.pickAnd rfl rfl rfl rfl rfl rfl rfl rfl ?_
        iterate 3 refine D.pure rfl rfl rfl rfl rfl rfl ?_
        refine D.pickAnd rfl rfl rfl rfl rfl rfl rfl rfl ?_
        refine D.pure rfl rfl rfl rfl rfl rfl ?_
        refine D.done [(6, [], _)] ⟨rfl, trivial⟩ (hR _ _ _ rfl ?_); clear hR R
        refine G.retN (G.dropAll (G.fin1 rfl rfl ?_))
        exact ⟨rfl, rfl⟩
end Go.Proofs.YtcghlfepfcagbaaGreat
namespace Go.Proofs.YtcghlfepfcagbaaGreat
open Go Go.Jog Go.ChangeShapes Go.WideShapes Go.ChangeAt Go.RowKit
set_option maxRecDepth 100000

namespace lawContradictionErrors
theorem laid_met (os : Os) (args : Array Value) : laidMetH Tryz.prog Rows.contradictionErrorsRow.laid ((laidWorld os).forCall (fun _ _ => 0) ⟨#[], args, []⟩).memory :=
  laidMet_of_run' 8 (by kernel_rfl) (by kernel_rfl)
theorem contract (H : Type) (enc : TypeId × Value → H) (W : World) (base : Nat) (args : Array Value) (ds gs : List (DataW H)) (before : List MemPlace)
    (hval : ∀ (j : Nat) t v, Tryz.f10.params[j]? = some t → args[j]? = some v → Value.okWide Tryz.prog W .any base t v)
    (hW : DataW.Whole enc Tryz.prog Tryz.f10.params.toList Rows.contradictionErrorsSpec.vars false W args.toList ds gs before) (_hsh : W.ShapedOpen Tryz.prog) :
    Calls Tryz.prog 10 args W fun e W' => ∃ v, e = .returned v ∧ Rows.contradictionErrorsSpec.post enc Tryz.prog Tryz.f10 false true false false W args v W' := by
  have hW' := hW
  obtain ⟨p, q, hA0, hV, rfl, hfz, hnd⟩ := hW
  have hA : DataW.TrodAll enc Tryz.prog W 0 (fun _ => true) true Tryz.f10.params.toList args.toList ds p := hA0
  rw [Tryz.params10] at hA hval
  obtain ⟨v0, vs0, d0, ds0, p0, q0, hargs0, rfl, rfl, h0, r0⟩ := trodAll_cons hA
  obtain ⟨v1, vs1, d1, ds1, p1, q1, hargs1, rfl, rfl, h1, r1⟩ := trodAll_cons r0
  obtain ⟨v2, vs2, d2, ds2, p2, q2, hargs2, rfl, rfl, h2, r2⟩ := trodAll_cons r1
  obtain ⟨rfl, rfl, rfl⟩ := trodAll_nil r2
  obtain rfl : args = #[v0, v1, v2] := by cases args; simp_all
  obtain ⟨rfl, rfl⟩ := trodVars_none hV
  obtain ⟨a0, len0, cap0, rfl⟩ := okWide_slice Tryz.underlying22 (hval 0 22 v0 rfl rfl)
  obtain ⟨l0, hl0⟩ : ∃ l : List Seen, Sl (memOf W) 3 (.slice a0 len0 cap0) (l.map Seen.enc) := by
    obtain ⟨n, hn⟩ := (id h0)
    exact seens_of hn
  obtain ⟨l1, rfl⟩ : ∃ z : Rel, v1 = .agg ⟨z.enc⟩ := by
    obtain ⟨cs, rfl, _⟩ := okWide_struct Tryz.underlying55 (hval 1 55 v1 rfl rfl)
    obtain ⟨n, hn⟩ := (id h1)
    obtain ⟨z, hz⟩ := rel_of hn
    exact ⟨z, congrArg Value.agg (Array.ext' hz)⟩
  obtain ⟨l2, rfl, hb2, ht2⟩ : ∃ m : Int, v2 = .int .i64 m ∧ -9223372036854775808 ≤ m ∧ m ≤ 9223372036854775807 := by
    obtain ⟨k2, rfl⟩ := okWide_int Tryz.underlying3 (hval 2 3 v2 rfl rfl)
    obtain ⟨n, hn⟩ := (id h2)
    exact intb_of hn
  simp only [List.append_nil] at hW'
  have hlt0 : ∀ x ∈ p0, x.block < W.heap.size := fun x hx => hW'.lt x (by simp [hx])
  have hlt1 : ∀ x ∈ p1, x.block < W.heap.size := fun x hx => hW'.lt x (by simp [hx])
  have hlt2 : ∀ x ∈ p2, x.block < W.heap.size := fun x hx => hW'.lt x (by simp [hx])
  have main := gives_below (gives_of (cerrors_fn (memOf W) _ l0 l1 l2 hl0 hb2 ht2))
  refine Calls.mono main fun e W' ⟨he, hb⟩ => ?_
  subst he
  refine ⟨_, rfl, post_of_below (pa := p0 ++ (p1 ++ (p2 ++ ([])))) (pv := []) hW' (fun _ _ _ => trodAll_cons_mk (shut_bool Tryz.underlying4 _) trodAll_mk0) (fun sp hsp => ?_) (fun _ _ => rfl) (by simp) hb (ok_one (by kernel_rfl) rfl (okWide_bool_mk Tryz.underlying4 _))⟩
  exact trodAll_cons_mk (WideElems.Trod_stays laidOut' (by kernel_rfl) (of_decide_eq_true (by kernel_rfl)) h0 (fun x hx => hb.same (hlt0 x hx)) (fun x hx => hsp x (by simp [hx]))) (trodAll_cons_mk (WideElems.Trod_stays laidOut' (by kernel_rfl) (of_decide_eq_true (by kernel_rfl)) h1 (fun x hx => hb.same (hlt1 x hx)) (fun x hx => hsp x (by simp [hx]))) (trodAll_cons_mk (WideElems.Trod_stays laidOut' (by kernel_rfl) (of_decide_eq_true (by kernel_rfl)) h2 (fun x hx => hb.same (hlt2 x hx)) (fun x hx => hsp x (by simp [hx]))) (trodAll_mk0)))

theorem reads (os : Os) {H : Type} (enc : TypeId × Value → H) : ∃ places, DataW.whole enc Tryz.prog ((laidWorld os).forCall (fun _ _ => 0) ⟨#[], #[.slice none 0 0, .agg ⟨[.int .i64 0, .string ⟨#[]⟩, .string ⟨#[]⟩]⟩, .int .i64 0], []⟩).memory Tryz.f10.params.toList Rows.contradictionErrorsSpec.vars false (#[.slice none 0 0, .agg ⟨[.int .i64 0, .string ⟨#[]⟩, .string ⟨#[]⟩]⟩, .int .i64 0] : Array Value).toList 8 = some ([.nil, .agg [.lit (.int .i64 0), .lit (.string []), .lit (.string [])], .lit (.int .i64 0)], [], places) :=
  ⟨[], by kernel_rfl⟩

theorem lifted (os : Os) (started : os.Started) (H : Type) (enc : TypeId × Value → H) (F : Stop.Interp) :
    ReturnsInHanded {} Tryz.checked os 10 .any ((OpenSpec.ofChange Rows.contradictionErrorsSpec).preRow enc Tryz.prog Tryz.f10 Rows.contradictionErrorsRow.domain false Rows.contradictionErrorsRow.laid) (((OpenSpec.ofChange Rows.contradictionErrorsSpec).at F).post enc Tryz.prog Tryz.f10 false true false false) := by
  obtain ⟨places, hx⟩ := reads os enc
  refine returnsInHanded_of_row (C := Tryz.checked) (s := OpenSpec.ofChange Rows.contradictionErrorsSpec) own started (by kernel_rfl) Tryz.func10
    (witness_row_at (enc := enc) (C := Tryz.checked) false (laidWorld os) #[.slice none 0 0, .agg ⟨[.int .i64 0, .string ⟨#[]⟩, .string ⟨#[]⟩]⟩, .int .i64 0] rfl (by kernel_rfl) (by kernel_rfl) (by kernel_rfl)
      (OpenSpec.preRow_of_cond 8 hx (by kernel_rfl) (fun k hk => by cases hk) (by kernel_rfl) (laid_met os _))) ?_
  intro W base args ds gs before hval hW _ _ _ hL hsh _
  exact contract H enc W base args ds gs before hval hW hsh

theorem said : Rows.ContradictionErrorsSaid :=
  OpenClaim.holds_of_cond 10 Tryz.f10 rfl rfl rfl rfl rfl rfl rfl ⟨rfl, rfl, rfl, rfl, rfl⟩ rfl rfl rfl rfl rfl (by kernel_rfl) Tryz.func10 (by kernel_rfl)
    (of_decide_eq_true (by kernel_rfl)) (by unfold Func.isWrapper; first | (rw [if_pos (by decide +kernel)]; kernel_rfl) | (rw [if_neg (by decide +kernel)]; exact ⟨rfl, rfl⟩))
    (fun os started H enc _ F => by rw [OpenClaim.pre_eq_preRow]; exact lifted os started H enc F)

end lawContradictionErrors

/-- FOR ANY DESCRIPTIONS, ANY RELATION AND ANY NUMBER ContradictionErrors ANSWERS true, and leaves them as they were. -/
theorem contradictionErrors_said : Rows.ContradictionErrorsSaid := lawContradictionErrors.said
#print axioms contradictionErrors_said
end Go.Proofs.YtcghlfepfcagbaaGreat
