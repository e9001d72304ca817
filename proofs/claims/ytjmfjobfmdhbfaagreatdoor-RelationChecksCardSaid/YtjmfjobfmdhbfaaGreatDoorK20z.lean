/- Layer 20, the seat of RelationChecks: known, and the functions with a list. -/
import Derived.Test.YtjmfjobfmdhbfaaGreatDoorK20e
import Derived.Test.YtjmfjobfmdhbfaaGreatDoorJogL
import Derived.Test.YtjmfjobfmdhbfaaGreatDoorJogM
namespace Go.Proofs.YtjmfjobfmdhbfaaGreatDoor
open Go Go.Jog
set_option maxRecDepth 100000
def shale : Str := [115, 104, 97, 108, 101]
def sandstone : Str := [115, 97, 110, 100, 115, 116, 111, 110, 101]
def sA : Str := [97]
def sB : Str := [98]
def sC : Str := [99]
def known1 : Str := [115, 97, 110, 100, 115, 116, 111, 110, 101, 32, 111, 118, 101, 114, 108, 105, 101, 115, 32, 115, 104, 97, 108, 101]
def known2 : Str := [97, 32, 111, 118, 101, 114, 108, 105, 101, 115, 32, 97]
theorem known1_eq : parseM known1 = (⟨1, sandstone, shale⟩, 0) := by kernel_rfl
theorem known2_eq : parseM known2 = (Rel.zero, 14) := by kernel_rfl
theorem knownN : normalL [⟨4, sB, sA⟩, ⟨2, sC, sA⟩, ⟨4, sA, sB⟩] = [⟨2, sC, sA⟩, ⟨4, sA, sB⟩] := by kernel_rfl
theorem knownA : arcsL [⟨1, sandstone, shale⟩] = [⟨shale, sandstone⟩] := by kernel_rfl
theorem knownE1 : errAll [⟨1, sandstone, shale⟩] = 0 := by kernel_rfl
theorem knownE2 : errAll [⟨4, sB, sA⟩, ⟨2, sC, sA⟩, ⟨4, sA, sB⟩] = 0 := by kernel_rfl
theorem knownShort : ∀ x ∈ ([⟨4, sB, sA⟩, ⟨2, sC, sA⟩, ⟨4, sA, sB⟩] : List Rel), x.short := by
  intro x hx
  simp only [List.mem_cons, List.not_mem_nil, or_false] at hx
  rcases hx with rfl | rfl | rfl <;> exact ⟨by decide, by decide⟩
theorem known_spec (C : Mem) (hM : MaxLenAt C) : Gives cx.P 4 [] C (.bool true) := by
  have c1 := parse_spec C known1 (by decide) hM
  rw [known1_eq] at c1
  refine Fn.intro (by kernel_rfl) Tryz.func4 rfl 69 rfl rfl (fun w0 => ?_)
  refine G.region rfl (fun R hR => ?_)
  refine D.pure rfl rfl rfl rfl rfl rfl ?_
  refine D.done [] trivial (hR _ _ _ rfl ?_); clear hR R
  refine G.region rfl (fun R hR => ?_)
  refine D.gives2 c1 rfl rfl rfl rfl rfl rfl rfl (fun _ => rfl) ?_
  iterate 3 refine D.pure rfl rfl rfl rfl rfl rfl ?_
  refine D.alloc rfl rfl rfl rfl rfl (fun _ => rfl) (fun b1 => ?_)
  refine D.store (j := 0) rfl rfl rfl rfl rfl rfl rfl rfl rfl rfl rfl rfl ?_
  refine D.pure rfl rfl rfl rfl rfl rfl ?_
  refine D.done [(1, [], _), (2, [], _)] ⟨rfl, rfl, trivial⟩ (hR _ _ _ rfl ?_); clear hR R
  refine G.region rfl (fun R hR => ?_)
  refine D.loadL (.head _) rfl rfl rfl rfl rfl rfl rfl rfl rfl ?_
  refine D.buildSlice [Rel.enc ⟨1, sandstone, shale⟩] rfl rfl rfl rfl rfl rfl rfl rfl rfl rfl rfl rfl (fun _ => rfl) (fun p15 C15 hle15 hs15 => ?_)
  refine D.callP (arcs_fn _ _ [⟨1, sandstone, shale⟩] hs15 (by decide) (by intro x hx; simp only [List.mem_singleton] at hx; subst hx; exact ⟨by decide, by decide⟩)) rfl rfl rfl rfl rfl rfl rfl (fun _ => rfl) (fun v16 C16 hle16 hq16 => ?_)
  rcases hq16 with ⟨h, _⟩ | ⟨_, u16, rfl, hsu⟩
  · exact absurd knownE1 h
  rw [knownA] at hsu
  obtain ⟨A16, c16, hu16, _⟩ := id hsu
  subst hu16
  iterate 5 refine D.pure rfl rfl rfl rfl rfl rfl ?_
  refine D.done [(2, [], _), (3, [], _), (4, [], _)] ⟨rfl, rfl, rfl, trivial⟩ (hR _ _ _ rfl ?_); clear hR R
  refine G.region rfl (fun R hR => ?_)
  refine D.build (Rel.enc ⟨4, sB, sA⟩) rfl rfl rfl rfl rfl rfl rfl rfl ?_
  refine D.build (Rel.enc ⟨2, sC, sA⟩) rfl rfl rfl rfl rfl rfl rfl rfl ?_
  refine D.build (Rel.enc ⟨4, sA, sB⟩) rfl rfl rfl rfl rfl rfl rfl rfl ?_
  refine D.buildSlice [Rel.enc ⟨4, sB, sA⟩, Rel.enc ⟨2, sC, sA⟩, Rel.enc ⟨4, sA, sB⟩] rfl rfl rfl rfl rfl rfl rfl rfl rfl rfl rfl rfl (fun _ => rfl) (fun p23 C23 hle23 hs23 => ?_)
  refine D.callP (normal_fn _ _ [⟨4, sB, sA⟩, ⟨2, sC, sA⟩, ⟨4, sA, sB⟩] hs23 (by decide) knownShort) rfl rfl rfl rfl rfl rfl rfl (fun _ => rfl) (fun v24 C24 hle24 hq24 => ?_)
  rcases hq24 with ⟨h, _⟩ | ⟨_, u24, rfl, hsn⟩
  · exact absurd knownE2 h
  rw [knownN] at hsn
  obtain ⟨A24, c24, hu24, _⟩ := id hsn
  subst hu24
  iterate 5 refine D.pure rfl rfl rfl rfl rfl rfl ?_
  refine D.done [(2, [], _), (3, [], _), (4, [], _), (5, [], _), (6, [], _)] ⟨rfl, rfl, rfl, rfl, rfl, trivial⟩ (hR _ _ _ rfl ?_); clear hR R
  have hM4 := hM.mono (hle15.trans (hle16.trans (hle23.trans hle24)))
  have c2 := parse_spec C24 known2 (by decide) hM4
  rw [known2_eq] at c2
  have hsu4 := hsu.mono (hle23.trans hle24)
  refine G.region rfl (fun R hR => ?_)
  refine D.gives2 c2 rfl rfl rfl rfl rfl rfl rfl (fun _ => rfl) ?_
  iterate 3 refine D.pure rfl rfl rfl rfl rfl rfl ?_
  refine D.alloc rfl rfl rfl rfl rfl (fun _ => rfl) (fun b7 => ?_)
  refine D.store (j := 0) rfl rfl rfl rfl rfl rfl rfl rfl rfl rfl rfl rfl ?_
  refine D.pure rfl rfl rfl rfl rfl rfl ?_
  refine D.done [(2, [], _), (3, [], _), (4, [], _), (5, [], _), (6, [], _), (8, [], _)] ⟨rfl, rfl, rfl, rfl, rfl, rfl, trivial⟩ (hR _ _ _ rfl ?_); clear hR R
  refine G.region rfl (fun R hR => ?_)
  iterate 5 refine D.pure rfl rfl rfl rfl rfl rfl ?_
  refine D.pickAnd rfl rfl rfl rfl rfl rfl rfl rfl ?_
  iterate 4 refine D.pure rfl rfl rfl rfl rfl rfl ?_
  refine D.pickAnd rfl rfl rfl rfl rfl rfl rfl rfl ?_
  iterate 2 refine D.pure rfl rfl rfl rfl rfl rfl ?_
  refine D.index rfl rfl rfl rfl rfl rfl rfl rfl rfl rfl (fun hg => ⟨hsu4, by decide, (rfl : ([ArcE.enc ⟨shale, sandstone⟩] : List (List Value))[0]? = some (ArcE.enc ⟨shale, sandstone⟩))⟩) (fun _ => rfl) rfl (fun p44 hp44 => ?_)
  refine D.loadP rfl rfl rfl rfl rfl rfl hp44 rfl rfl rfl ?_
  refine D.build (ArcE.enc ⟨shale, sandstone⟩) rfl rfl rfl rfl rfl rfl rfl rfl ?_
  refine D.eqAgg true (by kernel_rfl) rfl rfl rfl rfl rfl rfl rfl rfl (fun _ => rfl) rfl rfl ?_
  refine D.pickAnd rfl rfl rfl rfl rfl rfl rfl rfl ?_
  iterate 3 refine D.pure rfl rfl rfl rfl rfl rfl ?_
  refine D.pickAnd rfl rfl rfl rfl rfl rfl rfl rfl ?_
  iterate 4 refine D.pure rfl rfl rfl rfl rfl rfl ?_
  refine D.pickAnd rfl rfl rfl rfl rfl rfl rfl rfl ?_
  iterate 2 refine D.pure rfl rfl rfl rfl rfl rfl ?_
  refine D.index rfl rfl rfl rfl rfl rfl rfl rfl rfl rfl (fun hg => ⟨hsn, by decide, (rfl : ([Rel.enc ⟨2, sC, sA⟩, Rel.enc ⟨4, sA, sB⟩] : List (List Value))[1]? = some (Rel.enc ⟨4, sA, sB⟩))⟩) (fun _ => rfl) rfl (fun p60 hp60 => ?_)
  refine D.loadP rfl rfl rfl rfl rfl rfl hp60 rfl rfl rfl ?_
  refine D.build (Rel.enc ⟨4, sA, sB⟩) rfl rfl rfl rfl rfl rfl rfl rfl ?_
  refine D.eqAgg true (by kernel_rfl) rfl rfl rfl rfl rfl rfl rfl rfl (fun _ => rfl) rfl rfl ?_
  refine D.pickAnd rfl rfl rfl rfl rfl rfl rfl rfl ?_
  iterate 3 refine D.pure rfl rfl rfl rfl rfl rfl ?_
  refine D.pickAnd rfl rfl rfl rfl rfl rfl rfl rfl ?_
  refine D.pure rfl rfl rfl rfl rfl rfl ?_
  refine D.done [(0, [], _)] ⟨rfl, trivial⟩ (hR _ _ _ rfl ?_); clear hR R
  refine G.retN (G.dropAll (G.fin1 rfl rfl ?_))
  exact ⟨rfl, rfl⟩

def natI (i : Nat) : List Value := [.int .i64 i]
def pairI (p : Nat × Nat) : List Value := [.int .i64 p.1, .int .i64 p.2]
def betw (l : List Rel) (a b : Str) (i : Nat) : Bool := match l[i]? with
  | some x => ((x.upper == a) && (x.lower == b)) || ((x.upper == b) && (x.lower == a))
  | none => false
def betweenL (l : List Rel) (a b : Str) : List Nat := idxs (betw l a b) l.length
def oppB (x y : Rel) : Bool := (((!(x.kind == 4)) && (!(y.kind == 4))) && (x.upper == y.lower)) && (x.lower == y.upper)
def opp (l : List Rel) (i k : Nat) : Bool := match l[i]?, l[k]? with
  | some x, some y => decide (i < k) && oppB x y
  | _, _ => false
def oppRow (l : List Rel) (i k : Nat) : List (Nat × Nat) := oneIf (opp l i k) (i, k)
def oppL (l : List Rel) : List (Nat × Nat) := cat (fun i => cat (oppRow l i) l.length) l.length
theorem oppRow_low {l : List Rel} {i n : Nat} (h : n ≤ i + 1) : cat (oppRow l i) n = [] := cat_nil (fun k hk => oneIf_false (by
  unfold opp; split
  · have : ¬ i < k := by omega
    simp [this]
  · rfl))
theorem opp_len (l : List Rel) (i n : Nat) : (cat (oppRow l i) n).length ≤ n := by
  have := cat_length_mul (f := oppRow l i) (m := 1) (fun k => oneIf_len _ _) n
  simpa using this

/-! ### checkNames -/
def findI {α : Type} (p : α → Bool) : List α → Nat → Int
  | [], _ => -1
  | x :: l, k => if p x = true then k else findI p l (k + 1)
theorem findI_at {α : Type} {p : α → Bool} : ∀ {l : List α} {x : α} {k j : Nat}, l[k]? = some x → (∀ y ∈ l.take k, p y = false) → p x = true → findI p l j = ((j + k : Nat) : Int)
  | [], x, k, j, h, _, _ => by simp at h
  | y :: l, x, 0, j, h, _, hp => by
    simp at h
    subst h
    simp [findI, hp]
  | y :: l, x, k + 1, j, h, ha, hp => by
    have := findI_at (l := l) (k := k) (j := j + 1) (by simpa using h) (fun z hz => ha z (by simp [hz])) hp
    simp only [findI, this]
    rw [if_neg (by rw [ha y (by simp)]; decide)]
    congr 1; omega
theorem findI_none {α : Type} {p : α → Bool} : ∀ {l : List α} {j : Nat}, (∀ y ∈ l, p y = false) → findI p l j = -1
  | [], _, _ => rfl
  | y :: l, j, h => by
    simp only [findI]
    rw [if_neg (by rw [h y (by simp)]; decide)]
    exact findI_none (fun z hz => h z (by simp [hz]))
theorem findI_any {α : Type} {p : α → Bool} : ∀ {l : List α} {j : Nat}, decide (0 ≤ findI p l j) = l.any p
  | [], _ => rfl
  | y :: l, j => by
    simp only [findI, List.any_cons]
    split
    · rename_i h
      rw [h]
      have : (0 : Int) ≤ (j : Int) := by omega
      simp
    · rename_i h
      rw [findI_any]
      simp only [Bool.not_eq_true] at h
      rw [h]; rfl
theorem indexFunc_str (C : Mem) (v : Value) (l : List Str) (g : FuncId) (cb : List Value) (p : Str → Bool) (hv : Sl C 1 v (l.map encS)) (hl : l.length ≤ 1000000) (hcb : ∀ s ∈ l, ∀ C', C.le C' → Gives cx.P g (strV s :: cb) C' (.bool (p s))) :
    Gives cx.P 75 [v, .func (.func g) #[] ⟨cb⟩] C (.int .i64 (findI p l 0)) := by
  have hv0 := hv
  obtain ⟨A, c, rfl, _⟩ := hv0
  refine Fn.intro (by kernel_rfl) Tryz.func75 rfl 19 rfl rfl (fun w0 => ?_)
  refine G.region rfl (fun R hR => ?_)
  refine D.pure rfl rfl rfl rfl rfl rfl ?_
  refine D.done [(0, [], _), (1, [], _)] ⟨rfl, rfl, trivial⟩ (hR _ _ _ rfl ?_); clear hR R
  refine G.region rfl (fun R hR => ?_)
  iterate 3 refine D.pure rfl rfl rfl rfl rfl rfl ?_
  refine D.done [(0, [], _), (1, [], _), (7, [], _), (8, [], _)] ⟨rfl, rfl, rfl, rfl, trivial⟩ (hR _ _ _ rfl ?_); clear hR R
  refine G.loop (fun fr C' L' μ => ∃ (k : Nat), (k ≤ l.length ∧ ∀ y ∈ l.take k, p y = false) ∧ fr = [(0, [], .slice A (l.map encS).length c), (1, [], .func (.func g) #[] ⟨cb⟩), (7, [], .int .i64 (l.map encS).length), (8, [], .int .i64 k)] ∧ L' = [] ∧ μ = l.length - k) (fr' := [(0, [], _), (1, [], _), (7, [], _), (8, [], _)]) ⟨rfl, rfl, rfl, rfl, trivial⟩ ⟨0, ⟨Nat.zero_le _, by simp⟩, rfl, rfl, rfl⟩ (fun fr C0' L0' m hle0 hI => ?_)
  obtain ⟨k, ⟨hk, hall⟩, rfl, rfl, rfl⟩ := hI
  refine G.region rfl (fun R hR => ?_)
  refine D.pure rfl rfl rfl rfl rfl rfl ?_
  refine D.done [(0, [], _), (1, [], _), (7, [], _), (8, [], _), (9, [], _)] ⟨rfl, rfl, rfl, rfl, rfl, trivial⟩ (hR _ _ _ rfl ?_); clear hR R
  refine G.cond rfl (fun h9 => ?_) (fun h9 => ?_)
  · skip
    simp only [List.length_map, decide_eq_true_eq] at h9
    have hkl : k < l.length := by omega
    have hv1 := hv.mono hle0
    refine G.region rfl (fun R hR => ?_)
    iterate 2 refine D.pure rfl rfl rfl rfl rfl rfl ?_
    refine D.done [(0, [], _), (1, [], _), (5, [], _), (7, [], _), (8, [], _)] ⟨rfl, rfl, rfl, rfl, rfl, trivial⟩ (hR _ _ _ rfl ?_); clear hR R
    refine G.region rfl (fun R hR => ?_)
    iterate 3 refine D.pure rfl rfl rfl rfl rfl rfl ?_
    refine D.index0 hv1 rfl rfl rfl rfl rfl rfl rfl rfl rfl rfl (by omega) (row := encS l[k]) (by simp [hkl]) (fun _ => rfl) (fun p14 hp14 => ?_)
    refine D.loadP0 hp14 rfl rfl rfl rfl rfl rfl rfl rfl ?_
    refine D.gives2 (hcb _ (List.getElem_mem hkl) _ hle0) rfl rfl rfl rfl rfl rfl rfl (fun _ => rfl) ?_
    refine D.done [(0, [], _), (1, [], _), (5, [], _), (7, [], _), (8, [], _), (16, [], _)] ⟨rfl, rfl, rfl, rfl, rfl, rfl, trivial⟩ (hR _ _ _ rfl ?_); clear hR R
    refine G.cond rfl (fun h16 => ?_) (fun h16 => ?_)
    · skip
      refine G.region rfl (fun R hR => ?_)
      iterate 2 refine D.pure rfl rfl rfl rfl rfl rfl ?_
      refine D.done [(4, [], _)] ⟨rfl, trivial⟩ (hR _ _ _ rfl ?_); clear hR R
      refine G.retN (G.dropAll (G.fin1 rfl rfl ?_))
      exact ⟨by rw [findI_at (k := k) (j := 0) (List.getElem?_eq_getElem hkl) hall h16, Nat.zero_add], rfl⟩
    · skip
      refine G.region rfl (fun R hR => ?_)
      refine D.i64 (((k + 1 : Nat) : Int)) rfl rfl rfl rfl (by omega) (by omega) (by omega) rfl rfl ?_
      refine D.pure rfl rfl rfl rfl rfl rfl ?_
      refine D.done [(0, [], _), (1, [], _), (7, [], _), (8, [], _)] ⟨rfl, rfl, rfl, rfl, trivial⟩ (hR _ _ _ rfl ?_); clear hR R
      refine G.again (m' := l.length - (k + 1)) (by omega) hle0 (fr' := [(0, [], _), (1, [], _), (7, [], _), (8, [], _)]) ⟨rfl, rfl, rfl, rfl, trivial⟩ ⟨k + 1, ⟨by omega, fun y hy => by
        rw [List.take_succ_eq_append_getElem hkl] at hy
        rcases List.mem_append.1 hy with h6 | h6
        · exact hall y h6
        · simp only [List.mem_singleton] at h6
          subst h6
          exact h16⟩, rfl, rfl, rfl⟩
  · skip
    simp only [List.length_map, decide_eq_false_iff_not] at h9
    refine G.region rfl (fun R hR => ?_)
    refine D.pure rfl rfl rfl rfl rfl rfl ?_
    refine D.done [(4, [], _)] ⟨rfl, trivial⟩ (hR _ _ _ rfl ?_); clear hR R
    refine G.retN (G.dropAll (G.fin1 rfl rfl ?_))
    rw [List.take_of_length_le (by omega)] at hall
    exact ⟨by rw [findI_none hall], rfl⟩
theorem containsFunc_str (C : Mem) (v : Value) (l : List Str) (g : FuncId) (cb : List Value) (p : Str → Bool) (hv : Sl C 1 v (l.map encS)) (hl : l.length ≤ 1000000) (hcb : ∀ s ∈ l, ∀ C', C.le C' → Gives cx.P g (strV s :: cb) C' (.bool (p s))) :
    Gives cx.P 43 [v, .func (.func g) #[] ⟨cb⟩] C (.bool (l.any p)) := by
  refine Fn.intro (by kernel_rfl) Tryz.func43 rfl 9 rfl rfl (fun w0 => ?_)
  refine G.region rfl (fun R hR => ?_)
  refine D.pure rfl rfl rfl rfl rfl rfl ?_
  refine D.done [(0, [], _), (1, [], _)] ⟨rfl, rfl, trivial⟩ (hR _ _ _ rfl ?_); clear hR R
  refine G.region rfl (fun R hR => ?_)
  iterate 2 refine D.pure rfl rfl rfl rfl rfl rfl ?_
  refine D.gives2 (indexFunc_str _ _ l g cb p hv hl hcb) rfl rfl rfl rfl rfl rfl rfl (fun _ => rfl) ?_
  iterate 2 refine D.pure rfl rfl rfl rfl rfl rfl ?_
  refine D.done [(4, [], _)] ⟨rfl, trivial⟩ (hR _ _ _ rfl ?_); clear hR R
  refine G.retN (G.dropAll (G.fin1 rfl rfl ?_))
  exact ⟨congrArg Value.bool findI_any, rfl⟩
theorem closName (C : Mem) (s : Str) (hl : s.length < 1000000) : Gives cx.P 44 [strV s] C (.bool (!(isNameB s))) := by
  refine Fn.intro (by kernel_rfl) Tryz.func44 rfl 6 rfl rfl (fun w0 => ?_)
  refine G.region rfl (fun R hR => ?_)
  refine D.pure rfl rfl rfl rfl rfl rfl ?_
  refine D.done [(0, [], _)] ⟨rfl, trivial⟩ (hR _ _ _ rfl ?_); clear hR R
  refine G.region rfl (fun R hR => ?_)
  refine D.pure rfl rfl rfl rfl rfl rfl ?_
  refine D.gives2 (isName_spec _ _ hl) rfl rfl rfl rfl rfl rfl rfl (fun _ => rfl) ?_
  iterate 2 refine D.pure rfl rfl rfl rfl rfl rfl ?_
  refine D.done [(2, [], _)] ⟨rfl, trivial⟩ (hR _ _ _ rfl ?_); clear hR R
  refine G.retN (G.dropAll (G.fin1 rfl rfl ?_))
  exact ⟨rfl, rfl⟩
def errNames (l : List Rel) (ns : List Str) : Int := if errAll l = 0 then (if ns.any (fun s => !(isNameB s)) = true then 8 else 0) else errAll l
theorem checkNames_spec (C : Mem) (v u : Value) (l : List Rel) (ns : List Str) (hv : Sl C 3 v (l.map Rel.enc)) (hok : ∀ x ∈ l, x.short) (hu : Sl C 1 u (ns.map encS)) (hn : ns.length ≤ 1000000) (hs : ∀ s ∈ ns, s.length < 1000000) :
    Gives cx.P 30 [v, u] C (.int .i64 (errNames l ns)) := by
  refine Fn.intro (by kernel_rfl) Tryz.func30 rfl 13 rfl rfl (fun w0 => ?_)
  refine G.region rfl (fun R hR => ?_)
  refine D.pure rfl rfl rfl rfl rfl rfl ?_
  refine D.done [(0, [], _), (1, [], _)] ⟨rfl, rfl, trivial⟩ (hR _ _ _ rfl ?_); clear hR R
  refine G.region rfl (fun R hR => ?_)
  refine D.pure rfl rfl rfl rfl rfl rfl ?_
  refine D.gives2 (checkAll_spec _ l _ hv hok) rfl rfl rfl rfl rfl rfl rfl (fun _ => rfl) ?_
  refine D.pure rfl rfl rfl rfl rfl rfl ?_
  refine D.done [(1, [], _), (5, [], _)] ⟨rfl, rfl, trivial⟩ (hR _ _ _ rfl ?_); clear hR R
  refine G.region rfl (fun R hR => ?_)
  iterate 2 refine D.pure rfl rfl rfl rfl rfl rfl ?_
  refine D.done [(1, [], _), (5, [], _), (9, [], _)] ⟨rfl, rfl, rfl, trivial⟩ (hR _ _ _ rfl ?_); clear hR R
  refine G.cond rfl (fun h9 => ?_) (fun h9 => ?_)
  · skip
    have h9' : errAll l ≠ 0 := by simpa using h9
    refine G.region rfl (fun R hR => ?_)
    iterate 2 refine D.pure rfl rfl rfl rfl rfl rfl ?_
    refine D.done [(4, [], _)] ⟨rfl, trivial⟩ (hR _ _ _ rfl ?_); clear hR R
    refine G.retN (G.dropAll (G.fin1 rfl rfl ?_))
    exact ⟨by rw [errNames, if_neg h9'], rfl⟩
  · skip
    have h9' : errAll l = 0 := by simpa using h9
    refine G.region rfl (fun R hR => ?_)
    refine D.pure rfl rfl rfl rfl rfl rfl ?_
    refine D.gives2 (containsFunc_str _ _ ns _ [] (fun s => !(isNameB s)) hu hn (fun s hm C' _ => closName C' s (hs s hm))) rfl rfl rfl rfl rfl rfl rfl (fun _ => rfl) ?_
    refine D.done [(12, [], _)] ⟨rfl, trivial⟩ (hR _ _ _ rfl ?_); clear hR R
    refine G.cond rfl (fun h12 => ?_) (fun h12 => ?_)
    · skip
      refine G.region rfl (fun R hR => ?_)
      refine D.pure rfl rfl rfl rfl rfl rfl ?_
      refine D.done [(4, [], _)] ⟨rfl, trivial⟩ (hR _ _ _ rfl ?_); clear hR R
      refine G.retN (G.dropAll (G.fin1 rfl rfl ?_))
      exact ⟨by rw [errNames, if_pos h9', if_pos h12], rfl⟩
    · skip
      refine G.region rfl (fun R hR => ?_)
      refine D.pure rfl rfl rfl rfl rfl rfl ?_
      refine D.done [(4, [], _)] ⟨rfl, trivial⟩ (hR _ _ _ rfl ?_); clear hR R
      refine G.retN (G.dropAll (G.fin1 rfl rfl ?_))
      exact ⟨by rw [errNames, if_pos h9', if_neg (by rw [h12]; decide)], rfl⟩

theorem short1 {a : Str} (ha : a.length < 1000000) : ∀ s ∈ [a], s.length < 1000000 := by
  intro s hs
  simp only [List.mem_singleton] at hs
  subst hs; exact ha
theorem short2 {a b : Str} (ha : a.length < 1000000) (hb : b.length < 1000000) : ∀ s ∈ [a, b], s.length < 1000000 := by
  intro s hs
  simp only [List.mem_cons, List.not_mem_nil, or_false] at hs
  rcases hs with rfl | rfl <;> assumption

/-! ### Between -/
theorem between_fn (C : Mem) (v : Value) (l : List Rel) (a b : Str) (hv : Sl C 3 v (l.map Rel.enc)) (hl : l.length ≤ 1000000) (hok : ∀ x ∈ l, x.short) (ha : a.length < 1000000) (hb : b.length < 1000000) : Pur cx.P 12 [v, strV a, strV b] C fun r C' =>
    (errNames l [a, b] ≠ 0 ∧ r = errRes (errNames l [a, b])) ∨ (errNames l [a, b] = 0 ∧ ∃ u, r = .tuple #[u, .int .i64 0] ∧ Sl C' 1 u ((betweenL l a b).map natI)) := by
  have hv0 := hv
  obtain ⟨A, c, rfl, _⟩ := hv0
  refine Fn.intro (by kernel_rfl) Tryz.func12 rfl 55 rfl rfl (fun w0 => ?_)
  refine G.region rfl (fun R hR => ?_)
  iterate 2 refine D.pure rfl rfl rfl rfl rfl rfl ?_
  refine D.done [(0, [], _), (1, [], _), (2, [], _)] ⟨rfl, rfl, rfl, trivial⟩ (hR _ _ _ rfl ?_); clear hR R
  refine G.region rfl (fun R hR => ?_)
  iterate 3 refine D.pure rfl rfl rfl rfl rfl rfl ?_
  refine D.buildSlice [encS a, encS b] rfl rfl rfl rfl rfl rfl rfl rfl rfl rfl rfl rfl (fun _ => rfl) (fun p15 C15 hle15 hs15 => ?_)
  refine D.gives2 (checkNames_spec _ _ _ l [a, b] (hv.mono hle15) hok hs15 (by simp) (short2 ha hb)) rfl rfl rfl rfl rfl rfl rfl (fun _ => rfl) ?_
  refine D.pure rfl rfl rfl rfl rfl rfl ?_
  refine D.done [(0, [], _), (1, [], _), (2, [], _), (8, [], _)] ⟨rfl, rfl, rfl, rfl, trivial⟩ (hR _ _ _ rfl ?_); clear hR R
  refine G.region rfl (fun R hR => ?_)
  iterate 2 refine D.pure rfl rfl rfl rfl rfl rfl ?_
  refine D.done [(0, [], _), (1, [], _), (2, [], _), (8, [], _), (18, [], _)] ⟨rfl, rfl, rfl, rfl, rfl, trivial⟩ (hR _ _ _ rfl ?_); clear hR R
  refine G.cond rfl (fun h18 => ?_) (fun h18 => ?_)
  · skip
    have h18' : errNames l [a, b] ≠ 0 := by simpa using h18
    refine G.region rfl (fun R hR => ?_)
    iterate 3 refine D.pure rfl rfl rfl rfl rfl rfl ?_
    refine D.done [(6, [], _), (7, [], _)] ⟨rfl, rfl, trivial⟩ (hR _ _ _ rfl ?_); clear hR R
    refine G.retN (G.dropAll (G.fin2 rfl rfl rfl ?_))
    exact ⟨rfl, .inl ⟨h18', rfl⟩⟩
  · skip
    have h18' : errNames l [a, b] = 0 := by simpa using h18
    refine G.region rfl (fun R hR => ?_)
    refine D.pure rfl rfl rfl rfl rfl rfl ?_
    refine D.done [(0, [], _), (1, [], _), (2, [], _), (9, [], _)] ⟨rfl, rfl, rfl, rfl, trivial⟩ (hR _ _ _ rfl ?_); clear hR R
    refine G.region rfl (fun R hR => ?_)
    iterate 3 refine D.pure rfl rfl rfl rfl rfl rfl ?_
    refine D.done [(1, [], _), (2, [], _), (9, [], _), (20, [], _), (21, [], _), (22, [], _)] ⟨rfl, rfl, rfl, rfl, rfl, rfl, trivial⟩ (hR _ _ _ rfl ?_); clear hR R
    refine G.nilArr 3 1 ?_
    refine G.loop (fun fr C' L' μ => ∃ (k : Nat) (w9 : Value), (k ≤ l.length) ∧ fr = [(1, [], strV a), (2, [], strV b), (9, [], w9), (20, [], .slice A (l.map Rel.enc).length c), (21, [], .int .i64 (l.map Rel.enc).length), (22, [], .int .i64 k)] ∧ L' = [.arr w9 3 1 (idxs (betw l a b) k).length ((idxs (betw l a b) k).map natI).flatten] ∧ μ = l.length - k) (fr' := [(1, [], _), (2, [], _), (9, [], _), (20, [], _), (21, [], _), (22, [], _)]) ⟨rfl, rfl, rfl, rfl, rfl, rfl, trivial⟩ ⟨0, .slice none 0 0, Nat.zero_le _, rfl, rfl, rfl⟩ (fun fr C0' L0' m hle0 hI => ?_)
    obtain ⟨k, w9, hk, rfl, rfl, rfl⟩ := hI
    refine G.region rfl (fun R hR => ?_)
    refine D.pure rfl rfl rfl rfl rfl rfl ?_
    refine D.done [(1, [], _), (2, [], _), (9, [], _), (20, [], _), (21, [], _), (22, [], _), (23, [], _)] ⟨rfl, rfl, rfl, rfl, rfl, rfl, rfl, trivial⟩ (hR _ _ _ rfl ?_); clear hR R
    refine G.cond rfl (fun h23 => ?_) (fun h23 => ?_)
    · skip
      simp only [List.length_map, decide_eq_true_eq] at h23
      have hkl : k < l.length := by omega
      obtain ⟨x, hx⟩ : ∃ x, l[k]? = some x := ⟨l[k], List.getElem?_eq_getElem hkl⟩
      have hv1 := (hv.mono hle15).mono hle0
      have hal := idxs_len (betw l a b) k
      have hbt : betw l a b k = (((x.upper == a) && (x.lower == b)) || ((x.upper == b) && (x.lower == a))) := by rw [betw, hx]
      refine G.region rfl (fun R hR => ?_)
      refine D.pure rfl rfl rfl rfl rfl rfl ?_
      refine D.index0 hv1 rfl rfl rfl rfl rfl rfl rfl rfl rfl rfl (by omega) (row := x.enc) (by simp [hx]) (fun _ => rfl) (fun p25 hp25 => ?_)
      refine D.loadP0 hp25 rfl rfl rfl rfl rfl rfl rfl rfl ?_
      refine D.alloc rfl rfl rfl rfl rfl (fun _ => rfl) (fun b11 => ?_)
      refine D.pure rfl rfl rfl rfl rfl rfl ?_
      refine D.store (j := 0) rfl rfl rfl rfl rfl rfl rfl rfl rfl rfl rfl rfl ?_
      refine D.done [(1, [], _), (2, [], _), (9, [], _), (10, [], _), (11, [], _), (20, [], _), (21, [], _), (22, [], _)] ⟨rfl, rfl, rfl, rfl, rfl, rfl, rfl, rfl, trivial⟩ (hR _ _ _ rfl ?_); clear hR R
      refine G.region rfl (fun R hR => ?_)
      refine D.pure rfl rfl rfl rfl rfl rfl ?_
      refine D.loadL (.head _) rfl rfl rfl rfl rfl rfl rfl rfl rfl ?_
      iterate 4 refine D.pure rfl rfl rfl rfl rfl rfl ?_
      refine D.loadL (.head _) rfl rfl rfl rfl rfl rfl rfl rfl rfl ?_
      iterate 2 refine D.pure rfl rfl rfl rfl rfl rfl ?_
      refine D.pickAnd rfl rfl rfl rfl rfl rfl rfl rfl ?_
      iterate 2 refine D.pure rfl rfl rfl rfl rfl rfl ?_
      refine D.loadL (.head _) rfl rfl rfl rfl rfl rfl rfl rfl rfl ?_
      iterate 4 refine D.pure rfl rfl rfl rfl rfl rfl ?_
      refine D.loadL (.head _) rfl rfl rfl rfl rfl rfl rfl rfl rfl ?_
      iterate 2 refine D.pure rfl rfl rfl rfl rfl rfl ?_
      refine D.pickAnd rfl rfl rfl rfl rfl rfl rfl rfl ?_
      refine D.pickOr rfl rfl rfl rfl rfl rfl rfl rfl ?_
      refine D.done [(1, [], _), (2, [], _), (9, [], _), (10, [], _), (20, [], _), (21, [], _), (22, [], _), (48, [], (.bool (((x.upper == a) && (x.lower == b)) || ((x.upper == b) && (x.lower == a)))))] ⟨rfl, rfl, rfl, rfl, rfl, rfl, rfl, rfl, trivial⟩ (hR _ _ _ rfl ?_); clear hR R
      refine G.cond rfl (fun h48 => ?_) (fun h48 => ?_)
      · skip
        rw [← hbt] at h48
        refine G.region rfl (fun R hR => ?_)
        iterate 2 refine D.pure rfl rfl rfl rfl rfl rfl ?_
        refine D.buildSlice [natI k] rfl rfl rfl rfl rfl rfl rfl rfl rfl rfl rfl rfl (fun _ => rfl) (fun p51 C51 hle51 hs51 => ?_)
        refine D.append (j := 1) rfl rfl rfl rfl rfl rfl rfl rfl rfl rfl rfl hs51 rfl (by simp only [List.length_singleton, maxLen]; omega) (by simp only [List.length_singleton]; omega) (fun _ => rfl) (fun v52 => ?_)
        refine D.pure rfl rfl rfl rfl rfl rfl ?_
        refine D.done [(1, [], _), (2, [], _), (9, [], _), (20, [], _), (21, [], _), (22, [], _)] ⟨rfl, rfl, rfl, rfl, rfl, rfl, trivial⟩ (hR _ _ _ rfl ?_); clear hR R
        refine G.region rfl (fun R hR => ?_)
        refine D.i64 (((k + 1 : Nat) : Int)) rfl rfl rfl rfl (by omega) (by omega) (by omega) rfl rfl ?_
        refine D.pure rfl rfl rfl rfl rfl rfl ?_
        refine D.done [(1, [], _), (2, [], _), (9, [], _), (20, [], _), (21, [], _), (22, [], _)] ⟨rfl, rfl, rfl, rfl, rfl, rfl, trivial⟩ (hR _ _ _ rfl ?_); clear hR R
        refine G.dropE 1 rfl ?_
        refine G.eqL (L' := [.arr v52 3 1 (idxs (betw l a b) (k + 1)).length ((idxs (betw l a b) (k + 1)).map natI).flatten]) (arr_snoc (enc := natI) (idxs_true h48) rfl) ?_
        refine G.again (m' := l.length - (k + 1)) (by omega) (hle0.trans hle51) (fr' := [(1, [], _), (2, [], _), (9, [], _), (20, [], _), (21, [], _), (22, [], _)]) ⟨rfl, rfl, rfl, rfl, rfl, rfl, trivial⟩ ⟨k + 1, v52, by omega, rfl, rfl, rfl⟩
      · skip
        rw [← hbt] at h48
        refine G.region rfl (fun R hR => ?_)
        refine D.i64 (((k + 1 : Nat) : Int)) rfl rfl rfl rfl (by omega) (by omega) (by omega) rfl rfl ?_
        refine D.pure rfl rfl rfl rfl rfl rfl ?_
        refine D.done [(1, [], _), (2, [], _), (9, [], _), (20, [], _), (21, [], _), (22, [], _)] ⟨rfl, rfl, rfl, rfl, rfl, rfl, trivial⟩ (hR _ _ _ rfl ?_); clear hR R
        refine G.dropE 0 rfl ?_
        refine G.eqL (L' := [.arr w9 3 1 (idxs (betw l a b) (k + 1)).length ((idxs (betw l a b) (k + 1)).map natI).flatten]) (by rw [idxs_false h48]; rfl) ?_
        refine G.again (m' := l.length - (k + 1)) (by omega) hle0 (fr' := [(1, [], _), (2, [], _), (9, [], _), (20, [], _), (21, [], _), (22, [], _)]) ⟨rfl, rfl, rfl, rfl, rfl, rfl, trivial⟩ ⟨k + 1, w9, by omega, rfl, rfl, rfl⟩
    · skip
      simp only [List.length_map, decide_eq_false_iff_not] at h23
      have hkl : k = l.length := by omega
      subst hkl
      refine G.region rfl (fun R hR => ?_)
      iterate 3 refine D.pure rfl rfl rfl rfl rfl rfl ?_
      refine D.done [(6, [], _), (7, [], _)] ⟨rfl, rfl, trivial⟩ (hR _ _ _ rfl ?_); clear hR R
      refine G.freezeArr 0 ((betweenL l a b).map natI) rfl rfl (by intro r hr; obtain ⟨y, _, rfl⟩ := List.mem_map.1 hr; rfl) (by simp [betweenL]) (fun Cf hlef hsf => G.retN (G.fin2 rfl rfl rfl ?_))
      exact ⟨rfl, .inr ⟨h18', _, rfl, hsf⟩⟩

/-! ### Opposed -/
theorem opposed_fn (C : Mem) (v : Value) (l : List Rel) (hv : Sl C 3 v (l.map Rel.enc)) (hl : l.length ≤ 1000) (hok : ∀ x ∈ l, x.short) : Pur cx.P 13 [v] C fun r C' =>
    (errAll l ≠ 0 ∧ r = errRes (errAll l)) ∨ (errAll l = 0 ∧ ∃ u, r = .tuple #[u, .int .i64 0] ∧ Sl C' 2 u ((oppL l).map pairI)) := by
  have hv0 := hv
  obtain ⟨A, c, rfl, _⟩ := hv0
  have hbig : ∀ i, (cat (fun i => cat (oppRow l i) l.length) i).length ≤ i * l.length := fun i => cat_length_mul (fun i => opp_len l i _) i
  refine Fn.intro (by kernel_rfl) Tryz.func13 rfl 64 rfl rfl (fun w0 => ?_)
  refine G.region rfl (fun R hR => ?_)
  iterate 2 refine D.pure rfl rfl rfl rfl rfl rfl ?_
  refine D.done [(0, [], _)] ⟨rfl, trivial⟩ (hR _ _ _ rfl ?_); clear hR R
  refine G.region rfl (fun R hR => ?_)
  refine D.pure rfl rfl rfl rfl rfl rfl ?_
  refine D.gives2 (checkAll_spec _ l _ hv hok) rfl rfl rfl rfl rfl rfl rfl (fun _ => rfl) ?_
  refine D.pure rfl rfl rfl rfl rfl rfl ?_
  refine D.done [(0, [], _), (4, [], _)] ⟨rfl, rfl, trivial⟩ (hR _ _ _ rfl ?_); clear hR R
  refine G.region rfl (fun R hR => ?_)
  iterate 2 refine D.pure rfl rfl rfl rfl rfl rfl ?_
  refine D.done [(0, [], _), (4, [], _), (13, [], _)] ⟨rfl, rfl, rfl, trivial⟩ (hR _ _ _ rfl ?_); clear hR R
  refine G.cond rfl (fun h13 => ?_) (fun h13 => ?_)
  · skip
    have h13' : errAll l ≠ 0 := by simpa using h13
    refine G.region rfl (fun R hR => ?_)
    iterate 3 refine D.pure rfl rfl rfl rfl rfl rfl ?_
    refine D.done [(2, [], _), (3, [], _)] ⟨rfl, rfl, trivial⟩ (hR _ _ _ rfl ?_); clear hR R
    refine G.retN (G.dropAll (G.fin2 rfl rfl rfl ?_))
    exact ⟨rfl, .inl ⟨h13', rfl⟩⟩
  · skip
    have h13' : errAll l = 0 := by simpa using h13
    refine G.region rfl (fun R hR => ?_)
    refine D.pure rfl rfl rfl rfl rfl rfl ?_
    refine D.done [(0, [], _), (5, [], _)] ⟨rfl, rfl, trivial⟩ (hR _ _ _ rfl ?_); clear hR R
    refine G.region rfl (fun R hR => ?_)
    iterate 3 refine D.pure rfl rfl rfl rfl rfl rfl ?_
    refine D.done [(0, [], _), (5, [], _), (15, [], _), (16, [], _), (17, [], _)] ⟨rfl, rfl, rfl, rfl, rfl, trivial⟩ (hR _ _ _ rfl ?_); clear hR R
    refine G.nilArr 62 2 ?_
    refine G.loop (fun fr C' L' μ => ∃ (i : Nat) (w5 : Value), (i ≤ l.length) ∧ fr = [(0, [], .slice A (l.map Rel.enc).length c), (5, [], w5), (15, [], .slice A (l.map Rel.enc).length c), (16, [], .int .i64 (l.map Rel.enc).length), (17, [], .int .i64 i)] ∧ L' = [.arr w5 62 2 (cat (fun i => cat (oppRow l i) l.length) i).length ((cat (fun i => cat (oppRow l i) l.length) i).map pairI).flatten] ∧ μ = l.length - i) (fr' := [(0, [], _), (5, [], _), (15, [], _), (16, [], _), (17, [], _)]) ⟨rfl, rfl, rfl, rfl, rfl, trivial⟩ ⟨0, .slice none 0 0, Nat.zero_le _, rfl, rfl, rfl⟩ (fun fr C0' L0' m hle0 hI => ?_)
    obtain ⟨i, w5, hi, rfl, rfl, rfl⟩ := hI
    refine G.region rfl (fun R hR => ?_)
    refine D.pure rfl rfl rfl rfl rfl rfl ?_
    refine D.done [(0, [], _), (5, [], _), (15, [], _), (16, [], _), (17, [], _), (18, [], _)] ⟨rfl, rfl, rfl, rfl, rfl, rfl, trivial⟩ (hR _ _ _ rfl ?_); clear hR R
    refine G.cond rfl (fun h18 => ?_) (fun h18 => ?_)
    · skip
      simp only [List.length_map, decide_eq_true_eq] at h18
      have hil : i < l.length := by omega
      obtain ⟨x, hx⟩ : ∃ x, l[i]? = some x := ⟨l[i], List.getElem?_eq_getElem hil⟩
      have hv1 := hv.mono hle0
      refine G.region rfl (fun R hR => ?_)
      refine D.pure rfl rfl rfl rfl rfl rfl ?_
      refine D.index0 hv1 rfl rfl rfl rfl rfl rfl rfl rfl rfl rfl (by omega) (row := x.enc) (by simp [hx]) (fun _ => rfl) (fun p20 hp20 => ?_)
      refine D.loadP0 hp20 rfl rfl rfl rfl rfl rfl rfl rfl ?_
      refine D.alloc rfl rfl rfl rfl rfl (fun _ => rfl) (fun b7 => ?_)
      refine D.pure rfl rfl rfl rfl rfl rfl ?_
      refine D.store (j := 0) rfl rfl rfl rfl rfl rfl rfl rfl rfl rfl rfl rfl ?_
      refine D.done [(0, [], _), (5, [], _), (6, [], _), (7, [], _), (15, [], _), (16, [], _), (17, [], _)] ⟨rfl, rfl, rfl, rfl, rfl, rfl, rfl, trivial⟩ (hR _ _ _ rfl ?_); clear hR R
      refine G.region rfl (fun R hR => ?_)
      refine D.pure rfl rfl rfl rfl rfl rfl ?_
      refine D.i64 _ rfl rfl rfl rfl rfl (by omega) (by omega) rfl rfl ?_
      refine D.pure rfl rfl rfl rfl rfl rfl ?_
      refine D.done [(0, [], _), (5, [], _), (6, [], _), (7, [], _), (8, [], _), (15, [], _), (16, [], _), (17, [], _)] ⟨rfl, rfl, rfl, rfl, rfl, rfl, rfl, rfl, trivial⟩ (hR _ _ _ rfl ?_); clear hR R
      refine G.perm (L' := [.arr w5 62 2 (cat (fun i => cat (oppRow l i) l.length) i ++ cat (oppRow l i) (i + 1)).length ((cat (fun i => cat (oppRow l i) l.length) i ++ cat (oppRow l i) (i + 1)).map pairI).flatten, .obj b7 (.cells ⟨x.enc⟩ 25 (0, 0))]) (by rw [oppRow_low (Nat.le_refl _), List.append_nil]; exact List.Perm.swap _ _ _) ?_
      refine G.loop (fun fr C' L' μ => ∃ (k : Nat) (w5 : Value), (i + 1 ≤ k ∧ k ≤ l.length) ∧ fr = [(0, [], .slice A (l.map Rel.enc).length c), (5, [], w5), (6, [], .int .i64 i), (7, [], .pointer (some ⟨b7, 0, none⟩)), (8, [], .int .i64 k), (15, [], .slice A (l.map Rel.enc).length c), (16, [], .int .i64 (l.map Rel.enc).length), (17, [], .int .i64 i)] ∧ L' = [.arr w5 62 2 (cat (fun i => cat (oppRow l i) l.length) i ++ cat (oppRow l i) k).length ((cat (fun i => cat (oppRow l i) l.length) i ++ cat (oppRow l i) k).map pairI).flatten, .obj b7 (.cells ⟨x.enc⟩ 25 (0, 0))] ∧ μ = l.length - k) (fr' := [(0, [], _), (5, [], _), (6, [], _), (7, [], _), (8, [], _), (15, [], _), (16, [], _), (17, [], _)]) ⟨rfl, rfl, rfl, rfl, rfl, rfl, rfl, rfl, trivial⟩ ⟨i + 1, w5, ⟨Nat.le_refl _, hil⟩, rfl, rfl, rfl⟩ (fun fr C1' L1' m hle1 hI => ?_)
      obtain ⟨k, w5, ⟨hki, hkl⟩, rfl, rfl, rfl⟩ := hI
      refine G.region rfl (fun R hR => ?_)
      iterate 4 refine D.pure rfl rfl rfl rfl rfl rfl ?_
      refine D.done [(0, [], _), (5, [], _), (6, [], _), (7, [], _), (8, [], _), (15, [], _), (16, [], _), (17, [], _), (27, [], _)] ⟨rfl, rfl, rfl, rfl, rfl, rfl, rfl, rfl, rfl, trivial⟩ (hR _ _ _ rfl ?_); clear hR R
      refine G.cond rfl (fun h27 => ?_) (fun h27 => ?_)
      · skip
        simp only [List.length_map, decide_eq_true_eq] at h27
        have hkl' : k < l.length := by omega
        obtain ⟨y, hy⟩ : ∃ y, l[k]? = some y := ⟨l[k], List.getElem?_eq_getElem hkl'⟩
        have hv2 := hv1.mono hle1
        have hop : opp l i k = oppB x y := by
          have : i < k := by omega
          unfold opp; rw [hx, hy]; simp [this]
        have hal : (cat (fun i => cat (oppRow l i) l.length) i ++ cat (oppRow l i) k).length ≤ 2000000 := by
          have h1 := hbig i
          have h2 := opp_len l i k
          have h3 : i * l.length ≤ 1000 * 1000 := Nat.mul_le_mul (by omega) (by omega)
          rw [List.length_append]; omega
        refine G.region rfl (fun R hR => ?_)
        iterate 2 refine D.pure rfl rfl rfl rfl rfl rfl ?_
        refine D.index0 hv2 rfl rfl rfl rfl rfl rfl rfl rfl rfl rfl (by omega) (row := y.enc) (by simp [hy]) (fun _ => rfl) (fun p32 hp32 => ?_)
        refine D.loadP0 hp32 rfl rfl rfl rfl rfl rfl rfl rfl ?_
        refine D.alloc rfl rfl rfl rfl rfl (fun _ => rfl) (fun b9 => ?_)
        refine D.store (j := 0) rfl rfl rfl rfl rfl rfl rfl rfl rfl rfl rfl rfl ?_
        refine D.done [(0, [], _), (5, [], _), (6, [], _), (7, [], _), (8, [], _), (9, [], _), (15, [], _), (16, [], _), (17, [], _)] ⟨rfl, rfl, rfl, rfl, rfl, rfl, rfl, rfl, rfl, trivial⟩ (hR _ _ _ rfl ?_); clear hR R
        refine G.region rfl (fun R hR => ?_)
        refine D.pure rfl rfl rfl rfl rfl rfl ?_
        refine D.loadL (.tail _ (.tail _ (.head _))) rfl rfl rfl rfl rfl rfl rfl rfl rfl ?_
        iterate 3 refine D.pure rfl rfl rfl rfl rfl rfl ?_
        refine D.loadL (.head _) rfl rfl rfl rfl rfl rfl rfl rfl rfl ?_
        refine D.pure rfl rfl rfl rfl rfl rfl ?_
        refine D.pickAnd rfl rfl rfl rfl rfl rfl rfl rfl ?_
        iterate 2 refine D.pure rfl rfl rfl rfl rfl rfl ?_
        refine D.loadL (.tail _ (.tail _ (.head _))) rfl rfl rfl rfl rfl rfl rfl rfl rfl ?_
        refine D.pure rfl rfl rfl rfl rfl rfl ?_
        refine D.loadL (.head _) rfl rfl rfl rfl rfl rfl rfl rfl rfl ?_
        refine D.pure rfl rfl rfl rfl rfl rfl ?_
        refine D.pickAnd rfl rfl rfl rfl rfl rfl rfl rfl ?_
        iterate 2 refine D.pure rfl rfl rfl rfl rfl rfl ?_
        refine D.loadL (.tail _ (.tail _ (.head _))) rfl rfl rfl rfl rfl rfl rfl rfl rfl ?_
        refine D.pure rfl rfl rfl rfl rfl rfl ?_
        refine D.loadL (.head _) rfl rfl rfl rfl rfl rfl rfl rfl rfl ?_
        refine D.pure rfl rfl rfl rfl rfl rfl ?_
        refine D.pickAnd rfl rfl rfl rfl rfl rfl rfl rfl ?_
        refine D.done [(0, [], _), (5, [], _), (6, [], _), (7, [], _), (8, [], _), (15, [], _), (16, [], _), (17, [], _), (55, [], (.bool (oppB x y)))] ⟨rfl, rfl, rfl, rfl, rfl, rfl, rfl, rfl, rfl, trivial⟩ (hR _ _ _ rfl ?_); clear hR R
        refine G.cond rfl (fun h55 => ?_) (fun h55 => ?_)
        · skip
          rw [← hop] at h55
          refine G.region rfl (fun R hR => ?_)
          iterate 3 refine D.pure rfl rfl rfl rfl rfl rfl ?_
          refine D.build [.int .i64 i, .int .i64 k] rfl rfl rfl rfl rfl rfl rfl rfl ?_
          refine D.buildSlice [[.int .i64 i, .int .i64 k]] rfl rfl rfl rfl rfl rfl rfl rfl rfl rfl rfl rfl (fun _ => rfl) (fun p60 C60 hle60 hs60 => ?_)
          refine D.append (j := 1) rfl rfl rfl rfl rfl rfl rfl rfl rfl rfl rfl hs60 rfl (by simp only [List.length_singleton, maxLen]; omega) (by simp only [List.length_singleton]; omega) (fun _ => rfl) (fun v61 => ?_)
          refine D.pure rfl rfl rfl rfl rfl rfl ?_
          refine D.done [(0, [], _), (5, [], _), (6, [], _), (7, [], _), (8, [], _), (15, [], _), (16, [], _), (17, [], _)] ⟨rfl, rfl, rfl, rfl, rfl, rfl, rfl, rfl, trivial⟩ (hR _ _ _ rfl ?_); clear hR R
          refine G.region rfl (fun R hR => ?_)
          refine D.pure rfl rfl rfl rfl rfl rfl ?_
          refine D.i64 _ rfl rfl rfl rfl rfl (by omega) (by omega) rfl rfl ?_
          refine D.pure rfl rfl rfl rfl rfl rfl ?_
          refine D.done [(0, [], _), (5, [], _), (6, [], _), (7, [], _), (8, [], _), (15, [], _), (16, [], _), (17, [], _)] ⟨rfl, rfl, rfl, rfl, rfl, rfl, rfl, rfl, trivial⟩ (hR _ _ _ rfl ?_); clear hR R
          refine G.dropE 1 rfl ?_
          refine G.eqL (L' := [.arr v61 62 2 (cat (fun i => cat (oppRow l i) l.length) i ++ cat (oppRow l i) (k + 1)).length ((cat (fun i => cat (oppRow l i) l.length) i ++ cat (oppRow l i) (k + 1)).map pairI).flatten, .obj b7 (.cells ⟨x.enc⟩ 25 (0, 0))]) (by
            exact arr_snoc (enc := pairI) (P := cat (fun i => cat (oppRow l i) l.length) i ++ cat (oppRow l i) k) (Q := cat (fun i => cat (oppRow l i) l.length) i ++ cat (oppRow l i) (k + 1)) (x := (i, k)) (by rw [cat_succ, oppRow, oneIf_true h55, ← List.append_assoc]) rfl) ?_
          refine G.again (m' := l.length - (k + 1)) (by omega) (hle1.trans hle60) (fr' := [(0, [], _), (5, [], _), (6, [], _), (7, [], _), (8, [], _), (15, [], _), (16, [], _), (17, [], _)]) ⟨rfl, rfl, rfl, rfl, rfl, rfl, rfl, rfl, trivial⟩ ⟨k + 1, v61, ⟨by omega, by omega⟩, rfl, rfl, rfl⟩
        · skip
          rw [← hop] at h55
          refine G.region rfl (fun R hR => ?_)
          refine D.pure rfl rfl rfl rfl rfl rfl ?_
          refine D.i64 _ rfl rfl rfl rfl rfl (by omega) (by omega) rfl rfl ?_
          refine D.pure rfl rfl rfl rfl rfl rfl ?_
          refine D.done [(0, [], _), (5, [], _), (6, [], _), (7, [], _), (8, [], _), (15, [], _), (16, [], _), (17, [], _)] ⟨rfl, rfl, rfl, rfl, rfl, rfl, rfl, rfl, trivial⟩ (hR _ _ _ rfl ?_); clear hR R
          refine G.dropE 0 rfl ?_
          refine G.eqL (L' := [.arr w5 62 2 (cat (fun i => cat (oppRow l i) l.length) i ++ cat (oppRow l i) (k + 1)).length ((cat (fun i => cat (oppRow l i) l.length) i ++ cat (oppRow l i) (k + 1)).map pairI).flatten, .obj b7 (.cells ⟨x.enc⟩ 25 (0, 0))]) (by
            rw [cat_succ, oppRow, oneIf_false h55, List.append_nil]; rfl) ?_
          refine G.again (m' := l.length - (k + 1)) (by omega) hle1 (fr' := [(0, [], _), (5, [], _), (6, [], _), (7, [], _), (8, [], _), (15, [], _), (16, [], _), (17, [], _)]) ⟨rfl, rfl, rfl, rfl, rfl, rfl, rfl, rfl, trivial⟩ ⟨k + 1, w5, ⟨by omega, by omega⟩, rfl, rfl, rfl⟩
      · skip
        simp only [List.length_map, decide_eq_false_iff_not] at h27
        have hke : k = l.length := by omega
        subst hke
        refine G.region rfl (fun R hR => ?_)
        refine D.i64 _ rfl rfl rfl rfl rfl (by omega) (by omega) rfl rfl ?_
        refine D.pure rfl rfl rfl rfl rfl rfl ?_
        refine D.done [(0, [], _), (5, [], _), (15, [], _), (16, [], _), (17, [], _)] ⟨rfl, rfl, rfl, rfl, rfl, trivial⟩ (hR _ _ _ rfl ?_); clear hR R
        refine G.dropE 1 rfl ?_
        refine G.again (m' := l.length - (i + 1)) (by omega) (hle0.trans hle1) (fr' := [(0, [], _), (5, [], _), (15, [], _), (16, [], _), (17, [], _)]) ⟨rfl, rfl, rfl, rfl, rfl, trivial⟩ ⟨i + 1, w5, by omega, rfl, rfl, rfl⟩
    · skip
      simp only [List.length_map, decide_eq_false_iff_not] at h18
      have hil : i = l.length := by omega
      subst hil
      refine G.region rfl (fun R hR => ?_)
      iterate 3 refine D.pure rfl rfl rfl rfl rfl rfl ?_
      refine D.done [(2, [], _), (3, [], _)] ⟨rfl, rfl, trivial⟩ (hR _ _ _ rfl ?_); clear hR R
      refine G.freezeArr 0 ((oppL l).map pairI) rfl rfl (by intro r hr; obtain ⟨y, _, rfl⟩ := List.mem_map.1 hr; rfl) (by simp [oppL]) (fun Cf hlef hsf => G.retN (G.fin2 rfl rfl rfl ?_))
      exact ⟨rfl, .inr ⟨h13', _, rfl, hsf⟩⟩

theorem findI_cases {α : Type} {p : α → Bool} : ∀ (l : List α) (j : Nat), (findI p l j = -1 ∧ ∀ y ∈ l, p y = false) ∨ ∃ k x, findI p l j = ((j + k : Nat) : Int) ∧ l[k]? = some x ∧ p x = true ∧ ∀ y ∈ l.take k, p y = false
  | [], _ => .inl ⟨rfl, fun y hy => by cases hy⟩
  | y :: l, j => by
    simp only [findI]
    by_cases h : p y = true
    · exact .inr ⟨0, y, by rw [if_pos h]; rfl, by simp, h, by simp⟩
    · simp only [Bool.not_eq_true] at h
      rw [if_neg (by rw [h]; decide)]
      rcases findI_cases l (j + 1) with ⟨h1, h2⟩ | ⟨k, x, h1, h2, h3, h4⟩
      · refine .inl ⟨h1, fun z hz => ?_⟩
        rcases List.mem_cons.1 hz with rfl | hz
        · exact h
        · exact h2 z hz
      · refine .inr ⟨k + 1, x, by rw [h1]; congr 1; omega, by simpa using h2, h3, fun z hz => ?_⟩
        rw [List.take_succ_cons] at hz
        rcases List.mem_cons.1 hz with rfl | hz
        · exact h
        · exact h4 z hz

theorem indexFunc_rel (C : Mem) (v : Value) (l : List Rel) (g : FuncId) (cb : List Value) (p : Rel → Bool) (hl : l.length ≤ 1000000) (hcb : ∀ x ∈ l, ∀ C', C.le C' → Gives cx.P g (.agg ⟨x.enc⟩ :: cb) C' (.bool (p x))) :
    Jog.Fn cx.P 45 [v, .func (.func g) #[] ⟨cb⟩] C [.arr v 25 3 l.length (l.map Rel.enc).flatten] fun u C' L' => u = .int .i64 (findI p l 0) ∧ L' = [.arr v 25 3 l.length (l.map Rel.enc).flatten] := by
  refine Fn.intro (by kernel_rfl) Tryz.func45 rfl 19 rfl rfl (fun w0 => ?_)
  refine G.form (.head _) (fun hform hxl => ?_)
  obtain ⟨A, c0, hv⟩ : ∃ A c0, v = .slice A l.length c0 := by
    rcases hform with ⟨h1, h2⟩ | ⟨g, c, h1, _⟩
    · exact ⟨none, 0, by rw [h1, h2]⟩
    · exact ⟨_, c, h1⟩
  subst hv
  refine G.region rfl (fun R hR => ?_)
  refine D.pure rfl rfl rfl rfl rfl rfl ?_
  refine D.done [(0, [], _), (1, [], _)] ⟨rfl, rfl, trivial⟩ (hR _ _ _ rfl ?_); clear hR R
  refine G.region rfl (fun R hR => ?_)
  iterate 3 refine D.pure rfl rfl rfl rfl rfl rfl ?_
  refine D.done [(0, [], _), (1, [], _), (7, [], _), (8, [], _)] ⟨rfl, rfl, rfl, rfl, trivial⟩ (hR _ _ _ rfl ?_); clear hR R
  refine G.loop (fun fr C' L' μ => ∃ (k : Nat), (k ≤ l.length ∧ ∀ y ∈ l.take k, p y = false) ∧ fr = [(0, [], .slice A l.length c0), (1, [], .func (.func g) #[] ⟨cb⟩), (7, [], .int .i64 l.length), (8, [], .int .i64 k)] ∧ L' = [.arr (.slice A l.length c0) 25 3 l.length (l.map Rel.enc).flatten] ∧ μ = l.length - k) (fr' := [(0, [], _), (1, [], _), (7, [], _), (8, [], _)]) ⟨rfl, rfl, rfl, rfl, trivial⟩ ⟨0, ⟨Nat.zero_le _, by simp⟩, rfl, rfl, rfl⟩ (fun fr C0' L0' m hle0 hI => ?_)
  obtain ⟨k, ⟨hk, hall⟩, rfl, rfl, rfl⟩ := hI
  refine G.region rfl (fun R hR => ?_)
  refine D.pure rfl rfl rfl rfl rfl rfl ?_
  refine D.done [(0, [], _), (1, [], _), (7, [], _), (8, [], _), (9, [], _)] ⟨rfl, rfl, rfl, rfl, rfl, trivial⟩ (hR _ _ _ rfl ?_); clear hR R
  refine G.cond rfl (fun h9 => ?_) (fun h9 => ?_)
  · skip
    simp only [decide_eq_true_eq] at h9
    have hkl : k < l.length := by omega
    obtain ⟨x, hx⟩ : ∃ x, l[k]? = some x := ⟨l[k], List.getElem?_eq_getElem hkl⟩
    have hxm : x ∈ l := List.mem_of_getElem? hx
    obtain ⟨gb, c, hgc⟩ : ∃ g c, (Value.slice A l.length c0) = .slice (some ⟨g, 0, none⟩) l.length c := by
      rcases hform with ⟨h1, h2⟩ | ⟨g, c, h1, _⟩
      · omega
      · exact ⟨g, c, h1⟩
    obtain ⟨rfl, rfl⟩ : some (⟨gb, 0, none⟩ : Addr) = A ∧ c = c0 := by cases hgc; exact ⟨rfl, rfl⟩
    refine G.region rfl (fun R hR => ?_)
    iterate 2 refine D.pure rfl rfl rfl rfl rfl rfl ?_
    refine D.done [(0, [], _), (1, [], _), (5, [], _), (7, [], _), (8, [], _)] ⟨rfl, rfl, rfl, rfl, rfl, trivial⟩ (hR _ _ _ rfl ?_); clear hR R
    refine G.region rfl (fun R hR => ?_)
    iterate 3 refine D.pure rfl rfl rfl rfl rfl rfl ?_
    refine D.indexS (k * 3) rfl rfl rfl rfl rfl rfl rfl rfl rfl rfl (fun _ => ⟨by omega, by omega, rfl⟩) rfl rfl ?_
    refine D.loadArr (.head _) rfl rfl rfl rfl rfl rfl (fun _ => (by rw [row_read rel_len hx]; rfl)) rfl rfl ?_
    refine D.gives2 (hcb x hxm _ hle0) rfl rfl rfl rfl rfl rfl rfl (fun _ => rfl) ?_
    refine D.done [(0, [], _), (1, [], _), (5, [], _), (7, [], _), (8, [], _), (16, [], _)] ⟨rfl, rfl, rfl, rfl, rfl, rfl, trivial⟩ (hR _ _ _ rfl ?_); clear hR R
    refine G.cond rfl (fun h16 => ?_) (fun h16 => ?_)
    · skip
      refine G.region rfl (fun R hR => ?_)
      iterate 2 refine D.pure rfl rfl rfl rfl rfl rfl ?_
      refine D.done [(4, [], _)] ⟨rfl, trivial⟩ (hR _ _ _ rfl ?_); clear hR R
      refine G.retN (G.fin1 rfl rfl ?_)
      exact ⟨by rw [findI_at (k := k) (j := 0) hx hall h16, Nat.zero_add], rfl⟩
    · skip
      refine G.region rfl (fun R hR => ?_)
      refine D.i64 _ rfl rfl rfl rfl rfl (by omega) (by omega) rfl rfl ?_
      refine D.pure rfl rfl rfl rfl rfl rfl ?_
      refine D.done [(0, [], _), (1, [], _), (7, [], _), (8, [], _)] ⟨rfl, rfl, rfl, rfl, trivial⟩ (hR _ _ _ rfl ?_); clear hR R
      refine G.again (m' := l.length - (k + 1)) (by omega) hle0 (fr' := [(0, [], _), (1, [], _), (7, [], _), (8, [], _)]) ⟨rfl, rfl, rfl, rfl, trivial⟩ ⟨k + 1, ⟨by omega, fun y hy => by
        rw [List.take_add_one, hx] at hy
        rcases List.mem_append.1 hy with h6 | h6
        · exact hall y h6
        · simp only [Option.toList_some, List.mem_singleton] at h6
          subst h6
          exact h16⟩, rfl, rfl, rfl⟩
  · skip
    simp only [decide_eq_false_iff_not] at h9
    refine G.region rfl (fun R hR => ?_)
    refine D.pure rfl rfl rfl rfl rfl rfl ?_
    refine D.done [(4, [], _)] ⟨rfl, trivial⟩ (hR _ _ _ rfl ?_); clear hR R
    refine G.retN (G.fin1 rfl rfl ?_)
    rw [List.take_of_length_le (by omega)] at hall
    exact ⟨by rw [findI_none hall], rfl⟩

set_option maxHeartbeats 1000000 in
theorem deleteFunc_rel (C : Mem) (v : Value) (l : List Rel) (fg : FuncId) (cb : List Value) (p : Rel → Bool) (hl : l.length ≤ 1000000) (hcb : ∀ x ∈ l, ∀ C', C.le C' → Gives cx.P fg (.agg ⟨x.enc⟩ :: cb) C' (.bool (p x))) :
    Jog.Fn cx.P 31 [v, .func (.func fg) #[] ⟨cb⟩] C [.arr v 25 3 l.length (l.map Rel.enc).flatten] fun u C' L' => L' = [] ∧ Sl C' 3 u ((l.filter fun x => !(p x)).map Rel.enc) := by
  refine Fn.intro (by kernel_rfl) Tryz.func31 rfl 42 rfl rfl (fun w0 => ?_)
  refine G.form (.head _) (fun hform hxl => ?_)
  obtain ⟨A, c0, hv⟩ : ∃ A c0, v = .slice A l.length c0 := by
    rcases hform with ⟨h1, h2⟩ | ⟨g, c, h1, _⟩
    · exact ⟨none, 0, by rw [h1, h2]⟩
    · exact ⟨_, c, h1⟩
  subst hv
  refine G.region rfl (fun R hR => ?_)
  refine D.pure rfl rfl rfl rfl rfl rfl ?_
  refine D.done [(0, [], _), (1, [], _)] ⟨rfl, rfl, trivial⟩ (hR _ _ _ rfl ?_); clear hR R
  refine G.regionO [(2, 3)] rfl (fun R hR => ?_)
  iterate 2 refine D.pure rfl rfl rfl rfl rfl rfl ?_
  refine D.call (indexFunc_rel _ _ l fg cb p hl hcb) rfl (.inr (by decide)) rfl rfl rfl rfl rfl rfl (List.Perm.refl _) (fun _ => rfl) (fun v10 C10 L10 hle10 hq10 => ?_)
  obtain ⟨rfl, rfl⟩ := hq10
  refine D.pure rfl rfl rfl rfl rfl rfl ?_
  refine D.done [(0, [], _), (1, [], _), (5, [], _)] ⟨rfl, rfl, rfl, trivial⟩ (hR _ _ _ rfl ?_); clear hR R
  refine G.region rfl (fun R hR => ?_)
  iterate 2 refine D.pure rfl rfl rfl rfl rfl rfl ?_
  refine D.done [(0, [], _), (1, [], _), (5, [], _), (12, [], _)] ⟨rfl, rfl, rfl, rfl, trivial⟩ (hR _ _ _ rfl ?_); clear hR R
  refine G.cond rfl (fun h12 => ?_) (fun h12 => ?_)
  · skip
    have hnone : ∀ y ∈ l, p y = false := by
      rcases findI_cases (p := p) l 0 with ⟨_, h2⟩ | ⟨k, x, h1, _⟩
      · exact h2
      · exfalso; rw [h1] at h12; simp at h12
    have hid : l.filter (fun x => !(p x)) = l := List.filter_eq_self.2 (fun y hy => by rw [hnone y hy]; rfl)
    refine G.region rfl (fun R hR => ?_)
    iterate 2 refine D.pure rfl rfl rfl rfl rfl rfl ?_
    refine D.done [(4, [], _)] ⟨rfl, trivial⟩ (hR _ _ _ rfl ?_); clear hR R
    refine G.freezeArr 0 (l.map Rel.enc) rfl rfl (by intro r hr; obtain ⟨x, _, rfl⟩ := List.mem_map.1 hr; exact rel_len x) (by simp) (fun Cf hlef hsf => G.retN (G.fin1 rfl rfl ?_))
    exact ⟨rfl, by rw [hid]; exact hsf⟩
  · skip
    obtain ⟨k0, x0, hk0, hx0, hp0, hall0⟩ : ∃ k x, findI p l 0 = ((k : Nat) : Int) ∧ l[k]? = some x ∧ p x = true ∧ ∀ y ∈ l.take k, p y = false := by
      rcases findI_cases (p := p) l 0 with ⟨h1, h2⟩ | ⟨k, x, h1, h2⟩
      · exfalso; rw [h1] at h12; simp at h12
      · exact ⟨k, x, by rw [h1, Nat.zero_add], h2⟩
    have hk0l : k0 < l.length := (List.getElem?_eq_some_iff.1 hx0).1
    rw [hk0]
    obtain ⟨g, c, hgc, hlc, hcm⟩ : ∃ g c, (Value.slice A l.length c0) = .slice (some ⟨g, 0, none⟩) l.length c ∧ l.length ≤ c ∧ c ≤ maxLen := by
      rcases hform with ⟨h1, h2⟩ | ⟨g, c, h1, h2, h3⟩
      · omega
      · exact ⟨g, c, h1, h2, h3⟩
    obtain ⟨rfl, rfl⟩ : some (⟨g, 0, none⟩ : Addr) = A ∧ c = c0 := by cases hgc; exact ⟨rfl, rfl⟩
    have hstart : (l.take (k0 + 1)).filter (fun x => !(p x)) = l.take k0 := by
      rw [List.take_add_one, hx0, List.filter_append]
      simp only [Option.toList_some, List.filter_cons, hp0, Bool.not_true, List.filter_nil]
      rw [if_neg (by decide), List.append_nil]
      exact List.filter_eq_self.2 (fun y hy => by rw [hall0 y hy]; rfl)
    refine G.region rfl (fun R hR => ?_)
    refine D.pure rfl rfl rfl rfl rfl rfl ?_
    refine D.i64 _ rfl rfl rfl rfl rfl (by omega) (by omega) rfl rfl ?_
    refine D.pure rfl rfl rfl rfl rfl rfl ?_
    refine D.done [(0, [], _), (1, [], _), (5, [], _), (6, [], _)] ⟨rfl, rfl, rfl, rfl, trivial⟩ (hR _ _ _ rfl ?_); clear hR R
    refine G.loop (fun fr C' L' μ => ∃ (j i : Nat) (r : List Rel), (i < j ∧ j ≤ l.length ∧ r.length = l.length ∧ r.take i = (l.take j).filter (fun x => !(p x)) ∧ (∀ q, j ≤ q → r[q]? = l[q]?)) ∧ fr = [(0, [], .slice (some ⟨g, 0, none⟩) l.length c), (1, [], .func (.func fg) #[] ⟨cb⟩), (5, [], .int .i64 i), (6, [], .int .i64 j)] ∧ L' = [.arr (.slice (some ⟨g, 0, none⟩) l.length c) 25 3 l.length (r.map Rel.enc).flatten] ∧ μ = l.length - j) (fr' := [(0, [], _), (1, [], _), (5, [], _), (6, [], _)]) ⟨rfl, rfl, rfl, rfl, trivial⟩ ⟨k0 + 1, k0, l, ⟨by omega, by omega, rfl, hstart.symm, fun _ _ => rfl⟩, rfl, rfl, rfl⟩ (fun fr C0' L0' m hle0 hI => ?_)
    obtain ⟨j, i, r, ⟨hij, hjl, hrl, hrt, hrs⟩, rfl, rfl, rfl⟩ := hI
    refine G.region rfl (fun R hR => ?_)
    iterate 4 refine D.pure rfl rfl rfl rfl rfl rfl ?_
    refine D.done [(0, [], _), (1, [], _), (5, [], _), (6, [], _), (19, [], _)] ⟨rfl, rfl, rfl, rfl, rfl, trivial⟩ (hR _ _ _ rfl ?_); clear hR R
    refine G.cond rfl (fun h19 => ?_) (fun h19 => ?_)
    · skip
      simp only [decide_eq_true_eq] at h19
      have hjl' : j < l.length := by omega
      obtain ⟨x, hx⟩ : ∃ x, r[j]? = some x := ⟨r[j]'(by omega), List.getElem?_eq_getElem (by omega)⟩
      have hxl' : l[j]? = some x := by rw [← hrs j (Nat.le_refl _)]; exact hx
      have hxm : x ∈ l := List.mem_of_getElem? hxl'
      have htk : (l.take (j + 1)).filter (fun x => !(p x)) = (l.take j).filter (fun x => !(p x)) ++ (if p x = true then [] else [x]) := by
        rw [List.take_add_one, hxl', List.filter_append]
        cases hpx : p x <;> simp [hpx]
      refine G.region rfl (fun R hR => ?_)
      iterate 2 refine D.pure rfl rfl rfl rfl rfl rfl ?_
      refine D.indexS (j * 3) rfl rfl rfl rfl rfl rfl rfl rfl rfl rfl (fun _ => ⟨by omega, by omega, rfl⟩) rfl rfl ?_
      refine D.loadArr (.head _) rfl rfl rfl rfl rfl rfl (fun _ => (by rw [row_read rel_len hx]; rfl)) rfl rfl ?_
      refine D.alloc rfl rfl rfl rfl rfl (fun _ => rfl) (fun b7 => ?_)
      refine D.store (j := 0) rfl rfl rfl rfl rfl rfl rfl rfl rfl rfl rfl rfl ?_
      refine D.done [(0, [], _), (1, [], _), (5, [], _), (6, [], _), (7, [], _)] ⟨rfl, rfl, rfl, rfl, rfl, trivial⟩ (hR _ _ _ rfl ?_); clear hR R
      refine G.region rfl (fun R hR => ?_)
      refine D.pure rfl rfl rfl rfl rfl rfl ?_
      refine D.loadL (.head _) rfl rfl rfl rfl rfl rfl rfl rfl rfl ?_
      refine D.gives2 (hcb x hxm _ (hle10.trans hle0)) rfl rfl rfl rfl rfl rfl rfl (fun _ => rfl) ?_
      refine D.pure rfl rfl rfl rfl rfl rfl ?_
      refine D.done [(0, [], _), (1, [], _), (5, [], _), (6, [], _), (7, [], _), (29, [], _)] ⟨rfl, rfl, rfl, rfl, rfl, rfl, trivial⟩ (hR _ _ _ rfl ?_); clear hR R
      refine G.cond rfl (fun h29 => ?_) (fun h29 => ?_)
      · skip
        simp only [Bool.not_eq_true'] at h29
        refine G.region rfl (fun R hR => ?_)
        iterate 2 refine D.pure rfl rfl rfl rfl rfl rfl ?_
        refine D.loadL (.head _) rfl rfl rfl rfl rfl rfl rfl rfl rfl ?_
        refine D.indexS (i * 3) rfl rfl rfl rfl rfl rfl rfl rfl rfl rfl (fun _ => ⟨by omega, by omega, rfl⟩) rfl rfl ?_
        refine D.storeArr (j := 1) rfl rfl rfl rfl rfl rfl rfl rfl rfl rfl rfl (by show i * 3 + 3 ≤ _; rw [rows_len rel_len, hrl]; have h9 : (i + 1) * 3 ≤ l.length * 3 := Nat.mul_le_mul_right _ (by omega); omega) ?_
        refine D.done [(0, [], _), (1, [], _), (5, [], _), (6, [], _)] ⟨rfl, rfl, rfl, rfl, trivial⟩ (hR _ _ _ rfl ?_); clear hR R
        refine G.region rfl (fun R hR => ?_)
        refine D.pure rfl rfl rfl rfl rfl rfl ?_
        refine D.i64 _ rfl rfl rfl rfl rfl (by omega) (by omega) rfl rfl ?_
        refine D.pure rfl rfl rfl rfl rfl rfl ?_
        refine D.done [(0, [], _), (1, [], _), (5, [], _), (6, [], _)] ⟨rfl, rfl, rfl, rfl, trivial⟩ (hR _ _ _ rfl ?_); clear hR R
        refine G.region rfl (fun R hR => ?_)
        refine D.pure rfl rfl rfl rfl rfl rfl ?_
        refine D.i64 _ rfl rfl rfl rfl rfl (by omega) (by omega) rfl rfl ?_
        refine D.pure rfl rfl rfl rfl rfl rfl ?_
        refine D.done [(0, [], _), (1, [], _), (5, [], _), (6, [], _)] ⟨rfl, rfl, rfl, rfl, trivial⟩ (hR _ _ _ rfl ?_); clear hR R
        have hw : storeInto (r.map Rel.enc).flatten (Rel.enc x) (i * 3) = ((r.set i x).map Rel.enc).flatten := row_write rel_len x (by omega)
        refine G.dropE 1 rfl ?_
        refine G.eqL (L' := [.arr (.slice (some ⟨g, 0, none⟩) l.length c) 25 3 l.length ((r.set i x).map Rel.enc).flatten]) (by rw [← hw]; rfl) ?_
        refine G.again (m' := l.length - (j + 1)) (by omega) hle0 (fr' := [(0, [], _), (1, [], _), (5, [], _), (6, [], _)]) ⟨rfl, rfl, rfl, rfl, trivial⟩ ⟨j + 1, i + 1, r.set i x, ⟨by omega, by omega, by simpa using hrl, by
          rw [htk, if_neg (by rw [h29]; decide), ← hrt, List.take_add_one, List.take_set_of_le (Nat.le_refl _), List.getElem?_set_self (by omega)]
          rfl, fun q hq => by rw [List.getElem?_set_ne (by omega)]; exact hrs q (by omega)⟩, rfl, rfl, rfl⟩
      · skip
        simp only [Bool.not_eq_false'] at h29
        refine G.region rfl (fun R hR => ?_)
        refine D.pure rfl rfl rfl rfl rfl rfl ?_
        refine D.i64 _ rfl rfl rfl rfl rfl (by omega) (by omega) rfl rfl ?_
        refine D.pure rfl rfl rfl rfl rfl rfl ?_
        refine D.done [(0, [], _), (1, [], _), (5, [], _), (6, [], _)] ⟨rfl, rfl, rfl, rfl, trivial⟩ (hR _ _ _ rfl ?_); clear hR R
        refine G.dropE 0 rfl ?_
        refine G.again (m' := l.length - (j + 1)) (by omega) hle0 (fr' := [(0, [], _), (1, [], _), (5, [], _), (6, [], _)]) ⟨rfl, rfl, rfl, rfl, trivial⟩ ⟨j + 1, i, r, ⟨by omega, by omega, hrl, by rw [htk, if_pos h29, List.append_nil]; exact hrt, fun q hq => hrs q (by omega)⟩, rfl, rfl, rfl⟩
    · skip
      simp only [decide_eq_false_iff_not] at h19
      have hje : j = l.length := by omega
      rw [hje, List.take_length] at hrt
      have hil : i ≤ l.length := by omega
      refine G.region rfl (fun R hR => ?_)
      iterate 2 refine D.pure rfl rfl rfl rfl rfl rfl ?_
      refine D.sliceV i l.length c rfl rfl rfl rfl rfl rfl rfl rfl rfl rfl rfl rfl (fun _ => ⟨.inr ⟨_, rfl⟩, .inl ⟨rfl, rfl⟩, .inl ⟨rfl, rfl⟩, by omega, hlc, Nat.le_refl _⟩) rfl rfl ?_
      refine D.clear 0 (off := i * 3) rfl rfl rfl rfl rfl rfl rfl rfl rfl rfl rfl (by
        by_cases hci : c = i
        · exact .inl (by omega)
        · refine .inr ?_
          rw [if_neg hci]
          simp only [Option.map_some, Addr.add_lit, Nat.zero_add]) (by rw [rows_len rel_len, hrl, ← Nat.add_mul]; exact Nat.mul_le_mul_right _ (by omega)) ?_
      refine D.done [(0, [], _), (5, [], _)] ⟨rfl, rfl, trivial⟩ (hR _ _ _ rfl ?_); clear hR R
      refine G.region rfl (fun R hR => ?_)
      iterate 2 refine D.pure rfl rfl rfl rfl rfl rfl ?_
      refine D.sliceV 0 i c rfl rfl rfl rfl rfl rfl rfl rfl rfl rfl rfl rfl (fun _ => ⟨.inl ⟨rfl, rfl⟩, .inr ⟨_, rfl⟩, .inl ⟨rfl, rfl⟩, by omega, by omega, Nat.le_refl _⟩) rfl rfl ?_
      refine D.pure rfl rfl rfl rfl rfl rfl ?_
      refine D.done [(4, [], _)] ⟨rfl, trivial⟩ (hR _ _ _ rfl ?_); clear hR R
      refine G.freezeArr 0 ((r.take i).map Rel.enc ++ List.replicate (l.length - i) ([.int .i64 0, .string ⟨#[]⟩, .string ⟨#[]⟩] : List Value)) rfl ?_ ?_ (by simp; omega) (fun Cf hlef hsf => G.retN (G.fin1 rfl rfl ?_))
      · unfold storeInto
        have e1 : (zrow ([.int .i64 0, .string ⟨#[]⟩, .string ⟨#[]⟩] : List Value) (l.length - i)).length = (l.length - i) * 3 := zrow_length _ _
        refine Eq.trans (congrArg (· ++ _) (congrArg (· ++ _) (flatten_take_drop rel_len r i).1)) ?_
        rw [List.flatten_append, List.append_assoc]
        congr 1
        rw [← zrow_flatten]
        refine Eq.trans (congrArg (_ ++ ·) (List.drop_eq_nil_of_le ?_)) (List.append_nil _)
        rw [rows_len rel_len, hrl]
        refine Nat.le_trans (Nat.le_of_eq ?_) (Nat.le_of_eq (congrArg (i * 3 + ·) e1.symm))
        rw [← Nat.add_mul]; congr 1; omega
      · intro x hx
        rcases List.mem_append.1 hx with hx | hx
        · obtain ⟨y, _, rfl⟩ := List.mem_map.1 hx; exact rel_len y
        · rw [List.eq_of_mem_replicate hx]; rfl
      refine ⟨rfl, ?_⟩
      have hsub := Sl.sub hsf (l := 0) (h := i) (m := c) (Nat.zero_le _) (by simp; omega) (by omega) (Nat.le_refl _)
      have hti : (((r.take i).map Rel.enc ++ List.replicate (l.length - i) ([.int .i64 0, .string ⟨#[]⟩, .string ⟨#[]⟩] : List Value)).take i).drop 0 = (l.filter fun x => !(p x)).map Rel.enc := by
        rw [List.drop_zero, List.take_append_of_le_length (by simp; omega), List.take_of_length_le (by simp; omega), hrt]
      rw [hti] at hsub
      exact hsub

/-! ### Without -/
def touches (u : Str) (x : Rel) : Bool := (x.upper == u) || (x.lower == u)
theorem closWithout (C : Mem) (x : Rel) (u : Str) (b : Nat) (tb : TypeId) (hb : C b = some (.cells ⟨[strV u]⟩ tb (0, 0))) : Gives cx.P 32 [.agg ⟨x.enc⟩, .pointer (some ⟨b, 0, none⟩)] C (.bool (touches u x)) := by
  have hp1 : PtrTo C (.pointer (some ⟨b, 0, none⟩)) [strV u] := PtrTo.block hb 0
  refine Fn.intro (by kernel_rfl) Tryz.func32 rfl 14 rfl rfl (fun w0 => ?_)
  refine G.region rfl (fun R hR => ?_)
  refine D.box rfl rfl rfl rfl rfl rfl (fun _ => rfl) (fun b2 => ?_)
  refine D.pure rfl rfl rfl rfl rfl rfl ?_
  refine D.done [(1, [], _), (2, [], _)] ⟨rfl, rfl, trivial⟩ (hR _ _ _ rfl ?_); clear hR R
  refine G.region rfl (fun R hR => ?_)
  refine D.pure rfl rfl rfl rfl rfl rfl ?_
  refine D.loadL (.head _) rfl rfl rfl rfl rfl rfl rfl rfl rfl ?_
  refine D.loadP0 hp1 rfl rfl rfl rfl rfl rfl rfl rfl ?_
  iterate 3 refine D.pure rfl rfl rfl rfl rfl rfl ?_
  refine D.loadL (.head _) rfl rfl rfl rfl rfl rfl rfl rfl rfl ?_
  refine D.loadP rfl rfl rfl rfl rfl rfl (fun _ => hp1) rfl rfl rfl ?_
  refine D.pure rfl rfl rfl rfl rfl rfl ?_
  refine D.pickOr rfl rfl rfl rfl rfl rfl rfl rfl ?_
  refine D.pure rfl rfl rfl rfl rfl rfl ?_
  refine D.done [(3, [], _)] ⟨rfl, trivial⟩ (hR _ _ _ rfl ?_); clear hR R
  refine G.retN (G.dropAll (G.fin1 rfl rfl ?_))
  exact ⟨rfl, rfl⟩
def withoutL (l : List Rel) (u : Str) : List Rel := l.filter fun x => !(touches u x)
theorem without_fn (C : Mem) (v : Value) (l : List Rel) (u : Str) (hv : Sl C 3 v (l.map Rel.enc)) (hl : l.length ≤ 1000000) (hok : ∀ x ∈ l, x.short) (hu : u.length < 1000000) : Pur cx.P 15 [v, strV u] C fun r C' =>
    (errNames l [u] ≠ 0 ∧ r = errRes (errNames l [u])) ∨ (errNames l [u] = 0 ∧ ∃ w, r = .tuple #[w, .int .i64 0] ∧ Sl C' 3 w ((withoutL l u).map Rel.enc)) := by
  refine Fn.intro (by kernel_rfl) Tryz.func15 rfl 18 rfl rfl (fun w0 => ?_)
  refine G.region rfl (fun R hR => ?_)
  refine D.boxConst rfl rfl rfl rfl rfl rfl (fun _ => rfl) (fun b3 C3 hle3 hb3 => ?_)
  iterate 2 refine D.pure rfl rfl rfl rfl rfl rfl ?_
  refine D.done [(0, [], _), (3, [], _)] ⟨rfl, rfl, trivial⟩ (hR _ _ _ rfl ?_); clear hR R
  have hp3 : PtrTo C3 (.pointer (some ⟨b3, 0, none⟩)) [strV u] := PtrTo.block hb3 0
  refine G.region rfl (fun R hR => ?_)
  refine D.pure rfl rfl rfl rfl rfl rfl ?_
  refine D.loadP0 hp3 rfl rfl rfl rfl rfl rfl rfl rfl ?_
  refine D.buildSlice [encS u] rfl rfl rfl rfl rfl rfl rfl rfl rfl rfl rfl rfl (fun _ => rfl) (fun p9 C9 hle9 hs9 => ?_)
  refine D.gives2 (checkNames_spec _ _ _ l [u] ((hv.mono hle3).mono hle9) hok hs9 (by simp) (short1 hu)) rfl rfl rfl rfl rfl rfl rfl (fun _ => rfl) ?_
  refine D.pure rfl rfl rfl rfl rfl rfl ?_
  refine D.done [(0, [], _), (3, [], _), (6, [], _)] ⟨rfl, rfl, rfl, trivial⟩ (hR _ _ _ rfl ?_); clear hR R
  refine G.region rfl (fun R hR => ?_)
  iterate 2 refine D.pure rfl rfl rfl rfl rfl rfl ?_
  refine D.done [(0, [], _), (3, [], _), (6, [], _), (12, [], _)] ⟨rfl, rfl, rfl, rfl, trivial⟩ (hR _ _ _ rfl ?_); clear hR R
  refine G.cond rfl (fun h12 => ?_) (fun h12 => ?_)
  · skip
    have h12' : errNames l [u] ≠ 0 := by simpa using h12
    refine G.region rfl (fun R hR => ?_)
    iterate 3 refine D.pure rfl rfl rfl rfl rfl rfl ?_
    refine D.done [(4, [], _), (5, [], _)] ⟨rfl, rfl, trivial⟩ (hR _ _ _ rfl ?_); clear hR R
    refine G.retN (G.dropAll (G.fin2 rfl rfl rfl ?_))
    exact ⟨rfl, .inl ⟨h12', rfl⟩⟩
  · skip
    have h12' : errNames l [u] = 0 := by simpa using h12
    refine G.regionO [(1, 3), (3, 3)] rfl (fun R hR => ?_)
    refine D.pure rfl rfl rfl rfl rfl rfl ?_
    refine D.call (clone_rel _ _ l ((hv.mono hle3).mono hle9) hl) rfl (.inl rfl) rfl rfl rfl rfl rfl rfl (List.Perm.refl _) (fun _ => rfl) (fun v15 C15 L15 hle15 hq15 => ?_)
    subst hq15
    refine D.pure rfl rfl rfl rfl rfl rfl ?_
    refine D.call (deleteFunc_rel _ _ l _ [.pointer (some ⟨b3, 0, none⟩)] (touches u) hl (fun x _ C' hle => closWithout C' x u b3 _ (((hle9.trans hle15).trans hle) _ _ hb3))) rfl (.inr (by decide)) rfl rfl rfl rfl rfl rfl (List.Perm.refl _) (fun _ => rfl) (fun v17 C17 L17 hle17 hq17 => ?_)
    obtain ⟨rfl, hsw⟩ := hq17
    iterate 2 refine D.pure rfl rfl rfl rfl rfl rfl ?_
    refine D.done [(4, [], _), (5, [], _)] ⟨rfl, rfl, trivial⟩ (hR _ _ _ rfl ?_); clear hR R
    refine G.retN (G.dropAll (G.fin2 rfl rfl rfl ?_))
    exact ⟨rfl, .inr ⟨h12', _, rfl, hsw⟩⟩

/-! ### Rename -/
def renS (a b s : Str) : Str := if s = a then b else s
def ren (a b : Str) (x : Rel) : Rel := ⟨x.kind, renS a b x.upper, renS a b x.lower⟩
def renQ (a b : Str) (q : Nat) (x : Rel) : Rel := ⟨x.kind, if 0 < q then renS a b x.upper else x.upper, if 1 < q then renS a b x.lower else x.lower⟩
def conf (a b : Str) (x : Rel) : Bool := (ren a b x).upper == (ren a b x).lower
def renameL (l : List Rel) (a b : Str) : List Rel := l.map (ren a b)

theorem row_cell {α : Type} {enc : α → List Value} {s : Nat} (hk : ∀ x, (enc x).length = s) {l : List α} {i j : Nat} {x : α} {v : Value} (h : l[i]? = some x) (hj : (enc x)[j]? = some v) : ((l.map enc).flatten.drop (i * s + j)).take 1 = [v] := by
  have h1 := getElem?_flatten_rows (rows := l.map enc) (s := s) (fun r hr => by obtain ⟨y, _, rfl⟩ := List.mem_map.1 hr; exact hk y) (i := i) (x := enc x) (by rw [List.getElem?_map, h]; rfl) hj
  obtain ⟨h2, h3⟩ := List.getElem?_eq_some_iff.1 h1
  rw [List.drop_eq_getElem_cons h2, h3]
  rfl

set_option maxHeartbeats 1000000 in
theorem rename_fn (C : Mem) (v : Value) (l : List Rel) (a b : Str) (hv : Sl C 3 v (l.map Rel.enc)) (hl : l.length ≤ 1000000) (hok : ∀ x ∈ l, x.short) (ha : a.length < 1000000) (hb : b.length < 1000000) : Pur cx.P 14 [v, strV a, strV b] C fun r C' =>
    (errNames l [a, b] ≠ 0 ∧ r = errRes (errNames l [a, b])) ∨ (errNames l [a, b] = 0 ∧ l.any (conf a b) = true ∧ r = errRes 14) ∨ (errNames l [a, b] = 0 ∧ l.any (conf a b) = false ∧ ∃ w, r = .tuple #[w, .int .i64 0] ∧ Sl C' 3 w ((renameL l a b).map Rel.enc)) := by
  refine Fn.intro (by kernel_rfl) Tryz.func14 rfl 64 rfl rfl (fun w0 => ?_)
  refine G.region rfl (fun R hR => ?_)
  iterate 2 refine D.pure rfl rfl rfl rfl rfl rfl ?_
  refine D.done [(0, [], _), (1, [], _), (2, [], _)] ⟨rfl, rfl, rfl, trivial⟩ (hR _ _ _ rfl ?_); clear hR R
  refine G.region rfl (fun R hR => ?_)
  iterate 3 refine D.pure rfl rfl rfl rfl rfl rfl ?_
  refine D.buildSlice [encS a, encS b] rfl rfl rfl rfl rfl rfl rfl rfl rfl rfl rfl rfl (fun _ => rfl) (fun p16 C16 hle16 hs16 => ?_)
  refine D.gives2 (checkNames_spec _ _ _ l [a, b] (hv.mono hle16) hok hs16 (by simp) (short2 ha hb)) rfl rfl rfl rfl rfl rfl rfl (fun _ => rfl) ?_
  refine D.pure rfl rfl rfl rfl rfl rfl ?_
  refine D.done [(0, [], _), (1, [], _), (2, [], _), (8, [], _)] ⟨rfl, rfl, rfl, rfl, trivial⟩ (hR _ _ _ rfl ?_); clear hR R
  refine G.region rfl (fun R hR => ?_)
  iterate 2 refine D.pure rfl rfl rfl rfl rfl rfl ?_
  refine D.done [(0, [], _), (1, [], _), (2, [], _), (8, [], _), (19, [], _)] ⟨rfl, rfl, rfl, rfl, rfl, trivial⟩ (hR _ _ _ rfl ?_); clear hR R
  refine G.cond rfl (fun h19 => ?_) (fun h19 => ?_)
  · skip
    have h19' : errNames l [a, b] ≠ 0 := by simpa using h19
    refine G.region rfl (fun R hR => ?_)
    iterate 3 refine D.pure rfl rfl rfl rfl rfl rfl ?_
    refine D.done [(6, [], _), (7, [], _)] ⟨rfl, rfl, trivial⟩ (hR _ _ _ rfl ?_); clear hR R
    refine G.retN (G.dropAll (G.fin2 rfl rfl rfl ?_))
    exact ⟨rfl, .inl ⟨h19', rfl⟩⟩
  · skip
    have h19' : errNames l [a, b] = 0 := by simpa using h19
    refine G.regionO [(1, 3)] rfl (fun R hR => ?_)
    refine D.pure rfl rfl rfl rfl rfl rfl ?_
    refine D.call (clone_rel _ _ l (hv.mono hle16) hl) rfl (.inl rfl) rfl rfl rfl rfl rfl rfl (List.Perm.refl _) (fun _ => rfl) (fun v22 C22 L22 hle22 hq22 => ?_)
    refine D.pure rfl rfl rfl rfl rfl rfl ?_
    refine D.done [(1, [], _), (2, [], _), (9, [], _)] ⟨rfl, rfl, rfl, trivial⟩ (hR _ _ _ rfl ?_); clear hR R
    subst hq22
    refine G.form (.head _) (fun hform hxl => ?_)
    obtain ⟨A, c0, hv22⟩ : ∃ A c0, v22 = .slice A l.length c0 := by
      rcases hform with ⟨h1, h2⟩ | ⟨g, c, h1, _⟩
      · exact ⟨none, 0, by rw [h1, h2]⟩
      · exact ⟨_, c, h1⟩
    subst hv22
    refine G.region rfl (fun R hR => ?_)
    iterate 3 refine D.pure rfl rfl rfl rfl rfl rfl ?_
    refine D.done [(1, [], _), (2, [], _), (9, [], _), (24, [], _), (25, [], _)] ⟨rfl, rfl, rfl, rfl, rfl, trivial⟩ (hR _ _ _ rfl ?_); clear hR R
    refine G.loop (fun fr C' L' μ => ∃ (i : Nat), (i ≤ l.length ∧ (l.take i).any (conf a b) = false) ∧ fr = [(1, [], strV a), (2, [], strV b), (9, [], .slice A l.length c0), (24, [], .int .i64 l.length), (25, [], .int .i64 i)] ∧ L' = [.arr (.slice A l.length c0) 25 3 l.length (((l.take i).map (ren a b) ++ l.drop i).map Rel.enc).flatten] ∧ μ = l.length - i) (fr' := [(1, [], _), (2, [], _), (9, [], _), (24, [], _), (25, [], _)]) ⟨rfl, rfl, rfl, rfl, rfl, trivial⟩ ⟨0, ⟨Nat.zero_le _, by simp⟩, rfl, rfl, rfl⟩ (fun fr C0' L0' m hle0 hI => ?_)
    obtain ⟨i, ⟨hi, hnc⟩, rfl, rfl, rfl⟩ := hI
    refine G.region rfl (fun R hR => ?_)
    refine D.pure rfl rfl rfl rfl rfl rfl ?_
    refine D.done [(1, [], _), (2, [], _), (9, [], _), (24, [], _), (25, [], _), (26, [], _)] ⟨rfl, rfl, rfl, rfl, rfl, rfl, trivial⟩ (hR _ _ _ rfl ?_); clear hR R
    refine G.cond rfl (fun h26 => ?_) (fun h26 => ?_)
    · skip
      simp only [decide_eq_true_eq] at h26
      have hil : i < l.length := by omega
      obtain ⟨x, hx⟩ : ∃ x, l[i]? = some x := ⟨l[i], List.getElem?_eq_getElem hil⟩
      obtain ⟨g, c, hgc⟩ : ∃ g c, (Value.slice A l.length c0) = .slice (some ⟨g, 0, none⟩) l.length c := by
        rcases hform with ⟨h1, h2⟩ | ⟨g, c, h1, _⟩
        · omega
        · exact ⟨g, c, h1⟩
      obtain ⟨rfl, rfl⟩ : some (⟨g, 0, none⟩ : Addr) = A ∧ c = c0 := by cases hgc; exact ⟨rfl, rfl⟩
      have hrk := map_at (f := ren a b) hx
      have hstep := map_step (f := ren a b) hx
      have hlen := map_len (f := ren a b) l i
      have hfit : i * 3 + 3 ≤ l.length * 3 := by have h9 : (i + 1) * 3 ≤ l.length * 3 := Nat.mul_le_mul_right _ (by omega); omega
      obtain ⟨R, hR0⟩ : ∃ R, (l.take i).map (ren a b) ++ l.drop i = R := ⟨_, rfl⟩
      rw [hR0] at hrk hstep hlen
      have hgetq : ∀ q, (R.set i (renQ a b q x))[i]? = some (renQ a b q x) := fun q => List.getElem?_set_self (by rw [hlen]; exact hil)
      refine G.region rfl (fun R hR => ?_)
      iterate 2 refine D.pure rfl rfl rfl rfl rfl rfl ?_
      refine D.done [(1, [], _), (2, [], _), (9, [], _), (10, [], _), (24, [], _), (25, [], _)] ⟨rfl, rfl, rfl, rfl, rfl, rfl, trivial⟩ (hR _ _ _ rfl ?_); clear hR R
      refine G.draw [0, 1, 2, 3, 4, 5, 6, 7, 10, 8, 9] [] rfl (by kernel_rfl) (fun R hB hR => ?_)
      iterate 2 refine D.pure rfl rfl rfl rfl rfl rfl ?_
      refine D.indexS (i * 3) rfl rfl rfl rfl rfl rfl rfl rfl rfl rfl (fun _ => ⟨by omega, by omega, rfl⟩) rfl rfl ?_
      iterate 3 refine D.pure rfl rfl rfl rfl rfl rfl ?_
      refine D.indexS (i * 3) rfl rfl rfl rfl rfl rfl rfl rfl rfl rfl (fun _ => ⟨by omega, by omega, rfl⟩) rfl rfl ?_
      iterate 2 refine D.pure rfl rfl rfl rfl rfl rfl ?_
      refine D.buildSliceV [[.pointer (some ⟨g, i * 3 + 1, none⟩)], [.pointer (some ⟨g, i * 3 + 2, none⟩)]] rfl rfl rfl rfl rfl rfl rfl rfl rfl rfl rfl rfl (fun _ => rfl) (fun b36 C36 hle36 hs36 => ?_)
      refine D.pure rfl rfl rfl rfl rfl rfl ?_
      refine D.done [(1, [], _), (2, [], _), (9, [], _), (10, [], _), (24, [], _), (25, [], _), (36, [], _), (37, [], _), (38, [], _)] ⟨rfl, rfl, rfl, rfl, rfl, rfl, rfl, rfl, rfl, trivial⟩ (hR _ _ _ rfl ?_); clear hR hB R
      refine G.eqL (L' := [.arr (.slice (some ⟨g, 0, none⟩) l.length c) 25 3 l.length ((R.set i (renQ a b 0 x)).map Rel.enc).flatten]) (by
        have e : renQ a b 0 x = x := by simp [renQ]
        have e2 : R.set i x = R := by
          apply List.ext_getElem?
          intro j
          rw [List.getElem?_set]
          split
          · rename_i e; subst e; rw [if_pos (by rw [hlen]; exact hil), hrk]
          · rfl
        rw [e, e2, ← hR0]) ?_
      refine G.loop (fun fr C' L' μ => ∃ (q : Nat), (q ≤ 2) ∧ fr = [(1, [], strV a), (2, [], strV b), (9, [], .slice (some ⟨g, 0, none⟩) l.length c), (10, [], .int .i64 i), (24, [], .int .i64 l.length), (25, [], .int .i64 i), (36, [], .slice (some ⟨b36, 0, none⟩) 2 2), (37, [], .int .i64 2), (38, [], .int .i64 q)] ∧ L' = [.arr (.slice (some ⟨g, 0, none⟩) l.length c) 25 3 l.length ((R.set i (renQ a b q x)).map Rel.enc).flatten] ∧ μ = 2 - q) (fr' := [(1, [], _), (2, [], _), (9, [], _), (10, [], _), (24, [], _), (25, [], _), (36, [], _), (37, [], _), (38, [], _)]) ⟨rfl, rfl, rfl, rfl, rfl, rfl, rfl, rfl, rfl, trivial⟩ ⟨0, by omega, rfl, rfl, rfl⟩ (fun fr C1' L1' m hle1 hI => ?_)
      obtain ⟨q, hq2, rfl, rfl, rfl⟩ := hI
      refine G.region rfl (fun R hR => ?_)
      refine D.pure rfl rfl rfl rfl rfl rfl ?_
      refine D.done [(1, [], _), (2, [], _), (9, [], _), (10, [], _), (24, [], _), (25, [], _), (36, [], _), (37, [], _), (38, [], _), (39, [], _)] ⟨rfl, rfl, rfl, rfl, rfl, rfl, rfl, rfl, rfl, rfl, trivial⟩ (hR _ _ _ rfl ?_); clear hR R
      refine G.cond rfl (fun h39 => ?_) (fun h39 => ?_)
      · skip
        simp only [decide_eq_true_eq] at h39
        have hs36' := hs36.mono hle1
        have hrow36 : ([[.pointer (some ⟨g, i * 3 + 1, none⟩)], [.pointer (some ⟨g, i * 3 + 2, none⟩)]] : List (List Value))[q]? = some [.pointer (some ⟨g, i * 3 + (q + 1), none⟩)] := by
          have : q = 0 ∨ q = 1 := by omega
          rcases this with rfl | rfl <;> rfl
        obtain ⟨sq, hsq⟩ : ∃ s : Str, s = (if q = 0 then x.upper else x.lower) := ⟨_, rfl⟩
        have hcell : (Rel.enc (renQ a b q x))[q + 1]? = some (strV sq) := by
          have : q = 0 ∨ q = 1 := by omega
          rcases this with rfl | rfl <;> subst hsq <;> simp [renQ, Rel.enc]
        have hfitq : i * 3 + (q + 1) + 1 ≤ ((R.set i (renQ a b q x)).map Rel.enc).flatten.length := by
          rw [rows_len rel_len, List.length_set, hlen]; omega
        refine G.region rfl (fun R hR => ?_)
        refine D.index0 hs36' rfl rfl rfl rfl rfl rfl rfl rfl rfl rfl (by omega) hrow36 (fun _ => rfl) (fun p40 hp40 => ?_)
        refine D.loadP0 hp40 rfl rfl rfl rfl rfl rfl rfl rfl ?_
        refine D.pure rfl rfl rfl rfl rfl rfl ?_
        refine D.done [(1, [], _), (2, [], _), (9, [], _), (10, [], _), (12, [], _), (24, [], _), (25, [], _), (36, [], _), (37, [], _), (38, [], _)] ⟨rfl, rfl, rfl, rfl, rfl, rfl, rfl, rfl, rfl, rfl, trivial⟩ (hR _ _ _ rfl ?_); clear hR R
        refine G.region rfl (fun R hR => ?_)
        iterate 2 refine D.pure rfl rfl rfl rfl rfl rfl ?_
        refine D.loadArr (.head _) rfl rfl rfl rfl rfl rfl (fun _ => by rw [row_cell rel_len (hgetq q) hcell]; rfl) rfl rfl ?_
        iterate 2 refine D.pure rfl rfl rfl rfl rfl rfl ?_
        refine D.done [(1, [], _), (2, [], _), (9, [], _), (10, [], _), (12, [], _), (24, [], _), (25, [], _), (36, [], _), (37, [], _), (38, [], _), (46, [], (.bool (sq == a)))] ⟨rfl, rfl, rfl, rfl, rfl, rfl, rfl, rfl, rfl, rfl, rfl, trivial⟩ (hR _ _ _ rfl ?_); clear hR R
        refine G.cond rfl (fun h46 => ?_) (fun h46 => ?_)
        · skip
          have h46' : sq = a := by simpa using h46
          have hset : storeInto (Rel.enc (renQ a b q x)) [strV b] (q + 1) = Rel.enc (renQ a b (q + 1) x) := by
            have : q = 0 ∨ q = 1 := by omega
            rcases this with rfl | rfl
            · have e : x.upper = a := by rw [← h46', hsq]; rfl
              simp [renQ, Rel.enc, storeInto, renS, e]
            · have e : x.lower = a := by rw [← h46', hsq]; rfl
              simp [renQ, Rel.enc, storeInto, renS, e]
          have hw : storeInto ((R.set i (renQ a b q x)).map Rel.enc).flatten [strV b] (i * 3 + (q + 1)) = ((R.set i (renQ a b (q + 1) x)).map Rel.enc).flatten := by
            rw [row_part rel_len (hgetq q) hset (by simp; omega), List.set_set]
          refine G.region rfl (fun R hR => ?_)
          iterate 3 refine D.pure rfl rfl rfl rfl rfl rfl ?_
          refine D.storeArr (j := 0) rfl rfl rfl rfl rfl rfl rfl rfl rfl rfl rfl (by simp only [List.length_singleton]; exact hfitq) ?_
          refine D.done [(1, [], _), (2, [], _), (9, [], _), (10, [], _), (24, [], _), (25, [], _), (36, [], _), (37, [], _), (38, [], _)] ⟨rfl, rfl, rfl, rfl, rfl, rfl, rfl, rfl, rfl, trivial⟩ (hR _ _ _ rfl ?_); clear hR R
          refine G.region rfl (fun R hR => ?_)
          refine D.i64 _ rfl rfl rfl rfl rfl (by omega) (by omega) rfl rfl ?_
          refine D.pure rfl rfl rfl rfl rfl rfl ?_
          refine D.done [(1, [], _), (2, [], _), (9, [], _), (10, [], _), (24, [], _), (25, [], _), (36, [], _), (37, [], _), (38, [], _)] ⟨rfl, rfl, rfl, rfl, rfl, rfl, rfl, rfl, rfl, trivial⟩ (hR _ _ _ rfl ?_); clear hR R
          refine G.eqL (L' := [.arr (.slice (some ⟨g, 0, none⟩) l.length c) 25 3 l.length ((R.set i (renQ a b (q + 1) x)).map Rel.enc).flatten]) (by rw [← hw]; rfl) ?_
          refine G.again (m' := 2 - (q + 1)) (by omega) hle1 (fr' := [(1, [], _), (2, [], _), (9, [], _), (10, [], _), (24, [], _), (25, [], _), (36, [], _), (37, [], _), (38, [], _)]) ⟨rfl, rfl, rfl, rfl, rfl, rfl, rfl, rfl, rfl, trivial⟩ ⟨q + 1, by omega, rfl, rfl, rfl⟩
        · skip
          have h46' : ¬ sq = a := by simpa using h46
          have hsame : renQ a b (q + 1) x = renQ a b q x := by
            have : q = 0 ∨ q = 1 := by omega
            rcases this with rfl | rfl
            · have e : ¬ x.upper = a := by intro e; exact h46' (by rw [hsq]; exact e)
              simp [renQ, renS, e]
            · have e : ¬ x.lower = a := by intro e; exact h46' (by rw [hsq]; exact e)
              simp [renQ, renS, e]
          refine G.region rfl (fun R hR => ?_)
          refine D.i64 _ rfl rfl rfl rfl rfl (by omega) (by omega) rfl rfl ?_
          refine D.pure rfl rfl rfl rfl rfl rfl ?_
          refine D.done [(1, [], _), (2, [], _), (9, [], _), (10, [], _), (24, [], _), (25, [], _), (36, [], _), (37, [], _), (38, [], _)] ⟨rfl, rfl, rfl, rfl, rfl, rfl, rfl, rfl, rfl, trivial⟩ (hR _ _ _ rfl ?_); clear hR R
          refine G.eqL (L' := [.arr (.slice (some ⟨g, 0, none⟩) l.length c) 25 3 l.length ((R.set i (renQ a b (q + 1) x)).map Rel.enc).flatten]) (by rw [hsame]) ?_
          refine G.again (m' := 2 - (q + 1)) (by omega) hle1 (fr' := [(1, [], _), (2, [], _), (9, [], _), (10, [], _), (24, [], _), (25, [], _), (36, [], _), (37, [], _), (38, [], _)]) ⟨rfl, rfl, rfl, rfl, rfl, rfl, rfl, rfl, rfl, trivial⟩ ⟨q + 1, by omega, rfl, rfl, rfl⟩
      · skip
        simp only [decide_eq_false_iff_not] at h39
        have hq : q = 2 := by omega
        subst hq
        have e2 : renQ a b 2 x = ren a b x := by simp [renQ, ren]
        have hg2 : (R.set i (ren a b x))[i]? = some (ren a b x) := List.getElem?_set_self (by rw [hlen]; exact hil)
        refine G.eqL (L' := [.arr (.slice (some ⟨g, 0, none⟩) l.length c) 25 3 l.length ((R.set i (ren a b x)).map Rel.enc).flatten]) (by rw [e2]) ?_
        refine G.draw [0, 1, 2, 3, 4, 5, 6, 7, 8, 9, 10] [] rfl (by kernel_rfl) (fun R hB hR => ?_)
        iterate 2 refine D.pure rfl rfl rfl rfl rfl rfl ?_
        refine D.indexS (i * 3) rfl rfl rfl rfl rfl rfl rfl rfl rfl rfl (fun _ => ⟨by omega, by omega, rfl⟩) rfl rfl ?_
        refine D.pure rfl rfl rfl rfl rfl rfl ?_
        refine D.loadArr (.head _) rfl rfl rfl rfl rfl rfl (fun _ => (by rw [row_cell (j := 1) rel_len hg2 rfl]; rfl)) rfl rfl ?_
        iterate 2 refine D.pure rfl rfl rfl rfl rfl rfl ?_
        refine D.indexS (i * 3) rfl rfl rfl rfl rfl rfl rfl rfl rfl rfl (fun _ => ⟨by omega, by omega, rfl⟩) rfl rfl ?_
        refine D.pure rfl rfl rfl rfl rfl rfl ?_
        refine D.loadArr (.head _) rfl rfl rfl rfl rfl rfl (fun _ => (by rw [row_cell (j := 2) rel_len hg2 rfl]; rfl)) rfl rfl ?_
        refine D.pure rfl rfl rfl rfl rfl rfl ?_
        refine D.done [(1, [], _), (2, [], _), (9, [], _), (24, [], _), (25, [], _), (61, [], (.bool (conf a b x)))] ⟨rfl, rfl, rfl, rfl, rfl, rfl, trivial⟩ (hR _ _ _ rfl ?_); clear hR hB R
        refine G.cond rfl (fun h61 => ?_) (fun h61 => ?_)
        · skip
          refine G.region rfl (fun R hR => ?_)
          iterate 2 refine D.pure rfl rfl rfl rfl rfl rfl ?_
          refine D.done [(6, [], _), (7, [], _)] ⟨rfl, rfl, trivial⟩ (hR _ _ _ rfl ?_); clear hR R
          refine G.retN (G.dropAll (G.fin2 rfl rfl rfl ?_))
          refine ⟨rfl, .inr (.inl ⟨h19', ?_, rfl⟩)⟩
          exact List.any_eq_true.2 ⟨x, List.mem_of_getElem? hx, h61⟩
        · skip
          refine G.region rfl (fun R hR => ?_)
          refine D.i64 _ rfl rfl rfl rfl rfl (by omega) (by omega) rfl rfl ?_
          refine D.pure rfl rfl rfl rfl rfl rfl ?_
          refine D.done [(1, [], _), (2, [], _), (9, [], _), (24, [], _), (25, [], _)] ⟨rfl, rfl, rfl, rfl, rfl, trivial⟩ (hR _ _ _ rfl ?_); clear hR R
          refine G.eqL (L' := [.arr (.slice (some ⟨g, 0, none⟩) l.length c) 25 3 l.length (((l.take (i + 1)).map (ren a b) ++ l.drop (i + 1)).map Rel.enc).flatten]) (by rw [← hstep]) ?_
          refine G.again (m' := l.length - (i + 1)) (by omega) (hle0.trans (hle36.trans hle1)) (fr' := [(1, [], _), (2, [], _), (9, [], _), (24, [], _), (25, [], _)]) ⟨rfl, rfl, rfl, rfl, rfl, trivial⟩ ⟨i + 1, ⟨by omega, by rw [List.take_add_one, hx, List.any_append, hnc]; simp [h61]⟩, rfl, rfl, rfl⟩
    · skip
      simp only [decide_eq_false_iff_not] at h26
      have hie : i = l.length := by omega
      subst hie
      rw [List.take_length] at hnc
      refine G.eqL (L' := [.arr (.slice A l.length c0) 25 3 l.length ((renameL l a b).map Rel.enc).flatten]) (by simp [renameL]) ?_
      refine G.region rfl (fun R hR => ?_)
      iterate 3 refine D.pure rfl rfl rfl rfl rfl rfl ?_
      refine D.done [(6, [], _), (7, [], _)] ⟨rfl, rfl, trivial⟩ (hR _ _ _ rfl ?_); clear hR R
      refine G.freezeArr 0 ((renameL l a b).map Rel.enc) rfl rfl (by intro r hr; obtain ⟨y, _, rfl⟩ := List.mem_map.1 hr; exact rel_len y) (by simp [renameL]) (fun Cf hlef hsf => G.retN (G.fin2 rfl rfl rfl ?_))
      exact ⟨rfl, .inr (.inr ⟨h19', hnc, _, rfl, hsf⟩)⟩
/-! ### Units -/
def namesOf (l : List Rel) : List Str := (l.map fun x => [x.upper, x.lower]).flatten
def unitsL (l : List Rel) : List Str := setL cmpS (namesOf l)
theorem namesOf_len (l : List Rel) : (namesOf l).length = 2 * l.length := by
  induction l with
  | nil => rfl
  | cons x l ih => simp only [namesOf, List.map_cons, List.flatten_cons, List.length_append, List.length_cons, List.length_nil] at ih ⊢; omega
theorem mem_namesOf {l : List Rel} {s : Str} : s ∈ namesOf l ↔ ∃ x ∈ l, s = x.upper ∨ s = x.lower := by
  simp only [namesOf, List.mem_flatten, List.mem_map]
  constructor
  · rintro ⟨_, ⟨x, hx, rfl⟩, h⟩
    exact ⟨x, hx, by simpa using h⟩
  · rintro ⟨x, hx, h⟩
    exact ⟨_, ⟨x, hx, rfl⟩, by simpa using h⟩
theorem ms_sorted (l : List Str) : (l.mergeSort fun x y => decide (x ≤ y)).Pairwise (fun x y => ltOf cmpS y x = false) := by
  refine (List.pairwise_mergeSort (le := fun x y : Str => decide (x ≤ y)) (fun a b c h1 h2 => ?_) (fun a b => ?_) l).imp (fun {a b} h => ?_)
  · simp only [decide_eq_true_eq] at *
    exact List.le_trans h1 h2
  · simp only [Bool.or_eq_true, decide_eq_true_eq]
    exact List.le_total a b
  · simp only [decide_eq_true_eq] at h
    show decide (cmpS b a < 0) = false
    refine decide_eq_false (fun h2 => ?_)
    have h3 := (cmpS_neg b a).1 h2
    rw [bytesLess_eq] at h3
    simp only [decide_eq_true_eq] at h3
    exact List.not_lt.2 h h3
theorem flat_enc (l : List Str) : (l.map encS).flatten = l.map strV := flatten_map1 strV l

theorem units_fn (C : Mem) (v : Value) (l : List Rel) (hv : Sl C 3 v (l.map Rel.enc)) (hl : l.length ≤ 100000) (hok : ∀ x ∈ l, x.short) : Pur cx.P 10 [v] C fun r C' =>
    (errAll l ≠ 0 ∧ r = errRes (errAll l)) ∨ (errAll l = 0 ∧ ∃ u, r = .tuple #[u, .int .i64 0] ∧ Sl C' 1 u ((unitsL l).map encS)) := by
  have hv0 := hv
  obtain ⟨A, c, rfl, _⟩ := hv0
  refine Fn.intro (by kernel_rfl) Tryz.func10 rfl 31 rfl rfl (fun w0 => ?_)
  refine G.region rfl (fun R hR => ?_)
  iterate 2 refine D.pure rfl rfl rfl rfl rfl rfl ?_
  refine D.done [(0, [], _)] ⟨rfl, trivial⟩ (hR _ _ _ rfl ?_); clear hR R
  refine G.region rfl (fun R hR => ?_)
  refine D.pure rfl rfl rfl rfl rfl rfl ?_
  refine D.gives2 (checkAll_spec _ l _ hv hok) rfl rfl rfl rfl rfl rfl rfl (fun _ => rfl) ?_
  refine D.pure rfl rfl rfl rfl rfl rfl ?_
  refine D.done [(0, [], _), (4, [], _)] ⟨rfl, rfl, trivial⟩ (hR _ _ _ rfl ?_); clear hR R
  refine G.region rfl (fun R hR => ?_)
  iterate 2 refine D.pure rfl rfl rfl rfl rfl rfl ?_
  refine D.done [(0, [], _), (4, [], _), (11, [], _)] ⟨rfl, rfl, rfl, trivial⟩ (hR _ _ _ rfl ?_); clear hR R
  refine G.cond rfl (fun h11 => ?_) (fun h11 => ?_)
  · skip
    have h11' : errAll l ≠ 0 := by simpa using h11
    refine G.region rfl (fun R hR => ?_)
    iterate 3 refine D.pure rfl rfl rfl rfl rfl rfl ?_
    refine D.done [(2, [], _), (3, [], _)] ⟨rfl, rfl, trivial⟩ (hR _ _ _ rfl ?_); clear hR R
    refine G.retN (G.dropAll (G.fin2 rfl rfl rfl ?_))
    exact ⟨rfl, .inl ⟨h11', rfl⟩⟩
  · skip
    have h11' : errAll l = 0 := by simpa using h11
    refine G.region rfl (fun R hR => ?_)
    refine D.pure rfl rfl rfl rfl rfl rfl ?_
    refine D.done [(0, [], _), (5, [], _)] ⟨rfl, rfl, trivial⟩ (hR _ _ _ rfl ?_); clear hR R
    refine G.region rfl (fun R hR => ?_)
    iterate 3 refine D.pure rfl rfl rfl rfl rfl rfl ?_
    refine D.done [(5, [], _), (13, [], _), (14, [], _), (15, [], _)] ⟨rfl, rfl, rfl, rfl, trivial⟩ (hR _ _ _ rfl ?_); clear hR R
    refine G.nilArr 9 1 ?_
    refine G.loop (fun fr C' L' μ => ∃ (k : Nat) (w5 : Value), (k ≤ l.length) ∧ fr = [(5, [], w5), (13, [], .slice A (l.map Rel.enc).length c), (14, [], .int .i64 (l.map Rel.enc).length), (15, [], .int .i64 k)] ∧ L' = [.arr w5 9 1 (namesOf (l.take k)).length ((namesOf (l.take k)).map encS).flatten] ∧ μ = l.length - k) (fr' := [(5, [], _), (13, [], _), (14, [], _), (15, [], _)]) ⟨rfl, rfl, rfl, rfl, trivial⟩ ⟨0, .slice none 0 0, Nat.zero_le _, rfl, rfl, rfl⟩ (fun fr C0' L0' m hle0 hI => ?_)
    obtain ⟨k, w5, hk, rfl, rfl, rfl⟩ := hI
    refine G.region rfl (fun R hR => ?_)
    refine D.pure rfl rfl rfl rfl rfl rfl ?_
    refine D.done [(5, [], _), (13, [], _), (14, [], _), (15, [], _), (16, [], _)] ⟨rfl, rfl, rfl, rfl, rfl, trivial⟩ (hR _ _ _ rfl ?_); clear hR R
    refine G.cond rfl (fun h16 => ?_) (fun h16 => ?_)
    · skip
      simp only [List.length_map, decide_eq_true_eq] at h16
      have hkl : k < l.length := by omega
      obtain ⟨x, hx⟩ : ∃ x, l[k]? = some x := ⟨l[k], List.getElem?_eq_getElem hkl⟩
      have hv1 := hv.mono hle0
      have hal := namesOf_len (l.take k)
      have hal2 : (l.take k).length ≤ l.length := by simp; omega
      have htk : namesOf (l.take (k + 1)) = namesOf (l.take k) ++ [x.upper, x.lower] := by
        have : l.take (k + 1) = l.take k ++ [x] := by rw [List.take_add_one, hx]; rfl
        rw [this, namesOf, List.map_append, List.flatten_append]; simp [namesOf]
      refine G.region rfl (fun R hR => ?_)
      refine D.index0 hv1 rfl rfl rfl rfl rfl rfl rfl rfl rfl rfl (by omega) (row := x.enc) (by simp [hx]) (fun _ => rfl) (fun p17 hp17 => ?_)
      refine D.loadP0 hp17 rfl rfl rfl rfl rfl rfl rfl rfl ?_
      refine D.alloc rfl rfl rfl rfl rfl (fun _ => rfl) (fun b7 => ?_)
      refine D.store (j := 0) rfl rfl rfl rfl rfl rfl rfl rfl rfl rfl rfl rfl ?_
      refine D.done [(5, [], _), (7, [], _), (13, [], _), (14, [], _), (15, [], _)] ⟨rfl, rfl, rfl, rfl, rfl, trivial⟩ (hR _ _ _ rfl ?_); clear hR R
      refine G.region rfl (fun R hR => ?_)
      iterate 2 refine D.pure rfl rfl rfl rfl rfl rfl ?_
      refine D.loadL (.head _) rfl rfl rfl rfl rfl rfl rfl rfl rfl ?_
      refine D.pure rfl rfl rfl rfl rfl rfl ?_
      refine D.loadL (.head _) rfl rfl rfl rfl rfl rfl rfl rfl rfl ?_
      refine D.buildSlice [encS x.upper, encS x.lower] rfl rfl rfl rfl rfl rfl rfl rfl rfl rfl rfl rfl (fun _ => rfl) (fun p24 C24 hle24 hs24 => ?_)
      refine D.append (j := 1) rfl rfl rfl rfl rfl rfl rfl rfl rfl rfl rfl hs24 rfl (by simp only [List.length_cons, List.length_nil, maxLen]; omega) (by simp only [List.length_cons, List.length_nil]; omega) (fun _ => rfl) (fun v25 => ?_)
      refine D.pure rfl rfl rfl rfl rfl rfl ?_
      refine D.done [(5, [], _), (13, [], _), (14, [], _), (15, [], _)] ⟨rfl, rfl, rfl, rfl, trivial⟩ (hR _ _ _ rfl ?_); clear hR R
      refine G.region rfl (fun R hR => ?_)
      refine D.i64 _ rfl rfl rfl rfl rfl (by omega) (by omega) rfl rfl ?_
      refine D.pure rfl rfl rfl rfl rfl rfl ?_
      refine D.done [(5, [], _), (13, [], _), (14, [], _), (15, [], _)] ⟨rfl, rfl, rfl, rfl, trivial⟩ (hR _ _ _ rfl ?_); clear hR R
      refine G.dropE 1 rfl ?_
      refine G.eqL (L' := [.arr v25 9 1 (namesOf (l.take (k + 1))).length ((namesOf (l.take (k + 1))).map encS).flatten]) (by rw [htk]; simp) ?_
      refine G.again (m' := l.length - (k + 1)) (by omega) (hle0.trans hle24) (fr' := [(5, [], _), (13, [], _), (14, [], _), (15, [], _)]) ⟨rfl, rfl, rfl, rfl, trivial⟩ ⟨k + 1, v25, by omega, rfl, rfl, rfl⟩
    · skip
      simp only [List.length_map, decide_eq_false_iff_not] at h16
      have hkl : k = l.length := by omega
      subst hkl
      have hnl := namesOf_len l
      refine G.eqL (L' := [.arr w5 9 1 (namesOf l).length ((namesOf l).map strV)]) (by rw [List.take_length, flat_enc]) ?_
      refine G.regionO [(1, 3)] rfl (fun R hR => ?_)
      refine D.pure rfl rfl rfl rfl rfl rfl ?_
      refine D.call (sortStr_fn Tryz.sortStr _ w5 9 (namesOf l) (by omega) (by kernel_rfl)) rfl (.inr (by decide)) rfl rfl rfl rfl rfl rfl (List.Perm.refl _) (fun _ => rfl) (fun v28 C28 L28 hle28 hq28 => ?_)
      refine D.done [(5, [], _)] ⟨rfl, trivial⟩ (hR _ _ _ rfl ?_); clear hR R
      obtain ⟨rfl, rfl⟩ := hq28
      have hperm := List.mergeSort_perm (namesOf l) (fun x y => decide (x ≤ y))
      have hsorted := ms_sorted (namesOf l)
      obtain ⟨l', hl'⟩ : ∃ l', (namesOf l).mergeSort (fun x y => decide (x ≤ y)) = l' := ⟨_, rfl⟩
      rw [hl'] at hperm hsorted
      have hl'len := hperm.length_eq
      refine G.eqL (L' := [.arr w5 9 1 l'.length (l'.map encS).flatten]) (by rw [hl', hl'len, flat_enc]; rfl) ?_
      refine G.regionO [(1, 3)] rfl (fun R hR => ?_)
      refine D.pure rfl rfl rfl rfl rfl rfl ?_
      refine D.call (compact_str _ _ l' (by rw [hl'len]; omega)) rfl (.inr (by decide)) rfl rfl rfl rfl rfl rfl (List.Perm.refl _) (fun _ => rfl) (fun v30 C30 L30 hle30 hq30 => ?_)
      obtain ⟨rfl, hcs⟩ := hq30
      iterate 2 refine D.pure rfl rfl rfl rfl rfl rfl ?_
      refine D.done [(2, [], _), (3, [], _)] ⟨rfl, rfl, trivial⟩ (hR _ _ _ rfl ?_); clear hR R
      refine G.retN (G.dropAll (G.fin2 rfl rfl rfl ?_))
      refine ⟨rfl, .inr ⟨h11', _, rfl, ?_⟩⟩
      rw [unitsL, ← tot_cmpS.compact_eq hperm hsorted]
      exact hcs

theorem isName_law (C : Mem) (s : Str) : Gives cx.P 18 [strV s] C (.bool (isNameB s)) := by
  refine Fn.intro (by kernel_rfl) Tryz.func18 rfl 68 rfl rfl (fun w0 => ?_)
  refine G.region rfl (fun R hR => ?_)
  refine D.pure rfl rfl rfl rfl rfl rfl ?_
  refine D.done [(0, [], _)] ⟨rfl, trivial⟩ (hR _ _ _ rfl ?_); clear hR R
  refine G.region rfl (fun R hR => ?_)
  iterate 7 refine D.pure rfl rfl rfl rfl rfl rfl ?_
  refine D.pickOr rfl rfl rfl rfl rfl rfl rfl rfl ?_
  refine D.done [(0, [], _), (13, [], _)] ⟨rfl, rfl, trivial⟩ (hR _ _ _ rfl ?_); clear hR R
  refine G.cond rfl (fun h13 => ?_) (fun h13 => ?_)
  · skip
    replace h13 : (decide ((s.length : Int) < 1) || decide (32 < (s.length : Int))) = true := h13
    simp only [Bool.or_eq_true, decide_eq_true_eq] at h13
    refine G.region rfl (fun R hR => ?_)
    refine D.pure rfl rfl rfl rfl rfl rfl ?_
    refine D.done [(2, [], _)] ⟨rfl, trivial⟩ (hR _ _ _ rfl ?_); clear hR R
    refine G.retN (G.dropAll (G.fin1 rfl rfl ?_))
    refine ⟨?_, rfl⟩
    congr 1
    unfold isNameB
    rcases h13 with h | h
    · have : s = [] := List.eq_nil_of_length_eq_zero (by omega)
      simp [this]
    · have h2 : ¬ s.length ≤ 32 := by omega
      simp [h2]
  · skip
    replace h13 : (decide ((s.length : Int) < 1) || decide (32 < (s.length : Int))) = false := h13
    simp only [Bool.or_eq_false_iff, decide_eq_false_iff_not] at h13
    have hne : s ≠ [] := fun e => by subst e; simp at h13
    have h32 : s.length ≤ 32 := by omega
    refine G.region rfl (fun R hR => ?_)
    refine D.pure rfl rfl rfl rfl rfl rfl ?_
    refine D.done [(0, [], _), (3, [], _)] ⟨rfl, rfl, trivial⟩ (hR _ _ _ rfl ?_); clear hR R
    refine G.loop (fun fr C' L' μ => ∃ (k : Nat), (k ≤ s.length ∧ ∀ i b, i < k → s[i]? = some b → nameByte (0 + i) b = true) ∧ fr = [(0, [], strV s), (3, [], .int .i64 k)] ∧ L' = [] ∧ μ = s.length - k) (fr' := [(0, [], _), (3, [], _)]) ⟨rfl, rfl, trivial⟩ ⟨0, ⟨Nat.zero_le _, fun i b hi => by omega⟩, rfl, rfl, rfl⟩ (fun fr C0' L0' m hle0 hI => ?_)
    obtain ⟨k, ⟨hk, hall⟩, rfl, rfl, rfl⟩ := hI
    refine G.region rfl (fun R hR => ?_)
    iterate 4 refine D.pure rfl rfl rfl rfl rfl rfl ?_
    refine D.done [(0, [], _), (3, [], _), (17, [], _)] ⟨rfl, rfl, rfl, trivial⟩ (hR _ _ _ rfl ?_); clear hR R
    refine G.cond rfl (fun h17 => ?_) (fun h17 => ?_)
    · skip
      replace h17 : decide ((k : Int) < (s.length : Int)) = true := h17
      simp only [decide_eq_true_eq] at h17
      have hkl : k < s.length := by omega
      obtain ⟨b, hb⟩ : ∃ b, s[k]? = some b := ⟨s[k], List.getElem?_eq_getElem hkl⟩
      refine G.region rfl (fun R hR => ?_)
      iterate 2 refine D.pure rfl rfl rfl rfl rfl rfl ?_
      refine D.indexStr rfl rfl rfl rfl rfl rfl rfl rfl (fun _ => ⟨by omega, hb⟩) rfl rfl ?_
      iterate 4 refine D.pure rfl rfl rfl rfl rfl rfl ?_
      refine D.indexStr rfl rfl rfl rfl rfl rfl rfl rfl (fun _ => ⟨by omega, hb⟩) rfl rfl ?_
      refine D.pure rfl rfl rfl rfl rfl rfl ?_
      refine D.pickAnd rfl rfl rfl rfl rfl rfl rfl rfl ?_
      iterate 3 refine D.pure rfl rfl rfl rfl rfl rfl ?_
      refine D.indexStr rfl rfl rfl rfl rfl rfl rfl rfl (fun _ => ⟨by omega, hb⟩) rfl rfl ?_
      iterate 4 refine D.pure rfl rfl rfl rfl rfl rfl ?_
      refine D.indexStr rfl rfl rfl rfl rfl rfl rfl rfl (fun _ => ⟨by omega, hb⟩) rfl rfl ?_
      refine D.pure rfl rfl rfl rfl rfl rfl ?_
      refine D.pickAnd rfl rfl rfl rfl rfl rfl rfl rfl ?_
      refine D.pickOr rfl rfl rfl rfl rfl rfl rfl rfl ?_
      refine D.pure rfl rfl rfl rfl rfl rfl ?_
      refine D.done [(0, [], _), (3, [], _), (4, [], (.bool (letterB b)))] ⟨rfl, rfl, rfl, trivial⟩ (hR _ _ _ rfl ?_); clear hR R
      refine G.region rfl (fun R hR => ?_)
      iterate 2 refine D.pure rfl rfl rfl rfl rfl rfl ?_
      refine D.indexStr rfl rfl rfl rfl rfl rfl rfl rfl (fun _ => ⟨by omega, hb⟩) rfl rfl ?_
      iterate 4 refine D.pure rfl rfl rfl rfl rfl rfl ?_
      refine D.indexStr rfl rfl rfl rfl rfl rfl rfl rfl (fun _ => ⟨by omega, hb⟩) rfl rfl ?_
      refine D.pure rfl rfl rfl rfl rfl rfl ?_
      refine D.pickAnd rfl rfl rfl rfl rfl rfl rfl rfl ?_
      iterate 3 refine D.pure rfl rfl rfl rfl rfl rfl ?_
      refine D.indexStr rfl rfl rfl rfl rfl rfl rfl rfl (fun _ => ⟨by omega, hb⟩) rfl rfl ?_
      refine D.pure rfl rfl rfl rfl rfl rfl ?_
      refine D.pickOr rfl rfl rfl rfl rfl rfl rfl rfl ?_
      refine D.pure rfl rfl rfl rfl rfl rfl ?_
      refine D.done [(0, [], _), (3, [], _), (4, [], _), (5, [], (.bool (digitB b)))] ⟨rfl, rfl, rfl, rfl, trivial⟩ (hR _ _ _ rfl ?_); clear hR R
      refine G.region rfl (fun R hR => ?_)
      iterate 8 refine D.pure rfl rfl rfl rfl rfl rfl ?_
      refine D.pickOr rfl rfl rfl rfl rfl rfl rfl rfl ?_
      refine D.pickAnd rfl rfl rfl rfl rfl rfl rfl rfl ?_
      have hbyte : (!(letterB b) && (((k : Int) == 0) || !(digitB b))) = !(nameByte (0 + k) b) := by
        have e : ((k : Int) == 0) = (0 + k == 0) := by
          rw [Nat.zero_add]
          by_cases hk0 : k = 0
          · subst hk0; rfl
          · have : ¬ (k : Int) = 0 := by omega
            rw [beq_eq_false_iff_ne.2 this, beq_eq_false_iff_ne.2 hk0]
        unfold nameByte
        rw [e]
        cases letterB b <;> cases digitB b <;> cases (0 + k == 0) <;> rfl
      refine D.done [(0, [], _), (3, [], _), (67, [], (.bool (!(letterB b) && (((k : Int) == 0) || !(digitB b)))))] ⟨rfl, rfl, rfl, trivial⟩ (hR _ _ _ rfl ?_); clear hR R
      refine G.cond rfl (fun h67 => ?_) (fun h67 => ?_)
      · skip
        rw [hbyte] at h67
        refine G.region rfl (fun R hR => ?_)
        refine D.pure rfl rfl rfl rfl rfl rfl ?_
        refine D.done [(2, [], _)] ⟨rfl, trivial⟩ (hR _ _ _ rfl ?_); clear hR R
        refine G.retN (G.dropAll (G.fin1 rfl rfl ?_))
        refine ⟨?_, rfl⟩
        have := nameFrom_at (k := 0) hb (by simpa using h67)
        simp [isNameB, this]
      · skip
        rw [hbyte] at h67
        refine G.region rfl (fun R hR => ?_)
        refine D.pure rfl rfl rfl rfl rfl rfl ?_
        refine D.i64 (((k + 1 : Nat) : Int)) rfl rfl rfl rfl (by omega) (by omega) (by omega) rfl rfl ?_
        refine D.pure rfl rfl rfl rfl rfl rfl ?_
        refine D.done [(0, [], _), (3, [], _)] ⟨rfl, rfl, trivial⟩ (hR _ _ _ rfl ?_); clear hR R
        refine G.again (m' := s.length - (k + 1)) (by omega) hle0 (fr' := [(0, [], _), (3, [], _)]) ⟨rfl, rfl, trivial⟩ ⟨k + 1, ⟨by omega, fun i b' hi hb' => by
          by_cases h1 : i < k
          · exact hall i b' h1 hb'
          · have : i = k := by omega
            subst this
            rw [hb] at hb'
            cases hb'
            simpa using h67⟩, rfl, rfl, rfl⟩
    · skip
      replace h17 : decide ((k : Int) < (s.length : Int)) = false := h17
      simp only [decide_eq_false_iff_not] at h17
      refine G.region rfl (fun R hR => ?_)
      refine D.pure rfl rfl rfl rfl rfl rfl ?_
      refine D.done [(2, [], _)] ⟨rfl, trivial⟩ (hR _ _ _ rfl ?_); clear hR R
      refine G.retN (G.dropAll (G.fin1 rfl rfl ?_))
      refine ⟨?_, rfl⟩
      have := nameFrom_all (s := s) (k := 0) (fun i b hb => hall i b (by have := (List.getElem?_eq_some_iff.1 hb).1; omega) hb)
      simp [isNameB, this, hne, h32]

theorem check_law (C : Mem) (x : Rel) : Gives cx.P 6 [.agg ⟨x.enc⟩] C (.int .i64 (errOf x)) := by
  refine Fn.intro (by kernel_rfl) Tryz.func6 rfl 29 rfl rfl (fun w0 => ?_)
  refine G.region rfl (fun R hR => ?_)
  refine D.box rfl rfl rfl rfl rfl rfl (fun _ => rfl) (fun b1 => ?_)
  refine D.pure rfl rfl rfl rfl rfl rfl ?_
  refine D.done [(1, [], _)] ⟨rfl, trivial⟩ (hR _ _ _ rfl ?_); clear hR R
  refine G.region rfl (fun R hR => ?_)
  refine D.pure rfl rfl rfl rfl rfl rfl ?_
  refine D.loadL (.head _) rfl rfl rfl rfl rfl rfl rfl rfl rfl ?_
  iterate 3 refine D.pure rfl rfl rfl rfl rfl rfl ?_
  refine D.loadL (.head _) rfl rfl rfl rfl rfl rfl rfl rfl rfl ?_
  refine D.pure rfl rfl rfl rfl rfl rfl ?_
  refine D.pickOr rfl rfl rfl rfl rfl rfl rfl rfl ?_
  refine D.pure rfl rfl rfl rfl rfl rfl ?_
  refine D.done [(1, [], _), (3, [], _)] ⟨rfl, rfl, trivial⟩ (hR _ _ _ rfl ?_); clear hR R
  refine G.cond rfl (fun h3 => ?_) (fun h3 => ?_)
  · skip
    have h3' : x.kind < 1 ∨ 4 < x.kind := by simpa using h3
    refine G.region rfl (fun R hR => ?_)
    refine D.pure rfl rfl rfl rfl rfl rfl ?_
    refine D.done [(2, [], _)] ⟨rfl, trivial⟩ (hR _ _ _ rfl ?_); clear hR R
    refine G.retN (G.dropAll (G.fin1 rfl rfl ?_))
    exact ⟨by rw [errOf, if_pos h3'], rfl⟩
  · skip
    have h3' : ¬ (x.kind < 1 ∨ 4 < x.kind) := by simpa using h3
    refine G.region rfl (fun R hR => ?_)
    refine D.pure rfl rfl rfl rfl rfl rfl ?_
    refine D.loadL (.head _) rfl rfl rfl rfl rfl rfl rfl rfl rfl ?_
    refine D.gives2 (isName_law _ _) rfl rfl rfl rfl rfl rfl rfl (fun _ => rfl) ?_
    iterate 3 refine D.pure rfl rfl rfl rfl rfl rfl ?_
    refine D.loadL (.head _) rfl rfl rfl rfl rfl rfl rfl rfl rfl ?_
    refine D.gives (fun _ => (isName_law _ _)) rfl rfl rfl rfl rfl rfl rfl rfl rfl ?_
    refine D.pure rfl rfl rfl rfl rfl rfl ?_
    refine D.pickOr rfl rfl rfl rfl rfl rfl rfl rfl ?_
    refine D.pure rfl rfl rfl rfl rfl rfl ?_
    refine D.done [(1, [], _), (12, [], _)] ⟨rfl, rfl, trivial⟩ (hR _ _ _ rfl ?_); clear hR R
    refine G.cond rfl (fun h12 => ?_) (fun h12 => ?_)
    · skip
      have h12' : isNameB x.upper = false ∨ isNameB x.lower = false := by simpa using h12
      refine G.region rfl (fun R hR => ?_)
      refine D.pure rfl rfl rfl rfl rfl rfl ?_
      refine D.done [(2, [], _)] ⟨rfl, trivial⟩ (hR _ _ _ rfl ?_); clear hR R
      refine G.retN (G.dropAll (G.fin1 rfl rfl ?_))
      exact ⟨by rw [errOf, if_neg h3', if_pos h12'], rfl⟩
    · skip
      have h12' : ¬ (isNameB x.upper = false ∨ isNameB x.lower = false) := by
        simp only [Bool.or_eq_false_iff, Bool.not_eq_false'] at h12
        rw [h12.1, h12.2]; simp
      refine G.region rfl (fun R hR => ?_)
      refine D.pure rfl rfl rfl rfl rfl rfl ?_
      refine D.loadL (.head _) rfl rfl rfl rfl rfl rfl rfl rfl rfl ?_
      refine D.pure rfl rfl rfl rfl rfl rfl ?_
      refine D.loadL (.head _) rfl rfl rfl rfl rfl rfl rfl rfl rfl ?_
      iterate 2 refine D.pure rfl rfl rfl rfl rfl rfl ?_
      refine D.done [(23, [], _)] ⟨rfl, trivial⟩ (hR _ _ _ rfl ?_); clear hR R
      refine G.cond rfl (fun h23 => ?_) (fun h23 => ?_)
      · skip
        have h23' : x.upper = x.lower := by simpa using h23
        refine G.region rfl (fun R hR => ?_)
        refine D.pure rfl rfl rfl rfl rfl rfl ?_
        refine D.done [(2, [], _)] ⟨rfl, trivial⟩ (hR _ _ _ rfl ?_); clear hR R
        refine G.retN (G.dropAll (G.fin1 rfl rfl ?_))
        exact ⟨by rw [errOf, if_neg h3', if_neg h12', if_pos h23'], rfl⟩
      · skip
        have h23' : ¬ x.upper = x.lower := fun e => by rw [e] at h23; simp at h23
        refine G.region rfl (fun R hR => ?_)
        refine D.pure rfl rfl rfl rfl rfl rfl ?_
        refine D.done [(2, [], _)] ⟨rfl, trivial⟩ (hR _ _ _ rfl ?_); clear hR R
        refine G.retN (G.dropAll (G.fin1 rfl rfl ?_))
        exact ⟨by rw [errOf, if_neg h3', if_neg h12', if_neg h23'], rfl⟩
end Go.Proofs.YtjmfjobfmdhbfaaGreatDoor
