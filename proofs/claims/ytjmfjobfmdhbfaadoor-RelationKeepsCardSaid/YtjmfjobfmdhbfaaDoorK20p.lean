/- Layer 20: checkNames, Between, Opposed, and the function of the statement RelationPairs. -/
import Derived.Test.YtjmfjobfmdhbfaaDoorK20g
import Derived.Test.YtjmfjobfmdhbfaaDoorJogL
import Derived.Test.YtjmfjobfmdhbfaaDoorJogM
namespace Go.Proofs.YtjmfjobfmdhbfaaDoor
open Go Go.Jog
set_option maxRecDepth 100000

def natI (i : Nat) : List Value := [.int .i64 i]
def pairI (p : Nat × Nat) : List Value := [.int .i64 p.1, .int .i64 p.2]
def betw (l : List Rel) (a b : Str) (i : Nat) : Bool := match l[i]? with
  | some x => ((x.upper == a) && (x.lower == b)) || ((x.upper == b) && (x.lower == a))
  | none => false
def betweenL (l : List Rel) (a b : Str) : List Nat := idxs (betw l a b) l.length
def oppB (x y : Rel) : Bool := (((!(x.kind == 4)) && (!(y.kind == 4))) && (x.upper == y.lower)) && (x.lower == y.upper)
def opp (l : List Rel) (i k : Nat) : Bool := match l[i]?, l[k]? with
  | some x, some y => decide (i < k) && oppB x y
  | _, _ => false
def oppRow (l : List Rel) (i k : Nat) : List (Nat × Nat) := oneIf (opp l i k) (i, k)
def oppL (l : List Rel) : List (Nat × Nat) := cat (fun i => cat (oppRow l i) l.length) l.length
theorem oppRow_low {l : List Rel} {i n : Nat} (h : n ≤ i + 1) : cat (oppRow l i) n = [] := cat_nil (fun k hk => oneIf_false (by
  unfold opp; split
  · have : ¬ i < k := by omega
    simp [this]
  · rfl))
theorem opp_len (l : List Rel) (i n : Nat) : (cat (oppRow l i) n).length ≤ n := by
  have := cat_length_mul (f := oppRow l i) (m := 1) (fun k => oneIf_len _ _) n
  simpa using this

/-! ### checkNames -/
def findI {α : Type} (p : α → Bool) : List α → Nat → Int
  | [], _ => -1
  | x :: l, k => if p x = true then k else findI p l (k + 1)
theorem findI_at {α : Type} {p : α → Bool} : ∀ {l : List α} {x : α} {k j : Nat}, l[k]? = some x → (∀ y ∈ l.take k, p y = false) → p x = true → findI p l j = ((j + k : Nat) : Int)
  | [], x, k, j, h, _, _ => by simp at h
  | y :: l, x, 0, j, h, _, hp => by
    simp at h
    subst h
    simp [findI, hp]
  | y :: l, x, k + 1, j, h, ha, hp => by
    have := findI_at (l := l) (k := k) (j := j + 1) (by simpa using h) (fun z hz => ha z (by simp [hz])) hp
    simp only [findI, this]
    rw [if_neg (by rw [ha y (by simp)]; decide)]
    congr 1; omega
theorem findI_none {α : Type} {p : α → Bool} : ∀ {l : List α} {j : Nat}, (∀ y ∈ l, p y = false) → findI p l j = -1
  | [], _, _ => rfl
  | y :: l, j, h => by
    simp only [findI]
    rw [if_neg (by rw [h y (by simp)]; decide)]
    exact findI_none (fun z hz => h z (by simp [hz]))
theorem findI_any {α : Type} {p : α → Bool} : ∀ {l : List α} {j : Nat}, decide (0 ≤ findI p l j) = l.any p
  | [], _ => rfl
  | y :: l, j => by
    simp only [findI, List.any_cons]
    split
    · rename_i h
      rw [h]
      have : (0 : Int) ≤ (j : Int) := by omega
      simp
    · rename_i h
      rw [findI_any]
      simp only [Bool.not_eq_true] at h
      rw [h]; rfl
theorem indexFunc_str (C : Mem) (v : Value) (l : List Str) (g : FuncId) (cb : List Value) (p : Str → Bool) (hv : Sl C 1 v (l.map encS)) (hl : l.length ≤ 1000000) (hcb : ∀ s ∈ l, ∀ C', C.le C' → Gives cx.P g (strV s :: cb) C' (.bool (p s))) :
    Gives cx.P 75 [v, .func (.func g) #[] ⟨cb⟩] C (.int .i64 (findI p l 0)) := by
  have hv0 := hv
  obtain ⟨A, c, rfl, _⟩ := hv0
  refine Fn.intro (by kernel_rfl) Tryd.func75 rfl 19 rfl rfl (fun w0 => ?_)
  refine G.region rfl (fun R hR => ?_)
  refine D.pure rfl rfl rfl rfl rfl rfl ?_
  refine D.done [(0, [], _), (1, [], _)] ⟨rfl, rfl, trivial⟩ (hR _ _ _ rfl ?_); clear hR R
  refine G.region rfl (fun R hR => ?_)
  iterate 3 refine D.pure rfl rfl rfl rfl rfl rfl ?_
  refine D.done [(0, [], _), (1, [], _), (7, [], _), (8, [], _)] ⟨rfl, rfl, rfl, rfl, trivial⟩ (hR _ _ _ rfl ?_); clear hR R
  refine G.loop (fun fr C' L' μ => ∃ (k : Nat), (k ≤ l.length ∧ ∀ y ∈ l.take k, p y = false) ∧ fr = [(0, [], .slice A (l.map encS).length c), (1, [], .func (.func g) #[] ⟨cb⟩), (7, [], .int .i64 (l.map encS).length), (8, [], .int .i64 k)] ∧ L' = [] ∧ μ = l.length - k) (fr' := [(0, [], _), (1, [], _), (7, [], _), (8, [], _)]) ⟨rfl, rfl, rfl, rfl, trivial⟩ ⟨0, ⟨Nat.zero_le _, by simp⟩, rfl, rfl, rfl⟩ (fun fr C0' L0' m hle0 hI => ?_)
  obtain ⟨k, ⟨hk, hall⟩, rfl, rfl, rfl⟩ := hI
  refine G.region rfl (fun R hR => ?_)
  refine D.pure rfl rfl rfl rfl rfl rfl ?_
  refine D.done [(0, [], _), (1, [], _), (7, [], _), (8, [], _), (9, [], _)] ⟨rfl, rfl, rfl, rfl, rfl, trivial⟩ (hR _ _ _ rfl ?_); clear hR R
  refine G.cond rfl (fun h9 => ?_) (fun h9 => ?_)
  · skip
    simp only [List.length_map, decide_eq_true_eq] at h9
    have hkl : k < l.length := by omega
    have hv1 := hv.mono hle0
    refine G.region rfl (fun R hR => ?_)
    iterate 2 refine D.pure rfl rfl rfl rfl rfl rfl ?_
    refine D.done [(0, [], _), (1, [], _), (5, [], _), (7, [], _), (8, [], _)] ⟨rfl, rfl, rfl, rfl, rfl, trivial⟩ (hR _ _ _ rfl ?_); clear hR R
    refine G.region rfl (fun R hR => ?_)
    iterate 3 refine D.pure rfl rfl rfl rfl rfl rfl ?_
    refine D.index0 hv1 rfl rfl rfl rfl rfl rfl rfl rfl rfl rfl (by omega) (row := encS l[k]) (by simp [hkl]) (fun _ => rfl) (fun p14 hp14 => ?_)
    refine D.loadP0 hp14 rfl rfl rfl rfl rfl rfl rfl rfl ?_
    refine D.gives2 (hcb _ (List.getElem_mem hkl) _ hle0) rfl rfl rfl rfl rfl rfl rfl (fun _ => rfl) ?_
    refine D.done [(0, [], _), (1, [], _), (5, [], _), (7, [], _), (8, [], _), (16, [], _)] ⟨rfl, rfl, rfl, rfl, rfl, rfl, trivial⟩ (hR _ _ _ rfl ?_); clear hR R
    refine G.cond rfl (fun h16 => ?_) (fun h16 => ?_)
    · skip
      refine G.region rfl (fun R hR => ?_)
      iterate 2 refine D.pure rfl rfl rfl rfl rfl rfl ?_
      refine D.done [(4, [], _)] ⟨rfl, trivial⟩ (hR _ _ _ rfl ?_); clear hR R
      refine G.retN (G.dropAll (G.fin1 rfl rfl ?_))
      exact ⟨by rw [findI_at (k := k) (j := 0) (List.getElem?_eq_getElem hkl) hall h16, Nat.zero_add], rfl⟩
    · skip
      refine G.region rfl (fun R hR => ?_)
      refine D.i64 (((k + 1 : Nat) : Int)) rfl rfl rfl rfl (by omega) (by omega) (by omega) rfl rfl ?_
      refine D.pure rfl rfl rfl rfl rfl rfl ?_
      refine D.done [(0, [], _), (1, [], _), (7, [], _), (8, [], _)] ⟨rfl, rfl, rfl, rfl, trivial⟩ (hR _ _ _ rfl ?_); clear hR R
      refine G.again (m' := l.length - (k + 1)) (by omega) hle0 (fr' := [(0, [], _), (1, [], _), (7, [], _), (8, [], _)]) ⟨rfl, rfl, rfl, rfl, trivial⟩ ⟨k + 1, ⟨by omega, fun y hy => by
        rw [List.take_succ_eq_append_getElem hkl] at hy
        rcases List.mem_append.1 hy with h6 | h6
        · exact hall y h6
        · simp only [List.mem_singleton] at h6
          subst h6
          exact h16⟩, rfl, rfl, rfl⟩
  · skip
    simp only [List.length_map, decide_eq_false_iff_not] at h9
    refine G.region rfl (fun R hR => ?_)
    refine D.pure rfl rfl rfl rfl rfl rfl ?_
    refine D.done [(4, [], _)] ⟨rfl, trivial⟩ (hR _ _ _ rfl ?_); clear hR R
    refine G.retN (G.dropAll (G.fin1 rfl rfl ?_))
    rw [List.take_of_length_le (by omega)] at hall
    exact ⟨by rw [findI_none hall], rfl⟩
theorem containsFunc_str (C : Mem) (v : Value) (l : List Str) (g : FuncId) (cb : List Value) (p : Str → Bool) (hv : Sl C 1 v (l.map encS)) (hl : l.length ≤ 1000000) (hcb : ∀ s ∈ l, ∀ C', C.le C' → Gives cx.P g (strV s :: cb) C' (.bool (p s))) :
    Gives cx.P 55 [v, .func (.func g) #[] ⟨cb⟩] C (.bool (l.any p)) := by
  refine Fn.intro (by kernel_rfl) Tryd.func55 rfl 9 rfl rfl (fun w0 => ?_)
  refine G.region rfl (fun R hR => ?_)
  refine D.pure rfl rfl rfl rfl rfl rfl ?_
  refine D.done [(0, [], _), (1, [], _)] ⟨rfl, rfl, trivial⟩ (hR _ _ _ rfl ?_); clear hR R
  refine G.region rfl (fun R hR => ?_)
  iterate 2 refine D.pure rfl rfl rfl rfl rfl rfl ?_
  refine D.gives2 (indexFunc_str _ _ l g cb p hv hl hcb) rfl rfl rfl rfl rfl rfl rfl (fun _ => rfl) ?_
  iterate 2 refine D.pure rfl rfl rfl rfl rfl rfl ?_
  refine D.done [(4, [], _)] ⟨rfl, trivial⟩ (hR _ _ _ rfl ?_); clear hR R
  refine G.retN (G.dropAll (G.fin1 rfl rfl ?_))
  exact ⟨congrArg Value.bool findI_any, rfl⟩
theorem closName (C : Mem) (s : Str) (hl : s.length < 1000000) : Gives cx.P 56 [strV s] C (.bool (!(isNameB s))) := by
  refine Fn.intro (by kernel_rfl) Tryd.func56 rfl 6 rfl rfl (fun w0 => ?_)
  refine G.region rfl (fun R hR => ?_)
  refine D.pure rfl rfl rfl rfl rfl rfl ?_
  refine D.done [(0, [], _)] ⟨rfl, trivial⟩ (hR _ _ _ rfl ?_); clear hR R
  refine G.region rfl (fun R hR => ?_)
  refine D.pure rfl rfl rfl rfl rfl rfl ?_
  refine D.gives2 (isName_spec _ _ hl) rfl rfl rfl rfl rfl rfl rfl (fun _ => rfl) ?_
  iterate 2 refine D.pure rfl rfl rfl rfl rfl rfl ?_
  refine D.done [(2, [], _)] ⟨rfl, trivial⟩ (hR _ _ _ rfl ?_); clear hR R
  refine G.retN (G.dropAll (G.fin1 rfl rfl ?_))
  exact ⟨rfl, rfl⟩
def errNames (l : List Rel) (ns : List Str) : Int := if errAll l = 0 then (if ns.any (fun s => !(isNameB s)) = true then 8 else 0) else errAll l
theorem checkNames_spec (C : Mem) (v u : Value) (l : List Rel) (ns : List Str) (hv : Sl C 3 v (l.map Rel.enc)) (hok : ∀ x ∈ l, x.short) (hu : Sl C 1 u (ns.map encS)) (hn : ns.length ≤ 1000000) (hs : ∀ s ∈ ns, s.length < 1000000) :
    Gives cx.P 41 [v, u] C (.int .i64 (errNames l ns)) := by
  refine Fn.intro (by kernel_rfl) Tryd.func41 rfl 13 rfl rfl (fun w0 => ?_)
  refine G.region rfl (fun R hR => ?_)
  refine D.pure rfl rfl rfl rfl rfl rfl ?_
  refine D.done [(0, [], _), (1, [], _)] ⟨rfl, rfl, trivial⟩ (hR _ _ _ rfl ?_); clear hR R
  refine G.region rfl (fun R hR => ?_)
  refine D.pure rfl rfl rfl rfl rfl rfl ?_
  refine D.gives2 (checkAll_spec _ l _ hv hok) rfl rfl rfl rfl rfl rfl rfl (fun _ => rfl) ?_
  refine D.pure rfl rfl rfl rfl rfl rfl ?_
  refine D.done [(1, [], _), (5, [], _)] ⟨rfl, rfl, trivial⟩ (hR _ _ _ rfl ?_); clear hR R
  refine G.region rfl (fun R hR => ?_)
  iterate 2 refine D.pure rfl rfl rfl rfl rfl rfl ?_
  refine D.done [(1, [], _), (5, [], _), (9, [], _)] ⟨rfl, rfl, rfl, trivial⟩ (hR _ _ _ rfl ?_); clear hR R
  refine G.cond rfl (fun h9 => ?_) (fun h9 => ?_)
  · skip
    have h9' : errAll l ≠ 0 := by simpa using h9
    refine G.region rfl (fun R hR => ?_)
    iterate 2 refine D.pure rfl rfl rfl rfl rfl rfl ?_
    refine D.done [(4, [], _)] ⟨rfl, trivial⟩ (hR _ _ _ rfl ?_); clear hR R
    refine G.retN (G.dropAll (G.fin1 rfl rfl ?_))
    exact ⟨by rw [errNames, if_neg h9'], rfl⟩
  · skip
    have h9' : errAll l = 0 := by simpa using h9
    refine G.region rfl (fun R hR => ?_)
    refine D.pure rfl rfl rfl rfl rfl rfl ?_
    refine D.gives2 (containsFunc_str _ _ ns _ [] (fun s => !(isNameB s)) hu hn (fun s hm C' _ => closName C' s (hs s hm))) rfl rfl rfl rfl rfl rfl rfl (fun _ => rfl) ?_
    refine D.done [(12, [], _)] ⟨rfl, trivial⟩ (hR _ _ _ rfl ?_); clear hR R
    refine G.cond rfl (fun h12 => ?_) (fun h12 => ?_)
    · skip
      refine G.region rfl (fun R hR => ?_)
      refine D.pure rfl rfl rfl rfl rfl rfl ?_
      refine D.done [(4, [], _)] ⟨rfl, trivial⟩ (hR _ _ _ rfl ?_); clear hR R
      refine G.retN (G.dropAll (G.fin1 rfl rfl ?_))
      exact ⟨by rw [errNames, if_pos h9', if_pos h12], rfl⟩
    · skip
      refine G.region rfl (fun R hR => ?_)
      refine D.pure rfl rfl rfl rfl rfl rfl ?_
      refine D.done [(4, [], _)] ⟨rfl, trivial⟩ (hR _ _ _ rfl ?_); clear hR R
      refine G.retN (G.dropAll (G.fin1 rfl rfl ?_))
      exact ⟨by rw [errNames, if_pos h9', if_neg (by rw [h12]; decide)], rfl⟩

theorem short1 {a : Str} (ha : a.length < 1000000) : ∀ s ∈ [a], s.length < 1000000 := by
  intro s hs
  simp only [List.mem_singleton] at hs
  subst hs; exact ha
theorem short2 {a b : Str} (ha : a.length < 1000000) (hb : b.length < 1000000) : ∀ s ∈ [a, b], s.length < 1000000 := by
  intro s hs
  simp only [List.mem_cons, List.not_mem_nil, or_false] at hs
  rcases hs with rfl | rfl <;> assumption

/-! ### Between -/
theorem between_fn (C : Mem) (v : Value) (l : List Rel) (a b : Str) (hv : Sl C 3 v (l.map Rel.enc)) (hl : l.length ≤ 1000000) (hok : ∀ x ∈ l, x.short) (ha : a.length < 1000000) (hb : b.length < 1000000) : Pur cx.P 21 [v, strV a, strV b] C fun r C' =>
    (errNames l [a, b] ≠ 0 ∧ r = errRes (errNames l [a, b])) ∨ (errNames l [a, b] = 0 ∧ ∃ u, r = .tuple #[u, .int .i64 0] ∧ Sl C' 1 u ((betweenL l a b).map natI)) := by
  have hv0 := hv
  obtain ⟨A, c, rfl, _⟩ := hv0
  refine Fn.intro (by kernel_rfl) Tryd.func21 rfl 55 rfl rfl (fun w0 => ?_)
  refine G.region rfl (fun R hR => ?_)
  iterate 2 refine D.pure rfl rfl rfl rfl rfl rfl ?_
  refine D.done [(0, [], _), (1, [], _), (2, [], _)] ⟨rfl, rfl, rfl, trivial⟩ (hR _ _ _ rfl ?_); clear hR R
  refine G.region rfl (fun R hR => ?_)
  iterate 3 refine D.pure rfl rfl rfl rfl rfl rfl ?_
  refine D.buildSlice [encS a, encS b] rfl rfl rfl rfl rfl rfl rfl rfl rfl rfl rfl rfl (fun _ => rfl) (fun p15 C15 hle15 hs15 => ?_)
  refine D.gives2 (checkNames_spec _ _ _ l [a, b] (hv.mono hle15) hok hs15 (by simp) (short2 ha hb)) rfl rfl rfl rfl rfl rfl rfl (fun _ => rfl) ?_
  refine D.pure rfl rfl rfl rfl rfl rfl ?_
  refine D.done [(0, [], _), (1, [], _), (2, [], _), (8, [], _)] ⟨rfl, rfl, rfl, rfl, trivial⟩ (hR _ _ _ rfl ?_); clear hR R
  refine G.region rfl (fun R hR => ?_)
  iterate 2 refine D.pure rfl rfl rfl rfl rfl rfl ?_
  refine D.done [(0, [], _), (1, [], _), (2, [], _), (8, [], _), (18, [], _)] ⟨rfl, rfl, rfl, rfl, rfl, trivial⟩ (hR _ _ _ rfl ?_); clear hR R
  refine G.cond rfl (fun h18 => ?_) (fun h18 => ?_)
  · skip
    have h18' : errNames l [a, b] ≠ 0 := by simpa using h18
    refine G.region rfl (fun R hR => ?_)
    iterate 3 refine D.pure rfl rfl rfl rfl rfl rfl ?_
    refine D.done [(6, [], _), (7, [], _)] ⟨rfl, rfl, trivial⟩ (hR _ _ _ rfl ?_); clear hR R
    refine G.retN (G.dropAll (G.fin2 rfl rfl rfl ?_))
    exact ⟨rfl, .inl ⟨h18', rfl⟩⟩
  · skip
    have h18' : errNames l [a, b] = 0 := by simpa using h18
    refine G.region rfl (fun R hR => ?_)
    refine D.pure rfl rfl rfl rfl rfl rfl ?_
    refine D.done [(0, [], _), (1, [], _), (2, [], _), (9, [], _)] ⟨rfl, rfl, rfl, rfl, trivial⟩ (hR _ _ _ rfl ?_); clear hR R
    refine G.region rfl (fun R hR => ?_)
    iterate 3 refine D.pure rfl rfl rfl rfl rfl rfl ?_
    refine D.done [(1, [], _), (2, [], _), (9, [], _), (20, [], _), (21, [], _), (22, [], _)] ⟨rfl, rfl, rfl, rfl, rfl, rfl, trivial⟩ (hR _ _ _ rfl ?_); clear hR R
    refine G.nilArr 3 1 ?_
    refine G.loop (fun fr C' L' μ => ∃ (k : Nat) (w9 : Value), (k ≤ l.length) ∧ fr = [(1, [], strV a), (2, [], strV b), (9, [], w9), (20, [], .slice A (l.map Rel.enc).length c), (21, [], .int .i64 (l.map Rel.enc).length), (22, [], .int .i64 k)] ∧ L' = [.arr w9 3 1 (idxs (betw l a b) k).length ((idxs (betw l a b) k).map natI).flatten] ∧ μ = l.length - k) (fr' := [(1, [], _), (2, [], _), (9, [], _), (20, [], _), (21, [], _), (22, [], _)]) ⟨rfl, rfl, rfl, rfl, rfl, rfl, trivial⟩ ⟨0, .slice none 0 0, Nat.zero_le _, rfl, rfl, rfl⟩ (fun fr C0' L0' m hle0 hI => ?_)
    obtain ⟨k, w9, hk, rfl, rfl, rfl⟩ := hI
    refine G.region rfl (fun R hR => ?_)
    refine D.pure rfl rfl rfl rfl rfl rfl ?_
    refine D.done [(1, [], _), (2, [], _), (9, [], _), (20, [], _), (21, [], _), (22, [], _), (23, [], _)] ⟨rfl, rfl, rfl, rfl, rfl, rfl, rfl, trivial⟩ (hR _ _ _ rfl ?_); clear hR R
    refine G.cond rfl (fun h23 => ?_) (fun h23 => ?_)
    · skip
      simp only [List.length_map, decide_eq_true_eq] at h23
      have hkl : k < l.length := by omega
      obtain ⟨x, hx⟩ : ∃ x, l[k]? = some x := ⟨l[k], List.getElem?_eq_getElem hkl⟩
      have hv1 := (hv.mono hle15).mono hle0
      have hal := idxs_len (betw l a b) k
      have hbt : betw l a b k = (((x.upper == a) && (x.lower == b)) || ((x.upper == b) && (x.lower == a))) := by rw [betw, hx]
      refine G.region rfl (fun R hR => ?_)
      refine D.pure rfl rfl rfl rfl rfl rfl ?_
      refine D.index0 hv1 rfl rfl rfl rfl rfl rfl rfl rfl rfl rfl (by omega) (row := x.enc) (by simp [hx]) (fun _ => rfl) (fun p25 hp25 => ?_)
      refine D.loadP0 hp25 rfl rfl rfl rfl rfl rfl rfl rfl ?_
      refine D.alloc rfl rfl rfl rfl rfl (fun _ => rfl) (fun b11 => ?_)
      refine D.pure rfl rfl rfl rfl rfl rfl ?_
      refine D.store (j := 0) rfl rfl rfl rfl rfl rfl rfl rfl rfl rfl rfl rfl ?_
      refine D.done [(1, [], _), (2, [], _), (9, [], _), (10, [], _), (11, [], _), (20, [], _), (21, [], _), (22, [], _)] ⟨rfl, rfl, rfl, rfl, rfl, rfl, rfl, rfl, trivial⟩ (hR _ _ _ rfl ?_); clear hR R
      refine G.region rfl (fun R hR => ?_)
      refine D.pure rfl rfl rfl rfl rfl rfl ?_
      refine D.loadL (.head _) rfl rfl rfl rfl rfl rfl rfl rfl rfl ?_
      iterate 4 refine D.pure rfl rfl rfl rfl rfl rfl ?_
      refine D.loadL (.head _) rfl rfl rfl rfl rfl rfl rfl rfl rfl ?_
      iterate 2 refine D.pure rfl rfl rfl rfl rfl rfl ?_
      refine D.pickAnd rfl rfl rfl rfl rfl rfl rfl rfl ?_
      iterate 2 refine D.pure rfl rfl rfl rfl rfl rfl ?_
      refine D.loadL (.head _) rfl rfl rfl rfl rfl rfl rfl rfl rfl ?_
      iterate 4 refine D.pure rfl rfl rfl rfl rfl rfl ?_
      refine D.loadL (.head _) rfl rfl rfl rfl rfl rfl rfl rfl rfl ?_
      iterate 2 refine D.pure rfl rfl rfl rfl rfl rfl ?_
      refine D.pickAnd rfl rfl rfl rfl rfl rfl rfl rfl ?_
      refine D.pickOr rfl rfl rfl rfl rfl rfl rfl rfl ?_
      refine D.done [(1, [], _), (2, [], _), (9, [], _), (10, [], _), (20, [], _), (21, [], _), (22, [], _), (48, [], (.bool (((x.upper == a) && (x.lower == b)) || ((x.upper == b) && (x.lower == a)))))] ⟨rfl, rfl, rfl, rfl, rfl, rfl, rfl, rfl, trivial⟩ (hR _ _ _ rfl ?_); clear hR R
      refine G.cond rfl (fun h48 => ?_) (fun h48 => ?_)
      · skip
        rw [← hbt] at h48
        refine G.region rfl (fun R hR => ?_)
        iterate 2 refine D.pure rfl rfl rfl rfl rfl rfl ?_
        refine D.buildSlice [natI k] rfl rfl rfl rfl rfl rfl rfl rfl rfl rfl rfl rfl (fun _ => rfl) (fun p51 C51 hle51 hs51 => ?_)
        refine D.append (j := 1) rfl rfl rfl rfl rfl rfl rfl rfl rfl rfl rfl hs51 rfl (by simp only [List.length_singleton, maxLen]; omega) (by simp only [List.length_singleton]; omega) (fun _ => rfl) (fun v52 => ?_)
        refine D.pure rfl rfl rfl rfl rfl rfl ?_
        refine D.done [(1, [], _), (2, [], _), (9, [], _), (20, [], _), (21, [], _), (22, [], _)] ⟨rfl, rfl, rfl, rfl, rfl, rfl, trivial⟩ (hR _ _ _ rfl ?_); clear hR R
        refine G.region rfl (fun R hR => ?_)
        refine D.i64 (((k + 1 : Nat) : Int)) rfl rfl rfl rfl (by omega) (by omega) (by omega) rfl rfl ?_
        refine D.pure rfl rfl rfl rfl rfl rfl ?_
        refine D.done [(1, [], _), (2, [], _), (9, [], _), (20, [], _), (21, [], _), (22, [], _)] ⟨rfl, rfl, rfl, rfl, rfl, rfl, trivial⟩ (hR _ _ _ rfl ?_); clear hR R
        refine G.dropE 1 rfl ?_
        refine G.eqL (L' := [.arr v52 3 1 (idxs (betw l a b) (k + 1)).length ((idxs (betw l a b) (k + 1)).map natI).flatten]) (arr_snoc (enc := natI) (idxs_true h48) rfl) ?_
        refine G.again (m' := l.length - (k + 1)) (by omega) (hle0.trans hle51) (fr' := [(1, [], _), (2, [], _), (9, [], _), (20, [], _), (21, [], _), (22, [], _)]) ⟨rfl, rfl, rfl, rfl, rfl, rfl, trivial⟩ ⟨k + 1, v52, by omega, rfl, rfl, rfl⟩
      · skip
        rw [← hbt] at h48
        refine G.region rfl (fun R hR => ?_)
        refine D.i64 (((k + 1 : Nat) : Int)) rfl rfl rfl rfl (by omega) (by omega) (by omega) rfl rfl ?_
        refine D.pure rfl rfl rfl rfl rfl rfl ?_
        refine D.done [(1, [], _), (2, [], _), (9, [], _), (20, [], _), (21, [], _), (22, [], _)] ⟨rfl, rfl, rfl, rfl, rfl, rfl, trivial⟩ (hR _ _ _ rfl ?_); clear hR R
        refine G.dropE 0 rfl ?_
        refine G.eqL (L' := [.arr w9 3 1 (idxs (betw l a b) (k + 1)).length ((idxs (betw l a b) (k + 1)).map natI).flatten]) (by rw [idxs_false h48]; rfl) ?_
        refine G.again (m' := l.length - (k + 1)) (by omega) hle0 (fr' := [(1, [], _), (2, [], _), (9, [], _), (20, [], _), (21, [], _), (22, [], _)]) ⟨rfl, rfl, rfl, rfl, rfl, rfl, trivial⟩ ⟨k + 1, w9, by omega, rfl, rfl, rfl⟩
    · skip
      simp only [List.length_map, decide_eq_false_iff_not] at h23
      have hkl : k = l.length := by omega
      subst hkl
      refine G.region rfl (fun R hR => ?_)
      iterate 3 refine D.pure rfl rfl rfl rfl rfl rfl ?_
      refine D.done [(6, [], _), (7, [], _)] ⟨rfl, rfl, trivial⟩ (hR _ _ _ rfl ?_); clear hR R
      refine G.freezeArr 0 ((betweenL l a b).map natI) rfl rfl (by intro r hr; obtain ⟨y, _, rfl⟩ := List.mem_map.1 hr; rfl) (by simp [betweenL]) (fun Cf hlef hsf => G.retN (G.fin2 rfl rfl rfl ?_))
      exact ⟨rfl, .inr ⟨h18', _, rfl, hsf⟩⟩

/-! ### Opposed -/
theorem opposed_fn (C : Mem) (v : Value) (l : List Rel) (hv : Sl C 3 v (l.map Rel.enc)) (hl : l.length ≤ 1000) (hok : ∀ x ∈ l, x.short) : Pur cx.P 23 [v] C fun r C' =>
    (errAll l ≠ 0 ∧ r = errRes (errAll l)) ∨ (errAll l = 0 ∧ ∃ u, r = .tuple #[u, .int .i64 0] ∧ Sl C' 2 u ((oppL l).map pairI)) := by
  have hv0 := hv
  obtain ⟨A, c, rfl, _⟩ := hv0
  have hbig : ∀ i, (cat (fun i => cat (oppRow l i) l.length) i).length ≤ i * l.length := fun i => cat_length_mul (fun i => opp_len l i _) i
  refine Fn.intro (by kernel_rfl) Tryd.func23 rfl 64 rfl rfl (fun w0 => ?_)
  refine G.region rfl (fun R hR => ?_)
  iterate 2 refine D.pure rfl rfl rfl rfl rfl rfl ?_
  refine D.done [(0, [], _)] ⟨rfl, trivial⟩ (hR _ _ _ rfl ?_); clear hR R
  refine G.region rfl (fun R hR => ?_)
  refine D.pure rfl rfl rfl rfl rfl rfl ?_
  refine D.gives2 (checkAll_spec _ l _ hv hok) rfl rfl rfl rfl rfl rfl rfl (fun _ => rfl) ?_
  refine D.pure rfl rfl rfl rfl rfl rfl ?_
  refine D.done [(0, [], _), (4, [], _)] ⟨rfl, rfl, trivial⟩ (hR _ _ _ rfl ?_); clear hR R
  refine G.region rfl (fun R hR => ?_)
  iterate 2 refine D.pure rfl rfl rfl rfl rfl rfl ?_
  refine D.done [(0, [], _), (4, [], _), (13, [], _)] ⟨rfl, rfl, rfl, trivial⟩ (hR _ _ _ rfl ?_); clear hR R
  refine G.cond rfl (fun h13 => ?_) (fun h13 => ?_)
  · skip
    have h13' : errAll l ≠ 0 := by simpa using h13
    refine G.region rfl (fun R hR => ?_)
    iterate 3 refine D.pure rfl rfl rfl rfl rfl rfl ?_
    refine D.done [(2, [], _), (3, [], _)] ⟨rfl, rfl, trivial⟩ (hR _ _ _ rfl ?_); clear hR R
    refine G.retN (G.dropAll (G.fin2 rfl rfl rfl ?_))
    exact ⟨rfl, .inl ⟨h13', rfl⟩⟩
  · skip
    have h13' : errAll l = 0 := by simpa using h13
    refine G.region rfl (fun R hR => ?_)
    refine D.pure rfl rfl rfl rfl rfl rfl ?_
    refine D.done [(0, [], _), (5, [], _)] ⟨rfl, rfl, trivial⟩ (hR _ _ _ rfl ?_); clear hR R
    refine G.region rfl (fun R hR => ?_)
    iterate 3 refine D.pure rfl rfl rfl rfl rfl rfl ?_
    refine D.done [(0, [], _), (5, [], _), (15, [], _), (16, [], _), (17, [], _)] ⟨rfl, rfl, rfl, rfl, rfl, trivial⟩ (hR _ _ _ rfl ?_); clear hR R
    refine G.nilArr 51 2 ?_
    refine G.loop (fun fr C' L' μ => ∃ (i : Nat) (w5 : Value), (i ≤ l.length) ∧ fr = [(0, [], .slice A (l.map Rel.enc).length c), (5, [], w5), (15, [], .slice A (l.map Rel.enc).length c), (16, [], .int .i64 (l.map Rel.enc).length), (17, [], .int .i64 i)] ∧ L' = [.arr w5 51 2 (cat (fun i => cat (oppRow l i) l.length) i).length ((cat (fun i => cat (oppRow l i) l.length) i).map pairI).flatten] ∧ μ = l.length - i) (fr' := [(0, [], _), (5, [], _), (15, [], _), (16, [], _), (17, [], _)]) ⟨rfl, rfl, rfl, rfl, rfl, trivial⟩ ⟨0, .slice none 0 0, Nat.zero_le _, rfl, rfl, rfl⟩ (fun fr C0' L0' m hle0 hI => ?_)
    obtain ⟨i, w5, hi, rfl, rfl, rfl⟩ := hI
    refine G.region rfl (fun R hR => ?_)
    refine D.pure rfl rfl rfl rfl rfl rfl ?_
    refine D.done [(0, [], _), (5, [], _), (15, [], _), (16, [], _), (17, [], _), (18, [], _)] ⟨rfl, rfl, rfl, rfl, rfl, rfl, trivial⟩ (hR _ _ _ rfl ?_); clear hR R
    refine G.cond rfl (fun h18 => ?_) (fun h18 => ?_)
    · skip
      simp only [List.length_map, decide_eq_true_eq] at h18
      have hil : i < l.length := by omega
      obtain ⟨x, hx⟩ : ∃ x, l[i]? = some x := ⟨l[i], List.getElem?_eq_getElem hil⟩
      have hv1 := hv.mono hle0
      refine G.region rfl (fun R hR => ?_)
      refine D.pure rfl rfl rfl rfl rfl rfl ?_
      refine D.index0 hv1 rfl rfl rfl rfl rfl rfl rfl rfl rfl rfl (by omega) (row := x.enc) (by simp [hx]) (fun _ => rfl) (fun p20 hp20 => ?_)
      refine D.loadP0 hp20 rfl rfl rfl rfl rfl rfl rfl rfl ?_
      refine D.alloc rfl rfl rfl rfl rfl (fun _ => rfl) (fun b7 => ?_)
      refine D.pure rfl rfl rfl rfl rfl rfl ?_
      refine D.store (j := 0) rfl rfl rfl rfl rfl rfl rfl rfl rfl rfl rfl rfl ?_
      refine D.done [(0, [], _), (5, [], _), (6, [], _), (7, [], _), (15, [], _), (16, [], _), (17, [], _)] ⟨rfl, rfl, rfl, rfl, rfl, rfl, rfl, trivial⟩ (hR _ _ _ rfl ?_); clear hR R
      refine G.region rfl (fun R hR => ?_)
      refine D.pure rfl rfl rfl rfl rfl rfl ?_
      refine D.i64 _ rfl rfl rfl rfl rfl (by omega) (by omega) rfl rfl ?_
      refine D.pure rfl rfl rfl rfl rfl rfl ?_
      refine D.done [(0, [], _), (5, [], _), (6, [], _), (7, [], _), (8, [], _), (15, [], _), (16, [], _), (17, [], _)] ⟨rfl, rfl, rfl, rfl, rfl, rfl, rfl, rfl, trivial⟩ (hR _ _ _ rfl ?_); clear hR R
      refine G.perm (L' := [.arr w5 51 2 (cat (fun i => cat (oppRow l i) l.length) i ++ cat (oppRow l i) (i + 1)).length ((cat (fun i => cat (oppRow l i) l.length) i ++ cat (oppRow l i) (i + 1)).map pairI).flatten, .obj b7 (.cells ⟨x.enc⟩ 33 (0, 0))]) (by rw [oppRow_low (Nat.le_refl _), List.append_nil]; exact List.Perm.swap _ _ _) ?_
      refine G.loop (fun fr C' L' μ => ∃ (k : Nat) (w5 : Value), (i + 1 ≤ k ∧ k ≤ l.length) ∧ fr = [(0, [], .slice A (l.map Rel.enc).length c), (5, [], w5), (6, [], .int .i64 i), (7, [], .pointer (some ⟨b7, 0, none⟩)), (8, [], .int .i64 k), (15, [], .slice A (l.map Rel.enc).length c), (16, [], .int .i64 (l.map Rel.enc).length), (17, [], .int .i64 i)] ∧ L' = [.arr w5 51 2 (cat (fun i => cat (oppRow l i) l.length) i ++ cat (oppRow l i) k).length ((cat (fun i => cat (oppRow l i) l.length) i ++ cat (oppRow l i) k).map pairI).flatten, .obj b7 (.cells ⟨x.enc⟩ 33 (0, 0))] ∧ μ = l.length - k) (fr' := [(0, [], _), (5, [], _), (6, [], _), (7, [], _), (8, [], _), (15, [], _), (16, [], _), (17, [], _)]) ⟨rfl, rfl, rfl, rfl, rfl, rfl, rfl, rfl, trivial⟩ ⟨i + 1, w5, ⟨Nat.le_refl _, hil⟩, rfl, rfl, rfl⟩ (fun fr C1' L1' m hle1 hI => ?_)
      obtain ⟨k, w5, ⟨hki, hkl⟩, rfl, rfl, rfl⟩ := hI
      refine G.region rfl (fun R hR => ?_)
      iterate 4 refine D.pure rfl rfl rfl rfl rfl rfl ?_
      refine D.done [(0, [], _), (5, [], _), (6, [], _), (7, [], _), (8, [], _), (15, [], _), (16, [], _), (17, [], _), (27, [], _)] ⟨rfl, rfl, rfl, rfl, rfl, rfl, rfl, rfl, rfl, trivial⟩ (hR _ _ _ rfl ?_); clear hR R
      refine G.cond rfl (fun h27 => ?_) (fun h27 => ?_)
      · skip
        simp only [List.length_map, decide_eq_true_eq] at h27
        have hkl' : k < l.length := by omega
        obtain ⟨y, hy⟩ : ∃ y, l[k]? = some y := ⟨l[k], List.getElem?_eq_getElem hkl'⟩
        have hv2 := hv1.mono hle1
        have hop : opp l i k = oppB x y := by
          have : i < k := by omega
          unfold opp; rw [hx, hy]; simp [this]
        have hal : (cat (fun i => cat (oppRow l i) l.length) i ++ cat (oppRow l i) k).length ≤ 2000000 := by
          have h1 := hbig i
          have h2 := opp_len l i k
          have h3 : i * l.length ≤ 1000 * 1000 := Nat.mul_le_mul (by omega) (by omega)
          rw [List.length_append]; omega
        refine G.region rfl (fun R hR => ?_)
        iterate 2 refine D.pure rfl rfl rfl rfl rfl rfl ?_
        refine D.index0 hv2 rfl rfl rfl rfl rfl rfl rfl rfl rfl rfl (by omega) (row := y.enc) (by simp [hy]) (fun _ => rfl) (fun p32 hp32 => ?_)
        refine D.loadP0 hp32 rfl rfl rfl rfl rfl rfl rfl rfl ?_
        refine D.alloc rfl rfl rfl rfl rfl (fun _ => rfl) (fun b9 => ?_)
        refine D.store (j := 0) rfl rfl rfl rfl rfl rfl rfl rfl rfl rfl rfl rfl ?_
        refine D.done [(0, [], _), (5, [], _), (6, [], _), (7, [], _), (8, [], _), (9, [], _), (15, [], _), (16, [], _), (17, [], _)] ⟨rfl, rfl, rfl, rfl, rfl, rfl, rfl, rfl, rfl, trivial⟩ (hR _ _ _ rfl ?_); clear hR R
        refine G.region rfl (fun R hR => ?_)
        refine D.pure rfl rfl rfl rfl rfl rfl ?_
        refine D.loadL (.tail _ (.tail _ (.head _))) rfl rfl rfl rfl rfl rfl rfl rfl rfl ?_
        iterate 3 refine D.pure rfl rfl rfl rfl rfl rfl ?_
        refine D.loadL (.head _) rfl rfl rfl rfl rfl rfl rfl rfl rfl ?_
        refine D.pure rfl rfl rfl rfl rfl rfl ?_
        refine D.pickAnd rfl rfl rfl rfl rfl rfl rfl rfl ?_
        iterate 2 refine D.pure rfl rfl rfl rfl rfl rfl ?_
        refine D.loadL (.tail _ (.tail _ (.head _))) rfl rfl rfl rfl rfl rfl rfl rfl rfl ?_
        refine D.pure rfl rfl rfl rfl rfl rfl ?_
        refine D.loadL (.head _) rfl rfl rfl rfl rfl rfl rfl rfl rfl ?_
        refine D.pure rfl rfl rfl rfl rfl rfl ?_
        refine D.pickAnd rfl rfl rfl rfl rfl rfl rfl rfl ?_
        iterate 2 refine D.pure rfl rfl rfl rfl rfl rfl ?_
        refine D.loadL (.tail _ (.tail _ (.head _))) rfl rfl rfl rfl rfl rfl rfl rfl rfl ?_
        refine D.pure rfl rfl rfl rfl rfl rfl ?_
        refine D.loadL (.head _) rfl rfl rfl rfl rfl rfl rfl rfl rfl ?_
        refine D.pure rfl rfl rfl rfl rfl rfl ?_
        refine D.pickAnd rfl rfl rfl rfl rfl rfl rfl rfl ?_
        refine D.done [(0, [], _), (5, [], _), (6, [], _), (7, [], _), (8, [], _), (15, [], _), (16, [], _), (17, [], _), (55, [], (.bool (oppB x y)))] ⟨rfl, rfl, rfl, rfl, rfl, rfl, rfl, rfl, rfl, trivial⟩ (hR _ _ _ rfl ?_); clear hR R
        refine G.cond rfl (fun h55 => ?_) (fun h55 => ?_)
        · skip
          rw [← hop] at h55
          refine G.region rfl (fun R hR => ?_)
          iterate 3 refine D.pure rfl rfl rfl rfl rfl rfl ?_
          refine D.build [.int .i64 i, .int .i64 k] rfl rfl rfl rfl rfl rfl rfl rfl ?_
          refine D.buildSlice [[.int .i64 i, .int .i64 k]] rfl rfl rfl rfl rfl rfl rfl rfl rfl rfl rfl rfl (fun _ => rfl) (fun p60 C60 hle60 hs60 => ?_)
          refine D.append (j := 1) rfl rfl rfl rfl rfl rfl rfl rfl rfl rfl rfl hs60 rfl (by simp only [List.length_singleton, maxLen]; omega) (by simp only [List.length_singleton]; omega) (fun _ => rfl) (fun v61 => ?_)
          refine D.pure rfl rfl rfl rfl rfl rfl ?_
          refine D.done [(0, [], _), (5, [], _), (6, [], _), (7, [], _), (8, [], _), (15, [], _), (16, [], _), (17, [], _)] ⟨rfl, rfl, rfl, rfl, rfl, rfl, rfl, rfl, trivial⟩ (hR _ _ _ rfl ?_); clear hR R
          refine G.region rfl (fun R hR => ?_)
          refine D.pure rfl rfl rfl rfl rfl rfl ?_
          refine D.i64 _ rfl rfl rfl rfl rfl (by omega) (by omega) rfl rfl ?_
          refine D.pure rfl rfl rfl rfl rfl rfl ?_
          refine D.done [(0, [], _), (5, [], _), (6, [], _), (7, [], _), (8, [], _), (15, [], _), (16, [], _), (17, [], _)] ⟨rfl, rfl, rfl, rfl, rfl, rfl, rfl, rfl, trivial⟩ (hR _ _ _ rfl ?_); clear hR R
          refine G.dropE 1 rfl ?_
          refine G.eqL (L' := [.arr v61 51 2 (cat (fun i => cat (oppRow l i) l.length) i ++ cat (oppRow l i) (k + 1)).length ((cat (fun i => cat (oppRow l i) l.length) i ++ cat (oppRow l i) (k + 1)).map pairI).flatten, .obj b7 (.cells ⟨x.enc⟩ 33 (0, 0))]) (by
            exact arr_snoc (enc := pairI) (P := cat (fun i => cat (oppRow l i) l.length) i ++ cat (oppRow l i) k) (Q := cat (fun i => cat (oppRow l i) l.length) i ++ cat (oppRow l i) (k + 1)) (x := (i, k)) (by rw [cat_succ, oppRow, oneIf_true h55, ← List.append_assoc]) rfl) ?_
          refine G.again (m' := l.length - (k + 1)) (by omega) (hle1.trans hle60) (fr' := [(0, [], _), (5, [], _), (6, [], _), (7, [], _), (8, [], _), (15, [], _), (16, [], _), (17, [], _)]) ⟨rfl, rfl, rfl, rfl, rfl, rfl, rfl, rfl, trivial⟩ ⟨k + 1, v61, ⟨by omega, by omega⟩, rfl, rfl, rfl⟩
        · skip
          rw [← hop] at h55
          refine G.region rfl (fun R hR => ?_)
          refine D.pure rfl rfl rfl rfl rfl rfl ?_
          refine D.i64 _ rfl rfl rfl rfl rfl (by omega) (by omega) rfl rfl ?_
          refine D.pure rfl rfl rfl rfl rfl rfl ?_
          refine D.done [(0, [], _), (5, [], _), (6, [], _), (7, [], _), (8, [], _), (15, [], _), (16, [], _), (17, [], _)] ⟨rfl, rfl, rfl, rfl, rfl, rfl, rfl, rfl, trivial⟩ (hR _ _ _ rfl ?_); clear hR R
          refine G.dropE 0 rfl ?_
          refine G.eqL (L' := [.arr w5 51 2 (cat (fun i => cat (oppRow l i) l.length) i ++ cat (oppRow l i) (k + 1)).length ((cat (fun i => cat (oppRow l i) l.length) i ++ cat (oppRow l i) (k + 1)).map pairI).flatten, .obj b7 (.cells ⟨x.enc⟩ 33 (0, 0))]) (by
            rw [cat_succ, oppRow, oneIf_false h55, List.append_nil]; rfl) ?_
          refine G.again (m' := l.length - (k + 1)) (by omega) hle1 (fr' := [(0, [], _), (5, [], _), (6, [], _), (7, [], _), (8, [], _), (15, [], _), (16, [], _), (17, [], _)]) ⟨rfl, rfl, rfl, rfl, rfl, rfl, rfl, rfl, trivial⟩ ⟨k + 1, w5, ⟨by omega, by omega⟩, rfl, rfl, rfl⟩
      · skip
        simp only [List.length_map, decide_eq_false_iff_not] at h27
        have hke : k = l.length := by omega
        subst hke
        refine G.region rfl (fun R hR => ?_)
        refine D.i64 _ rfl rfl rfl rfl rfl (by omega) (by omega) rfl rfl ?_
        refine D.pure rfl rfl rfl rfl rfl rfl ?_
        refine D.done [(0, [], _), (5, [], _), (15, [], _), (16, [], _), (17, [], _)] ⟨rfl, rfl, rfl, rfl, rfl, trivial⟩ (hR _ _ _ rfl ?_); clear hR R
        refine G.dropE 1 rfl ?_
        refine G.again (m' := l.length - (i + 1)) (by omega) (hle0.trans hle1) (fr' := [(0, [], _), (5, [], _), (15, [], _), (16, [], _), (17, [], _)]) ⟨rfl, rfl, rfl, rfl, rfl, trivial⟩ ⟨i + 1, w5, by omega, rfl, rfl, rfl⟩
    · skip
      simp only [List.length_map, decide_eq_false_iff_not] at h18
      have hil : i = l.length := by omega
      subst hil
      refine G.region rfl (fun R hR => ?_)
      iterate 3 refine D.pure rfl rfl rfl rfl rfl rfl ?_
      refine D.done [(2, [], _), (3, [], _)] ⟨rfl, rfl, trivial⟩ (hR _ _ _ rfl ?_); clear hR R
      refine G.freezeArr 0 ((oppL l).map pairI) rfl rfl (by intro r hr; obtain ⟨y, _, rfl⟩ := List.mem_map.1 hr; rfl) (by simp [oppL]) (fun Cf hlef hsf => G.retN (G.fin2 rfl rfl rfl ?_))
      exact ⟨rfl, .inr ⟨h13', _, rfl, hsf⟩⟩

/-! ### The statement's function -/
theorem pairs_spec (C : Mem) (v : Value) (l : List Seen) (a b : UInt8) (hv : Sl C 3 v (l.map Seen.enc)) (hM : MaxLenAt C) : Gives cx.P 6 [v, .int .u8 a.toNat, .int .u8 b.toNat] C (.bool true) := by
  have hv0 := hv
  obtain ⟨A, c, rfl, _⟩ := hv0
  have ha := a.toNat_lt
  have hb := b.toNat_lt
  obtain ⟨m, hm⟩ : ∃ m, makeL l = m := ⟨_, rfl⟩
  have hml : m.length ≤ 12 := by rw [← hm]; simp [makeL]; omega
  have hms : ∀ x ∈ m, x.short := by rw [← hm]; exact makeL_short l
  have hme : errAll m = 0 := by rw [← hm]; exact makeL_ok l
  have hmn : errNames m [unitS a.toNat, unitS b.toNat] = 0 := by
    rw [errNames, if_pos hme, if_neg]
    simp [unitS_name]
  have hbig : ∀ i, (cat (fun i => cat (oppRow m i) m.length) i).length ≤ i * m.length := fun i => cat_length_mul (fun i => opp_len m i _) i
  refine Fn.intro (by kernel_rfl) Tryd.func6 rfl 178 rfl rfl (fun w0 => ?_)
  refine G.region rfl (fun R hR => ?_)
  refine D.pure rfl rfl rfl rfl rfl rfl ?_
  refine D.done [(0, [], _), (1, [], _), (2, [], _)] ⟨rfl, rfl, rfl, trivial⟩ (hR _ _ _ rfl ?_); clear hR R
  refine G.region rfl (fun R hR => ?_)
  refine D.gives2 (known_spec _ hM) rfl rfl rfl rfl rfl rfl rfl (fun _ => rfl) ?_
  iterate 5 refine D.pure rfl rfl rfl rfl rfl rfl ?_
  refine D.pickOr rfl rfl rfl rfl rfl rfl rfl rfl ?_
  refine D.done [(0, [], _), (1, [], _), (2, [], _), (22, [], _)] ⟨rfl, rfl, rfl, rfl, trivial⟩ (hR _ _ _ rfl ?_); clear hR R
  refine G.cond rfl (fun h22 => ?_) (fun h22 => ?_)
  · skip
    refine G.region rfl (fun R hR => ?_)
    refine D.gives2 (known_spec _ hM) rfl rfl rfl rfl rfl rfl rfl (fun _ => rfl) ?_
    refine D.pure rfl rfl rfl rfl rfl rfl ?_
    refine D.done [(6, [], _)] ⟨rfl, trivial⟩ (hR _ _ _ rfl ?_); clear hR R
    refine G.retN (G.dropAll (G.fin1 rfl rfl ?_))
    exact ⟨rfl, rfl⟩
  · skip
    simp only [List.length_map, Bool.or_eq_false_iff, decide_eq_false_iff_not] at h22
    refine G.region rfl (fun R hR => ?_)
    refine D.pure rfl rfl rfl rfl rfl rfl ?_
    refine D.callP (make_spec _ _ l hv) rfl rfl rfl rfl rfl rfl rfl (fun _ => rfl) (fun v25 C25 hle25 hq25 => ?_)
    refine D.pure rfl rfl rfl rfl rfl rfl ?_
    refine D.done [(1, [], _), (2, [], _), (7, [], _)] ⟨rfl, rfl, rfl, trivial⟩ (hR _ _ _ rfl ?_); clear hR R
    rw [hm] at hq25
    have hm0 := hq25
    obtain ⟨Am, cm, hvm, _⟩ := id hq25
    subst hvm
    refine G.region rfl (fun R hR => ?_)
    iterate 2 refine D.pure rfl rfl rfl rfl rfl rfl ?_
    refine D.gives2 (unit_spec _ _ (by omega) (by omega)) rfl rfl rfl rfl rfl rfl rfl (fun _ => rfl) ?_
    refine D.pure rfl rfl rfl rfl rfl rfl ?_
    refine D.gives2 (unit_spec _ _ (by omega) (by omega)) rfl rfl rfl rfl rfl rfl rfl (fun _ => rfl) ?_
    refine D.callP (between_fn _ _ m (unitS a.toNat) (unitS b.toNat) hm0 (by omega) hms (by simp [unitS]) (by simp [unitS])) rfl rfl rfl rfl rfl rfl rfl (fun _ => rfl) (fun v32 C32 hle32 hq32 => ?_)
    rcases hq32 with ⟨h, _⟩ | ⟨_, ux, rfl, hsx⟩
    · exact absurd hmn h
    obtain ⟨Ax, cx', hux, _⟩ := id hsx
    subst hux
    iterate 5 refine D.pure rfl rfl rfl rfl rfl rfl ?_
    refine D.done [(1, [], _), (2, [], _), (7, [], _), (8, [], _), (9, [], _)] ⟨rfl, rfl, rfl, rfl, rfl, trivial⟩ (hR _ _ _ rfl ?_); clear hR R
    refine G.region rfl (fun R hR => ?_)
    refine D.pure rfl rfl rfl rfl rfl rfl ?_
    refine D.callP (opposed_fn _ _ m (hm0.mono hle32) (by omega) hms) rfl rfl rfl rfl rfl rfl rfl (fun _ => rfl) (fun v37 C37 hle37 hq37 => ?_)
    rcases hq37 with ⟨h, _⟩ | ⟨_, uy, rfl, hsy⟩
    · exact absurd hme h
    obtain ⟨Ay, cy, huy, _⟩ := id hsy
    subst huy
    iterate 5 refine D.pure rfl rfl rfl rfl rfl rfl ?_
    refine D.done [(1, [], _), (2, [], _), (7, [], _), (8, [], _), (9, [], _), (10, [], _), (11, [], _)] ⟨rfl, rfl, rfl, rfl, rfl, rfl, rfl, trivial⟩ (hR _ _ _ rfl ?_); clear hR R
    refine G.region rfl (fun R hR => ?_)
    iterate 5 refine D.pure rfl rfl rfl rfl rfl rfl ?_
    refine D.pickOr rfl rfl rfl rfl rfl rfl rfl rfl ?_
    refine D.done [(1, [], _), (2, [], _), (7, [], _), (8, [], _), (10, [], _), (45, [], _)] ⟨rfl, rfl, rfl, rfl, rfl, rfl, trivial⟩ (hR _ _ _ rfl ?_); clear hR R
    refine G.cond rfl (fun h45 => ?_) (fun h45 => ?_)
    · skip
      simp at h45
    · skip
      refine G.region rfl (fun R hR => ?_)
      iterate 2 refine D.pure rfl rfl rfl rfl rfl rfl ?_
      refine D.done [(1, [], _), (2, [], _), (7, [], _), (8, [], _), (10, [], _), (12, [], _), (13, [], _)] ⟨rfl, rfl, rfl, rfl, rfl, rfl, rfl, trivial⟩ (hR _ _ _ rfl ?_); clear hR R
      refine G.region rfl (fun R hR => ?_)
      refine D.pure rfl rfl rfl rfl rfl rfl ?_
      refine D.done [(1, [], _), (2, [], _), (7, [], _), (8, [], _), (10, [], _), (12, [], _), (13, [], _), (14, [], _)] ⟨rfl, rfl, rfl, rfl, rfl, rfl, rfl, rfl, trivial⟩ (hR _ _ _ rfl ?_); clear hR R
      refine G.loop (fun fr C' L' μ => ∃ (i k n : Nat), (i ≤ m.length ∧ k = (idxs (betw m (unitS a.toNat) (unitS b.toNat)) i).length ∧ n = (cat (fun i => cat (oppRow m i) m.length) i).length) ∧ fr = [(1, [], .int .u8 a.toNat), (2, [], .int .u8 b.toNat), (7, [], .slice Am (m.map Rel.enc).length cm), (8, [], .slice Ax ((betweenL m (unitS a.toNat) (unitS b.toNat)).map natI).length cx'), (10, [], .slice Ay ((oppL m).map pairI).length cy), (12, [], .int .i64 k), (13, [], .int .i64 n), (14, [], .int .i64 i)] ∧ L' = [] ∧ μ = m.length - i) (fr' := [(1, [], _), (2, [], _), (7, [], _), (8, [], _), (10, [], _), (12, [], _), (13, [], _), (14, [], _)]) ⟨rfl, rfl, rfl, rfl, rfl, rfl, rfl, rfl, trivial⟩ ⟨0, 0, 0, ⟨Nat.zero_le _, rfl, rfl⟩, rfl, rfl, rfl⟩ (fun fr C0' L0' m hle0 hI => ?_)
      obtain ⟨i, k, n, ⟨hi, hk, hn⟩, rfl, rfl, rfl⟩ := hI
      have hm1 := ((hm0.mono hle32).mono hle37).mono hle0
      have hx1 := (hsx.mono hle37).mono hle0
      have hy1 := hsy.mono hle0
      have hkb := idxs_len (betw m (unitS a.toNat) (unitS b.toNat)) i
      have hnb := hbig i
      have hnb2 : i * m.length ≤ 12 * 12 := Nat.mul_le_mul (by omega) (by omega)
      refine G.region rfl (fun R hR => ?_)
      iterate 4 refine D.pure rfl rfl rfl rfl rfl rfl ?_
      refine D.done [(1, [], _), (2, [], _), (7, [], _), (8, [], _), (10, [], _), (12, [], _), (13, [], _), (14, [], _), (49, [], _)] ⟨rfl, rfl, rfl, rfl, rfl, rfl, rfl, rfl, rfl, trivial⟩ (hR _ _ _ rfl ?_); clear hR R
      refine G.cond rfl (fun h49 => ?_) (fun h49 => ?_)
      · skip
        simp only [List.length_map, decide_eq_true_eq] at h49
        have hil : i < m.length := by omega
        obtain ⟨x, hx⟩ : ∃ x, m[i]? = some x := ⟨m[i], List.getElem?_eq_getElem hil⟩
        have hbt : betw m (unitS a.toNat) (unitS b.toNat) i = (((x.upper == unitS a.toNat) && (x.lower == unitS b.toNat)) || ((x.upper == unitS b.toNat) && (x.lower == unitS a.toNat))) := by rw [betw, hx]
        have hrx : (m.map Rel.enc)[i]? = some x.enc := by simp [hx]
        refine G.draw [0, 1, 2, 3, 4, 5, 6, 7, 8, 9, 10, 11, 12, 13, 14, 15, 16, 17, 18, 19, 20, 21, 22, 23, 24, 25, 26, 27, 28, 29, 30, 31, 32, 33, 34, 35, 36, 37] [(6, 1)] rfl (by kernel_rfl) (fun R hB hR => ?_)
        iterate 2 refine D.pure rfl rfl rfl rfl rfl rfl ?_
        refine D.index0 hm1 rfl rfl rfl rfl rfl rfl rfl rfl rfl rfl (by omega) hrx (fun _ => rfl) (fun p54 hp54 => ?_)
        refine D.fieldP0 hp54 rfl rfl rfl rfl rfl rfl rfl rfl rfl rfl (fun _ => rfl) (fun p55 hp55 => ?_)
        refine D.loadP0 hp55 rfl rfl rfl rfl rfl rfl rfl rfl ?_
        refine D.pure rfl rfl rfl rfl rfl rfl ?_
        refine D.gives (fun _ => (unit_spec _ _ (by omega) (by omega))) rfl rfl rfl rfl rfl rfl rfl rfl rfl ?_
        iterate 4 refine D.pure rfl rfl rfl rfl rfl rfl ?_
        refine D.index rfl rfl rfl rfl rfl rfl rfl rfl rfl rfl (fun hg => ⟨hm1, by omega, hrx⟩) (fun _ => rfl) rfl (fun p63 hp63 => ?_)
        refine D.fieldP rfl rfl rfl rfl rfl rfl rfl rfl rfl rfl hp63 (fun _ => rfl) rfl (fun p64 hp64 => ?_)
        refine D.loadP rfl rfl rfl rfl rfl rfl hp64 rfl rfl rfl ?_
        refine D.pure rfl rfl rfl rfl rfl rfl ?_
        refine D.gives (fun _ => (unit_spec _ _ (by omega) (by omega))) rfl rfl rfl rfl rfl rfl rfl rfl rfl ?_
        refine D.pure rfl rfl rfl rfl rfl rfl ?_
        refine D.pickAnd rfl rfl rfl rfl rfl rfl rfl rfl ?_
        iterate 3 refine D.pure rfl rfl rfl rfl rfl rfl ?_
        refine D.index rfl rfl rfl rfl rfl rfl rfl rfl rfl rfl (fun hg => ⟨hm1, by omega, hrx⟩) (fun _ => rfl) rfl (fun p73 hp73 => ?_)
        refine D.fieldP rfl rfl rfl rfl rfl rfl rfl rfl rfl rfl hp73 (fun _ => rfl) rfl (fun p74 hp74 => ?_)
        refine D.loadP rfl rfl rfl rfl rfl rfl hp74 rfl rfl rfl ?_
        refine D.pure rfl rfl rfl rfl rfl rfl ?_
        refine D.gives (fun _ => (unit_spec _ _ (by omega) (by omega))) rfl rfl rfl rfl rfl rfl rfl rfl rfl ?_
        iterate 4 refine D.pure rfl rfl rfl rfl rfl rfl ?_
        refine D.index rfl rfl rfl rfl rfl rfl rfl rfl rfl rfl (fun hg => ⟨hm1, by omega, hrx⟩) (fun _ => rfl) rfl (fun p82 hp82 => ?_)
        refine D.fieldP rfl rfl rfl rfl rfl rfl rfl rfl rfl rfl hp82 (fun _ => rfl) rfl (fun p83 hp83 => ?_)
        refine D.loadP rfl rfl rfl rfl rfl rfl hp83 rfl rfl rfl ?_
        refine D.pure rfl rfl rfl rfl rfl rfl ?_
        refine D.gives (fun _ => (unit_spec _ _ (by omega) (by omega))) rfl rfl rfl rfl rfl rfl rfl rfl rfl ?_
        refine D.pure rfl rfl rfl rfl rfl rfl ?_
        refine D.pickAnd rfl rfl rfl rfl rfl rfl rfl rfl ?_
        refine D.pickOr rfl rfl rfl rfl rfl rfl rfl rfl ?_
        refine D.done [(1, [], _), (2, [], _), (7, [], _), (8, [], _), (10, [], _), (12, [], _), (13, [], _), (14, [], _), (89, [], (.bool (((x.upper == unitS a.toNat) && (x.lower == unitS b.toNat)) || ((x.upper == unitS b.toNat) && (x.lower == unitS a.toNat)))))] ⟨rfl, rfl, rfl, rfl, rfl, rfl, rfl, rfl, rfl, trivial⟩ (hR _ _ _ rfl ?_); clear hR hB R
        refine G.cut (fun fr C' L' μ => ∃ (k' : Nat), (k' = (idxs (betw m (unitS a.toNat) (unitS b.toNat)) (i + 1)).length) ∧ fr = [(1, [], .int .u8 a.toNat), (2, [], .int .u8 b.toNat), (7, [], .slice Am (m.map Rel.enc).length cm), (8, [], .slice Ax ((betweenL m (unitS a.toNat) (unitS b.toNat)).map natI).length cx'), (10, [], .slice Ay ((oppL m).map pairI).length cy), (12, [], .int .i64 k'), (13, [], .int .i64 n), (14, [], .int .i64 i)] ∧ L' = []) ?_ (fun fr C89 L89 μ hle89 hI => ?_)
        · skip
          refine G.cond rfl (fun h89 => ?_) (fun h89 => ?_)
          · skip
            rw [← hbt] at h89
            have hat : (betweenL m (unitS a.toNat) (unitS b.toNat))[k]? = some i := by rw [hk]; exact idxs_at hil h89
            have hklt : k < (betweenL m (unitS a.toNat) (unitS b.toNat)).length := (List.getElem?_eq_some_iff.1 hat).1
            have hrk : ((betweenL m (unitS a.toNat) (unitS b.toNat)).map natI)[k]? = some (natI i) := by simp [hat]
            refine G.region rfl (fun R hR => ?_)
            iterate 7 refine D.pure rfl rfl rfl rfl rfl rfl ?_
            refine D.index rfl rfl rfl rfl rfl rfl rfl rfl rfl rfl (fun hg => ⟨hx1, by omega, hrk⟩) (fun _ => rfl) rfl (fun p97 hp97 => ?_)
            refine D.loadP rfl rfl rfl rfl rfl rfl hp97 rfl rfl rfl ?_
            iterate 2 refine D.pure rfl rfl rfl rfl rfl rfl ?_
            refine D.pickOr rfl rfl rfl rfl rfl rfl rfl rfl ?_
            refine D.done [(1, [], _), (2, [], _), (7, [], _), (8, [], _), (10, [], _), (12, [], _), (13, [], _), (14, [], _), (101, [], _)] ⟨rfl, rfl, rfl, rfl, rfl, rfl, rfl, rfl, rfl, trivial⟩ (hR _ _ _ rfl ?_); clear hR R
            refine G.cond rfl (fun h101 => ?_) (fun h101 => ?_)
            · skip
              simp at h101; omega
            · skip
              refine G.region rfl (fun R hR => ?_)
              refine D.pure rfl rfl rfl rfl rfl rfl ?_
              refine D.i64 _ rfl rfl rfl rfl rfl (by omega) (by omega) rfl rfl ?_
              refine D.pure rfl rfl rfl rfl rfl rfl ?_
              refine D.done [(1, [], _), (2, [], _), (7, [], _), (8, [], _), (10, [], _), (12, [], _), (13, [], _), (14, [], _)] ⟨rfl, rfl, rfl, rfl, rfl, rfl, rfl, rfl, trivial⟩ (hR _ _ _ rfl ?_); clear hR R
              refine G.meet 0 (Mem.le.refl _) (fr' := [(1, [], _), (2, [], _), (7, [], _), (8, [], _), (10, [], _), (12, [], _), (13, [], _), (14, [], _)]) ⟨rfl, rfl, rfl, rfl, rfl, rfl, rfl, rfl, trivial⟩ ⟨k + 1, by rw [idxs_true h89, hk]; simp, rfl, rfl⟩
          · skip
            rw [← hbt] at h89
            refine G.meet 0 (Mem.le.refl _) (fr' := [(1, [], _), (2, [], _), (7, [], _), (8, [], _), (10, [], _), (12, [], _), (13, [], _), (14, [], _)]) ⟨rfl, rfl, rfl, rfl, rfl, rfl, rfl, rfl, trivial⟩ ⟨k, by rw [idxs_false h89, hk], rfl, rfl⟩
        · skip
          obtain ⟨k', hk', rfl, rfl⟩ := hI
          refine G.region rfl (fun R hR => ?_)
          refine D.pure rfl rfl rfl rfl rfl rfl ?_
          refine D.i64 _ rfl rfl rfl rfl rfl (by omega) (by omega) rfl rfl ?_
          refine D.pure rfl rfl rfl rfl rfl rfl ?_
          refine D.done [(1, [], _), (2, [], _), (7, [], _), (8, [], _), (10, [], _), (12, [], _), (13, [], _), (14, [], _), (15, [], _)] ⟨rfl, rfl, rfl, rfl, rfl, rfl, rfl, rfl, rfl, trivial⟩ (hR _ _ _ rfl ?_); clear hR R
          refine G.loop (fun fr C' L' μ => ∃ (j n' : Nat), (i + 1 ≤ j ∧ j ≤ m.length ∧ n' = (cat (fun i => cat (oppRow m i) m.length) i ++ cat (oppRow m i) j).length) ∧ fr = [(1, [], .int .u8 a.toNat), (2, [], .int .u8 b.toNat), (7, [], .slice Am (m.map Rel.enc).length cm), (8, [], .slice Ax ((betweenL m (unitS a.toNat) (unitS b.toNat)).map natI).length cx'), (10, [], .slice Ay ((oppL m).map pairI).length cy), (12, [], .int .i64 k'), (13, [], .int .i64 n'), (14, [], .int .i64 i), (15, [], .int .i64 j)] ∧ L' = [] ∧ μ = m.length - j) (fr' := [(1, [], _), (2, [], _), (7, [], _), (8, [], _), (10, [], _), (12, [], _), (13, [], _), (14, [], _), (15, [], _)]) ⟨rfl, rfl, rfl, rfl, rfl, rfl, rfl, rfl, rfl, trivial⟩ ⟨i + 1, n, ⟨Nat.le_refl _, hil, by rw [oppRow_low (Nat.le_refl _), List.append_nil]; exact hn⟩, rfl, rfl, rfl⟩ (fun fr C1' L1' m hle1 hI => ?_)
          obtain ⟨j, n', ⟨hji, hjl, hn'⟩, rfl, rfl, rfl⟩ := hI
          have hm2 := (hm1.mono hle89).mono hle1
          have hy2 := (hy1.mono hle89).mono hle1
          refine G.region rfl (fun R hR => ?_)
          iterate 4 refine D.pure rfl rfl rfl rfl rfl rfl ?_
          refine D.done [(1, [], _), (2, [], _), (7, [], _), (8, [], _), (10, [], _), (12, [], _), (13, [], _), (14, [], _), (15, [], _), (109, [], _)] ⟨rfl, rfl, rfl, rfl, rfl, rfl, rfl, rfl, rfl, rfl, trivial⟩ (hR _ _ _ rfl ?_); clear hR R
          refine G.cond rfl (fun h109 => ?_) (fun h109 => ?_)
          · skip
            simp only [List.length_map, decide_eq_true_eq] at h109
            have hjl' : j < m.length := by omega
            obtain ⟨y, hy⟩ : ∃ y, m[j]? = some y := ⟨m[j], List.getElem?_eq_getElem hjl'⟩
            have hop : opp m i j = oppB x y := by
              have : i < j := by omega
              unfold opp; rw [hx, hy]; simp [this]
            have hal : (cat (fun i => cat (oppRow m i) m.length) i ++ cat (oppRow m i) j).length ≤ 2000000 := by
              have h2 := opp_len m i j
              rw [List.length_append]; omega
            have hry : (m.map Rel.enc)[j]? = some y.enc := by simp [hy]
            refine G.draw [0, 1, 2, 3, 4, 5, 6, 7, 8, 9, 10, 11, 12, 13, 14, 15, 16, 17, 18, 19, 20, 21, 22, 23, 24, 25, 26, 27, 28, 29, 30, 31, 32, 33, 34, 35, 36, 37, 38, 39] [] rfl (by kernel_rfl) (fun R hB hR => ?_)
            iterate 2 refine D.pure rfl rfl rfl rfl rfl rfl ?_
            refine D.index0 hm2 rfl rfl rfl rfl rfl rfl rfl rfl rfl rfl (by omega) hrx (fun _ => rfl) (fun p114 hp114 => ?_)
            refine D.fieldP0 hp114 rfl rfl rfl rfl rfl rfl rfl rfl rfl rfl (fun _ => rfl) (fun p115 hp115 => ?_)
            refine D.loadP0 hp115 rfl rfl rfl rfl rfl rfl rfl rfl ?_
            iterate 4 refine D.pure rfl rfl rfl rfl rfl rfl ?_
            refine D.index rfl rfl rfl rfl rfl rfl rfl rfl rfl rfl (fun hg => ⟨hm2, by omega, hry⟩) (fun _ => rfl) rfl (fun p121 hp121 => ?_)
            refine D.fieldP rfl rfl rfl rfl rfl rfl rfl rfl rfl rfl hp121 (fun _ => rfl) rfl (fun p122 hp122 => ?_)
            refine D.loadP rfl rfl rfl rfl rfl rfl hp122 rfl rfl rfl ?_
            refine D.pure rfl rfl rfl rfl rfl rfl ?_
            refine D.pickAnd rfl rfl rfl rfl rfl rfl rfl rfl ?_
            iterate 3 refine D.pure rfl rfl rfl rfl rfl rfl ?_
            refine D.index rfl rfl rfl rfl rfl rfl rfl rfl rfl rfl (fun hg => ⟨hm2, by omega, hrx⟩) (fun _ => rfl) rfl (fun p129 hp129 => ?_)
            refine D.fieldP rfl rfl rfl rfl rfl rfl rfl rfl rfl rfl hp129 (fun _ => rfl) rfl (fun p130 hp130 => ?_)
            refine D.loadP rfl rfl rfl rfl rfl rfl hp130 rfl rfl rfl ?_
            iterate 2 refine D.pure rfl rfl rfl rfl rfl rfl ?_
            refine D.index rfl rfl rfl rfl rfl rfl rfl rfl rfl rfl (fun hg => ⟨hm2, by omega, hry⟩) (fun _ => rfl) rfl (fun p134 hp134 => ?_)
            refine D.fieldP rfl rfl rfl rfl rfl rfl rfl rfl rfl rfl hp134 (fun _ => rfl) rfl (fun p135 hp135 => ?_)
            refine D.loadP rfl rfl rfl rfl rfl rfl hp135 rfl rfl rfl ?_
            refine D.pure rfl rfl rfl rfl rfl rfl ?_
            refine D.pickAnd rfl rfl rfl rfl rfl rfl rfl rfl ?_
            iterate 3 refine D.pure rfl rfl rfl rfl rfl rfl ?_
            refine D.index rfl rfl rfl rfl rfl rfl rfl rfl rfl rfl (fun hg => ⟨hm2, by omega, hrx⟩) (fun _ => rfl) rfl (fun p142 hp142 => ?_)
            refine D.fieldP rfl rfl rfl rfl rfl rfl rfl rfl rfl rfl hp142 (fun _ => rfl) rfl (fun p143 hp143 => ?_)
            refine D.loadP rfl rfl rfl rfl rfl rfl hp143 rfl rfl rfl ?_
            iterate 2 refine D.pure rfl rfl rfl rfl rfl rfl ?_
            refine D.index rfl rfl rfl rfl rfl rfl rfl rfl rfl rfl (fun hg => ⟨hm2, by omega, hry⟩) (fun _ => rfl) rfl (fun p147 hp147 => ?_)
            refine D.fieldP rfl rfl rfl rfl rfl rfl rfl rfl rfl rfl hp147 (fun _ => rfl) rfl (fun p148 hp148 => ?_)
            refine D.loadP rfl rfl rfl rfl rfl rfl hp148 rfl rfl rfl ?_
            refine D.pure rfl rfl rfl rfl rfl rfl ?_
            refine D.pickAnd rfl rfl rfl rfl rfl rfl rfl rfl ?_
            refine D.done [(1, [], _), (2, [], _), (7, [], _), (8, [], _), (10, [], _), (12, [], _), (13, [], _), (14, [], _), (15, [], _), (151, [], (.bool (oppB x y)))] ⟨rfl, rfl, rfl, rfl, rfl, rfl, rfl, rfl, rfl, rfl, trivial⟩ (hR _ _ _ rfl ?_); clear hR hB R
            refine G.cut (fun fr C' L' μ => ∃ (n2 : Nat), (n2 = (cat (fun i => cat (oppRow m i) m.length) i ++ cat (oppRow m i) (j + 1)).length) ∧ fr = [(1, [], .int .u8 a.toNat), (2, [], .int .u8 b.toNat), (7, [], .slice Am (m.map Rel.enc).length cm), (8, [], .slice Ax ((betweenL m (unitS a.toNat) (unitS b.toNat)).map natI).length cx'), (10, [], .slice Ay ((oppL m).map pairI).length cy), (12, [], .int .i64 k'), (13, [], .int .i64 n2), (14, [], .int .i64 i), (15, [], .int .i64 j)] ∧ L' = []) ?_ (fun fr C151 L151 μ hle151 hI => ?_)
            · skip
              refine G.cond rfl (fun h151 => ?_) (fun h151 => ?_)
              · skip
                rw [← hop] at h151
                have hat2 : (oppL m)[n']? = some (i, j) := by
                  have hrow : oppRow m i j = [] ++ (i, j) :: [] := oneIf_true h151
                  have h1 := cat_at (f := oppRow m i) hjl' hrow
                  have h2 : cat (oppRow m i) m.length = (cat (oppRow m i) m.length).take ((cat (oppRow m i) j).length) ++ (i, j) :: (cat (oppRow m i) m.length).drop ((cat (oppRow m i) j).length + 1) := by
                    have h3 : (cat (oppRow m i) m.length)[(cat (oppRow m i) j).length]? = some (i, j) := by simpa using h1
                    obtain ⟨h4, h5⟩ := List.getElem?_eq_some_iff.1 h3
                    rw [← h5, List.getElem_cons_drop, List.take_append_drop]
                  have h3 := cat_at (f := fun i => cat (oppRow m i) m.length) hil h2
                  rw [hn', List.length_append]
                  have h4 : (cat (oppRow m i) j).length ≤ (cat (oppRow m i) m.length).length := cat_length_le hjl
                  rw [List.length_take, Nat.min_eq_left h4] at h3
                  exact h3
                have hnlt : n' < (oppL m).length := (List.getElem?_eq_some_iff.1 hat2).1
                have hrn : ((oppL m).map pairI)[n']? = some (pairI (i, j)) := by simp [hat2]
                refine G.region rfl (fun R hR => ?_)
                iterate 7 refine D.pure rfl rfl rfl rfl rfl rfl ?_
                refine D.index rfl rfl rfl rfl rfl rfl rfl rfl rfl rfl (fun hg => ⟨hy2, by omega, hrn⟩) (fun _ => rfl) rfl (fun p159 hp159 => ?_)
                refine D.loadP rfl rfl rfl rfl rfl rfl hp159 rfl rfl rfl ?_
                iterate 2 refine D.pure rfl rfl rfl rfl rfl rfl ?_
                refine D.build [.int .i64 i, .int .i64 j] rfl rfl rfl rfl rfl rfl rfl rfl ?_
                refine D.neArr (!((((i : Int) == i) && (((j : Int) == j) && true)))) (by kernel_rfl) rfl rfl rfl rfl rfl rfl rfl rfl (fun _ => rfl) rfl rfl ?_
                refine D.pickOr rfl rfl rfl rfl rfl rfl rfl rfl ?_
                refine D.done [(1, [], _), (2, [], _), (7, [], _), (8, [], _), (10, [], _), (12, [], _), (13, [], _), (14, [], _), (15, [], _), (165, [], _)] ⟨rfl, rfl, rfl, rfl, rfl, rfl, rfl, rfl, rfl, rfl, trivial⟩ (hR _ _ _ rfl ?_); clear hR R
                refine G.cond rfl (fun h165 => ?_) (fun h165 => ?_)
                · skip
                  simp at h165; omega
                · skip
                  refine G.region rfl (fun R hR => ?_)
                  refine D.pure rfl rfl rfl rfl rfl rfl ?_
                  refine D.i64 _ rfl rfl rfl rfl rfl (by omega) (by omega) rfl rfl ?_
                  refine D.pure rfl rfl rfl rfl rfl rfl ?_
                  refine D.done [(1, [], _), (2, [], _), (7, [], _), (8, [], _), (10, [], _), (12, [], _), (13, [], _), (14, [], _), (15, [], _)] ⟨rfl, rfl, rfl, rfl, rfl, rfl, rfl, rfl, rfl, trivial⟩ (hR _ _ _ rfl ?_); clear hR R
                  refine G.meet 0 (Mem.le.refl _) (fr' := [(1, [], _), (2, [], _), (7, [], _), (8, [], _), (10, [], _), (12, [], _), (13, [], _), (14, [], _), (15, [], _)]) ⟨rfl, rfl, rfl, rfl, rfl, rfl, rfl, rfl, rfl, trivial⟩ ⟨n' + 1, by rw [cat_succ, oppRow, oneIf_true h151, ← List.append_assoc, List.length_append, hn']; rfl, rfl, rfl⟩
              · skip
                rw [← hop] at h151
                refine G.meet 0 (Mem.le.refl _) (fr' := [(1, [], _), (2, [], _), (7, [], _), (8, [], _), (10, [], _), (12, [], _), (13, [], _), (14, [], _), (15, [], _)]) ⟨rfl, rfl, rfl, rfl, rfl, rfl, rfl, rfl, rfl, trivial⟩ ⟨n', by rw [cat_succ, oppRow, oneIf_false h151, List.append_nil]; exact hn', rfl, rfl⟩
            · skip
              obtain ⟨n2, hn2, rfl, rfl⟩ := hI
              refine G.region rfl (fun R hR => ?_)
              refine D.pure rfl rfl rfl rfl rfl rfl ?_
              refine D.i64 _ rfl rfl rfl rfl rfl (by omega) (by omega) rfl rfl ?_
              refine D.pure rfl rfl rfl rfl rfl rfl ?_
              refine D.done [(1, [], _), (2, [], _), (7, [], _), (8, [], _), (10, [], _), (12, [], _), (13, [], _), (14, [], _), (15, [], _)] ⟨rfl, rfl, rfl, rfl, rfl, rfl, rfl, rfl, rfl, trivial⟩ (hR _ _ _ rfl ?_); clear hR R
              refine G.again (m' := m.length - (j + 1)) (by omega) (hle1.trans hle151) (fr' := [(1, [], _), (2, [], _), (7, [], _), (8, [], _), (10, [], _), (12, [], _), (13, [], _), (14, [], _), (15, [], _)]) ⟨rfl, rfl, rfl, rfl, rfl, rfl, rfl, rfl, rfl, trivial⟩ ⟨j + 1, n2, ⟨by omega, by omega, hn2⟩, rfl, rfl, rfl⟩
          · skip
            simp only [List.length_map, decide_eq_false_iff_not] at h109
            have hje : j = m.length := by omega
            subst hje
            refine G.region rfl (fun R hR => ?_)
            refine D.pure rfl rfl rfl rfl rfl rfl ?_
            refine D.i64 _ rfl rfl rfl rfl rfl (by omega) (by omega) rfl rfl ?_
            refine D.pure rfl rfl rfl rfl rfl rfl ?_
            refine D.done [(1, [], _), (2, [], _), (7, [], _), (8, [], _), (10, [], _), (12, [], _), (13, [], _), (14, [], _)] ⟨rfl, rfl, rfl, rfl, rfl, rfl, rfl, rfl, trivial⟩ (hR _ _ _ rfl ?_); clear hR R
            refine G.again (m' := m.length - (i + 1)) (by omega) (hle0.trans (hle89.trans hle1)) (fr' := [(1, [], _), (2, [], _), (7, [], _), (8, [], _), (10, [], _), (12, [], _), (13, [], _), (14, [], _)]) ⟨rfl, rfl, rfl, rfl, rfl, rfl, rfl, rfl, trivial⟩ ⟨i + 1, k', n', ⟨by omega, hk', hn'⟩, rfl, rfl, rfl⟩
      · skip
        simp only [List.length_map, decide_eq_false_iff_not] at h49
        have hie : i = m.length := by omega
        subst hie
        refine G.region rfl (fun R hR => ?_)
        iterate 9 refine D.pure rfl rfl rfl rfl rfl rfl ?_
        refine D.pickAnd rfl rfl rfl rfl rfl rfl rfl rfl ?_
        refine D.pure rfl rfl rfl rfl rfl rfl ?_
        refine D.done [(6, [], _)] ⟨rfl, trivial⟩ (hR _ _ _ rfl ?_); clear hR R
        refine G.retN (G.dropAll (G.fin1 rfl rfl ?_))
        refine ⟨?_, rfl⟩
        have h1 : k = (betweenL m (unitS a.toNat) (unitS b.toNat)).length := hk
        have h2 : n = (oppL m).length := hn
        rw [h1, h2]; simp
end Go.Proofs.YtjmfjobfmdhbfaaDoor
