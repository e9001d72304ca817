/- Layer 20: Index, Contains, words, Parse, Arcs. -/
import Derived.Test.YtjmfjobfmdhbfaaDoorK20d
namespace Go.Proofs.YtjmfjobfmdhbfaaDoor
open Go Go.Jog
set_option maxRecDepth 100000

def idxI (x : Str) : List Str → Nat → Int
  | [], _ => -1
  | y :: l, k => if x = y then k else idxI x l (k + 1)
theorem idxI_at : ∀ {l : List Str} {x : Str} {k j : Nat}, l[k]? = some x → (∀ y ∈ l.take k, x ≠ y) → idxI x l j = ((j + k : Nat) : Int)
  | [], x, k, j, h, _ => by simp at h
  | y :: l, x, 0, j, h, _ => by
    simp at h
    subst h
    simp [idxI]
  | y :: l, x, k + 1, j, h, ha => by
    have := idxI_at (l := l) (k := k) (j := j + 1) (by simpa using h) (fun z hz => ha z (by simp [hz]))
    simp only [idxI, if_neg (ha y (by simp)), this]
    congr 1; omega
theorem idxI_none : ∀ {l : List Str} {x : Str} {j : Nat}, (∀ y ∈ l, x ≠ y) → idxI x l j = -1
  | [], _, _, _ => rfl
  | y :: l, x, j, h => by simp [idxI, h y (by simp), idxI_none (l := l) (fun z hz => h z (by simp [hz]))]
theorem idxI_range : ∀ (l : List Str) (x : Str) (j : Nat), idxI x l j = -1 ∨ (j : Int) ≤ idxI x l j ∧ idxI x l j < ((j + l.length : Nat) : Int)
  | [], _, _ => .inl rfl
  | y :: l, x, j => by
    simp only [idxI]
    split
    · exact .inr ⟨by omega, by simp; omega⟩
    · rcases idxI_range l x (j + 1) with h | ⟨h1, h2⟩
      · exact .inl h
      · exact .inr ⟨by omega, by simp only [List.length_cons]; omega⟩

theorem index_str (C : Mem) (v : Value) (l : List Str) (x : Str) (hv : Sl C 1 v (l.map encS)) (hl : l.length ≤ 1000000) : Gives cx.P 39 [v, strV x] C (.int .i64 (idxI x l 0)) := by
  have hv0 := hv
  obtain ⟨A, c, rfl, _⟩ := hv0
  refine Fn.intro (by kernel_rfl) Tryd.func39 rfl 19 rfl rfl (fun w0 => ?_)
  refine G.region rfl (fun R hR => ?_)
  refine D.pure rfl rfl rfl rfl rfl rfl ?_
  refine D.done [(0, [], _), (1, [], _)] ⟨rfl, rfl, trivial⟩ (hR _ _ _ rfl ?_); clear hR R
  refine G.region rfl (fun R hR => ?_)
  iterate 3 refine D.pure rfl rfl rfl rfl rfl rfl ?_
  refine D.done [(0, [], _), (1, [], _), (7, [], _), (8, [], _)] ⟨rfl, rfl, rfl, rfl, trivial⟩ (hR _ _ _ rfl ?_); clear hR R
  refine G.loop (fun fr C' L' μ => ∃ (k : Nat), (k ≤ l.length ∧ ∀ y ∈ l.take k, x ≠ y) ∧ fr = [(0, [], .slice A (l.map encS).length c), (1, [], strV x), (7, [], .int .i64 (l.map encS).length), (8, [], .int .i64 k)] ∧ L' = [] ∧ μ = l.length - k) (fr' := [(0, [], _), (1, [], _), (7, [], _), (8, [], _)]) ⟨rfl, rfl, rfl, rfl, trivial⟩ ⟨0, ⟨Nat.zero_le _, by simp⟩, rfl, rfl, rfl⟩ (fun fr C0' L0' m hle0 hI => ?_)
  obtain ⟨k, ⟨hk, hall⟩, rfl, rfl, rfl⟩ := hI
  refine G.region rfl (fun R hR => ?_)
  refine D.pure rfl rfl rfl rfl rfl rfl ?_
  refine D.done [(0, [], _), (1, [], _), (7, [], _), (8, [], _), (9, [], _)] ⟨rfl, rfl, rfl, rfl, rfl, trivial⟩ (hR _ _ _ rfl ?_); clear hR R
  refine G.cond rfl (fun h9 => ?_) (fun h9 => ?_)
  · skip
    simp only [List.length_map, decide_eq_true_eq] at h9
    have hkl : k < l.length := by omega
    have hv1 := hv.mono hle0
    refine G.region rfl (fun R hR => ?_)
    iterate 2 refine D.pure rfl rfl rfl rfl rfl rfl ?_
    refine D.done [(0, [], _), (1, [], _), (5, [], _), (7, [], _), (8, [], _)] ⟨rfl, rfl, rfl, rfl, rfl, trivial⟩ (hR _ _ _ rfl ?_); clear hR R
    refine G.region rfl (fun R hR => ?_)
    iterate 3 refine D.pure rfl rfl rfl rfl rfl rfl ?_
    refine D.index0 hv1 rfl rfl rfl rfl rfl rfl rfl rfl rfl rfl (by omega) (row := encS l[k]) (by simp [hkl]) (fun _ => rfl) (fun p14 hp14 => ?_)
    refine D.loadP0 hp14 rfl rfl rfl rfl rfl rfl rfl rfl ?_
    refine D.pure rfl rfl rfl rfl rfl rfl ?_
    refine D.done [(0, [], _), (1, [], _), (5, [], _), (7, [], _), (8, [], _), (16, [], (.bool (x == l[k])))] ⟨rfl, rfl, rfl, rfl, rfl, rfl, trivial⟩ (hR _ _ _ rfl ?_); clear hR R
    refine G.cond rfl (fun h16 => ?_) (fun h16 => ?_)
    · skip
      have h16' : x = l[k] := by simpa using h16
      refine G.region rfl (fun R hR => ?_)
      iterate 2 refine D.pure rfl rfl rfl rfl rfl rfl ?_
      refine D.done [(4, [], _)] ⟨rfl, trivial⟩ (hR _ _ _ rfl ?_); clear hR R
      refine G.retN (G.dropAll (G.fin1 rfl rfl ?_))
      exact ⟨by rw [idxI_at (k := k) (j := 0) (by rw [h16']; exact List.getElem?_eq_getElem hkl) hall, Nat.zero_add], rfl⟩
    · skip
      have h16' : ¬ x = l[k] := by simpa using h16
      refine G.region rfl (fun R hR => ?_)
      refine D.i64 (((k + 1 : Nat) : Int)) rfl rfl rfl rfl (by omega) (by omega) (by omega) rfl rfl ?_
      refine D.pure rfl rfl rfl rfl rfl rfl ?_
      refine D.done [(0, [], _), (1, [], _), (7, [], _), (8, [], _)] ⟨rfl, rfl, rfl, rfl, trivial⟩ (hR _ _ _ rfl ?_); clear hR R
      refine G.again (m' := l.length - (k + 1)) (by omega) hle0 (fr' := [(0, [], _), (1, [], _), (7, [], _), (8, [], _)]) ⟨rfl, rfl, rfl, rfl, trivial⟩ ⟨k + 1, ⟨by omega, fun y hy => by
        rw [List.take_succ_eq_append_getElem hkl] at hy
        rcases List.mem_append.1 hy with h6 | h6
        · exact hall y h6
        · simp only [List.mem_singleton] at h6
          subst h6
          exact h16'⟩, rfl, rfl, rfl⟩
  · skip
    simp only [List.length_map, decide_eq_false_iff_not] at h9
    refine G.region rfl (fun R hR => ?_)
    refine D.pure rfl rfl rfl rfl rfl rfl ?_
    refine D.done [(4, [], _)] ⟨rfl, trivial⟩ (hR _ _ _ rfl ?_); clear hR R
    refine G.retN (G.dropAll (G.fin1 rfl rfl ?_))
    rw [List.take_of_length_le (by omega)] at hall
    exact ⟨by rw [idxI_none hall], rfl⟩
theorem contains_str (C : Mem) (v : Value) (l : List Str) (x : Str) (hv : Sl C 1 v (l.map encS)) (hl : l.length ≤ 1000000) : Gives cx.P 37 [v, strV x] C (.bool (decide (0 ≤ idxI x l 0))) := by
  refine Fn.intro (by kernel_rfl) Tryd.func37 rfl 9 rfl rfl (fun w0 => ?_)
  refine G.region rfl (fun R hR => ?_)
  refine D.pure rfl rfl rfl rfl rfl rfl ?_
  refine D.done [(0, [], _), (1, [], _)] ⟨rfl, rfl, trivial⟩ (hR _ _ _ rfl ?_); clear hR R
  refine G.region rfl (fun R hR => ?_)
  iterate 2 refine D.pure rfl rfl rfl rfl rfl rfl ?_
  refine D.gives2 (index_str _ _ l x hv hl) rfl rfl rfl rfl rfl rfl rfl (fun _ => rfl) ?_
  iterate 2 refine D.pure rfl rfl rfl rfl rfl rfl ?_
  refine D.done [(4, [], _)] ⟨rfl, trivial⟩ (hR _ _ _ rfl ?_); clear hR R
  refine G.retN (G.dropAll (G.fin1 rfl rfl ?_))
  exact ⟨rfl, rfl⟩

def wordL : List Str := [[111, 118, 101, 114, 108, 105, 101, 115], [99, 117, 116, 115], [105, 110, 116, 114, 117, 100, 101, 115], [97, 103, 97, 105, 110, 115, 116]]
theorem words_spec (C : Mem) : Gives cx.P 38 [] C (.agg ⟨wordL.map strV⟩) := by
  refine Fn.intro (by kernel_rfl) Tryd.func38 rfl 2 rfl rfl (fun w0 => ?_)
  refine G.region rfl (fun R hR => ?_)
  refine D.alloc rfl rfl rfl rfl rfl (fun _ => rfl) (fun b0 => ?_)
  refine D.done [(0, [], _)] ⟨rfl, trivial⟩ (hR _ _ _ rfl ?_); clear hR R
  refine G.region rfl (fun R hR => ?_)
  refine D.build (wordL.map strV) rfl rfl rfl rfl rfl rfl rfl rfl ?_
  refine D.store (j := 0) rfl rfl rfl rfl rfl rfl rfl rfl rfl rfl rfl rfl ?_
  refine D.done [(0, [], _)] ⟨rfl, trivial⟩ (hR _ _ _ rfl ?_); clear hR R
  refine G.retN (G.finC (.head _) rfl rfl rfl rfl ?_)
  exact ⟨rfl, rfl⟩

/-! ### Parse -/
def Rel.zero : Rel := ⟨0, [], []⟩
def parseL : List Str → Rel × Int
  | [a, b, c] => if a = [] ∨ b = [] ∨ c = [] then (Rel.zero, 15) else if idxI b wordL 0 = -1 then (Rel.zero, 15) else
      if errOf ⟨1 + idxI b wordL 0, a, c⟩ = 0 then (⟨1 + idxI b wordL 0, a, c⟩, 0) else (Rel.zero, errOf ⟨1 + idxI b wordL 0, a, c⟩)
  | _ => (Rel.zero, 15)
def parseM (s : Str) : Rel × Int := parseL (splitOn 32 s)
theorem parseL_bad {ps : List Str} (h : (!(ps.length == 3)) = true ∨ decide (0 ≤ idxI [] ps 0) = true) : parseL ps = (Rel.zero, 15) := by
  match ps with
  | [] => rfl
  | [_] => rfl
  | [_, _] => rfl
  | [a, b, c] =>
    rcases h with h | h
    · simp at h
    · have : a = [] ∨ b = [] ∨ c = [] := by
        refine Classical.byContradiction fun hn => ?_
        have := idxI_none (l := [a, b, c]) (x := []) (j := 0) (fun y hy e => hn (by subst e; simp at hy; rcases hy with h | h | h <;> simp [← h]))
        rw [this] at h
        simp at h
      simp only [parseL, if_pos this]
  | _ :: _ :: _ :: _ :: _ => rfl
theorem parseL_good {ps : List Str} (h1 : ps.length = 3) (h2 : ¬ 0 ≤ idxI [] ps 0) : ∃ a b c, ps = [a, b, c] ∧ ¬ (a = [] ∨ b = [] ∨ c = []) := by
  match ps, h1 with
  | [a, b, c], _ =>
    refine ⟨a, b, c, rfl, fun h => h2 ?_⟩
    simp only [idxI]
    split
    · omega
    · split
      · omega
      · split
        · omega
        · rename_i h3 h4 h5
          rcases h with h | h | h
          · exact absurd h.symm h3
          · exact absurd h.symm h4
          · exact absurd h.symm h5

theorem mem_splitOn_length (c : UInt8) : ∀ {s p : Str}, p ∈ splitOn c s → p.length ≤ s.length
  | [], p, h => by simp [splitOn] at h; simp [h]
  | b :: s, p, h => by
    simp only [splitOn] at h
    split at h
    · rcases List.mem_cons.1 h with e | h
      · simp [e]
      · have := mem_splitOn_length c h; simp; omega
    · split at h
      · rename_i he; exact absurd he (splitOn_ne c s)
      · rename_i q qs he
        rcases List.mem_cons.1 h with e | h
        · subst e
          have := mem_splitOn_length c (s := s) (p := q) (by rw [he]; simp)
          simp; omega
        · have := mem_splitOn_length c (s := s) (p := p) (by rw [he]; simp [h])
          simp; omega

def MaxLenAt (C : Mem) : Prop := ∃ m, CCell C ⟨0, 0, none⟩ (.int .i64 m)
theorem MaxLenAt.mono {C D : Mem} (h : MaxLenAt C) (hl : C.le D) : MaxLenAt D := let ⟨m, hm⟩ := h; ⟨m, hm.mono hl⟩

theorem split_spec (C : Mem) (s : Str) (hs : s.length ≤ 1000000) (hM : MaxLenAt C) : Pur cx.P 36 [strV s, strV [32]] C fun v C' => Sl C' 1 v ((splitOn 32 s).map encS) :=
  let ⟨_, hm⟩ := hM
  split_fn (P := cx.P) Tryd.split (by kernel_rfl) C s 32 (by omega) hm (by kernel_rfl)

theorem parse_spec (C : Mem) (s : Str) (hs : s.length ≤ 100000) (hM : MaxLenAt C) : Gives cx.P 16 [strV s] C (.tuple #[.agg ⟨(parseM s).1.enc⟩, .int .i64 (parseM s).2]) := by
  refine Fn.intro (by kernel_rfl) Tryd.func16 rfl 43 rfl rfl (fun w0 => ?_)
  refine G.region rfl (fun R hR => ?_)
  refine D.alloc rfl rfl rfl rfl rfl (fun _ => rfl) (fun b2 => ?_)
  refine D.pure rfl rfl rfl rfl rfl rfl ?_
  refine D.done [(0, [], _), (2, [], _)] ⟨rfl, rfl, trivial⟩ (hR _ _ _ rfl ?_); clear hR R
  refine G.region rfl (fun R hR => ?_)
  refine D.pure rfl rfl rfl rfl rfl rfl ?_
  refine D.callP (split_spec _ _ (by omega) hM) rfl rfl rfl rfl rfl rfl rfl (fun _ => rfl) (fun v9 C9 hle9 hq9 => ?_)
  refine D.pure rfl rfl rfl rfl rfl rfl ?_
  refine D.done [(2, [], _), (4, [], _)] ⟨rfl, rfl, trivial⟩ (hR _ _ _ rfl ?_); clear hR R
  have hsp := hq9
  obtain ⟨A, c, hv9, hlc, hcm, _⟩ := hq9
  subst hv9
  have hlen : (splitOn 32 s).length ≤ 1000000 := by rw [splitOn_length]; have : s.count 32 ≤ s.length := List.count_le_length; omega
  refine G.region rfl (fun R hR => ?_)
  iterate 5 refine D.pure rfl rfl rfl rfl rfl rfl ?_
  refine D.gives (fun _ => (contains_str _ _ (splitOn 32 s) [] hsp hlen)) rfl rfl rfl rfl rfl rfl rfl rfl rfl ?_
  refine D.pickOr rfl rfl rfl rfl rfl rfl rfl rfl ?_
  refine D.done [(2, [], _), (4, [], _), (16, [], (.bool ((!((((splitOn 32 s).map encS).length : Int) == 3)) || decide (0 ≤ idxI [] (splitOn 32 s) 0))))] ⟨rfl, rfl, rfl, trivial⟩ (hR _ _ _ rfl ?_); clear hR R
  refine G.cond rfl (fun h16 => ?_) (fun h16 => ?_)
  · skip
    simp only [List.length_map] at h16
    have hbad : parseM s = (Rel.zero, 15) := parseL_bad (by
      simp only [Bool.or_eq_true] at h16
      rcases h16 with h | h
      · left
        simp only [Bool.not_eq_true', beq_eq_false_iff_ne, ne_eq] at h ⊢
        omega
      · exact .inr h)
    refine G.region rfl (fun R hR => ?_)
    refine D.build Rel.zero.enc rfl rfl rfl rfl rfl rfl rfl rfl ?_
    refine D.store (j := 0) rfl rfl rfl rfl rfl rfl rfl rfl rfl rfl rfl rfl ?_
    refine D.pure rfl rfl rfl rfl rfl rfl ?_
    refine D.done [(2, [], _), (3, [], _)] ⟨rfl, rfl, trivial⟩ (hR _ _ _ rfl ?_); clear hR R
    refine G.retN (G.finC2 (.head _) rfl rfl rfl rfl rfl ?_)
    exact ⟨by rw [hbad]; rfl, rfl⟩
  · skip
    simp only [List.length_map, Bool.or_eq_false_iff, Bool.not_eq_false', beq_iff_eq, decide_eq_false_iff_not] at h16
    obtain ⟨pa, pb, pc, hps, hne⟩ := parseL_good (by omega) h16.2
    have hla : pa.length ≤ s.length := mem_splitOn_length 32 (by rw [hps]; simp)
    have hlb : pb.length ≤ s.length := mem_splitOn_length 32 (by rw [hps]; simp)
    have hlpc : pc.length ≤ s.length := mem_splitOn_length 32 (by rw [hps]; simp)
    refine G.region rfl (fun R hR => ?_)
    refine D.gives2 (words_spec _) rfl rfl rfl rfl rfl rfl rfl (fun _ => rfl) ?_
    refine D.alloc rfl rfl rfl rfl rfl (fun _ => rfl) (fun b5 => ?_)
    refine D.store (j := 0) rfl rfl rfl rfl rfl rfl rfl rfl rfl rfl rfl rfl ?_
    refine D.done [(2, [], _), (4, [], _), (5, [], _)] ⟨rfl, rfl, rfl, trivial⟩ (hR _ _ _ rfl ?_); clear hR R
    refine G.freeze 0 rfl (fun Cz hlez hbz => ?_)
    have hsw : Sl Cz 1 (.slice (some ⟨b5, 0, none⟩) 4 4) (wordL.map encS) := Sl.ofBlock (rows := wordL.map encS) (c := 4) hbz (by simp [encS]) (fun j v hj => by
      have h2 : (wordL.map strV)[j]? = some v := by rw [show wordL.map encS = wordL.map (fun x => [strV x]) from rfl, flatten_map1] at hj; exact hj
      exact (by simpa using h2 : ((wordL.map strV).toArray)[j]? = some v)) (by decide) (by decide)
    have hsp2 := hsp.mono hlez
    have hub : -9223372036854775808 ≤ 1 + idxI pb wordL 0 ∧ 1 + idxI pb wordL 0 ≤ 9223372036854775807 := by
      have h4 : wordL.length = 4 := rfl
      rcases idxI_range wordL pb 0 with h | ⟨h1, h2⟩ <;> omega
    refine G.draw [0, 1, 2, 3, 4, 5, 6, 7, 8, 9, 10, 11, 12, 13, 14] [(4, 1)] rfl (by kernel_rfl) (fun R hB hR => ?_)
    refine D.sliceA 0 4 4 rfl rfl rfl rfl rfl rfl rfl rfl rfl rfl rfl rfl (fun _ => ⟨.inl ⟨rfl, rfl⟩, .inl ⟨rfl, rfl⟩, .inl ⟨rfl, rfl⟩, by decide, by decide, by decide⟩) rfl rfl ?_
    refine D.pure rfl rfl rfl rfl rfl rfl ?_
    refine D.index0 hsp2 rfl rfl rfl rfl rfl rfl rfl rfl rfl rfl (by omega) (row := encS pb) (by rw [hps]; rfl) (fun _ => rfl) (fun p21 hp21 => ?_)
    refine D.loadP0 hp21 rfl rfl rfl rfl rfl rfl rfl rfl ?_
    refine D.gives (fun _ => (index_str _ _ wordL pb hsw (by decide))) rfl rfl rfl rfl rfl rfl rfl rfl rfl ?_
    refine D.i64 ((1 + idxI pb wordL 0)) rfl rfl rfl rfl rfl hub.1 hub.2 rfl rfl ?_
    refine D.pure rfl rfl rfl rfl rfl rfl ?_
    refine D.index0 hsp2 rfl rfl rfl rfl rfl rfl rfl rfl rfl rfl (by omega) (row := encS pa) (by rw [hps]; rfl) (fun _ => rfl) (fun p26 hp26 => ?_)
    refine D.loadP0 hp26 rfl rfl rfl rfl rfl rfl rfl rfl ?_
    refine D.pure rfl rfl rfl rfl rfl rfl ?_
    refine D.index0 hsp2 rfl rfl rfl rfl rfl rfl rfl rfl rfl rfl (by omega) (row := encS pc) (by rw [hps]; rfl) (fun _ => rfl) (fun p29 hp29 => ?_)
    refine D.loadP0 hp29 rfl rfl rfl rfl rfl rfl rfl rfl ?_
    refine D.build [.int .i64 (1 + idxI pb wordL 0), strV pa, strV pc] rfl rfl rfl rfl rfl rfl rfl rfl ?_
    refine D.alloc rfl rfl rfl rfl rfl (fun _ => rfl) (fun b6 => ?_)
    refine D.store (j := 0) rfl rfl rfl rfl rfl rfl rfl rfl rfl rfl rfl rfl ?_
    refine D.done [(2, [], _), (6, [], _)] ⟨rfl, rfl, trivial⟩ (hR _ _ _ rfl ?_); clear hR hB R
    refine G.region rfl (fun R hR => ?_)
    refine D.pure rfl rfl rfl rfl rfl rfl ?_
    refine D.loadL (.head _) rfl rfl rfl rfl rfl rfl rfl rfl rfl ?_
    refine D.pure rfl rfl rfl rfl rfl rfl ?_
    refine D.done [(2, [], _), (6, [], _), (34, [], (.bool ((1 + idxI pb wordL 0) == 0)))] ⟨rfl, rfl, rfl, trivial⟩ (hR _ _ _ rfl ?_); clear hR R
    refine G.cond rfl (fun h34 => ?_) (fun h34 => ?_)
    · skip
      have h34' : idxI pb wordL 0 = -1 := by simp only [beq_iff_eq] at h34; omega
      have hbad : parseM s = (Rel.zero, 15) := by rw [parseM, hps, parseL, if_neg hne, if_pos h34']
      refine G.region rfl (fun R hR => ?_)
      refine D.build Rel.zero.enc rfl rfl rfl rfl rfl rfl rfl rfl ?_
      refine D.store (j := 1) rfl rfl rfl rfl rfl rfl rfl rfl rfl rfl rfl rfl ?_
      refine D.pure rfl rfl rfl rfl rfl rfl ?_
      refine D.done [(2, [], _), (3, [], _)] ⟨rfl, rfl, trivial⟩ (hR _ _ _ rfl ?_); clear hR R
      refine G.retN (G.finC2 (.head _) rfl rfl rfl rfl rfl ?_)
      exact ⟨by rw [hbad]; rfl, rfl⟩
    · skip
      have h34' : ¬ idxI pb wordL 0 = -1 := by simp only [beq_eq_false_iff_ne, ne_eq] at h34; omega
      refine G.region rfl (fun R hR => ?_)
      refine D.loadL (.head _) rfl rfl rfl rfl rfl rfl rfl rfl rfl ?_
      refine D.gives2 (check_spec _ ⟨1 + idxI pb wordL 0, pa, pc⟩ (by show pa.length < 1000000; omega) (by show pc.length < 1000000; omega)) rfl rfl rfl rfl rfl rfl rfl (fun _ => rfl) ?_
      refine D.pure rfl rfl rfl rfl rfl rfl ?_
      refine D.done [(2, [], _), (6, [], _), (7, [], _)] ⟨rfl, rfl, rfl, trivial⟩ (hR _ _ _ rfl ?_); clear hR R
      refine G.region rfl (fun R hR => ?_)
      iterate 2 refine D.pure rfl rfl rfl rfl rfl rfl ?_
      refine D.done [(2, [], _), (6, [], _), (7, [], _), (39, [], _)] ⟨rfl, rfl, rfl, rfl, trivial⟩ (hR _ _ _ rfl ?_); clear hR R
      refine G.cond rfl (fun h39 => ?_) (fun h39 => ?_)
      · skip
        have h39' : ¬ errOf ⟨1 + idxI pb wordL 0, pa, pc⟩ = 0 := by simpa using h39
        have hbad : parseM s = (Rel.zero, errOf ⟨1 + idxI pb wordL 0, pa, pc⟩) := by rw [parseM, hps, parseL, if_neg hne, if_neg h34', if_neg h39']
        refine G.region rfl (fun R hR => ?_)
        refine D.build Rel.zero.enc rfl rfl rfl rfl rfl rfl rfl rfl ?_
        refine D.pure rfl rfl rfl rfl rfl rfl ?_
        refine D.store (j := 1) rfl rfl rfl rfl rfl rfl rfl rfl rfl rfl rfl rfl ?_
        refine D.pure rfl rfl rfl rfl rfl rfl ?_
        refine D.done [(2, [], _), (3, [], _)] ⟨rfl, rfl, trivial⟩ (hR _ _ _ rfl ?_); clear hR R
        refine G.retN (G.finC2 (.head _) rfl rfl rfl rfl rfl ?_)
        exact ⟨by rw [hbad]; rfl, rfl⟩
      · skip
        have h39' : errOf ⟨1 + idxI pb wordL 0, pa, pc⟩ = 0 := by simpa using h39
        have hgood : parseM s = (⟨1 + idxI pb wordL 0, pa, pc⟩, 0) := by rw [parseM, hps, parseL, if_neg hne, if_neg h34', if_pos h39']
        refine G.region rfl (fun R hR => ?_)
        refine D.loadL (.head _) rfl rfl rfl rfl rfl rfl rfl rfl rfl ?_
        refine D.store (j := 1) rfl rfl rfl rfl rfl rfl rfl rfl rfl rfl rfl rfl ?_
        refine D.pure rfl rfl rfl rfl rfl rfl ?_
        refine D.done [(2, [], _), (3, [], _)] ⟨rfl, rfl, trivial⟩ (hR _ _ _ rfl ?_); clear hR R
        refine G.retN (G.finC2 (.head _) rfl rfl rfl rfl rfl ?_)
        exact ⟨by rw [hgood]; rfl, rfl⟩

/-! ### Arcs -/
def arcsOf (l : List Rel) : List ArcE := (l.filter fun x => !(x.kind == 4)).map fun x => ⟨x.lower, x.upper⟩
def arcsL (l : List Rel) : List ArcE := setL cmpA (arcsOf l)
theorem arcs_fn (C : Mem) (v : Value) (l : List Rel) (hv : Sl C 3 v (l.map Rel.enc)) (hl : l.length ≤ 1000000) (hok : ∀ x ∈ l, x.short) : Pur cx.P 29 [v] C fun r C' =>
    (errAll l ≠ 0 ∧ r = errRes (errAll l)) ∨ (errAll l = 0 ∧ ∃ u, r = .tuple #[u, .int .i64 0] ∧ Sl C' 2 u ((arcsL l).map ArcE.enc)) := by
  have hv0 := hv
  obtain ⟨A, c, rfl, _⟩ := hv0
  refine Fn.intro (by kernel_rfl) Tryd.func29 rfl 35 rfl rfl (fun w0 => ?_)
  refine G.region rfl (fun R hR => ?_)
  iterate 2 refine D.pure rfl rfl rfl rfl rfl rfl ?_
  refine D.done [(0, [], _)] ⟨rfl, trivial⟩ (hR _ _ _ rfl ?_); clear hR R
  refine G.region rfl (fun R hR => ?_)
  refine D.pure rfl rfl rfl rfl rfl rfl ?_
  refine D.gives2 (checkAll_spec _ l _ hv hok) rfl rfl rfl rfl rfl rfl rfl (fun _ => rfl) ?_
  refine D.pure rfl rfl rfl rfl rfl rfl ?_
  refine D.done [(0, [], _), (4, [], _)] ⟨rfl, rfl, trivial⟩ (hR _ _ _ rfl ?_); clear hR R
  refine G.region rfl (fun R hR => ?_)
  iterate 2 refine D.pure rfl rfl rfl rfl rfl rfl ?_
  refine D.done [(0, [], _), (4, [], _), (11, [], _)] ⟨rfl, rfl, rfl, trivial⟩ (hR _ _ _ rfl ?_); clear hR R
  refine G.cond rfl (fun h11 => ?_) (fun h11 => ?_)
  · skip
    simp only [bne_iff_ne, ne_eq] at h11
    refine G.region rfl (fun R hR => ?_)
    iterate 3 refine D.pure rfl rfl rfl rfl rfl rfl ?_
    refine D.done [(2, [], _), (3, [], _)] ⟨rfl, rfl, trivial⟩ (hR _ _ _ rfl ?_); clear hR R
    refine G.retN (G.dropAll (G.fin2 rfl rfl rfl ?_))
    exact ⟨rfl, .inl ⟨h11, rfl⟩⟩
  · skip
    simp only [bne_eq_false_iff_eq] at h11
    refine G.region rfl (fun R hR => ?_)
    refine D.pure rfl rfl rfl rfl rfl rfl ?_
    refine D.done [(0, [], _), (5, [], _)] ⟨rfl, rfl, trivial⟩ (hR _ _ _ rfl ?_); clear hR R
    refine G.region rfl (fun R hR => ?_)
    iterate 3 refine D.pure rfl rfl rfl rfl rfl rfl ?_
    refine D.done [(5, [], _), (13, [], _), (14, [], _), (15, [], _)] ⟨rfl, rfl, rfl, rfl, trivial⟩ (hR _ _ _ rfl ?_); clear hR R
    refine G.nilArr 61 2 ?_
    refine G.loop (fun fr C' L' μ => ∃ (k : Nat) (w5 : Value), (k ≤ l.length) ∧ fr = [(5, [], w5), (13, [], .slice A (l.map Rel.enc).length c), (14, [], .int .i64 (l.map Rel.enc).length), (15, [], .int .i64 k)] ∧ L' = [.arr w5 61 2 (arcsOf (l.take k)).length ((arcsOf (l.take k)).map ArcE.enc).flatten] ∧ μ = l.length - k) (fr' := [(5, [], _), (13, [], _), (14, [], _), (15, [], _)]) ⟨rfl, rfl, rfl, rfl, trivial⟩ ⟨0, .slice none 0 0, Nat.zero_le _, rfl, rfl, rfl⟩ (fun fr C0' L0' m hle0 hI => ?_)
    obtain ⟨k, w5, hk, rfl, rfl, rfl⟩ := hI
    refine G.region rfl (fun R hR => ?_)
    refine D.pure rfl rfl rfl rfl rfl rfl ?_
    refine D.done [(5, [], _), (13, [], _), (14, [], _), (15, [], _), (16, [], _)] ⟨rfl, rfl, rfl, rfl, rfl, trivial⟩ (hR _ _ _ rfl ?_); clear hR R
    refine G.cond rfl (fun h16 => ?_) (fun h16 => ?_)
    · skip
      simp only [List.length_map, decide_eq_true_eq] at h16
      have hkl : k < l.length := by omega
      obtain ⟨x, hx⟩ : ∃ x, l[k]? = some x := ⟨l[k], List.getElem?_eq_getElem hkl⟩
      have hv1 := hv.mono hle0
      have htk : l.take (k + 1) = l.take k ++ [x] := by rw [List.take_add_one, hx]; rfl
      have hal : (arcsOf (l.take k)).length ≤ 1000000 := by
        have h1 : (arcsOf (l.take k)).length ≤ (l.take k).length := by unfold arcsOf; rw [List.length_map]; exact List.length_filter_le _ _
        simp only [List.length_take] at h1; omega
      refine G.region rfl (fun R hR => ?_)
      refine D.index0 hv1 rfl rfl rfl rfl rfl rfl rfl rfl rfl rfl (by omega) (row := x.enc) (by simp [hx]) (fun _ => rfl) (fun p17 hp17 => ?_)
      refine D.loadP0 hp17 rfl rfl rfl rfl rfl rfl rfl rfl ?_
      refine D.alloc rfl rfl rfl rfl rfl (fun _ => rfl) (fun b7 => ?_)
      refine D.store (j := 0) rfl rfl rfl rfl rfl rfl rfl rfl rfl rfl rfl rfl ?_
      refine D.done [(5, [], _), (7, [], _), (13, [], _), (14, [], _), (15, [], _)] ⟨rfl, rfl, rfl, rfl, rfl, trivial⟩ (hR _ _ _ rfl ?_); clear hR R
      refine G.region rfl (fun R hR => ?_)
      refine D.pure rfl rfl rfl rfl rfl rfl ?_
      refine D.loadL (.head _) rfl rfl rfl rfl rfl rfl rfl rfl rfl ?_
      refine D.pure rfl rfl rfl rfl rfl rfl ?_
      refine D.done [(5, [], _), (7, [], _), (13, [], _), (14, [], _), (15, [], _), (21, [], _)] ⟨rfl, rfl, rfl, rfl, rfl, rfl, trivial⟩ (hR _ _ _ rfl ?_); clear hR R
      refine G.cond rfl (fun h21 => ?_) (fun h21 => ?_)
      · skip
        have h21' : arcsOf (l.take (k + 1)) = arcsOf (l.take k) ++ [⟨x.lower, x.upper⟩] := by
          have h4 : (!(x.kind == 4)) = true := by simpa using h21
          rw [htk, arcsOf, List.filter_append, List.map_append]
          congr 1
          simp [h4]
        refine G.region rfl (fun R hR => ?_)
        iterate 2 refine D.pure rfl rfl rfl rfl rfl rfl ?_
        refine D.loadL (.head _) rfl rfl rfl rfl rfl rfl rfl rfl rfl ?_
        refine D.pure rfl rfl rfl rfl rfl rfl ?_
        refine D.loadL (.head _) rfl rfl rfl rfl rfl rfl rfl rfl rfl ?_
        refine D.build [strV x.lower, strV x.upper] rfl rfl rfl rfl rfl rfl rfl rfl ?_
        refine D.buildSlice [[strV x.lower, strV x.upper]] rfl rfl rfl rfl rfl rfl rfl rfl rfl rfl rfl rfl (fun _ => rfl) (fun p28 C28 hle28 hs28 => ?_)
        refine D.append (j := 1) rfl rfl rfl rfl rfl rfl rfl rfl rfl rfl rfl hs28 rfl (by simp only [List.length_singleton, maxLen]; omega) (by simp only [List.length_singleton]; omega) (fun _ => rfl) (fun v29 => ?_)
        refine D.pure rfl rfl rfl rfl rfl rfl ?_
        refine D.done [(5, [], _), (13, [], _), (14, [], _), (15, [], _)] ⟨rfl, rfl, rfl, rfl, trivial⟩ (hR _ _ _ rfl ?_); clear hR R
        refine G.region rfl (fun R hR => ?_)
        refine D.i64 (((k + 1 : Nat) : Int)) rfl rfl rfl rfl (by omega) (by omega) (by omega) rfl rfl ?_
        refine D.pure rfl rfl rfl rfl rfl rfl ?_
        refine D.done [(5, [], _), (13, [], _), (14, [], _), (15, [], _)] ⟨rfl, rfl, rfl, rfl, trivial⟩ (hR _ _ _ rfl ?_); clear hR R
        refine G.dropE 1 rfl ?_
        refine G.eqL (L' := [.arr v29 61 2 (arcsOf (l.take (k + 1))).length ((arcsOf (l.take (k + 1))).map ArcE.enc).flatten]) (by rw [h21']; simp [ArcE.enc]) ?_
        refine G.again (m' := l.length - (k + 1)) (by omega) (hle0.trans hle28) (fr' := [(5, [], _), (13, [], _), (14, [], _), (15, [], _)]) ⟨rfl, rfl, rfl, rfl, trivial⟩ ⟨k + 1, v29, by omega, rfl, rfl, rfl⟩
      · skip
        have h21' : arcsOf (l.take (k + 1)) = arcsOf (l.take k) := by
          have h4 : (!(x.kind == 4)) = false := by simpa using h21
          rw [htk, arcsOf, List.filter_append]
          simp [h4, arcsOf]
        refine G.region rfl (fun R hR => ?_)
        refine D.i64 (((k + 1 : Nat) : Int)) rfl rfl rfl rfl (by omega) (by omega) (by omega) rfl rfl ?_
        refine D.pure rfl rfl rfl rfl rfl rfl ?_
        refine D.done [(5, [], _), (13, [], _), (14, [], _), (15, [], _)] ⟨rfl, rfl, rfl, rfl, trivial⟩ (hR _ _ _ rfl ?_); clear hR R
        refine G.dropE 0 rfl ?_
        refine G.eqL (L' := [.arr w5 61 2 (arcsOf (l.take (k + 1))).length ((arcsOf (l.take (k + 1))).map ArcE.enc).flatten]) (by rw [h21']; rfl) ?_
        refine G.again (m' := l.length - (k + 1)) (by omega) hle0 (fr' := [(5, [], _), (13, [], _), (14, [], _), (15, [], _)]) ⟨rfl, rfl, rfl, rfl, trivial⟩ ⟨k + 1, w5, by omega, rfl, rfl, rfl⟩
    · skip
      simp only [List.length_map, decide_eq_false_iff_not] at h16
      have hkl : k = l.length := by omega
      subst hkl
      have hal : (arcsOf l).length ≤ 1000000 := by
        have h1 : (arcsOf l).length ≤ l.length := by unfold arcsOf; rw [List.length_map]; exact List.length_filter_le _ _
        omega
      refine G.eqL (L' := [.arr w5 61 2 (arcsOf l).length ((arcsOf l).map ArcE.enc).flatten]) (by simp) ?_
      refine G.regionO [(1, 3)] rfl (fun R hR => ?_)
      refine D.pure rfl rfl rfl rfl rfl rfl ?_
      refine D.call (sortArc_fn _ _ (arcsOf l) hal) rfl (.inr (by decide)) rfl rfl rfl rfl rfl rfl (List.Perm.refl _) (fun _ => rfl) (fun v32 C32 L32 hle32 hq32 => ?_)
      refine D.done [(5, [], _)] ⟨rfl, trivial⟩ (hR _ _ _ rfl ?_); clear hR R
      obtain ⟨l', rfl, rfl, hperm, hsorted⟩ := hq32
      have hl'len := hperm.length_eq
      refine G.eqL (L' := [.arr w5 61 2 l'.length (l'.map ArcE.enc).flatten]) (by rw [hl'len]; rfl) ?_
      refine G.regionO [(1, 3)] rfl (fun R hR => ?_)
      refine D.pure rfl rfl rfl rfl rfl rfl ?_
      refine D.call (compact_arc _ _ l' (by rw [hl'len]; exact hal)) rfl (.inr (by decide)) rfl rfl rfl rfl rfl rfl (List.Perm.refl _) (fun _ => rfl) (fun v34 C34 L34 hle34 hq34 => ?_)
      obtain ⟨rfl, hcs⟩ := hq34
      iterate 2 refine D.pure rfl rfl rfl rfl rfl rfl ?_
      refine D.done [(2, [], _), (3, [], _)] ⟨rfl, rfl, trivial⟩ (hR _ _ _ rfl ?_); clear hR R
      refine G.retN (G.dropAll (G.fin2 rfl rfl rfl ?_))
      refine ⟨rfl, .inr ⟨h11, _, rfl, ?_⟩⟩
      rw [arcsL, ← tot_cmpA.compact_eq hperm hsorted]
      exact hcs
end Go.Proofs.YtjmfjobfmdhbfaaDoor
