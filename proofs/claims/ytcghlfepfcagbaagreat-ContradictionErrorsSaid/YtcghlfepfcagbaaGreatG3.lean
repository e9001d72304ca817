/- Laws that the proofs of this seat share, part 3. -/
import Derived.Test.YtcghlfepfcagbaaGreatG2
import Derived.Test.YtcghlfepfcagbaaGreatShelf
namespace Go.Proofs.YtcghlfepfcagbaaGreat
open Go Go.Jog
set_option maxRecDepth 100000

/-! ### units -/
theorem units_fn (C : Mem) (v : Value) (l : List Rel) (hv : Sl C 3 v (l.map Rel.enc)) (hl : l.length ≤ 100000) : Pur cx.P 50 [v] C fun u C' => Sl C' 1 u ((unitsL l).map encS) := by
  have hv0 := hv
  obtain ⟨A, c, rfl, _⟩ := hv0
  refine Fn.intro (by kernel_rfl) Tryz.func50 rfl 24 rfl rfl (fun w0 => ?_)
  refine G.region rfl (fun R hR => ?_)
  refine D.pure rfl rfl rfl rfl rfl rfl ?_
  refine D.done [(0, [], _)] ⟨rfl, trivial⟩ (hR _ _ _ rfl ?_); clear hR R
  refine G.region rfl (fun R hR => ?_)
  refine D.pure rfl rfl rfl rfl rfl rfl ?_
  refine D.done [(0, [], _), (3, [], _)] ⟨rfl, rfl, trivial⟩ (hR _ _ _ rfl ?_); clear hR R
  refine G.region rfl (fun R hR => ?_)
  iterate 3 refine D.pure rfl rfl rfl rfl rfl rfl ?_
  refine D.done [(3, [], _), (6, [], _), (7, [], _), (8, [], _)] ⟨rfl, rfl, rfl, rfl, trivial⟩ (hR _ _ _ rfl ?_); clear hR R
  refine G.nilArr 9 1 ?_
  refine G.loop (fun fr C' L' μ => ∃ (k : Nat) (w3 : Value), (k ≤ l.length) ∧ fr = [(3, [], w3), (6, [], .slice A (l.map Rel.enc).length c), (7, [], .int .i64 (l.map Rel.enc).length), (8, [], .int .i64 k)] ∧ L' = [.arr w3 9 1 (namesOf (l.take k)).length ((namesOf (l.take k)).map encS).flatten] ∧ μ = l.length - k) (fr' := [(3, [], _), (6, [], _), (7, [], _), (8, [], _)]) ⟨rfl, rfl, rfl, rfl, trivial⟩ ⟨0, .slice none 0 0, Nat.zero_le _, rfl, rfl, rfl⟩ (fun fr C0' L0' m hle0 hI => ?_)
  obtain ⟨k, w3, hk, rfl, rfl, rfl⟩ := hI
  refine G.region rfl (fun R hR => ?_)
  refine D.pure rfl rfl rfl rfl rfl rfl ?_
  refine D.done [(3, [], _), (6, [], _), (7, [], _), (8, [], _), (9, [], _)] ⟨rfl, rfl, rfl, rfl, rfl, trivial⟩ (hR _ _ _ rfl ?_); clear hR R
  refine G.cond rfl (fun h9 => ?_) (fun h9 => ?_)
  · skip
    simp only [List.length_map, decide_eq_true_eq] at h9
    have hkl : k < l.length := by omega
    obtain ⟨x, hx⟩ : ∃ x, l[k]? = some x := ⟨l[k], List.getElem?_eq_getElem hkl⟩
    have hv1 := hv.mono hle0
    have hal := namesOf_len (l.take k)
    have hal2 : (l.take k).length ≤ l.length := by simp; omega
    have htk : namesOf (l.take (k + 1)) = namesOf (l.take k) ++ [x.upper, x.lower] := by
      have : l.take (k + 1) = l.take k ++ [x] := by rw [List.take_add_one, hx]; rfl
      rw [this, namesOf, List.map_append, List.flatten_append]; simp [namesOf]
    refine G.region rfl (fun R hR => ?_)
    refine D.index0 hv1 rfl rfl rfl rfl rfl rfl rfl rfl rfl rfl (by omega) (row := x.enc) (by simp [hx]) (fun _ => rfl) (fun p10 hp10 => ?_)
    refine D.loadP0 hp10 rfl rfl rfl rfl rfl rfl rfl rfl ?_
    refine D.alloc rfl rfl rfl rfl rfl (fun _ => rfl) (fun b5 => ?_)
    refine D.store (j := 0) rfl rfl rfl rfl rfl rfl rfl rfl rfl rfl rfl rfl ?_
    refine D.done [(3, [], _), (5, [], _), (6, [], _), (7, [], _), (8, [], _)] ⟨rfl, rfl, rfl, rfl, rfl, trivial⟩ (hR _ _ _ rfl ?_); clear hR R
    refine G.region rfl (fun R hR => ?_)
    iterate 2 refine D.pure rfl rfl rfl rfl rfl rfl ?_
    refine D.loadL (.head _) rfl rfl rfl rfl rfl rfl rfl rfl rfl ?_
    refine D.pure rfl rfl rfl rfl rfl rfl ?_
    refine D.loadL (.head _) rfl rfl rfl rfl rfl rfl rfl rfl rfl ?_
    refine D.buildSlice [encS x.upper, encS x.lower] rfl rfl rfl rfl rfl rfl rfl rfl rfl rfl rfl rfl (fun _ => rfl) (fun p17 C17 hle17 hs17 => ?_)
    refine D.append (j := 1) rfl rfl rfl rfl rfl rfl rfl rfl rfl rfl rfl hs17 rfl (by simp only [List.length_cons, List.length_nil, maxLen]; omega) (by simp only [List.length_cons, List.length_nil]; omega) (fun _ => rfl) (fun v18 => ?_)
    refine D.pure rfl rfl rfl rfl rfl rfl ?_
    refine D.done [(3, [], _), (6, [], _), (7, [], _), (8, [], _)] ⟨rfl, rfl, rfl, rfl, trivial⟩ (hR _ _ _ rfl ?_); clear hR R
    refine G.region rfl (fun R hR => ?_)
    refine D.i64 _ rfl rfl rfl rfl rfl (by omega) (by omega) rfl rfl ?_
    refine D.pure rfl rfl rfl rfl rfl rfl ?_
    refine D.done [(3, [], _), (6, [], _), (7, [], _), (8, [], _)] ⟨rfl, rfl, rfl, rfl, trivial⟩ (hR _ _ _ rfl ?_); clear hR R
    refine G.dropE 1 rfl ?_
    refine G.eqL (L' := [.arr v18 9 1 (namesOf (l.take (k + 1))).length ((namesOf (l.take (k + 1))).map encS).flatten]) (by rw [htk]; simp) ?_
    refine G.again (m' := l.length - (k + 1)) (by omega) (hle0.trans hle17) (fr' := [(3, [], _), (6, [], _), (7, [], _), (8, [], _)]) ⟨rfl, rfl, rfl, rfl, trivial⟩ ⟨k + 1, v18, by omega, rfl, rfl, rfl⟩
  · skip
    simp only [List.length_map, decide_eq_false_iff_not] at h9
    have hkl : k = l.length := by omega
    subst hkl
    have hnl := namesOf_len l
    refine G.eqL (L' := [.arr w3 9 1 (namesOf l).length ((namesOf l).map strV)]) (by rw [List.take_length, flat_enc]) ?_
    refine G.regionO [(1, 3)] rfl (fun R hR => ?_)
    refine D.pure rfl rfl rfl rfl rfl rfl ?_
    refine D.call (sortStr_fn Tryz.sortStr _ w3 9 (namesOf l) (by omega) (by kernel_rfl)) rfl (.inr (by decide)) rfl rfl rfl rfl rfl rfl (List.Perm.refl _) (fun _ => rfl) (fun v21 C21 L21 hle21 hq21 => ?_)
    refine D.done [(3, [], _)] ⟨rfl, trivial⟩ (hR _ _ _ rfl ?_); clear hR R
    obtain ⟨rfl, rfl⟩ := hq21
    have hperm := List.mergeSort_perm (namesOf l) (fun x y => decide (x ≤ y))
    have hsorted := ms_sorted (namesOf l)
    obtain ⟨l', hl'⟩ : ∃ l', (namesOf l).mergeSort (fun x y => decide (x ≤ y)) = l' := ⟨_, rfl⟩
    rw [hl'] at hperm hsorted
    have hl'len := hperm.length_eq
    refine G.eqL (L' := [.arr w3 9 1 l'.length (l'.map encS).flatten]) (by rw [hl', hl'len, flat_enc]; rfl) ?_
    refine G.regionO [(1, 3)] rfl (fun R hR => ?_)
    refine D.pure rfl rfl rfl rfl rfl rfl ?_
    refine D.call (compact_str _ _ l' (by rw [hl'len]; omega)) rfl (.inr (by decide)) rfl rfl rfl rfl rfl rfl (List.Perm.refl _) (fun _ => rfl) (fun v23 C23 L23 hle23 hq23 => ?_)
    obtain ⟨rfl, hcs⟩ := hq23
    refine D.pure rfl rfl rfl rfl rfl rfl ?_
    refine D.done [(2, [], _)] ⟨rfl, trivial⟩ (hR _ _ _ rfl ?_); clear hR R
    refine G.retN (G.dropAll (G.fin1 rfl rfl ?_))
    refine ⟨rfl, ?_⟩
    rw [unitsL, ← tot_cmpS.compact_eq hperm hsorted]
    exact hcs

/-! ### The graph -/
def Arc3.enc (a : Arc3) : List Value := [.int .i64 a.i, .int .i64 a.lo, .int .i64 a.up]
def posS : List Str → Str → Nat
  | [], _ => 0
  | x :: l, s => if x = s then 0 else posS l s + 1
def atM : List Str → Nat → List (Str × Value)
  | [], _ => []
  | s :: l, i => (s, .int .i64 i) :: atM l (i + 1)
theorem posS_lt : ∀ {N : List Str} {s : Str}, s ∈ N → posS N s < N.length
  | [], _, h => by cases h
  | x :: N, s, h => by
    simp only [posS]
    split
    · simp
    · rename_i e
      have := posS_lt ((List.mem_cons.1 h).resolve_left (fun e2 => e e2.symm))
      simp; omega
theorem posS_at : ∀ {N : List Str} {s : Str}, s ∈ N → N[posS N s]? = some s
  | [], _, h => by cases h
  | x :: N, s, h => by
    simp only [posS]
    split
    · rename_i e; simp [e]
    · rename_i e
      simpa using posS_at ((List.mem_cons.1 h).resolve_left (fun e2 => e e2.symm))
theorem mget_atM : ∀ {N : List Str} {i : Nat} {s : Str}, mget (atM N i) s = if s ∈ N then some (.int .i64 ((i + posS N s : Nat) : Int)) else none
  | [], i, s => by simp [atM, mget]
  | x :: N, i, s => by
    simp only [atM, mget, posS]
    by_cases e : x = s
    · subst e; simp
    · rw [if_neg e, if_neg e, mget_atM]
      have e' : ¬ s = x := fun h => e h.symm
      by_cases h : s ∈ N
      · rw [if_pos h, if_pos (by simp [h])]
        congr 3
        omega
      · rw [if_neg h, if_neg (by simp [h, e'])]
theorem mset_atM : ∀ {N : List Str} {i : Nat} {s : Str}, s ∉ N → mset (atM N i) s (.int .i64 ((i + N.length : Nat) : Int)) = atM (N ++ [s]) i
  | [], i, s, _ => by simp [atM, mset]
  | x :: N, i, s, h => by
    simp only [List.mem_cons, not_or] at h
    simp only [List.cons_append, atM, mset, if_neg (Ne.symm h.1)]
    congr 1
    rw [← mset_atM h.2]
    congr 3
    simp; omega
def arcAt (N : List Str) (l : List Rel) (i : Nat) : List Arc3 := match l[i]? with
  | some x => oneIf (!(x.kind == 4)) ⟨i, posS N x.lower, posS N x.upper⟩
  | none => []
def arcs3 (N : List Str) (l : List Rel) : List Arc3 := cat (arcAt N l) l.length
theorem unitsL_nodup (l : List Rel) : (unitsL l).Nodup := by
  rw [List.nodup_iff_pairwise_ne]
  refine (tot_cmpS.setL_strict (namesOf l)).imp (fun {a b} h e => ?_)
  subst e
  have := (tot_cmpS.eq a a).2 rfl
  omega
theorem mem_units {l : List Rel} {x : Rel} (hx : x ∈ l) : x.lower ∈ unitsL l ∧ x.upper ∈ unitsL l := by
  rw [unitsL, mem_setL, mem_setL, mem_namesOf, mem_namesOf]
  exact ⟨⟨x, hx, .inr rfl⟩, ⟨x, hx, .inl rfl⟩⟩
theorem nexts_append {A : List Arc3} {a : Arc3} {i : Nat} : nexts (A ++ [a]) i = nexts A i ++ (if a.lo = i then [a] else []) := by
  unfold nexts
  rw [List.filter_append]
  by_cases h : a.lo = i <;> simp [h]

/-- What the graph's object is. -/
structure GraphAt (C : Mem) (p : Value) (N : List Str) (A : List Arc3) (b bm : Nat) (vn va vx : Value) (vs : List Value) : Prop where
  ptr : p = .pointer (some ⟨b, 0, none⟩)
  obj : C b = some (.cells ⟨[vn, .map (some bm), va, vx]⟩ 108 (0, 0))
  names : Sl C 1 vn (N.map encS)
  at_ : C bm = some (mapOf keyS.enc (atM N 0))
  arcs : Sl C 3 va (A.map Arc3.enc)
  nx : Sl C 1 vx (vs.map fun v => [v])
  len : vs.length = N.length
  rows : ∀ i v, vs[i]? = some v → Sl C 3 v ((nexts A i).map Arc3.enc)
theorem GraphAt.mono {C D : Mem} {p : Value} {N : List Str} {A : List Arc3} {b bm : Nat} {vn va vx : Value} {vs : List Value} (h : GraphAt C p N A b bm vn va vx vs) (hl : C.le D) : GraphAt D p N A b bm vn va vx vs :=
  ⟨h.ptr, hl _ _ h.obj, h.names.mono hl, hl _ _ h.at_, h.arcs.mono hl, h.nx.mono hl, h.len, fun i v hv => (h.rows i v hv).mono hl⟩
def Graph (C : Mem) (p : Value) (N : List Str) (A : List Arc3) : Prop := ∃ b bm vn va vx vs, GraphAt C p N A b bm vn va vx vs
theorem Graph.mono {C D : Mem} {p : Value} {N : List Str} {A : List Arc3} (h : Graph C p N A) (hl : C.le D) : Graph D p N A :=
  let ⟨b, bm, vn, va, vx, vs, h⟩ := h
  ⟨b, bm, vn, va, vx, vs, h.mono hl⟩

/-- The rows of arcs from each place, while they are made. -/
def rowE (r : Value × List Arc3) : Ent := .arr r.1 110 3 r.2.length (r.2.map Arc3.enc).flatten
theorem rows_perm : ∀ {R : List (Value × List Arc3)} {i : Nat} {r r' : Value × List Arc3}, R[i]? = some r → (rowE r' :: (R.map rowE).eraseIdx i).Perm ((R.set i r').map rowE)
  | [], _, _, _, h => by simp at h
  | x :: R, 0, r, r', _ => by simp
  | x :: R, i + 1, r, r', h => by
    have := rows_perm (R := R) (i := i) (r := r) (r' := r') (by simpa using h)
    simp only [List.map_cons, List.eraseIdx_cons_succ, List.set_cons_succ]
    exact (List.Perm.swap _ _ _).trans (this.cons _)
theorem G.freezeRows {F : Fx} {k : List KI} {fr : Fr} {e : Exit} : ∀ (R : List (Value × List Arc3)) {C : Mem} {L : List Ent}, (∀ C', C.le C' → (∀ r ∈ R, Sl C' 3 r.1 (r.2.map Arc3.enc)) → G F k e fr C' L) → G F k e fr C (R.map rowE ++ L)
  | [], C, L, h => h C (Mem.le.refl _) (fun r hr => by cases hr)
  | r :: R, C, L, h => by
    refine G.freezeArr 0 (r.2.map Arc3.enc) rfl rfl (by intro x hx; obtain ⟨y, _, rfl⟩ := List.mem_map.1 hx; rfl) (by simp) (fun C' hle hs => ?_)
    refine G.freezeRows R (fun C'' hle2 hR => h C'' (hle.trans hle2) (fun x hx => ?_))
    rcases List.mem_cons.1 hx with rfl | hx
    · exact hs.mono hle2
    · exact hR x hx

theorem unitsL_len (l : List Rel) : (unitsL l).length ≤ 2 * l.length := by
  rw [← namesOf_len]
  exact List.Nodup.length_le_of_subset (unitsL_nodup l) (fun s hs => mem_setL.1 hs)
theorem zrow_rows (n : Nat) : zrow [Value.slice none 0 0] n = (List.replicate n ((.slice none 0 0, []) : Value × List Arc3)).map (·.1) := by
  rw [zrow_flatten]
  induction n with
  | zero => rfl
  | succ n ih => simp [List.replicate_succ, ih]
theorem G.nilRows {F : Fx} {k : List KI} {fr : Fr} {e : Exit} {C : Mem} : ∀ (n : Nat) {L : List Ent}, G F k e fr C ((List.replicate n ((.slice none 0 0, []) : Value × List Arc3)).map rowE ++ L) → G F k e fr C L
  | 0, L, h => h
  | n + 1, L, h => by
    refine G.nilRows n (L := L) ?_
    have h2 : G F k e fr C (rowE (.slice none 0 0, []) :: ((List.replicate n ((.slice none 0 0, []) : Value × List Arc3)).map rowE ++ L)) := by
      have := h
      rw [List.replicate_succ] at this
      exact this
    exact G.nilArr 110 3 h2
theorem arcAt_len (N : List Str) (l : List Rel) (k : Nat) : (cat (arcAt N l) k).length ≤ k := by
  have := cat_length_mul (f := arcAt N l) (m := 1) (fun i => by
    unfold arcAt; split
    · exact oneIf_len _ _
    · simp) k
  omega
theorem row1 {vs : List Value} : (vs.map fun v => [v]).flatten = vs := by
  induction vs with
  | nil => rfl
  | cons v vs ih => simp [ih]

set_option maxHeartbeats 2000000 in
theorem build_fn (C : Mem) (v : Value) (l : List Rel) (hv : Sl C 3 v (l.map Rel.enc)) (hl : l.length ≤ 100000) : Pur cx.P 40 [v] C fun p C' => Graph C' p (unitsL l) (arcs3 (unitsL l) l) := by
  have hv0 := hv
  obtain ⟨A, c, rfl, _⟩ := hv0
  obtain ⟨N, hN⟩ : ∃ N, unitsL l = N := ⟨_, rfl⟩
  have hNl : N.length ≤ 200000 := by rw [← hN]; have := unitsL_len l; omega
  have hNd : N.Nodup := by rw [← hN]; exact unitsL_nodup l
  have hmem : ∀ {x : Rel}, x ∈ l → x.lower ∈ N ∧ x.upper ∈ N := fun hx => by rw [← hN]; exact mem_units hx
  rw [hN]
  refine Fn.intro (by kernel_rfl) Tryz.func40 rfl 96 rfl rfl (fun w0 => ?_)
  refine G.region rfl (fun R hR => ?_)
  refine D.pure rfl rfl rfl rfl rfl rfl ?_
  refine D.done [(0, [], _)] ⟨rfl, trivial⟩ (hR _ _ _ rfl ?_); clear hR R
  refine G.region rfl (fun R hR => ?_)
  refine D.pure rfl rfl rfl rfl rfl rfl ?_
  refine D.callP (units_fn _ _ l hv hl) rfl rfl rfl rfl rfl rfl rfl (fun _ => rfl) (fun v10 C10 hle10 hq10 => ?_)
  rw [hN] at hq10
  obtain ⟨An, cn, hvn, _⟩ := id hq10
  subst hvn
  refine D.makeMap keyS rfl rfl rfl rfl (fun _ => rfl) (fun b11 => ?_)
  refine D.build [.slice An (N.map encS).length cn, .map (some b11), .slice none 0 0, .slice none 0 0] rfl rfl rfl rfl rfl rfl rfl rfl ?_
  refine D.box rfl rfl rfl rfl rfl rfl (fun _ => rfl) (fun b13 => ?_)
  refine D.pure rfl rfl rfl rfl rfl rfl ?_
  refine D.done [(0, [], _), (3, [], _)] ⟨rfl, rfl, trivial⟩ (hR _ _ _ rfl ?_); clear hR R
  refine G.region rfl (fun R hR => ?_)
  iterate 3 refine D.pure rfl rfl rfl rfl rfl rfl ?_
  refine D.loadL (.head _) rfl rfl rfl rfl rfl rfl rfl rfl rfl ?_
  iterate 2 refine D.pure rfl rfl rfl rfl rfl rfl ?_
  refine D.done [(0, [], _), (3, [], _), (17, [], _), (18, [], _), (19, [], _)] ⟨rfl, rfl, rfl, rfl, rfl, trivial⟩ (hR _ _ _ rfl ?_); clear hR R
  refine G.loop (fun fr C' L' μ => ∃ (k : Nat), (k ≤ N.length) ∧ fr = [(0, [], .slice A (l.map Rel.enc).length c), (3, [], .pointer (some ⟨b13, 0, none⟩)), (17, [], .slice An (N.map encS).length cn), (18, [], .int .i64 (N.map encS).length), (19, [], .int .i64 k)] ∧ L' = [.obj b13 (.cells ⟨[.slice An (N.map encS).length cn, .map (some b11), .slice none 0 0, .slice none 0 0]⟩ 108 (0, 0)), .obj b11 (mapOf keyS.enc (atM (N.take k) 0))] ∧ μ = N.length - k) (fr' := [(0, [], _), (3, [], _), (17, [], _), (18, [], _), (19, [], _)]) ⟨rfl, rfl, rfl, rfl, rfl, trivial⟩ ⟨0, Nat.zero_le _, rfl, rfl, rfl⟩ (fun fr C0' L0' m hle0 hI => ?_)
  obtain ⟨k, hk, rfl, rfl, rfl⟩ := hI
  refine G.region rfl (fun R hR => ?_)
  refine D.pure rfl rfl rfl rfl rfl rfl ?_
  refine D.done [(0, [], _), (3, [], _), (17, [], _), (18, [], _), (19, [], _), (20, [], _)] ⟨rfl, rfl, rfl, rfl, rfl, rfl, trivial⟩ (hR _ _ _ rfl ?_); clear hR R
  refine G.cond rfl (fun h20 => ?_) (fun h20 => ?_)
  · skip
    simp only [List.length_map, decide_eq_true_eq] at h20
    have hkl : k < N.length := by omega
    obtain ⟨s, hs⟩ : ∃ s, N[k]? = some s := ⟨N[k], List.getElem?_eq_getElem hkl⟩
    have hrs : (N.map encS)[k]? = some (encS s) := by simp [hs]
    have htk : N.take (k + 1) = N.take k ++ [s] := by rw [List.take_add_one, hs]; rfl
    have hsn : s ∉ N.take k := fun hm => by
      obtain ⟨j, hj⟩ := List.getElem?_of_mem hm
      rw [List.getElem?_take] at hj
      split at hj
      · rename_i hjk
        have := (List.getElem?_inj (i := j) (j := k) (by omega) hNd).1 (hj.trans hs.symm)
        omega
      · cases hj
    have hset := mset_atM (i := 0) hsn
    rw [← htk, List.length_take, Nat.min_eq_left (by omega), Nat.zero_add] at hset
    refine G.region rfl (fun R hR => ?_)
    refine D.pure rfl rfl rfl rfl rfl rfl ?_
    refine D.index0 (hq10.mono hle0) rfl rfl rfl rfl rfl rfl rfl rfl rfl rfl (by omega) hrs (fun _ => rfl) (fun p22 hp22 => ?_)
    refine D.loadP0 hp22 rfl rfl rfl rfl rfl rfl rfl rfl ?_
    iterate 2 refine D.pure rfl rfl rfl rfl rfl rfl ?_
    refine D.done [(0, [], _), (3, [], _), (4, [], _), (5, [], _), (17, [], _), (18, [], _), (19, [], _)] ⟨rfl, rfl, rfl, rfl, rfl, rfl, rfl, trivial⟩ (hR _ _ _ rfl ?_); clear hR R
    refine G.region rfl (fun R hR => ?_)
    iterate 3 refine D.pure rfl rfl rfl rfl rfl rfl ?_
    refine D.loadL (.head _) rfl rfl rfl rfl rfl rfl rfl rfl rfl ?_
    iterate 2 refine D.pure rfl rfl rfl rfl rfl rfl ?_
    refine D.mapUpdate keyS (j := 1) rfl rfl rfl rfl rfl rfl rfl rfl rfl rfl (by kernel_rfl) ?_
    refine D.done [(0, [], _), (3, [], _), (17, [], _), (18, [], _), (19, [], _)] ⟨rfl, rfl, rfl, rfl, rfl, trivial⟩ (hR _ _ _ rfl ?_); clear hR R
    refine G.region rfl (fun R hR => ?_)
    refine D.i64 _ rfl rfl rfl rfl rfl (by omega) (by omega) rfl rfl ?_
    refine D.pure rfl rfl rfl rfl rfl rfl ?_
    refine D.done [(0, [], _), (3, [], _), (17, [], _), (18, [], _), (19, [], _)] ⟨rfl, rfl, rfl, rfl, rfl, trivial⟩ (hR _ _ _ rfl ?_); clear hR R
    refine G.perm (L' := [.obj b13 (.cells ⟨[.slice An (N.map encS).length cn, .map (some b11), .slice none 0 0, .slice none 0 0]⟩ 108 (0, 0)), .obj b11 (mapOf keyS.enc (atM (N.take (k + 1)) 0))]) (by rw [← hset]; exact List.Perm.swap _ _ _) ?_
    refine G.again (m' := N.length - (k + 1)) (by omega) hle0 (fr' := [(0, [], _), (3, [], _), (17, [], _), (18, [], _), (19, [], _)]) ⟨rfl, rfl, rfl, rfl, rfl, trivial⟩ ⟨k + 1, by omega, rfl, rfl, rfl⟩
  · skip
    simp only [List.length_map, decide_eq_false_iff_not] at h20
    have hkl : k = N.length := by omega
    subst hkl
    rw [List.take_length]
    have hn1 := hq10.mono hle0
    refine G.freeze 1 rfl (fun Cm hlem hbm => ?_)
    refine G.region rfl (fun R hR => ?_)
    iterate 4 refine D.pure rfl rfl rfl rfl rfl rfl ?_
    refine D.loadL (.head _) rfl rfl rfl rfl rfl rfl rfl rfl rfl ?_
    refine D.pure rfl rfl rfl rfl rfl rfl ?_
    refine D.makeArr rfl rfl rfl rfl rfl rfl rfl rfl rfl (Nat.le_refl _) (by simp only [List.length_map]; omega) (by simp only [List.length_map, maxLen]; omega) (fun _ => rfl) (fun b37 => ?_)
    iterate 2 refine D.pure rfl rfl rfl rfl rfl rfl ?_
    refine D.store (j := 1) rfl rfl rfl rfl rfl rfl rfl rfl rfl rfl rfl rfl ?_
    refine D.done [(0, [], _), (3, [], _)] ⟨rfl, rfl, trivial⟩ (hR _ _ _ rfl ?_); clear hR R
    have hn2 := hn1.mono hlem
    have hv2 := ((hv.mono hle10).mono hle0).mono hlem
    refine G.nilArr 110 3 (G.nilRows (N.map encS).length ?_)
    refine G.perm (L' := [.obj b13 (.cells ⟨[.slice An (N.map encS).length cn, .map (some b11), .slice none 0 0, .slice (some ⟨b37, 0, none⟩) (N.map encS).length (N.map encS).length]⟩ 108 (0, 0)), .arr (.slice none 0 0) 110 3 0 [], .arr (.slice (some ⟨b37, 0, none⟩) (N.map encS).length (N.map encS).length) 105 1 (N.map encS).length ((List.replicate (N.map encS).length ((.slice none 0 0, []) : Value × List Arc3)).map (·.1))] ++ (List.replicate (N.map encS).length ((.slice none 0 0, []) : Value × List Arc3)).map rowE) (by
      rw [← zrow_rows]
      exact List.perm_append_comm.trans (List.Perm.swap _ _ _)) ?_
    refine G.region rfl (fun R hR => ?_)
    iterate 3 refine D.pure rfl rfl rfl rfl rfl rfl ?_
    refine D.done [(3, [], _), (40, [], _), (41, [], _), (42, [], _)] ⟨rfl, rfl, rfl, rfl, trivial⟩ (hR _ _ _ rfl ?_); clear hR R
    refine G.loop (fun fr C' L' μ => ∃ (k : Nat) (w2 : Value) (Rw : List (Value × List Arc3)), (k ≤ l.length ∧ Rw.length = N.length ∧ ∀ i r, Rw[i]? = some r → r.2 = nexts (cat (arcAt N l) k) i) ∧ fr = [(3, [], .pointer (some ⟨b13, 0, none⟩)), (40, [], .slice A (l.map Rel.enc).length c), (41, [], .int .i64 (l.map Rel.enc).length), (42, [], .int .i64 k)] ∧ L' = [.obj b13 (.cells ⟨[.slice An (N.map encS).length cn, .map (some b11), w2, .slice (some ⟨b37, 0, none⟩) (N.map encS).length (N.map encS).length]⟩ 108 (0, 0)), .arr w2 110 3 (cat (arcAt N l) k).length ((cat (arcAt N l) k).map Arc3.enc).flatten, .arr (.slice (some ⟨b37, 0, none⟩) (N.map encS).length (N.map encS).length) 105 1 (N.map encS).length (Rw.map (·.1))] ++ Rw.map rowE ∧ μ = l.length - k) (fr' := [(3, [], _), (40, [], _), (41, [], _), (42, [], _)]) ⟨rfl, rfl, rfl, rfl, trivial⟩ ⟨0, .slice none 0 0, List.replicate (N.map encS).length (.slice none 0 0, []), ⟨Nat.zero_le _, by simp, fun i r hr => by
      have := List.mem_of_getElem? hr
      rw [List.eq_of_mem_replicate this]; rfl⟩, rfl, rfl, rfl⟩ (fun fr C1' L1' m hle1 hI => ?_)
    obtain ⟨k, w2, Rw, ⟨hk, hRl, hRn⟩, rfl, rfl, rfl⟩ := hI
    refine G.region rfl (fun R hR => ?_)
    refine D.pure rfl rfl rfl rfl rfl rfl ?_
    refine D.done [(3, [], _), (40, [], _), (41, [], _), (42, [], _), (43, [], _)] ⟨rfl, rfl, rfl, rfl, rfl, trivial⟩ (hR _ _ _ rfl ?_); clear hR R
    refine G.cond rfl (fun h43 => ?_) (fun h43 => ?_)
    · skip
      simp only [List.length_map, decide_eq_true_eq] at h43
      have hkl : k < l.length := by omega
      obtain ⟨x, hx⟩ : ∃ x, l[k]? = some x := ⟨l[k], List.getElem?_eq_getElem hkl⟩
      have hxm : x ∈ l := List.mem_of_getElem? hx
      have hrx : (l.map Rel.enc)[k]? = some x.enc := by simp [hx]
      obtain ⟨q, hq⟩ : ∃ q, posS N x.lower = q := ⟨_, rfl⟩
      have hql : q < N.length := by rw [← hq]; exact posS_lt (hmem hxm).1
      have hgl : mget (atM N 0) x.lower = some (.int .i64 (q : Int)) := by rw [mget_atM, if_pos (hmem hxm).1, Nat.zero_add, hq]
      have hgu : mget (atM N 0) x.upper = some (.int .i64 (posS N x.upper : Nat)) := by rw [mget_atM, if_pos (hmem hxm).2, Nat.zero_add]
      have hal := arcAt_len N l k
      have hbm1 := hle1 _ _ hbm
      refine G.region rfl (fun R hR => ?_)
      refine D.pure rfl rfl rfl rfl rfl rfl ?_
      refine D.index0 (hv2.mono hle1) rfl rfl rfl rfl rfl rfl rfl rfl rfl rfl (by omega) hrx (fun _ => rfl) (fun p45 hp45 => ?_)
      refine D.loadP0 hp45 rfl rfl rfl rfl rfl rfl rfl rfl ?_
      refine D.alloc rfl rfl rfl rfl rfl (fun _ => rfl) (fun b7 => ?_)
      refine D.pure rfl rfl rfl rfl rfl rfl ?_
      refine D.store (j := 0) rfl rfl rfl rfl rfl rfl rfl rfl rfl rfl rfl rfl ?_
      refine D.done [(3, [], _), (6, [], _), (7, [], _), (40, [], _), (41, [], _), (42, [], _)] ⟨rfl, rfl, rfl, rfl, rfl, rfl, trivial⟩ (hR _ _ _ rfl ?_); clear hR R
      refine G.region rfl (fun R hR => ?_)
      refine D.pure rfl rfl rfl rfl rfl rfl ?_
      refine D.loadL (.head _) rfl rfl rfl rfl rfl rfl rfl rfl rfl ?_
      refine D.pure rfl rfl rfl rfl rfl rfl ?_
      refine D.done [(3, [], _), (6, [], _), (7, [], _), (40, [], _), (41, [], _), (42, [], _), (49, [], _)] ⟨rfl, rfl, rfl, rfl, rfl, rfl, rfl, trivial⟩ (hR _ _ _ rfl ?_); clear hR R
      refine G.cond rfl (fun h49 => ?_) (fun h49 => ?_)
      · skip
        have h49' : x.kind = 4 := by simpa using h49
        have hsk : arcAt N l k = [] := by rw [arcAt, hx]; exact oneIf_false (by simp [h49'])
        refine G.region rfl (fun R hR => ?_)
        refine D.i64 _ rfl rfl rfl rfl rfl (by omega) (by omega) rfl rfl ?_
        refine D.pure rfl rfl rfl rfl rfl rfl ?_
        refine D.done [(3, [], _), (40, [], _), (41, [], _), (42, [], _)] ⟨rfl, rfl, rfl, rfl, trivial⟩ (hR _ _ _ rfl ?_); clear hR R
        refine G.dropE 0 rfl ?_
        refine G.eqL (L' := [.obj b13 (.cells ⟨[.slice An (N.map encS).length cn, .map (some b11), w2, .slice (some ⟨b37, 0, none⟩) (N.map encS).length (N.map encS).length]⟩ 108 (0, 0)), .arr w2 110 3 (cat (arcAt N l) (k + 1)).length ((cat (arcAt N l) (k + 1)).map Arc3.enc).flatten, .arr (.slice (some ⟨b37, 0, none⟩) (N.map encS).length (N.map encS).length) 105 1 (N.map encS).length (Rw.map (·.1))] ++ Rw.map rowE) (by rw [cat_succ, hsk, List.append_nil]; rfl) ?_
        refine G.again (m' := l.length - (k + 1)) (by omega) hle1 (fr' := [(3, [], _), (40, [], _), (41, [], _), (42, [], _)]) ⟨rfl, rfl, rfl, rfl, trivial⟩ ⟨k + 1, w2, Rw, ⟨by omega, hRl, fun i r hr => by rw [cat_succ, hsk, List.append_nil]; exact hRn i r hr⟩, rfl, rfl, rfl⟩
      · skip
        have h49' : ¬ x.kind = 4 := by simpa using h49
        obtain ⟨a, ha⟩ : ∃ a : Arc3, a = ⟨k, q, posS N x.upper⟩ := ⟨_, rfl⟩
        have hsk : arcAt N l k = [a] := by
          rw [arcAt, hx, ha, ← hq]
          exact oneIf_true (by simp [h49'])
        obtain ⟨r, hr⟩ : ∃ r, Rw[q]? = some r := ⟨Rw[q]'(by omega), List.getElem?_eq_getElem (by omega)⟩
        have hrn := hRn q r hr
        have hrl : r.2.length ≤ 100000 := by
          rw [hrn]
          have : (nexts (cat (arcAt N l) k) q).length ≤ (cat (arcAt N l) k).length := List.length_filter_le _ _
          omega
        have hae : Arc3.enc a = [.int .i64 (k : Int), .int .i64 (q : Int), .int .i64 (posS N x.upper : Nat)] := by rw [ha]; rfl
        refine G.draw [0, 1, 2, 3, 4, 5, 6, 7, 8, 9, 10, 11, 12, 13, 14, 15, 16, 17] [] rfl (by kernel_rfl) (fun R hB hR => ?_)
        iterate 4 refine D.pure rfl rfl rfl rfl rfl rfl ?_
        refine D.loadL (.tail _ (.head _)) rfl rfl rfl rfl rfl rfl rfl rfl rfl ?_
        refine D.pure rfl rfl rfl rfl rfl rfl ?_
        refine D.loadL (.head _) rfl rfl rfl rfl rfl rfl rfl rfl rfl ?_
        refine D.lookupC keyS (fun _ => hbm1) rfl rfl rfl rfl rfl rfl rfl rfl (by kernel_rfl) rfl (by rw [hgl]; try rfl) rfl rfl ?_
        iterate 3 refine D.pure rfl rfl rfl rfl rfl rfl ?_
        refine D.loadL (.tail _ (.head _)) rfl rfl rfl rfl rfl rfl rfl rfl rfl ?_
        refine D.pure rfl rfl rfl rfl rfl rfl ?_
        refine D.loadL (.head _) rfl rfl rfl rfl rfl rfl rfl rfl rfl ?_
        refine D.lookupC keyS (fun _ => hbm1) rfl rfl rfl rfl rfl rfl rfl rfl (by kernel_rfl) rfl (by rw [hgu]; try rfl) rfl rfl ?_
        refine D.build [.int .i64 (k : Int), .int .i64 (q : Int), .int .i64 (posS N x.upper : Nat)] rfl rfl rfl rfl rfl rfl rfl rfl ?_
        refine D.alloc rfl rfl rfl rfl rfl (fun _ => rfl) (fun b8 => ?_)
        refine D.store (j := 0) rfl rfl rfl rfl rfl rfl rfl rfl rfl rfl rfl rfl ?_
        refine D.done [(3, [], _), (8, [], _), (40, [], _), (41, [], _), (42, [], _)] ⟨rfl, rfl, rfl, rfl, rfl, trivial⟩ (hR _ _ _ rfl ?_); clear hR hB R
        refine G.draw [0, 1, 2, 3, 4, 5, 6, 7, 8, 9, 10] [] rfl (by kernel_rfl) (fun R hB hR => ?_)
        iterate 4 refine D.pure rfl rfl rfl rfl rfl rfl ?_
        refine D.loadL (.tail _ (.tail _ (.head _))) rfl rfl rfl rfl rfl rfl rfl rfl rfl ?_
        refine D.loadL (.head _) rfl rfl rfl rfl rfl rfl rfl rfl rfl ?_
        refine D.buildSlice [[.int .i64 (k : Int), .int .i64 (q : Int), .int .i64 (posS N x.upper : Nat)]] rfl rfl rfl rfl rfl rfl rfl rfl rfl rfl rfl rfl (fun _ => rfl) (fun p72 C72 hle72 hs72 => ?_)
        refine D.appendF (j := 3) rfl rfl rfl rfl rfl rfl rfl rfl rfl rfl rfl hs72 rfl (by simp only [List.length_singleton, maxLen]; omega) (by simp only [List.length_singleton]; omega) (fun _ => rfl) (fun A73 n73 c73 => ?_)
        iterate 2 refine D.pure rfl rfl rfl rfl rfl rfl ?_
        refine D.store (j := 3) rfl rfl rfl rfl rfl rfl rfl rfl rfl rfl rfl rfl ?_
        refine D.done [(3, [], _), (8, [], _), (40, [], _), (41, [], _), (42, [], _)] ⟨rfl, rfl, rfl, rfl, rfl, trivial⟩ (hR _ _ _ rfl ?_); clear hR hB R
        refine G.freeze 2 rfl (fun C8 hle8 hb8 => ?_)
        refine G.dropE 2 rfl ?_
        have hrowi : ([Ent.arr (.slice A73 n73 c73) 110 3 ((cat (arcAt N l) k).length + 1) (((cat (arcAt N l) k).map Arc3.enc).flatten ++ [[Value.int .i64 (k : Int), .int .i64 (q : Int), .int .i64 (posS N x.upper : Nat)]].flatten), .arr (.slice (some ⟨b37, 0, none⟩) (N.map encS).length (N.map encS).length) 105 1 (N.map encS).length (Rw.map (·.1))] ++ Rw.map rowE)[q + 2]? = some (rowE r) := by
          show (Rw.map rowE)[q]? = some (rowE r)
          rw [List.getElem?_map, hr]; rfl
        have hrv : ((Rw.map (·.1)).drop q).take 1 = [r.1] := by
          have h1 : (Rw.map (·.1))[q]? = some r.1 := by rw [List.getElem?_map, hr]; rfl
          obtain ⟨h2, h3⟩ := List.getElem?_eq_some_iff.1 h1
          rw [List.drop_eq_getElem_cons h2, h3]; rfl
        have hqm : q < (N.map encS).length := by rw [List.length_map]; exact hql
        refine G.drawP 0 rfl [0, 1, 2, 3, 4, 5, 6, 7, 8, 9, 10, 11, 12, 13, 14, 15, 16, 17, 18] [(3, 0), (5, 0), (9, 0), (11, 0), (14, 0)] rfl (by kernel_rfl) (fun Cer14 R hCer14 hber14 hB hR => ?_)
        have hb8e := hCer14 _ _ hb8
        iterate 3 refine D.pure rfl rfl rfl rfl rfl rfl ?_
        refine D.loadB (fun _ => (PtrTo.block hber14 _).mono hB) rfl rfl rfl rfl rfl rfl rfl rfl rfl ?_
        refine D.pure rfl rfl rfl rfl rfl rfl ?_
        refine D.loadB (fun _ => ((PtrTo.block hb8e _).mono hB)) rfl rfl rfl rfl rfl rfl rfl rfl rfl ?_
        iterate 3 refine D.pure rfl rfl rfl rfl rfl rfl ?_
        refine D.loadB (fun _ => (PtrTo.block hber14 _).mono hB) rfl rfl rfl rfl rfl rfl rfl rfl rfl ?_
        refine D.pure rfl rfl rfl rfl rfl rfl ?_
        refine D.loadB (fun _ => ((PtrTo.block hb8e _).mono hB)) rfl rfl rfl rfl rfl rfl rfl rfl rfl ?_
        refine D.indexS (q) rfl rfl rfl rfl rfl rfl rfl rfl rfl rfl (fun _ => ⟨by omega, by omega, (by simp)⟩) rfl rfl ?_
        refine D.loadArr (.tail _ (.head _)) rfl rfl rfl rfl rfl rfl (fun _ => (by rw [hrv]; rfl)) rfl rfl ?_
        refine D.loadB (fun _ => ((PtrTo.block hb8e _).mono hB)) rfl rfl rfl rfl rfl rfl rfl rfl rfl ?_
        refine D.buildSlice [[.int .i64 (k : Int), .int .i64 (q : Int), .int .i64 (posS N x.upper : Nat)]] rfl rfl rfl rfl rfl rfl rfl rfl rfl rfl rfl rfl (fun _ => rfl) (fun p91 C91 hle91 hs91 => ?_)
        refine D.appendF (j := q + 2) rfl rfl rfl rfl rfl rfl rfl rfl rfl rfl hrowi hs91 rfl (by simp only [List.length_singleton, maxLen]; omega) (by simp only [List.length_singleton]; omega) (fun _ => rfl) (fun A92 n92 c92 => ?_)
        refine D.indexS (q) rfl rfl rfl rfl rfl rfl rfl rfl rfl rfl (fun _ => ⟨by omega, by omega, (by simp)⟩) rfl rfl ?_
        refine D.storeArr (j := 2) rfl rfl rfl rfl rfl rfl rfl rfl rfl rfl rfl (by show q + 1 ≤ _; rw [List.length_map]; omega) ?_
        refine D.done [(3, [], _), (40, [], _), (41, [], _), (42, [], _)] ⟨rfl, rfl, rfl, rfl, trivial⟩ (hR _ _ _ rfl (fun C2r14 hC2r14 => ?_)); clear hR hB R
        refine G.region rfl (fun R hR => ?_)
        refine D.i64 _ rfl rfl rfl rfl rfl (by omega) (by omega) rfl rfl ?_
        refine D.pure rfl rfl rfl rfl rfl rfl ?_
        refine D.done [(3, [], _), (40, [], _), (41, [], _), (42, [], _)] ⟨rfl, rfl, rfl, rfl, trivial⟩ (hR _ _ _ rfl ?_); clear hR R
        refine G.eqL (L' := .obj b13 (.cells ⟨[.slice An (N.map encS).length cn, .map (some b11), .slice A73 n73 c73, .slice (some ⟨b37, 0, none⟩) (N.map encS).length (N.map encS).length]⟩ 108 (0, 0)) :: .arr (.slice (some ⟨b37, 0, none⟩) (N.map encS).length (N.map encS).length) 105 1 (N.map encS).length ((Rw.set q (.slice A92 n92 c92, r.2 ++ [a])).map (·.1)) :: rowE (.slice A92 n92 c92, r.2 ++ [a]) :: .arr (.slice A73 n73 c73) 110 3 (cat (arcAt N l) (k + 1)).length ((cat (arcAt N l) (k + 1)).map Arc3.enc).flatten :: (Rw.map rowE).eraseIdx q) (by
          have e1 : storeInto (Rw.map (·.1)) [.slice A92 n92 c92] q = (Rw.set q (.slice A92 n92 c92, r.2 ++ [a])).map (·.1) := by
            rw [List.map_set]
            have := row_write (enc := fun v : Value => [v]) (s := 1) (fun _ => rfl) (l := Rw.map (·.1)) (i := q) (.slice A92 n92 c92) (by rw [List.length_map]; omega)
            rw [row1, row1, Nat.mul_one] at this
            exact this
          have e2 : (r.2.map Arc3.enc).flatten ++ [[Value.int .i64 (k : Int), .int .i64 (q : Int), .int .i64 (posS N x.upper : Nat)]].flatten = ((r.2 ++ [a]).map Arc3.enc).flatten := by
            rw [← hae]; simp
          have e3 : ((cat (arcAt N l) k).map Arc3.enc).flatten ++ [[Value.int .i64 (k : Int), .int .i64 (q : Int), .int .i64 (posS N x.upper : Nat)]].flatten = ((cat (arcAt N l) (k + 1)).map Arc3.enc).flatten := by
            rw [cat_succ, hsk, ← hae]; simp
          have e4 : (cat (arcAt N l) (k + 1)).length = (cat (arcAt N l) k).length + 1 := by rw [cat_succ, hsk]; simp
          have e5 : (r.2 ++ [a]).length = r.2.length + 1 := by simp
          rw [← e1, ← e3, e4]
          unfold rowE
          rw [← e2, e5]
          rfl) ?_
        refine G.perm (L' := [.obj b13 (.cells ⟨[.slice An (N.map encS).length cn, .map (some b11), .slice A73 n73 c73, .slice (some ⟨b37, 0, none⟩) (N.map encS).length (N.map encS).length]⟩ 108 (0, 0)), .arr (.slice A73 n73 c73) 110 3 (cat (arcAt N l) (k + 1)).length ((cat (arcAt N l) (k + 1)).map Arc3.enc).flatten, .arr (.slice (some ⟨b37, 0, none⟩) (N.map encS).length (N.map encS).length) 105 1 (N.map encS).length ((Rw.set q (.slice A92 n92 c92, r.2 ++ [a])).map (·.1))] ++ (Rw.set q (.slice A92 n92 c92, r.2 ++ [a])).map rowE) (by
          refine List.Perm.cons _ ?_
          refine (List.Perm.cons _ (List.Perm.swap _ _ _)).trans ((List.Perm.swap _ _ _).trans (List.Perm.cons _ (List.Perm.cons _ ?_)))
          exact rows_perm hr) ?_
        refine G.again (m' := l.length - (k + 1)) (by omega) ((hle1.trans (hle72.trans hle8)).trans hC2r14) (fr' := [(3, [], _), (40, [], _), (41, [], _), (42, [], _)]) ⟨rfl, rfl, rfl, rfl, trivial⟩ ⟨k + 1, .slice A73 n73 c73, Rw.set q (.slice A92 n92 c92, r.2 ++ [a]), ⟨by omega, by rw [List.length_set]; exact hRl, fun i r' hr' => by
          rw [cat_succ, hsk, nexts_append]
          rw [List.getElem?_set] at hr'
          split at hr'
          · rename_i e
            subst e
            rw [if_pos (by omega)] at hr'
            cases hr'
            rw [hrn, if_pos (by rw [ha])]
          · rename_i e
            rw [hRn i r' hr', if_neg (by rw [ha]; exact e), List.append_nil]⟩, rfl, rfl, rfl⟩
    · skip
      simp only [List.length_map, decide_eq_false_iff_not] at h43
      have hkl : k = l.length := by omega
      subst hkl
      refine G.region rfl (fun R hR => ?_)
      iterate 2 refine D.pure rfl rfl rfl rfl rfl rfl ?_
      refine D.done [(2, [], _)] ⟨rfl, trivial⟩ (hR _ _ _ rfl ?_); clear hR R
      refine G.freeze 0 rfl (fun Cf1 hf1 hbf => ?_)
      refine G.freezeArr 0 ((cat (arcAt N l) l.length).map Arc3.enc) rfl rfl (by intro r hr; obtain ⟨y, _, rfl⟩ := List.mem_map.1 hr; rfl) (by simp) (fun Cf2 hf2 hsa => ?_)
      refine G.freezeArr 0 (Rw.map fun r => [r.1]) rfl (by rw [← row1 (vs := Rw.map (·.1)), List.map_map]; rfl) (by intro r hr; obtain ⟨y, _, rfl⟩ := List.mem_map.1 hr; rfl) (by rw [List.length_map, List.length_map, hRl]) (fun Cf3 hf3 hsx => ?_)
      refine G.eqL (L' := Rw.map rowE ++ []) (by simp) (G.freezeRows Rw (fun Cf4 hf4 hsr => G.retN (G.fin1 rfl rfl ?_)))
      refine ⟨rfl, b13, b11, .slice An (N.map encS).length cn, w2, .slice (some ⟨b37, 0, none⟩) (N.map encS).length (N.map encS).length, Rw.map (·.1), rfl, hf4 _ _ (hf3 _ _ (hf2 _ _ hbf)), (((((hn2.mono hle1).mono hf1).mono hf2).mono hf3).mono hf4), hf4 _ _ (hf3 _ _ (hf2 _ _ (hf1 _ _ (hle1 _ _ hbm)))), ((hsa.mono hf3).mono hf4), ?_, by rw [List.length_map, hRl], fun i v hv => ?_⟩
      · rw [List.map_map]; exact hsx.mono hf4
      · rw [List.getElem?_map] at hv
        cases hr : Rw[i]? with
        | none => rw [hr] at hv; cases hv
        | some r =>
          rw [hr] at hv
          simp only [Option.map_some, Option.some.injEq] at hv
          subst hv
          have := hsr r (List.mem_of_getElem? hr)
          rw [hRn i r hr] at this
          exact this
end Go.Proofs.YtcghlfepfcagbaaGreat
namespace Go.Jog
open Go

example {A B C D E : Mem} (h3 : D.le E) (h1 : A.le B) (h2 : B.le C) (h4 : C.le D) : A.le E := by (repeat (first | exact Mem.le.refl _ | assumption | (apply Mem.le.trans; rotate_left; assumption)))
theorem Mem.get {C D : Mem} {b : Nat} {o : Obj} (h : C b = some o) (hl : C.le D) : D b = some o := hl _ _ h

theorem Gives.ofCalls {P : Program} {f : FuncId} {args : List Value} {v : Value} (hen : Enters P f = true) (h : ∀ w, Calls P f args.toArray w fun e w' => e = .returned v ∧ w' = w) (C : Mem) : Gives P f args C v :=
  ⟨hen, fun w hw => (h w).mono fun e w' ⟨h1, h2⟩ => by
    subst h2
    exact ⟨_, C, [], h1, St.start hw, rfl, rfl⟩⟩

section
variable {cx : Cx} {n : Nat} {ds : List (Option Nat)} {R : Rg n ds} {its : List It} {fr : Fr} {C : Mem} {L : List Ent} {i k d : Nat} {o : Oper} {g : GL} {v : Value}
theorem D.copyCore {t t2 e g0 off j q dl dc size len m cap sl : Nat} {x y : Operand} {src : Value} {xs vs : List Value} {ti te : TI} (hk : k = 3) (hd : o.dst = some d) (hg : gOn ds fr o.guard = true)
    (hop : o.op = .call ⟨.builtin .copy, #[x, y], #[t, t2]⟩) (ht : cx.T.get t = some ti) (hte : ti.k = .slice e) (he : cx.T.get e = some te) (hsz : te.size = size)
    (hx : ev fr [] x = some (.slice (some ⟨g0, off, none⟩) dl dc)) (hy : ev fr [] y = some src) (hm : L[j]? = some (.arr (.slice (some ⟨g0, 0, none⟩) m cap) e size len xs))
    (hsl : ∀ w, (Builtin.lenOf src).run cx.P w = .ok sl w) (hq : q = min sl dl) (hvl : vs.length = q * size)
    (hfc : ∀ w, Sep C (.arr (.slice (some ⟨g0, 0, none⟩) m cap) e size len xs :: L.eraseIdx j) w → (Builtin.firstCells size q src).run cx.P w = .ok vs.toArray w)
    (h1 : vs.all oneB = true) (hfit : off + q * size ≤ xs.length) (hp : ∀ v, okPut n ds ((d, [], v) :: fr) d = true)
    (h : D cx R its ((d, [], .int .i64 q) :: fr) C (.arr (.slice (some ⟨g0, 0, none⟩) m cap) e size len (storeInto xs vs off) :: L.eraseIdx j)) : D cx R ((i, k, o) :: its) fr C L := by
  have hu : cx.P.underlying t = some (.slice e) := by
    obtain ⟨kk, s1, b1, z1, g1⟩ := ti
    simp only at hte
    subst hte
    exact und_slice cx.hT ht
  refine D.eff (S := fun v' C' L' => v' = .int .i64 q ∧ C' = C ∧ L' = .arr (.slice (some ⟨g0, 0, none⟩) m cap) e size len (storeInto xs vs off) :: L.eraseIdx j) (by subst hk; rfl) hd hg hp (fun a hs w _ hw => ?_) (fun v' C' L' _ ⟨e0, e1, e2⟩ => by subst e0; subst e1; subst e2; exact h)
  have hw' := St.perm hw (ent_perm hm)
  have hown : w.ownsRow 0 e size (.slice (some ⟨g0, 0, none⟩) m cap) len xs := hw'.sep.e _ (List.mem_cons_self ..)
  obtain ⟨rfl, hlc, hcm, cur, hb, hcs, htake⟩ := ownsRow_block hown
  obtain ⟨cur⟩ := cur
  simp only [List.size_toArray] at hcs
  simp only at htake
  have hxl : xs.length = m * size := hown.1
  have hcl : m * size ≤ cur.length := by rw [hcs]; exact Nat.mul_le_mul_right _ hlc
  have h1' : ∀ u ∈ vs, u.oneCell' = true := fun u hu => oneB_spec (List.all_eq_true.1 h1 u hu)
  have hst := run_storeCells_at cx.P g0 off e vs 0 ⟨cur⟩ w hb (by simp [hvl]; omega) h1'
  simp only [Nat.add_zero] at hst
  have hfcw := hfc w hw'.sep
  have hsw := hsl w
  have hzw := size_of cx.hT he w
  rw [hsz] at hzw
  have hc : (Builtin.copy_ #[t, t2] o.type #[.slice (some ⟨g0, off, none⟩) dl dc, src]).run cx.P w = .ok (.int .i64 q) (w.setRow g0 (storeInto cur vs off).toArray) := by
    have hq2 : Nat.min sl dl = q := hq.symm
    simp only [Builtin.copy_]
    simp [run_underlying hu, hsw, hzw, hq2, hfcw, hst, storeInto, goInt]
  have hex : (execOp a.eval o).run cx.P w = .ok (.value (.int .i64 q)) (w.setRow g0 (storeInto cur vs off).toArray) := by
    have e1 : execOp a.eval o = (do let dd ← resolve a.eval ⟨.builtin .copy, #[x, y], #[t, t2]⟩ o.type; invoke dd.target dd.args : Sem Next) := by unfold execOp; rw [hop]
    rw [e1]
    simp only [resolve, invoke, builtin, Sem.run_bind, Sem.run_pure, Result.andThen_ok, List.map_toArray, List.map_cons, List.map_nil, hs _ _ hx, hs _ _ hy, hc]
  have hlen : (storeInto cur vs off).length = cur.length := storeInto_length (by rw [hvl]; omega)
  have hnew : (w.setRow g0 (storeInto cur vs off).toArray).ownsRow 0 e size (.slice (some ⟨g0, 0, none⟩) m cap) m (storeInto xs vs off) :=
    ⟨by rw [storeInto_length (by rw [hvl]; omega)]; exact hxl, .inr ⟨g0, cap, _, rfl, Nat.zero_le _, setRow_heap w g0 _ _ e _ hb, hlc, hcm, by simp [hlen, hcs], by
          rw [← htake]; exact storeInto_take cur _ off (m * size) (by rw [hvl]; omega) hcl⟩⟩
  unfold Oper.wp
  rw [hex]
  exact ⟨.int .i64 q, C, .arr (.slice (some ⟨g0, 0, none⟩) m cap) e size m (storeInto xs vs off) :: L.eraseIdx j, rfl, Mem.le.refl _, fun h2 => by omega,
    St.turn hw' hnew ⟨rfl, rfl, rfl, by simp, fun k _ hk => setRow_other w g0 k _ (fun e => hk (by simp [Value.ownBlock, e]))⟩ (Nat.le_refl _) (.inl rfl), rfl, rfl, rfl⟩

/-- copy of the row's own first cells to a later place of it. -/
theorem D.copyS {t t2 e g0 off j q dl dc len m cap sl sc : Nat} {x y : Operand} {xs : List Value} {ti te : TI} (hk : k = 3) (hd : o.dst = some d) (hg : gOn ds fr o.guard = true)
    (hop : o.op = .call ⟨.builtin .copy, #[x, y], #[t, t2]⟩) (ht : cx.T.get t = some ti) (hte : ti.k = .slice e) (he : cx.T.get e = some te) (hsz : te.size = 1)
    (hx : ev fr [] x = some (.slice (some ⟨g0, off, none⟩) dl dc)) (hy : ev fr [] y = some (.slice (some ⟨g0, 0, none⟩) sl sc)) (hm : L[j]? = some (.arr (.slice (some ⟨g0, 0, none⟩) m cap) e 1 len xs))
    (hq : q = min sl dl) (h1 : xs.all oneB = true) (hfit : off + q ≤ xs.length) (hp : ∀ v, okPut n ds ((d, [], v) :: fr) d = true)
    (h : D cx R its ((d, [], .int .i64 q) :: fr) C (.arr (.slice (some ⟨g0, 0, none⟩) m cap) e 1 len (storeInto xs (xs.take q) off) :: L.eraseIdx j)) : D cx R ((i, k, o) :: its) fr C L := by
  refine D.copyCore (vs := xs.take q) hk hd hg hop ht hte he hsz hx hy hm (sl := sl) (fun w => by simp [Builtin.lenOf]) hq (by rw [List.length_take]; omega) (fun w hw => ?_)
    (by rw [List.all_eq_true] at h1 ⊢; exact fun u hu => h1 u (List.mem_of_mem_take hu)) (by omega) hp h
  have hown : w.ownsRow 0 e 1 (.slice (some ⟨g0, 0, none⟩) m cap) len xs := hw.e _ (List.mem_cons_self ..)
  obtain ⟨rfl, hlc, hcm, cur, hb, hcs, htake⟩ := ownsRow_block hown
  refine run_firstCells_some (P := cx.P) w 1 q ⟨g0, 0, none⟩ sl sc (xs.take q) (by rw [List.length_take]; omega) (fun jj u hu => ?_)
  rw [← htake, List.take_take, List.getElem?_take] at hu
  split at hu
  · rw [Addr.add_lit, cell_of_row w g0 _ cur e (0, 0) hb]; simpa using hu
  · cases hu

/-- copy of a slice that nobody writes, of which all is read. -/
theorem D.copyC {t t2 e g0 off j q dl dc size len m cap : Nat} {x y : Operand} {p : Value} {rows : List (List Value)} {xs : List Value} {ti te : TI} (hk : k = 3) (hd : o.dst = some d) (hg : gOn ds fr o.guard = true)
    (hop : o.op = .call ⟨.builtin .copy, #[x, y], #[t, t2]⟩) (ht : cx.T.get t = some ti) (hte : ti.k = .slice e) (he : cx.T.get e = some te) (hsz : te.size = size) (hs0 : Nat.beq te.size 0 = false)
    (hx : ev fr [] x = some (.slice (some ⟨g0, off, none⟩) dl dc)) (hy : ev fr [] y = some p) (hm : L[j]? = some (.arr (.slice (some ⟨g0, 0, none⟩) m cap) e size len xs))
    (hsl : Sl C size p rows) (hq : q = min rows.length dl) (h1 : rows.all (fun r => r.all oneB) = true) (hfit : off + q * size ≤ xs.length) (hp : ∀ v, okPut n ds ((d, [], v) :: fr) d = true)
    (h : D cx R its ((d, [], .int .i64 q) :: fr) C (.arr (.slice (some ⟨g0, 0, none⟩) m cap) e size len (storeInto xs (rows.take q).flatten off) :: L.eraseIdx j)) : D cx R ((i, k, o) :: its) fr C L := by
  obtain ⟨A, c, hpv, hlc, hcm, hrl, hcells⟩ := hsl
  have hpos : 0 < size := by rw [← hsz]; exact Nat.pos_of_ne_zero (fun e => by rw [e] at hs0; cases hs0)
  have hrl' : ∀ r ∈ rows.take q, r.length = size := fun r hr => hrl r (List.mem_of_mem_take hr)
  have hfl := length_flatten_rows hrl'
  have hql : (rows.take q).length = q := by rw [List.length_take]; omega
  refine D.copyCore (vs := (rows.take q).flatten) hk hd hg hop ht hte he hsz hx hy hm (sl := rows.length) (fun w => by subst hpv; simp [Builtin.lenOf]) hq (by rw [hfl, hql]) (fun w hw => ?_)
    (by
      rw [List.all_eq_true]; intro u hu
      obtain ⟨r, hr, hur⟩ := List.mem_flatten.1 hu
      exact List.all_eq_true.1 (List.all_eq_true.1 h1 r (List.mem_of_mem_take hr)) u hur) hfit hp h
  cases rows with
  | nil =>
    subst hpv
    have hq0 : q = 0 := by rw [hq]; simp
    subst hq0
    cases A <;> simp [Builtin.firstCells, loadCells, loadCellsFrom]
  | cons r rs =>
    obtain ⟨ad, hA, hsp, _⟩ := hcells 0 r (by simp)
    subst hA
    rw [hpv]
    refine run_firstCells_some (P := cx.P) w size q ad _ c _ (by rw [hfl, hql]) (fun jj u hu => ?_)
    have hqlt : jj < q * size := by rw [← hql, ← hfl]; exact (List.getElem?_eq_some_iff.1 hu).1
    have hdiv : jj / size < q := Nat.div_lt_of_lt_mul (by rw [Nat.mul_comm]; exact hqlt)
    have hdl : jj / size < (r :: rs).length := by omega
    have hgi : (r :: rs)[jj / size]? = some (r :: rs)[jj / size] := List.getElem?_eq_getElem hdl
    have hmod : jj % size < ((r :: rs)[jj / size]).length := by rw [hrl _ (List.getElem_mem hdl)]; exact Nat.mod_lt _ hpos
    have hgj := List.getElem?_eq_getElem hmod
    have hgt : ((r :: rs).take q)[jj / size]? = some (r :: rs)[jj / size] := by rw [List.getElem?_take, if_pos hdiv]; exact hgi
    have heq := getElem?_flatten_rows hrl' hgt hgj
    have hq' : jj / size * size + jj % size = jj := by rw [Nat.mul_comm]; exact Nat.div_add_mod jj size
    rw [hq', hu] at heq
    obtain ⟨ad', h3, h4, h5⟩ := hcells _ _ hgi
    cases h3
    have := h5 _ _ hgj
    rw [hq'] at this
    rw [heq]
    exact this.cell hw
end
end Go.Jog
namespace Go.Proofs.YtcghlfepfcagbaaGreat
open Go Go.Jog
set_option maxRecDepth 100000

theorem mul_gives (x y : Nat) (hx : x < 18446744073709551616) (hy : y < 18446744073709551616) (C : Mem) : Gives cx.P 103 [.int .u64 x, .int .u64 y] C (.tuple #[.int .u64 ((x * y / 18446744073709551616 : Nat) : Int), .int .u64 ((x * y % 18446744073709551616 : Nat) : Int)]) :=
  Gives.ofCalls (by kernel_rfl) (fun w => Any.bits_Mul Tryz.mul x y hx hy w) C

theorem replicate_storeInto {a : Value} {n k m : Nat} {tl : List Value} (_hn : k + m ≤ n) (hk : m ≤ k) (_htl : tl.length = n - k) :
    storeInto (List.replicate k a ++ tl) ((List.replicate k a ++ tl).take m) k = List.replicate (k + m) a ++ tl.drop m := by
  have h1 : (List.replicate k a ++ tl).take m = List.replicate m a := by
    rw [List.take_append_of_le_length (by simpa using hk), List.take_replicate, Nat.min_eq_left hk]
  have h2 : (List.replicate k a ++ tl).take k = List.replicate k a := by
    rw [List.take_append_of_le_length (by simp), List.take_replicate, Nat.min_self]
  have h3 : (List.replicate k a ++ tl).drop (k + m) = tl.drop m := by
    rw [List.drop_append, List.length_replicate, List.drop_eq_nil_of_le (by simp), List.nil_append]
    congr 1; omega
  unfold storeInto
  rw [h1, h2, List.length_replicate, h3, List.replicate_append_replicate]

theorem zrow_rep (a : Value) (n : Nat) : zrow [a] n = List.replicate n a := by
  rw [zrow_flatten]
  induction n with
  | zero => rfl
  | succ n ih => rw [List.replicate_succ, List.flatten_cons, ih, List.replicate_succ]; rfl
theorem mul_one_gives (n : Nat) (hn : n < 18446744073709551616) (C : Mem) : Gives cx.P 103 [.int .u64 (1 : Int), .int .u64 n] C (.tuple #[.int .u64 0, .int .u64 n]) := by
  have h := mul_gives 1 n (by omega) hn C
  have e1 : 1 * n / 18446744073709551616 = 0 := by omega
  have e2 : 1 * n % 18446744073709551616 = n := by omega
  rw [e1, e2] at h
  exact h
theorem repeat_fn (C : Mem) (v : Value) (n : Nat) (z : Int) (hv : Sl C 1 v [[.int .i64 z]]) (hn : n ≤ 1000000) : Jog.Fn cx.P 78 [v, .int .i64 n] C [] fun u _C' L' => ∃ b, u = .slice (some ⟨b, 0, none⟩) n n ∧ L' = [.arr u 3 1 n (List.replicate n (.int .i64 z))] := by
  have hv0 := hv
  obtain ⟨A, c, rfl, _⟩ := hv0
  refine Fn.intro (by kernel_rfl) Tryz.func78 rfl 48 rfl rfl (fun w0 => ?_)
  refine G.region rfl (fun R hR => ?_)
  refine D.pure rfl rfl rfl rfl rfl rfl ?_
  refine D.done [(0, [], _), (1, [], _)] ⟨rfl, rfl, trivial⟩ (hR _ _ _ rfl ?_); clear hR R
  refine G.region rfl (fun R hR => ?_)
  iterate 2 refine D.pure rfl rfl rfl rfl rfl rfl ?_
  refine D.done [(0, [], _), (1, [], _), (10, [], _)] ⟨rfl, rfl, rfl, trivial⟩ (hR _ _ _ rfl ?_); clear hR R
  refine G.cond rfl (fun h10 => ?_) (fun h10 => ?_)
  · skip
    simp at h10; omega
  · skip
    refine G.region rfl (fun R hR => ?_)
    iterate 2 refine D.pure rfl rfl rfl rfl rfl rfl ?_
    refine D.conv (c := 1) rfl rfl rfl rfl rfl rfl rfl rfl rfl (fun _ => rfl) ?_
    refine D.pure rfl rfl rfl rfl rfl rfl ?_
    refine D.conv (c := (n : Int)) rfl rfl rfl rfl rfl rfl rfl rfl (by rw [IntKind.wrap_u64]; omega) (fun _ => rfl) ?_
    refine D.gives2 (mul_one_gives n (by omega) _) rfl rfl rfl rfl rfl rfl rfl (fun _ => rfl) ?_
    iterate 5 refine D.pure rfl rfl rfl rfl rfl rfl ?_
    refine D.done [(0, [], _), (5, [], _), (6, [], _)] ⟨rfl, rfl, rfl, trivial⟩ (hR _ _ _ rfl ?_); clear hR R
    refine G.region rfl (fun R hR => ?_)
    iterate 5 refine D.pure rfl rfl rfl rfl rfl rfl ?_
    refine D.pickOr rfl rfl rfl rfl rfl rfl rfl rfl ?_
    refine D.done [(0, [], _), (6, [], _), (26, [], _)] ⟨rfl, rfl, rfl, trivial⟩ (hR _ _ _ rfl ?_); clear hR R
    refine G.cond rfl (fun h26 => ?_) (fun h26 => ?_)
    · skip
      simp at h26; omega
    · skip
      refine G.region rfl (fun R hR => ?_)
      refine D.pure rfl rfl rfl rfl rfl rfl ?_
      refine D.conv (c := (n : Int)) rfl rfl rfl rfl rfl rfl rfl rfl (by rw [IntKind.wrap_i64]; omega) (fun _ => rfl) ?_
      refine D.makeArr rfl rfl rfl rfl rfl rfl rfl rfl rfl (Nat.le_refl _) (by show 8 * n ≤ 281474976710656; omega) (by simp only [maxLen]; omega) (fun _ => rfl) (fun b30 => ?_)
      refine D.pure rfl rfl rfl rfl rfl rfl ?_
      refine D.done [(0, [], _), (7, [], _)] ⟨rfl, rfl, trivial⟩ (hR _ _ _ rfl ?_); clear hR R
      refine G.region rfl (fun R hR => ?_)
      iterate 2 refine D.pure rfl rfl rfl rfl rfl rfl ?_
      refine D.copyC (j := 0) (q := min 1 n) rfl rfl rfl rfl rfl rfl rfl rfl rfl rfl rfl rfl hv rfl rfl (by rw [zrow_length]; show 0 + min 1 n * 1 ≤ n * 1; omega) (fun _ => rfl) ?_
      refine D.pure rfl rfl rfl rfl rfl rfl ?_
      refine D.done [(7, [], _), (8, [], _)] ⟨rfl, rfl, trivial⟩ (hR _ _ _ rfl ?_); clear hR R
      have hst0 : storeInto (zrow [Value.int .i64 0] n) (([[Value.int .i64 z]] : List (List Value)).take (min 1 n)).flatten 0 = List.replicate (min 1 n) (.int .i64 z) ++ List.replicate (n - min 1 n) (.int .i64 0) := by
        rw [zrow_rep]
        cases n with
        | zero => rfl
        | succ n => rw [show min 1 (n + 1) = 1 by omega, List.replicate_succ]; rfl
      refine G.eqL (L' := [.arr (.slice (some ⟨b30, 0, none⟩) n n) 3 1 n (List.replicate (min 1 n) (.int .i64 z) ++ List.replicate (n - min 1 n) (.int .i64 0))]) (by rw [← hst0]; rfl) ?_
      refine G.loop (fun fr C' L' μ => ∃ (k : Nat), (k ≤ n ∧ min 1 n ≤ k) ∧ fr = [(7, [], .slice (some ⟨b30, 0, none⟩) n n), (8, [], .int .i64 k)] ∧ L' = [.arr (.slice (some ⟨b30, 0, none⟩) n n) 3 1 n (List.replicate k (.int .i64 z) ++ List.replicate (n - k) (.int .i64 0))] ∧ μ = n - k) (fr' := [(7, [], _), (8, [], _)]) ⟨rfl, rfl, trivial⟩ ⟨min 1 n, ⟨Nat.min_le_right _ _, Nat.le_refl _⟩, rfl, rfl, rfl⟩ (fun fr C0' L0' m hle0 hI => ?_)
      obtain ⟨k, ⟨hk, hk1⟩, rfl, rfl, rfl⟩ := hI
      refine G.region rfl (fun R hR => ?_)
      iterate 4 refine D.pure rfl rfl rfl rfl rfl rfl ?_
      refine D.done [(7, [], _), (8, [], _), (37, [], _)] ⟨rfl, rfl, rfl, trivial⟩ (hR _ _ _ rfl ?_); clear hR R
      refine G.cond rfl (fun h37 => ?_) (fun h37 => ?_)
      · skip
        simp only [decide_eq_true_eq] at h37
        have hkn : k < n := by omega
        have hk2 : 1 ≤ k := by omega
        refine G.draw [0, 1, 2, 3, 4, 5, 6, 7, 8, 9] [] rfl (by kernel_rfl) (fun R hB hR => ?_)
        iterate 3 refine D.pure rfl rfl rfl rfl rfl rfl ?_
        refine D.sliceV k n n rfl rfl rfl rfl rfl rfl rfl rfl rfl rfl rfl rfl (fun _ => ⟨.inr ⟨_, rfl⟩, .inl ⟨rfl, rfl⟩, .inl ⟨rfl, rfl⟩, hk, Nat.le_refl _, Nat.le_refl _⟩) rfl rfl ?_
        iterate 2 refine D.pure rfl rfl rfl rfl rfl rfl ?_
        refine D.sliceV 0 k n rfl rfl rfl rfl rfl rfl rfl rfl rfl rfl rfl rfl (fun _ => ⟨.inl ⟨rfl, rfl⟩, .inr ⟨_, rfl⟩, .inl ⟨rfl, rfl⟩, Nat.zero_le _, hk, Nat.le_refl _⟩) rfl rfl ?_
        refine D.copyS (j := 0) (off := k) (g0 := b30) (dl := n - k) (dc := n - k) (sl := k - 0) (sc := n - 0) (q := min k (n - k)) rfl rfl rfl rfl rfl rfl rfl rfl (by show some (Value.slice (if n = k then some (⟨b30, 0, none⟩ : Addr) else (some (⟨b30, 0, none⟩ : Addr)).map (·.add (k * 1))) (n - k) (n - k)) = _; rw [if_neg (by omega)]; simp [Addr.add_lit]) (by show some (Value.slice (if n = 0 then some (⟨b30, 0, none⟩ : Addr) else (some (⟨b30, 0, none⟩ : Addr)).map (·.add (0 * 1))) (k - 0) (n - 0)) = _; split <;> simp [Addr.add_lit]) rfl rfl (by simp [oneB]) (by simp; omega) (fun _ => rfl) ?_
        refine D.i64 (((k + min k (n - k) : Nat) : Int)) rfl rfl rfl rfl (by omega) (by omega) (by omega) rfl rfl ?_
        refine D.pure rfl rfl rfl rfl rfl rfl ?_
        refine D.done [(7, [], _), (8, [], _)] ⟨rfl, rfl, trivial⟩ (hR _ _ _ rfl ?_); clear hR hB R
        refine G.eqL (L' := [.arr (.slice (some ⟨b30, 0, none⟩) n n) 3 1 n (List.replicate (k + min k (n - k)) (.int .i64 z) ++ List.replicate (n - (k + min k (n - k))) (.int .i64 0))]) (by rw [replicate_storeInto (n := n) (by omega) (Nat.min_le_left _ _) (by simp), List.drop_replicate, Nat.sub_sub]; rfl) ?_
        refine G.again (m' := n - (k + min k (n - k))) (by omega) hle0 (fr' := [(7, [], _), (8, [], _)]) ⟨rfl, rfl, trivial⟩ ⟨k + min k (n - k), ⟨by omega, by omega⟩, rfl, rfl, rfl⟩
      · skip
        simp only [decide_eq_false_iff_not] at h37
        have hkn : k = n := by omega
        subst hkn
        refine G.region rfl (fun R hR => ?_)
        iterate 2 refine D.pure rfl rfl rfl rfl rfl rfl ?_
        refine D.done [(4, [], _)] ⟨rfl, trivial⟩ (hR _ _ _ rfl ?_); clear hR R
        refine G.retN (G.fin1 rfl rfl ?_)
        exact ⟨b30, rfl, by simp⟩
end Go.Proofs.YtcghlfepfcagbaaGreat
namespace Go.Proofs.YtcghlfepfcagbaaGreat
open Go Go.Jog
set_option maxRecDepth 100000

def errU (l : List Rel) : Int := if 200 < l.length then 4 else if errs l ≠ 0 then errs l else if 60 < (unitsL l).length then 4 else 0

theorem check_fn (C : Mem) (v : Value) (l : List Rel) (hv : Sl C 3 v (l.map Rel.enc)) (hl : l.length ≤ 100000) (hsh : ∀ x ∈ l, x.short) : Gives cx.P 32 [v] C (.int .i64 (errU l)) := by
  have hv0 := hv
  obtain ⟨A, c, rfl, _⟩ := hv0
  refine Fn.intro (by kernel_rfl) Tryz.func32 rfl 25 rfl rfl (fun w0 => ?_)
  refine G.region rfl (fun R hR => ?_)
  refine D.pure rfl rfl rfl rfl rfl rfl ?_
  refine D.done [(0, [], _)] ⟨rfl, trivial⟩ (hR _ _ _ rfl ?_); clear hR R
  refine G.region rfl (fun R hR => ?_)
  iterate 3 refine D.pure rfl rfl rfl rfl rfl rfl ?_
  refine D.done [(0, [], _), (8, [], _)] ⟨rfl, rfl, trivial⟩ (hR _ _ _ rfl ?_); clear hR R
  refine G.cond rfl (fun h8 => ?_) (fun h8 => ?_)
  · skip
    simp at h8
    refine G.region rfl (fun R hR => ?_)
    refine D.pure rfl rfl rfl rfl rfl rfl ?_
    refine D.done [(2, [], _)] ⟨rfl, trivial⟩ (hR _ _ _ rfl ?_); clear hR R
    refine G.retN (G.dropAll (G.fin1 rfl rfl ?_))
    refine ⟨?_, rfl⟩
    rw [errU, if_pos (by omega)]
  · skip
    simp at h8
    refine G.region rfl (fun R hR => ?_)
    iterate 3 refine D.pure rfl rfl rfl rfl rfl rfl ?_
    refine D.done [(0, [], _), (9, [], _), (10, [], _), (11, [], _)] ⟨rfl, rfl, rfl, rfl, trivial⟩ (hR _ _ _ rfl ?_); clear hR R
    refine G.loop (fun fr C' L' μ => ∃ (k : Nat), (k ≤ l.length ∧ ∀ y ∈ l.take k, errOf y = 0) ∧ fr = [(0, [], .slice A (l.map Rel.enc).length c), (9, [], .slice A (l.map Rel.enc).length c), (10, [], .int .i64 (l.map Rel.enc).length), (11, [], .int .i64 k)] ∧ L' = [] ∧ μ = l.length - k) (fr' := [(0, [], _), (9, [], _), (10, [], _), (11, [], _)]) ⟨rfl, rfl, rfl, rfl, trivial⟩ ⟨0, ⟨Nat.zero_le _, fun y hy => by simp at hy⟩, rfl, rfl, rfl⟩ (fun fr C0' L0' m hle0 hI => ?_)
    obtain ⟨k, ⟨hk, hz⟩, rfl, rfl, rfl⟩ := hI
    refine G.region rfl (fun R hR => ?_)
    refine D.pure rfl rfl rfl rfl rfl rfl ?_
    refine D.done [(0, [], _), (9, [], _), (10, [], _), (11, [], _), (12, [], _)] ⟨rfl, rfl, rfl, rfl, rfl, trivial⟩ (hR _ _ _ rfl ?_); clear hR R
    refine G.cond rfl (fun h12 => ?_) (fun h12 => ?_)
    · skip
      simp only [List.length_map, decide_eq_true_eq] at h12
      have hkl : k < l.length := by omega
      obtain ⟨x, hx⟩ : ∃ x, l[k]? = some x := ⟨l[k], List.getElem?_eq_getElem hkl⟩
      have hxs := hsh x (List.mem_of_getElem? hx)
      have hv1 := hv.mono hle0
      have htk : l.take (k + 1) = l.take k ++ [x] := by rw [List.take_add_one, hx]; rfl
      refine G.region rfl (fun R hR => ?_)
      refine D.index0 (hv.mono hle0) rfl rfl rfl rfl rfl rfl rfl rfl rfl rfl (by omega) (row := x.enc) (by simp [hx]) (fun _ => rfl) (fun p13 hp13 => ?_)
      refine D.loadP0 hp13 rfl rfl rfl rfl rfl rfl rfl rfl ?_
      refine D.alloc rfl rfl rfl rfl rfl (fun _ => rfl) (fun b4 => ?_)
      refine D.store (j := 0) rfl rfl rfl rfl rfl rfl rfl rfl rfl rfl rfl rfl ?_
      refine D.done [(0, [], _), (4, [], _), (9, [], _), (10, [], _), (11, [], _)] ⟨rfl, rfl, rfl, rfl, rfl, trivial⟩ (hR _ _ _ rfl ?_); clear hR R
      refine G.region rfl (fun R hR => ?_)
      refine D.loadL (.head _) rfl rfl rfl rfl rfl rfl rfl rfl rfl ?_
      refine D.gives2 (check_spec _ x hxs.1 hxs.2) rfl rfl rfl rfl rfl rfl rfl (fun _ => rfl) ?_
      refine D.pure rfl rfl rfl rfl rfl rfl ?_
      refine D.done [(0, [], _), (5, [], _), (9, [], _), (10, [], _), (11, [], _)] ⟨rfl, rfl, rfl, rfl, rfl, trivial⟩ (hR _ _ _ rfl ?_); clear hR R
      refine G.region rfl (fun R hR => ?_)
      iterate 2 refine D.pure rfl rfl rfl rfl rfl rfl ?_
      refine D.done [(0, [], _), (5, [], _), (9, [], _), (10, [], _), (11, [], _), (18, [], _)] ⟨rfl, rfl, rfl, rfl, rfl, rfl, trivial⟩ (hR _ _ _ rfl ?_); clear hR R
      refine G.cond rfl (fun h18 => ?_) (fun h18 => ?_)
      · skip
        have h18' : errOf x ≠ 0 := by simpa using h18
        have he := errs_at hx hz h18'
        refine G.region rfl (fun R hR => ?_)
        iterate 2 refine D.pure rfl rfl rfl rfl rfl rfl ?_
        refine D.done [(2, [], _)] ⟨rfl, trivial⟩ (hR _ _ _ rfl ?_); clear hR R
        refine G.retN (G.dropAll (G.fin1 rfl rfl ?_))
        refine ⟨?_, rfl⟩
        rw [errU, if_neg (by omega), he, if_pos h18']
      · skip
        have h18' : errOf x = 0 := by simpa using h18
        refine G.region rfl (fun R hR => ?_)
        refine D.i64 _ rfl rfl rfl rfl rfl (by omega) (by omega) rfl rfl ?_
        refine D.pure rfl rfl rfl rfl rfl rfl ?_
        refine D.done [(0, [], _), (9, [], _), (10, [], _), (11, [], _)] ⟨rfl, rfl, rfl, rfl, trivial⟩ (hR _ _ _ rfl ?_); clear hR R
        refine G.dropE 0 rfl ?_
        refine G.again (m' := l.length - (k + 1)) (by omega) hle0 (fr' := [(0, [], _), (9, [], _), (10, [], _), (11, [], _)]) ⟨rfl, rfl, rfl, rfl, trivial⟩ ⟨k + 1, ⟨by omega, fun y hy => by
          rw [htk] at hy
          rcases List.mem_append.1 hy with h | h
          · exact hz y h
          · rw [List.mem_singleton.1 h]; exact h18'⟩, rfl, rfl, rfl⟩
    · skip
      simp only [List.length_map, decide_eq_false_iff_not] at h12
      have hkl : k = l.length := by omega
      subst hkl
      rw [List.take_length] at hz
      have he := errs_zero hz
      have hul := unitsL_len l
      refine G.region rfl (fun R hR => ?_)
      refine D.pure rfl rfl rfl rfl rfl rfl ?_
      refine D.callP (units_fn _ _ l (hv.mono hle0) hl) rfl rfl rfl rfl rfl rfl rfl (fun _ => rfl) (fun v22 C22 hle22 hq22 => ?_)
      obtain ⟨Au, cu, hvu, _⟩ := id hq22
      subst hvu
      iterate 2 refine D.pure rfl rfl rfl rfl rfl rfl ?_
      refine D.done [(24, [], _)] ⟨rfl, trivial⟩ (hR _ _ _ rfl ?_); clear hR R
      refine G.cond rfl (fun h24 => ?_) (fun h24 => ?_)
      · skip
        simp at h24
        refine G.region rfl (fun R hR => ?_)
        refine D.pure rfl rfl rfl rfl rfl rfl ?_
        refine D.done [(2, [], _)] ⟨rfl, trivial⟩ (hR _ _ _ rfl ?_); clear hR R
        refine G.retN (G.dropAll (G.fin1 rfl rfl ?_))
        refine ⟨?_, rfl⟩
        rw [errU, if_neg (by omega), he, if_neg (by simp), if_pos (by omega)]
      · skip
        simp at h24
        refine G.region rfl (fun R hR => ?_)
        refine D.pure rfl rfl rfl rfl rfl rfl ?_
        refine D.done [(2, [], _)] ⟨rfl, trivial⟩ (hR _ _ _ rfl ?_); clear hR R
        refine G.retN (G.dropAll (G.fin1 rfl rfl ?_))
        refine ⟨?_, rfl⟩
        rw [errU, if_neg (by omega), he, if_neg (by simp), if_neg (by omega)]
end Go.Proofs.YtcghlfepfcagbaaGreat
namespace Go.Proofs.YtcghlfepfcagbaaGreat
open Go Go.Jog
set_option maxRecDepth 100000

def encI (x : Int) : List Value := [.int .i64 x]
abbrev intV (x : Int) : Value := .int .i64 x
def aboveI (A : List Arc3) (ab : Int) : List Arc3 := A.filter fun a => decide (ab < (a.i : Int))
theorem mem_aboveI {A : List Arc3} {ab : Int} {a : Arc3} : a ∈ aboveI A ab ↔ a ∈ A ∧ ab < (a.i : Int) := by simp [aboveI]
theorem aboveI_neg {A : List Arc3} : aboveI A (-1) = A := by
  unfold aboveI
  rw [List.filter_eq_self]
  intro a _
  simp; omega
theorem aboveI_nat {A : List Arc3} {i : Nat} : aboveI A (i : Int) = above A i := by
  unfold aboveI above
  congr 1
  funext a
  simp
theorem ints_at {d : List Int} {u : Nat} (h : u < d.length) : ((d.map intV).drop u).take 1 = [intV (dAt d u)] := by
  have h1 : (d.map intV)[u]? = some (intV (dAt d u)) := by
    rw [List.getElem?_map, List.getElem?_eq_getElem h, Option.map_some, dAt_get (List.getElem?_eq_getElem h)]
  obtain ⟨h2, h3⟩ := List.getElem?_eq_some_iff.1 h1
  rw [List.drop_eq_getElem_cons h2, h3]; rfl
theorem ints_set {d : List Int} {u : Nat} {x : Int} (h : u < d.length) : storeInto (d.map intV) [intV x] u = (d.set u x).map intV := by
  have := row_write (enc := fun v : Int => [intV v]) (s := 1) (fun _ => rfl) (l := d) (i := u) x h
  rw [flatten_map1 intV, flatten_map1 intV, Nat.mul_one] at this
  exact this
theorem ints_flat (d : List Int) : d.map intV = (d.map encI).flatten := (flatten_map1 intV d).symm
theorem fin_le {d : List Int} : fin d ≤ d.length := List.countP_le_length

set_option maxHeartbeats 2000000 in
theorem distances_fn (C : Mem) (p : Value) (N : List Str) (A : List Arc3) (to : Nat) (ab : Int) (hg : Graph C p N A) (hto : to < N.length) (hb : Below N.length A) (hA : A.length ≤ 100000) (hN : N.length ≤ 200000) :
    Pur cx.P 63 [p, .int .i64 to, .int .i64 ab] C fun u C' => ∃ d, IsDist (aboveI A ab) to N.length d ∧ (∀ u, u < d.length → -1 ≤ dAt d u ∧ dAt d u ≤ 1000000) ∧ Sl C' 1 u (d.map encI) := by
  obtain ⟨b, bm, vn, va, vx, vs, hgp, hobj, hnames, hat, harcs, hnx, hlen, hrows⟩ := hg
  subst hgp
  obtain ⟨An, cn, rfl, _⟩ := id hnames
  obtain ⟨Aa, ca, rfl, _⟩ := id harcs
  simp only [List.length_map] at hobj hnames harcs
  have hbI : Below N.length (aboveI A ab) := fun a ha => hb a (mem_aboveI.1 ha).1
  refine Fn.intro (by kernel_rfl) Tryz.func63 rfl 77 rfl rfl (fun w0 => ?_)
  refine G.region rfl (fun R hR => ?_)
  refine D.pure rfl rfl rfl rfl rfl rfl ?_
  refine D.done [(0, [], _), (1, [], _), (2, [], _)] ⟨rfl, rfl, rfl, trivial⟩ (hR _ _ _ rfl ?_); clear hR R
  refine G.regionO [(6, 3)] rfl (fun R hR => ?_)
  refine D.buildSlice [[.int .i64 (-1)]] rfl rfl rfl rfl rfl rfl rfl rfl rfl rfl rfl rfl (fun _ => rfl) (fun p11 C11 hle11 hs11 => ?_)
  iterate 3 refine D.pure rfl rfl rfl rfl rfl rfl ?_
  refine D.loadP0 (PtrTo.block (Mem.get hobj (by (repeat (first | exact Mem.le.refl _ | assumption | (apply Mem.le.trans; rotate_left; assumption))))) _) rfl rfl rfl rfl rfl rfl rfl rfl ?_
  refine D.pure rfl rfl rfl rfl rfl rfl ?_
  refine D.call (repeat_fn _ _ N.length (-1) hs11 (by omega)) rfl (.inr (by decide)) rfl rfl rfl rfl rfl rfl (List.Perm.refl _) (fun _ => rfl) (fun v17 C17 L17 hle17 hq17 => ?_)
  refine D.pure rfl rfl rfl rfl rfl rfl ?_
  refine D.done [(0, [], _), (1, [], _), (2, [], _), (7, [], _)] ⟨rfl, rfl, rfl, rfl, trivial⟩ (hR _ _ _ rfl ?_); clear hR R
  obtain ⟨b17, rfl, rfl⟩ := hq17
  refine G.region rfl (fun R hR => ?_)
  iterate 2 refine D.pure rfl rfl rfl rfl rfl rfl ?_
  refine D.indexS (to) rfl rfl rfl rfl rfl rfl rfl rfl rfl rfl (fun _ => ⟨by omega, by omega, (by simp)⟩) rfl rfl ?_
  refine D.storeArr (j := 0) rfl rfl rfl rfl rfl rfl rfl rfl rfl rfl rfl (by rw [List.length_replicate]; show to + 1 ≤ _; omega) ?_
  refine D.done [(0, [], _), (2, [], _), (7, [], _)] ⟨rfl, rfl, rfl, trivial⟩ (hR _ _ _ rfl ?_); clear hR R
  refine G.region rfl (fun R hR => ?_)
  refine D.pure rfl rfl rfl rfl rfl rfl ?_
  refine D.done [(0, [], _), (2, [], _), (7, [], _), (8, [], _)] ⟨rfl, rfl, rfl, rfl, trivial⟩ (hR _ _ _ rfl ?_); clear hR R
  refine G.eqL (L' := [.arr (.slice (some ⟨b17, 0, none⟩) N.length N.length) 3 1 N.length (((List.replicate N.length (-1)).set to 0).map intV)]) (by rw [← ints_set (by simpa using hto), List.map_replicate]; rfl) ?_
  refine G.loop (fun fr C' L' μ => ∃ (d : List Int) (ch : Bool), (Rel0 (aboveI A ab) to N.length d ∧ (ch = false → ∀ a ∈ aboveI A ab, Tight d a)) ∧ fr = [(0, [], .pointer (some ⟨b, 0, none⟩)), (2, [], .int .i64 ab), (7, [], .slice (some ⟨b17, 0, none⟩) N.length N.length), (8, [], .bool ch)] ∧ L' = [.arr (.slice (some ⟨b17, 0, none⟩) N.length N.length) 3 1 N.length (d.map intV)] ∧ μ = 2 * wt N.length d + (if ch then 1 else 0)) (fr' := [(0, [], _), (2, [], _), (7, [], _), (8, [], _)]) ⟨rfl, rfl, rfl, rfl, trivial⟩ ⟨_, true, ⟨rel0_start hto, (fun h => (by cases h))⟩, rfl, rfl, rfl⟩ (fun fr C0' L0' m hle0 hI => ?_)
  obtain ⟨d, ch, ⟨hrel, hti⟩, rfl, rfl, rfl⟩ := hI
  refine G.region rfl (fun R hR => ?_)
  refine D.pure rfl rfl rfl rfl rfl rfl ?_
  refine D.done [(0, [], _), (2, [], _), (7, [], _), (21, [], _)] ⟨rfl, rfl, rfl, rfl, trivial⟩ (hR _ _ _ rfl ?_); clear hR R
  refine G.cond rfl (fun h21 => ?_) (fun h21 => ?_)
  · skip
    have h21' : ch = true := h21
    subst h21'
    refine G.region rfl (fun R hR => ?_)
    refine D.pure rfl rfl rfl rfl rfl rfl ?_
    refine D.done [(0, [], _), (2, [], _), (7, [], _), (8, [], _)] ⟨rfl, rfl, rfl, rfl, trivial⟩ (hR _ _ _ rfl ?_); clear hR R
    refine G.region rfl (fun R hR => ?_)
    iterate 3 refine D.pure rfl rfl rfl rfl rfl rfl ?_
    refine D.loadP0 (PtrTo.block (Mem.get hobj (by (repeat (first | exact Mem.le.refl _ | assumption | (apply Mem.le.trans; rotate_left; assumption))))) _) rfl rfl rfl rfl rfl rfl rfl rfl ?_
    iterate 2 refine D.pure rfl rfl rfl rfl rfl rfl ?_
    refine D.done [(0, [], _), (2, [], _), (7, [], _), (8, [], _), (25, [], _), (26, [], _), (27, [], _)] ⟨rfl, rfl, rfl, rfl, rfl, rfl, rfl, trivial⟩ (hR _ _ _ rfl ?_); clear hR R
    refine G.loop (fun fr C' L' μ => ∃ (k : Nat) (d2 : List Int) (c2 : Bool), (k ≤ A.length ∧ Rel0 (aboveI A ab) to N.length d2 ∧ (c2 = true → wt N.length d2 < wt N.length d) ∧ (c2 = false → d2 = d ∧ ∀ a ∈ A.take k, a ∈ aboveI A ab → Tight d a)) ∧ fr = [(0, [], .pointer (some ⟨b, 0, none⟩)), (2, [], .int .i64 ab), (7, [], .slice (some ⟨b17, 0, none⟩) N.length N.length), (8, [], .bool c2), (25, [], .slice Aa A.length ca), (26, [], .int .i64 A.length), (27, [], .int .i64 k)] ∧ L' = [.arr (.slice (some ⟨b17, 0, none⟩) N.length N.length) 3 1 N.length (d2.map intV)] ∧ μ = A.length - k) (fr' := [(0, [], _), (2, [], _), (7, [], _), (8, [], _), (25, [], _), (26, [], _), (27, [], _)]) ⟨rfl, rfl, rfl, rfl, rfl, rfl, rfl, trivial⟩ ⟨0, d, false, ⟨Nat.zero_le _, hrel, (fun h => (by cases h)), fun _ => ⟨rfl, fun a ha => by simp at ha⟩⟩, rfl, rfl, rfl⟩ (fun fr C1' L1' m hle1 hI => ?_)
    obtain ⟨k, d2, c2, ⟨hk, hr2, hc2t, hc2f⟩, rfl, rfl, rfl⟩ := hI
    refine G.region rfl (fun R hR => ?_)
    refine D.pure rfl rfl rfl rfl rfl rfl ?_
    refine D.done [(0, [], _), (2, [], _), (7, [], _), (8, [], _), (25, [], _), (26, [], _), (27, [], _), (28, [], _)] ⟨rfl, rfl, rfl, rfl, rfl, rfl, rfl, rfl, trivial⟩ (hR _ _ _ rfl ?_); clear hR R
    refine G.cond rfl (fun h28 => ?_) (fun h28 => ?_)
    · skip
      simp only [decide_eq_true_eq] at h28
      have hkl : k < A.length := by omega
      obtain ⟨a, ha⟩ : ∃ a, A[k]? = some a := ⟨A[k], List.getElem?_eq_getElem hkl⟩
      have hamem : a ∈ A := List.mem_of_getElem? ha
      obtain ⟨hlo, hup⟩ := hb a hamem
      have hlen2 := hr2.len
      have hs1 := hr2.small a.up hup
      have hs2 := hr2.small a.lo hlo
      have hs3 := hr2.neg a.up hup
      have hs4 := hr2.neg a.lo hlo
      have hfl := fin_le (d := d2)
      have hau := ints_at (d := d2) (u := a.up) (by omega)
      have hal := ints_at (d := d2) (u := a.lo) (by omega)
      refine G.region rfl (fun R hR => ?_)
      refine D.index0 (harcs.mono (by (repeat (first | exact Mem.le.refl _ | assumption | (apply Mem.le.trans; rotate_left; assumption))))) rfl rfl rfl rfl rfl rfl rfl rfl rfl rfl (by omega) (row := Arc3.enc a) (by simp [ha]) (fun _ => rfl) (fun p29 hp29 => ?_)
      refine D.loadP0 hp29 rfl rfl rfl rfl rfl rfl rfl rfl ?_
      refine D.alloc rfl rfl rfl rfl rfl (fun _ => rfl) (fun b10 => ?_)
      refine D.store (j := 0) rfl rfl rfl rfl rfl rfl rfl rfl rfl rfl rfl rfl ?_
      refine D.done [(0, [], _), (2, [], _), (7, [], _), (8, [], _), (10, [], _), (25, [], _), (26, [], _), (27, [], _)] ⟨rfl, rfl, rfl, rfl, rfl, rfl, rfl, rfl, trivial⟩ (hR _ _ _ rfl ?_); clear hR R
      refine G.draw [0, 1, 2, 3, 4, 5, 6, 7, 8, 9, 10, 11, 12, 13, 14, 15, 16, 17, 18, 19, 20, 21, 22, 23, 24, 25, 26, 27, 28, 29, 30, 31, 32, 33] [] rfl (by kernel_rfl) (fun R hB hR => ?_)
      refine D.pure rfl rfl rfl rfl rfl rfl ?_
      refine D.loadL (.head _) rfl rfl rfl rfl rfl rfl rfl rfl rfl ?_
      iterate 5 refine D.pure rfl rfl rfl rfl rfl rfl ?_
      refine D.loadL (.head _) rfl rfl rfl rfl rfl rfl rfl rfl rfl ?_
      refine D.indexS (a.up) rfl rfl rfl rfl rfl rfl rfl rfl rfl rfl (fun _ => ⟨by omega, by omega, (by simp)⟩) rfl rfl ?_
      refine D.loadArr (.tail _ (.head _)) rfl rfl rfl rfl rfl rfl (fun _ => (by rw [hau]; rfl)) rfl rfl ?_
      refine D.pure rfl rfl rfl rfl rfl rfl ?_
      refine D.pickAnd rfl rfl rfl rfl rfl rfl rfl rfl ?_
      iterate 3 refine D.pure rfl rfl rfl rfl rfl rfl ?_
      refine D.loadL (.head _) rfl rfl rfl rfl rfl rfl rfl rfl rfl ?_
      refine D.indexS (a.lo) rfl rfl rfl rfl rfl rfl rfl rfl rfl rfl (fun _ => ⟨by omega, by omega, (by simp)⟩) rfl rfl ?_
      refine D.loadArr (.tail _ (.head _)) rfl rfl rfl rfl rfl rfl (fun _ => (by rw [hal]; rfl)) rfl rfl ?_
      iterate 4 refine D.pure rfl rfl rfl rfl rfl rfl ?_
      refine D.loadL (.head _) rfl rfl rfl rfl rfl rfl rfl rfl rfl ?_
      refine D.indexS (a.lo) rfl rfl rfl rfl rfl rfl rfl rfl rfl rfl (fun _ => ⟨by omega, by omega, (by simp)⟩) rfl rfl ?_
      refine D.loadArr (.tail _ (.head _)) rfl rfl rfl rfl rfl rfl (fun _ => (by rw [hal]; rfl)) rfl rfl ?_
      iterate 2 refine D.pure rfl rfl rfl rfl rfl rfl ?_
      refine D.loadL (.head _) rfl rfl rfl rfl rfl rfl rfl rfl rfl ?_
      refine D.indexS (a.up) rfl rfl rfl rfl rfl rfl rfl rfl rfl rfl (fun _ => ⟨by omega, by omega, (by simp)⟩) rfl rfl ?_
      refine D.loadArr (.tail _ (.head _)) rfl rfl rfl rfl rfl rfl (fun _ => (by rw [hau]; rfl)) rfl rfl ?_
      refine D.i64 _ rfl rfl rfl rfl rfl (by omega) (by omega) rfl rfl ?_
      refine D.pure rfl rfl rfl rfl rfl rfl ?_
      refine D.pickOr rfl rfl rfl rfl rfl rfl rfl rfl ?_
      refine D.pickAnd rfl rfl rfl rfl rfl rfl rfl rfl ?_
      refine D.done [(0, [], _), (2, [], _), (7, [], _), (8, [], _), (10, [], _), (25, [], _), (26, [], _), (27, [], _), (64, [], _)] ⟨rfl, rfl, rfl, rfl, rfl, rfl, rfl, rfl, rfl, trivial⟩ (hR _ _ _ rfl ?_); clear hR hB R
      refine G.cond rfl (fun h64 => ?_) (fun h64 => ?_)
      · skip
        have h64' : ab < (a.i : Int) ∧ 0 ≤ dAt d2 a.up ∧ (dAt d2 a.lo < 0 ∨ dAt d2 a.up + 1 < dAt d2 a.lo) := by simpa [and_assoc] using h64
        have hst := rel0_step hr2 (mem_aboveI.2 ⟨hamem, h64'.1⟩) hlo hup h64'.2.1 h64'.2.2
        have hwle : wt N.length d2 ≤ wt N.length d := by
          cases c2 with
          | true => exact Nat.le_of_lt (hc2t rfl)
          | false => rw [(hc2f rfl).1]; exact Nat.le_refl _
        refine G.draw [0, 1, 2, 3, 4, 5, 6, 7, 8, 9, 10, 11] [] rfl (by kernel_rfl) (fun R hB hR => ?_)
        iterate 2 refine D.pure rfl rfl rfl rfl rfl rfl ?_
        refine D.loadL (.head _) rfl rfl rfl rfl rfl rfl rfl rfl rfl ?_
        iterate 2 refine D.pure rfl rfl rfl rfl rfl rfl ?_
        refine D.loadL (.head _) rfl rfl rfl rfl rfl rfl rfl rfl rfl ?_
        refine D.indexS (a.up) rfl rfl rfl rfl rfl rfl rfl rfl rfl rfl (fun _ => ⟨by omega, by omega, (by simp)⟩) rfl rfl ?_
        refine D.loadArr (.tail _ (.head _)) rfl rfl rfl rfl rfl rfl (fun _ => (by rw [hau]; rfl)) rfl rfl ?_
        refine D.i64 _ rfl rfl rfl rfl rfl (by omega) (by omega) rfl rfl ?_
        refine D.indexS (a.lo) rfl rfl rfl rfl rfl rfl rfl rfl rfl rfl (fun _ => ⟨by omega, by omega, (by simp)⟩) rfl rfl ?_
        refine D.storeArr (j := 1) rfl rfl rfl rfl rfl rfl rfl rfl rfl rfl rfl (by rw [List.length_map]; show a.lo + 1 ≤ _; omega) ?_
        refine D.pure rfl rfl rfl rfl rfl rfl ?_
        refine D.done [(0, [], _), (2, [], _), (7, [], _), (8, [], _), (25, [], _), (26, [], _), (27, [], _)] ⟨rfl, rfl, rfl, rfl, rfl, rfl, rfl, trivial⟩ (hR _ _ _ rfl ?_); clear hR hB R
        refine G.region rfl (fun R hR => ?_)
        refine D.i64 _ rfl rfl rfl rfl rfl (by omega) (by omega) rfl rfl ?_
        refine D.pure rfl rfl rfl rfl rfl rfl ?_
        refine D.done [(0, [], _), (2, [], _), (7, [], _), (8, [], _), (25, [], _), (26, [], _), (27, [], _)] ⟨rfl, rfl, rfl, rfl, rfl, rfl, rfl, trivial⟩ (hR _ _ _ rfl ?_); clear hR R
        refine G.dropE 1 rfl ?_
        refine G.eqL (L' := [.arr (.slice (some ⟨b17, 0, none⟩) N.length N.length) 3 1 N.length ((d2.set a.lo (dAt d2 a.up + 1)).map intV)]) (by rw [← ints_set (by omega)]; rfl) ?_
        refine G.again (m' := A.length - (k + 1)) (by omega) hle1 (fr' := [(0, [], _), (2, [], _), (7, [], _), (8, [], _), (25, [], _), (26, [], _), (27, [], _)]) ⟨rfl, rfl, rfl, rfl, rfl, rfl, rfl, trivial⟩ ⟨k + 1, d2.set a.lo (dAt d2 a.up + 1), true, ⟨by omega, hst.1, fun _ => by omega, (fun h => (by cases h))⟩, rfl, rfl, rfl⟩
      · skip
        have h64' : ¬ (ab < (a.i : Int) ∧ 0 ≤ dAt d2 a.up ∧ (dAt d2 a.lo < 0 ∨ dAt d2 a.up + 1 < dAt d2 a.lo)) := by
          intro hh
          have : (false : Bool) = true := by rw [← h64]; simpa [and_assoc] using hh
          cases this
        refine G.region rfl (fun R hR => ?_)
        refine D.i64 _ rfl rfl rfl rfl rfl (by omega) (by omega) rfl rfl ?_
        refine D.pure rfl rfl rfl rfl rfl rfl ?_
        refine D.done [(0, [], _), (2, [], _), (7, [], _), (8, [], _), (25, [], _), (26, [], _), (27, [], _)] ⟨rfl, rfl, rfl, rfl, rfl, rfl, rfl, trivial⟩ (hR _ _ _ rfl ?_); clear hR R
        refine G.dropE 0 rfl ?_
        refine G.again (m' := A.length - (k + 1)) (by omega) hle1 (fr' := [(0, [], _), (2, [], _), (7, [], _), (8, [], _), (25, [], _), (26, [], _), (27, [], _)]) ⟨rfl, rfl, rfl, rfl, rfl, rfl, rfl, trivial⟩ ⟨k + 1, d2, c2, ⟨by omega, hr2, hc2t, fun hf => by
          obtain ⟨e1, e2⟩ := hc2f hf
          subst e1
          refine ⟨rfl, fun a' ha' hab' => ?_⟩
          rw [List.take_add_one, ha] at ha'
          rcases List.mem_append.1 ha' with h | h
          · exact e2 a' h hab'
          · have : a' = a := by simpa using h
            subst this
            intro h0
            have hi := (mem_aboveI.1 hab').2
            exact ⟨by omega, by omega⟩⟩, rfl, rfl, rfl⟩
    · skip
      simp only [decide_eq_false_iff_not] at h28
      have hkl : k = A.length := by omega
      subst hkl
      rw [List.take_length] at hc2f
      have hm3 : 2 * wt N.length d2 + (if c2 = true then 1 else 0) < 2 * wt N.length d + (if true = true then 1 else 0) := by
        cases c2 with
        | true => have := hc2t rfl; simp; omega
        | false => rw [(hc2f rfl).1]; simp
      refine G.again (m' := 2 * wt N.length d2 + (if c2 then 1 else 0)) (by omega) (hle0.trans hle1) (fr' := [(0, [], _), (2, [], _), (7, [], _), (8, [], _)]) ⟨rfl, rfl, rfl, rfl, trivial⟩ ⟨d2, c2, ⟨hr2, fun hf a ha => by
        obtain ⟨e1, e2⟩ := hc2f hf
        subst e1
        exact e2 a (mem_aboveI.1 ha).1 ha⟩, rfl, rfl, rfl⟩
  · skip
    have h21' : ch = false := h21
    refine G.region rfl (fun R hR => ?_)
    iterate 2 refine D.pure rfl rfl rfl rfl rfl rfl ?_
    refine D.done [(6, [], _)] ⟨rfl, trivial⟩ (hR _ _ _ rfl ?_); clear hR R
    refine G.eqL (L' := [.arr (.slice (some ⟨b17, 0, none⟩) N.length N.length) 3 1 N.length (d.map encI).flatten]) (by rw [ints_flat]) ?_
    have hdl := hrel.len
    refine G.freezeArr 0 (d.map encI) rfl rfl (by intro r hr; obtain ⟨y, _, rfl⟩ := List.mem_map.1 hr; rfl) (by rw [List.length_map, hdl]) (fun Cf hf hsd => ?_)
    refine G.retN (G.dropAll (G.fin1 rfl rfl ?_))
    refine ⟨rfl, d, rel0_done hrel hbI (hti h21'), fun u hu => ⟨hrel.neg u (by omega), by have := hrel.small u (by omega); have := fin_le (d := d); omega⟩, ?_⟩
    exact hsd
end Go.Proofs.YtcghlfepfcagbaaGreat
namespace Go.Proofs.YtcghlfepfcagbaaGreat
open Go Go.Jog
set_option maxRecDepth 100000

/-- The closure's answer at an arc. -/
def okArc (a : Arc3) (d : List Int) (at_ : Nat) (b : Arc3) : Bool := decide (a.i < b.i) && (dAt d b.up == dAt d at_ - 1)
abbrev atObj (b : Nat) (at_ : Nat) : Ent := .obj b (.cells ⟨[.int .i64 at_]⟩ 3 (0, 0))
structure Env1 (C : Mem) (a : Arc3) (d : List Int) (b8 b9 : Nat) : Prop where
  arc : C b8 = some (.cells ⟨Arc3.enc a⟩ 110 (0, 0))
  dist : ∃ dv, C b9 = some (.cells ⟨[dv]⟩ 31 (0, 0)) ∧ Sl C 1 dv (d.map encI)
theorem Env1.mono {C D : Mem} {a : Arc3} {d : List Int} {b8 b9 : Nat} (h : Env1 C a d b8 b9) (hl : C.le D) : Env1 D a d b8 b9 :=
  ⟨Mem.get h.arc hl, let ⟨dv, h1, h2⟩ := h.dist; ⟨dv, Mem.get h1 hl, h2.mono hl⟩⟩

theorem ints_row {d : List Int} {u : Nat} (h : u < d.length) : (d.map encI)[u]? = some [.int .i64 (dAt d u)] := by
  rw [List.getElem?_map, List.getElem?_eq_getElem h, Option.map_some, dAt_get (List.getElem?_eq_getElem h)]; rfl

theorem closure_fn (C : Mem) (a b : Arc3) (d : List Int) (at_ b8 b9 b11 : Nat) (he : Env1 C a d b8 b9) (hat : at_ < d.length) (hb : b.up < d.length) (hd : ∀ u, u < d.length → -1 ≤ dAt d u ∧ dAt d u ≤ 1000000) :
    Jog.Fn cx.P 65 [.agg ⟨Arc3.enc b⟩, .pointer (some ⟨b8, 0, none⟩), .pointer (some ⟨b9, 0, none⟩), .pointer (some ⟨b11, 0, none⟩)] C [atObj b11 at_]
      fun u _C' L' => u = .bool (okArc a d at_ b) ∧ L' = [atObj b11 at_] := by
  obtain ⟨hob, dv, hdb, hds⟩ := he
  have hd1 := hd at_ hat
  have hd2 := hd b.up hb
  have hds0 := hds
  obtain ⟨A, c, rfl, _⟩ := hds0
  refine Fn.intro (by kernel_rfl) Tryz.func65 rfl 24 rfl rfl (fun w0 => ?_)
  refine G.eqL (L' := [.obj b11 (.cells ⟨[.int .i64 at_]⟩ 3 (0, 0))]) rfl ?_
  refine G.region rfl (fun R hR => ?_)
  refine D.box rfl rfl rfl rfl rfl rfl (fun _ => rfl) (fun b4 => ?_)
  refine D.pure rfl rfl rfl rfl rfl rfl ?_
  refine D.done [(1, [], _), (2, [], _), (3, [], _), (4, [], _)] ⟨rfl, rfl, rfl, rfl, trivial⟩ (hR _ _ _ rfl ?_); clear hR R
  refine G.draw [0, 1, 2, 3, 4, 5, 6, 7, 8, 9, 10, 11, 12, 13, 14, 15, 16, 17, 18] [] rfl (by kernel_rfl) (fun R hB hR => ?_)
  refine D.pure rfl rfl rfl rfl rfl rfl ?_
  refine D.loadL (.head _) rfl rfl rfl rfl rfl rfl rfl rfl rfl ?_
  refine D.pure rfl rfl rfl rfl rfl rfl ?_
  refine D.loadP0 (PtrTo.block (Mem.get hob (by (repeat (first | exact Mem.le.refl _ | assumption | (apply Mem.le.trans; rotate_left; assumption))))) _) rfl rfl rfl rfl rfl rfl rfl rfl ?_
  iterate 2 refine D.pure rfl rfl rfl rfl rfl rfl ?_
  refine D.loadP rfl rfl rfl rfl rfl rfl (fun _ => PtrTo.block (Mem.get hdb (by (repeat (first | exact Mem.le.refl _ | assumption | (apply Mem.le.trans; rotate_left; assumption))))) _) rfl rfl rfl ?_
  refine D.pure rfl rfl rfl rfl rfl rfl ?_
  refine D.loadL (.head _) rfl rfl rfl rfl rfl rfl rfl rfl rfl ?_
  refine D.index rfl rfl rfl rfl rfl rfl rfl rfl rfl rfl (fun hg => ⟨(hds.mono (by (repeat (first | exact Mem.le.refl _ | assumption | (apply Mem.le.trans; rotate_left; assumption))))), by omega, (ints_row (u := b.up) hb)⟩) (fun _ => rfl) rfl (fun p15 hp15 => ?_)
  refine D.loadP rfl rfl rfl rfl rfl rfl hp15 rfl rfl rfl ?_
  refine D.loadP rfl rfl rfl rfl rfl rfl (fun _ => PtrTo.block (Mem.get hdb (by (repeat (first | exact Mem.le.refl _ | assumption | (apply Mem.le.trans; rotate_left; assumption))))) _) rfl rfl rfl ?_
  refine D.loadL (.tail _ (.head _)) rfl rfl rfl rfl rfl rfl rfl rfl rfl ?_
  refine D.index rfl rfl rfl rfl rfl rfl rfl rfl rfl rfl (fun hg => ⟨(hds.mono (by (repeat (first | exact Mem.le.refl _ | assumption | (apply Mem.le.trans; rotate_left; assumption))))), by omega, (ints_row (u := at_) hat)⟩) (fun _ => rfl) rfl (fun p19 hp19 => ?_)
  refine D.loadP rfl rfl rfl rfl rfl rfl hp19 rfl rfl rfl ?_
  refine D.i64 _ rfl rfl rfl rfl rfl (by omega) (by omega) rfl rfl ?_
  refine D.pure rfl rfl rfl rfl rfl rfl ?_
  refine D.pickAnd rfl rfl rfl rfl rfl rfl rfl rfl ?_
  refine D.pure rfl rfl rfl rfl rfl rfl ?_
  refine D.done [(5, [], _)] ⟨rfl, trivial⟩ (hR _ _ _ rfl ?_); clear hR hB R
  refine G.dropE 0 rfl ?_
  refine G.retN (G.fin1 rfl rfl ?_)
  exact ⟨by simp [okArc], rfl⟩

/-- slices.IndexFunc with the closure. -/
def idxArc (a : Arc3) (d : List Int) (at_ : Nat) : List Arc3 → Nat → Int
  | [], _ => -1
  | b :: l, i => if okArc a d at_ b = true then (i : Int) else idxArc a d at_ l (i + 1)
theorem idxArc_miss {a : Arc3} {d : List Int} {at_ : Nat} : ∀ {l : List Arc3} {i : Nat}, (∀ b ∈ l, okArc a d at_ b = false) → idxArc a d at_ l i = -1
  | [], _, _ => rfl
  | b :: l, i, h => by rw [idxArc, h b (by simp)]; exact idxArc_miss (fun c hc => h c (by simp [hc]))
theorem idxArc_hit {a : Arc3} {d : List Int} {at_ : Nat} : ∀ {l : List Arc3} {i k : Nat} {b : Arc3}, l[k]? = some b → okArc a d at_ b = true → (∀ c ∈ l.take k, okArc a d at_ c = false) → idxArc a d at_ l i = ((i + k : Nat) : Int)
  | [], _, _, _, h, _, _ => by simp at h
  | c :: l, i, 0, b, h, h1, _ => by
    simp at h; subst h
    rw [idxArc, if_pos h1]; rfl
  | c :: l, i, k + 1, b, h, h1, h2 => by
    rw [idxArc, h2 c (by simp), if_neg (by simp), idxArc_hit (k := k) (by simpa using h) h1 (fun e he => h2 e (by simp [he]))]
    congr 1; omega
theorem indexFunc_fn (C : Mem) (v : Value) (a : Arc3) (l : List Arc3) (d : List Int) (at_ b8 b9 b11 : Nat) (he : Env1 C a d b8 b9) (hv : Sl C 3 v (l.map Arc3.enc)) (hl : l.length ≤ 100000) (hat : at_ < d.length) (hb : ∀ b ∈ l, b.up < d.length) (hd : ∀ u, u < d.length → -1 ≤ dAt d u ∧ dAt d u ≤ 1000000) :
    Jog.Fn cx.P 64 [v, .func (.func 65) #[] #[.pointer (some ⟨b8, 0, none⟩), .pointer (some ⟨b9, 0, none⟩), .pointer (some ⟨b11, 0, none⟩)]] C [atObj b11 at_]
      fun u _C' L' => u = .int .i64 (idxArc a d at_ l 0) ∧ L' = [atObj b11 at_] := by
  have hv0 := hv
  obtain ⟨A, c, rfl, _⟩ := hv0
  simp only [List.length_map] at hv ⊢
  refine Fn.intro (by kernel_rfl) Tryz.func64 rfl 19 rfl rfl (fun w0 => ?_)
  refine G.eqL (L' := [.obj b11 (.cells ⟨[.int .i64 at_]⟩ 3 (0, 0))]) rfl ?_
  refine G.region rfl (fun R hR => ?_)
  refine D.pure rfl rfl rfl rfl rfl rfl ?_
  refine D.done [(0, [], _), (1, [], _)] ⟨rfl, rfl, trivial⟩ (hR _ _ _ rfl ?_); clear hR R
  refine G.region rfl (fun R hR => ?_)
  iterate 3 refine D.pure rfl rfl rfl rfl rfl rfl ?_
  refine D.done [(0, [], _), (1, [], _), (7, [], _), (8, [], _)] ⟨rfl, rfl, rfl, rfl, trivial⟩ (hR _ _ _ rfl ?_); clear hR R
  refine G.loop (fun fr C' L' μ => ∃ (k : Nat), (k ≤ l.length ∧ ∀ b ∈ l.take k, okArc a d at_ b = false) ∧ fr = [(0, [], .slice A l.length c), (1, [], .func (.func 65) #[] #[.pointer (some ⟨b8, 0, none⟩), .pointer (some ⟨b9, 0, none⟩), .pointer (some ⟨b11, 0, none⟩)]), (7, [], .int .i64 l.length), (8, [], .int .i64 k)] ∧ L' = [.obj b11 (.cells ⟨[.int .i64 at_]⟩ 3 (0, 0))] ∧ μ = l.length - k) (fr' := [(0, [], _), (1, [], _), (7, [], _), (8, [], _)]) ⟨rfl, rfl, rfl, rfl, trivial⟩ ⟨0, ⟨Nat.zero_le _, fun b hb => by simp at hb⟩, rfl, rfl, rfl⟩ (fun fr C0' L0' m hle0 hI => ?_)
  obtain ⟨k, ⟨hk, hz⟩, rfl, rfl, rfl⟩ := hI
  refine G.region rfl (fun R hR => ?_)
  refine D.pure rfl rfl rfl rfl rfl rfl ?_
  refine D.done [(0, [], _), (1, [], _), (7, [], _), (8, [], _), (9, [], _)] ⟨rfl, rfl, rfl, rfl, rfl, trivial⟩ (hR _ _ _ rfl ?_); clear hR R
  refine G.cond rfl (fun h9 => ?_) (fun h9 => ?_)
  · skip
    simp only [decide_eq_true_eq] at h9
    have hkl : k < l.length := by omega
    obtain ⟨x, hx⟩ : ∃ x, l[k]? = some x := ⟨l[k], List.getElem?_eq_getElem hkl⟩
    refine G.region rfl (fun R hR => ?_)
    iterate 2 refine D.pure rfl rfl rfl rfl rfl rfl ?_
    refine D.done [(0, [], _), (1, [], _), (5, [], _), (7, [], _), (8, [], _)] ⟨rfl, rfl, rfl, rfl, rfl, trivial⟩ (hR _ _ _ rfl ?_); clear hR R
    refine G.regionO [(5, 3)] rfl (fun R hR => ?_)
    iterate 3 refine D.pure rfl rfl rfl rfl rfl rfl ?_
    refine D.index0 (hv.mono (by (repeat (first | exact Mem.le.refl _ | assumption | (apply Mem.le.trans; rotate_left; assumption))))) rfl rfl rfl rfl rfl rfl rfl rfl rfl rfl (by omega) (row := Arc3.enc x) (by simp [hx]) (fun _ => rfl) (fun p14 hp14 => ?_)
    refine D.loadP0 hp14 rfl rfl rfl rfl rfl rfl rfl rfl ?_
    refine D.call (closure_fn _ a x d at_ b8 b9 b11 (he.mono (by (repeat (first | exact Mem.le.refl _ | assumption | (apply Mem.le.trans; rotate_left; assumption))))) hat (hb x (List.mem_of_getElem? hx)) hd) rfl (.inr (by decide)) rfl rfl rfl rfl rfl rfl (List.Perm.refl _) (fun _ => rfl) (fun v16 C16 L16 hle16 hq16 => ?_)
    obtain ⟨rfl, rfl⟩ := hq16
    refine D.done [(0, [], _), (1, [], _), (5, [], _), (7, [], _), (8, [], _), (16, [], _)] ⟨rfl, rfl, rfl, rfl, rfl, rfl, trivial⟩ (hR _ _ _ rfl ?_); clear hR R
    refine G.cond rfl (fun h16 => ?_) (fun h16 => ?_)
    · skip
      refine G.region rfl (fun R hR => ?_)
      iterate 2 refine D.pure rfl rfl rfl rfl rfl rfl ?_
      refine D.done [(4, [], _)] ⟨rfl, trivial⟩ (hR _ _ _ rfl ?_); clear hR R
      refine G.retN (G.fin1 rfl rfl ?_)
      exact ⟨by rw [idxArc_hit hx h16 hz, Nat.zero_add], rfl⟩
    · skip
      refine G.region rfl (fun R hR => ?_)
      refine D.i64 _ rfl rfl rfl rfl rfl (by omega) (by omega) rfl rfl ?_
      refine D.pure rfl rfl rfl rfl rfl rfl ?_
      refine D.done [(0, [], _), (1, [], _), (7, [], _), (8, [], _)] ⟨rfl, rfl, rfl, rfl, trivial⟩ (hR _ _ _ rfl ?_); clear hR R
      refine G.again (m' := l.length - (k + 1)) (by omega) (by (repeat (first | exact Mem.le.refl _ | assumption | (apply Mem.le.trans; rotate_left; assumption)))) (fr' := [(0, [], _), (1, [], _), (7, [], _), (8, [], _)]) ⟨rfl, rfl, rfl, rfl, trivial⟩ ⟨k + 1, ⟨by omega, fun b hbm => by
        rw [List.take_add_one, hx] at hbm
        rcases List.mem_append.1 hbm with h | h
        · exact hz b h
        · have : b = x := by simpa using h
          subst this
          exact h16⟩, rfl, rfl, rfl⟩
  · skip
    simp only [decide_eq_false_iff_not] at h9
    have hkl : k = l.length := by omega
    subst hkl
    refine G.region rfl (fun R hR => ?_)
    refine D.pure rfl rfl rfl rfl rfl rfl ?_
    refine D.done [(4, [], _)] ⟨rfl, trivial⟩ (hR _ _ _ rfl ?_); clear hR R
    refine G.retN (G.fin1 rfl rfl ?_)
    exact ⟨by rw [List.take_length] at hz; rw [idxArc_miss hz], rfl⟩
end Go.Proofs.YtcghlfepfcagbaaGreat
namespace Go.Proofs.YtcghlfepfcagbaaGreat
open Go Go.Jog
set_option maxRecDepth 100000

/-- Arcs come in the order of their numbers. -/
def Ix (A : List Arc3) : Prop := A.Pairwise fun a b => a.i < b.i
theorem Ix.inj {A : List Arc3} (h : Ix A) : ∀ a ∈ A, ∀ b ∈ A, a.i = b.i → a = b := by
  induction A with
  | nil => intro a ha; cases ha
  | cons x A ih =>
    obtain ⟨h1, h2⟩ := List.pairwise_cons.1 h
    intro a ha b hb e
    rcases List.mem_cons.1 ha with e1 | ha1
    · rcases List.mem_cons.1 hb with e2 | hb1
      · rw [e1, e2]
      · have := h1 b hb1; rw [e1] at e; omega
    · rcases List.mem_cons.1 hb with e2 | hb1
      · have := h1 a ha1; rw [e2] at e; omega
      · exact ih h2 a ha1 b hb1 e
theorem Ix.le {A : List Arc3} (h : Ix A) {k : Nat} {a b : Arc3} (ha : A[k]? = some a) (hb : b ∈ A) (hn : b ∉ A.take k) : a.i ≤ b.i := by
  obtain ⟨j, hj⟩ := List.getElem?_of_mem hb
  have hkj : k ≤ j := Nat.le_of_not_lt (fun hlt => hn (List.mem_of_getElem? (i := j) (by rw [List.getElem?_take, if_pos hlt]; exact hj)))
  rcases Nat.lt_or_ge k j with h1 | h1
  · obtain ⟨a1, a2⟩ := List.getElem?_eq_some_iff.1 ha
    obtain ⟨b1, b2⟩ := List.getElem?_eq_some_iff.1 hj
    have := List.pairwise_iff_getElem.1 h k j a1 b1 h1
    rw [a2, b2] at this
    omega
  · have : k = j := by omega
    subst this
    rw [ha] at hj
    cases hj
    exact Nat.le_refl _
theorem Ix.nexts {A : List Arc3} (h : Ix A) (i : Nat) : Ix (nexts A i) := List.Pairwise.filter _ h
theorem mem_nexts {A : List Arc3} {i : Nat} {a : Arc3} : a ∈ nexts A i ↔ a ∈ A ∧ a.lo = i := by simp [nexts]

def LInv (A T : List Arc3) (least : Nat) : Prop :=
  (∀ a ∈ T, ∀ j, Walk A j a.up a.lo → 0 < least ∧ least ≤ j + 1) ∧ (least ≠ 0 → ∃ a ∈ A, ∃ j, Walk A j a.up a.lo ∧ j + 1 = least)
theorem LInv.start {A : List Arc3} : LInv A [] 0 := ⟨fun a ha => (by cases ha), fun h => absurd rfl h⟩
theorem LInv.put {A T : List Arc3} {least n : Nat} {a : Arc3} {d : List Int} (h : LInv A T least) (ha : a ∈ A) (hd : IsDist A a.lo n d) (hn : a.up < n) (hc : 0 ≤ dAt d a.up ∧ (least = 0 ∨ dAt d a.up + 1 < least)) :
    LInv A (T ++ [a]) ((dAt d a.up).toNat + 1) := by
  rcases hd.2 a.up hn with ⟨e, _⟩ | ⟨k, e, hw, hm⟩
  · omega
  · have ek : (dAt d a.up).toNat = k := by omega
    rw [ek]
    refine ⟨fun b hb j hj => ⟨by omega, ?_⟩, fun _ => ⟨a, ha, k, hw, rfl⟩⟩
    rcases List.mem_append.1 hb with hb | hb
    · have := h.1 b hb j hj; omega
    · rw [List.mem_singleton.1 hb] at hj
      have := hm j hj; omega
theorem LInv.keep {A T : List Arc3} {least n : Nat} {a : Arc3} {d : List Int} (h : LInv A T least) (hd : IsDist A a.lo n d) (hn : a.up < n) (hc : ¬ (0 ≤ dAt d a.up ∧ (least = 0 ∨ dAt d a.up + 1 < least))) : LInv A (T ++ [a]) least := by
  refine ⟨fun b hb j hj => ?_, h.2⟩
  rcases List.mem_append.1 hb with hb | hb
  · exact h.1 b hb j hj
  · rw [List.mem_singleton.1 hb] at hj
    rcases hd.2 a.up hn with ⟨_, hno⟩ | ⟨k, e, hw, hm⟩
    · exact absurd hj (hno _)
    · have := hm j hj; omega
theorem LInv.min {A : List Arc3} {least : Nat} (h : LInv A A least) : ∀ k w, 0 < k → Walk A k w w → 0 < least ∧ least ≤ k := fun k w hk hw => by
  obtain ⟨q, rfl⟩ : ∃ q, k = q + 1 := ⟨k - 1, by omega⟩
  obtain ⟨a, ha, hlo, hw⟩ := Walk.succ.1 hw
  subst hlo
  exact h.1 a ha q hw

theorem first_of {α : Type} {P : α → Bool} : ∀ {l : List α} {x : α}, x ∈ l → P x = true → ∃ (k : Nat) (y : α), l[k]? = some y ∧ P y = true ∧ ∀ c ∈ l.take k, P c = false
  | y :: l, x, hx, hp => by
    by_cases hy : P y = true
    · exact ⟨0, y, rfl, hy, fun c hc => by simp at hc⟩
    · have hy' : P y = false := by simpa using hy
      rcases List.mem_cons.1 hx with rfl | hx
      · exact absurd hp hy
      · obtain ⟨k, z, h1, h2, h3⟩ := first_of hx hp
        refine ⟨k + 1, z, by simpa using h1, h2, fun c hc => ?_⟩
        rw [List.take_succ_cons] at hc
        rcases List.mem_cons.1 hc with rfl | hc
        · exact hy'
        · exact h3 c hc

/-- The next arc of the greedy way. -/
theorem greedy_next {A : List Arc3} {a : Arc3} {n m at_ : Nat} {p : List Arc3} {d : List Int} (hix : Ix A) (hb : Below n A) (hd : IsDist (above A a.i) a.lo n d) (hat : at_ < n) (hne : at_ ≠ a.lo) (hpos : 0 ≤ dAt d at_)
    (hg : Greedy (above A a.i) a.up a.lo m p at_) (hm : (p.length : Int) + dAt d at_ = m) :
    ∃ (k : Nat) (b : Arc3), (nexts A at_)[k]? = some b ∧ okArc a d at_ b = true ∧ (∀ c ∈ (nexts A at_).take k, okArc a d at_ c = false) ∧ b.up < n ∧ 0 ≤ dAt d b.up ∧ dAt d b.up = dAt d at_ - 1 ∧
      Greedy (above A a.i) a.up a.lo m (p ++ [b]) b.up ∧ ((p ++ [b]).length : Int) + dAt d b.up = m := by
  have hba : Below n (above A a.i) := fun x hx => hb x (mem_above.1 hx).1
  rcases hd.2 at_ hat with ⟨e, _⟩ | ⟨q, e, hw, hmin⟩
  · omega
  obtain ⟨r, rfl⟩ : ∃ r, q = r + 1 := by
    cases q with
    | zero => exact absurd (Walk.zero.1 hw) hne
    | succ r => exact ⟨r, rfl⟩
  obtain ⟨b0, hb0, hlo0, hw0⟩ := Walk.succ.1 hw
  have hdist : ∀ b ∈ above A a.i, b.lo = at_ → -1 ≤ dAt d b.up ∧ (0 ≤ dAt d b.up → dAt d at_ ≤ dAt d b.up + 1) := fun b hbm hl => by
    rcases hd.2 b.up (hba b hbm).2 with ⟨e1, _⟩ | ⟨k, e1, hk, _⟩
    · exact ⟨by omega, fun h => by omega⟩
    · have := hmin _ (Walk.succ.2 ⟨b, hbm, hl, hk⟩)
      exact ⟨by omega, fun _ => by omega⟩
  have hd0 : dAt d b0.up = dAt d at_ - 1 := by
    rcases hd.2 b0.up (hba b0 hb0).2 with ⟨_, hno⟩ | ⟨k, e1, hk, hkm⟩
    · exact absurd hw0 (hno _)
    · have h1 := hkm _ hw0
      have h2 := hmin _ (Walk.succ.2 ⟨b0, hb0, hlo0, hk⟩)
      omega
  have hok : ∀ b, okArc a d at_ b = true ↔ a.i < b.i ∧ dAt d b.up = dAt d at_ - 1 := fun b => by simp [okArc]
  have hb0A := mem_above.1 hb0
  obtain ⟨k, b, h1, h2, h3⟩ := first_of (P := okArc a d at_) (mem_nexts.2 ⟨hb0A.1, hlo0⟩) ((hok b0).2 ⟨hb0A.2, hd0⟩)
  have hbn := mem_nexts.1 (List.mem_of_getElem? h1)
  have h2' := (hok b).1 h2
  have hbm : b ∈ above A a.i := mem_above.2 ⟨hbn.1, h2'.1⟩
  have hup0 : 0 ≤ dAt d b.up := by omega
  refine ⟨k, b, h1, h2, h3, (hb b hbn.1).2, hup0, h2'.2, hg.step hba hd hbm hbn.2 hm hat h2'.2 hup0 (fun b' hb' hl' he' => ?_) (fun x hx y hy => hix.inj x (mem_above.1 hx).1 y (mem_above.1 hy).1), ?_⟩
  · refine (hix.nexts at_).le h1 (mem_nexts.2 ⟨(mem_above.1 hb').1, hl'⟩) (fun hm' => ?_)
    have := h3 b' hm'
    rw [(hok b').2 ⟨(mem_above.1 hb').2, he'⟩] at this
    cases this
  · rw [List.length_append, List.length_singleton]; push_cast; omega

/-- Where a way around of the least length begins. -/
theorem cyc_dist {A : List Arc3} {a : Arc3} {n least : Nat} {d : List Int} {r : List Arc3} (ha : a ∈ A) (hmin : ∀ k w, 0 < k → Walk A k w w → 0 < least ∧ least ≤ k) (hd : IsDist (above A a.i) a.lo n d) (hn : a.up < n) (hc : Cyc A (a :: r)) (hl : r.length + 1 = least) :
    dAt d a.up = (least : Int) - 1 := by
  obtain ⟨h1, h2⟩ := (cyc_iff ha).1 hc
  have hw : Walk (above A a.i) r.length a.up a.lo := ⟨r, h1, rfl, h2⟩
  rcases hd.2 a.up hn with ⟨_, hno⟩ | ⟨k, e, hk, hkm⟩
  · exact absurd hw (hno _)
  · have h3 := hkm _ hw
    have h4 := hmin (k + 1) a.lo (by omega) (Walk.succ.2 ⟨a, ha, rfl, hk.mono (fun x hx => (mem_above.1 hx).1)⟩)
    omega
end Go.Proofs.YtcghlfepfcagbaaGreat
namespace Go.Proofs.YtcghlfepfcagbaaGreat
open Go Go.Jog
set_option maxRecDepth 100000

def encN (i : Nat) : List Value := [.int .i64 i]
abbrev intN (i : Nat) : Value := .int .i64 i
structure GOk (N : List Str) (A : List Arc3) : Prop where
  below : Below N.length A
  ix : Ix A
  arcs : A.length ≤ 100000
  names : N.length ≤ 200000
  nums : ∀ a ∈ A, a.i ≤ 1000000
def CycOut (C : Mem) (A : List Arc3) (u : Value) : Prop :=
  (u = .slice none 0 0 ∧ Acyc A) ∨ ∃ q ad n c, LeastCyc A q ∧ u = .slice (some ad) n c ∧ Sl C 1 u ((nums q).map encN)

set_option maxHeartbeats 4000000 in
theorem gcycle_fn (C : Mem) (p : Value) (N : List Str) (A : List Arc3) (hg : Graph C p N A) (hok : GOk N A) : Pur cx.P 41 [p] C fun u C' => CycOut C' A u := by
  have hgr := hg
  obtain ⟨b, bm, vn, va, vx, vs, hgp, hobj, hnames, hat, harcs, hnx, hlen, hrows⟩ := hg
  subst hgp
  obtain ⟨Aa, ca, rfl, _⟩ := id harcs
  obtain ⟨Ax, cxx, rfl, _⟩ := id hnx
  simp only [List.length_map] at hobj harcs hnx
  have hb := hok.below
  have hAl := hok.arcs
  have hNl := hok.names
  refine Fn.intro (by kernel_rfl) Tryz.func41 rfl 118 rfl rfl (fun w0 => ?_)
  refine G.region rfl (fun R hR => ?_)
  refine D.pure rfl rfl rfl rfl rfl rfl ?_
  refine D.done [(0, [], _)] ⟨rfl, trivial⟩ (hR _ _ _ rfl ?_); clear hR R
  refine G.region rfl (fun R hR => ?_)
  refine D.pure rfl rfl rfl rfl rfl rfl ?_
  refine D.done [(0, [], _), (3, [], _)] ⟨rfl, rfl, trivial⟩ (hR _ _ _ rfl ?_); clear hR R
  refine G.region rfl (fun R hR => ?_)
  iterate 3 refine D.pure rfl rfl rfl rfl rfl rfl ?_
  refine D.loadP0 (PtrTo.block (Mem.get hobj (by (repeat (first | exact Mem.le.refl _ | assumption | (apply Mem.le.trans; rotate_left; assumption))))) _) rfl rfl rfl rfl rfl rfl rfl rfl ?_
  iterate 2 refine D.pure rfl rfl rfl rfl rfl rfl ?_
  refine D.done [(0, [], _), (3, [], _), (16, [], _), (17, [], _), (18, [], _)] ⟨rfl, rfl, rfl, rfl, rfl, trivial⟩ (hR _ _ _ rfl ?_); clear hR R
  refine G.loop (fun fr C' L' μ => ∃ (k least : Nat), (k ≤ A.length ∧ LInv A (A.take k) least ∧ least ≤ 2000000) ∧ fr = [(0, [], .pointer (some ⟨b, 0, none⟩)), (3, [], .int .i64 least), (16, [], .slice Aa A.length ca), (17, [], .int .i64 A.length), (18, [], .int .i64 k)] ∧ L' = [] ∧ μ = A.length - k) (fr' := [(0, [], _), (3, [], _), (16, [], _), (17, [], _), (18, [], _)]) ⟨rfl, rfl, rfl, rfl, rfl, trivial⟩ ⟨0, 0, ⟨Nat.zero_le _, LInv.start, by omega⟩, rfl, rfl, rfl⟩ (fun fr C0' L0' m hle0 hI => ?_)
  obtain ⟨k, least, ⟨hk, hli, hlb⟩, rfl, rfl, rfl⟩ := hI
  refine G.region rfl (fun R hR => ?_)
  refine D.pure rfl rfl rfl rfl rfl rfl ?_
  refine D.done [(0, [], _), (3, [], _), (16, [], _), (17, [], _), (18, [], _), (19, [], _)] ⟨rfl, rfl, rfl, rfl, rfl, rfl, trivial⟩ (hR _ _ _ rfl ?_); clear hR R
  refine G.cond rfl (fun h19 => ?_) (fun h19 => ?_)
  · skip
    simp only [decide_eq_true_eq] at h19
    have hkl : k < A.length := by omega
    obtain ⟨a, ha⟩ : ∃ a, A[k]? = some a := ⟨A[k], List.getElem?_eq_getElem hkl⟩
    have hamem : a ∈ A := List.mem_of_getElem? ha
    obtain ⟨hlo, hup⟩ := hb a hamem
    have htk : A.take (k + 1) = A.take k ++ [a] := by rw [List.take_add_one, ha]; rfl
    refine G.region rfl (fun R hR => ?_)
    refine D.index0 (harcs.mono (by (repeat (first | exact Mem.le.refl _ | assumption | (apply Mem.le.trans; rotate_left; assumption))))) rfl rfl rfl rfl rfl rfl rfl rfl rfl rfl (by omega) (row := Arc3.enc a) (by simp [ha]) (fun _ => rfl) (fun p20 hp20 => ?_)
    refine D.loadP0 hp20 rfl rfl rfl rfl rfl rfl rfl rfl ?_
    refine D.alloc rfl rfl rfl rfl rfl (fun _ => rfl) (fun b5 => ?_)
    refine D.store (j := 0) rfl rfl rfl rfl rfl rfl rfl rfl rfl rfl rfl rfl ?_
    refine D.done [(0, [], _), (3, [], _), (5, [], _), (16, [], _), (17, [], _), (18, [], _)] ⟨rfl, rfl, rfl, rfl, rfl, rfl, trivial⟩ (hR _ _ _ rfl ?_); clear hR R
    refine G.draw [0, 1, 2, 4, 5, 3, 6, 7, 8] [] rfl (by kernel_rfl) (fun R hB hR => ?_)
    iterate 2 refine D.pure rfl rfl rfl rfl rfl rfl ?_
    refine D.loadL (.head _) rfl rfl rfl rfl rfl rfl rfl rfl rfl ?_
    refine D.pure rfl rfl rfl rfl rfl rfl ?_
    refine D.loadL (.head _) rfl rfl rfl rfl rfl rfl rfl rfl rfl ?_
    refine D.callP (distances_fn _ _ N A a.lo (-1) (hgr.mono (by (repeat (first | exact Mem.le.refl _ | assumption | (apply Mem.le.trans; rotate_left; assumption))))) hlo hb hAl hNl) rfl rfl rfl rfl rfl rfl rfl (fun _ => rfl) (fun v25 C25 hle25 hq25 => ?_)
    obtain ⟨d, hd, hdb, hds⟩ := hq25
    rw [aboveI_neg] at hd
    obtain ⟨Ad, cd, rfl, _⟩ := id hds
    have hdl := hd.1
    have hdu := hdb a.up (by omega)
    refine D.index0 hds rfl rfl rfl rfl rfl rfl rfl rfl rfl rfl (by omega) (ints_row (u := a.up) (by omega)) (fun _ => rfl) (fun p28 hp28 => ?_)
    refine D.loadP0 hp28 rfl rfl rfl rfl rfl rfl rfl rfl ?_
    refine D.pure rfl rfl rfl rfl rfl rfl ?_
    refine D.done [(0, [], _), (3, [], _), (6, [], _), (16, [], _), (17, [], _), (18, [], _)] ⟨rfl, rfl, rfl, rfl, rfl, rfl, trivial⟩ (hR _ _ _ rfl ?_); clear hR hB R
    refine G.region rfl (fun R hR => ?_)
    iterate 7 refine D.pure rfl rfl rfl rfl rfl rfl ?_
    refine D.i64 _ rfl rfl rfl rfl rfl (by omega) (by omega) rfl rfl ?_
    iterate 2 refine D.pure rfl rfl rfl rfl rfl rfl ?_
    refine D.pickOr rfl rfl rfl rfl rfl rfl rfl rfl ?_
    refine D.pickAnd rfl rfl rfl rfl rfl rfl rfl rfl ?_
    refine D.done [(0, [], _), (3, [], _), (6, [], _), (16, [], _), (17, [], _), (18, [], _), (41, [], _)] ⟨rfl, rfl, rfl, rfl, rfl, rfl, rfl, trivial⟩ (hR _ _ _ rfl ?_); clear hR R
    refine G.cond rfl (fun h41 => ?_) (fun h41 => ?_)
    · skip
      have h41' : 0 ≤ dAt d a.up ∧ (least = 0 ∨ dAt d a.up + 1 < least) := by simpa using h41
      refine G.region rfl (fun R hR => ?_)
      refine D.pure rfl rfl rfl rfl rfl rfl ?_
      refine D.i64 ((((dAt d a.up).toNat + 1 : Nat) : Int)) rfl rfl rfl rfl (by omega) (by omega) (by omega) rfl rfl ?_
      refine D.pure rfl rfl rfl rfl rfl rfl ?_
      refine D.done [(0, [], _), (3, [], _), (16, [], _), (17, [], _), (18, [], _)] ⟨rfl, rfl, rfl, rfl, rfl, trivial⟩ (hR _ _ _ rfl ?_); clear hR R
      refine G.region rfl (fun R hR => ?_)
      refine D.i64 _ rfl rfl rfl rfl rfl (by omega) (by omega) rfl rfl ?_
      refine D.pure rfl rfl rfl rfl rfl rfl ?_
      refine D.done [(0, [], _), (3, [], _), (16, [], _), (17, [], _), (18, [], _)] ⟨rfl, rfl, rfl, rfl, rfl, trivial⟩ (hR _ _ _ rfl ?_); clear hR R
      refine G.dropE 0 rfl ?_
      refine G.again (m' := A.length - (k + 1)) (by omega) (by (repeat (first | exact Mem.le.refl _ | assumption | (apply Mem.le.trans; rotate_left; assumption)))) (fr' := [(0, [], _), (3, [], _), (16, [], _), (17, [], _), (18, [], _)]) ⟨rfl, rfl, rfl, rfl, rfl, trivial⟩ ⟨k + 1, (dAt d a.up).toNat + 1, ⟨by omega, by rw [htk]; exact hli.put hamem hd hup h41', by omega⟩, rfl, rfl, rfl⟩
    · skip
      have h41' : ¬ (0 ≤ dAt d a.up ∧ (least = 0 ∨ dAt d a.up + 1 < least)) := fun hh => by
        have : (false : Bool) = true := by rw [← h41]; simpa using hh
        cases this
      refine G.region rfl (fun R hR => ?_)
      refine D.i64 _ rfl rfl rfl rfl rfl (by omega) (by omega) rfl rfl ?_
      refine D.pure rfl rfl rfl rfl rfl rfl ?_
      refine D.done [(0, [], _), (3, [], _), (16, [], _), (17, [], _), (18, [], _)] ⟨rfl, rfl, rfl, rfl, rfl, trivial⟩ (hR _ _ _ rfl ?_); clear hR R
      refine G.dropE 0 rfl ?_
      refine G.again (m' := A.length - (k + 1)) (by omega) (by (repeat (first | exact Mem.le.refl _ | assumption | (apply Mem.le.trans; rotate_left; assumption)))) (fr' := [(0, [], _), (3, [], _), (16, [], _), (17, [], _), (18, [], _)]) ⟨rfl, rfl, rfl, rfl, rfl, trivial⟩ ⟨k + 1, least, ⟨by omega, by rw [htk]; exact hli.keep hd hup h41', hlb⟩, rfl, rfl, rfl⟩
  · skip
    simp only [decide_eq_false_iff_not] at h19
    have hkl : k = A.length := by omega
    subst hkl
    rw [List.take_length] at hli
    have hmin := hli.min
    refine G.region rfl (fun R hR => ?_)
    iterate 3 refine D.pure rfl rfl rfl rfl rfl rfl ?_
    refine D.loadP0 (PtrTo.block (Mem.get hobj (by (repeat (first | exact Mem.le.refl _ | assumption | (apply Mem.le.trans; rotate_left; assumption))))) _) rfl rfl rfl rfl rfl rfl rfl rfl ?_
    iterate 2 refine D.pure rfl rfl rfl rfl rfl rfl ?_
    refine D.done [(0, [], _), (3, [], _), (48, [], _), (49, [], _), (50, [], _)] ⟨rfl, rfl, rfl, rfl, rfl, trivial⟩ (hR _ _ _ rfl ?_); clear hR R
    refine G.loop (fun fr C' L' μ => ∃ (k : Nat), (k ≤ A.length ∧ ∀ x ∈ A.take k, ∀ r, Cyc A (x :: r) → ¬ r.length + 1 = least) ∧ fr = [(0, [], .pointer (some ⟨b, 0, none⟩)), (3, [], .int .i64 least), (48, [], .slice Aa A.length ca), (49, [], .int .i64 A.length), (50, [], .int .i64 k)] ∧ L' = [] ∧ μ = A.length - k) (fr' := [(0, [], _), (3, [], _), (48, [], _), (49, [], _), (50, [], _)]) ⟨rfl, rfl, rfl, rfl, rfl, trivial⟩ ⟨0, ⟨Nat.zero_le _, fun x hx => by simp at hx⟩, rfl, rfl, rfl⟩ (fun fr C1' L1' m hle1 hI => ?_)
    obtain ⟨k, ⟨hk, hno⟩, rfl, rfl, rfl⟩ := hI
    refine G.region rfl (fun R hR => ?_)
    refine D.pure rfl rfl rfl rfl rfl rfl ?_
    refine D.done [(0, [], _), (3, [], _), (48, [], _), (49, [], _), (50, [], _), (51, [], _)] ⟨rfl, rfl, rfl, rfl, rfl, rfl, trivial⟩ (hR _ _ _ rfl ?_); clear hR R
    refine G.cond rfl (fun h51 => ?_) (fun h51 => ?_)
    · skip
      simp only [decide_eq_true_eq] at h51
      have hkl : k < A.length := by omega
      obtain ⟨a, ha⟩ : ∃ a, A[k]? = some a := ⟨A[k], List.getElem?_eq_getElem hkl⟩
      have hamem : a ∈ A := List.mem_of_getElem? ha
      obtain ⟨hlo, hup⟩ := hb a hamem
      have htk : A.take (k + 1) = A.take k ++ [a] := by rw [List.take_add_one, ha]; rfl
      refine G.region rfl (fun R hR => ?_)
      refine D.index0 (harcs.mono (by (repeat (first | exact Mem.le.refl _ | assumption | (apply Mem.le.trans; rotate_left; assumption))))) rfl rfl rfl rfl rfl rfl rfl rfl rfl rfl (by omega) (row := Arc3.enc a) (by simp [ha]) (fun _ => rfl) (fun p52 hp52 => ?_)
      refine D.loadP0 hp52 rfl rfl rfl rfl rfl rfl rfl rfl ?_
      refine D.alloc rfl rfl rfl rfl rfl (fun _ => rfl) (fun b8 => ?_)
      refine D.store (j := 0) rfl rfl rfl rfl rfl rfl rfl rfl rfl rfl rfl rfl ?_
      refine D.done [(0, [], _), (3, [], _), (8, [], _), (48, [], _), (49, [], _), (50, [], _)] ⟨rfl, rfl, rfl, rfl, rfl, rfl, trivial⟩ (hR _ _ _ rfl ?_); clear hR R
      refine G.region rfl (fun R hR => ?_)
      iterate 2 refine D.pure rfl rfl rfl rfl rfl rfl ?_
      refine D.loadL (.head _) rfl rfl rfl rfl rfl rfl rfl rfl rfl ?_
      refine D.pure rfl rfl rfl rfl rfl rfl ?_
      refine D.loadL (.head _) rfl rfl rfl rfl rfl rfl rfl rfl rfl ?_
      refine D.callP (distances_fn _ _ N A a.lo a.i (hgr.mono (by (repeat (first | exact Mem.le.refl _ | assumption | (apply Mem.le.trans; rotate_left; assumption))))) hlo hb hAl hNl) rfl rfl rfl rfl rfl rfl rfl (fun _ => rfl) (fun v59 C59 hle59 hq59 => ?_)
      obtain ⟨d, hd, hdb, hds⟩ := hq59
      rw [aboveI_nat] at hd
      obtain ⟨Ad, cd, rfl, _⟩ := id hds
      have hdl := hd.1
      have hdu := hdb a.up (by omega)
      refine D.alloc rfl rfl rfl rfl rfl (fun _ => rfl) (fun b9 => ?_)
      refine D.store (j := 0) rfl rfl rfl rfl rfl rfl rfl rfl rfl rfl rfl rfl ?_
      refine D.done [(0, [], _), (3, [], _), (8, [], _), (9, [], _), (48, [], _), (49, [], _), (50, [], _)] ⟨rfl, rfl, rfl, rfl, rfl, rfl, rfl, trivial⟩ (hR _ _ _ rfl ?_); clear hR R
      refine G.region rfl (fun R hR => ?_)
      iterate 3 refine D.pure rfl rfl rfl rfl rfl rfl ?_
      refine D.loadL (.head _) rfl rfl rfl rfl rfl rfl rfl rfl rfl ?_
      refine D.pure rfl rfl rfl rfl rfl rfl ?_
      refine D.loadL (.tail _ (.head _)) rfl rfl rfl rfl rfl rfl rfl rfl rfl ?_
      refine D.index rfl rfl rfl rfl rfl rfl rfl rfl rfl rfl (fun hg => ⟨(hds.mono (by (repeat (first | exact Mem.le.refl _ | assumption | (apply Mem.le.trans; rotate_left; assumption))))), by omega, (ints_row (u := a.up) (by omega))⟩) (fun _ => rfl) rfl (fun p66 hp66 => ?_)
      refine D.loadP rfl rfl rfl rfl rfl rfl hp66 rfl rfl rfl ?_
      refine D.pure rfl rfl rfl rfl rfl rfl ?_
      refine D.i64 _ rfl rfl rfl rfl rfl (by omega) (by omega) rfl rfl ?_
      refine D.pure rfl rfl rfl rfl rfl rfl ?_
      refine D.pickOr rfl rfl rfl rfl rfl rfl rfl rfl ?_
      refine D.done [(0, [], _), (3, [], _), (8, [], _), (9, [], _), (48, [], _), (49, [], _), (50, [], _), (71, [], _)] ⟨rfl, rfl, rfl, rfl, rfl, rfl, rfl, rfl, trivial⟩ (hR _ _ _ rfl ?_); clear hR R
      refine G.cond rfl (fun h71 => ?_) (fun h71 => ?_)
      · skip
        have h71' : least = 0 ∨ ¬ dAt d a.up = (least : Int) - 1 := by simpa using h71
        refine G.region rfl (fun R hR => ?_)
        refine D.i64 _ rfl rfl rfl rfl rfl (by omega) (by omega) rfl rfl ?_
        refine D.pure rfl rfl rfl rfl rfl rfl ?_
        refine D.done [(0, [], _), (3, [], _), (48, [], _), (49, [], _), (50, [], _)] ⟨rfl, rfl, rfl, rfl, rfl, trivial⟩ (hR _ _ _ rfl ?_); clear hR R
        refine G.dropE 0 rfl (G.dropE 0 rfl ?_)
        refine G.again (m' := A.length - (k + 1)) (by omega) (by (repeat (first | exact Mem.le.refl _ | assumption | (apply Mem.le.trans; rotate_left; assumption)))) (fr' := [(0, [], _), (3, [], _), (48, [], _), (49, [], _), (50, [], _)]) ⟨rfl, rfl, rfl, rfl, rfl, trivial⟩ ⟨k + 1, ⟨by omega, fun x hx r hc hl => by
          rw [htk] at hx
          rcases List.mem_append.1 hx with h | h
          · exact hno x h r hc hl
          · rw [List.mem_singleton.1 h] at hc
            have := cyc_dist hamem hmin hd hup hc hl
            omega⟩, rfl, rfl, rfl⟩
      · skip
        have h71' : ¬ (least = 0 ∨ ¬ dAt d a.up = (least : Int) - 1) := fun hh => by
          have : (false : Bool) = true := by rw [← h71]; simpa using hh
          cases this
        obtain ⟨m0, hm0⟩ : ∃ m0, least = m0 + 1 := ⟨least - 1, by omega⟩
        have hdm : dAt d a.up = (m0 : Int) := by omega
        refine G.freeze 0 rfl (fun Cx hlex hb9 => ?_)
        refine G.freeze 0 rfl (fun Cy hley hb8 => ?_)
        have henv : Env1 Cy a d b8 b9 := ⟨hb8, _, Mem.get hb9 (by (repeat (first | exact Mem.le.refl _ | assumption | (apply Mem.le.trans; rotate_left; assumption)))), hds.mono (by (repeat (first | exact Mem.le.refl _ | assumption | (apply Mem.le.trans; rotate_left; assumption))))⟩
        refine G.region rfl (fun R hR => ?_)
        refine D.pure rfl rfl rfl rfl rfl rfl ?_
        refine D.loadP0 (PtrTo.block (Mem.get hb8 (by (repeat (first | exact Mem.le.refl _ | assumption | (apply Mem.le.trans; rotate_left; assumption))))) _) rfl rfl rfl rfl rfl rfl rfl rfl ?_
        refine D.buildArr [[.int .i64 a.i]] rfl rfl rfl rfl rfl rfl rfl rfl rfl rfl rfl rfl (fun _ => rfl) (fun b74 => ?_)
        refine D.pure rfl rfl rfl rfl rfl rfl ?_
        refine D.done [(0, [], _), (8, [], _), (9, [], _), (10, [], _)] ⟨rfl, rfl, rfl, rfl, trivial⟩ (hR _ _ _ rfl ?_); clear hR R
        refine G.region rfl (fun R hR => ?_)
        refine D.pure rfl rfl rfl rfl rfl rfl ?_
        refine D.loadP0 (PtrTo.block (Mem.get hb8 (by (repeat (first | exact Mem.le.refl _ | assumption | (apply Mem.le.trans; rotate_left; assumption))))) _) rfl rfl rfl rfl rfl rfl rfl rfl ?_
        refine D.alloc rfl rfl rfl rfl rfl (fun _ => rfl) (fun b11 => ?_)
        refine D.store (j := 0) rfl rfl rfl rfl rfl rfl rfl rfl rfl rfl rfl rfl ?_
        refine D.done [(0, [], _), (8, [], _), (9, [], _), (10, [], _), (11, [], _)] ⟨rfl, rfl, rfl, rfl, rfl, trivial⟩ (hR _ _ _ rfl ?_); clear hR R
        refine G.loop (fun fr C' L' μ => ∃ (p : List Arc3) (at_ b11 : Nat) (w : Value), (Greedy (above A a.i) a.up a.lo m0 p at_ ∧ (p.length : Int) + dAt d at_ = m0 ∧ at_ < N.length ∧ 0 ≤ dAt d at_) ∧ fr = [(0, [], .pointer (some ⟨b, 0, none⟩)), (8, [], .pointer (some ⟨b8, 0, none⟩)), (9, [], .pointer (some ⟨b9, 0, none⟩)), (10, [], w), (11, [], .pointer (some ⟨b11, 0, none⟩))] ∧ L' = [.obj b11 (.cells ⟨[.int .i64 at_]⟩ 3 (0, 0)), .arr w 3 1 (p.length + 1) ((nums (a :: p)).map intN)] ∧ μ = (dAt d at_).toNat) (fr' := [(0, [], _), (8, [], _), (9, [], _), (10, [], _), (11, [], _)]) ⟨rfl, rfl, rfl, rfl, rfl, trivial⟩ ⟨[], a.up, b11, _, ⟨Greedy.start, by simp; omega, hup, by omega⟩, rfl, rfl, rfl⟩ (fun fr C2' L2' m hle2 hI => ?_)
        obtain ⟨p, at_, b11, w, ⟨hgd, hgm, hat2, hpos⟩, rfl, rfl, rfl⟩ := hI
        refine G.region rfl (fun R hR => ?_)
        refine D.loadL (.head _) rfl rfl rfl rfl rfl rfl rfl rfl rfl ?_
        refine D.pure rfl rfl rfl rfl rfl rfl ?_
        refine D.loadP0 (PtrTo.block (Mem.get hb8 (by (repeat (first | exact Mem.le.refl _ | assumption | (apply Mem.le.trans; rotate_left; assumption))))) _) rfl rfl rfl rfl rfl rfl rfl rfl ?_
        refine D.pure rfl rfl rfl rfl rfl rfl ?_
        refine D.done [(0, [], _), (8, [], _), (9, [], _), (10, [], _), (11, [], _), (80, [], _)] ⟨rfl, rfl, rfl, rfl, rfl, rfl, trivial⟩ (hR _ _ _ rfl ?_); clear hR R
        refine G.cond rfl (fun h80 => ?_) (fun h80 => ?_)
        · skip
          have hne0 : ¬ (at_ : Int) = a.lo := by simpa using h80
          have hne : at_ ≠ a.lo := by omega
          obtain ⟨j, b2, hbj, hbo, hbz, hbu, hbp, hbd, hgd2, hgm2⟩ := greedy_next hok.ix hb hd hat2 hne hpos hgd hgm
          have hidx : idxArc a d at_ (nexts A at_) 0 = (j : Int) := by rw [idxArc_hit hbj hbo hbz, Nat.zero_add]
          obtain ⟨v, hv⟩ : ∃ v, vs[at_]? = some v := ⟨vs[at_]'(by omega), List.getElem?_eq_getElem (by omega)⟩
          have hvr := hrows at_ v hv
          obtain ⟨Av, cv, rfl, _⟩ := id hvr
          simp only [List.length_map] at hvr hv
          have hnl : (nexts A at_).length ≤ A.length := List.length_filter_le _ _
          have hjl : j < (nexts A at_).length := (List.getElem?_eq_some_iff.1 hbj).1
          have hpl : p.length ≤ 1000000 := by have := hdb at_ (by omega); omega
          have hrv : (vs.map fun v => [v])[at_]? = some [Value.slice Av (nexts A at_).length cv] := by rw [List.getElem?_map, hv]; rfl
          have hrb : ((nexts A at_).map Arc3.enc)[j]? = some (Arc3.enc b2) := by rw [List.getElem?_map, hbj]; rfl
          refine G.draw [0, 1, 2, 3, 4, 5, 6, 7, 8, 9] [(8, 3)] rfl (by kernel_rfl) (fun R hB hR => ?_)
          iterate 3 refine D.pure rfl rfl rfl rfl rfl rfl ?_
          refine D.loadP0 (PtrTo.block (Mem.get hobj (by (repeat (first | exact Mem.le.refl _ | assumption | (apply Mem.le.trans; rotate_left; assumption))))) _) rfl rfl rfl rfl rfl rfl rfl rfl ?_
          refine D.loadL (.head _) rfl rfl rfl rfl rfl rfl rfl rfl rfl ?_
          refine D.index0 (hnx.mono (by (repeat (first | exact Mem.le.refl _ | assumption | (apply Mem.le.trans; rotate_left; assumption))))) rfl rfl rfl rfl rfl rfl rfl rfl rfl rfl (by omega) hrv (fun _ => rfl) (fun p86 hp86 => ?_)
          refine D.loadP0 hp86 rfl rfl rfl rfl rfl rfl rfl rfl ?_
          refine D.pure rfl rfl rfl rfl rfl rfl ?_
          refine D.call (indexFunc_fn _ _ a (nexts A at_) d at_ b8 b9 b11 (henv.mono (by (repeat (first | exact Mem.le.refl _ | assumption | (apply Mem.le.trans; rotate_left; assumption))))) (hvr.mono (by (repeat (first | exact Mem.le.refl _ | assumption | (apply Mem.le.trans; rotate_left; assumption))))) (by omega) (by omega) (fun x hx => by rw [hdl]; exact (hb x (mem_nexts.1 hx).1).2) hdb) rfl (.inr (by decide)) rfl rfl rfl rfl rfl rfl (List.Perm.refl _) (fun _ => rfl) (fun v89 C89 L89 hle89 hq89 => ?_)
          refine D.pure rfl rfl rfl rfl rfl rfl ?_
          obtain ⟨rfl, rfl⟩ := hq89
          rw [hidx]
          refine D.done [(0, [], _), (8, [], _), (9, [], _), (10, [], _), (11, [], _), (12, [], _)] ⟨rfl, rfl, rfl, rfl, rfl, rfl, trivial⟩ (hR _ _ _ rfl ?_); clear hR hB R
          refine G.eqL (L' := [.obj b11 (.cells ⟨[.int .i64 at_]⟩ 3 (0, 0)), .arr w 3 1 (p.length + 1) ((nums (a :: p)).map intN)]) rfl ?_
          refine G.draw [0, 1, 2, 3, 4, 5, 6, 7, 8, 9, 10, 11, 12, 13, 14] [] rfl (by kernel_rfl) (fun R hB hR => ?_)
          iterate 4 refine D.pure rfl rfl rfl rfl rfl rfl ?_
          refine D.loadP0 (PtrTo.block (Mem.get hobj (by (repeat (first | exact Mem.le.refl _ | assumption | (apply Mem.le.trans; rotate_left; assumption))))) _) rfl rfl rfl rfl rfl rfl rfl rfl ?_
          refine D.loadL (.head _) rfl rfl rfl rfl rfl rfl rfl rfl rfl ?_
          refine D.index0 (hnx.mono (by (repeat (first | exact Mem.le.refl _ | assumption | (apply Mem.le.trans; rotate_left; assumption))))) rfl rfl rfl rfl rfl rfl rfl rfl rfl rfl (by omega) hrv (fun _ => rfl) (fun p96 hp96 => ?_)
          refine D.loadP0 hp96 rfl rfl rfl rfl rfl rfl rfl rfl ?_
          refine D.pure rfl rfl rfl rfl rfl rfl ?_
          refine D.index0 (hvr.mono (by (repeat (first | exact Mem.le.refl _ | assumption | (apply Mem.le.trans; rotate_left; assumption))))) rfl rfl rfl rfl rfl rfl rfl rfl rfl rfl (by omega) hrb (fun _ => rfl) (fun p99 hp99 => ?_)
          refine D.fieldP0 hp99 rfl rfl rfl rfl rfl rfl rfl rfl rfl rfl (fun _ => rfl) (fun p100 hp100 => ?_)
          refine D.loadP0 hp100 rfl rfl rfl rfl rfl rfl rfl rfl ?_
          refine D.buildSlice [[.int .i64 b2.i]] rfl rfl rfl rfl rfl rfl rfl rfl rfl rfl rfl rfl (fun _ => rfl) (fun p102 C102 hle102 hs102 => ?_)
          refine D.append (j := 1) rfl rfl rfl rfl rfl rfl rfl rfl rfl rfl rfl hs102 rfl (by simp only [List.length_singleton, maxLen]; omega) (by simp only [List.length_singleton]; omega) (fun _ => rfl) (fun v103 => ?_)
          refine D.pure rfl rfl rfl rfl rfl rfl ?_
          refine D.done [(0, [], _), (8, [], _), (9, [], _), (10, [], _), (11, [], _), (12, [], _)] ⟨rfl, rfl, rfl, rfl, rfl, rfl, trivial⟩ (hR _ _ _ rfl ?_); clear hR hB R
          refine G.draw [0, 1, 2, 3, 4, 5, 6, 7, 8, 9, 10, 11] [] rfl (by kernel_rfl) (fun R hB hR => ?_)
          iterate 3 refine D.pure rfl rfl rfl rfl rfl rfl ?_
          refine D.loadP0 (PtrTo.block (Mem.get hobj (by (repeat (first | exact Mem.le.refl _ | assumption | (apply Mem.le.trans; rotate_left; assumption))))) _) rfl rfl rfl rfl rfl rfl rfl rfl ?_
          refine D.loadL (.tail _ (.head _)) rfl rfl rfl rfl rfl rfl rfl rfl rfl ?_
          refine D.index0 (hnx.mono (by (repeat (first | exact Mem.le.refl _ | assumption | (apply Mem.le.trans; rotate_left; assumption))))) rfl rfl rfl rfl rfl rfl rfl rfl rfl rfl (by omega) hrv (fun _ => rfl) (fun p109 hp109 => ?_)
          refine D.loadP0 hp109 rfl rfl rfl rfl rfl rfl rfl rfl ?_
          refine D.pure rfl rfl rfl rfl rfl rfl ?_
          refine D.index0 (hvr.mono (by (repeat (first | exact Mem.le.refl _ | assumption | (apply Mem.le.trans; rotate_left; assumption))))) rfl rfl rfl rfl rfl rfl rfl rfl rfl rfl (by omega) hrb (fun _ => rfl) (fun p112 hp112 => ?_)
          refine D.fieldP0 hp112 rfl rfl rfl rfl rfl rfl rfl rfl rfl rfl (fun _ => rfl) (fun p113 hp113 => ?_)
          refine D.loadP0 hp113 rfl rfl rfl rfl rfl rfl rfl rfl ?_
          refine D.store (j := 1) rfl rfl rfl rfl rfl rfl rfl rfl rfl rfl rfl rfl ?_
          refine D.done [(0, [], _), (8, [], _), (9, [], _), (10, [], _), (11, [], _)] ⟨rfl, rfl, rfl, rfl, rfl, trivial⟩ (hR _ _ _ rfl ?_); clear hR hB R
          refine G.region rfl (fun R hR => ?_)
          refine D.loadL (.head _) rfl rfl rfl rfl rfl rfl rfl rfl rfl ?_
          refine D.done [(0, [], _), (8, [], _), (9, [], _), (10, [], _), (115, [], _)] ⟨rfl, rfl, rfl, rfl, rfl, trivial⟩ (hR _ _ _ rfl ?_); clear hR R
          refine G.region rfl (fun R hR => ?_)
          refine D.alloc rfl rfl rfl rfl rfl (fun _ => rfl) (fun b11 => ?_)
          refine D.store (j := 0) rfl rfl rfl rfl rfl rfl rfl rfl rfl rfl rfl rfl ?_
          refine D.done [(0, [], _), (8, [], _), (9, [], _), (10, [], _), (11, [], _)] ⟨rfl, rfl, rfl, rfl, rfl, trivial⟩ (hR _ _ _ rfl ?_); clear hR R
          refine G.dropE 1 rfl ?_
          refine G.eqL (L' := [.obj b11 (.cells ⟨[.int .i64 b2.up]⟩ 3 (0, 0)), .arr v103 3 1 ((p ++ [b2]).length + 1) ((nums (a :: (p ++ [b2]))).map intN)]) (by simp [nums]; rfl) ?_
          refine G.again (m' := (dAt d b2.up).toNat) (by omega) (by (repeat (first | exact Mem.le.refl _ | assumption | (apply Mem.le.trans; rotate_left; assumption)))) (fr' := [(0, [], _), (8, [], _), (9, [], _), (10, [], _), (11, [], _)]) ⟨rfl, rfl, rfl, rfl, rfl, trivial⟩ ⟨p ++ [b2], b2.up, b11, v103, ⟨hgd2, hgm2, hbu, hbp⟩, rfl, rfl, rfl⟩
        · skip
          have hate0 : (at_ : Int) = a.lo := by simpa using h80
          have hate : at_ = a.lo := by omega
          subst hate
          refine G.region rfl (fun R hR => ?_)
          iterate 2 refine D.pure rfl rfl rfl rfl rfl rfl ?_
          refine D.done [(2, [], _)] ⟨rfl, trivial⟩ (hR _ _ _ rfl ?_); clear hR R
          refine G.dropE 0 rfl ?_
          refine G.eqL (L' := [.arr w 3 1 (p.length + 1) ((nums (a :: p)).map encN).flatten]) (by rw [show ((nums (a :: p)).map encN).flatten = (nums (a :: p)).map intN from flatten_map1 intN _]; rfl) ?_
          refine G.freezeArr 0 ((nums (a :: p)).map encN) rfl rfl (by intro r hr; obtain ⟨y, _, rfl⟩ := List.mem_map.1 hr; rfl) (by simp [nums]) (fun Cf hf hsd => ?_)
          refine G.retN (G.dropAll (G.fin1 rfl rfl ?_))
          refine ⟨rfl, .inr ⟨a :: p, ?_⟩⟩
          have hsd0 := hsd
          obtain ⟨Aw, cw, rfl, _, _, _, hcl⟩ := hsd0
          obtain ⟨ad, rfl, _⟩ := hcl 0 _ rfl
          have hpz : p.length = m0 := by
            rcases hd.2 a.lo (by omega) with ⟨e1, _⟩ | ⟨k1, e1, _, hk1⟩
            · omega
            · have := hk1 0 (Walk.zero.2 rfl); omega
          refine ⟨ad, _, cw, leastCyc_of_greedy hamem hok.ix.inj hgd hpz (fun k1 w1 h1 h2 => by have := hmin k1 w1 h1 h2; omega) (fun b1 hb1 r1 hc1 hl1 => ?_), rfl, hsd⟩
          exact hok.ix.le ha hb1 (fun hm' => hno b1 hm' r1 hc1 (by omega))
    · skip
      simp only [decide_eq_false_iff_not] at h51
      have hkl : k = A.length := by omega
      subst hkl
      rw [List.take_length] at hno
      refine G.region rfl (fun R hR => ?_)
      refine D.pure rfl rfl rfl rfl rfl rfl ?_
      refine D.done [(2, [], _)] ⟨rfl, trivial⟩ (hR _ _ _ rfl ?_); clear hR R
      refine G.retN (G.dropAll (G.fin1 rfl rfl ?_))
      refine ⟨rfl, .inl ⟨rfl, fun k w hk hw => ?_⟩⟩
      obtain ⟨q, hq, hqm, _⟩ := cyc_of_walk hk hw hok.ix.inj
      obtain ⟨a, r, rfl, hi, _⟩ := id hq
      have h1 := hmin k w hk hw
      obtain ⟨a1, ha1, j, hj, hjl⟩ := hli.2 (by omega)
      have h2 := hqm (j + 1) a1.lo (by omega) (Walk.succ.2 ⟨a1, ha1, rfl, hj⟩)
      obtain ⟨w2, hw2, hw3⟩ := hq.walk
      have h3 := hmin _ _ hw2 hw3
      simp only [List.length_cons] at h2 h3
      exact hno a (hi a (by simp)) r hq (by omega)
end Go.Proofs.YtcghlfepfcagbaaGreat
namespace Go.Jog
open Go

def hAt (l : List Nat) (k : Nat) : Nat := l.getD k 0
theorem hAt_get {l : List Nat} {k x : Nat} (h : l[k]? = some x) : hAt l k = x := by simp [hAt, List.getD_eq_getElem?_getD, h]
theorem get_hAt {l : List Nat} {k : Nat} (h : k < l.length) : l[k]? = some (hAt l k) := by
  rw [List.getElem?_eq_getElem h, hAt_get (List.getElem?_eq_getElem h)]
def swapL (l : List Nat) (i j : Nat) : List Nat := (l.set i (hAt l j)).set j (hAt l i)
theorem swapL_length {l : List Nat} {i j : Nat} : (swapL l i j).length = l.length := by simp [swapL]
theorem hAt_swap {l : List Nat} {i j k : Nat} (hi : i < l.length) (hj : j < l.length) : hAt (swapL l i j) k = if k = j then hAt l i else if k = i then hAt l j else hAt l k := by
  unfold swapL hAt
  simp only [List.getD_eq_getElem?_getD, List.getElem?_set]
  by_cases h1 : j = k
  · subst h1; simp [hj]
  · by_cases h2 : i = k
    · subst h2; simp [h1, Ne.symm h1, hi]
    · simp [h1, h2, Ne.symm h1, Ne.symm h2]
/-- The first n are a heap but for what is above j. -/
def UpH (l : List Nat) (j : Nat) : Prop :=
  (∀ k, 1 ≤ k → k < l.length → k ≠ j → hAt l ((k - 1) / 2) ≤ hAt l k) ∧ (1 ≤ j → ∀ k, 1 ≤ k → k < l.length → (k - 1) / 2 = j → hAt l ((j - 1) / 2) ≤ hAt l k)
def HeapN (n : Nat) (l : List Nat) : Prop := ∀ k, 1 ≤ k → k < n → hAt l ((k - 1) / 2) ≤ hAt l k
theorem UpH.snoc {l : List Nat} {x : Nat} (h : HeapN l.length l) : UpH (l ++ [x]) l.length := by
  have e : ∀ k, k < l.length → hAt (l ++ [x]) k = hAt l k := fun k hk => by
    simp [hAt, List.getD_eq_getElem?_getD, List.getElem?_append_left hk]
  refine ⟨fun k h1 h2 h3 => ?_, fun h0 k h1 h2 h3 => ?_⟩
  · simp only [List.length_append, List.length_singleton] at h2
    rw [e k (by omega), e _ (by omega)]
    exact h k h1 (by omega)
  · simp only [List.length_append, List.length_singleton] at h2
    omega
theorem UpH.done {l : List Nat} {j : Nat} (h : UpH l j) (hle : hAt l ((j - 1) / 2) ≤ hAt l j) : HeapN l.length l := fun k h1 h2 => by
  by_cases e : k = j
  · subst e; exact hle
  · exact h.1 k h1 h2 e
theorem UpH.step {l : List Nat} {j : Nat} (h : UpH l j) (hj0 : 1 ≤ j) (hj : j < l.length) (hlt : hAt l j < hAt l ((j - 1) / 2)) : UpH (swapL l ((j - 1) / 2) j) ((j - 1) / 2) := by
  have hi : (j - 1) / 2 < l.length := by omega
  refine ⟨fun k h1 h2 h3 => ?_, fun h0 k h1 h2 h3 => ?_⟩
  · rw [swapL_length] at h2
    rw [hAt_swap hi hj, hAt_swap hi hj]
    by_cases e : k = j
    · subst e
      rw [if_pos rfl]
      by_cases e2 : (k - 1) / 2 = k
      · omega
      · rw [if_neg e2, if_pos rfl]; omega
    · rw [if_neg e, if_neg h3]
      by_cases e2 : (k - 1) / 2 = j
      · rw [if_pos e2]; exact h.2 hj0 k h1 h2 e2
      · rw [if_neg e2]
        by_cases e3 : (k - 1) / 2 = (j - 1) / 2
        · rw [if_pos e3]
          have := h.1 k h1 h2 e
          rw [e3] at this; omega
        · rw [if_neg e3]; exact h.1 k h1 h2 e
  · rw [swapL_length] at h2
    have hp := h.1 ((j - 1) / 2) h0 hi (by omega)
    rw [hAt_swap hi hj, hAt_swap hi hj, if_neg (by omega : ¬ ((j - 1) / 2 - 1) / 2 = j), if_neg (by omega : ¬ ((j - 1) / 2 - 1) / 2 = (j - 1) / 2)]
    by_cases e : k = j
    · subst e; rw [if_pos rfl]; exact hp
    · rw [if_neg e, if_neg (by omega : ¬ k = (j - 1) / 2)]
      have := h.1 k h1 h2 e
      rw [h3] at this; omega

/-- The first n are a heap but for what is below i. -/
def DownH (n : Nat) (l : List Nat) (i : Nat) : Prop :=
  (∀ k, 1 ≤ k → k < n → (k - 1) / 2 ≠ i → hAt l ((k - 1) / 2) ≤ hAt l k) ∧ (1 ≤ i → ∀ k, 1 ≤ k → k < n → (k - 1) / 2 = i → hAt l ((i - 1) / 2) ≤ hAt l k)
theorem DownH.done {n : Nat} {l : List Nat} {i : Nat} (h : DownH n l i) (hle : ∀ k, 1 ≤ k → k < n → (k - 1) / 2 = i → hAt l i ≤ hAt l k) : HeapN n l := fun k h1 h2 => by
  by_cases e : (k - 1) / 2 = i
  · rw [e]; exact hle k h1 h2 e
  · exact h.1 k h1 h2 e
theorem DownH.step {n : Nat} {l : List Nat} {i j : Nat} (h : DownH n l i) (hn : n ≤ l.length) (hj1 : 1 ≤ j) (hj : j < n) (hij : (j - 1) / 2 = i) (hlt : hAt l j < hAt l i) (hmin : ∀ k, 1 ≤ k → k < n → (k - 1) / 2 = i → hAt l j ≤ hAt l k) : DownH n (swapL l i j) j := by
  have hi : i < l.length := by omega
  have hjl : j < l.length := by omega
  refine ⟨fun k h1 h2 h3 => ?_, fun h0 k h1 h2 h3 => ?_⟩
  · rw [hAt_swap hi hjl, hAt_swap hi hjl, if_neg h3]
    by_cases e : k = j
    · subst e
      rw [if_pos rfl, hij, if_pos rfl]; omega
    · rw [if_neg e]
      by_cases e2 : (k - 1) / 2 = i
      · rw [if_pos e2, if_neg (by omega : ¬ k = i)]; exact hmin k h1 h2 e2
      · rw [if_neg e2]
        by_cases e3 : k = i
        · rw [if_pos e3]; subst e3; exact h.2 h1 j hj1 hj hij
        · rw [if_neg e3]; exact h.1 k h1 h2 e2
  · rw [hAt_swap hi hjl, hAt_swap hi hjl, hij, if_neg (by omega : ¬ i = j), if_pos rfl, if_neg (by omega : ¬ k = j), if_neg (by omega : ¬ k = i)]
    have := h.1 k h1 h2 (by omega)
    rw [h3] at this; exact this

/-- Least on top. -/
theorem HeapN.top {n : Nat} {l : List Nat} (h : HeapN n l) : ∀ k, k < n → hAt l 0 ≤ hAt l k := by
  intro k
  induction k using Nat.strongRecOn with
  | _ k ih =>
    intro hk
    rcases Nat.eq_zero_or_pos k with e | e
    · subst e; exact Nat.le_refl _
    · exact Nat.le_trans (ih ((k - 1) / 2) (by omega) (by omega)) (h k e hk)

end Go.Jog
namespace Go.Jog
open Go


section
variable {cx : Cx} {n : Nat} {ds : List (Option Nat)} {R : Rg n ds} {its : List It} {fr : Fr} {C : Mem} {L : List Ent} {i k d : Nat} {o : Oper} {g : GL} {v : Value}
end

section
variable {cx : Cx} {n : Nat} {ds : List (Option Nat)} {R : Rg n ds} {its : List It} {fr : Fr} {C : Mem} {L : List Ent} {i k d : Nat} {o : Oper} {g : GL} {v : Value}
end

section
variable {F : Fx} {k : List KI} {fr : Fr} {C : Mem} {L : List Ent}
/-- A row of the function's own is cut shorter. -/
theorem G.shrink {e : Exit} (j m : Nat) {t s len g0 n c : Nat} {xs : List Value} (hj : L[j]? = some (.arr (.slice (some ⟨g0, 0, none⟩) n c) t s len xs)) (hm : m ≤ len)
    (h : G F k e fr C (.arr (.slice (some ⟨g0, 0, none⟩) m c) t s m (xs.take (m * s)) :: L.eraseIdx j)) : G F k e fr C L := fun h0 a w ha hw => by
  refine h h0 a w ha ?_
  have hw' := St.perm hw (ent_perm hj)
  have hown : w.ownsRow 0 t s (.slice (some ⟨g0, 0, none⟩) n c) len xs := hw'.sep.e _ (List.mem_cons_self ..)
  obtain ⟨rfl, hlc, hcm, cur, hb, hcs, htake⟩ := ownsRow_block hown
  have hxl : xs.length = n * s := hown.1
  have hms : m * s ≤ n * s := Nat.mul_le_mul_right _ hm
  have hnew : w.ownsRow 0 t s (.slice (some ⟨g0, 0, none⟩) m c) m (xs.take (m * s)) :=
    ⟨by rw [List.length_take]; omega, .inr ⟨g0, c, cur, rfl, Nat.zero_le _, hb, Nat.le_trans hm hlc, hcm, hcs, by rw [← htake, List.take_take, Nat.min_eq_left hms]⟩⟩
  exact St.turn hw' hnew ⟨rfl, rfl, rfl, Nat.le_refl _, fun _ _ _ => rfl⟩ (Nat.le_refl _) (.inl rfl)
/-- A row that is not empty has its own block. -/
theorem G.rowForm {e : Exit} (j : Nat) {v : Value} {t s m : Nat} {xs : List Value} (hj : L[j]? = some (.arr v t s (m + 1) xs)) (h : ∀ g c, v = .slice (some ⟨g, 0, none⟩) (m + 1) c → G F k e fr C L) : G F k e fr C L := fun h0 a w ha hw => by
  have hw' := St.perm hw (ent_perm hj)
  have hown : w.ownsRow 0 t s v (m + 1) xs := hw'.sep.e _ (List.mem_cons_self ..)
  rcases hown.2 with ⟨_, h1⟩ | ⟨g, cap, cur, h1, _⟩
  · omega
  · exact h g cap h1 h0 a w ha hw
theorem G.rowSlice {e : Exit} (j : Nat) {v : Value} {t s m : Nat} {xs : List Value} (hj : L[j]? = some (.arr v t s m xs)) (h : ∀ A c, v = .slice A m c → G F k e fr C L) : G F k e fr C L := fun h0 a w ha hw => by
  have hw' := St.perm hw (ent_perm hj)
  have hown : w.ownsRow 0 t s v m xs := hw'.sep.e _ (List.mem_cons_self ..)
  rcases hown.2 with ⟨h1, h2⟩ | ⟨g, cap, cur, h1, _⟩
  · subst h2; exact h _ _ h1 h0 a w ha hw
  · exact h _ _ h1 h0 a w ha hw
end
end Go.Jog
namespace Go.Proofs.YtcghlfepfcagbaaGreat
open Go Go.Jog
set_option maxRecDepth 100000

abbrev qS (g c n : Nat) : Value := .slice (some ⟨g, 0, none⟩) n c
theorem nats_at {l : List Nat} {u : Nat} (h : u < l.length) : ((l.map intN).drop u).take 1 = [intN (hAt l u)] := by
  have h1 : (l.map intN)[u]? = some (intN (hAt l u)) := by rw [List.getElem?_map, get_hAt h]; rfl
  obtain ⟨h2, h3⟩ := List.getElem?_eq_some_iff.1 h1
  rw [List.drop_eq_getElem_cons h2, h3]; rfl
end Go.Proofs.YtcghlfepfcagbaaGreat
namespace Go.Proofs.YtcghlfepfcagbaaGreat
open Go Go.Jog
set_option maxRecDepth 100000

end Go.Proofs.YtcghlfepfcagbaaGreat
namespace Go.Proofs.YtcghlfepfcagbaaGreat
open Go Go.Jog
set_option maxRecDepth 100000

theorem hAt_set {l : List Nat} {u v x : Nat} (h : u < l.length) : hAt (l.set u x) v = if v = u then x else hAt l v := by
  unfold hAt
  simp only [List.getD_eq_getElem?_getD, List.getElem?_set]
  by_cases e : u = v
  · subst e; simp [h]
  · rw [if_neg e, if_neg (Ne.symm e)]
end Go.Proofs.YtcghlfepfcagbaaGreat
namespace Go.Proofs.YtcghlfepfcagbaaGreat
open Go Go.Jog
set_option maxRecDepth 100000

def upC (T : List Arc3) (u : Nat) : Nat := T.countP fun a => decide (a.up = u)
theorem upC_snoc {T : List Arc3} {a : Arc3} {u : Nat} : upC (T ++ [a]) u = upC T u + (if a.up = u then 1 else 0) := by
  unfold upC
  rw [List.countP_append, List.countP_cons, List.countP_nil, Nat.zero_add]
  simp
structure Inner (A : List Arc3) (n : Nat) (dn l2 : List Nat) (T : List Arc3) (cs l3 : List Nat) : Prop where
  cl : cs.length = n
  ct : ∀ u, u < n → hAt cs u + upC T u = cnt A dn u
  nd : l3.Nodup
  mem : ∀ u, u ∈ l3 ↔ u ∈ l2 ∨ (u < n ∧ hAt cs u = 0 ∧ 0 < cnt A dn u)
theorem Inner.start {A : List Arc3} {n : Nat} {dn l2 cs : List Nat} (hc : cs.length = n) (h : ∀ u, u < n → hAt cs u = cnt A dn u) (hn : l2.Nodup) : Inner A n dn l2 [] cs l2 :=
  ⟨hc, fun u hu => by rw [h u hu]; simp [upC], hn, fun u => ⟨.inl, fun h2 => h2.elim id (fun ⟨h3, h4, h5⟩ => by rw [h u h3] at h4; omega)⟩⟩
theorem Inner.pos {A : List Arc3} {n i k : Nat} {dn l2 cs l3 : List Nat} {a : Arc3} (h : Inner A n dn l2 ((nexts A i).take k) cs l3) (ha : (nexts A i)[k]? = some a) (hi : i ∉ dn) (hn : a.up < n) : 1 ≤ hAt cs a.up := by
  have h1 := h.ct a.up hn
  have h2 := cnt_snoc (A := A) (u := a.up) hi
  have h3 : upC ((nexts A i).take (k + 1)) a.up ≤ upC (nexts A i) a.up := (List.take_sublist _ _).countP_le
  rw [List.take_add_one, ha] at h3
  have h4 := upC_snoc (T := (nexts A i).take k) (a := a) (u := a.up)
  rw [if_pos rfl] at h4
  have h5 : upC ((nexts A i).take k ++ (some a).toList) a.up = upC ((nexts A i).take k) a.up + 1 := h4
  rw [h5] at h3
  have h6 : (nexts A i).countP (fun b => decide (b.up = a.up)) = upC (nexts A i) a.up := rfl
  omega
theorem Inner.step {A : List Arc3} {n : Nat} {dn l2 cs l3 l4 : List Nat} {T : List Arc3} {a : Arc3} (h : Inner A n dn l2 T cs l3) (hn : a.up < n) (hp : 1 ≤ hAt cs a.up) (hz : ∀ u ∈ l2, cnt A dn u = 0)
    (hl : (hAt cs a.up ≠ 1 ∧ l4 = l3) ∨ (hAt cs a.up = 1 ∧ l4.Perm (a.up :: l3))) : Inner A n dn l2 (T ++ [a]) (cs.set a.up (hAt cs a.up - 1)) l4 := by
  have hcl := h.cl
  have hset : ∀ u, hAt (cs.set a.up (hAt cs a.up - 1)) u = if u = a.up then hAt cs a.up - 1 else hAt cs u := fun u => hAt_set (by omega)
  have hca := h.ct a.up hn
  have hnl : a.up ∉ l3 := fun hm => by
    rcases (h.mem a.up).1 hm with h1 | ⟨_, h1, _⟩
    · have := hz _ h1; omega
    · omega
  refine ⟨by simp [hcl], fun u hu => ?_, ?_, fun u => ?_⟩
  · rw [hset, upC_snoc]
    have := h.ct u hu
    by_cases e : u = a.up
    · subst e; rw [if_pos rfl, if_pos rfl]; omega
    · rw [if_neg e, if_neg (Ne.symm e)]; omega
  · rcases hl with ⟨_, rfl⟩ | ⟨_, hl⟩
    · exact h.nd
    · exact hl.nodup_iff.2 (List.nodup_cons.2 ⟨hnl, h.nd⟩)
  · rw [hset]
    rcases hl with ⟨h1, rfl⟩ | ⟨h1, hl⟩
    · rw [h.mem]
      by_cases e : u = a.up
      · subst e
        rw [if_pos rfl]
        constructor
        · rintro (h2 | ⟨_, h2, _⟩)
          · exact .inl h2
          · omega
        · rintro (h2 | ⟨_, h2, _⟩)
          · exact .inl h2
          · omega
      · rw [if_neg e]
    · rw [hl.mem_iff, List.mem_cons, h.mem]
      by_cases e : u = a.up
      · subst e
        rw [if_pos rfl]
        exact ⟨fun _ => .inr ⟨hn, by omega, by omega⟩, fun _ => .inl rfl⟩
      · rw [if_neg e]
        exact ⟨fun h2 => h2.elim (fun e2 => absurd e2 e) id, .inr⟩
theorem Inner.done {A : List Arc3} {n i : Nat} {dn l l2 cs l3 : List Nat} (h : Inner A n dn l2 (nexts A i) cs l3) (hk : Kahn A n dn l) (hp : (i :: l2).Perm l) (hmin : ∀ u ∈ l, i ≤ u) :
    Kahn A n (dn ++ [i]) l3 ∧ ∀ u, u < n → hAt cs u = cnt A (dn ++ [i]) u := by
  have hil : i ∈ l := hp.mem_iff.1 (by simp)
  obtain ⟨hin, hid, hic⟩ := (hk.av i).1 hil
  have hnd : (i :: l2).Nodup := hp.nodup_iff.2 hk.avnd
  rw [List.nodup_cons] at hnd
  have hcs : ∀ u, u < n → hAt cs u = cnt A (dn ++ [i]) u := fun u hu => by
    have h1 := h.ct u hu
    have h2 := cnt_snoc (A := A) (u := u) hid
    have h3 : (nexts A i).countP (fun b => decide (b.up = u)) = upC (nexts A i) u := rfl
    omega
  have hl2 : ∀ u, u ∈ l2 ↔ u ∈ l ∧ u ≠ i := fun u => by
    rw [← hp.mem_iff, List.mem_cons]
    constructor
    · intro h1; exact ⟨.inr h1, fun e => hnd.1 (e ▸ h1)⟩
    · rintro ⟨h1 | h1, h2⟩
      · exact absurd h1 h2
      · exact h1
  refine ⟨hk.step hil hmin h.nd (fun u => ?_), hcs⟩
  rw [h.mem, hl2, hk.av]
  simp only [List.mem_append, List.mem_singleton, not_or]
  have hsn := cnt_snoc (A := A) (u := u) hid
  constructor
  · rintro (⟨⟨h1, h2, h3⟩, h4⟩ | ⟨h1, h2, h3⟩)
    · exact ⟨h1, ⟨h2, h4⟩, by omega⟩
    · refine ⟨h1, ⟨fun hm => ?_, fun e => by subst e; omega⟩, by rw [← hcs u h1]; exact h2⟩
      obtain ⟨pre, post, rfl⟩ := List.append_of_mem hm
      have : cnt A (pre ++ u :: post) u = 0 := cnt_zero.2 (fun a ha hu => by
        have := hk.ord pre u post rfl a ha hu
        simp [this])
      omega
  · rintro ⟨h1, ⟨h2, h3⟩, h4⟩
    by_cases e : cnt A dn u = 0
    · exact .inl ⟨⟨h1, h2, e⟩, h3⟩
    · exact .inr ⟨h1, by rw [hcs u h1]; exact h4, by omega⟩
end Go.Proofs.YtcghlfepfcagbaaGreat
namespace Go.Proofs.YtcghlfepfcagbaaGreat
open Go Go.Jog
set_option maxRecDepth 100000

end Go.Proofs.YtcghlfepfcagbaaGreat
namespace Go.Proofs.YtcghlfepfcagbaaGreat
open Go Go.Jog
set_option maxRecDepth 100000

def nameAt (N : List Str) (i : Nat) : Str := N.getD i []
theorem nameAt_get {N : List Str} {i : Nat} (h : i < N.length) : N[i]? = some (nameAt N i) := by
  rw [List.getElem?_eq_getElem h]; simp [nameAt, List.getD_eq_getElem?_getD, List.getElem?_eq_getElem h]
/-- slices.Index at numbers. -/
def idxN (x : Nat) : List Nat → Nat → Int
  | [], _ => -1
  | y :: l, i => if x = y then (i : Int) else idxN x l (i + 1)
theorem idxN_miss {x : Nat} : ∀ {l : List Nat} {i : Nat}, x ∉ l → idxN x l i = -1
  | [], _, _ => rfl
  | y :: l, i, h => by
    simp only [List.mem_cons, not_or] at h
    rw [idxN, if_neg h.1]; exact idxN_miss h.2
theorem idxN_hit {x : Nat} : ∀ {l : List Nat} {i k : Nat}, l[k]? = some x → x ∉ l.take k → idxN x l i = ((i + k : Nat) : Int)
  | [], _, _, h, _ => by simp at h
  | y :: l, i, 0, h, _ => by
    simp at h
    rw [idxN, if_pos h.symm]; rfl
  | y :: l, i, k + 1, h, hn => by
    rw [List.take_succ_cons, List.mem_cons, not_or] at hn
    rw [idxN, if_neg hn.1, idxN_hit (k := k) (by simpa using h) hn.2]
    congr 1; omega
theorem idxN_mem {x : Nat} : ∀ {l : List Nat} {i : Nat}, x ∈ l → 0 ≤ idxN x l i
  | [], _, h => by cases h
  | y :: l, i, h => by
    rw [idxN]
    split
    · omega
    · rename_i e
      exact idxN_mem ((List.mem_cons.1 h).resolve_left e)
theorem index_fn (C : Mem) (v : Value) (l : List Nat) (x : Nat) (hv : Sl C 1 v (l.map encN)) (hl : l.length ≤ 1000000) : Gives cx.P 82 [v, .int .i64 x] C (.int .i64 (idxN x l 0)) := by
  obtain ⟨Av, cv, rfl, _⟩ := id hv
  simp only [List.length_map] at hv ⊢
  refine Fn.intro (by kernel_rfl) Tryz.func82 rfl 19 rfl rfl (fun w0 => ?_)
  refine G.region rfl (fun R hR => ?_)
  refine D.pure rfl rfl rfl rfl rfl rfl ?_
  refine D.done [(0, [], _), (1, [], _)] ⟨rfl, rfl, trivial⟩ (hR _ _ _ rfl ?_); clear hR R
  refine G.region rfl (fun R hR => ?_)
  iterate 3 refine D.pure rfl rfl rfl rfl rfl rfl ?_
  refine D.done [(0, [], _), (1, [], _), (7, [], _), (8, [], _)] ⟨rfl, rfl, rfl, rfl, trivial⟩ (hR _ _ _ rfl ?_); clear hR R
  refine G.loop (fun fr C' L' μ => ∃ (k : Nat), (k ≤ l.length ∧ x ∉ l.take k) ∧ fr = [(0, [], .slice Av l.length cv), (1, [], .int .i64 x), (7, [], .int .i64 l.length), (8, [], .int .i64 k)] ∧ L' = [] ∧ μ = l.length - k) (fr' := [(0, [], _), (1, [], _), (7, [], _), (8, [], _)]) ⟨rfl, rfl, rfl, rfl, trivial⟩ ⟨0, ⟨Nat.zero_le _, by simp⟩, rfl, rfl, rfl⟩ (fun fr C0' L0' m hle0 hI => ?_)
  obtain ⟨k, ⟨hk, hn⟩, rfl, rfl, rfl⟩ := hI
  refine G.region rfl (fun R hR => ?_)
  refine D.pure rfl rfl rfl rfl rfl rfl ?_
  refine D.done [(0, [], _), (1, [], _), (7, [], _), (8, [], _), (9, [], _)] ⟨rfl, rfl, rfl, rfl, rfl, trivial⟩ (hR _ _ _ rfl ?_); clear hR R
  refine G.cond rfl (fun h9 => ?_) (fun h9 => ?_)
  · skip
    simp only [decide_eq_true_eq] at h9
    have hkl : k < l.length := by omega
    obtain ⟨y, hy⟩ : ∃ y, l[k]? = some y := ⟨l[k], List.getElem?_eq_getElem hkl⟩
    have hry : (l.map encN)[k]? = some (encN y) := by rw [List.getElem?_map, hy]; rfl
    refine G.region rfl (fun R hR => ?_)
    iterate 2 refine D.pure rfl rfl rfl rfl rfl rfl ?_
    refine D.done [(0, [], _), (1, [], _), (5, [], _), (7, [], _), (8, [], _)] ⟨rfl, rfl, rfl, rfl, rfl, trivial⟩ (hR _ _ _ rfl ?_); clear hR R
    refine G.region rfl (fun R hR => ?_)
    iterate 3 refine D.pure rfl rfl rfl rfl rfl rfl ?_
    refine D.index0 (hv.mono (by (repeat (first | exact Mem.le.refl _ | assumption | (apply Mem.le.trans; rotate_left; assumption))))) rfl rfl rfl rfl rfl rfl rfl rfl rfl rfl (by omega) hry (fun _ => rfl) (fun p14 hp14 => ?_)
    refine D.loadP0 hp14 rfl rfl rfl rfl rfl rfl rfl rfl ?_
    refine D.pure rfl rfl rfl rfl rfl rfl ?_
    refine D.done [(0, [], _), (1, [], _), (5, [], _), (7, [], _), (8, [], _), (16, [], _)] ⟨rfl, rfl, rfl, rfl, rfl, rfl, trivial⟩ (hR _ _ _ rfl ?_); clear hR R
    refine G.cond rfl (fun h16 => ?_) (fun h16 => ?_)
    · skip
      have h16' : x = y := by
        have h : (x : Int) = y := by simpa using h16
        omega
      subst h16'
      refine G.region rfl (fun R hR => ?_)
      iterate 2 refine D.pure rfl rfl rfl rfl rfl rfl ?_
      refine D.done [(4, [], _)] ⟨rfl, trivial⟩ (hR _ _ _ rfl ?_); clear hR R
      refine G.retN (G.dropAll (G.fin1 rfl rfl ?_))
      refine ⟨?_, rfl⟩
      rw [idxN_hit hy hn, Nat.zero_add]
    · skip
      have h16' : ¬ x = y := fun e => by
        have : (false : Bool) = true := by rw [← h16]; simp [e]
        cases this
      refine G.region rfl (fun R hR => ?_)
      refine D.i64 _ rfl rfl rfl rfl rfl (by omega) (by omega) rfl rfl ?_
      refine D.pure rfl rfl rfl rfl rfl rfl ?_
      refine D.done [(0, [], _), (1, [], _), (7, [], _), (8, [], _)] ⟨rfl, rfl, rfl, rfl, trivial⟩ (hR _ _ _ rfl ?_); clear hR R
      refine G.again (m' := l.length - (k + 1)) (by omega) (by (repeat (first | exact Mem.le.refl _ | assumption | (apply Mem.le.trans; rotate_left; assumption)))) (fr' := [(0, [], _), (1, [], _), (7, [], _), (8, [], _)]) ⟨rfl, rfl, rfl, rfl, trivial⟩ ⟨k + 1, ⟨by omega, by rw [List.take_add_one, hy]; simp [hn, h16']⟩, rfl, rfl, rfl⟩
  · skip
    simp only [decide_eq_false_iff_not] at h9
    have hkl : k = l.length := by omega
    subst hkl
    rw [List.take_length] at hn
    refine G.region rfl (fun R hR => ?_)
    refine D.pure rfl rfl rfl rfl rfl rfl ?_
    refine D.done [(4, [], _)] ⟨rfl, trivial⟩ (hR _ _ _ rfl ?_); clear hR R
    refine G.retN (G.dropAll (G.fin1 rfl rfl ?_))
    refine ⟨?_, rfl⟩
    rw [idxN_miss hn]
theorem contains_fn (C : Mem) (v : Value) (l : List Nat) (x : Nat) (hv : Sl C 1 v (l.map encN)) (hl : l.length ≤ 1000000) : Gives cx.P 68 [v, .int .i64 x] C (.bool (decide (x ∈ l))) := by
  refine Fn.intro (by kernel_rfl) Tryz.func68 rfl 9 rfl rfl (fun w0 => ?_)
  refine G.region rfl (fun R hR => ?_)
  refine D.pure rfl rfl rfl rfl rfl rfl ?_
  refine D.done [(0, [], _), (1, [], _)] ⟨rfl, rfl, trivial⟩ (hR _ _ _ rfl ?_); clear hR R
  refine G.region rfl (fun R hR => ?_)
  iterate 2 refine D.pure rfl rfl rfl rfl rfl rfl ?_
  refine D.gives2 (index_fn _ v l x hv hl) rfl rfl rfl rfl rfl rfl rfl (fun _ => rfl) ?_
  iterate 2 refine D.pure rfl rfl rfl rfl rfl rfl ?_
  refine D.done [(4, [], _)] ⟨rfl, trivial⟩ (hR _ _ _ rfl ?_); clear hR R
  refine G.retN (G.dropAll (G.fin1 rfl rfl ?_))
  refine ⟨?_, rfl⟩
  by_cases h : x ∈ l
  · have := idxN_mem (i := 0) h
    simp [h, this]
  · rw [idxN_miss h]; simp [h]
end Go.Proofs.YtcghlfepfcagbaaGreat
namespace Go.Proofs.YtcghlfepfcagbaaGreat
open Go Go.Jog
set_option maxRecDepth 100000

def arcsOf (l : List Rel) : List Arc3 := arcs3 (unitsL l) l
theorem mem_arcAt {N : List Str} {l : List Rel} {i : Nat} {a : Arc3} : a ∈ arcAt N l i ↔ ∃ x, l[i]? = some x ∧ x.kind ≠ 4 ∧ a = ⟨i, posS N x.lower, posS N x.upper⟩ := by
  unfold arcAt
  cases h : l[i]? with
  | none => simp
  | some x => simp [mem_oneIf]
theorem mem_arcs3 {N : List Str} {l : List Rel} {a : Arc3} : a ∈ arcs3 N l ↔ ∃ x, l[a.i]? = some x ∧ x.kind ≠ 4 ∧ a = ⟨a.i, posS N x.lower, posS N x.upper⟩ := by
  unfold arcs3
  rw [mem_cat]
  constructor
  · rintro ⟨i, _, h⟩
    obtain ⟨x, h1, h2, rfl⟩ := mem_arcAt.1 h
    exact ⟨x, h1, h2, rfl⟩
  · rintro ⟨x, h1, h2, h3⟩
    exact ⟨a.i, (List.getElem?_eq_some_iff.1 h1).1, mem_arcAt.2 ⟨x, h1, h2, h3⟩⟩
theorem arcs3_ix {N : List Str} {l : List Rel} : Ix (arcs3 N l) := by
  refine cat_pairwise (fun i _ => ?_) (fun i j hij _ x hx y hy => ?_)
  · unfold arcAt
    split
    · unfold oneIf; split <;> simp
    · exact List.Pairwise.nil
  · obtain ⟨_, _, _, rfl⟩ := mem_arcAt.1 hx
    obtain ⟨_, _, _, rfl⟩ := mem_arcAt.1 hy
    exact hij
theorem gok_of {l : List Rel} (hl : l.length ≤ 100000) : GOk (unitsL l) (arcsOf l) := by
  refine ⟨fun a ha => ?_, arcs3_ix, ?_, ?_, fun a ha => ?_⟩
  · obtain ⟨x, h1, h2, h3⟩ := mem_arcs3.1 ha
    have hm := mem_units (List.mem_of_getElem? h1)
    rw [h3]
    exact ⟨posS_lt hm.1, posS_lt hm.2⟩
  · have := arcAt_len (unitsL l) l l.length
    have e : (arcsOf l).length = (cat (arcAt (unitsL l) l) l.length).length := rfl
    omega
  · have := unitsL_len l; omega
  · obtain ⟨x, h1, _⟩ := mem_arcs3.1 ha
    have := (List.getElem?_eq_some_iff.1 h1).1
    omega
theorem errU_len {l : List Rel} (h : errU l = 0) : l.length ≤ 200 := by
  unfold errU at h
  split at h
  · cases h
  · omega
theorem errU_names {l : List Rel} (h : errU l = 0) : (unitsL l).length ≤ 60 := by
  unfold errU at h
  split at h
  · cases h
  · split at h
    · rename_i h1 h2; exact absurd h h2
    · split at h
      · cases h
      · omega
theorem cycOut_form {C : Mem} {A : List Arc3} {u : Value} (h : CycOut C A u) : ∃ A' n c, u = .slice A' n c := by
  rcases h with ⟨h, _⟩ | ⟨q, ad, n, c, _, h, _⟩
  · exact ⟨_, _, _, h⟩
  · exact ⟨_, _, _, h⟩

def nilV : Value := .slice none 0 0
def CycRes (C : Mem) (l : List Rel) (r : Value) : Prop :=
  (errU l ≠ 0 ∧ r = .tuple #[nilV, .bool false, .int .i64 (errU l)]) ∨ (errU l = 0 ∧ Acyc (arcsOf l) ∧ r = .tuple #[nilV, .bool false, .int .i64 0]) ∨
  (errU l = 0 ∧ ∃ q v, LeastCyc (arcsOf l) q ∧ r = .tuple #[v, .bool true, .int .i64 0] ∧ Sl C 1 v ((nums q).map encN))
theorem cycle_fn (C : Mem) (v : Value) (l : List Rel) (hv : Sl C 3 v (l.map Rel.enc)) (hl : l.length ≤ 100000) (hsh : ∀ x ∈ l, x.short) : Pur cx.P 15 [v] C fun r C' => CycRes C' l r := by
  refine Fn.intro (by kernel_rfl) Tryz.func15 rfl 18 rfl rfl (fun w0 => ?_)
  refine G.region rfl (fun R hR => ?_)
  iterate 3 refine D.pure rfl rfl rfl rfl rfl rfl ?_
  refine D.done [(0, [], _)] ⟨rfl, trivial⟩ (hR _ _ _ rfl ?_); clear hR R
  refine G.region rfl (fun R hR => ?_)
  refine D.pure rfl rfl rfl rfl rfl rfl ?_
  refine D.gives2 (check_fn _ _ l hv hl hsh) rfl rfl rfl rfl rfl rfl rfl (fun _ => rfl) ?_
  refine D.pure rfl rfl rfl rfl rfl rfl ?_
  refine D.done [(0, [], _), (5, [], _)] ⟨rfl, rfl, trivial⟩ (hR _ _ _ rfl ?_); clear hR R
  refine G.region rfl (fun R hR => ?_)
  iterate 2 refine D.pure rfl rfl rfl rfl rfl rfl ?_
  refine D.done [(0, [], _), (5, [], _), (10, [], _)] ⟨rfl, rfl, rfl, trivial⟩ (hR _ _ _ rfl ?_); clear hR R
  refine G.cond rfl (fun h10 => ?_) (fun h10 => ?_)
  · skip
    have h10' : errU l ≠ 0 := by simpa using h10
    refine G.region rfl (fun R hR => ?_)
    iterate 4 refine D.pure rfl rfl rfl rfl rfl rfl ?_
    refine D.done [(2, [], _), (3, [], _), (4, [], _)] ⟨rfl, rfl, rfl, trivial⟩ (hR _ _ _ rfl ?_); clear hR R
    refine G.retN (G.dropAll (G.fin3 rfl rfl rfl rfl ?_))
    exact ⟨rfl, .inl ⟨h10', rfl⟩⟩
  · skip
    have h10' : errU l = 0 := by simpa using h10
    refine G.region rfl (fun R hR => ?_)
    refine D.pure rfl rfl rfl rfl rfl rfl ?_
    refine D.callP (build_fn _ _ l (hv.mono (by (repeat (first | exact Mem.le.refl _ | assumption | (apply Mem.le.trans; rotate_left; assumption))))) hl) rfl rfl rfl rfl rfl rfl rfl (fun _ => rfl) (fun v13 C13 hle13 hq13 => ?_)
    refine D.callP (gcycle_fn _ _ _ _ hq13 (gok_of hl)) rfl rfl rfl rfl rfl rfl rfl (fun _ => rfl) (fun v14 C14 hle14 hq14 => ?_)
    obtain ⟨Ac, nc, cc, rfl⟩ := cycOut_form hq14
    refine D.pure rfl rfl rfl rfl rfl rfl ?_
    refine D.done [(6, [], _)] ⟨rfl, trivial⟩ (hR _ _ _ rfl ?_); clear hR R
    refine G.region rfl (fun R hR => ?_)
    iterate 2 refine D.pure rfl rfl rfl rfl rfl rfl ?_
    refine D.nilNe rfl rfl rfl rfl rfl rfl rfl rfl rfl ?_
    iterate 3 refine D.pure rfl rfl rfl rfl rfl rfl ?_
    refine D.done [(2, [], _), (3, [], _), (4, [], _)] ⟨rfl, rfl, rfl, trivial⟩ (hR _ _ _ rfl ?_); clear hR R
    refine G.retN (G.dropAll (G.fin3 rfl rfl rfl rfl ?_))
    refine ⟨rfl, .inr ?_⟩
    rcases hq14 with ⟨h, hac⟩ | ⟨q, ad, n, c, hlc, h, hs⟩
    · cases h
      exact .inl ⟨h10', hac, rfl⟩
    · cases h
      exact .inr ⟨h10', q, _, hlc, rfl, hs⟩

def Back (A : List Arc3) : Prop := ∃ k w, 0 < k ∧ Walk A k w w
end Go.Proofs.YtcghlfepfcagbaaGreat
namespace Go.Proofs.YtcghlfepfcagbaaGreat
open Go Go.Jog
set_option maxRecDepth 100000

theorem Sl.pre {C : Mem} {k : Nat} {A : Option Addr} {len cap : Nat} {xs : List (List Value)} (hs : Sl C k (.slice A len cap) xs) {h : Nat} (hh : h ≤ xs.length) (hc : h ≤ cap) :
    Sl C k (.slice (if cap = 0 then A else A.map (·.add (0 * k))) (h - 0) (cap - 0)) (xs.take h) := by
  have := Sl.sub hs (l := 0) (h := h) (m := cap) (Nat.zero_le _) hh hc (Nat.le_refl _)
  rw [List.drop_zero] at this
  exact this
end Go.Proofs.YtcghlfepfcagbaaGreat
namespace Go.Jog
open Go
section
variable {cx : Cx} {n : Nat} {ds : List (Option Nat)} {R : Rg n ds} {its : List It} {fr : Fr} {C : Mem} {L : List Ent} {i k d : Nat} {o : Oper} {g : GL} {v : Value}
theorem D.appendO (off : Nat) {t e j m cap g0 q z : Nat} {x y : Operand} {ti te : TI} {p new : Value} {a0 : Addr} {xs : List Value} (hk : k = 3) (hd : o.dst = some d) (hg : gOn ds fr o.guard = true)
    (hop : o.op = .call ⟨.builtin .append, #[x, y], #[t, t]⟩) (ht : cx.T.get t = some ti) (hte : ti.k = .slice e) (he : cx.T.get e = some te) (hs1 : te.size = 1)
    (hx : ev fr [] x = some (.slice (some a0) q z)) (hy : ev fr [] y = some p) (hm : L[j]? = some (.arr (.slice (some ⟨g0, 0, none⟩) m cap) e 1 m xs)) (hq : q = m - off) (hz : z = cap - off) (ho : off ≤ m) (ha : off < cap → a0 = ⟨g0, off, none⟩)
    (hsl : Sl C 1 p [[new]]) (h1 : oneB new = true)
    (h63 : m + 1 ≤ maxLen) (hbytes : (m + 1) * te.bytes ≤ 140737488355328) (hp : ∀ v, okPut n ds ((d, [], v) :: fr) d = true)
    (h : ∀ g' o' c' xs', o' < xs'.length → xs'.length ≤ c' → xs'.length ≤ m + 1 → xs'.drop o' = xs.drop off ++ [new] → D cx R its ((d, [], .slice (some ⟨g', o', none⟩) (xs'.length - o') (c' - o')) :: fr) C (.arr (.slice (some ⟨g', 0, none⟩) xs'.length c') e 1 xs'.length xs' :: L.eraseIdx j)) : D cx R ((i, k, o) :: its) fr C L := by
  have hu : cx.P.underlying t = some (.slice e) := by
    obtain ⟨kk, s1, b1, z1, g1⟩ := ti
    simp only at hte
    subst hte
    exact und_slice cx.hT ht
  obtain ⟨inf, hi, hsize, hby, hz0, hzc⟩ := (tab_ok cx.hT he).info
  have hsz1 : inf.size = 1 := by rw [hsize, hs1]
  obtain ⟨B, c, hpv, hlc, hcm, hrl, hcells⟩ := hsl
  obtain ⟨ad, hB, hsp, hnc⟩ := hcells 0 [new] rfl
  subst hB
  have hpv : p = .slice (some ad) 1 c := hpv
  refine D.eff (S := fun v' C' L' => C' = C ∧ ∃ g' o' c' xs', v' = .slice (some ⟨g', o', none⟩) (xs'.length - o') (c' - o') ∧ o' < xs'.length ∧ xs'.length ≤ c' ∧ xs'.length ≤ m + 1 ∧ xs'.drop o' = xs.drop off ++ [new] ∧ L' = .arr (.slice (some ⟨g', 0, none⟩) xs'.length c') e 1 xs'.length xs' :: L.eraseIdx j)
    (by subst hk; rfl) hd hg hp (fun a hs w _ hw => ?_) (fun v' C' L' _ ⟨e1, g', o', c', xs', e2, e3, e4, e5, e7, e6⟩ => by subst e1; subst e2; subst e6; exact h g' o' c' xs' e3 e4 e5 e7)
  have hw' := St.perm hw (ent_perm hm)
  have hown : w.ownsRow 0 e 1 (.slice (some ⟨g0, 0, none⟩) m cap) m xs := hw'.sep.e _ (List.mem_cons_self ..)
  obtain ⟨_, hlm, hcm2, cur, hb, hcs, htake⟩ := ownsRow_block hown
  have hxl : xs.length = m := by have := hown.1; omega
  have hnews : ∀ (jj : Nat) (u : Value), [new][jj]? = some u → w.cell? (ad.add jj) = some u := fun jj u hj => by
    have := hnc jj u hj
    simp only [Nat.zero_mul, Nat.zero_add] at this
    exact this.cell hw.sep
  have h1' : ∀ u ∈ [new], u.oneCell' = true := fun u hu => by rw [List.mem_singleton.1 hu]; exact oneB_spec h1
  have hl1 : [new].length = 1 * inf.size := by rw [hsz1]; rfl
  have hwrap : ∀ {r : Value} {w' : World}, (Builtin.append_ #[t, t] o.type #[.slice (some a0) q z, .slice (some ad) 1 c]).run cx.P w = .ok r w' → (execOp a.eval o).run cx.P w = .ok (.value r) w' := fun hr => append_wrap hop (by rw [hs _ _ hx, hs _ _ hy, hpv]; exact hr)
  subst hq
  subst hz
  by_cases hroom : m + 1 ≤ cap
  · have ha0 := ha (by omega)
    subst ha0
    have hf := run_firstCells_some (P := cx.P) w inf.size 1 ad 1 c [new] hl1 hnews
    have hst := run_storeCells_at cx.P g0 m e [new] 0 cur w hb (by simp [hcs]; omega) h1'
    simp only [Nat.add_zero] at hst
    have hroom2 : m - off + 1 ≤ cap - off := by omega
    have hr : (Builtin.append_ #[t, t] o.type #[.slice (some ⟨g0, off, none⟩) (m - off) (cap - off), .slice (some ad) 1 c]).run cx.P w = .ok (.slice (some ⟨g0, off, none⟩) (m - off + 1) (cap - off)) (w.setRow g0 (cur.toList.take m ++ [new] ++ cur.toList.drop (m + 1)).toArray) := by
      have hadd : (⟨g0, off, none⟩ : Addr).add ((m - off) * inf.size) = ⟨g0, m, none⟩ := by rw [hsz1, Addr.add_lit]; congr 1; omega
      simp only [List.length_singleton] at hst
      simp [Builtin.append_, run_underlying hu, sizeOf, typeInfo, hi, Builtin.lenOf, hroom2, hf, hadd, hst]
    have hr0 := run_append_own_at (P := cx.P) w 0 t o.type e inf te.zv te.size te.bytes hu hi hz0 hsize hby (tab_ok cx.hT he).zsize (by omega) (.slice (some ⟨g0, 0, none⟩) m cap) m xs (by rw [hs1]; exact hown) ad 1 c [new] (by rw [hs1]; rfl) hnews h1' h63 hbytes (Nat.zero_le _)
    obtain ⟨v', w', hr1, hr2, hr3, _, hr5⟩ := hr0
    have hr6 := run_append_room (P := cx.P) w t o.type e inf hu hi g0 m cap cur hb ad 1 c [new] hl1 hnews h1' hroom (by simp [hcs, hsz1]; omega)
    rw [hr6] at hr1
    simp only [Result.ok.injEq] at hr1
    obtain ⟨rfl, rfl⟩ := hr1
    have hw2 : (w.setRow g0 (cur.toList.take (m * inf.size) ++ [new] ++ cur.toList.drop (m * inf.size + [new].length)).toArray) = (w.setRow g0 (cur.toList.take m ++ [new] ++ cur.toList.drop (m + 1)).toArray) := by rw [hsz1, Nat.mul_one]; rfl
    rw [hw2, hs1] at hr2
    rw [hw2] at hr3
    unfold Oper.wp
    rw [hwrap hr]
    have hxl2 : (xs ++ [new]).length = m + 1 := by simp [hxl]
    refine ⟨_, C, .arr (.slice (some ⟨g0, 0, none⟩) (m + 1) cap) e 1 (m + 1) (xs ++ [new]) :: L.eraseIdx j, rfl, Mem.le.refl _, fun h2 => by omega, St.turn hw' hr2 hr3 (Nat.le_refl _) (.inl rfl), rfl, g0, off, cap, xs ++ [new], ?_, by omega, by omega, by omega, ?_, ?_⟩
    · rw [hxl2]; congr 1; omega
    · rw [List.drop_append_of_le_length (by omega)]
    · rw [hxl2]
  · have hold : ∀ (jj : Nat) (u : Value), (xs.drop off)[jj]? = some u → w.cell? (a0.add jj) = some u := fun jj u hj => by
      have hlt := (List.getElem?_eq_some_iff.1 hj).1
      rw [List.length_drop] at hlt
      have ha0 := ha (by omega)
      subst ha0
      rw [Addr.add_lit, cell_of_row w g0 _ cur e (0, 0) hb]
      rw [List.getElem?_drop, ← htake, List.getElem?_take] at hj
      split at hj
      · simpa using hj
      · cases hj
    have hgr := run_append_grow (P := cx.P) w t o.type e inf te.zv hu hi hz0 a0 (m - off) (cap - off) (xs.drop off) (by rw [hsz1, List.length_drop, hxl]; omega) hold ad 1 c [new] hl1 hnews (by omega) (by simp only [maxLen] at h63; omega)
      (by rw [hby]; exact growslice_fits (by omega) (Nat.le_trans (Nat.mul_le_mul_right _ (by omega)) hbytes))
    unfold Oper.wp
    rw [hwrap hgr]
    have hxl2 : (xs.drop off ++ [new]).length = m - off + 1 := by simp [hxl]
    have hge := grownCap_ge w (m - off + 1) (cap - off) e
    have hle := grownCap_le_maxLen w (m - off + 1) (cap - off) e (by omega)
    obtain ⟨G, hG⟩ : ∃ G, grownCap w (m - off + 1) (cap - off) e = G := ⟨_, rfl⟩
    rw [hG] at hge hle ⊢
    have hrow : (w.drew.alloc (.cells ((xs.drop off).toArray ++ [new].toArray ++ Builtin.zeroCells te.zv.cells (G - (m - off + 1))) e)).ownsRow 0 e 1 (.slice (some ⟨w.heap.size, 0, none⟩) (m - off + 1) G) (m - off + 1) (xs.drop off ++ [new]) := by
      refine ⟨by rw [hxl2, Nat.mul_one], .inr ⟨w.heap.size, G, _, rfl, Nat.zero_le _, heap_alloc_new w.drew _, hge, hle, ?_, ?_⟩⟩
      · have hzs := (tab_ok cx.hT he).zsize
        simp only [Array.size_append, size_zeroCells, hzs, hs1, List.size_toArray]
        rw [List.length_drop, hxl, List.length_singleton]; omega
      · rw [Nat.mul_one]
        simp only [Array.toList_append]
        rw [List.take_append_of_le_length (by rw [hxl2]; exact Nat.le_refl _), List.take_of_length_le (by rw [hxl2]; exact Nat.le_refl _)]
    refine ⟨_, C, .arr (.slice (some ⟨w.heap.size, 0, none⟩) (m - off + 1) G) e 1 (m - off + 1) (xs.drop off ++ [new]) :: L.eraseIdx j, rfl, Mem.le.refl _, fun h2 => by omega,
      St.turn hw' hrow ⟨rfl, rfl, rfl, by simp, fun q hq _ => heap_alloc_old w.drew _ hq⟩ (Nat.le_succ _) (.inr (.inl rfl)), rfl, w.heap.size, 0, G, xs.drop off ++ [new], ?_, by omega, by omega, by omega, rfl, ?_⟩
    · rw [hxl2]; rfl
    · rw [hxl2]
/-- x[1:] of a row whose front may have been cut off. -/
theorem D.sliceTail {t e g0 off len cap : Nat} {x : Operand} {ti te : TI} (hk : Nat.ble k 1 = true) (hd : o.dst = some d) (hop : o.op = .slice t x (some (.const (.int .i64 1))) none none)
    (hg : gOf ds fr o.guard = some g) (hx : ev fr g x = some (.slice (some ⟨g0, off, none⟩) len cap))
    (ht : cx.T.get t = some ti) (hte : ti.k = .slice e) (he : cx.T.get e = some te) (hsz : te.size = 1) (h1 : 1 ≤ len) (hc : len ≤ cap)
    (hp : ∀ v, okPut n ds ((d, g, v) :: fr) d = true) (hwf : wfG ds fr g = true)
    (h : ∀ a0 : Addr, (1 < cap → a0 = ⟨g0, off + 1, none⟩) → D cx R its ((d, g, .slice (some a0) (len - 1) (cap - 1)) :: fr) C L) : D cx R ((i, k, o) :: its) fr C L := by
  refine D.sliceV 1 len cap hk hd hop hg hx rfl rfl rfl ht hte he hsz (fun _ => ⟨.inr ⟨_, rfl⟩, .inl ⟨rfl, rfl⟩, .inl ⟨rfl, rfl⟩, h1, hc, Nat.le_refl _⟩) (hp _) hwf ?_
  by_cases e : cap = 1
  · rw [if_pos e]; exact h _ (fun h2 => by omega)
  · rw [if_neg e]
    exact h _ (fun _ => by rw [Nat.mul_one]; exact Addr.add_lit ..)
end
end Go.Jog
namespace Go.Proofs.YtcghlfepfcagbaaGreat
open Go Go.Jog
set_option maxRecDepth 100000

abbrev boolV (x : Bool) : Value := .bool x
def encB (x : Bool) : List Value := [.bool x]
def bAt (l : List Bool) (k : Nat) : Bool := l.getD k false
theorem bAt_get {l : List Bool} {k : Nat} {x : Bool} (h : l[k]? = some x) : bAt l k = x := by simp [bAt, List.getD_eq_getElem?_getD, h]
theorem get_bAt {l : List Bool} {k : Nat} (h : k < l.length) : l[k]? = some (bAt l k) := by
  rw [List.getElem?_eq_getElem h, bAt_get (List.getElem?_eq_getElem h)]
theorem bools_at {l : List Bool} {u : Nat} (h : u < l.length) : ((l.map boolV).drop u).take 1 = [boolV (bAt l u)] := by
  have h1 : (l.map boolV)[u]? = some (boolV (bAt l u)) := by rw [List.getElem?_map, get_bAt h]; rfl
  obtain ⟨h2, h3⟩ := List.getElem?_eq_some_iff.1 h1
  rw [List.drop_eq_getElem_cons h2, h3]; rfl
theorem bools_set {l : List Bool} {u : Nat} {x : Bool} (h : u < l.length) : storeInto (l.map boolV) [boolV x] u = (l.set u x).map boolV := by
  have := row_write (enc := fun v : Bool => [boolV v]) (s := 1) (fun _ => rfl) (l := l) (i := u) x h
  rw [flatten_map1 boolV, flatten_map1 boolV, Nat.mul_one] at this
  exact this
theorem bAt_set {l : List Bool} {u v : Nat} {x : Bool} (h : u < l.length) : bAt (l.set u x) v = if v = u then x else bAt l v := by
  unfold bAt
  simp only [List.getD_eq_getElem?_getD, List.getElem?_set]
  by_cases e : u = v
  · subst e; simp [h]
  · rw [if_neg e, if_neg (Ne.symm e)]
def unset (l : List Bool) : Nat := l.countP fun x => !x
theorem unset_set {l : List Bool} {u : Nat} (h : u < l.length) (hf : bAt l u = false) : unset (l.set u true) + 1 = unset l := by
  unfold unset
  have hg := get_bAt h
  rw [hf] at hg
  have : ∀ {d : List Bool} {u : Nat}, d[u]? = some false → (d.set u true).countP (fun x => !x) + 1 = d.countP (fun x => !x) := by
    intro d
    induction d with
    | nil => intro u h; simp at h
    | cons z d ih =>
      intro u h
      cases u with
      | zero => simp at h; subst h; simp
      | succ u =>
        have := ih (u := u) (by simpa using h)
        simp only [List.set_cons_succ, List.countP_cons]
        omega
  exact this hg

structure Bfs (A : List Arc3) (n f : Nat) (rs : List Bool) (qs : List Nat) (S : Nat → Prop) : Prop where
  len : rs.length = n
  sound : ∀ v, bAt rs v = true → ∃ m, 0 < m ∧ Walk A m f v
  que : ∀ q ∈ qs, q < n ∧ (q = f ∨ bAt rs q = true)
  done : ∀ v, (v = f ∨ bAt rs v = true) → v ∈ qs ∨ S v
theorem bfs_walk {A : List Arc3} {n f : Nat} {rs : List Bool} {qs : List Nat} {S : Nat → Prop} (h : Bfs A n f rs qs S) {a : Arc3} (ha : a ∈ A) (hl : a.lo = f ∨ bAt rs a.lo = true) : ∃ m, 0 < m ∧ Walk A m f a.up := by
  rcases hl with e | e
  · exact ⟨1, by omega, by rw [← e]; exact Walk.one ha⟩
  · obtain ⟨m, hm, hw⟩ := h.sound _ e
    exact ⟨m + 1, by omega, Walk.snoc.2 ⟨a, ha, rfl, hw⟩⟩
theorem Bfs.set {A : List Arc3} {n f : Nat} {rs : List Bool} {qs : List Nat} {S : Nat → Prop} (h : Bfs A n f rs qs S) {a : Arc3} (ha : a ∈ A) (hn : a.up < n) (hl : a.lo = f ∨ bAt rs a.lo = true) : Bfs A n f (rs.set a.up true) (qs ++ [a.up]) S := by
  have hlen := h.len
  have hset : ∀ v, bAt (rs.set a.up true) v = if v = a.up then true else bAt rs v := fun v => bAt_set (by omega)
  refine ⟨by simp [hlen], fun v hv => ?_, fun q hq => ?_, fun v hv => ?_⟩
  · rw [hset] at hv
    by_cases e : v = a.up
    · subst e; exact bfs_walk h ha hl
    · rw [if_neg e] at hv; exact h.sound v hv
  · rw [hset]
    rcases List.mem_append.1 hq with hq | hq
    · obtain ⟨h1, h2⟩ := h.que q hq
      refine ⟨h1, ?_⟩
      by_cases e : q = a.up
      · rw [if_pos e]; exact .inr rfl
      · rw [if_neg e]; exact h2
    · rw [List.mem_singleton.1 hq, if_pos rfl]; exact ⟨hn, .inr rfl⟩
  · rw [hset] at hv
    by_cases e : v = a.up
    · subst e; exact .inl (by simp)
    · rw [if_neg e] at hv
      exact (h.done v hv).elim (fun h1 => .inl (by simp [h1])) .inr
theorem Bfs.mono {A : List Arc3} {n f : Nat} {rs : List Bool} {qs : List Nat} {S T : Nat → Prop} (h : Bfs A n f rs qs S) (hs : ∀ v, (v = f ∨ bAt rs v = true) → S v → T v) : Bfs A n f rs qs T :=
  ⟨h.len, h.sound, h.que, fun v hv => (h.done v hv).elim .inl (fun h1 => .inr (hs v hv h1))⟩
/-- All arcs from a place are set. -/
def Out (A : List Arc3) (rs : List Bool) (v : Nat) : Prop := ∀ a ∈ A, a.lo = v → bAt rs a.up = true
def Reach (A : List Arc3) (u v : Nat) : Prop := ∃ m, 0 < m ∧ Walk A m u v
theorem Bfs.end {A : List Arc3} {n f : Nat} {rs : List Bool} (h : Bfs A n f rs [] (Out A rs)) : ∀ v, bAt rs v = true ↔ Reach A f v := by
  intro v
  refine ⟨h.sound v, fun ⟨m, hm, hw⟩ => ?_⟩
  have key : ∀ m v, Walk A (m + 1) f v → bAt rs v = true := by
    intro m
    induction m with
    | zero =>
      intro v hw
      obtain ⟨a, ha, hu, hw⟩ := Walk.snoc.1 hw
      have e := Walk.zero.1 hw
      have := (h.done f (.inl rfl)).resolve_left (by simp)
      rw [← hu]; exact this a ha e.symm
    | succ m ih =>
      intro v hw
      obtain ⟨a, ha, hu, hw⟩ := Walk.snoc.1 hw
      have := (h.done a.lo (.inr (ih _ hw))).resolve_left (by simp)
      rw [← hu]; exact this a ha rfl
  obtain ⟨q, rfl⟩ : ∃ q, m = q + 1 := ⟨m - 1, by omega⟩
  exact key q v hw
end Go.Proofs.YtcghlfepfcagbaaGreat
namespace Go.Proofs.YtcghlfepfcagbaaGreat
open Go Go.Jog
set_option maxRecDepth 100000

abbrev oS (a0 : Addr) (n c : Nat) : Value := .slice (some a0) n c
theorem bools_rep (n : Nat) : zrow [Value.bool false] n = (List.replicate n false).map boolV := by
  rw [zrow_rep, List.map_replicate]
theorem drop_cons {α : Type} {l : List α} {k : Nat} {x : α} {t : List α} (h : l.drop k = x :: t) : l[k]? = some x ∧ l.drop (k + 1) = t ∧ k < l.length := by
  have h1 : l[k]? = some x := by
    have : (l.drop k)[0]? = some x := by rw [h]; rfl
    rwa [List.getElem?_drop, Nat.add_zero] at this
  refine ⟨h1, ?_, (List.getElem?_eq_some_iff.1 h1).1⟩
  rw [← List.drop_drop, h]; rfl

theorem bAt_rep {n v : Nat} : bAt (List.replicate n false) v = false := by
  simp only [bAt, List.getD_eq_getElem?_getD, List.getElem?_replicate]
  split <;> rfl
theorem unset_rep {n : Nat} : unset (List.replicate n false) = n := by simp [unset, List.countP_replicate]
theorem bfs_start {A : List Arc3} {n f : Nat} (hf : f < n) {S : Nat → Prop} : Bfs A n f (List.replicate n false) [f] S :=
  ⟨List.length_replicate, fun v hv => (by rw [bAt_rep] at hv; cases hv), fun q hq => by rw [List.mem_singleton.1 hq]; exact ⟨hf, .inl rfl⟩, fun v hv => by
    rcases hv with e | e
    · exact .inl (by simp [e])
    · rw [bAt_rep] at e; cases e⟩
set_option maxHeartbeats 4000000 in
theorem reached_fn (C : Mem) (p : Value) (N : List Str) (A : List Arc3) (f : Nat) (hg : Graph C p N A) (hok : GOk N A) (hf : f < N.length) :
    Pur cx.P 74 [p, .int .i64 f] C fun u C' => ∃ rs, Sl C' 1 u (rs.map encB) ∧ rs.length = N.length ∧ ∀ v, bAt rs v = true ↔ Reach A f v := by
  have hgr := hg
  obtain ⟨b, bm, vn, va, vx, vs, hgp, hobj, hnames, hat, harcs, hnx, hlen, hrows⟩ := hg
  subst hgp
  obtain ⟨An, cn, rfl, _⟩ := id hnames
  obtain ⟨Ax, cxx, rfl, _⟩ := id hnx
  simp only [List.length_map] at hobj hnx hnames
  have hb := hok.below
  have hAl := hok.arcs
  have hNl := hok.names
  refine Fn.intro (by kernel_rfl) Tryz.func74 rfl 55 rfl rfl (fun w0 => ?_)
  refine G.region rfl (fun R hR => ?_)
  refine D.pure rfl rfl rfl rfl rfl rfl ?_
  refine D.done [(0, [], _), (1, [], _)] ⟨rfl, rfl, trivial⟩ (hR _ _ _ rfl ?_); clear hR R
  refine G.region rfl (fun R hR => ?_)
  iterate 3 refine D.pure rfl rfl rfl rfl rfl rfl ?_
  refine D.loadP0 (PtrTo.block (Mem.get hobj (by (repeat (first | exact Mem.le.refl _ | assumption | (apply Mem.le.trans; rotate_left; assumption))))) _) rfl rfl rfl rfl rfl rfl rfl rfl ?_
  refine D.pure rfl rfl rfl rfl rfl rfl ?_
  refine D.makeArr rfl rfl rfl rfl rfl rfl rfl rfl rfl (Nat.le_refl _) (by show 1 * N.length ≤ 281474976710656; omega) (by simp only [maxLen]; omega) (fun _ => rfl) (fun b15 => ?_)
  refine D.pure rfl rfl rfl rfl rfl rfl ?_
  refine D.done [(0, [], _), (1, [], _), (5, [], _)] ⟨rfl, rfl, rfl, trivial⟩ (hR _ _ _ rfl ?_); clear hR R
  refine G.region rfl (fun R hR => ?_)
  refine D.pure rfl rfl rfl rfl rfl rfl ?_
  refine D.buildArr [[.int .i64 f]] rfl rfl rfl rfl rfl rfl rfl rfl rfl rfl rfl rfl (fun _ => rfl) (fun b17 => ?_)
  refine D.pure rfl rfl rfl rfl rfl rfl ?_
  refine D.done [(0, [], _), (5, [], _), (6, [], _)] ⟨rfl, rfl, rfl, trivial⟩ (hR _ _ _ rfl ?_); clear hR R
  refine G.eqL (L' := [.arr (qS b17 1 1) 3 1 [intN f].length [intN f], .arr (qS b15 N.length N.length) 4 1 N.length ((List.replicate N.length false).map boolV)]) (by rw [← bools_rep]; rfl) ?_
  refine G.loop (fun fr C' L' μ => ∃ (g c off : Nat) (xv : List Value) (qs : List Nat) (rs : List Bool) (a0 : Addr), ((Bfs A N.length f rs qs (Out A rs) ∧ xv.drop off = qs.map intN ∧ off ≤ xv.length ∧ xv.length ≤ c) ∧ (off < c → a0 = ⟨g, off, none⟩) ∧ xv.length + unset rs ≤ N.length + 1) ∧ fr = [(0, [], .pointer (some ⟨b, 0, none⟩)), (5, [], qS b15 N.length N.length), (6, [], oS a0 (xv.length - off) (c - off))] ∧ L' = [.arr (qS g c xv.length) 3 1 xv.length xv, .arr (qS b15 N.length N.length) 4 1 N.length (rs.map boolV)] ∧ μ = 2 * unset rs + (xv.length - off)) (fr' := [(0, [], _), (5, [], _), (6, [], _)]) ⟨rfl, rfl, rfl, trivial⟩ ⟨b17, 1, 0, [intN f], [f], List.replicate N.length false, ⟨b17, 0, none⟩, ⟨⟨bfs_start hf, rfl, Nat.zero_le _, Nat.le_refl _⟩, fun _ => rfl, by rw [unset_rep, List.length_singleton]; omega⟩, rfl, rfl, rfl⟩ (fun fr C0' L0' m hle0 hI => ?_)
  obtain ⟨g, c, off, xv, qs, rs, a0, ⟨⟨hbf, hxq, hoff, hxc⟩, ha0, hbd⟩, rfl, rfl, rfl⟩ := hI
  refine G.region rfl (fun R hR => ?_)
  iterate 3 refine D.pure rfl rfl rfl rfl rfl rfl ?_
  refine D.done [(0, [], _), (5, [], _), (6, [], _), (20, [], _)] ⟨rfl, rfl, rfl, rfl, trivial⟩ (hR _ _ _ rfl ?_); clear hR R
  refine G.cond rfl (fun h20 => ?_) (fun h20 => ?_)
  · skip
    have h20' : 0 < xv.length - off := by
      have h : (0 : Int) < ((xv.length - off : Nat) : Int) := by simpa using h20
      omega
    obtain ⟨i, qs2, rfl⟩ : ∃ i qs2, qs = i :: qs2 := by
      cases qs with
      | nil =>
        have := congrArg List.length hxq
        simp at this; omega
      | cons i qs2 => exact ⟨i, qs2, rfl⟩
    obtain ⟨hx0, hx1, hx2⟩ := drop_cons (show xv.drop off = intN i :: qs2.map intN from hxq)
    obtain rfl := ha0 (by omega)
    obtain ⟨hin, hir⟩ := hbf.que i (by simp)
    obtain ⟨v, hv⟩ : ∃ v, vs[i]? = some v := ⟨vs[i]'(by omega), List.getElem?_eq_getElem (by omega)⟩
    have hvr := hrows i v hv
    obtain ⟨Av, cv, rfl, _⟩ := id hvr
    simp only [List.length_map] at hvr hv
    have hnl : (nexts A i).length ≤ A.length := List.length_filter_le _ _
    have hrv : (vs.map fun v => [v])[i]? = some [Value.slice Av (nexts A i).length cv] := by rw [List.getElem?_map, hv]; rfl
    have hld : (xv.drop off).take 1 = [intN i] := by rw [hxq]; rfl
    refine G.region rfl (fun R hR => ?_)
    refine D.pure rfl rfl rfl rfl rfl rfl ?_
    refine D.indexSo (off) rfl rfl rfl rfl rfl rfl rfl rfl rfl rfl (fun _ => ⟨by omega, by omega, (by simp)⟩) rfl rfl ?_
    refine D.loadArr (.head _) rfl rfl rfl rfl rfl rfl (fun _ => (by rw [hld]; rfl)) rfl rfl ?_
    refine D.pure rfl rfl rfl rfl rfl rfl ?_
    refine D.done [(0, [], _), (5, [], _), (6, [], _), (7, [], _)] ⟨rfl, rfl, rfl, rfl, trivial⟩ (hR _ _ _ rfl ?_); clear hR R
    refine G.region rfl (fun R hR => ?_)
    refine D.pure rfl rfl rfl rfl rfl rfl ?_
    refine D.sliceTail rfl rfl rfl rfl rfl rfl rfl rfl rfl (by omega) (by omega) (fun _ => rfl) rfl (fun a1 ha1 => ?_)
    refine D.pure rfl rfl rfl rfl rfl rfl ?_
    refine D.done [(0, [], _), (5, [], _), (6, [], _), (7, [], _)] ⟨rfl, rfl, rfl, rfl, trivial⟩ (hR _ _ _ rfl ?_); clear hR R
    refine G.region rfl (fun R hR => ?_)
    iterate 3 refine D.pure rfl rfl rfl rfl rfl rfl ?_
    refine D.loadP0 (PtrTo.block (Mem.get hobj (by (repeat (first | exact Mem.le.refl _ | assumption | (apply Mem.le.trans; rotate_left; assumption))))) _) rfl rfl rfl rfl rfl rfl rfl rfl ?_
    refine D.pure rfl rfl rfl rfl rfl rfl ?_
    refine D.index0 (hnx.mono (by (repeat (first | exact Mem.le.refl _ | assumption | (apply Mem.le.trans; rotate_left; assumption))))) rfl rfl rfl rfl rfl rfl rfl rfl rfl rfl (by omega) hrv (fun _ => rfl) (fun p31 hp31 => ?_)
    refine D.loadP0 hp31 rfl rfl rfl rfl rfl rfl rfl rfl ?_
    iterate 2 refine D.pure rfl rfl rfl rfl rfl rfl ?_
    refine D.done [(0, [], _), (5, [], _), (6, [], _), (32, [], _), (33, [], _), (34, [], _)] ⟨rfl, rfl, rfl, rfl, rfl, rfl, trivial⟩ (hR _ _ _ rfl ?_); clear hR R
    have hbf1 : Bfs A N.length f rs qs2 (fun v => v = i ∨ Out A rs v) := ⟨hbf.len, hbf.sound, fun q hq => hbf.que q (by simp [hq]), fun v hv => by
      rcases hbf.done v hv with h1 | h1
      · rcases List.mem_cons.1 h1 with h1 | h1
        · exact .inr (.inl h1)
        · exact .inl h1
      · exact .inr (.inr h1)⟩
    refine G.loop (fun fr C' L' μ => ∃ (k g c o2 : Nat) (xv2 : List Value) (qs3 : List Nat) (rs2 : List Bool) (a0 : Addr), ((k ≤ (nexts A i).length ∧ Bfs A N.length f rs2 qs3 (fun v => v = i ∨ Out A rs2 v) ∧ xv2.drop o2 = qs3.map intN ∧ o2 ≤ xv2.length ∧ xv2.length ≤ c) ∧ (o2 < c → a0 = ⟨g, o2, none⟩) ∧ xv2.length + unset rs2 ≤ N.length + 1 ∧ 2 * unset rs2 + (xv2.length - o2) + 1 ≤ 2 * unset rs + (xv.length - off) ∧ (i = f ∨ bAt rs2 i = true) ∧ ∀ a ∈ (nexts A i).take k, bAt rs2 a.up = true) ∧ fr = [(0, [], .pointer (some ⟨b, 0, none⟩)), (5, [], qS b15 N.length N.length), (6, [], oS a0 (xv2.length - o2) (c - o2)), (32, [], .slice Av (nexts A i).length cv), (33, [], .int .i64 (nexts A i).length), (34, [], .int .i64 k)] ∧ L' = [.arr (qS g c xv2.length) 3 1 xv2.length xv2, .arr (qS b15 N.length N.length) 4 1 N.length (rs2.map boolV)] ∧ μ = (nexts A i).length - k) (fr' := [(0, [], _), (5, [], _), (6, [], _), (32, [], _), (33, [], _), (34, [], _)]) ⟨rfl, rfl, rfl, rfl, rfl, rfl, trivial⟩ ⟨0, g, c, off + 1, xv, qs2, rs, a1, ⟨⟨Nat.zero_le _, hbf1, hx1, by omega, hxc⟩, fun h => ha1 (by omega), hbd, by omega, hir, fun a ha => by simp at ha⟩, rfl, rfl, rfl⟩ (fun fr C1' L1' m hle1 hI => ?_)
    obtain ⟨k, g, c, o2, xv2, qs3, rs2, a0, ⟨⟨hk, hb2, hxq2, hoff2, hxc2⟩, ha2, hbd2, hms, hir2, hset⟩, rfl, rfl, rfl⟩ := hI
    refine G.region rfl (fun R hR => ?_)
    refine D.pure rfl rfl rfl rfl rfl rfl ?_
    refine D.done [(0, [], _), (5, [], _), (6, [], _), (32, [], _), (33, [], _), (34, [], _), (35, [], _)] ⟨rfl, rfl, rfl, rfl, rfl, rfl, rfl, trivial⟩ (hR _ _ _ rfl ?_); clear hR R
    refine G.cond rfl (fun h35 => ?_) (fun h35 => ?_)
    · skip
      simp only [decide_eq_true_eq] at h35
      have hkl : k < (nexts A i).length := by omega
      obtain ⟨a, ha⟩ : ∃ a, (nexts A i)[k]? = some a := ⟨(nexts A i)[k], List.getElem?_eq_getElem hkl⟩
      have hamn := mem_nexts.1 (List.mem_of_getElem? ha)
      have hamem : a ∈ A := hamn.1
      obtain ⟨hlo, hup⟩ := hb a hamem
      have hra : ((nexts A i).map Arc3.enc)[k]? = some (Arc3.enc a) := by rw [List.getElem?_map, ha]; rfl
      have htk : (nexts A i).take (k + 1) = (nexts A i).take k ++ [a] := by rw [List.take_add_one, ha]; rfl
      have hrl := hb2.len
      refine G.region rfl (fun R hR => ?_)
      refine D.index0 (hvr.mono (by (repeat (first | exact Mem.le.refl _ | assumption | (apply Mem.le.trans; rotate_left; assumption))))) rfl rfl rfl rfl rfl rfl rfl rfl rfl rfl (by omega) hra (fun _ => rfl) (fun p36 hp36 => ?_)
      refine D.loadP0 hp36 rfl rfl rfl rfl rfl rfl rfl rfl ?_
      refine D.alloc rfl rfl rfl rfl rfl (fun _ => rfl) (fun b9 => ?_)
      refine D.store (j := 0) rfl rfl rfl rfl rfl rfl rfl rfl rfl rfl rfl rfl ?_
      refine D.done [(0, [], _), (5, [], _), (6, [], _), (9, [], _), (32, [], _), (33, [], _), (34, [], _)] ⟨rfl, rfl, rfl, rfl, rfl, rfl, rfl, trivial⟩ (hR _ _ _ rfl ?_); clear hR R
      refine G.region rfl (fun R hR => ?_)
      iterate 2 refine D.pure rfl rfl rfl rfl rfl rfl ?_
      refine D.loadL (.head _) rfl rfl rfl rfl rfl rfl rfl rfl rfl ?_
      refine D.indexS (a.up) rfl rfl rfl rfl rfl rfl rfl rfl rfl rfl (fun _ => ⟨by omega, by omega, (by simp)⟩) rfl rfl ?_
      refine D.loadArr (.tail _ (.tail _ (.head _))) rfl rfl rfl rfl rfl rfl (fun _ => (by rw [bools_at (by omega)]; rfl)) rfl rfl ?_
      refine D.pure rfl rfl rfl rfl rfl rfl ?_
      refine D.done [(0, [], _), (5, [], _), (6, [], _), (9, [], _), (32, [], _), (33, [], _), (34, [], _), (43, [], _)] ⟨rfl, rfl, rfl, rfl, rfl, rfl, rfl, rfl, trivial⟩ (hR _ _ _ rfl ?_); clear hR R
      refine G.cond rfl (fun h43 => ?_) (fun h43 => ?_)
      · skip
        have h43' : bAt rs2 a.up = false := by simpa using h43
        have hus := unset_set (l := rs2) (u := a.up) (by omega) h43'
        refine G.region rfl (fun R hR => ?_)
        iterate 2 refine D.pure rfl rfl rfl rfl rfl rfl ?_
        refine D.loadL (.head _) rfl rfl rfl rfl rfl rfl rfl rfl rfl ?_
        refine D.indexS (a.up) rfl rfl rfl rfl rfl rfl rfl rfl rfl rfl (fun _ => ⟨by omega, by omega, (by simp)⟩) rfl rfl ?_
        refine D.storeArr (j := 2) rfl rfl rfl rfl rfl rfl rfl rfl rfl rfl rfl (by simp; omega) ?_
        refine D.done [(0, [], _), (5, [], _), (6, [], _), (9, [], _), (32, [], _), (33, [], _), (34, [], _)] ⟨rfl, rfl, rfl, rfl, rfl, rfl, rfl, trivial⟩ (hR _ _ _ rfl ?_); clear hR R
        refine G.perm (L' := [.obj b9 (.cells ⟨Arc3.enc a⟩ 110 (0, 0)), .arr (qS g c xv2.length) 3 1 xv2.length xv2, .arr (qS b15 N.length N.length) 4 1 N.length ((rs2.set a.up true).map boolV)]) (by rw [← bools_set (by omega)]; (refine (ent_perm (j := 1) rfl).trans (List.Perm.cons _ ?_); refine (ent_perm (j := 1) rfl).trans (List.Perm.cons _ ?_); refine (ent_perm (j := 0) rfl).trans (List.Perm.cons _ ?_); exact List.Perm.refl _)) ?_
        refine G.region rfl (fun R hR => ?_)
        iterate 2 refine D.pure rfl rfl rfl rfl rfl rfl ?_
        refine D.loadL (.head _) rfl rfl rfl rfl rfl rfl rfl rfl rfl ?_
        refine D.buildSlice [[.int .i64 a.up]] rfl rfl rfl rfl rfl rfl rfl rfl rfl rfl rfl rfl (fun _ => rfl) (fun p51 C51 hle51 hs51 => ?_)
        refine D.appendO o2 (j := 1) rfl rfl rfl rfl rfl rfl rfl rfl rfl rfl rfl rfl rfl hoff2 ha2 hs51 rfl (by simp only [maxLen]; omega) (by show (xv2.length + 1) * 8 ≤ _; omega) (fun _ => rfl) (fun g3 o3 c3 xv3 ho3 hc3 hl3 hd3 => ?_)
        refine D.pure rfl rfl rfl rfl rfl rfl ?_
        refine D.done [(0, [], _), (5, [], _), (6, [], _), (32, [], _), (33, [], _), (34, [], _)] ⟨rfl, rfl, rfl, rfl, rfl, rfl, trivial⟩ (hR _ _ _ rfl ?_); clear hR R
        refine G.region rfl (fun R hR => ?_)
        refine D.i64 _ rfl rfl rfl rfl rfl (by omega) (by omega) rfl rfl ?_
        refine D.pure rfl rfl rfl rfl rfl rfl ?_
        refine D.done [(0, [], _), (5, [], _), (6, [], _), (32, [], _), (33, [], _), (34, [], _)] ⟨rfl, rfl, rfl, rfl, rfl, rfl, trivial⟩ (hR _ _ _ rfl ?_); clear hR R
        refine G.dropE 1 rfl ?_
        have hbs := hb2.set hamem hup (by rw [hamn.2]; exact hir2)
        have hxl3 := congrArg List.length hd3
        rw [hxq2] at hxl3
        have hxl2 := congrArg List.length hxq2
        simp only [List.length_drop, List.length_append, List.length_map, List.length_singleton] at hxl3 hxl2
        refine G.again (m' := (nexts A i).length - (k + 1)) (by omega) (by (repeat (first | exact Mem.le.refl _ | assumption | (apply Mem.le.trans; rotate_left; assumption)))) (fr' := [(0, [], _), (5, [], _), (6, [], _), (32, [], _), (33, [], _), (34, [], _)]) ⟨rfl, rfl, rfl, rfl, rfl, rfl, trivial⟩ ⟨k + 1, g3, c3, o3, xv3, qs3 ++ [a.up], rs2.set a.up true, ⟨g3, o3, none⟩, ⟨⟨by omega, hbs.mono (fun v _ hv => hv.imp id (fun h a' ha' he => by
          rw [bAt_set (by omega)]; split
          · rfl
          · exact h a' ha' he)), by rw [hd3, hxq2]; simp, by omega, hc3⟩, fun _ => rfl, by omega, by omega, hir2.imp id (fun h => by rw [bAt_set (by omega)]; split <;> simp [h]), fun a' ha' => by
          rw [bAt_set (by omega)]
          rw [htk] at ha'
          rcases List.mem_append.1 ha' with h | h
          · split
            · rfl
            · exact hset a' h
          · rw [List.mem_singleton.1 h, if_pos rfl]⟩, rfl, rfl, rfl⟩
      · skip
        have h43' : bAt rs2 a.up = true := by simpa using h43
        refine G.region rfl (fun R hR => ?_)
        refine D.i64 _ rfl rfl rfl rfl rfl (by omega) (by omega) rfl rfl ?_
        refine D.pure rfl rfl rfl rfl rfl rfl ?_
        refine D.done [(0, [], _), (5, [], _), (6, [], _), (32, [], _), (33, [], _), (34, [], _)] ⟨rfl, rfl, rfl, rfl, rfl, rfl, trivial⟩ (hR _ _ _ rfl ?_); clear hR R
        refine G.dropE 0 rfl ?_
        refine G.again (m' := (nexts A i).length - (k + 1)) (by omega) (by (repeat (first | exact Mem.le.refl _ | assumption | (apply Mem.le.trans; rotate_left; assumption)))) (fr' := [(0, [], _), (5, [], _), (6, [], _), (32, [], _), (33, [], _), (34, [], _)]) ⟨rfl, rfl, rfl, rfl, rfl, rfl, trivial⟩ ⟨k + 1, g, c, o2, xv2, qs3, rs2, a0, ⟨⟨by omega, hb2, hxq2, hoff2, hxc2⟩, ha2, hbd2, hms, hir2, fun a' ha' => by
          rw [htk] at ha'
          rcases List.mem_append.1 ha' with h | h
          · exact hset a' h
          · rw [List.mem_singleton.1 h]; exact h43'⟩, rfl, rfl, rfl⟩
    · skip
      simp only [decide_eq_false_iff_not] at h35
      have hkl : k = (nexts A i).length := by omega
      subst hkl
      rw [List.take_length] at hset
      refine G.again (m' := 2 * unset rs2 + (xv2.length - o2)) (by omega) (by (repeat (first | exact Mem.le.refl _ | assumption | (apply Mem.le.trans; rotate_left; assumption)))) (fr' := [(0, [], _), (5, [], _), (6, [], _)]) ⟨rfl, rfl, rfl, trivial⟩ ⟨g, c, o2, xv2, qs3, rs2, a0, ⟨⟨hb2.mono (fun v _ hv => by
        rcases hv with e | h
        · subst e; exact fun a ha hl => hset a (mem_nexts.2 ⟨ha, hl⟩)
        · exact h), hxq2, hoff2, hxc2⟩, ha2, hbd2⟩, rfl, rfl, rfl⟩
  · skip
    have h20' : xv.length - off = 0 := by
      have h : ¬ (0 : Int) < ((xv.length - off : Nat) : Int) := by simpa using h20
      omega
    have hq0 : qs = [] := by
      have := congrArg List.length hxq
      simp at this
      exact List.eq_nil_of_length_eq_zero (by omega)
    subst hq0
    refine G.region rfl (fun R hR => ?_)
    iterate 2 refine D.pure rfl rfl rfl rfl rfl rfl ?_
    refine D.done [(4, [], _)] ⟨rfl, trivial⟩ (hR _ _ _ rfl ?_); clear hR R
    refine G.dropE 0 rfl ?_
    refine G.eqL (L' := [.arr (qS b15 N.length N.length) 4 1 N.length (rs.map encB).flatten]) (by rw [show (rs.map encB).flatten = rs.map boolV from flatten_map1 boolV _]; rfl) ?_
    refine G.freezeArr 0 (rs.map encB) rfl rfl (by intro r hr; obtain ⟨y, _, rfl⟩ := List.mem_map.1 hr; rfl) (by rw [List.length_map]; exact hbf.len) (fun Cf hf hsd => ?_)
    refine G.retN (G.dropAll (G.fin1 rfl rfl ?_))
    exact ⟨rfl, rs, hsd, hbf.len, hbf.end⟩
end Go.Proofs.YtcghlfepfcagbaaGreat
namespace Go.Proofs.YtcghlfepfcagbaaGreat
open Go Go.Jog
set_option maxRecDepth 100000

theorem Graph.parts {C : Mem} {p : Value} {N : List Str} {A : List Arc3} (h : Graph C p N A) : ∃ b An cn x2 Aa ca x4, p = .pointer (some ⟨b, 0, none⟩) ∧ C b = some (.cells ⟨[.slice An N.length cn, x2, .slice Aa A.length ca, x4]⟩ 108 (0, 0)) ∧ Sl C 1 (.slice An N.length cn) (N.map encS) ∧ Sl C 3 (.slice Aa A.length ca) (A.map Arc3.enc) := by
  obtain ⟨b, bm, vn, va, vx, vs, hgp, hobj, hnames, hat, harcs, hnx, hlen, hrows⟩ := h
  obtain ⟨An, cn, rfl, _⟩ := id hnames
  obtain ⟨Aa, ca, rfl, _⟩ := id harcs
  simp only [List.length_map] at hobj hnames harcs
  exact ⟨b, An, cn, _, Aa, ca, _, hgp, hobj, hnames, harcs⟩
end Go.Proofs.YtcghlfepfcagbaaGreat
namespace Go.Proofs.YtcghlfepfcagbaaGreat
open Go Go.Jog
set_option maxRecDepth 100000

def OutAt (C : Mem) (N : List Str) (ov : List Value) (outs : List (List Nat)) : Prop :=
  ov.length = outs.length ∧ ∀ (j : Nat) (v : Value) (o : List Nat), ov[j]? = some v → outs[j]? = some o → Sl C 1 v ((o.map (nameAt N)).map encS)
theorem OutAt.mono {C D : Mem} {N : List Str} {ov : List Value} {outs : List (List Nat)} (h : OutAt C N ov outs) (hl : C.le D) : OutAt D N ov outs := ⟨h.1, fun j v o h1 h2 => (h.2 j v o h1 h2).mono hl⟩
theorem OutAt.snoc {C : Mem} {N : List Str} {ov : List Value} {outs : List (List Nat)} {v : Value} {o : List Nat} (h : OutAt C N ov outs) (hv : Sl C 1 v ((o.map (nameAt N)).map encS)) : OutAt C N (ov ++ [v]) (outs ++ [o]) := by
  have h0 := h.1
  refine ⟨by simp [h0], fun j v' o' h1 h2 => ?_⟩
  rcases Nat.lt_or_ge j ov.length with hlt | hge
  · rw [List.getElem?_append_left hlt] at h1
    rw [List.getElem?_append_left (by omega)] at h2
    exact h.2 j v' o' h1 h2
  · rw [List.getElem?_append_right hge] at h1
    rw [List.getElem?_append_right (by omega), ← h0] at h2
    cases hj : j - ov.length with
    | zero => rw [hj] at h1 h2; simp at h1 h2; subst h1; subst h2; exact hv
    | succ q => rw [hj] at h1; simp at h1
end Go.Proofs.YtcghlfepfcagbaaGreat
namespace Go.Proofs.YtcghlfepfcagbaaGreat
open Go Go.Jog
set_option maxRecDepth 100000

theorem Sl.nilS (C : Mem) (k : Nat) : Sl C k (.slice none 0 0) [] := ⟨none, 0, rfl, Nat.le_refl _, Nat.zero_le _, by simp, fun i x h => by simp at h⟩
end Go.Proofs.YtcghlfepfcagbaaGreat
namespace Go.Proofs.YtcghlfepfcagbaaGreat
open Go Go.Jog
set_option maxRecDepth 100000

end Go.Proofs.YtcghlfepfcagbaaGreat
namespace Go.Proofs.YtcghlfepfcagbaaGreat
open Go Go.Jog
set_option maxRecDepth 100000

def pairE (N : List Str) (x : Nat × Nat) : List Value := [strV (nameAt N x.1), strV (nameAt N x.2)]
def cloRow (r : Nat → Nat → Bool) (i n : Nat) : List (Nat × Nat) := cat (fun k => oneIf (r i k) (i, k)) n
def cloL (r : Nat → Nat → Bool) (n m : Nat) : List (Nat × Nat) := cat (fun i => cloRow r i n) m
theorem cloRow_len (r : Nat → Nat → Bool) (i n : Nat) : (cloRow r i n).length ≤ n := by
  have := cat_length_mul (f := fun k => oneIf (r i k) (i, k)) (m := 1) (fun k => oneIf_len _ _) n
  rw [Nat.mul_one] at this
  exact this
theorem cloL_len (r : Nat → Nat → Bool) (n m : Nat) : (cloL r n m).length ≤ m * n := cat_length_mul (fun i => cloRow_len r i n) m
def CloRes (C : Mem) (l : List Rel) (r : Value) : Prop :=
  (errU l ≠ 0 ∧ r = .tuple #[nilV, .int .i64 (errU l)]) ∨
  (errU l = 0 ∧ ∃ (t : Nat → Nat → Bool) (v : Value), (∀ i k, t i k = true ↔ Reach (arcsOf l) i k) ∧ r = .tuple #[v, .int .i64 0] ∧ Sl C 2 v ((cloL t (unitsL l).length (unitsL l).length).map (pairE (unitsL l))))
set_option maxHeartbeats 1000000 in
theorem closure_spec (C : Mem) (v : Value) (l : List Rel) (hv : Sl C 3 v (l.map Rel.enc)) (hl : l.length ≤ 100000) (hsh : ∀ x ∈ l, x.short) : Pur cx.P 58 [v] C fun r C' => CloRes C' l r := by
  obtain ⟨A, hA⟩ : ∃ A, arcsOf l = A := ⟨_, rfl⟩
  obtain ⟨N, hN⟩ : ∃ N, unitsL l = N := ⟨_, rfl⟩
  have hok := gok_of hl
  rw [hA, hN] at hok
  obtain ⟨t, ht⟩ : ∃ t : Nat → Nat → Bool, ∀ i k, t i k = true ↔ Reach A i k := ⟨fun i k => @decide (Reach A i k) (Classical.propDecidable _), fun i k => by simp⟩
  refine Fn.intro (by kernel_rfl) Tryz.func58 rfl 53 rfl rfl (fun w0 => ?_)
  refine G.region rfl (fun R hR => ?_)
  iterate 2 refine D.pure rfl rfl rfl rfl rfl rfl ?_
  refine D.done [(0, [], _)] ⟨rfl, trivial⟩ (hR _ _ _ rfl ?_); clear hR R
  refine G.region rfl (fun R hR => ?_)
  refine D.pure rfl rfl rfl rfl rfl rfl ?_
  refine D.gives2 (check_fn _ _ l hv hl hsh) rfl rfl rfl rfl rfl rfl rfl (fun _ => rfl) ?_
  refine D.pure rfl rfl rfl rfl rfl rfl ?_
  refine D.done [(0, [], _), (4, [], _)] ⟨rfl, rfl, trivial⟩ (hR _ _ _ rfl ?_); clear hR R
  refine G.region rfl (fun R hR => ?_)
  iterate 2 refine D.pure rfl rfl rfl rfl rfl rfl ?_
  refine D.done [(0, [], _), (4, [], _), (14, [], _)] ⟨rfl, rfl, rfl, trivial⟩ (hR _ _ _ rfl ?_); clear hR R
  refine G.cond rfl (fun h14 => ?_) (fun h14 => ?_)
  · skip
    have h14' : errU l ≠ 0 := by simpa using h14
    refine G.region rfl (fun R hR => ?_)
    iterate 3 refine D.pure rfl rfl rfl rfl rfl rfl ?_
    refine D.done [(2, [], _), (3, [], _)] ⟨rfl, rfl, trivial⟩ (hR _ _ _ rfl ?_); clear hR R
    refine G.retN (G.dropAll (G.fin2 rfl rfl rfl ?_))
    exact ⟨rfl, .inl ⟨h14', rfl⟩⟩
  · skip
    have h14' : errU l = 0 := by simpa using h14
    have hN60 := errU_names h14'
    rw [hN] at hN60
    refine G.region rfl (fun R hR => ?_)
    refine D.pure rfl rfl rfl rfl rfl rfl ?_
    refine D.callP (build_fn _ _ l (hv.mono (by (repeat (first | exact Mem.le.refl _ | assumption | (apply Mem.le.trans; rotate_left; assumption))))) hl) rfl rfl rfl rfl rfl rfl rfl (fun _ => rfl) (fun v17 C17 hle17 hq17 => ?_)
    refine D.pure rfl rfl rfl rfl rfl rfl ?_
    refine D.done [(5, [], _)] ⟨rfl, trivial⟩ (hR _ _ _ rfl ?_); clear hR R
    have hgr : Graph C17 v17 N A := by rw [← hA, ← hN]; exact hq17
    obtain ⟨b, An, cn, x2, Aa, ca, x4, hgp, hobj, hnames, harcs⟩ := hgr.parts
    subst hgp
    refine G.region rfl (fun R hR => ?_)
    refine D.pure rfl rfl rfl rfl rfl rfl ?_
    refine D.done [(5, [], _), (6, [], _)] ⟨rfl, rfl, trivial⟩ (hR _ _ _ rfl ?_); clear hR R
    refine G.region rfl (fun R hR => ?_)
    iterate 3 refine D.pure rfl rfl rfl rfl rfl rfl ?_
    refine D.loadP0 (PtrTo.block (Mem.get hobj (by (repeat (first | exact Mem.le.refl _ | assumption | (apply Mem.le.trans; rotate_left; assumption))))) _) rfl rfl rfl rfl rfl rfl rfl rfl ?_
    iterate 2 refine D.pure rfl rfl rfl rfl rfl rfl ?_
    refine D.done [(5, [], _), (6, [], _), (21, [], _), (22, [], _), (23, [], _)] ⟨rfl, rfl, rfl, rfl, rfl, trivial⟩ (hR _ _ _ rfl ?_); clear hR R
    refine G.nilArr 62 2 ?_
    refine G.loop (fun fr C' L' μ => ∃ (i : Nat) (w : Value), (i ≤ N.length) ∧ fr = [(5, [], .pointer (some ⟨b, 0, none⟩)), (6, [], w), (21, [], .slice An N.length cn), (22, [], .int .i64 N.length), (23, [], .int .i64 i)] ∧ L' = [.arr w 62 2 (cloL t N.length i).length ((cloL t N.length i).map (pairE N)).flatten] ∧ μ = N.length - i) (fr' := [(5, [], _), (6, [], _), (21, [], _), (22, [], _), (23, [], _)]) ⟨rfl, rfl, rfl, rfl, rfl, trivial⟩ ⟨0, _, Nat.zero_le _, rfl, rfl, rfl⟩ (fun fr C0' L0' m hle0 hI => ?_)
    obtain ⟨i, w, hi, rfl, rfl, rfl⟩ := hI
    refine G.region rfl (fun R hR => ?_)
    refine D.pure rfl rfl rfl rfl rfl rfl ?_
    refine D.done [(5, [], _), (6, [], _), (21, [], _), (22, [], _), (23, [], _), (24, [], _)] ⟨rfl, rfl, rfl, rfl, rfl, rfl, trivial⟩ (hR _ _ _ rfl ?_); clear hR R
    refine G.cond rfl (fun h24 => ?_) (fun h24 => ?_)
    · skip
      simp only [decide_eq_true_eq] at h24
      have hil : i < N.length := by omega
      have hrn : (N.map encS)[i]? = some (encS (nameAt N i)) := by rw [List.getElem?_map, nameAt_get hil]; rfl
      refine G.region rfl (fun R hR => ?_)
      refine D.pure rfl rfl rfl rfl rfl rfl ?_
      refine D.index0 (hnames.mono (by (repeat (first | exact Mem.le.refl _ | assumption | (apply Mem.le.trans; rotate_left; assumption))))) rfl rfl rfl rfl rfl rfl rfl rfl rfl rfl (by omega) hrn (fun _ => rfl) (fun p26 hp26 => ?_)
      refine D.loadP0 hp26 rfl rfl rfl rfl rfl rfl rfl rfl ?_
      iterate 2 refine D.pure rfl rfl rfl rfl rfl rfl ?_
      refine D.done [(5, [], _), (6, [], _), (7, [], _), (8, [], _), (21, [], _), (22, [], _), (23, [], _)] ⟨rfl, rfl, rfl, rfl, rfl, rfl, rfl, trivial⟩ (hR _ _ _ rfl ?_); clear hR R
      refine G.region rfl (fun R hR => ?_)
      iterate 2 refine D.pure rfl rfl rfl rfl rfl rfl ?_
      refine D.callP (reached_fn _ _ N A i (hgr.mono (by (repeat (first | exact Mem.le.refl _ | assumption | (apply Mem.le.trans; rotate_left; assumption))))) hok hil) rfl rfl rfl rfl rfl rfl rfl (fun _ => rfl) (fun v30 C30 hle30 hq30 => ?_)
      obtain ⟨rs, hrs, hrl, hrr⟩ := hq30
      obtain ⟨Ar, cr, rfl, _⟩ := id hrs
      simp only [List.length_map, hrl] at hrs ⊢
      iterate 2 refine D.pure rfl rfl rfl rfl rfl rfl ?_
      refine D.done [(5, [], _), (6, [], _), (8, [], _), (21, [], _), (22, [], _), (23, [], _), (30, [], _), (31, [], _), (32, [], _)] ⟨rfl, rfl, rfl, rfl, rfl, rfl, rfl, rfl, rfl, trivial⟩ (hR _ _ _ rfl ?_); clear hR R
      refine G.eqL (L' := [.arr w 62 2 (cloL t N.length i ++ cloRow t i 0).length ((cloL t N.length i ++ cloRow t i 0).map (pairE N)).flatten]) (by rw [show cloRow t i 0 = [] from rfl, List.append_nil]) ?_
      refine G.loop (fun fr C' L' μ => ∃ (k : Nat) (w : Value), (k ≤ N.length) ∧ fr = [(5, [], .pointer (some ⟨b, 0, none⟩)), (6, [], w), (8, [], strV (nameAt N i)), (21, [], .slice An N.length cn), (22, [], .int .i64 N.length), (23, [], .int .i64 i), (30, [], .slice Ar N.length cr), (31, [], .int .i64 N.length), (32, [], .int .i64 k)] ∧ L' = [.arr w 62 2 (cloL t N.length i ++ cloRow t i k).length ((cloL t N.length i ++ cloRow t i k).map (pairE N)).flatten] ∧ μ = N.length - k) (fr' := [(5, [], _), (6, [], _), (8, [], _), (21, [], _), (22, [], _), (23, [], _), (30, [], _), (31, [], _), (32, [], _)]) ⟨rfl, rfl, rfl, rfl, rfl, rfl, rfl, rfl, rfl, trivial⟩ ⟨0, w, Nat.zero_le _, rfl, rfl, rfl⟩ (fun fr C1' L1' m hle1 hI => ?_)
      obtain ⟨k, w, hk, rfl, rfl, rfl⟩ := hI
      refine G.region rfl (fun R hR => ?_)
      refine D.pure rfl rfl rfl rfl rfl rfl ?_
      refine D.done [(5, [], _), (6, [], _), (8, [], _), (21, [], _), (22, [], _), (23, [], _), (30, [], _), (31, [], _), (32, [], _), (33, [], _)] ⟨rfl, rfl, rfl, rfl, rfl, rfl, rfl, rfl, rfl, rfl, trivial⟩ (hR _ _ _ rfl ?_); clear hR R
      refine G.cond rfl (fun h33 => ?_) (fun h33 => ?_)
      · skip
        simp only [decide_eq_true_eq] at h33
        have hkl : k < N.length := by omega
        have hrw : (rs.map encB)[k]? = some [.bool (bAt rs k)] := by rw [List.getElem?_map, get_bAt (by omega)]; rfl
        have hrk : (N.map encS)[k]? = some (encS (nameAt N k)) := by rw [List.getElem?_map, nameAt_get hkl]; rfl
        have hbt : bAt rs k = t i k := by
          rw [Bool.eq_iff_iff, hrr, ht]
        have hl1 := cloL_len t N.length i
        have hl2 := cloRow_len t i k
        have hl3 : i * N.length ≤ 60 * 60 := Nat.mul_le_mul (by omega) hN60
        have hl4 : (cloL t N.length i ++ cloRow t i k).length ≤ 3660 := by rw [List.length_append]; omega
        refine G.region rfl (fun R hR => ?_)
        refine D.pure rfl rfl rfl rfl rfl rfl ?_
        refine D.index0 (hrs.mono (by (repeat (first | exact Mem.le.refl _ | assumption | (apply Mem.le.trans; rotate_left; assumption))))) rfl rfl rfl rfl rfl rfl rfl rfl rfl rfl (by omega) hrw (fun _ => rfl) (fun p35 hp35 => ?_)
        refine D.loadP0 hp35 rfl rfl rfl rfl rfl rfl rfl rfl ?_
        iterate 2 refine D.pure rfl rfl rfl rfl rfl rfl ?_
        refine D.done [(5, [], _), (6, [], _), (8, [], _), (9, [], _), (10, [], _), (21, [], _), (22, [], _), (23, [], _), (30, [], _), (31, [], _), (32, [], _)] ⟨rfl, rfl, rfl, rfl, rfl, rfl, rfl, rfl, rfl, rfl, rfl, trivial⟩ (hR _ _ _ rfl ?_); clear hR R
        refine G.region rfl (fun R hR => ?_)
        refine D.pure rfl rfl rfl rfl rfl rfl ?_
        refine D.done [(5, [], _), (6, [], _), (8, [], _), (9, [], _), (21, [], _), (22, [], _), (23, [], _), (30, [], _), (31, [], _), (32, [], _), (37, [], _)] ⟨rfl, rfl, rfl, rfl, rfl, rfl, rfl, rfl, rfl, rfl, rfl, trivial⟩ (hR _ _ _ rfl ?_); clear hR R
        refine G.cond rfl (fun h37 => ?_) (fun h37 => ?_)
        · skip
          have h37' : t i k = true := by rw [← hbt]; exact h37
          refine G.region rfl (fun R hR => ?_)
          iterate 5 refine D.pure rfl rfl rfl rfl rfl rfl ?_
          refine D.loadP0 (PtrTo.block (Mem.get hobj (by (repeat (first | exact Mem.le.refl _ | assumption | (apply Mem.le.trans; rotate_left; assumption))))) _) rfl rfl rfl rfl rfl rfl rfl rfl ?_
          refine D.pure rfl rfl rfl rfl rfl rfl ?_
          refine D.index0 (hnames.mono (by (repeat (first | exact Mem.le.refl _ | assumption | (apply Mem.le.trans; rotate_left; assumption))))) rfl rfl rfl rfl rfl rfl rfl rfl rfl rfl (by omega) hrk (fun _ => rfl) (fun p45 hp45 => ?_)
          refine D.loadP0 hp45 rfl rfl rfl rfl rfl rfl rfl rfl ?_
          refine D.build [strV (nameAt N i), strV (nameAt N k)] rfl rfl rfl rfl rfl rfl rfl rfl ?_
          refine D.buildSlice [[strV (nameAt N i), strV (nameAt N k)]] rfl rfl rfl rfl rfl rfl rfl rfl rfl rfl rfl rfl (fun _ => rfl) (fun p48 C48 hle48 hs48 => ?_)
          refine D.append (j := 0) rfl rfl rfl rfl rfl rfl rfl rfl rfl rfl rfl hs48 rfl (by simp only [List.length_singleton, maxLen]; omega) (by simp only [List.length_singleton]; omega) (fun _ => rfl) (fun v49 => ?_)
          refine D.pure rfl rfl rfl rfl rfl rfl ?_
          refine D.done [(5, [], _), (6, [], _), (8, [], _), (21, [], _), (22, [], _), (23, [], _), (30, [], _), (31, [], _), (32, [], _)] ⟨rfl, rfl, rfl, rfl, rfl, rfl, rfl, rfl, rfl, trivial⟩ (hR _ _ _ rfl ?_); clear hR R
          refine G.region rfl (fun R hR => ?_)
          refine D.i64 _ rfl rfl rfl rfl rfl (by omega) (by omega) rfl rfl ?_
          refine D.pure rfl rfl rfl rfl rfl rfl ?_
          refine D.done [(5, [], _), (6, [], _), (8, [], _), (21, [], _), (22, [], _), (23, [], _), (30, [], _), (31, [], _), (32, [], _)] ⟨rfl, rfl, rfl, rfl, rfl, rfl, rfl, rfl, rfl, trivial⟩ (hR _ _ _ rfl ?_); clear hR R
          refine G.eqL (L' := [.arr v49 62 2 (cloL t N.length i ++ cloRow t i (k + 1)).length ((cloL t N.length i ++ cloRow t i (k + 1)).map (pairE N)).flatten]) (by
            have e : cloRow t i (k + 1) = cloRow t i k ++ [(i, k)] := by unfold cloRow; rw [cat_succ, oneIf_true h37']
            rw [e]; simp [pairE]; try omega) ?_
          refine G.again (m' := N.length - (k + 1)) (by omega) (by (repeat (first | exact Mem.le.refl _ | assumption | (apply Mem.le.trans; rotate_left; assumption)))) (fr' := [(5, [], _), (6, [], _), (8, [], _), (21, [], _), (22, [], _), (23, [], _), (30, [], _), (31, [], _), (32, [], _)]) ⟨rfl, rfl, rfl, rfl, rfl, rfl, rfl, rfl, rfl, trivial⟩ ⟨k + 1, v49, by omega, rfl, rfl, rfl⟩
        · skip
          have h37' : t i k = false := by rw [← hbt]; exact h37
          refine G.region rfl (fun R hR => ?_)
          refine D.i64 _ rfl rfl rfl rfl rfl (by omega) (by omega) rfl rfl ?_
          refine D.pure rfl rfl rfl rfl rfl rfl ?_
          refine D.done [(5, [], _), (6, [], _), (8, [], _), (21, [], _), (22, [], _), (23, [], _), (30, [], _), (31, [], _), (32, [], _)] ⟨rfl, rfl, rfl, rfl, rfl, rfl, rfl, rfl, rfl, trivial⟩ (hR _ _ _ rfl ?_); clear hR R
          refine G.eqL (L' := [.arr w 62 2 (cloL t N.length i ++ cloRow t i (k + 1)).length ((cloL t N.length i ++ cloRow t i (k + 1)).map (pairE N)).flatten]) (by
            have e : cloRow t i (k + 1) = cloRow t i k := by unfold cloRow; rw [cat_succ, oneIf_false h37', List.append_nil]
            rw [e]) ?_
          refine G.again (m' := N.length - (k + 1)) (by omega) (by (repeat (first | exact Mem.le.refl _ | assumption | (apply Mem.le.trans; rotate_left; assumption)))) (fr' := [(5, [], _), (6, [], _), (8, [], _), (21, [], _), (22, [], _), (23, [], _), (30, [], _), (31, [], _), (32, [], _)]) ⟨rfl, rfl, rfl, rfl, rfl, rfl, rfl, rfl, rfl, trivial⟩ ⟨k + 1, w, by omega, rfl, rfl, rfl⟩
      · skip
        simp only [decide_eq_false_iff_not] at h33
        have hkl : k = N.length := by omega
        subst hkl
        refine G.region rfl (fun R hR => ?_)
        refine D.i64 _ rfl rfl rfl rfl rfl (by omega) (by omega) rfl rfl ?_
        refine D.pure rfl rfl rfl rfl rfl rfl ?_
        refine D.done [(5, [], _), (6, [], _), (21, [], _), (22, [], _), (23, [], _)] ⟨rfl, rfl, rfl, rfl, rfl, trivial⟩ (hR _ _ _ rfl ?_); clear hR R
        refine G.again (m' := N.length - (i + 1)) (by omega) (by (repeat (first | exact Mem.le.refl _ | assumption | (apply Mem.le.trans; rotate_left; assumption)))) (fr' := [(5, [], _), (6, [], _), (21, [], _), (22, [], _), (23, [], _)]) ⟨rfl, rfl, rfl, rfl, rfl, trivial⟩ ⟨i + 1, w, by omega, rfl, rfl, rfl⟩
    · skip
      simp only [decide_eq_false_iff_not] at h24
      have hil : i = N.length := by omega
      subst hil
      refine G.region rfl (fun R hR => ?_)
      iterate 3 refine D.pure rfl rfl rfl rfl rfl rfl ?_
      refine D.done [(2, [], _), (3, [], _)] ⟨rfl, rfl, trivial⟩ (hR _ _ _ rfl ?_); clear hR R
      refine G.freezeArr 0 ((cloL t N.length N.length).map (pairE N)) rfl rfl (by intro r hr; obtain ⟨y, _, rfl⟩ := List.mem_map.1 hr; rfl) (by simp) (fun Cf hf hsd => ?_)
      refine G.retN (G.dropAll (G.fin2 rfl rfl rfl ?_))
      exact ⟨rfl, .inr ⟨h14', t, w, by rw [hA]; exact ht, rfl, by rw [hN]; exact hsd⟩⟩
end Go.Proofs.YtcghlfepfcagbaaGreat
namespace Go.Proofs.YtcghlfepfcagbaaGreat
open Go Go.Jog
set_option maxRecDepth 100000

end Go.Proofs.YtcghlfepfcagbaaGreat
namespace Go.Proofs.YtcghlfepfcagbaaGreat
open Go Go.Jog
set_option maxRecDepth 100000

theorem fits_fn (C : Mem) (A : Option Addr) (n c : Nat) : Gives cx.P 12 [.slice A n c] C (.bool (decide ((n : Int) ≤ 8))) := by
  refine Fn.intro (by kernel_rfl) Tryz.func12 rfl 6 rfl rfl (fun w0 => ?_)
  refine G.region rfl (fun R hR => ?_)
  refine D.pure rfl rfl rfl rfl rfl rfl ?_
  refine D.done [(0, [], _)] ⟨rfl, trivial⟩ (hR _ _ _ rfl ?_); clear hR R
  refine G.region rfl (fun R hR => ?_)
  iterate 4 refine D.pure rfl rfl rfl rfl rfl rfl ?_
  refine D.done [(2, [], _)] ⟨rfl, trivial⟩ (hR _ _ _ rfl ?_); clear hR R
  refine G.retN (G.dropAll (G.fin1 rfl rfl ?_))
  exact ⟨rfl, rfl⟩
end Go.Proofs.YtcghlfepfcagbaaGreat
namespace Go.Proofs.YtcghlfepfcagbaaGreat
open Go Go.Jog
set_option maxRecDepth 100000

def nameI (i : Nat) : Str := [UInt8.ofNat (65 + i)]
theorem lname_fn (C : Mem) (i : Nat) (hi : i < 100) : Gives cx.P 33 [.int .i64 i] C (strV (nameI i)) := by
  refine Fn.intro (by kernel_rfl) Tryz.func33 rfl 8 rfl rfl (fun w0 => ?_)
  refine G.region rfl (fun R hR => ?_)
  refine D.pure rfl rfl rfl rfl rfl rfl ?_
  refine D.done [(0, [], _)] ⟨rfl, trivial⟩ (hR _ _ _ rfl ?_); clear hR R
  refine G.region rfl (fun R hR => ?_)
  refine D.pure rfl rfl rfl rfl rfl rfl ?_
  refine D.i64 (((65 + i : Nat) : Int)) rfl rfl rfl rfl (by omega) (by omega) (by omega) rfl rfl ?_
  refine D.conv (c := ((65 + i : Nat) : Int)) rfl rfl rfl rfl rfl rfl rfl rfl (by rw [IntKind.wrap_u8]; omega) (fun _ => rfl) ?_
  refine D.buildSlice [[.int .u8 ((65 + i : Nat) : Int)]] rfl rfl rfl rfl rfl rfl rfl rfl rfl rfl rfl rfl (fun _ => rfl) (fun p6 C6 hle6 hs6 => ?_)
  have hb : (UInt8.ofNat (65 + i)).toNat = 65 + i := by rw [UInt8.toNat_ofNat']; omega
  have hs7 : Sl C6 1 p6 ((nameI i).map fun b => [.int .u8 b.toNat]) := by
    show Sl C6 1 p6 [[.int .u8 ((UInt8.ofNat (65 + i)).toNat : Int)]]
    rw [hb]; exact hs6
  refine D.strOf hs7 rfl rfl rfl rfl rfl rfl rfl rfl rfl rfl rfl (fun _ => rfl) ?_
  refine D.pure rfl rfl rfl rfl rfl rfl ?_
  refine D.done [(2, [], _)] ⟨rfl, trivial⟩ (hR _ _ _ rfl ?_); clear hR R
  refine G.retN (G.dropAll (G.fin1 rfl rfl ?_))
  exact ⟨rfl, rfl⟩
structure Seen where
  a : UInt8
  b : UInt8
  c : UInt8
  deriving Inhabited
def Seen.enc (x : Seen) : List Value := [.int .u8 x.a.toNat, .int .u8 x.b.toNat, .int .u8 x.c.toNat]
def upN (x : Seen) : Nat := x.b.toNat % 6
def lowN (x : Seen) : Nat := if x.b.toNat % 6 = x.c.toNat % 6 then (x.b.toNat % 6 + 1) % 6 else x.c.toNat % 6
def mkR (x : Seen) : Rel := ⟨((1 + x.a.toNat % 4 : Nat) : Int), nameI (upN x), nameI (lowN x)⟩
def makeL (l : List Seen) : List Rel := (l.take 8).map mkR
theorem make_fn (C : Mem) (v : Value) (l : List Seen) (hv : Sl C 3 v (l.map Seen.enc)) : Pur cx.P 13 [v] C fun u C' => Sl C' 3 u ((makeL l).map Rel.enc) := by
  obtain ⟨A, c, rfl, _⟩ := id hv
  simp only [List.length_map] at hv ⊢
  refine Fn.intro (by kernel_rfl) Tryz.func13 rfl 54 rfl rfl (fun w0 => ?_)
  refine G.region rfl (fun R hR => ?_)
  refine D.pure rfl rfl rfl rfl rfl rfl ?_
  refine D.done [(0, [], _)] ⟨rfl, trivial⟩ (hR _ _ _ rfl ?_); clear hR R
  refine G.region rfl (fun R hR => ?_)
  refine D.pure rfl rfl rfl rfl rfl rfl ?_
  refine D.done [(0, [], _), (3, [], _)] ⟨rfl, rfl, trivial⟩ (hR _ _ _ rfl ?_); clear hR R
  refine G.region rfl (fun R hR => ?_)
  refine D.pure rfl rfl rfl rfl rfl rfl ?_
  refine D.done [(0, [], _), (3, [], _), (4, [], _)] ⟨rfl, rfl, rfl, trivial⟩ (hR _ _ _ rfl ?_); clear hR R
  refine G.nilArr 55 3 ?_
  refine G.loop (fun fr C' L' μ => ∃ (k : Nat) (w3 : Value), (k ≤ l.length ∧ k ≤ 8) ∧ fr = [(0, [], .slice A l.length c), (3, [], w3), (4, [], .int .i64 k)] ∧ L' = [.arr w3 55 3 k (((l.take k).map mkR).map Rel.enc).flatten] ∧ μ = 8 - k) (fr' := [(0, [], _), (3, [], _), (4, [], _)]) ⟨rfl, rfl, rfl, trivial⟩ ⟨0, _, ⟨Nat.zero_le _, by omega⟩, rfl, rfl, rfl⟩ (fun fr C0' L0' m hle0 hI => ?_)
  obtain ⟨k, w3, ⟨hk, hk8⟩, rfl, rfl, rfl⟩ := hI
  refine G.region rfl (fun R hR => ?_)
  iterate 7 refine D.pure rfl rfl rfl rfl rfl rfl ?_
  refine D.pickAnd rfl rfl rfl rfl rfl rfl rfl rfl ?_
  refine D.done [(0, [], _), (3, [], _), (4, [], _), (14, [], _)] ⟨rfl, rfl, rfl, rfl, trivial⟩ (hR _ _ _ rfl ?_); clear hR R
  refine G.cond rfl (fun h14 => ?_) (fun h14 => ?_)
  · skip
    simp only [Bool.and_eq_true, decide_eq_true_eq] at h14
    have hkl : k < l.length := by omega
    obtain ⟨x, hx⟩ : ∃ x, l[k]? = some x := ⟨l[k], List.getElem?_eq_getElem hkl⟩
    have hrow : (l.map Seen.enc)[k]? = some x.enc := by rw [List.getElem?_map, hx]; rfl
    have hxa := x.a.toNat_lt
    have hxb := x.b.toNat_lt
    have hxc := x.c.toNat_lt
    have htk : (l.take (k + 1)).map mkR = (l.take k).map mkR ++ [mkR x] := by rw [List.take_add_one, hx]; simp
    refine G.draw [0, 1, 2, 3, 4, 5, 6, 7, 8, 9, 10, 11, 12, 13, 14, 15] [(6, 0), (13, 0)] rfl (by kernel_rfl) (fun R hB hR => ?_)
    iterate 2 refine D.pure rfl rfl rfl rfl rfl rfl ?_
    refine D.index0 (hv.mono (by (repeat (first | exact Mem.le.refl _ | assumption | (apply Mem.le.trans; rotate_left; assumption))))) rfl rfl rfl rfl rfl rfl rfl rfl rfl rfl (by omega) hrow (fun _ => rfl) (fun p19 hp19 => ?_)
    refine D.fieldP0 hp19 rfl rfl rfl rfl rfl rfl rfl rfl rfl rfl (fun _ => rfl) (fun p20 hp20 => ?_)
    refine D.loadP0 hp20 rfl rfl rfl rfl rfl rfl rfl rfl ?_
    refine D.rem rfl rfl rfl rfl rfl rfl (by omega) (by omega) rfl rfl ?_
    refine D.convQ (c := (upN x : Int)) rfl rfl rfl rfl rfl rfl rfl rfl (by rw [IntKind.wrap_i64]; unfold upN; omega) rfl rfl ?_
    iterate 2 refine D.pure rfl rfl rfl rfl rfl rfl ?_
    refine D.index0 (hv.mono (by (repeat (first | exact Mem.le.refl _ | assumption | (apply Mem.le.trans; rotate_left; assumption))))) rfl rfl rfl rfl rfl rfl rfl rfl rfl rfl (by omega) hrow (fun _ => rfl) (fun p26 hp26 => ?_)
    refine D.fieldP0 hp26 rfl rfl rfl rfl rfl rfl rfl rfl rfl rfl (fun _ => rfl) (fun p27 hp27 => ?_)
    refine D.loadP0 hp27 rfl rfl rfl rfl rfl rfl rfl rfl ?_
    refine D.rem rfl rfl rfl rfl rfl rfl (by omega) (by omega) rfl rfl ?_
    refine D.convQ (c := ((x.c.toNat % 6 : Nat) : Int)) rfl rfl rfl rfl rfl rfl rfl rfl (by rw [IntKind.wrap_i64]; omega) rfl rfl ?_
    iterate 2 refine D.pure rfl rfl rfl rfl rfl rfl ?_
    refine D.done [(0, [], _), (3, [], _), (4, [], _), (5, [], _), (6, [], _)] ⟨rfl, rfl, rfl, rfl, rfl, trivial⟩ (hR _ _ _ rfl ?_); clear hR hB R
    refine G.region rfl (fun R hR => ?_)
    iterate 3 refine D.pure rfl rfl rfl rfl rfl rfl ?_
    refine D.done [(0, [], _), (3, [], _), (4, [], _), (5, [], _), (6, [], _), (33, [], _)] ⟨rfl, rfl, rfl, rfl, rfl, rfl, trivial⟩ (hR _ _ _ rfl ?_); clear hR R
    refine G.cut (fun fr C' L' μ => (True) ∧ fr = [(0, [], .slice A l.length c), (3, [], w3), (4, [], .int .i64 k), (5, [], .int .i64 (upN x)), (6, [], .int .i64 (lowN x))] ∧ L' = [.arr w3 55 3 k (((l.take k).map mkR).map Rel.enc).flatten]) ?_ (fun fr C33 L33 μ hle33 hI => ?_)
    · skip
      refine G.cond rfl (fun h33 => ?_) (fun h33 => ?_)
      · skip
        have h33' : upN x = x.c.toNat % 6 := by
          have h : (upN x : Int) = ((x.c.toNat % 6 : Nat) : Int) := by simpa using h33
          omega
        have hup6 : upN x < 6 := by unfold upN; omega
        refine G.region rfl (fun R hR => ?_)
        refine D.pure rfl rfl rfl rfl rfl rfl ?_
        refine D.i64 _ rfl rfl rfl rfl rfl (by omega) (by omega) rfl rfl ?_
        refine D.rem rfl rfl rfl rfl rfl rfl (by omega) (by omega) rfl rfl ?_
        refine D.pure rfl rfl rfl rfl rfl rfl ?_
        refine D.done [(0, [], _), (3, [], _), (4, [], _), (5, [], _), (6, [], _)] ⟨rfl, rfl, rfl, rfl, rfl, trivial⟩ (hR _ _ _ rfl ?_); clear hR R
        have hlow : ((upN x : Int) + 1) % 6 = (lowN x : Int) := by
          unfold lowN
          have : x.b.toNat % 6 = x.c.toNat % 6 := h33'
          rw [if_pos this]; unfold upN; omega
        refine G.meet 0 (Mem.le.refl _) (fr' := [(0, [], _), (3, [], _), (4, [], _), (5, [], _), (6, [], _)]) ⟨rfl, rfl, rfl, rfl, rfl, trivial⟩ ⟨trivial, by rw [← hlow], rfl⟩
      · skip
        have h33' : ¬ upN x = x.c.toNat % 6 := fun e => by
          have : (false : Bool) = true := by rw [← h33]; simp [e]
          cases this
        have hlow : x.c.toNat % 6 = lowN x := by
          unfold lowN
          rw [if_neg (show ¬ x.b.toNat % 6 = x.c.toNat % 6 from h33')]
        refine G.meet 0 (Mem.le.refl _) (fr' := [(0, [], _), (3, [], _), (4, [], _), (5, [], _), (6, [], _)]) ⟨rfl, rfl, rfl, rfl, rfl, trivial⟩ ⟨trivial, by rw [← hlow], rfl⟩
    · skip
      obtain ⟨htriv, rfl, rfl⟩ := hI
      have hup6 : upN x < 6 := by unfold upN; omega
      have hlow6 : lowN x < 6 := by unfold lowN; split <;> omega
      refine G.draw [0, 1, 2, 3, 4, 5, 6, 7, 8, 9, 10, 11, 12, 13, 14, 15, 16] [(10, 1), (12, 1), (7, 0)] rfl (by kernel_rfl) (fun R hB hR => ?_)
      iterate 3 refine D.pure rfl rfl rfl rfl rfl rfl ?_
      refine D.index0 (hv.mono (by (repeat (first | exact Mem.le.refl _ | assumption | (apply Mem.le.trans; rotate_left; assumption))))) rfl rfl rfl rfl rfl rfl rfl rfl rfl rfl (by omega) hrow (fun _ => rfl) (fun p40 hp40 => ?_)
      refine D.fieldP0 hp40 rfl rfl rfl rfl rfl rfl rfl rfl rfl rfl (fun _ => rfl) (fun p41 hp41 => ?_)
      refine D.loadP0 hp41 rfl rfl rfl rfl rfl rfl rfl rfl ?_
      refine D.rem rfl rfl rfl rfl rfl rfl (by omega) (by omega) rfl rfl ?_
      refine D.convQ (c := ((x.a.toNat % 4 : Nat) : Int)) rfl rfl rfl rfl rfl rfl rfl rfl (by rw [IntKind.wrap_i64]; omega) rfl rfl ?_
      refine D.i64 (((1 + x.a.toNat % 4 : Nat) : Int)) rfl rfl rfl rfl (by omega) (by omega) (by omega) rfl rfl ?_
      refine D.pure rfl rfl rfl rfl rfl rfl ?_
      refine D.gives (fun _ => (lname_fn _ (upN x) (by omega))) rfl rfl rfl rfl rfl rfl rfl rfl rfl ?_
      refine D.pure rfl rfl rfl rfl rfl rfl ?_
      refine D.gives (fun _ => (lname_fn _ (lowN x) (by omega))) rfl rfl rfl rfl rfl rfl rfl rfl rfl ?_
      refine D.build (mkR x).enc rfl rfl rfl rfl rfl rfl rfl rfl ?_
      refine D.buildSlice [(mkR x).enc] rfl rfl rfl rfl rfl rfl rfl rfl rfl rfl rfl rfl (fun _ => rfl) (fun p51 C51 hle51 hs51 => ?_)
      refine D.append (j := 0) rfl rfl rfl rfl rfl rfl rfl rfl rfl rfl rfl hs51 rfl (by simp only [List.length_singleton, maxLen]; omega) (by simp only [List.length_singleton]; omega) (fun _ => rfl) (fun v52 => ?_)
      refine D.pure rfl rfl rfl rfl rfl rfl ?_
      refine D.done [(0, [], _), (3, [], _), (4, [], _)] ⟨rfl, rfl, rfl, trivial⟩ (hR _ _ _ rfl ?_); clear hR hB R
      refine G.region rfl (fun R hR => ?_)
      refine D.pure rfl rfl rfl rfl rfl rfl ?_
      refine D.i64 (((k + 1 : Nat) : Int)) rfl rfl rfl rfl (by omega) (by omega) (by omega) rfl rfl ?_
      refine D.pure rfl rfl rfl rfl rfl rfl ?_
      refine D.done [(0, [], _), (3, [], _), (4, [], _)] ⟨rfl, rfl, rfl, trivial⟩ (hR _ _ _ rfl ?_); clear hR R
      refine G.eqL (L' := [.arr v52 55 3 (k + 1) (((l.take (k + 1)).map mkR).map Rel.enc).flatten]) (by rw [htk]; simp) ?_
      refine G.again (m' := 8 - (k + 1)) (by omega) (by (repeat (first | exact Mem.le.refl _ | assumption | (apply Mem.le.trans; rotate_left; assumption)))) (fr' := [(0, [], _), (3, [], _), (4, [], _)]) ⟨rfl, rfl, rfl, trivial⟩ ⟨k + 1, v52, ⟨by omega, by omega⟩, rfl, rfl, rfl⟩
  · skip
    simp only [Bool.and_eq_false_iff, decide_eq_false_iff_not] at h14
    refine G.region rfl (fun R hR => ?_)
    iterate 2 refine D.pure rfl rfl rfl rfl rfl rfl ?_
    refine D.done [(2, [], _)] ⟨rfl, trivial⟩ (hR _ _ _ rfl ?_); clear hR R
    refine G.freezeArr 0 (((l.take k).map mkR).map Rel.enc) rfl rfl (by intro r hr; obtain ⟨y, _, rfl⟩ := List.mem_map.1 hr; exact rel_len y) (by simp; omega) (fun Cf hlef hsf => ?_)
    refine G.retN (G.dropAll (G.fin1 rfl rfl ?_))
    refine ⟨rfl, ?_⟩
    have e : l.take k = l.take 8 := by
      rcases h14 with h | h
      · rw [List.take_of_length_le (by omega), List.take_of_length_le (by omega)]
      · congr 1; omega
    rw [makeL, ← e]
    exact hsf
end Go.Proofs.YtcghlfepfcagbaaGreat
