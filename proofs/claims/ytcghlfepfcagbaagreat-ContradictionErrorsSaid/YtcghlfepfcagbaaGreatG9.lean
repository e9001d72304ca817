/- Laws that the proofs of this seat share, part 9. -/
import Derived.Test.YtcghlfepfcagbaaGreatG8
import Derived.Test.YtcghlfepfcagbaaGreatShelf
import Derived.Shelf.Slices.Delete
import Derived.Laws.Bits64b
import Derived.Laws.IdiomRangeMap
namespace Go.Proofs.YtcghlfepfcagbaaGreat
open Go Go.Jog
set_option maxRecDepth 100000

/-! ### Plain: the first smallest cycle, by the law's list -/
theorem short_ex (l : List Rel) : ∃ m, Short l m l.length := by
  by_cases h : ∃ k, ∃ a ∈ arcsOf l, Walk (arcsOf l) k a.up a.lo
  · obtain ⟨m, ⟨a, h1, h2⟩, hmin⟩ := leastN (p := fun k => ∃ a ∈ arcsOf l, Walk (arcsOf l) k a.up a.lo) h
    exact ⟨m + 1, .inr ⟨by omega, ⟨a, h1, arc_lt h1, by simpa using h2⟩, fun b hb _ j hw => by have := hmin j ⟨b, hb, hw⟩; omega⟩⟩
  · exact ⟨0, .inl ⟨rfl, fun a ha _ j hw => h ⟨j, a, ha, hw⟩⟩⟩
theorem cycAll_zero (l : List Rel) : cycAll l 0 = [] := by
  refine cat_nil (fun i _ => ?_)
  unfold cycAt
  rw [if_neg]
  unfold rootB
  split
  · simp only [Bool.and_eq_true, decide_eq_true_eq]
    rintro ⟨⟨_, h1⟩, h2⟩
    omega
  · simp
theorem short_back {l : List Rel} {m : Nat} (hs : Short l m l.length) : 0 < m ↔ Back (arcsOf l) := by
  constructor
  · intro hm
    rcases hs with ⟨h, _⟩ | ⟨_, ⟨a, h1, _, h2⟩, _⟩
    · omega
    · exact ⟨m, a.lo, hm, by rw [show m = (m - 1) + 1 by omega]; exact Walk.succ.2 ⟨a, h1, rfl, h2⟩⟩
  · rintro ⟨k, w, hk, hw⟩
    obtain ⟨j, rfl⟩ : ∃ j, k = j + 1 := ⟨k - 1, by omega⟩
    obtain ⟨a, ha, hl, hw2⟩ := Walk.succ.1 hw
    subst hl
    rcases hs with ⟨_, h⟩ | ⟨h, _⟩
    · exact absurd hw2 (h a ha (arc_lt ha) j)
    · exact h
theorem cycAll_mem {l : List Rel} {m : Nat} (hs : Short l m l.length) (hm : 0 < m) {c : List Nat} : c ∈ cycAll l m ↔ ∃ p, Cyc (arcsOf l) p ∧ p.length = m ∧ nums p = c := by
  have hmin : ∀ a ∈ arcsOf l, ∀ j, Walk (arcsOf l) j a.up a.lo → m ≤ j + 1 := fun a ha j hw => by
    rcases hs with ⟨h3, _⟩ | ⟨_, _, h3⟩
    · omega
    · exact h3 a ha (arc_lt ha) j hw
  have e1 : cycAll l m = cat (cycW l m) l.length := cat_congr (fun i _ => cycAt_eq hm hmin)
  rw [e1]; exact mem_cycW hm
theorem cycL_ne {l : List Rel} (hl : l.length ≤ 100000) : cycL l ≠ [] ↔ Back (arcsOf l) := by
  obtain ⟨m, hs⟩ := short_ex l
  rw [cycL_eq hl hs, ← short_back hs]
  constructor
  · intro h
    rcases Nat.eq_zero_or_pos m with rfl | hm
    · exact absurd (cycAll_zero l) h
    · exact hm
  · intro hm e
    obtain ⟨p, h1, h2⟩ := short_cyc hl hs hm
    have := (cycAll_mem hs hm).2 ⟨p, h1, h2, rfl⟩
    rw [e] at this; cases this
def cyc0 (l : List Rel) : List Nat := (cycL l).headD []
theorem cyc0_least {l : List Rel} {q : List Arc3} (hl : l.length ≤ 100000) (hq : LeastCyc (arcsOf l) q) : cyc0 l = nums q := by
  obtain ⟨m, hs⟩ := short_ex l
  obtain ⟨r, hr⟩ := cyc_head hl hs hq
  unfold cyc0
  rw [cycL_eq hl hs, hr]; rfl
theorem cyc0_nil {l : List Rel} (hl : l.length ≤ 100000) (h : ¬ Back (arcsOf l)) : cyc0 l = [] := by
  have : cycL l = [] := Classical.not_not.1 (fun h2 => h ((cycL_ne hl).1 h2))
  unfold cyc0; rw [this]; rfl
theorem nums_lt {l : List Rel} {p : List Arc3} (h : In (arcsOf l) p) : ∀ k ∈ nums p, k < l.length := fun k hk => by
  obtain ⟨a, ha, rfl⟩ := List.mem_map.1 hk
  exact arc_lt (h a ha)
theorem cyc0_in {l : List Rel} (hl : l.length ≤ 100000) : (∀ k ∈ cyc0 l, k < l.length) ∧ (cyc0 l).length ≤ l.length := by
  by_cases hb : Back (arcsOf l)
  · obtain ⟨m, hs⟩ := short_ex l
    have hm := (short_back hs).2 hb
    have hne := (cycL_ne hl).2 hb
    rw [cycL_eq hl hs] at hne
    unfold cyc0
    rw [cycL_eq hl hs]
    cases hc : cycAll l m with
    | nil => exact absurd hc hne
    | cons c r =>
      obtain ⟨p, h1, h2, h3⟩ := (cycAll_mem hs hm (c := c)).1 (by rw [hc]; simp)
      obtain ⟨a, q, rfl, hi, hch, hlt⟩ := id h1
      simp only [List.headD_cons]
      refine ⟨by rw [← h3]; exact nums_lt hi, ?_⟩
      have hmin : ∀ k w, 0 < k → Walk (arcsOf l) k w w → (a :: q).length ≤ k := fun k w hk hw => by
        rw [h2]
        obtain ⟨j, rfl⟩ : ∃ j, k = j + 1 := ⟨k - 1, by omega⟩
        obtain ⟨b, hb2, hbl, hw2⟩ := Walk.succ.1 hw
        subst hbl
        rcases hs with ⟨h3, _⟩ | ⟨_, _, h3⟩
        · omega
        · exact h3 b hb2 (arc_lt hb2) j hw2
      have hn := short_nodup hi hch hmin
      have hn2 : (nums (a :: q)).Nodup := by
        have hp : (a :: q).Nodup := List.Pairwise.of_map (·.lo) (fun x y h e => h (congrArg (·.lo) e)) hn
        refine List.Pairwise.map _ (fun x y h => h) ?_
        rw [List.pairwise_iff_getElem]
        intro i j hi' hj' hij e
        have := (gok_of hl).ix.inj _ (hi _ (List.getElem_mem hi')) _ (hi _ (List.getElem_mem hj')) e
        have := (List.getElem_inj hp).1 this
        omega
      rw [← h3]
      have := List.Nodup.length_le_of_subset hn2 (l₂ := List.range l.length) (fun k hk => List.mem_range.2 (nums_lt hi k hk))
      simpa using this
  · rw [cyc0_nil hl hb]
    exact ⟨fun k hk => (by cases hk), Nat.zero_le _⟩

/-! ### Lists that are right -/
theorem errs_all {l : List Rel} (h : errs l = 0) : ∀ x ∈ l, errOf x = 0 := by
  induction l with
  | nil => intro x hx; cases hx
  | cons y l ih =>
    simp only [errs] at h
    split at h
    · rename_i h1
      intro x hx
      rcases List.mem_cons.1 hx with rfl | hx
      · exact h1
      · exact ih h x hx
    · rename_i h1; exact absurd h h1
theorem errU_sub {l m : List Rel} (h : errU l = 0) (hm : m.length ≤ l.length) (hs : ∀ x ∈ m, x ∈ l) : errU m = 0 := by
  have h1 := errU_len h
  have h2 := errU_names h
  have h3 : errs l = 0 := by
    unfold errU at h
    rw [if_neg (by omega)] at h
    split at h
    · rename_i h4; exact absurd h h4
    · rename_i h4; exact Classical.not_not.1 h4
  have h4 : (unitsL m).length ≤ (unitsL l).length := List.Nodup.length_le_of_subset (unitsL_nodup m) (fun s hs2 => by
    rw [unitsL, mem_setL, mem_namesOf] at hs2 ⊢
    obtain ⟨x, hx, hs3⟩ := hs2
    exact ⟨x, hs x hx, hs3⟩)
  unfold errU
  rw [if_neg (by omega), if_neg (by rw [errs_zero (fun x hx => errs_all h3 x (hs x hx))]; simp), if_neg (by omega)]
theorem woL_len (l : List Rel) (st : List Nat) : (woL l st).length ≤ l.length := woAt_len l st l.length
theorem cyc_ok {C : Mem} {l : List Rel} {r : Value} (hE : errU l = 0) (h : CycRes C l r) : ∃ A c f, r = .tuple #[.slice A (cyc0 l).length c, .bool f, .int .i64 0] ∧ Sl C 1 (.slice A (cyc0 l).length c) ((cyc0 l).map encN) ∧ (f = true ↔ cycL l ≠ []) := by
  have hl : l.length ≤ 100000 := by have := errU_len hE; omega
  rcases h with ⟨h, _⟩ | ⟨_, h, rfl⟩ | ⟨_, q, v, h1, rfl, h3⟩
  · exact absurd hE h
  · have hb : ¬ Back (arcsOf l) := fun ⟨k, w, h1, h2⟩ => h k w h1 h2
    rw [cyc0_nil hl hb]
    exact ⟨none, 0, false, rfl, Sl.nilS _ _, by rw [cycL_ne hl]; exact ⟨fun h => (by cases h), fun h => absurd h hb⟩⟩
  · rw [cyc0_least hl h1]
    obtain ⟨A, c, rfl, _⟩ := id h3
    obtain ⟨u, h4, h5⟩ := h1.1.walk
    have e : ((nums q).map encN).length = (nums q).length := by simp
    rw [e] at h3 ⊢
    exact ⟨A, c, true, rfl, h3, by rw [cycL_ne hl]; exact ⟨fun _ => ⟨_, u, h4, h5⟩, fun _ => rfl⟩⟩

/-! ### The sets -/
def leftI (gone : List Nat) (n : Nat) : List Nat := idxs (fun i => decide (i ∉ gone)) n
theorem left_len (l : List Rel) (gone : List Nat) : (leftI gone l.length).length = (woL l gone).length := by
  have : ∀ n, n ≤ l.length → (leftI gone n).length = (cat (woAt l gone) n).length := by
    intro n
    induction n with
    | zero => intro _; rfl
    | succ n ih =>
      intro h
      unfold leftI at ih ⊢
      rw [cat_succ, List.length_append, ← ih (by omega)]
      unfold woAt
      rw [List.getElem?_eq_getElem (by omega)]
      dsimp only
      by_cases hm : n ∈ gone
      · rw [idxs_false (by simp [hm]), oneIf_false (by simp [hm])]; rfl
      · rw [idxs_true (by simp [hm]), oneIf_true (by simp [hm]), List.length_append]; rfl
  exact this l.length (Nat.le_refl _)
def setsF (l : List Rel) : Nat → List Nat → List (List Nat)
  | 0, g => if cycL (woL l g) = [] then [sortN g] else []
  | m + 1, g => if cycL (woL l g) = [] then [sortN g] else (cyc0 (woL l g)).flatMap fun k => setsF l m (g ++ [(leftI g l.length).getD k 0])
theorem setsF_len (l : List Rel) (hl : l.length ≤ 200) : ∀ (m : Nat) (g : List Nat), (setsF l m g).length ≤ 200 ^ m
  | 0, g => by
    simp only [setsF]
    split <;> simp
  | m + 1, g => by
    simp only [setsF]
    split
    · exact Nat.pow_pos (by decide)
    · have h1 := (cyc0_in (l := woL l g) (by have := woL_len l g; omega)).2
      have h2 := woL_len l g
      generalize cyc0 (woL l g) = ks at h1
      have : ∀ (ks : List Nat), (ks.flatMap fun k => setsF l m (g ++ [(leftI g l.length).getD k 0])).length ≤ ks.length * 200 ^ m := by
        intro ks
        induction ks with
        | nil => simp
        | cons k ks ih =>
          have := setsF_len l hl m (g ++ [(leftI g l.length).getD k 0])
          rw [List.flatMap_cons, List.length_append, List.length_cons, Nat.add_mul]; omega
      refine Nat.le_trans (this ks) ?_
      rw [Nat.pow_succ, Nat.mul_comm]
      exact Nat.mul_le_mul_left _ (by omega)
theorem sortN_mem {g : List Nat} {x : Nat} : x ∈ sortN g ↔ x ∈ g := (List.mergeSort_perm g _).mem_iff
theorem setsF_small (l : List Rel) : ∀ (m : Nat) (g : List Nat), ∀ s ∈ setsF l m g, s.length ≤ g.length + m
  | 0, g, s, h => by
    simp only [setsF] at h
    split at h
    · rw [List.mem_singleton.1 h]; simp [sortN]
    · cases h
  | m + 1, g, s, h => by
    simp only [setsF] at h
    split at h
    · rw [List.mem_singleton.1 h]; simp [sortN]
    · obtain ⟨k, _, h⟩ := List.mem_flatMap.1 h
      have := setsF_small l m _ s h
      simp at this; omega

theorem clone_g (C : Mem) (v : Value) (c : List Nat) (hv : Sl C 1 v (c.map encN)) (hl : c.length ≤ 2000000) :
    Jog.Fn cx.P 39 [v] C [] fun u _C' L' => L' = [.arr u 3 1 c.length (c.map intN)] := by
  obtain ⟨A, cp, rfl, hlc, hcm, _, hcells⟩ := id hv
  simp only [List.length_map] at hv hlc ⊢
  refine Fn.intro (by kernel_rfl) Tryz.func39 rfl 8 rfl rfl (fun w0 => ?_)
  refine G.region rfl (fun R hR => ?_)
  refine D.pure rfl rfl rfl rfl rfl rfl ?_
  refine D.done [(0, [], _)] ⟨rfl, trivial⟩ (hR _ _ _ rfl ?_); clear hR R
  refine G.region rfl (fun R hR => ?_)
  refine D.pure rfl rfl rfl rfl rfl rfl ?_
  refine D.nilEq rfl rfl rfl rfl rfl rfl rfl rfl rfl ?_
  refine D.done [(0, [], _), (4, [], _)] ⟨rfl, rfl, trivial⟩ (hR _ _ _ rfl ?_); clear hR R
  refine G.cond rfl (fun h4 => ?_) (fun h4 => ?_)
  · skip
    have hc0 : c = [] := by
      rcases Nat.eq_zero_or_pos c.length with h | h
      · exact List.eq_nil_of_length_eq_zero h
      · exfalso
        obtain ⟨a, ha, _⟩ := hcells 0 (encN (hAt c 0)) (by rw [List.getElem?_map, get_hAt h]; rfl)
        subst ha
        simp at h4
    subst hc0
    refine G.region rfl (fun R hR => ?_)
    refine D.pure rfl rfl rfl rfl rfl rfl ?_
    refine D.done [(2, [], _)] ⟨rfl, trivial⟩ (hR _ _ _ rfl ?_); clear hR R
    refine G.nilArr 3 1 ?_
    refine G.retN (G.fin1 rfl rfl ?_)
    rfl
  · skip
    refine G.region rfl (fun R hR => ?_)
    refine D.buildArr [] rfl rfl rfl rfl rfl rfl rfl rfl rfl rfl rfl rfl (fun _ => rfl) (fun b5 => ?_)
    refine D.pure rfl rfl rfl rfl rfl rfl ?_
    refine D.append (j := 0) rfl rfl rfl rfl rfl rfl rfl rfl rfl rfl rfl hv (nat_oneB c) (by simp only [List.length_nil, List.length_map, maxLen]; omega) (by simp only [List.length_nil, List.length_map]; omega) (fun _ => rfl) (fun v7 => ?_)
    refine D.pure rfl rfl rfl rfl rfl rfl ?_
    refine D.done [(2, [], _)] ⟨rfl, trivial⟩ (hR _ _ _ rfl ?_); clear hR R
    refine G.retN (G.fin1 rfl rfl ?_)
    rw [← nats_flat]; simp

set_option maxHeartbeats 8000000 in
theorem sets_fn (l : List Rel) (hE : errU l = 0) (hsh : ∀ x ∈ l, x.short) : ∀ (m : Nat) (C : Mem) (v vg : Value) (gone : List Nat) (b : Nat) (w : Value) (ov : List Value) (outs : List (List Nat)),
    Sl C 3 v (l.map Rel.enc) → Sl C 1 vg (gone.map encN) → gone.length + m ≤ 10 → OutN C ov outs → outs.length + 200 ^ m ≤ 10000000000 →
    Jog.Fn cx.P 43 [v, vg, .int .i64 m, ptr b] C [nObj b w, nArr w ov] fun u C' L' =>
      ∃ w' ov', u = .tuple #[] ∧ L' = [nObj b w', nArr w' ov'] ∧ OutN C' ov' (outs ++ setsF l m gone) := by
  have hl200 := errU_len hE
  have hl5 : l.length ≤ 100000 := by omega
  intro m
  induction m using Nat.strongRecOn with
  | _ m ih =>
  intro C v vg gone b w ov outs hv hvg hgl hout hob
  obtain ⟨A, c, rfl, _⟩ := id hv
  obtain ⟨Ag, cg, rfl, _⟩ := id hvg
  simp only [List.length_map] at hv hvg ⊢
  have hwl := woL_len l gone
  have hEw : errU (woL l gone) = 0 := errU_sub hE hwl (fun x hx => mem_woL hx)
  have hshw : ∀ x ∈ woL l gone, x.short := fun x hx => hsh x (mem_woL hx)
  have hov := hout.1
  have hob0 : outs.length ≤ 10000000000 := Nat.le_trans (Nat.le_add_right _ _) hob
  obtain ⟨hcin, hcl⟩ := cyc0_in (l := woL l gone) (by omega)
  refine Fn.intro (by kernel_rfl) Tryz.func43 rfl 73 rfl rfl (fun w0 => ?_)
  refine G.eqL (L' := [.obj b (.cells ⟨[w]⟩ 27 (0, 0)), .arr w 31 1 ov.length ov]) rfl ?_
  refine G.region rfl (fun R hR => ?_)
  iterate 2 refine D.pure rfl rfl rfl rfl rfl rfl ?_
  refine D.callP (without_fn _ _ _ l gone (hv.mono (by (repeat (first | exact Mem.le.refl _ | assumption | (apply Mem.le.trans; rotate_left; assumption))))) hl5 (hvg.mono (by (repeat (first | exact Mem.le.refl _ | assumption | (apply Mem.le.trans; rotate_left; assumption))))) (by omega)) rfl rfl rfl rfl rfl rfl rfl (fun _ => rfl) (fun v18 C18 hle18 hq18 => ?_)
  refine D.pure rfl rfl rfl rfl rfl rfl ?_
  refine D.done [(0, [], _), (1, [], _), (2, [], _), (3, [], _), (8, [], _)] ⟨rfl, rfl, rfl, rfl, rfl, trivial⟩ (hR _ _ _ rfl ?_); clear hR R
  refine G.region rfl (fun R hR => ?_)
  refine D.pure rfl rfl rfl rfl rfl rfl ?_
  refine D.callP (cycle_fn _ _ (woL l gone) hq18 (by omega) hshw) rfl rfl rfl rfl rfl rfl rfl (fun _ => rfl) (fun v21 C21 hle21 hq21 => ?_)
  obtain ⟨Ac, cc, fc, rfl, hcs, hfc⟩ := cyc_ok hEw hq21
  iterate 7 refine D.pure rfl rfl rfl rfl rfl rfl ?_
  refine D.done [(0, [], _), (1, [], _), (2, [], _), (3, [], _), (9, [], _), (10, [], _)] ⟨rfl, rfl, rfl, rfl, rfl, rfl, trivial⟩ (hR _ _ _ rfl ?_); clear hR R
  refine G.region rfl (fun R hR => ?_)
  iterate 2 refine D.pure rfl rfl rfl rfl rfl rfl ?_
  refine D.done [(0, [], _), (1, [], _), (2, [], _), (3, [], _), (9, [], _), (26, [], _)] ⟨rfl, rfl, rfl, rfl, rfl, rfl, trivial⟩ (hR _ _ _ rfl ?_); clear hR R
  refine G.cond rfl (fun h26 => ?_) (fun h26 => ?_)
  · skip
    have h26' : cycL (woL l gone) = [] := by
      have : fc = false := by simpa using h26
      exact Classical.not_not.1 (fun h => by rw [hfc.2 h] at this; cases this)
    have hsf : setsF l m gone = [sortN gone] := by cases m <;> simp only [setsF, if_pos h26']
    refine G.draw [0, 1, 2, 3, 4, 5, 6, 7, 8, 9, 10] [] rfl (by kernel_rfl) (fun R hB hR => ?_)
    iterate 3 refine D.pure rfl rfl rfl rfl rfl rfl ?_
    refine D.loadL (.head _) rfl rfl rfl rfl rfl rfl rfl rfl rfl ?_
    refine D.pure rfl rfl rfl rfl rfl rfl ?_
    refine D.callP (values_fn _ _ _ _) rfl rfl rfl rfl rfl rfl rfl (fun _ => rfl) (fun v32 C32 hle32 hq32 => ?_)
    obtain ⟨bv, rfl, hbv⟩ := hq32
    refine D.callP (sorted_fn _ bv _ gone (Mem.get hbv (by (repeat (first | exact Mem.le.refl _ | assumption | (apply Mem.le.trans; rotate_left; assumption))))) (hvg.mono (by (repeat (first | exact Mem.le.refl _ | assumption | (apply Mem.le.trans; rotate_left; assumption))))) (by omega)) rfl rfl rfl rfl rfl rfl rfl (fun _ => rfl) (fun v33 C33 hle33 hq33 => ?_)
    obtain ⟨As, cs, rfl, _⟩ := id hq33
    refine D.buildSlice [[.slice As ((sortN gone).map encN).length cs]] rfl rfl rfl rfl rfl rfl rfl rfl rfl rfl rfl rfl (fun _ => rfl) (fun p34 C34 hle34 hs34 => ?_)
    refine D.appendF (j := 1) rfl rfl rfl rfl rfl rfl rfl rfl rfl rfl rfl hs34 rfl (by simp only [List.length_singleton, maxLen]; omega) (by simp only [List.length_singleton]; omega) (fun _ => rfl) (fun A35 n35 c35 => ?_)
    refine D.pure rfl rfl rfl rfl rfl rfl ?_
    refine D.store (j := 1) rfl rfl rfl rfl rfl rfl rfl rfl rfl rfl rfl rfl ?_
    refine D.done [] trivial (hR _ _ _ rfl ?_); clear hR hB R
    refine G.eqL (L' := [nObj b (.slice A35 n35 c35), nArr (.slice A35 n35 c35) (ov ++ [Value.slice As ((sortN gone).map encN).length cs])]) (by simp; rfl) ?_
    refine G.retN (G.fin0 rfl  ?_)
    exact ⟨_, _, rfl, rfl, by rw [hsf]; exact (hout.mono (by (repeat (first | exact Mem.le.refl _ | assumption | (apply Mem.le.trans; rotate_left; assumption))))).snoc (hq33.mono (by (repeat (first | exact Mem.le.refl _ | assumption | (apply Mem.le.trans; rotate_left; assumption)))))⟩
  · skip
    have h26' : ¬ cycL (woL l gone) = [] := by
      have : fc = true := by simpa using h26
      exact hfc.1 this
    refine G.region rfl (fun R hR => ?_)
    iterate 2 refine D.pure rfl rfl rfl rfl rfl rfl ?_
    refine D.done [(0, [], _), (1, [], _), (2, [], _), (3, [], _), (9, [], _), (38, [], _)] ⟨rfl, rfl, rfl, rfl, rfl, rfl, trivial⟩ (hR _ _ _ rfl ?_); clear hR R
    refine G.cond rfl (fun h38 => ?_) (fun h38 => ?_)
    · skip
      have h38' : m = 0 := by
        have : (m : Int) = 0 := by simpa using h38
        omega
      subst h38'
      refine G.retN (G.fin0 rfl  ?_)
      exact ⟨_, ov, rfl, rfl, by simp only [setsF, if_neg h26', List.append_nil]; exact hout.mono (by (repeat (first | exact Mem.le.refl _ | assumption | (apply Mem.le.trans; rotate_left; assumption))))⟩
    · skip
      have h38' : ¬ m = 0 := by
        have : ¬ (m : Int) = 0 := by simpa using h38
        omega
      obtain ⟨m, rfl⟩ : ∃ q, m = q + 1 := ⟨m - 1, by omega⟩
      have hm9 : m ≤ 9 := by omega
      have hpow : 200 ^ (m + 1) = 200 * 200 ^ m := by rw [Nat.pow_succ, Nat.mul_comm]
      obtain ⟨P, hP⟩ : ∃ P : Nat, 200 ^ m = P := ⟨_, rfl⟩
      rw [hP] at hpow
      refine G.region rfl (fun R hR => ?_)
      refine D.pure rfl rfl rfl rfl rfl rfl ?_
      refine D.done [(0, [], _), (1, [], _), (2, [], _), (3, [], _), (9, [], _), (12, [], _)] ⟨rfl, rfl, rfl, rfl, rfl, rfl, trivial⟩ (hR _ _ _ rfl ?_); clear hR R
      refine G.region rfl (fun R hR => ?_)
      iterate 3 refine D.pure rfl rfl rfl rfl rfl rfl ?_
      refine D.done [(0, [], _), (1, [], _), (2, [], _), (3, [], _), (9, [], _), (12, [], _), (40, [], _), (41, [], _)] ⟨rfl, rfl, rfl, rfl, rfl, rfl, rfl, rfl, trivial⟩ (hR _ _ _ rfl ?_); clear hR R
      refine G.nilArr 3 1 ?_
      refine G.loop (fun fr C' L' μ => ∃ (i : Nat) (w12 : Value), (i ≤ l.length) ∧ fr = [(0, [], .slice A l.length c), (1, [], .slice Ag gone.length cg), (2, [], .int .i64 ((m + 1 : Nat) : Int)), (3, [], .pointer (some ⟨b, 0, none⟩)), (9, [], .slice Ac (cyc0 (woL l gone)).length cc), (12, [], w12), (40, [], .int .i64 l.length), (41, [], .int .i64 i)] ∧ L' = [.arr w12 3 1 (leftI gone i).length ((leftI gone i).map intN), .obj b (.cells ⟨[w]⟩ 27 (0, 0)), .arr w 31 1 ov.length ov] ∧ μ = l.length - i) (fr' := [(0, [], _), (1, [], _), (2, [], _), (3, [], _), (9, [], _), (12, [], _), (40, [], _), (41, [], _)]) ⟨rfl, rfl, rfl, rfl, rfl, rfl, rfl, rfl, trivial⟩ ⟨0, _, Nat.zero_le _, rfl, rfl, rfl⟩ (fun fr C0' L0' m hle0 hI => ?_)
      obtain ⟨i, w12, hi, rfl, rfl, rfl⟩ := hI
      refine G.region rfl (fun R hR => ?_)
      refine D.pure rfl rfl rfl rfl rfl rfl ?_
      refine D.done [(0, [], _), (1, [], _), (2, [], _), (3, [], _), (9, [], _), (12, [], _), (40, [], _), (41, [], _), (42, [], _)] ⟨rfl, rfl, rfl, rfl, rfl, rfl, rfl, rfl, rfl, trivial⟩ (hR _ _ _ rfl ?_); clear hR R
      refine G.cond rfl (fun h42 => ?_) (fun h42 => ?_)
      · skip
        simp only [decide_eq_true_eq] at h42
        have hil : i < l.length := by omega
        have hlf := idxs_len (fun i => decide (i ∉ gone)) i
        refine G.region rfl (fun R hR => ?_)
        iterate 2 refine D.pure rfl rfl rfl rfl rfl rfl ?_
        refine D.done [(0, [], _), (1, [], _), (2, [], _), (3, [], _), (9, [], _), (12, [], _), (13, [], _), (40, [], _), (41, [], _)] ⟨rfl, rfl, rfl, rfl, rfl, rfl, rfl, rfl, rfl, trivial⟩ (hR _ _ _ rfl ?_); clear hR R
        refine G.region rfl (fun R hR => ?_)
        iterate 2 refine D.pure rfl rfl rfl rfl rfl rfl ?_
        refine D.gives2 (contains_fn _ _ gone i (hvg.mono (by (repeat (first | exact Mem.le.refl _ | assumption | (apply Mem.le.trans; rotate_left; assumption))))) (by omega)) rfl rfl rfl rfl rfl rfl rfl (fun _ => rfl) ?_
        refine D.pure rfl rfl rfl rfl rfl rfl ?_
        refine D.done [(0, [], _), (1, [], _), (2, [], _), (3, [], _), (9, [], _), (12, [], _), (13, [], _), (40, [], _), (41, [], _), (47, [], _)] ⟨rfl, rfl, rfl, rfl, rfl, rfl, rfl, rfl, rfl, rfl, trivial⟩ (hR _ _ _ rfl ?_); clear hR R
        refine G.cond rfl (fun h47 => ?_) (fun h47 => ?_)
        · skip
          have h47' : i ∉ gone := by simpa using h47
          refine G.region rfl (fun R hR => ?_)
          iterate 2 refine D.pure rfl rfl rfl rfl rfl rfl ?_
          refine D.buildSlice [encN i] rfl rfl rfl rfl rfl rfl rfl rfl rfl rfl rfl rfl (fun _ => rfl) (fun p50 C50 hle50 hs50 => ?_)
          refine D.append (j := 0) rfl rfl rfl rfl rfl rfl rfl rfl rfl rfl rfl hs50 rfl (by simp only [List.length_singleton, maxLen, leftI]; omega) (by simp only [List.length_singleton, leftI]; omega) (fun _ => rfl) (fun v51 => ?_)
          refine D.pure rfl rfl rfl rfl rfl rfl ?_
          refine D.done [(0, [], _), (1, [], _), (2, [], _), (3, [], _), (9, [], _), (12, [], _), (40, [], _), (41, [], _)] ⟨rfl, rfl, rfl, rfl, rfl, rfl, rfl, rfl, trivial⟩ (hR _ _ _ rfl ?_); clear hR R
          refine G.region rfl (fun R hR => ?_)
          refine D.i64 _ rfl rfl rfl rfl rfl (by omega) (by omega) rfl rfl ?_
          refine D.pure rfl rfl rfl rfl rfl rfl ?_
          refine D.done [(0, [], _), (1, [], _), (2, [], _), (3, [], _), (9, [], _), (12, [], _), (40, [], _), (41, [], _)] ⟨rfl, rfl, rfl, rfl, rfl, rfl, rfl, rfl, trivial⟩ (hR _ _ _ rfl ?_); clear hR R
          refine G.eqL (L' := [.arr v51 3 1 (leftI gone (i + 1)).length ((leftI gone (i + 1)).map intN), .obj b (.cells ⟨[w]⟩ 27 (0, 0)), .arr w 31 1 ov.length ov]) (by
            unfold leftI
            rw [idxs_true (by simp [h47'])]; simp [encN, intN]) ?_
          refine G.again (m' := l.length - (i + 1)) (by omega) (by (repeat (first | exact Mem.le.refl _ | assumption | (apply Mem.le.trans; rotate_left; assumption)))) (fr' := [(0, [], _), (1, [], _), (2, [], _), (3, [], _), (9, [], _), (12, [], _), (40, [], _), (41, [], _)]) ⟨rfl, rfl, rfl, rfl, rfl, rfl, rfl, rfl, trivial⟩ ⟨i + 1, v51, by omega, rfl, rfl, rfl⟩
        · skip
          have h47' : i ∈ gone := by simpa using h47
          refine G.region rfl (fun R hR => ?_)
          refine D.i64 _ rfl rfl rfl rfl rfl (by omega) (by omega) rfl rfl ?_
          refine D.pure rfl rfl rfl rfl rfl rfl ?_
          refine D.done [(0, [], _), (1, [], _), (2, [], _), (3, [], _), (9, [], _), (12, [], _), (40, [], _), (41, [], _)] ⟨rfl, rfl, rfl, rfl, rfl, rfl, rfl, rfl, trivial⟩ (hR _ _ _ rfl ?_); clear hR R
          refine G.eqL (L' := [.arr w12 3 1 (leftI gone (i + 1)).length ((leftI gone (i + 1)).map intN), .obj b (.cells ⟨[w]⟩ 27 (0, 0)), .arr w 31 1 ov.length ov]) (by
            unfold leftI
            rw [idxs_false (by simp [h47'])]) ?_
          refine G.again (m' := l.length - (i + 1)) (by omega) (by (repeat (first | exact Mem.le.refl _ | assumption | (apply Mem.le.trans; rotate_left; assumption)))) (fr' := [(0, [], _), (1, [], _), (2, [], _), (3, [], _), (9, [], _), (12, [], _), (40, [], _), (41, [], _)]) ⟨rfl, rfl, rfl, rfl, rfl, rfl, rfl, rfl, trivial⟩ ⟨i + 1, w12, by omega, rfl, rfl, rfl⟩
      · skip
        simp only [decide_eq_false_iff_not] at h42
        have hil : i = l.length := by omega
        subst hil
        refine G.freezeArr 0 ((leftI gone l.length).map encN) rfl (nats_flat _).symm (by intro r hr; obtain ⟨y, _, rfl⟩ := List.mem_map.1 hr; rfl) (by simp) (fun Cw hlew hws => ?_)
        obtain ⟨Aw, cw, hqe, _⟩ := id hws
        rw [List.length_map] at hqe
        subst hqe
        obtain ⟨FF, hFF⟩ : ∃ FF : Nat → List (List Nat), (fun k => setsF l m (gone ++ [(leftI gone l.length).getD k 0])) = FF := ⟨_, rfl⟩
        have hFl : ∀ k, (FF k).length ≤ P := fun k => by rw [← hFF, ← hP]; exact setsF_len l hl200 m _
        have hsf : setsF l (m + 1) gone = (cyc0 (woL l gone)).flatMap FF := by rw [← hFF]; simp only [setsF, if_neg h26']
        obtain ⟨cy, hcy⟩ : ∃ cy, cyc0 (woL l gone) = cy := ⟨_, rfl⟩
        rw [hcy] at hsf hcs hcin hcl ⊢
        have hcl2 : cy.length ≤ 200 := by omega
        refine G.region rfl (fun R hR => ?_)
        iterate 3 refine D.pure rfl rfl rfl rfl rfl rfl ?_
        refine D.done [(0, [], _), (1, [], _), (2, [], _), (3, [], _), (12, [], _), (53, [], _), (54, [], _), (55, [], _)] ⟨rfl, rfl, rfl, rfl, rfl, rfl, rfl, rfl, trivial⟩ (hR _ _ _ rfl ?_); clear hR R
        refine G.loop (fun fr C' L' μ => ∃ (j : Nat) (w : Value) (ov : List Value) (outs2 : List (List Nat)), (j ≤ cy.length ∧ OutN C' ov outs2 ∧ outs2 = outs ++ (cy.take j).flatMap FF ∧ outs2.length + (200 - j) * P ≤ 10000000000) ∧ fr = [(0, [], .slice A l.length c), (1, [], .slice Ag gone.length cg), (2, [], .int .i64 ((m + 1 : Nat) : Int)), (3, [], .pointer (some ⟨b, 0, none⟩)), (12, [], .slice Aw (leftI gone l.length).length cw), (53, [], .slice Ac cy.length cc), (54, [], .int .i64 cy.length), (55, [], .int .i64 j)] ∧ L' = [.obj b (.cells ⟨[w]⟩ 27 (0, 0)), .arr w 31 1 ov.length ov] ∧ μ = cy.length - j) (fr' := [(0, [], _), (1, [], _), (2, [], _), (3, [], _), (12, [], _), (53, [], _), (54, [], _), (55, [], _)]) ⟨rfl, rfl, rfl, rfl, rfl, rfl, rfl, rfl, trivial⟩ ⟨0, w, ov, outs, ⟨Nat.zero_le _, hout.mono (by (repeat (first | exact Mem.le.refl _ | assumption | (apply Mem.le.trans; rotate_left; assumption)))), by simp, by rw [hpow] at hob; simpa using hob⟩, rfl, rfl, rfl⟩ (fun fr C1' L1' m hle1 hI => ?_)
        obtain ⟨j, w, ov, outs2, ⟨hj, hout2, ho2, hob2⟩, rfl, rfl, rfl⟩ := hI
        refine G.region rfl (fun R hR => ?_)
        refine D.pure rfl rfl rfl rfl rfl rfl ?_
        refine D.done [(0, [], _), (1, [], _), (2, [], _), (3, [], _), (12, [], _), (53, [], _), (54, [], _), (55, [], _), (56, [], _)] ⟨rfl, rfl, rfl, rfl, rfl, rfl, rfl, rfl, rfl, trivial⟩ (hR _ _ _ rfl ?_); clear hR R
        refine G.cond rfl (fun h56 => ?_) (fun h56 => ?_)
        · skip
          simp only [decide_eq_true_eq] at h56
          have hjl : j < cy.length := by omega
          obtain ⟨k, hk⟩ : ∃ k, cy[j]? = some k := ⟨cy[j], List.getElem?_eq_getElem hjl⟩
          have hrk : (cy.map encN)[j]? = some (encN k) := by rw [List.getElem?_map, hk]; rfl
          have hkl := hcin k (List.mem_of_getElem? hk)
          rw [← left_len] at hkl
          obtain ⟨wk, hwk⟩ : ∃ wk, (leftI gone l.length)[k]? = some wk := ⟨(leftI gone l.length)[k], List.getElem?_eq_getElem hkl⟩
          have hrw : ((leftI gone l.length).map encN)[k]? = some (encN wk) := by rw [List.getElem?_map, hwk]; rfl
          have hgd : (leftI gone l.length).getD k 0 = wk := by rw [List.getD_eq_getElem?_getD, hwk]; rfl
          have hFk : FF k = setsF l m (gone ++ [wk]) := by rw [← hFF]; simp only; rw [hgd]
          have htk : (cy.take (j + 1)).flatMap FF = (cy.take j).flatMap FF ++ FF k := by rw [List.take_add_one, hk, List.flatMap_append]; simp
          have hmul : (200 - j) * P = (200 - (j + 1)) * P + P := by
            rw [show 200 - j = (200 - (j + 1)) + 1 by omega, Nat.add_mul, Nat.one_mul]
          refine G.region rfl (fun R hR => ?_)
          refine D.index0 (hcs.mono (by (repeat (first | exact Mem.le.refl _ | assumption | (apply Mem.le.trans; rotate_left; assumption))))) rfl rfl rfl rfl rfl rfl rfl rfl rfl rfl (by omega) hrk (fun _ => rfl) (fun p57 hp57 => ?_)
          refine D.loadP0 hp57 rfl rfl rfl rfl rfl rfl rfl rfl ?_
          refine D.pure rfl rfl rfl rfl rfl rfl ?_
          refine D.done [(0, [], _), (1, [], _), (2, [], _), (3, [], _), (12, [], _), (15, [], _), (53, [], _), (54, [], _), (55, [], _)] ⟨rfl, rfl, rfl, rfl, rfl, rfl, rfl, rfl, rfl, trivial⟩ (hR _ _ _ rfl ?_); clear hR R
          refine G.cut (fun fr C' L' μ => ∃ (w' : Value) (ov' : List Value), (OutN C' ov' (outs2 ++ setsF l m (gone ++ [wk]))) ∧ fr = [(0, [], .slice A l.length c), (1, [], .slice Ag gone.length cg), (2, [], .int .i64 ((m + 1 : Nat) : Int)), (3, [], .pointer (some ⟨b, 0, none⟩)), (12, [], .slice Aw (leftI gone l.length).length cw), (53, [], .slice Ac cy.length cc), (54, [], .int .i64 cy.length), (55, [], .int .i64 j)] ∧ L' = [.obj b (.cells ⟨[w']⟩ 27 (0, 0)), .arr w' 31 1 ov'.length ov']) ?_ (fun fr Cr15 Lr15 μ hler15 hI => ?_)
          · skip
            refine G.drawT (.cut [0, 1, 3, 4, 5, 9, 10, 11] (.alt 2 (.fin [6, 7, 8, 12]) (.alt 6 (.cut [] (.alt 2 (.fin [7, 8, 12]) (.alt 7 (.fin [2, 8, 12]) .stop))) .stop))) [(2, 3), (12, 3)] rfl rfl (by kernel_rfl) (fun R hB hR hH => ?_)
            iterate 4 refine D.pure rfl rfl rfl rfl rfl rfl ?_
            refine D.index0 (hws.mono (by (repeat (first | exact Mem.le.refl _ | assumption | (apply Mem.le.trans; rotate_left; assumption))))) rfl rfl rfl rfl rfl rfl rfl rfl rfl rfl (by omega) hrw (fun _ => rfl) (fun p64 hp64 => ?_)
            refine D.pure rfl rfl rfl rfl rfl rfl ?_
            refine D.i64 (((m : Nat) : Int)) rfl rfl rfl rfl (by omega) (by omega) (by omega) rfl rfl ?_
            refine D.pure rfl rfl rfl rfl rfl rfl ?_
            refine D.fork hH rfl ⟨?_, ?_, trivial⟩
            · skip
              refine D.call (clone_g _ _ gone (hvg.mono (by (repeat (first | exact Mem.le.refl _ | assumption | (apply Mem.le.trans; rotate_left; assumption))))) (by omega)) rfl (.inr (by decide)) rfl rfl rfl rfl rfl rfl (List.Perm.refl _) (fun _ => rfl) (fun v61 C61 L61 hle61 hq61 => ?_)
              first | refine D.loadP0 hp64 rfl rfl rfl rfl rfl rfl rfl rfl ?_ | refine D.loadP0 (hp64.mono (by (repeat (first | exact Mem.le.refl _ | assumption | (apply Mem.le.trans; rotate_left; assumption))))) rfl rfl rfl rfl rfl rfl rfl rfl ?_
              refine D.buildSlice [encN wk] rfl rfl rfl rfl rfl rfl rfl rfl rfl rfl rfl rfl (fun _ => rfl) (fun p66 C66 hle66 hs66 => ?_)
              subst hq61
              refine D.append (j := 0) rfl rfl rfl rfl rfl rfl rfl rfl rfl rfl rfl (hs66.mono (by (repeat (first | exact Mem.le.refl _ | assumption | (apply Mem.le.trans; rotate_left; assumption))))) rfl (by simp only [List.length_singleton, maxLen]; omega) (by simp only [List.length_singleton]; omega) (fun _ => rfl) (fun v67 => ?_)
              refine D.call (Fn.give (v := v67) (t := 3) (size := 1) (len := (gone ++ [wk]).length) ((gone ++ [wk]).map encN) (by kernel_rfl) (by intro r hr; obtain ⟨y, _, rfl⟩ := List.mem_map.1 hr; rfl) (by simp) (fun C' hle hs => ih m (by omega) C' _ v67 (gone ++ [wk]) b w ov outs2 (hv.mono (by (repeat (first | exact Mem.le.refl _ | assumption | (apply Mem.le.trans; rotate_left; assumption))))) hs (by simp; omega) (hout2.mono (by (repeat (first | exact Mem.le.refl _ | assumption | (apply Mem.le.trans; rotate_left; assumption))))) (by rw [hP]; omega))) rfl (.inr (by decide)) rfl rfl rfl rfl rfl rfl (List.Perm.of_eq (show _ = _ ++ ([] : List Ent) from by simp [encN, nats_flat])) (fun _ => rfl) (fun v71 C71 L71 hle71 hq71 => ?_)
              refine D.done [(0, [], _), (1, [], _), (2, [], _), (3, [], _), (12, [], _), (53, [], _), (54, [], _), (55, [], _)] ⟨rfl, rfl, rfl, rfl, rfl, rfl, rfl, rfl, trivial⟩ (hR _ _ _ rfl ?_); clear hR hB hH R
              obtain ⟨w', ov', rfl, rfl, hout'⟩ := hq71
              exact G.meet 0 (by (repeat (first | exact Mem.le.refl _ | assumption | (apply Mem.le.trans; rotate_left; assumption)))) (fr' := [(0, [], _), (1, [], _), (2, [], _), (3, [], _), (12, [], _), (53, [], _), (54, [], _), (55, [], _)]) ⟨rfl, rfl, rfl, rfl, rfl, rfl, rfl, rfl, trivial⟩ ⟨w', ov', hout', rfl, rfl⟩
            · skip
              first | refine D.loadP0 hp64 rfl rfl rfl rfl rfl rfl rfl rfl ?_ | refine D.loadP0 (hp64.mono (by (repeat (first | exact Mem.le.refl _ | assumption | (apply Mem.le.trans; rotate_left; assumption))))) rfl rfl rfl rfl rfl rfl rfl rfl ?_
              refine D.fork hH rfl ⟨?_, ?_, trivial⟩
              · skip
                refine D.call (clone_g _ _ gone (hvg.mono (by (repeat (first | exact Mem.le.refl _ | assumption | (apply Mem.le.trans; rotate_left; assumption))))) (by omega)) rfl (.inr (by decide)) rfl rfl rfl rfl rfl rfl (List.Perm.refl _) (fun _ => rfl) (fun v61 C61 L61 hle61 hq61 => ?_)
                refine D.buildSlice [encN wk] rfl rfl rfl rfl rfl rfl rfl rfl rfl rfl rfl rfl (fun _ => rfl) (fun p66 C66 hle66 hs66 => ?_)
                subst hq61
                refine D.append (j := 0) rfl rfl rfl rfl rfl rfl rfl rfl rfl rfl rfl (hs66.mono (by (repeat (first | exact Mem.le.refl _ | assumption | (apply Mem.le.trans; rotate_left; assumption))))) rfl (by simp only [List.length_singleton, maxLen]; omega) (by simp only [List.length_singleton]; omega) (fun _ => rfl) (fun v67 => ?_)
                refine D.call (Fn.give (v := v67) (t := 3) (size := 1) (len := (gone ++ [wk]).length) ((gone ++ [wk]).map encN) (by kernel_rfl) (by intro r hr; obtain ⟨y, _, rfl⟩ := List.mem_map.1 hr; rfl) (by simp) (fun C' hle hs => ih m (by omega) C' _ v67 (gone ++ [wk]) b w ov outs2 (hv.mono (by (repeat (first | exact Mem.le.refl _ | assumption | (apply Mem.le.trans; rotate_left; assumption))))) hs (by simp; omega) (hout2.mono (by (repeat (first | exact Mem.le.refl _ | assumption | (apply Mem.le.trans; rotate_left; assumption))))) (by rw [hP]; omega))) rfl (.inr (by decide)) rfl rfl rfl rfl rfl rfl (List.Perm.of_eq (show _ = _ ++ ([] : List Ent) from by simp [encN, nats_flat])) (fun _ => rfl) (fun v71 C71 L71 hle71 hq71 => ?_)
                refine D.done [(0, [], _), (1, [], _), (2, [], _), (3, [], _), (12, [], _), (53, [], _), (54, [], _), (55, [], _)] ⟨rfl, rfl, rfl, rfl, rfl, rfl, rfl, rfl, trivial⟩ (hR _ _ _ rfl ?_); clear hR hB hH R
                obtain ⟨w', ov', rfl, rfl, hout'⟩ := hq71
                exact G.meet 0 (by (repeat (first | exact Mem.le.refl _ | assumption | (apply Mem.le.trans; rotate_left; assumption)))) (fr' := [(0, [], _), (1, [], _), (2, [], _), (3, [], _), (12, [], _), (53, [], _), (54, [], _), (55, [], _)]) ⟨rfl, rfl, rfl, rfl, rfl, rfl, rfl, rfl, trivial⟩ ⟨w', ov', hout', rfl, rfl⟩
              · skip
                refine D.buildSlice [encN wk] rfl rfl rfl rfl rfl rfl rfl rfl rfl rfl rfl rfl (fun _ => rfl) (fun p66 C66 hle66 hs66 => ?_)
                refine D.call (clone_g _ _ gone (hvg.mono (by (repeat (first | exact Mem.le.refl _ | assumption | (apply Mem.le.trans; rotate_left; assumption))))) (by omega)) rfl (.inr (by decide)) rfl rfl rfl rfl rfl rfl (List.Perm.refl _) (fun _ => rfl) (fun v61 C61 L61 hle61 hq61 => ?_)
                subst hq61
                refine D.append (j := 0) rfl rfl rfl rfl rfl rfl rfl rfl rfl rfl rfl (hs66.mono (by (repeat (first | exact Mem.le.refl _ | assumption | (apply Mem.le.trans; rotate_left; assumption))))) rfl (by simp only [List.length_singleton, maxLen]; omega) (by simp only [List.length_singleton]; omega) (fun _ => rfl) (fun v67 => ?_)
                refine D.call (Fn.give (v := v67) (t := 3) (size := 1) (len := (gone ++ [wk]).length) ((gone ++ [wk]).map encN) (by kernel_rfl) (by intro r hr; obtain ⟨y, _, rfl⟩ := List.mem_map.1 hr; rfl) (by simp) (fun C' hle hs => ih m (by omega) C' _ v67 (gone ++ [wk]) b w ov outs2 (hv.mono (by (repeat (first | exact Mem.le.refl _ | assumption | (apply Mem.le.trans; rotate_left; assumption))))) hs (by simp; omega) (hout2.mono (by (repeat (first | exact Mem.le.refl _ | assumption | (apply Mem.le.trans; rotate_left; assumption))))) (by rw [hP]; omega))) rfl (.inr (by decide)) rfl rfl rfl rfl rfl rfl (List.Perm.of_eq (show _ = _ ++ ([] : List Ent) from by simp [encN, nats_flat])) (fun _ => rfl) (fun v71 C71 L71 hle71 hq71 => ?_)
                refine D.done [(0, [], _), (1, [], _), (2, [], _), (3, [], _), (12, [], _), (53, [], _), (54, [], _), (55, [], _)] ⟨rfl, rfl, rfl, rfl, rfl, rfl, rfl, rfl, trivial⟩ (hR _ _ _ rfl ?_); clear hR hB hH R
                obtain ⟨w', ov', rfl, rfl, hout'⟩ := hq71
                exact G.meet 0 (by (repeat (first | exact Mem.le.refl _ | assumption | (apply Mem.le.trans; rotate_left; assumption)))) (fr' := [(0, [], _), (1, [], _), (2, [], _), (3, [], _), (12, [], _), (53, [], _), (54, [], _), (55, [], _)]) ⟨rfl, rfl, rfl, rfl, rfl, rfl, rfl, rfl, trivial⟩ ⟨w', ov', hout', rfl, rfl⟩
          obtain ⟨w', ov', hout3, rfl, rfl⟩ := hI
          refine G.region rfl (fun R hR => ?_)
          refine D.i64 _ rfl rfl rfl rfl rfl (by omega) (by omega) rfl rfl ?_
          refine D.pure rfl rfl rfl rfl rfl rfl ?_
          refine D.done [(0, [], _), (1, [], _), (2, [], _), (3, [], _), (12, [], _), (53, [], _), (54, [], _), (55, [], _)] ⟨rfl, rfl, rfl, rfl, rfl, rfl, rfl, rfl, trivial⟩ (hR _ _ _ rfl ?_); clear hR R
          refine G.again (m' := cy.length - (j + 1)) (by omega) (by (repeat (first | exact Mem.le.refl _ | assumption | (apply Mem.le.trans; rotate_left; assumption)))) (fr' := [(0, [], _), (1, [], _), (2, [], _), (3, [], _), (12, [], _), (53, [], _), (54, [], _), (55, [], _)]) ⟨rfl, rfl, rfl, rfl, rfl, rfl, rfl, rfl, trivial⟩ ⟨j + 1, w', ov', _, ⟨by omega, hout3, by rw [htk, hFk, ho2, List.append_assoc], by have := hFl k; rw [hFk] at this; rw [List.length_append]; omega⟩, rfl, rfl, rfl⟩
        · skip
          simp only [decide_eq_false_iff_not] at h56
          have hjl : j = cy.length := by omega
          subst hjl
          rw [List.take_length] at ho2
          refine G.end0 rfl ?_
          exact ⟨_, ov, rfl, rfl, by rw [hsf, ← ho2]; exact hout2.mono (by (repeat (first | exact Mem.le.refl _ | assumption | (apply Mem.le.trans; rotate_left; assumption))))⟩

/-! ### Repairs -/
theorem lt_swo : Sort.SWO (ltOf cmpL) := tot_cmpL.swo
abbrev ElemP (C : Mem) : Type := { x : RowP // Sl C 1 x.1 (x.2.map encN) ∧ x.2.length ≤ 1000000 }
instance (C : Mem) : Inhabited (ElemP C) := ⟨⟨(.slice none 0 0, []), Sl.nil C 1, Nat.zero_le _⟩⟩
theorem elems_of {C : Mem} : ∀ {ov : List Value} {outs : List (List Nat)}, OutN C ov outs → (∀ o ∈ outs, o.length ≤ 1000000) → ∃ es : List (ElemP C), es.map (fun e => e.1.1) = ov ∧ es.map (fun e => e.1.2) = outs
  | [], [], _, _ => ⟨[], rfl, rfl⟩
  | [], _ :: _, h, _ => by have := h.1; simp at this
  | _ :: _, [], h, _ => by have := h.1; simp at this
  | v :: ov, o :: outs, h, hl => by
    obtain ⟨es, h1, h2⟩ := elems_of (ov := ov) (outs := outs) ⟨by have := h.1; simpa using this, fun j v o h1 h2 => h.2 (j + 1) v o (by simpa using h1) (by simpa using h2)⟩ (fun o ho => hl o (by simp [ho]))
    exact ⟨⟨(v, o), h.2 0 v o rfl rfl, hl o (by simp)⟩ :: es, by simp [h1], by simp [h2]⟩
theorem rowsSort_fn (C : Mem) (v : Value) (ov : List Value) (outs : List (List Nat)) (h : OutN C ov outs) (hol : ∀ o ∈ outs, o.length ≤ 1000000) (hlen : outs.length ≤ 10000000000) :
    Jog.Fn cx.P 44 [v, .func (.func 45) #[] #[]] C [nArr v ov] fun u _ L' => ∃ l : List RowP, u = .tuple #[] ∧ L' = [.arr v 31 1 l.length (l.map encP).flatten] ∧
      (∀ x ∈ l, Sl C 1 x.1 (x.2.map encN) ∧ x.2.length ≤ 1000000) ∧ (l.map (·.2)).Perm outs ∧ (l.map (·.2)).Pairwise fun x y => ltOf cmpL y x = false := by
  obtain ⟨es, h1, h2⟩ := elems_of h hol
  have hel : es.length = ov.length := by rw [← h1]; simp
  have hel2 : es.length = outs.length := by rw [← h2]; simp
  have hO : Sort.SWO (ltOf fun x y : ElemP C => cmpL x.1.2 y.1.2) := {
    irrefl := fun x => lt_swo.irrefl x.1.2
    trans := fun x y z => lt_swo.trans x.1.2 y.1.2 z.1.2
    ntrans := fun x y z => lt_swo.ntrans x.1.2 y.1.2 z.1.2 }
  have main := sortOne_fn (P := cx.P) (α := ElemP C) Tryz.sortRows (fun x => x.1.1) (fun x => by obtain ⟨A, c, h3, _⟩ := x.2.1; rw [h3]; rfl) (fun x y => cmpL x.1.2 y.1.2) hO 45 [] C
    (fun x y C' hle => compareL_fn C' _ _ _ _ (x.2.1.mono hle) (y.2.1.mono hle) x.2.2 y.2.2) v 31 es (by omega) (by kernel_rfl) (by kernel_rfl)
  rw [h1, hel] at main
  refine Fn.mono main (fun u C' L' _ ⟨l', k1, k2, k3, k4⟩ => ?_)
  have hp : (l'.map (fun x : ElemP C => x.1.2)).Perm outs := by rw [← h2]; exact k3.map _
  have hll : l'.length = ov.length := by rw [← hel]; exact k3.length_eq
  refine ⟨l'.map (·.1), k1, ?_, ?_, ?_, ?_⟩
  · rw [k2, List.length_map, hll, row1P, List.map_map]; rfl
  · intro x hx
    obtain ⟨e, _, rfl⟩ := List.mem_map.1 hx
    exact e.2
  · rw [List.map_map]; exact hp
  · rw [List.map_map, List.pairwise_map]
    exact k4.imp (fun h => h)
def repL (l : List Rel) (n : Nat) : List (List Nat) := setL cmpL (setsF l n [])
def RepsRes (C : Mem) (l : List Rel) (r : Value) : Prop :=
  (errU l ≠ 0 ∧ r = .tuple #[nilV, .int .i64 (errU l)]) ∨ (errU l = 0 ∧ ∃ q, Invs l q l.length ∧ ((40 < q.length ∧ r = .tuple #[nilV, .int .i64 4]) ∨ (q.length ≤ 40 ∧
    ((∃ n, n ≤ 4 ∧ (∀ k, k < n → setsF l k [] = []) ∧ setsF l n [] ≠ [] ∧ ((200 < (repL l n).length ∧ r = .tuple #[nilV, .int .i64 4]) ∨ ((repL l n).length ≤ 200 ∧ ∃ v ov, r = .tuple #[v, .int .i64 0] ∧ Sl C 1 v (ov.map fun x => [x]) ∧ OutN C ov (repL l n)))) ∨
     ((∀ k, k < 5 → setsF l k [] = []) ∧ r = .tuple #[nilV, .int .i64 4])))))
theorem outN_of {C : Mem} {r : List RowP} (h : ∀ x ∈ r, Sl C 1 x.1 (x.2.map encN)) : OutN C (r.map (·.1)) (r.map (·.2)) := by
  refine ⟨by simp, fun j v o h1 h2 => ?_⟩
  rw [List.getElem?_map] at h1 h2
  cases hx : r[j]? with
  | none => rw [hx] at h1; cases h1
  | some x =>
    rw [hx] at h1 h2
    cases h1; cases h2
    exact h x (List.mem_of_getElem? hx)
set_option maxHeartbeats 8000000 in
theorem repairs_fn (C : Mem) (v : Value) (l : List Rel) (hv : Sl C 3 v (l.map Rel.enc)) (hl : l.length ≤ 100000) (hsh : ∀ x ∈ l, x.short) : Pur cx.P 19 [v] C fun r C' => RepsRes C' l r := by
  obtain ⟨A, c, rfl, _⟩ := id hv
  simp only [List.length_map] at hv ⊢
  refine Fn.intro (by kernel_rfl) Tryz.func19 rfl 37 rfl rfl (fun w0 => ?_)
  refine G.region rfl (fun R hR => ?_)
  iterate 2 refine D.pure rfl rfl rfl rfl rfl rfl ?_
  refine D.done [(0, [], _)] ⟨rfl, trivial⟩ (hR _ _ _ rfl ?_); clear hR R
  refine G.region rfl (fun R hR => ?_)
  refine D.pure rfl rfl rfl rfl rfl rfl ?_
  refine D.gives2 (check_fn _ _ l (hv.mono (by (repeat (first | exact Mem.le.refl _ | assumption | (apply Mem.le.trans; rotate_left; assumption))))) hl hsh) rfl rfl rfl rfl rfl rfl rfl (fun _ => rfl) ?_
  refine D.pure rfl rfl rfl rfl rfl rfl ?_
  refine D.done [(0, [], _), (4, [], _)] ⟨rfl, rfl, trivial⟩ (hR _ _ _ rfl ?_); clear hR R
  refine G.region rfl (fun R hR => ?_)
  iterate 2 refine D.pure rfl rfl rfl rfl rfl rfl ?_
  refine D.done [(0, [], _), (4, [], _), (10, [], _)] ⟨rfl, rfl, rfl, trivial⟩ (hR _ _ _ rfl ?_); clear hR R
  refine G.cond rfl (fun h10 => ?_) (fun h10 => ?_)
  · skip
    have h10' : errU l ≠ 0 := by simpa using h10
    refine G.region rfl (fun R hR => ?_)
    iterate 3 refine D.pure rfl rfl rfl rfl rfl rfl ?_
    refine D.done [(2, [], _), (3, [], _)] ⟨rfl, rfl, trivial⟩ (hR _ _ _ rfl ?_); clear hR R
    refine G.retN (G.dropAll (G.fin2 rfl rfl rfl ?_))
    exact ⟨rfl, .inl ⟨h10', rfl⟩⟩
  · skip
    have h10' : errU l = 0 := by simpa using h10
    refine G.region rfl (fun R hR => ?_)
    refine D.pure rfl rfl rfl rfl rfl rfl ?_
    refine D.callP (open_fn _ _ l (hv.mono (by (repeat (first | exact Mem.le.refl _ | assumption | (apply Mem.le.trans; rotate_left; assumption))))) hl) rfl rfl rfl rfl rfl rfl rfl (fun _ => rfl) (fun v13 C13 hle13 hq13 => ?_)
    refine D.callP (involved_fn _ _ l (hq13.mono (by (repeat (first | exact Mem.le.refl _ | assumption | (apply Mem.le.trans; rotate_left; assumption))))) hl) rfl rfl rfl rfl rfl rfl rfl (fun _ => rfl) (fun v14 C14 hle14 hq14 => ?_)
    obtain ⟨q, hq, hqs⟩ := hq14
    have hql := invs_len hq
    obtain ⟨Aq, cq, hqe, _⟩ := id hqs
    rw [List.length_map] at hqe
    subst hqe
    iterate 2 refine D.pure rfl rfl rfl rfl rfl rfl ?_
    refine D.done [(0, [], _), (16, [], _)] ⟨rfl, rfl, trivial⟩ (hR _ _ _ rfl ?_); clear hR R
    refine G.cond rfl (fun h16 => ?_) (fun h16 => ?_)
    · skip
      have h16' : 40 < q.length := by
        have : (40 : Int) < q.length := by simpa using h16
        omega
      refine G.region rfl (fun R hR => ?_)
      iterate 2 refine D.pure rfl rfl rfl rfl rfl rfl ?_
      refine D.done [(2, [], _), (3, [], _)] ⟨rfl, rfl, trivial⟩ (hR _ _ _ rfl ?_); clear hR R
      refine G.retN (G.dropAll (G.fin2 rfl rfl rfl ?_))
      exact ⟨rfl, .inr ⟨h10', q, hq, .inl ⟨h16', rfl⟩⟩⟩
    · skip
      have h16' : q.length ≤ 40 := by
        have : (q.length : Int) ≤ 40 := by simpa using h16
        omega
      refine G.region rfl (fun R hR => ?_)
      refine D.pure rfl rfl rfl rfl rfl rfl ?_
      refine D.done [(0, [], _), (17, [], _)] ⟨rfl, rfl, trivial⟩ (hR _ _ _ rfl ?_); clear hR R
      refine G.loop (fun fr C' L' μ => ∃ (n : Nat), (n ≤ 5 ∧ ∀ k, k < n → setsF l k [] = []) ∧ fr = [(0, [], .slice A l.length c), (17, [], .int .i64 n)] ∧ L' = [] ∧ μ = 5 - n) (fr' := [(0, [], _), (17, [], _)]) ⟨rfl, rfl, trivial⟩ ⟨0, ⟨by omega, fun k h => by omega⟩, rfl, rfl, rfl⟩ (fun fr C0' L0' m hle0 hI => ?_)
      obtain ⟨n, ⟨hn5, hnone⟩, rfl, rfl, rfl⟩ := hI
      refine G.region rfl (fun R hR => ?_)
      refine D.pure rfl rfl rfl rfl rfl rfl ?_
      refine D.done [(0, [], _), (17, [], _), (18, [], _)] ⟨rfl, rfl, rfl, trivial⟩ (hR _ _ _ rfl ?_); clear hR R
      refine G.cond rfl (fun h18 => ?_) (fun h18 => ?_)
      · skip
        have hn4 : n ≤ 4 := by
          have : (n : Int) < 5 := by simpa using h18
          omega
        have hn4' : n = 0 ∨ n = 1 ∨ n = 2 ∨ n = 3 ∨ n = 4 := by omega
        have hp4 : 200 ^ n ≤ 1600000000 := by rcases hn4' with rfl | rfl | rfl | rfl | rfl <;> decide
        have hsfl := setsF_len l (errU_len h10') n []
        have hsm := setsF_small l n []
        refine G.region rfl (fun R hR => ?_)
        iterate 2 refine D.pure rfl rfl rfl rfl rfl rfl ?_
        refine D.done [(0, [], _), (5, [], _), (17, [], _)] ⟨rfl, rfl, rfl, trivial⟩ (hR _ _ _ rfl ?_); clear hR R
        refine G.region rfl (fun R hR => ?_)
        refine D.alloc rfl rfl rfl rfl rfl (fun _ => rfl) (fun b6 => ?_)
        refine D.done [(0, [], _), (5, [], _), (6, [], _), (17, [], _)] ⟨rfl, rfl, rfl, rfl, trivial⟩ (hR _ _ _ rfl ?_); clear hR R
        refine G.nilArr 31 1 (G.perm (L' := [nObj b6 (.slice none 0 0), nArr (.slice none 0 0) []]) (List.Perm.swap _ _ _) ?_)
        refine G.regionO [(2, 3)] rfl (fun R hR => ?_)
        iterate 2 refine D.pure rfl rfl rfl rfl rfl rfl ?_
        refine D.call (sets_fn l h10' hsh n _ _ _ [] b6 _ [] [] (hv.mono (by (repeat (first | exact Mem.le.refl _ | assumption | (apply Mem.le.trans; rotate_left; assumption))))) (Sl.nil _ 1) (by simp; omega) ⟨rfl, fun j v o h => by simp at h⟩ (by simp; omega)) rfl (.inr (by decide)) rfl rfl rfl rfl rfl rfl (List.Perm.refl _) (fun _ => rfl) (fun v22 C22 L22 hle22 hq22 => ?_)
        refine D.done [(0, [], _), (6, [], _), (17, [], _)] ⟨rfl, rfl, rfl, trivial⟩ (hR _ _ _ rfl ?_); clear hR R
        obtain ⟨w6, ov6, rfl, rfl, hout6⟩ := hq22
        rw [List.nil_append] at hout6
        refine G.eqL (L' := [.obj b6 (.cells ⟨[w6]⟩ 27 (0, 0)), .arr w6 31 1 ov6.length ov6]) rfl ?_
        refine G.regionO [(1, 3)] rfl (fun R hR => ?_)
        refine D.loadL (.head _) rfl rfl rfl rfl rfl rfl rfl rfl rfl ?_
        refine D.call (rowsSort_fn _ w6 ov6 (setsF l n []) hout6 (fun o ho => by have := hsm o ho; simp at this; omega) (by omega)) rfl (.inr (by decide)) rfl rfl rfl rfl rfl rfl (List.Perm.swap _ _ _) (fun _ => rfl) (fun v24 C24 L24 hle24 hq24 => ?_)
        refine D.done [(0, [], _), (6, [], _), (17, [], _)] ⟨rfl, rfl, rfl, trivial⟩ (hR _ _ _ rfl ?_); clear hR R
        obtain ⟨l6, rfl, rfl, hel6, hp6, hs6⟩ := hq24
        have hl6 : l6.length ≤ 10000000000 := by have := hp6.length_eq; rw [List.length_map] at this; omega
        refine G.perm (L' := [.obj b6 (.cells ⟨[w6]⟩ 27 (0, 0)), .arr w6 31 1 l6.length (l6.map encP).flatten]) (List.Perm.swap _ _ _) ?_
        refine G.regionO [(1, 3)] rfl (fun R hR => ?_)
        refine D.loadL (.head _) rfl rfl rfl rfl rfl rfl rfl rfl rfl ?_
        refine D.call (compactF_fn _ w6 l6 hl6 (fun x hx => ((hel6 x hx).1).mono (by (repeat (first | exact Mem.le.refl _ | assumption | (apply Mem.le.trans; rotate_left; assumption))))) (fun x hx => (hel6 x hx).2)) rfl (.inr (by decide)) rfl rfl rfl rfl rfl rfl (List.Perm.swap _ _ _) (fun _ => rfl) (fun v26 C26 L26 hle26 hq26 => ?_)
        obtain ⟨rfl, r6, hrs6, hrm6, hrc6⟩ := hq26
        obtain ⟨A6, c6, hqe, _⟩ := id hrs6
        rw [List.length_map] at hqe
        subst hqe
        refine D.store (j := 0) rfl rfl rfl rfl rfl rfl rfl rfl rfl rfl rfl rfl ?_
        refine D.done [(0, [], _), (6, [], _), (17, [], _)] ⟨rfl, rfl, rfl, trivial⟩ (hR _ _ _ rfl ?_); clear hR R
        have hrep : r6.map (·.2) = repL l n := by rw [hrc6]; exact tot_cmpL.compact_eq hp6 hs6
        have hrl : (repL l n).length = r6.length := by rw [← hrep]; simp
        have hout7 : OutN C26 (r6.map (·.1)) (repL l n) := by rw [← hrep]; exact outN_of (fun x hx => ((hel6 x (hrm6 x hx)).1).mono (by (repeat (first | exact Mem.le.refl _ | assumption | (apply Mem.le.trans; rotate_left; assumption)))))
        have hne7 : r6.length = 0 ↔ setsF l n [] = [] := by
          rw [← hrl]
          constructor
          · intro h
            refine List.eq_nil_iff_forall_not_mem.2 (fun s hs => ?_)
            have : s ∈ repL l n := mem_setL.2 hs
            rw [List.eq_nil_of_length_eq_zero h] at this; cases this
          · intro h; unfold repL; rw [h]; rfl
        refine G.region rfl (fun R hR => ?_)
        refine D.loadL (.head _) rfl rfl rfl rfl rfl rfl rfl rfl rfl ?_
        iterate 3 refine D.pure rfl rfl rfl rfl rfl rfl ?_
        refine D.done [(0, [], _), (6, [], _), (17, [], _), (27, [], _)] ⟨rfl, rfl, rfl, rfl, trivial⟩ (hR _ _ _ rfl ?_); clear hR R
        refine G.cond rfl (fun h27 => ?_) (fun h27 => ?_)
        · skip
          have h27' : 200 < r6.length := by
            have : (200 : Int) < r6.length := by simpa using h27
            omega
          have hne8 : setsF l n [] ≠ [] := fun h => by have := hne7.2 h; omega
          refine G.region rfl (fun R hR => ?_)
          iterate 2 refine D.pure rfl rfl rfl rfl rfl rfl ?_
          refine D.done [(2, [], _), (3, [], _)] ⟨rfl, rfl, trivial⟩ (hR _ _ _ rfl ?_); clear hR R
          refine G.retN (G.dropAll (G.fin2 rfl rfl rfl ?_))
          exact ⟨rfl, .inr ⟨h10', q, hq, .inr ⟨h16', .inl ⟨n, hn4, hnone, hne8, .inl ⟨by omega, rfl⟩⟩⟩⟩⟩
        · skip
          have h27' : ¬ 200 < r6.length := by
            have : (r6.length : Int) ≤ 200 := by simpa using h27
            omega
          refine G.region rfl (fun R hR => ?_)
          refine D.loadL (.head _) rfl rfl rfl rfl rfl rfl rfl rfl rfl ?_
          iterate 3 refine D.pure rfl rfl rfl rfl rfl rfl ?_
          refine D.done [(0, [], _), (6, [], _), (17, [], _), (31, [], _)] ⟨rfl, rfl, rfl, rfl, trivial⟩ (hR _ _ _ rfl ?_); clear hR R
          refine G.cond rfl (fun h31 => ?_) (fun h31 => ?_)
          · skip
            have h31' : 0 < r6.length := by simpa using h31
            have hne8 : setsF l n [] ≠ [] := fun h => by have := hne7.2 h; omega
            refine G.region rfl (fun R hR => ?_)
            refine D.loadL (.head _) rfl rfl rfl rfl rfl rfl rfl rfl rfl ?_
            iterate 2 refine D.pure rfl rfl rfl rfl rfl rfl ?_
            refine D.done [(2, [], _), (3, [], _)] ⟨rfl, rfl, trivial⟩ (hR _ _ _ rfl ?_); clear hR R
            refine G.retN (G.dropAll (G.fin2 rfl rfl rfl ?_))
            exact ⟨rfl, .inr ⟨h10', q, hq, .inr ⟨h16', .inl ⟨n, hn4, hnone, hne8, .inr ⟨by omega, _, r6.map (·.1), rfl, by rw [List.map_map]; exact hrs6, hout7⟩⟩⟩⟩⟩
          · skip
            have h31' : r6.length = 0 := by
              have : ¬ 0 < r6.length := by simpa using h31
              omega
            refine G.region rfl (fun R hR => ?_)
            refine D.i64 _ rfl rfl rfl rfl rfl (by omega) (by omega) rfl rfl ?_
            refine D.pure rfl rfl rfl rfl rfl rfl ?_
            refine D.done [(0, [], _), (17, [], _)] ⟨rfl, rfl, trivial⟩ (hR _ _ _ rfl ?_); clear hR R
            refine G.dropE 0 rfl ?_
            refine G.again (m' := 5 - (n + 1)) (by omega) (by (repeat (first | exact Mem.le.refl _ | assumption | (apply Mem.le.trans; rotate_left; assumption)))) (fr' := [(0, [], _), (17, [], _)]) ⟨rfl, rfl, trivial⟩ ⟨n + 1, ⟨by omega, fun k hk => by
              rcases Nat.lt_or_ge k n with h | h
              · exact hnone k h
              · have : k = n := by omega
                subst this
                exact hne7.1 h31'⟩, rfl, rfl, rfl⟩
      · skip
        have hn5' : n = 5 := by
          have : (5 : Int) ≤ n := by simpa using h18
          omega
        subst hn5'
        refine G.region rfl (fun R hR => ?_)
        iterate 2 refine D.pure rfl rfl rfl rfl rfl rfl ?_
        refine D.done [(2, [], _), (3, [], _)] ⟨rfl, rfl, trivial⟩ (hR _ _ _ rfl ?_); clear hR R
        refine G.retN (G.dropAll (G.fin2 rfl rfl rfl ?_))
        exact ⟨rfl, .inr ⟨h10', q, hq, .inr ⟨h16', .inr ⟨hnone, rfl⟩⟩⟩⟩
end Go.Proofs.YtcghlfepfcagbaaGreat
namespace Go.Jog
open Go Go.Proofs Go.Shelf

section
variable {P : Program} {ρ : Ren}
theorem deleteInt_fn (L23 : Lays2.n23 P ρ) (C : Mem) (v : Value) (e : TypeId) (l : List Int) (i j : Nat) (hij : i ≤ j) (hj : j ≤ l.length) (h0 : 0 < l.length) (hen : Enters P (ρ.f 23) = true) :
    Fn P (ρ.f 23) [v, .int .i64 i, .int .i64 j] C [.arr v e 1 l.length (l.map fun x => .int .i64 x)] fun u _ L' => L' = [.arr u e 1 (l.take i ++ l.drop j).length ((l.take i ++ l.drop j).map fun x => .int .i64 x)] := by
  refine ⟨hen, fun w hw => ?_⟩
  have hown : w.ownsRow 0 e 1 v l.length (l.map fun x => .int .i64 x) := hw.e _ (List.mem_cons_self ..)
  rcases hown.2 with ⟨rfl, hz⟩ | ⟨b, cap, cur, rfl, _, hb, h2, h3, h4, h5⟩
  · omega
  · have hH : Sort.Holds (Value.int .i64) w b 0 l.toArray := by
      intro j hj
      simp only [List.size_toArray] at hj
      have hj2 : j < cur.size := by omega
      have hc : (l.map fun x => Value.int .i64 x)[j]? = some cur[j] := by
        rw [← h5, List.getElem?_take, if_pos (by omega), Array.getElem?_toList, Array.getElem?_eq_getElem hj2]
      rw [List.getElem?_map, List.getElem?_eq_getElem hj] at hc
      simp only [Option.map_some, Option.some.injEq] at hc
      refine ⟨?_, ?_⟩
      · rw [Nat.zero_add, cell_of_row w b j cur e (0, 0) hb, getElem!_pos l.toArray j (by simpa using hj)]
        rw [Array.getElem?_eq_getElem hj2, ← hc]
        simp
      · simp [World.frozen?, hb]
    refine (Any.slices_Delete_int L23 b 0 cap i j l w hH h2 (by simpa [maxLen] using h3) hij hj).mono fun e' w' ⟨h1, m, hw'⟩ => ?_
    have hlen : (l.take i ++ l.drop j).length = l.length - (j - i) := by
      rw [List.length_append, List.length_take, List.length_drop]; omega
    have hS := St.sorted (m := m) (Value.int .i64) hw (l.take i ++ l.drop j ++ List.replicate (j - i) 0).toArray (by simp; omega) #[]
    have hw2 : w' = Sort.grow (Sort.putRow (Value.int .i64) (Sort.ahead w m) b 0 (l.take i ++ l.drop j ++ List.replicate (j - i) 0).toArray) #[] := by
      have hg : ∀ W : World, Sort.grow W #[] = W := fun W => by cases W; simp [Sort.grow]
      rw [hg, hw']
    rw [← hw2] at hS
    have hown2 : w'.ownsRow 0 e 1 (.slice (some ⟨b, 0, none⟩) l.length cap) l.length _ := hS.sep.e _ (List.mem_cons_self ..)
    obtain ⟨_, hlc, hcm, cur2, hb2, hcs2, ht2⟩ := ownsRow_block hown2
    have hnew : w'.ownsRow 0 e 1 (.slice (some ⟨b, 0, none⟩) (l.take i ++ l.drop j).length cap) (l.take i ++ l.drop j).length ((l.take i ++ l.drop j).map fun x => .int .i64 x) := by
      refine ⟨by simp, .inr ⟨b, cap, cur2, rfl, Nat.zero_le _, hb2, by omega, hcm, hcs2, ?_⟩⟩
      have e1 : cur2.toList.take ((l.take i ++ l.drop j).length * 1) = (cur2.toList.take (l.length * 1)).take ((l.take i ++ l.drop j).length * 1) := by
        rw [List.take_take, Nat.min_eq_left (by omega)]
      rw [e1, ht2]
      simp only [List.map_append, Nat.mul_one]
      rw [List.take_append_of_le_length (by simp), List.take_of_length_le (by simp)]
    have hT := St.turn hS hnew ⟨rfl, rfl, rfl, Nat.le_refl _, fun _ _ _ => rfl⟩ (Nat.le_refl _) (.inl rfl)
    refine ⟨_, C, _, h1, ?_, rfl⟩
    rw [hlen] at hT ⊢
    exact hT
end
end Go.Jog
namespace Go.Proofs.YtcghlfepfcagbaaGreat
open Go Go.Jog
set_option maxRecDepth 100000

def noneB (l : List Rel) (st : List Nat) : Bool := decide (cycL (woL l st) = [])
theorem repaired2_fn (C : Mem) (v vs : Value) (l : List Rel) (st : List Nat) (hv : Sl C 3 v (l.map Rel.enc)) (hE : errU l = 0) (hsh : ∀ x ∈ l, x.short) (hvs : Sl C 1 vs (st.map encN)) (hsl : st.length ≤ 100000) :
    Pur cx.P 56 [v, vs] C fun r _ => r = .bool (noneB l st) := by
  have hl := errU_len hE
  have hwl := woL_len l st
  refine Fn.intro (by kernel_rfl) Tryz.func56 rfl 18 rfl rfl (fun w0 => ?_)
  refine G.region rfl (fun R hR => ?_)
  refine D.pure rfl rfl rfl rfl rfl rfl ?_
  refine D.done [(0, [], _), (1, [], _)] ⟨rfl, rfl, trivial⟩ (hR _ _ _ rfl ?_); clear hR R
  refine G.region rfl (fun R hR => ?_)
  iterate 2 refine D.pure rfl rfl rfl rfl rfl rfl ?_
  refine D.callP (without_fn _ _ _ l st hv (by omega) hvs hsl) rfl rfl rfl rfl rfl rfl rfl (fun _ => rfl) (fun v11 C11 hle11 hq11 => ?_)
  refine D.callP (cycle_fn _ _ (woL l st) hq11 (by omega) (fun x hx => hsh x (mem_woL hx))) rfl rfl rfl rfl rfl rfl rfl (fun _ => rfl) (fun v12 C12 hle12 hq12 => ?_)
  obtain ⟨Ac, cc, fc, rfl, hcs, hfc⟩ := cyc_ok (errU_sub hE hwl (fun x hx => mem_woL hx)) hq12
  iterate 7 refine D.pure rfl rfl rfl rfl rfl rfl ?_
  refine D.done [(6, [], _)] ⟨rfl, trivial⟩ (hR _ _ _ rfl ?_); clear hR R
  refine G.region rfl (fun R hR => ?_)
  iterate 3 refine D.pure rfl rfl rfl rfl rfl rfl ?_
  refine D.done [(4, [], _)] ⟨rfl, trivial⟩ (hR _ _ _ rfl ?_); clear hR R
  refine G.retN (G.dropAll (G.fin1 rfl rfl ?_))
  refine ⟨rfl, ?_⟩
  unfold noneB
  cases fc with
  | true => rw [decide_eq_false (hfc.1 rfl)]; rfl
  | false => rw [decide_eq_true (Classical.not_not.1 (fun h => by cases hfc.2 h))]; rfl
def RepRes2 (l : List Rel) (st : List Int) (r : Value) : Prop :=
  (chkE l st ≠ 0 ∧ r = .tuple #[.bool false, .int .i64 (chkE l st)]) ∨ (chkE l st = 0 ∧ r = .tuple #[.bool (noneB l (natsOf st)), .int .i64 0])
theorem repairedS_fn (C : Mem) (v vs : Value) (l : List Rel) (st : List Int) (hv : Sl C 3 v (l.map Rel.enc)) (hl : l.length ≤ 100000) (hsh : ∀ x ∈ l, x.short) (hvs : Sl C 1 vs (st.map encI)) (hsl : st.length ≤ 100000) :
    Pur cx.P 29 [v, vs] C fun r _ => RepRes2 l st r := by
  refine Fn.intro (by kernel_rfl) Tryz.func29 rfl 16 rfl rfl (fun w0 => ?_)
  refine G.region rfl (fun R hR => ?_)
  iterate 2 refine D.pure rfl rfl rfl rfl rfl rfl ?_
  refine D.done [(0, [], _), (1, [], _)] ⟨rfl, rfl, trivial⟩ (hR _ _ _ rfl ?_); clear hR R
  refine G.region rfl (fun R hR => ?_)
  iterate 2 refine D.pure rfl rfl rfl rfl rfl rfl ?_
  refine D.gives2 (checkS_fn _ _ _ l st hv hl hsh hvs hsl) rfl rfl rfl rfl rfl rfl rfl (fun _ => rfl) ?_
  refine D.pure rfl rfl rfl rfl rfl rfl ?_
  refine D.done [(0, [], _), (1, [], _), (6, [], _)] ⟨rfl, rfl, rfl, trivial⟩ (hR _ _ _ rfl ?_); clear hR R
  refine G.region rfl (fun R hR => ?_)
  iterate 2 refine D.pure rfl rfl rfl rfl rfl rfl ?_
  refine D.done [(0, [], _), (1, [], _), (6, [], _), (11, [], _)] ⟨rfl, rfl, rfl, rfl, trivial⟩ (hR _ _ _ rfl ?_); clear hR R
  refine G.cond rfl (fun h11 => ?_) (fun h11 => ?_)
  · skip
    have h11' : chkE l st ≠ 0 := by simpa using h11
    refine G.region rfl (fun R hR => ?_)
    iterate 3 refine D.pure rfl rfl rfl rfl rfl rfl ?_
    refine D.done [(4, [], _), (5, [], _)] ⟨rfl, rfl, trivial⟩ (hR _ _ _ rfl ?_); clear hR R
    refine G.retN (G.dropAll (G.fin2 rfl rfl rfl ?_))
    exact ⟨rfl, .inl ⟨h11', rfl⟩⟩
  · skip
    have h11' : chkE l st = 0 := by simpa using h11
    have hvn := hvs
    rw [natsOf_enc (chk_zero h11').2] at hvn
    refine G.region rfl (fun R hR => ?_)
    iterate 2 refine D.pure rfl rfl rfl rfl rfl rfl ?_
    refine D.callP (repaired2_fn _ _ _ l (natsOf st) (hv.mono (by (repeat (first | exact Mem.le.refl _ | assumption | (apply Mem.le.trans; rotate_left; assumption))))) (chk_zero h11').1 hsh (hvn.mono (by (repeat (first | exact Mem.le.refl _ | assumption | (apply Mem.le.trans; rotate_left; assumption))))) (by simpa [natsOf] using hsl)) rfl rfl rfl rfl rfl rfl rfl (fun _ => rfl) (fun v15 C15 hle15 hq15 => ?_)
    iterate 2 refine D.pure rfl rfl rfl rfl rfl rfl ?_
    refine D.done [(4, [], _), (5, [], _)] ⟨rfl, rfl, trivial⟩ (hR _ _ _ rfl ?_); clear hR R
    refine G.retN (G.dropAll (G.fin2 rfl rfl rfl ?_))
    subst hq15
    exact ⟨rfl, .inr ⟨h11', rfl⟩⟩
def needB (l : List Rel) (st : List Nat) : Bool := noneB l st && (List.range st.length).all fun i => !noneB l (st.eraseIdx i)
def NeedRes (l : List Rel) (st : List Int) (r : Value) : Prop :=
  (chkE l st ≠ 0 ∧ r = .tuple #[.bool false, .int .i64 (chkE l st)]) ∨ (chkE l st = 0 ∧ r = .tuple #[.bool (needB l (natsOf st)), .int .i64 0])
theorem take_drop_erase {α : Type} (l : List α) (i : Nat) : l.take i ++ l.drop (i + 1) = l.eraseIdx i := (List.eraseIdx_eq_take_drop_succ ..).symm
set_option maxHeartbeats 1000000 in
theorem needed_fn (C : Mem) (v vs : Value) (l : List Rel) (st : List Int) (hv : Sl C 3 v (l.map Rel.enc)) (hl : l.length ≤ 100000) (hsh : ∀ x ∈ l, x.short) (hvs : Sl C 1 vs (st.map encI)) (hsl : st.length ≤ 100000) :
    Pur cx.P 30 [v, vs] C fun r _ => NeedRes l st r := by
  obtain ⟨A, c, rfl, _⟩ := id hv
  obtain ⟨As, cs, rfl, _⟩ := id hvs
  simp only [List.length_map] at hv hvs ⊢
  refine Fn.intro (by kernel_rfl) Tryz.func30 rfl 32 rfl rfl (fun w0 => ?_)
  refine G.region rfl (fun R hR => ?_)
  iterate 2 refine D.pure rfl rfl rfl rfl rfl rfl ?_
  refine D.done [(0, [], _), (1, [], _)] ⟨rfl, rfl, trivial⟩ (hR _ _ _ rfl ?_); clear hR R
  refine G.region rfl (fun R hR => ?_)
  iterate 2 refine D.pure rfl rfl rfl rfl rfl rfl ?_
  refine D.gives2 (checkS_fn _ _ _ l st hv hl hsh hvs hsl) rfl rfl rfl rfl rfl rfl rfl (fun _ => rfl) ?_
  refine D.pure rfl rfl rfl rfl rfl rfl ?_
  refine D.done [(0, [], _), (1, [], _), (6, [], _)] ⟨rfl, rfl, rfl, trivial⟩ (hR _ _ _ rfl ?_); clear hR R
  refine G.region rfl (fun R hR => ?_)
  iterate 2 refine D.pure rfl rfl rfl rfl rfl rfl ?_
  refine D.done [(0, [], _), (1, [], _), (6, [], _), (12, [], _)] ⟨rfl, rfl, rfl, rfl, trivial⟩ (hR _ _ _ rfl ?_); clear hR R
  refine G.cond rfl (fun h12 => ?_) (fun h12 => ?_)
  · skip
    have h12' : chkE l st ≠ 0 := by simpa using h12
    refine G.region rfl (fun R hR => ?_)
    iterate 3 refine D.pure rfl rfl rfl rfl rfl rfl ?_
    refine D.done [(4, [], _), (5, [], _)] ⟨rfl, rfl, trivial⟩ (hR _ _ _ rfl ?_); clear hR R
    refine G.retN (G.dropAll (G.fin2 rfl rfl rfl ?_))
    exact ⟨rfl, .inl ⟨h12', rfl⟩⟩
  · skip
    have h12' : chkE l st = 0 := by simpa using h12
    have hvn := hvs
    rw [natsOf_enc (chk_zero h12').2] at hvn
    have hE := (chk_zero h12').1
    have hnl : (natsOf st).length = st.length := by simp [natsOf]
    obtain ⟨ns, hns⟩ : ∃ ns, natsOf st = ns := ⟨_, rfl⟩
    rw [hns] at hvn hnl
    refine G.region rfl (fun R hR => ?_)
    iterate 2 refine D.pure rfl rfl rfl rfl rfl rfl ?_
    refine D.callP (repaired2_fn _ _ _ l ns (hv.mono (by (repeat (first | exact Mem.le.refl _ | assumption | (apply Mem.le.trans; rotate_left; assumption))))) hE hsh (hvn.mono (by (repeat (first | exact Mem.le.refl _ | assumption | (apply Mem.le.trans; rotate_left; assumption))))) (by omega)) rfl rfl rfl rfl rfl rfl rfl (fun _ => rfl) (fun v16 C16 hle16 hq16 => ?_)
    subst hq16
    refine D.pure rfl rfl rfl rfl rfl rfl ?_
    refine D.done [(0, [], _), (1, [], _), (17, [], _)] ⟨rfl, rfl, rfl, trivial⟩ (hR _ _ _ rfl ?_); clear hR R
    refine G.cond rfl (fun h17 => ?_) (fun h17 => ?_)
    · skip
      have h17' : noneB l ns = false := by simpa using h17
      refine G.region rfl (fun R hR => ?_)
      iterate 2 refine D.pure rfl rfl rfl rfl rfl rfl ?_
      refine D.done [(4, [], _), (5, [], _)] ⟨rfl, rfl, trivial⟩ (hR _ _ _ rfl ?_); clear hR R
      refine G.retN (G.dropAll (G.fin2 rfl rfl rfl ?_))
      exact ⟨rfl, .inr ⟨h12', by rw [hns, needB, h17']; rfl⟩⟩
    · skip
      have h17' : noneB l ns = true := by simpa using h17
      refine G.region rfl (fun R hR => ?_)
      iterate 3 refine D.pure rfl rfl rfl rfl rfl rfl ?_
      refine D.done [(0, [], _), (1, [], _), (19, [], _), (20, [], _)] ⟨rfl, rfl, rfl, rfl, trivial⟩ (hR _ _ _ rfl ?_); clear hR R
      refine G.loop (fun fr C' L' μ => ∃ (i : Nat), (i ≤ st.length ∧ ∀ k, k < i → noneB l (ns.eraseIdx k) = false) ∧ fr = [(0, [], .slice A l.length c), (1, [], .slice As st.length cs), (19, [], .int .i64 st.length), (20, [], .int .i64 i)] ∧ L' = [] ∧ μ = st.length - i) (fr' := [(0, [], _), (1, [], _), (19, [], _), (20, [], _)]) ⟨rfl, rfl, rfl, rfl, trivial⟩ ⟨0, ⟨Nat.zero_le _, fun k h => by omega⟩, rfl, rfl, rfl⟩ (fun fr C0' L0' m hle0 hI => ?_)
      obtain ⟨i, ⟨hi, hno⟩, rfl, rfl, rfl⟩ := hI
      refine G.region rfl (fun R hR => ?_)
      refine D.pure rfl rfl rfl rfl rfl rfl ?_
      refine D.done [(0, [], _), (1, [], _), (19, [], _), (20, [], _), (21, [], _)] ⟨rfl, rfl, rfl, rfl, rfl, trivial⟩ (hR _ _ _ rfl ?_); clear hR R
      refine G.cond rfl (fun h21 => ?_) (fun h21 => ?_)
      · skip
        have hil : i < st.length := by simpa using h21
        have hel : (ns.eraseIdx i).length = ns.length - 1 := List.length_eraseIdx_of_lt (by omega)
        refine G.region rfl (fun R hR => ?_)
        iterate 2 refine D.pure rfl rfl rfl rfl rfl rfl ?_
        refine D.done [(0, [], _), (1, [], _), (7, [], _), (19, [], _), (20, [], _)] ⟨rfl, rfl, rfl, rfl, rfl, trivial⟩ (hR _ _ _ rfl ?_); clear hR R
        refine G.regionO [(2, 3), (6, 3), (7, 3)] rfl (fun R hR => ?_)
        iterate 2 refine D.pure rfl rfl rfl rfl rfl rfl ?_
        refine D.call (clone_g _ _ ns (hvn.mono (by (repeat (first | exact Mem.le.refl _ | assumption | (apply Mem.le.trans; rotate_left; assumption))))) (by omega)) rfl (.inr (by decide)) rfl rfl rfl rfl rfl rfl (List.Perm.refl _) (fun _ => rfl) (fun v25 C25 L25 hle25 hq25 => ?_)
        iterate 2 refine D.pure rfl rfl rfl rfl rfl rfl ?_
        refine D.i64 (((i + 1 : Nat) : Int)) rfl rfl rfl rfl (by omega) (by omega) (by omega) rfl rfl ?_
        subst hq25
        refine D.call (deleteInt_fn Tryz.delInt _ v25 3 (ns.map fun n : Nat => (n : Int)) i (i + 1) (by omega) (by simp; omega) (by simp; omega) (by kernel_rfl)) rfl (.inr (by decide)) rfl rfl rfl rfl rfl rfl (List.Perm.of_eq (show _ = _ ++ ([] : List Ent) from by simp [intN])) (fun _ => rfl) (fun v29 C29 L29 hle29 hq29 => ?_)
        subst hq29
        refine D.call (Fn.give (v := v29) (t := 3) (size := 1) (len := (ns.eraseIdx i).length) ((ns.eraseIdx i).map encN) (by kernel_rfl) (by intro r hr; obtain ⟨y, _, rfl⟩ := List.mem_map.1 hr; rfl) (by simp) (fun C' hle hs => repaired2_fn C' _ v29 l (ns.eraseIdx i) (hv.mono (by (repeat (first | exact Mem.le.refl _ | assumption | (apply Mem.le.trans; rotate_left; assumption))))) hE hsh hs (by omega))) rfl (.inr (by decide)) rfl rfl rfl rfl rfl rfl (List.Perm.of_eq (show _ = _ ++ ([] : List Ent) from by
          rw [← List.map_take, ← List.map_drop, ← List.map_append, take_drop_erase]
          simp [nats_flat, intN])) (fun _ => rfl) (fun v30 C30 L30 hle30 hq30 => ?_)
        obtain ⟨rfl, rfl⟩ := hq30
        refine D.done [(0, [], _), (1, [], _), (19, [], _), (20, [], _), (30, [], _)] ⟨rfl, rfl, rfl, rfl, rfl, trivial⟩ (hR _ _ _ rfl ?_); clear hR R
        refine G.cond rfl (fun h30 => ?_) (fun h30 => ?_)
        · skip
          have h30' : noneB l (ns.eraseIdx i) = true := by simpa using h30
          refine G.region rfl (fun R hR => ?_)
          iterate 2 refine D.pure rfl rfl rfl rfl rfl rfl ?_
          refine D.done [(4, [], _), (5, [], _)] ⟨rfl, rfl, trivial⟩ (hR _ _ _ rfl ?_); clear hR R
          refine G.retN (G.dropAll (G.fin2 rfl rfl rfl ?_))
          refine ⟨rfl, .inr ⟨h12', ?_⟩⟩
          have : needB l ns = false := by
            unfold needB
            rw [Bool.and_eq_false_iff]
            right
            rw [List.all_eq_false]
            exact ⟨i, List.mem_range.2 (by omega), by simp [h30']⟩
          rw [hns, this]
        · skip
          have h30' : noneB l (ns.eraseIdx i) = false := by simpa using h30
          refine G.region rfl (fun R hR => ?_)
          refine D.i64 _ rfl rfl rfl rfl rfl (by omega) (by omega) rfl rfl ?_
          refine D.pure rfl rfl rfl rfl rfl rfl ?_
          refine D.done [(0, [], _), (1, [], _), (19, [], _), (20, [], _)] ⟨rfl, rfl, rfl, rfl, trivial⟩ (hR _ _ _ rfl ?_); clear hR R
          refine G.again (m' := st.length - (i + 1)) (by omega) (by (repeat (first | exact Mem.le.refl _ | assumption | (apply Mem.le.trans; rotate_left; assumption)))) (fr' := [(0, [], _), (1, [], _), (19, [], _), (20, [], _)]) ⟨rfl, rfl, rfl, rfl, trivial⟩ ⟨i + 1, ⟨by omega, fun k hk => by
            rcases Nat.lt_or_ge k i with h | h
            · exact hno k h
            · rw [show k = i by omega]; exact h30'⟩, rfl, rfl, rfl⟩
      · skip
        have hil : i = st.length := by
          have : ¬ i < st.length := by simpa using h21
          omega
        subst hil
        refine G.region rfl (fun R hR => ?_)
        iterate 2 refine D.pure rfl rfl rfl rfl rfl rfl ?_
        refine D.done [(4, [], _), (5, [], _)] ⟨rfl, rfl, trivial⟩ (hR _ _ _ rfl ?_); clear hR R
        refine G.retN (G.dropAll (G.fin2 rfl rfl rfl ?_))
        refine ⟨rfl, .inr ⟨h12', ?_⟩⟩
        have : needB l ns = true := by
          unfold needB
          rw [h17', Bool.true_and, List.all_eq_true]
          intro k hk
          rw [hno k (by have := List.mem_range.1 hk; omega)]; rfl
        rw [hns, this]

/-! ### Through -/
/-- The first way of so many arcs, arc by arc. -/
def greedyN (l : List Rel) (t : Str) : Nat → Str → List Nat
  | 0, _ => []
  | n + 1, s => match (fromL l s).find? fun k => decide (leastW (arcsOf l) (posS (unitsL l) t) (posS (unitsL l) (upOf l k)) = n) with
    | some k => k :: greedyN l t n (upOf l k)
    | none => []
def throughF (l : List Rel) (i k : Nat) : List Nat := i :: greedyN l (lowOf l i) k (upOf l i)
def ThrRes (C : Mem) (l : List Rel) (x : Int) (r : Value) : Prop :=
  (errU l ≠ 0 ∧ r = .tuple #[nilV, .bool false, .int .i64 (errU l)]) ∨ (errU l = 0 ∧ (((x < 0 ∨ (l.length : Int) ≤ x) ∧ r = .tuple #[nilV, .bool false, .int .i64 3]) ∨
    ∃ (i k : Nat) (ok : Bool), x = i ∧ i < l.length ∧ BackR l i k ok ∧ ((ok = false ∧ r = .tuple #[nilV, .bool false, .int .i64 0]) ∨ (ok = true ∧ ∃ v, r = .tuple #[v, .bool true, .int .i64 0] ∧ Sl C 1 v ((throughF l i k).map encN)))))
theorem look_dist {l : List Rel} {s t : Str} {ps : List (Str × Value)} {d : List Int} (hs : s ∈ unitsL l) (hd : IsDist (arcsOf l) (posS (unitsL l) t) (unitsL l).length d) (hds : DsOk (unitsL l) ps d) :
    lookV (.int .i64 0) true (mget ps s) = .tuple #[.int .i64 (if leastW (arcsOf l) (posS (unitsL l) t) (posS (unitsL l) s) < 0 then 0 else leastW (arcsOf l) (posS (unitsL l) t) (posS (unitsL l) s)), .bool (!decide (leastW (arcsOf l) (posS (unitsL l) t) (posS (unitsL l) s) < 0))] := by
  have hmg := hds _ (posS_lt hs)
  rw [nameAt_pos hs] at hmg
  have hdd := hd.unique (distL_ok (arcsOf l) (posS (unitsL l) t) (unitsL l).length)
  have hat : dAt d (posS (unitsL l) s) = leastW (arcsOf l) (posS (unitsL l) t) (posS (unitsL l) s) := by
    rw [hdd]; exact dAt_get (by simp [distL, posS_lt hs])
  rw [hmg, ← hat]
  by_cases h : dAt d (posS (unitsL l) s) < 0
  · simp [h, lookV]
  · simp [h, lookV]
/-- From a unit at distance n + 1 an arc leads to one at distance n. -/
theorem next_some {l : List Rel} {s t : Str} {n : Nat} (hs : s ∈ unitsL l) (ht : t ∈ unitsL l) (h : leastW (arcsOf l) (posS (unitsL l) t) (posS (unitsL l) s) = ((n + 1 : Nat) : Int)) : ∃ k ∈ fromL l s, leastW (arcsOf l) (posS (unitsL l) t) (posS (unitsL l) (upOf l k)) = n := by
  rcases leastW_spec (arcsOf l) (posS (unitsL l) t) (posS (unitsL l) s) with ⟨h1, _⟩ | ⟨q, h1, h2, h3⟩
  · omega
  · have hq : q = n + 1 := by omega
    subst hq
    obtain ⟨x, k1, k2, k3⟩ := (walk_way hs ht).1 h2
    cases x with
    | nil => simp at k2
    | cons k x =>
      refine ⟨k, k1.1, ?_⟩
      have hu := up_unit k1.1
      rcases leastW_spec (arcsOf l) (posS (unitsL l) t) (posS (unitsL l) (upOf l k)) with ⟨_, h5⟩ | ⟨p, h4, h5, h6⟩
      · exact absurd ((walk_way hu ht).2 ⟨x, k1.2, rfl, k3⟩) (h5 _)
      · have h7 := h6 x.length ((walk_way hu ht).2 ⟨x, k1.2, rfl, k3⟩)
        obtain ⟨y, y1, y2, y3⟩ := (walk_way hu ht).1 h5
        have h8 := h3 (p + 1) ((walk_way hs ht).2 ⟨k :: y, ⟨k1.1, y1⟩, by simp [y2], y3⟩)
        rw [h4]
        simp at k2
        omega
set_option maxHeartbeats 4000000 in
theorem through_fn (C : Mem) (v : Value) (l : List Rel) (idx : Int) (hv : Sl C 3 v (l.map Rel.enc)) (hl : l.length ≤ 100000) (hsh : ∀ x ∈ l, x.short) (hi1 : -9223372036854775808 ≤ idx) (hi2 : idx ≤ 9223372036854775807) : Pur cx.P 27 [v, .int .i64 idx] C fun r C' => ThrRes C' l idx r := by
  obtain ⟨A, c, rfl, _⟩ := id hv
  simp only [List.length_map] at hv ⊢
  refine Fn.intro (by kernel_rfl) Tryz.func27 rfl 97 rfl rfl (fun w0 => ?_)
  refine G.region rfl (fun R hR => ?_)
  iterate 3 refine D.pure rfl rfl rfl rfl rfl rfl ?_
  refine D.done [(0, [], _), (1, [], _)] ⟨rfl, rfl, trivial⟩ (hR _ _ _ rfl ?_); clear hR R
  refine G.region rfl (fun R hR => ?_)
  refine D.pure rfl rfl rfl rfl rfl rfl ?_
  refine D.gives2 (check_fn _ _ l (hv.mono (by (repeat (first | exact Mem.le.refl _ | assumption | (apply Mem.le.trans; rotate_left; assumption))))) hl hsh) rfl rfl rfl rfl rfl rfl rfl (fun _ => rfl) ?_
  refine D.pure rfl rfl rfl rfl rfl rfl ?_
  refine D.done [(0, [], _), (1, [], _), (7, [], _)] ⟨rfl, rfl, rfl, trivial⟩ (hR _ _ _ rfl ?_); clear hR R
  refine G.region rfl (fun R hR => ?_)
  iterate 2 refine D.pure rfl rfl rfl rfl rfl rfl ?_
  refine D.done [(0, [], _), (1, [], _), (7, [], _), (20, [], _)] ⟨rfl, rfl, rfl, rfl, trivial⟩ (hR _ _ _ rfl ?_); clear hR R
  refine G.cond rfl (fun h20 => ?_) (fun h20 => ?_)
  · skip
    have h20' : errU l ≠ 0 := by simpa using h20
    refine G.region rfl (fun R hR => ?_)
    iterate 4 refine D.pure rfl rfl rfl rfl rfl rfl ?_
    refine D.done [(4, [], _), (5, [], _), (6, [], _)] ⟨rfl, rfl, rfl, trivial⟩ (hR _ _ _ rfl ?_); clear hR R
    refine G.retN (G.dropAll (G.fin3 rfl rfl rfl rfl ?_))
    exact ⟨rfl, .inl ⟨h20', rfl⟩⟩
  · skip
    have h20' : errU l = 0 := by simpa using h20
    refine G.region rfl (fun R hR => ?_)
    iterate 7 refine D.pure rfl rfl rfl rfl rfl rfl ?_
    refine D.pickOr rfl rfl rfl rfl rfl rfl rfl rfl ?_
    refine D.done [(0, [], _), (1, [], _), (29, [], _)] ⟨rfl, rfl, rfl, trivial⟩ (hR _ _ _ rfl ?_); clear hR R
    refine G.cond rfl (fun h29 => ?_) (fun h29 => ?_)
    · skip
      have h29' : idx < 0 ∨ (l.length : Int) ≤ idx := by simpa using h29
      refine G.region rfl (fun R hR => ?_)
      iterate 3 refine D.pure rfl rfl rfl rfl rfl rfl ?_
      refine D.done [(4, [], _), (5, [], _), (6, [], _)] ⟨rfl, rfl, rfl, trivial⟩ (hR _ _ _ rfl ?_); clear hR R
      refine G.retN (G.dropAll (G.fin3 rfl rfl rfl rfl ?_))
      exact ⟨rfl, .inr ⟨h20', .inl ⟨h29', rfl⟩⟩⟩
    · skip
      have h29' : ¬ (idx < 0 ∨ (l.length : Int) ≤ idx) := by simpa using h29
      obtain ⟨i, rfl⟩ : ∃ i : Nat, idx = i := ⟨idx.toNat, by omega⟩
      have hil : i < l.length := by omega
      obtain ⟨x, hx⟩ : ∃ x, l[i]? = some x := ⟨l[i], List.getElem?_eq_getElem hil⟩
      have hrx : (l.map Rel.enc)[i]? = some x.enc := by rw [List.getElem?_map, hx]; rfl
      have hmu := mem_units (List.mem_of_getElem? hx)
      have hlw : lowOf l i = x.lower := by unfold lowOf; rw [hx]
      have hup : upOf l i = x.upper := by unfold upOf; rw [hx]
      refine G.region rfl (fun R hR => ?_)
      refine D.pure rfl rfl rfl rfl rfl rfl ?_
      refine D.callP (open_fn _ _ l (hv.mono (by (repeat (first | exact Mem.le.refl _ | assumption | (apply Mem.le.trans; rotate_left; assumption))))) hl) rfl rfl rfl rfl rfl rfl rfl (fun _ => rfl) (fun v31 C31 hle31 hq31 => ?_)
      have hG := hq31
      obtain ⟨bg, Ag, cg, bmg, psg, rfl, hgo, hgv, hgm, hgf⟩ := hq31.ok
      refine D.pure rfl rfl rfl rfl rfl rfl ?_
      refine D.done [(0, [], _), (1, [], _), (8, [], _)] ⟨rfl, rfl, rfl, trivial⟩ (hR _ _ _ rfl ?_); clear hR R
      refine G.region rfl (fun R hR => ?_)
      iterate 2 refine D.pure rfl rfl rfl rfl rfl rfl ?_
      refine D.callP (back_fn _ _ l i (hG.mono (by (repeat (first | exact Mem.le.refl _ | assumption | (apply Mem.le.trans; rotate_left; assumption))))) hl hil) rfl rfl rfl rfl rfl rfl rfl (fun _ => rfl) (fun v35 C35 hle35 hq35 => ?_)
      obtain ⟨k, ok, rfl, hbk, hkb⟩ := hq35
      iterate 5 refine D.pure rfl rfl rfl rfl rfl rfl ?_
      refine D.done [(0, [], _), (1, [], _), (8, [], _), (9, [], _), (10, [], _)] ⟨rfl, rfl, rfl, rfl, rfl, trivial⟩ (hR _ _ _ rfl ?_); clear hR R
      refine G.region rfl (fun R hR => ?_)
      iterate 2 refine D.pure rfl rfl rfl rfl rfl rfl ?_
      refine D.done [(0, [], _), (1, [], _), (8, [], _), (9, [], _), (39, [], _)] ⟨rfl, rfl, rfl, rfl, rfl, trivial⟩ (hR _ _ _ rfl ?_); clear hR R
      refine G.cond rfl (fun h39 => ?_) (fun h39 => ?_)
      · skip
        have h39' : ok = false := by simpa using h39
        refine G.region rfl (fun R hR => ?_)
        iterate 3 refine D.pure rfl rfl rfl rfl rfl rfl ?_
        refine D.done [(4, [], _), (5, [], _), (6, [], _)] ⟨rfl, rfl, rfl, trivial⟩ (hR _ _ _ rfl ?_); clear hR R
        refine G.retN (G.dropAll (G.fin3 rfl rfl rfl rfl ?_))
        exact ⟨rfl, .inr ⟨h20', .inr ⟨i, k, ok, rfl, hil, hbk, .inl ⟨h39', rfl⟩⟩⟩⟩
      · skip
        have h39' : ok = true := by simpa using h39
        subst h39'
        refine G.region rfl (fun R hR => ?_)
        iterate 3 refine D.pure rfl rfl rfl rfl rfl rfl ?_
        refine D.index0 (hv.mono (by (repeat (first | exact Mem.le.refl _ | assumption | (apply Mem.le.trans; rotate_left; assumption))))) rfl rfl rfl rfl rfl rfl rfl rfl rfl rfl (by omega) hrx (fun _ => rfl) (fun p43 hp43 => ?_)
        refine D.fieldP0 hp43 rfl rfl rfl rfl rfl rfl rfl rfl rfl rfl (fun _ => rfl) (fun p44 hp44 => ?_)
        refine D.loadP0 hp44 rfl rfl rfl rfl rfl rfl rfl rfl ?_
        refine D.callP (dist_fn2 _ _ l x.lower (hG.mono (by (repeat (first | exact Mem.le.refl _ | assumption | (apply Mem.le.trans; rotate_left; assumption))))) hl hmu.1) rfl rfl rfl rfl rfl rfl rfl (fun _ => rfl) (fun v46 C46 hle46 hq46 => ?_)
        obtain ⟨bd, pd, d, rfl, hbd, hdist, hdb, hds⟩ := hq46
        refine D.pure rfl rfl rfl rfl rfl rfl ?_
        refine D.done [(0, [], _), (1, [], _), (8, [], _), (9, [], _), (11, [], _)] ⟨rfl, rfl, rfl, rfl, rfl, trivial⟩ (hR _ _ _ rfl ?_); clear hR R
        refine G.region rfl (fun R hR => ?_)
        refine D.pure rfl rfl rfl rfl rfl rfl ?_
        refine D.buildArr [encN i] rfl rfl rfl rfl rfl rfl rfl rfl rfl rfl rfl rfl (fun _ => rfl) (fun b48 => ?_)
        refine D.pure rfl rfl rfl rfl rfl rfl ?_
        refine D.done [(0, [], _), (1, [], _), (4, [], _), (8, [], _), (9, [], _), (11, [], _)] ⟨rfl, rfl, rfl, rfl, rfl, rfl, trivial⟩ (hR _ _ _ rfl ?_); clear hR R
        refine G.region rfl (fun R hR => ?_)
        iterate 2 refine D.pure rfl rfl rfl rfl rfl rfl ?_
        refine D.index0 (hv.mono (by (repeat (first | exact Mem.le.refl _ | assumption | (apply Mem.le.trans; rotate_left; assumption))))) rfl rfl rfl rfl rfl rfl rfl rfl rfl rfl (by omega) hrx (fun _ => rfl) (fun p51 hp51 => ?_)
        refine D.fieldP0 hp51 rfl rfl rfl rfl rfl rfl rfl rfl rfl rfl (fun _ => rfl) (fun p52 hp52 => ?_)
        refine D.loadP0 hp52 rfl rfl rfl rfl rfl rfl rfl rfl ?_
        refine D.pure rfl rfl rfl rfl rfl rfl ?_
        refine D.done [(0, [], _), (4, [], _), (8, [], _), (9, [], _), (11, [], _), (12, [], _)] ⟨rfl, rfl, rfl, rfl, rfl, rfl, trivial⟩ (hR _ _ _ rfl ?_); clear hR R
        have hk0 : leastW (arcsOf l) (posS (unitsL l) x.lower) (posS (unitsL l) x.upper) = (k : Int) := by
          rcases hbk with ⟨_, a, h1, h2, h3, h4⟩ | ⟨h1, _⟩
          · obtain ⟨y, h5, h6, h7, h8, _, _⟩ := arc_at h1
            rw [h2, hx] at h5
            cases h5
            rw [h7, h8] at h3 h4
            rcases leastW_spec (arcsOf l) (posS (unitsL l) x.lower) (posS (unitsL l) x.upper) with ⟨_, h9⟩ | ⟨q, h9, h10, h11⟩
            · exact absurd h3 (h9 k)
            · have := h11 _ h3
              have := h4 _ h10
              rw [h9]; congr 1; omega
          · cases h1
        refine G.loop (fun fr C' L' μ => ∃ (n : Nat) (s : Str) (cy : List Nat) (w : Value), (s ∈ unitsL l ∧ leastW (arcsOf l) (posS (unitsL l) x.lower) (posS (unitsL l) s) = (n : Int) ∧ cy ++ greedyN l x.lower n s = throughF l i k ∧ cy.length + n ≤ 1000001) ∧ fr = [(0, [], .slice A l.length c), (4, [], w), (8, [], .pointer (some ⟨bg, 0, none⟩)), (9, [], .int .i64 n), (11, [], .map (some bd)), (12, [], strV s)] ∧ L' = [.arr w 3 1 cy.length (cy.map intN)] ∧ μ = 0 + n) (fr' := [(0, [], _), (4, [], _), (8, [], _), (9, [], _), (11, [], _), (12, [], _)]) ⟨rfl, rfl, rfl, rfl, rfl, rfl, trivial⟩ ⟨k, x.upper, [i], _, ⟨hmu.2, hk0, by unfold throughF; rw [hlw, hup]; rfl, by simp; omega⟩, rfl, rfl, rfl⟩ (fun fr C0' L0' m hle0 hI => ?_)
        obtain ⟨n, s, cy, w, ⟨hs, hsn, hcy, hcb⟩, rfl, rfl, rfl⟩ := hI
        refine G.region rfl (fun R hR => ?_)
        iterate 2 refine D.pure rfl rfl rfl rfl rfl rfl ?_
        refine D.done [(0, [], _), (4, [], _), (8, [], _), (9, [], _), (11, [], _), (12, [], _), (55, [], _)] ⟨rfl, rfl, rfl, rfl, rfl, rfl, rfl, trivial⟩ (hR _ _ _ rfl ?_); clear hR R
        refine G.cond rfl (fun h55 => ?_) (fun h55 => ?_)
        · skip
          have h55' : 0 < n := by simpa using h55
          obtain ⟨n, rfl⟩ : ∃ q, n = q + 1 := ⟨n - 1, by omega⟩
          obtain ⟨kf, hkf1, hkf2⟩ := next_some hs hmu.1 hsn
          have hlk := hgf s
          obtain ⟨ks, hks⟩ : ∃ ks, fromL l s = ks := ⟨_, rfl⟩
          have hkl : ks.length ≤ 100000 := by rw [← hks]; have := fromL_len l s; omega
          rw [hks] at hlk hkf1
          obtain ⟨Af, cf, hve, _⟩ := id hlk
          rw [hve] at hlk
          simp only [List.length_map] at hlk hve
          refine G.region rfl (fun R hR => ?_)
          iterate 3 refine D.pure rfl rfl rfl rfl rfl rfl ?_
          refine D.loadP0 (PtrTo.block (Mem.get hgo (by (repeat (first | exact Mem.le.refl _ | assumption | (apply Mem.le.trans; rotate_left; assumption))))) _) rfl rfl rfl rfl rfl rfl rfl rfl ?_
          refine D.pure rfl rfl rfl rfl rfl rfl ?_
          refine D.lookupC keyS (fun _ => (Mem.get hgm (by (repeat (first | exact Mem.le.refl _ | assumption | (apply Mem.le.trans; rotate_left; assumption)))))) rfl rfl rfl rfl rfl rfl rfl rfl (by kernel_rfl) rfl hve rfl rfl ?_
          iterate 2 refine D.pure rfl rfl rfl rfl rfl rfl ?_
          refine D.done [(0, [], _), (4, [], _), (8, [], _), (9, [], _), (11, [], _), (12, [], _), (63, [], _), (64, [], _), (65, [], _)] ⟨rfl, rfl, rfl, rfl, rfl, rfl, rfl, rfl, rfl, trivial⟩ (hR _ _ _ rfl ?_); clear hR R
          refine G.loop (fun fr C' L' μ => ∃ (j : Nat), (j ≤ ks.length ∧ ∀ q y, q < j → ks[q]? = some y → ¬ leastW (arcsOf l) (posS (unitsL l) x.lower) (posS (unitsL l) (upOf l y)) = (n : Int)) ∧ fr = [(0, [], .slice A l.length c), (4, [], w), (8, [], .pointer (some ⟨bg, 0, none⟩)), (9, [], .int .i64 ((n + 1 : Nat) : Int)), (11, [], .map (some bd)), (12, [], strV s), (63, [], .slice Af ks.length cf), (64, [], .int .i64 ks.length), (65, [], .int .i64 j)] ∧ L' = [.arr w 3 1 cy.length (cy.map intN)] ∧ μ = ks.length - j) (fr' := [(0, [], _), (4, [], _), (8, [], _), (9, [], _), (11, [], _), (12, [], _), (63, [], _), (64, [], _), (65, [], _)]) ⟨rfl, rfl, rfl, rfl, rfl, rfl, rfl, rfl, rfl, trivial⟩ ⟨0, ⟨Nat.zero_le _, fun q y h => by omega⟩, rfl, rfl, rfl⟩ (fun fr C1' L1' m hle1 hI => ?_)
          obtain ⟨j, ⟨hj, hno⟩, rfl, rfl, rfl⟩ := hI
          refine G.region rfl (fun R hR => ?_)
          refine D.pure rfl rfl rfl rfl rfl rfl ?_
          refine D.done [(0, [], _), (4, [], _), (8, [], _), (9, [], _), (11, [], _), (12, [], _), (63, [], _), (64, [], _), (65, [], _), (66, [], _)] ⟨rfl, rfl, rfl, rfl, rfl, rfl, rfl, rfl, rfl, rfl, trivial⟩ (hR _ _ _ rfl ?_); clear hR R
          refine G.cond rfl (fun h66 => ?_) (fun h66 => ?_)
          · skip
            have hjl : j < ks.length := by simpa using h66
            obtain ⟨kk, hk⟩ : ∃ k, ks[j]? = some k := ⟨ks[j], List.getElem?_eq_getElem hjl⟩
            have hrk : (ks.map encN)[j]? = some (encN kk) := by rw [List.getElem?_map, hk]; rfl
            have hkm : kk ∈ fromL l s := by rw [hks]; exact List.mem_of_getElem? hk
            obtain ⟨y, hy, hyk, hyl⟩ := mem_from.1 hkm
            have hry : (l.map Rel.enc)[kk]? = some y.enc := by rw [List.getElem?_map, hy]; rfl
            have hmy := mem_units (List.mem_of_getElem? hy)
            have huy : upOf l kk = y.upper := by unfold upOf; rw [hy]
            have hlv := look_dist (t := x.lower) hmy.2 hdist hds
            obtain ⟨dk, hdk⟩ : ∃ dk, leastW (arcsOf l) (posS (unitsL l) x.lower) (posS (unitsL l) y.upper) = dk := ⟨_, rfl⟩
            rw [hdk] at hlv
            refine G.region rfl (fun R hR => ?_)
            refine D.index0 (hlk.mono (by (repeat (first | exact Mem.le.refl _ | assumption | (apply Mem.le.trans; rotate_left; assumption))))) rfl rfl rfl rfl rfl rfl rfl rfl rfl rfl (by omega) hrk (fun _ => rfl) (fun p67 hp67 => ?_)
            refine D.loadP0 hp67 rfl rfl rfl rfl rfl rfl rfl rfl ?_
            refine D.pure rfl rfl rfl rfl rfl rfl ?_
            refine D.done [(0, [], _), (4, [], _), (8, [], _), (9, [], _), (11, [], _), (12, [], _), (14, [], _), (63, [], _), (64, [], _), (65, [], _)] ⟨rfl, rfl, rfl, rfl, rfl, rfl, rfl, rfl, rfl, rfl, trivial⟩ (hR _ _ _ rfl ?_); clear hR R
            refine G.region rfl (fun R hR => ?_)
            iterate 3 refine D.pure rfl rfl rfl rfl rfl rfl ?_
            refine D.index0 (hv.mono (by (repeat (first | exact Mem.le.refl _ | assumption | (apply Mem.le.trans; rotate_left; assumption))))) rfl rfl rfl rfl rfl rfl rfl rfl rfl rfl (by omega) hry (fun _ => rfl) (fun p73 hp73 => ?_)
            refine D.fieldP0 hp73 rfl rfl rfl rfl rfl rfl rfl rfl rfl rfl (fun _ => rfl) (fun p74 hp74 => ?_)
            refine D.loadP0 hp74 rfl rfl rfl rfl rfl rfl rfl rfl ?_
            refine D.lookupC keyS (fun _ => (Mem.get hbd (by (repeat (first | exact Mem.le.refl _ | assumption | (apply Mem.le.trans; rotate_left; assumption)))))) rfl rfl rfl rfl rfl rfl rfl rfl (by kernel_rfl) rfl hlv rfl rfl ?_
            iterate 5 refine D.pure rfl rfl rfl rfl rfl rfl ?_
            refine D.done [(0, [], _), (4, [], _), (8, [], _), (9, [], _), (11, [], _), (12, [], _), (14, [], _), (15, [], _), (16, [], _), (63, [], _), (64, [], _), (65, [], _)] ⟨rfl, rfl, rfl, rfl, rfl, rfl, rfl, rfl, rfl, rfl, rfl, rfl, trivial⟩ (hR _ _ _ rfl ?_); clear hR R
            refine G.region rfl (fun R hR => ?_)
            iterate 4 refine D.pure rfl rfl rfl rfl rfl rfl ?_
            refine D.i64 (((n : Nat) : Int)) rfl rfl rfl rfl (by omega) (by omega) (by omega) rfl rfl ?_
            refine D.pure rfl rfl rfl rfl rfl rfl ?_
            refine D.pickAnd rfl rfl rfl rfl rfl rfl rfl rfl ?_
            refine D.done [(0, [], _), (4, [], _), (8, [], _), (9, [], _), (11, [], _), (12, [], _), (14, [], _), (63, [], _), (64, [], _), (65, [], _), (85, [], _)] ⟨rfl, rfl, rfl, rfl, rfl, rfl, rfl, rfl, rfl, rfl, rfl, trivial⟩ (hR _ _ _ rfl ?_); clear hR R
            refine G.cond rfl (fun h85 => ?_) (fun h85 => ?_)
            · skip
              have h85' : dk = n := by
                by_cases hneg : dk < 0
                · simp [hneg] at h85
                · simpa [hneg] using h85
              have hfind : (fromL l s).find? (fun k => decide (leastW (arcsOf l) (posS (unitsL l) x.lower) (posS (unitsL l) (upOf l k)) = (n : Int))) = some kk := by
                rw [hks, List.find?_eq_some_iff_getElem]
                refine ⟨by rw [huy, hdk, h85']; simp, j, hjl, (List.getElem?_eq_some_iff.1 hk).2, fun q hq => ?_⟩
                have := hno q _ hq (List.getElem?_eq_getElem (by omega))
                simp [this]
              have hgr : greedyN l x.lower (n + 1) s = kk :: greedyN l x.lower n y.upper := by
                simp only [greedyN]; rw [hfind]; simp only; rw [huy]
              refine G.region rfl (fun R hR => ?_)
              iterate 2 refine D.pure rfl rfl rfl rfl rfl rfl ?_
              refine D.buildSlice [encN kk] rfl rfl rfl rfl rfl rfl rfl rfl rfl rfl rfl rfl (fun _ => rfl) (fun p88 C88 hle88 hs88 => ?_)
              refine D.append (j := 0) rfl rfl rfl rfl rfl rfl rfl rfl rfl rfl rfl hs88 rfl (by simp only [List.length_singleton, maxLen]; omega) (by simp only [List.length_singleton]; omega) (fun _ => rfl) (fun v89 => ?_)
              refine D.pure rfl rfl rfl rfl rfl rfl ?_
              refine D.done [(0, [], _), (4, [], _), (8, [], _), (9, [], _), (11, [], _), (14, [], _)] ⟨rfl, rfl, rfl, rfl, rfl, rfl, trivial⟩ (hR _ _ _ rfl ?_); clear hR R
              refine G.region rfl (fun R hR => ?_)
              iterate 2 refine D.pure rfl rfl rfl rfl rfl rfl ?_
              refine D.index0 (hv.mono (by (repeat (first | exact Mem.le.refl _ | assumption | (apply Mem.le.trans; rotate_left; assumption))))) rfl rfl rfl rfl rfl rfl rfl rfl rfl rfl (by omega) hry (fun _ => rfl) (fun p92 hp92 => ?_)
              refine D.fieldP0 hp92 rfl rfl rfl rfl rfl rfl rfl rfl rfl rfl (fun _ => rfl) (fun p93 hp93 => ?_)
              refine D.loadP0 hp93 rfl rfl rfl rfl rfl rfl rfl rfl ?_
              refine D.pure rfl rfl rfl rfl rfl rfl ?_
              refine D.done [(0, [], _), (4, [], _), (8, [], _), (9, [], _), (11, [], _), (12, [], _)] ⟨rfl, rfl, rfl, rfl, rfl, rfl, trivial⟩ (hR _ _ _ rfl ?_); clear hR R
              refine G.region rfl (fun R hR => ?_)
              refine D.pure rfl rfl rfl rfl rfl rfl ?_
              refine D.i64 (((n : Nat) : Int)) rfl rfl rfl rfl (by omega) (by omega) (by omega) rfl rfl ?_
              refine D.pure rfl rfl rfl rfl rfl rfl ?_
              refine D.done [(0, [], _), (4, [], _), (8, [], _), (9, [], _), (11, [], _), (12, [], _)] ⟨rfl, rfl, rfl, rfl, rfl, rfl, trivial⟩ (hR _ _ _ rfl ?_); clear hR R
              refine G.eqL (L' := [.arr v89 3 1 (cy ++ [kk]).length ((cy ++ [kk]).map intN)]) (by simp [encN, intN]) ?_
              refine G.again (m' := 0 + n) (by omega) (by (repeat (first | exact Mem.le.refl _ | assumption | (apply Mem.le.trans; rotate_left; assumption)))) (fr' := [(0, [], _), (4, [], _), (8, [], _), (9, [], _), (11, [], _), (12, [], _)]) ⟨rfl, rfl, rfl, rfl, rfl, rfl, trivial⟩ ⟨n, y.upper, cy ++ [kk], v89, ⟨hmy.2, by rw [hdk, h85'], by rw [← hcy, hgr, List.append_assoc]; rfl, by simp; omega⟩, rfl, rfl, rfl⟩
            · skip
              have h85' : ¬ dk = n := fun hh => by
                have hneg : ¬ dk < 0 := by omega
                simp [hh] at h85
                omega
              refine G.region rfl (fun R hR => ?_)
              refine D.i64 _ rfl rfl rfl rfl rfl (by omega) (by omega) rfl rfl ?_
              refine D.pure rfl rfl rfl rfl rfl rfl ?_
              refine D.done [(0, [], _), (4, [], _), (8, [], _), (9, [], _), (11, [], _), (12, [], _), (63, [], _), (64, [], _), (65, [], _)] ⟨rfl, rfl, rfl, rfl, rfl, rfl, rfl, rfl, rfl, trivial⟩ (hR _ _ _ rfl ?_); clear hR R
              refine G.again (m' := ks.length - (j + 1)) (by omega) (by (repeat (first | exact Mem.le.refl _ | assumption | (apply Mem.le.trans; rotate_left; assumption)))) (fr' := [(0, [], _), (4, [], _), (8, [], _), (9, [], _), (11, [], _), (12, [], _), (63, [], _), (64, [], _), (65, [], _)]) ⟨rfl, rfl, rfl, rfl, rfl, rfl, rfl, rfl, rfl, trivial⟩ ⟨j + 1, ⟨by omega, fun q z hq hz => by
                rcases Nat.lt_or_ge q j with h | h
                · exact hno q z h hz
                · have : q = j := by omega
                  subst this
                  rw [hk] at hz; cases hz
                  rw [huy, hdk]; exact h85'⟩, rfl, rfl, rfl⟩
          · skip
            exfalso
            have hjl : j = ks.length := by
              have : ¬ j < ks.length := by simpa using h66
              omega
            obtain ⟨q, hq⟩ := List.getElem?_of_mem hkf1
            exact hno q kf (by have := (List.getElem?_eq_some_iff.1 hq).1; omega) hq hkf2
        · skip
          have h55' : n = 0 := by
            have : ¬ 0 < n := by simpa using h55
            omega
          subst h55'
          refine G.region rfl (fun R hR => ?_)
          iterate 4 refine D.pure rfl rfl rfl rfl rfl rfl ?_
          refine D.done [(4, [], _), (5, [], _), (6, [], _)] ⟨rfl, rfl, rfl, trivial⟩ (hR _ _ _ rfl ?_); clear hR R
          refine G.eqL (L' := [.arr w 3 1 cy.length (cy.map encN).flatten]) (by rw [nats_flat]) ?_
          refine G.freezeArr 0 (cy.map encN) rfl rfl (by intro r hr; obtain ⟨y, _, rfl⟩ := List.mem_map.1 hr; rfl) (by simp) (fun Cf hf hsd => ?_)
          refine G.retN (G.dropAll (G.fin3 rfl rfl rfl rfl ?_))
          refine ⟨rfl, .inr ⟨h20', .inr ⟨i, k, true, rfl, hil, hbk, .inr ⟨rfl, _, rfl, ?_⟩⟩⟩⟩
          rw [← hcy]; simpa [greedyN] using hsd
end Go.Proofs.YtcghlfepfcagbaaGreat
namespace Go.Jog
open Go

/-- a without the bits of b. -/
def andN (a b : Nat) : Nat := a &&& (18446744073709551616 - (b + 1))
theorem andN_bit {a b j : Nat} (hb : b < 18446744073709551616) : (andN a b).testBit j = (a.testBit j && (decide (j < 64) && !b.testBit j)) := by
  unfold andN
  rw [Nat.testBit_and, show (18446744073709551616 : Nat) = 2 ^ 64 from rfl, Nat.testBit_two_pow_sub_succ (by omega)]

section
variable {cx : Cx} {n : Nat} {ds : List (Option Nat)} {R : Rg n ds} {its : List It} {fr : Fr} {C : Mem} {L : List Ent} {i k d : Nat} {o : Oper} {g : GL}
theorem ofInt_u64 {a : Nat} (ha : a < 18446744073709551616) : (BitVec.ofInt 64 (a : Int)).toNat = a := by
  rw [BitVec.ofInt_natCast, BitVec.toNat_ofNat]; exact Nat.mod_eq_of_lt (by omega)
/-- 1, shifted. -/
theorem D.shl1 (m : Nat) {ki kj : IntKind} {t ty : Nat} {x y : Operand} {q : Int} (hk : Nat.ble k 1 = true) (hd : o.dst = some d) (hop : o.op = .binOp .shl t x y ty) (hg : gOf ds fr o.guard = some g) (hx : ev fr g x = some (.int ki 1)) (hy : ev fr g y = some (.int kj q))
    (hki : ki = .u64 ∨ ki = .i64) (hq : q = m) (hm : m ≤ 62) (hp : okPut n ds ((d, g, .int ki ((2 ^ m : Nat) : Int)) :: fr) d = true) (hwf : wfG ds fr g = true)
    (h : D cx R its ((d, g, .int ki ((2 ^ m : Nat) : Int)) :: fr) C L) : D cx R ((i, k, o) :: its) fr C L :=
  D.run _ hk hd hg (fun _ A hs w => by
    subst hq
    rw [exec_binOp hop (hs _ _ hx) (hs _ _ hy) (fun _ _ => .inl (by simp)) (.inl (by simp)) w]
    have h0 : ¬ ((m : Int) < 0) := by omega
    have hb : ki.bits = 64 := by rcases hki with rfl | rfl <;> rfl
    have hmin : Min.min m 64 = m := by omega
    have hle : 2 ^ m ≤ 2 ^ 62 := Nat.pow_le_pow_right (by decide) hm
    have e : ki.wrap (1 * 2 ^ m) = ((2 ^ m : Nat) : Int) := by
      have e1 : (1 : Int) * 2 ^ m = ((2 ^ m : Nat) : Int) := by rw [Int.one_mul]; norm_cast
      rw [e1]
      have hle2 : 2 ^ m ≤ 4611686018427387904 := hle
      generalize 2 ^ m = P at hle2
      rcases hki with rfl | rfl
      · rw [IntKind.wrap_u64]; omega
      · exact wrap_i64 (by omega) (by omega)
    simp only [binOp, Op.shift, h0, if_false, Int.toNat_natCast, hb, hmin, Sem.run_pure, Result.andThen_ok]
    rw [e]) hp hwf h
end

end Go.Jog
namespace Go.Jog
open Go
section
variable {cx : Cx} {n : Nat} {ds : List (Option Nat)} {R : Rg n ds} {its : List It} {fr : Fr} {C : Mem} {L : List Ent} {i k d : Nat} {o : Oper} {g : GL}
theorem and_small (a b : Nat) (ha : a < 9223372036854775808) : a &&& b < 9223372036854775808 := Nat.lt_of_le_of_lt Nat.and_le_left ha
theorem D.andI (a b : Nat) {t ty : Nat} {x y : Operand} {p q : Int} (hk : Nat.ble k 1 = true) (hd : o.dst = some d) (hop : o.op = .binOp .and t x y ty) (hg : gOf ds fr o.guard = some g) (hx : ev fr g x = some (.int .i64 p)) (hy : ev fr g y = some (.int .i64 q))
    (hpa : p = a) (hqb : q = b) (ha : a < 9223372036854775808) (hb : b < 9223372036854775808) (hp : okPut n ds ((d, g, .int .i64 ((a &&& b : Nat) : Int)) :: fr) d = true) (hwf : wfG ds fr g = true)
    (h : D cx R its ((d, g, .int .i64 ((a &&& b : Nat) : Int)) :: fr) C L) : D cx R ((i, k, o) :: its) fr C L :=
  D.run _ hk hd hg (fun _ A hs w => by
    subst hpa hqb
    rw [exec_binOp hop (hs _ _ hx) (hs _ _ hy) (fun _ _ => .inl (by simp)) (.inl (by simp)) w]
    have e : IntKind.i64.wrap ((BitVec.ofInt 64 (a : Int) &&& BitVec.ofInt 64 (b : Int)).toNat : Int) = ((a &&& b : Nat) : Int) := by
      rw [BitVec.toNat_and, ofInt_u64 (by omega), ofInt_u64 (by omega)]
      have := and_small a b ha
      exact wrap_i64 (by omega) (by omega)
    simp [binOp, Op.intBits, IntKind.bits]
    exact e) hp hwf h
theorem D.orI (a b : Nat) {t ty : Nat} {x y : Operand} {p q : Int} (hk : Nat.ble k 1 = true) (hd : o.dst = some d) (hop : o.op = .binOp .or t x y ty) (hg : gOf ds fr o.guard = some g) (hx : ev fr g x = some (.int .i64 p)) (hy : ev fr g y = some (.int .i64 q))
    (hpa : p = a) (hqb : q = b) (ha : a < 9223372036854775808) (hb : b < 9223372036854775808) (hp : okPut n ds ((d, g, .int .i64 ((a ||| b : Nat) : Int)) :: fr) d = true) (hwf : wfG ds fr g = true)
    (h : D cx R its ((d, g, .int .i64 ((a ||| b : Nat) : Int)) :: fr) C L) : D cx R ((i, k, o) :: its) fr C L :=
  D.run _ hk hd hg (fun _ A hs w => by
    subst hpa hqb
    rw [exec_binOp hop (hs _ _ hx) (hs _ _ hy) (fun _ _ => .inl (by simp)) (.inl (by simp)) w]
    have e : IntKind.i64.wrap ((BitVec.ofInt 64 (a : Int) ||| BitVec.ofInt 64 (b : Int)).toNat : Int) = ((a ||| b : Nat) : Int) := by
      rw [BitVec.toNat_or, ofInt_u64 (by omega), ofInt_u64 (by omega)]
      have : a ||| b < 2 ^ 63 := Nat.or_lt_two_pow (by omega) (by omega)
      exact wrap_i64 (by omega) (by omega)
    simp [binOp, Op.intBits, IntKind.bits]
    exact e) hp hwf h
theorem D.andNotI (a b : Nat) {t ty : Nat} {x y : Operand} {p q : Int} (hk : Nat.ble k 1 = true) (hd : o.dst = some d) (hop : o.op = .binOp .andNot t x y ty) (hg : gOf ds fr o.guard = some g) (hx : ev fr g x = some (.int .i64 p)) (hy : ev fr g y = some (.int .i64 q))
    (hpa : p = a) (hqb : q = b) (ha : a < 9223372036854775808) (hb : b < 9223372036854775808) (hp : okPut n ds ((d, g, .int .i64 ((andN a b : Nat) : Int)) :: fr) d = true) (hwf : wfG ds fr g = true)
    (h : D cx R its ((d, g, .int .i64 ((andN a b : Nat) : Int)) :: fr) C L) : D cx R ((i, k, o) :: its) fr C L :=
  D.run _ hk hd hg (fun _ A hs w => by
    subst hpa hqb
    rw [exec_binOp hop (hs _ _ hx) (hs _ _ hy) (fun _ _ => .inl (by simp)) (.inl (by simp)) w]
    have e : IntKind.i64.wrap ((BitVec.ofInt 64 (a : Int) &&& ~~~ BitVec.ofInt 64 (b : Int)).toNat : Int) = ((andN a b : Nat) : Int) := by
      rw [BitVec.toNat_and, BitVec.toNat_not, ofInt_u64 (by omega), ofInt_u64 (by omega)]
      have e : 2 ^ 64 - 1 - b = 18446744073709551616 - (b + 1) := by omega
      rw [e]
      show IntKind.i64.wrap ((andN a b : Nat) : Int) = _
      have : andN a b < 9223372036854775808 := and_small a _ ha
      exact wrap_i64 (by omega) (by omega)
    simp [binOp, Op.intBits, IntKind.bits]
    exact e) hp hwf h
theorem D.shrI (a m : Nat) {kj : IntKind} {t ty : Nat} {x y : Operand} {p q : Int} (hk : Nat.ble k 1 = true) (hd : o.dst = some d) (hop : o.op = .binOp .shr t x y ty) (hg : gOf ds fr o.guard = some g) (hx : ev fr g x = some (.int .i64 p)) (hy : ev fr g y = some (.int kj q))
    (hpa : p = a) (hq : q = m) (hm : m ≤ 62) (hp : okPut n ds ((d, g, .int .i64 ((a / 2 ^ m : Nat) : Int)) :: fr) d = true) (hwf : wfG ds fr g = true)
    (h : D cx R its ((d, g, .int .i64 ((a / 2 ^ m : Nat) : Int)) :: fr) C L) : D cx R ((i, k, o) :: its) fr C L :=
  D.run _ hk hd hg (fun _ A hs w => by
    subst hpa hq
    rw [exec_binOp hop (hs _ _ hx) (hs _ _ hy) (fun _ _ => .inl (by simp)) (.inl (by simp)) w]
    have h0 : ¬ ((m : Int) < 0) := by omega
    have hmin : Min.min m 64 = m := by omega
    have e : (a : Int).fdiv (2 ^ m) = ((a / 2 ^ m : Nat) : Int) := by
      have e1 : (2 : Int) ^ m = ((2 ^ m : Nat) : Int) := by norm_cast
      rw [e1, Int.fdiv_eq_ediv_of_nonneg _ (Int.natCast_nonneg _)]
      exact (Int.natCast_ediv _ _).symm
    simp only [binOp, Op.shift, h0, if_false, Int.toNat_natCast, IntKind.bits, hmin, Sem.run_pure, Result.andThen_ok]
    rw [e]) hp hwf h
end
end Go.Jog
namespace Go.Proofs.YtcghlfepfcagbaaGreat
open Go Go.Jog
set_option maxRecDepth 100000

/-- A list of lists of numbers, laid. -/
def LL (C : Mem) (v : Value) (outs : List (List Nat)) : Prop := ∃ ov : List Value, Sl C 1 v (ov.map fun x => [x]) ∧ OutN C ov outs
theorem LL.mono {C D : Mem} {v : Value} {outs : List (List Nat)} (h : LL C v outs) (hl : C.le D) : LL D v outs := let ⟨ov, h1, h2⟩ := h; ⟨ov, h1.mono hl, h2.mono hl⟩
theorem LL.nil (C : Mem) : LL C (.slice none 0 0) [] := ⟨[], Sl.nil C 1, rfl, fun j v o h => by simp at h⟩
theorem OutN.at {C : Mem} {ov : List Value} {outs : List (List Nat)} (h : OutN C ov outs) {j : Nat} {o : List Nat} (ho : outs[j]? = some o) : ∃ A c, ov[j]? = some (.slice A o.length c) ∧ (ov.map fun x => [x])[j]? = some [.slice A o.length c] ∧ Sl C 1 (.slice A o.length c) (o.map encN) := by
  have hj := (List.getElem?_eq_some_iff.1 ho).1
  have hv : ov[j]? = some (ov[j]'(by rw [h.1]; exact hj)) := List.getElem?_eq_getElem _
  obtain ⟨A, c, he, _⟩ := id (h.2 j _ o hv ho)
  rw [List.length_map] at he
  have hs := h.2 j _ o hv ho
  rw [he] at hs hv
  exact ⟨A, c, hv, by rw [List.getElem?_map, hv]; rfl, hs⟩
theorem arcB_at {l : List Rel} {i : Nat} {x : Rel} (h : l[i]? = some x) : arcB l i = !(x.kind == 4) := by unfold arcB; rw [h]
theorem arc_fn (C : Mem) (x : Rel) : Gives cx.P 53 [.agg ⟨x.enc⟩] C (.bool (!(x.kind == 4))) := by
  refine Fn.intro (by kernel_rfl) Tryz.func53 rfl 6 rfl rfl (fun w0 => ?_)
  refine G.region rfl (fun R hR => ?_)
  refine D.box rfl rfl rfl rfl rfl rfl (fun _ => rfl) (fun b1 => ?_)
  refine D.pure rfl rfl rfl rfl rfl rfl ?_
  refine D.done [(1, [], _)] ⟨rfl, trivial⟩ (hR _ _ _ rfl ?_); clear hR R
  refine G.region rfl (fun R hR => ?_)
  refine D.pure rfl rfl rfl rfl rfl rfl ?_
  refine D.loadL (.head _) rfl rfl rfl rfl rfl rfl rfl rfl rfl ?_
  iterate 2 refine D.pure rfl rfl rfl rfl rfl rfl ?_
  refine D.done [(2, [], _)] ⟨rfl, trivial⟩ (hR _ _ _ rfl ?_); clear hR R
  refine G.retN (G.dropAll (G.fin1 rfl rfl ?_))
  refine ⟨?_, rfl⟩
  congr 1
set_option maxHeartbeats 1000000 in
theorem lequal_fn (C : Mem) (v w : Value) (a b : List Nat) (hv : Sl C 1 v (a.map encN)) (hw : Sl C 1 w (b.map encN)) (ha : a.length ≤ 1000000) (hb : b.length ≤ 1000000) :
    Gives cx.P 18 [v, w] C (.bool (decide (a = b))) := by
  obtain ⟨A, c, rfl, _⟩ := id hv
  obtain ⟨B, d, rfl, _⟩ := id hw
  simp only [List.length_map] at hv hw ⊢
  refine Fn.intro (by kernel_rfl) Tryz.func18 rfl 26 rfl rfl (fun w0 => ?_)
  refine G.region rfl (fun R hR => ?_)
  refine D.pure rfl rfl rfl rfl rfl rfl ?_
  refine D.done [(0, [], _), (1, [], _)] ⟨rfl, rfl, trivial⟩ (hR _ _ _ rfl ?_); clear hR R
  refine G.region rfl (fun R hR => ?_)
  iterate 5 refine D.pure rfl rfl rfl rfl rfl rfl ?_
  refine D.done [(0, [], _), (1, [], _), (10, [], _)] ⟨rfl, rfl, rfl, trivial⟩ (hR _ _ _ rfl ?_); clear hR R
  refine G.cond rfl (fun h10 => ?_) (fun h10 => ?_)
  · skip
    have h10' : a.length ≠ b.length := by
      have : ¬ (a.length : Int) = b.length := by simpa using h10
      omega
    refine G.region rfl (fun R hR => ?_)
    refine D.pure rfl rfl rfl rfl rfl rfl ?_
    refine D.done [(4, [], _)] ⟨rfl, trivial⟩ (hR _ _ _ rfl ?_); clear hR R
    refine G.retN (G.dropAll (G.fin1 rfl rfl ?_))
    exact ⟨by rw [decide_eq_false (fun h => h10' (congrArg List.length h))], rfl⟩
  · skip
    have h10' : a.length = b.length := by
      have : (a.length : Int) = b.length := by simpa using h10
      omega
    refine G.region rfl (fun R hR => ?_)
    refine D.pure rfl rfl rfl rfl rfl rfl ?_
    refine D.done [(0, [], _), (1, [], _), (5, [], _)] ⟨rfl, rfl, rfl, trivial⟩ (hR _ _ _ rfl ?_); clear hR R
    refine G.loop (fun fr C' L' μ => ∃ (k : Nat), (k ≤ a.length ∧ a.take k = b.take k) ∧ fr = [(0, [], .slice A a.length c), (1, [], .slice B b.length d), (5, [], .int .i64 k)] ∧ L' = [] ∧ μ = a.length - k) (fr' := [(0, [], _), (1, [], _), (5, [], _)]) ⟨rfl, rfl, rfl, trivial⟩ ⟨0, ⟨Nat.zero_le _, rfl⟩, rfl, rfl, rfl⟩ (fun fr C0' L0' m hle0 hI => ?_)
    obtain ⟨k, ⟨hka, htk⟩, rfl, rfl, rfl⟩ := hI
    refine G.region rfl (fun R hR => ?_)
    iterate 4 refine D.pure rfl rfl rfl rfl rfl rfl ?_
    refine D.done [(0, [], _), (1, [], _), (5, [], _), (14, [], _)] ⟨rfl, rfl, rfl, rfl, trivial⟩ (hR _ _ _ rfl ?_); clear hR R
    refine G.cond rfl (fun h14 => ?_) (fun h14 => ?_)
    · skip
      have hk2 : k < a.length := by simpa using h14
      obtain ⟨x, hx⟩ : ∃ x, a[k]? = some x := ⟨a[k], List.getElem?_eq_getElem hk2⟩
      have hrx : (a.map encN)[k]? = some (encN x) := by rw [List.getElem?_map, hx]; rfl
      obtain ⟨y, hy⟩ : ∃ y, b[k]? = some y := ⟨b[k]'(by omega), List.getElem?_eq_getElem (by omega)⟩
      have hry : (b.map encN)[k]? = some (encN y) := by rw [List.getElem?_map, hy]; rfl
      refine G.draw [0, 1, 2, 3, 4, 5, 6, 7, 8] [] rfl (by kernel_rfl) (fun R hB hR => ?_)
      iterate 2 refine D.pure rfl rfl rfl rfl rfl rfl ?_
      refine D.index0 (hv.mono (by (repeat (first | exact Mem.le.refl _ | assumption | (apply Mem.le.trans; rotate_left; assumption))))) rfl rfl rfl rfl rfl rfl rfl rfl rfl rfl (by omega) hrx (fun _ => rfl) (fun p19 hp19 => ?_)
      refine D.loadP0 hp19 rfl rfl rfl rfl rfl rfl rfl rfl ?_
      iterate 2 refine D.pure rfl rfl rfl rfl rfl rfl ?_
      refine D.index0 (hw.mono (by (repeat (first | exact Mem.le.refl _ | assumption | (apply Mem.le.trans; rotate_left; assumption))))) rfl rfl rfl rfl rfl rfl rfl rfl rfl rfl (by omega) hry (fun _ => rfl) (fun p23 hp23 => ?_)
      refine D.loadP0 hp23 rfl rfl rfl rfl rfl rfl rfl rfl ?_
      refine D.pure rfl rfl rfl rfl rfl rfl ?_
      refine D.done [(0, [], _), (1, [], _), (5, [], _), (25, [], _)] ⟨rfl, rfl, rfl, rfl, trivial⟩ (hR _ _ _ rfl ?_); clear hR hB R
      refine G.cond rfl (fun h25 => ?_) (fun h25 => ?_)
      · skip
        have h25' : x ≠ y := by
          have : ¬ (x : Int) = y := by simpa using h25
          omega
        refine G.region rfl (fun R hR => ?_)
        refine D.pure rfl rfl rfl rfl rfl rfl ?_
        refine D.done [(4, [], _)] ⟨rfl, trivial⟩ (hR _ _ _ rfl ?_); clear hR R
        refine G.retN (G.dropAll (G.fin1 rfl rfl ?_))
        refine ⟨?_, rfl⟩
        rw [decide_eq_false]
        rintro rfl
        rw [hx] at hy
        exact h25' (Option.some.inj hy)
      · skip
        have h25' : x = y := by
          have : (x : Int) = y := by simpa using h25
          omega
        refine G.region rfl (fun R hR => ?_)
        refine D.pure rfl rfl rfl rfl rfl rfl ?_
        refine D.i64 _ rfl rfl rfl rfl rfl (by omega) (by omega) rfl rfl ?_
        refine D.pure rfl rfl rfl rfl rfl rfl ?_
        refine D.done [(0, [], _), (1, [], _), (5, [], _)] ⟨rfl, rfl, rfl, trivial⟩ (hR _ _ _ rfl ?_); clear hR R
        refine G.again (m' := a.length - (k + 1)) (by omega) (by (repeat (first | exact Mem.le.refl _ | assumption | (apply Mem.le.trans; rotate_left; assumption)))) (fr' := [(0, [], _), (1, [], _), (5, [], _)]) ⟨rfl, rfl, rfl, trivial⟩ ⟨k + 1, ⟨by omega, by rw [List.take_add_one, List.take_add_one, htk, hx, hy, h25']⟩, rfl, rfl, rfl⟩
    · skip
      have hk2 : k = a.length := by
        have : ¬ k < a.length := by simpa using h14
        omega
      subst hk2
      refine G.region rfl (fun R hR => ?_)
      refine D.pure rfl rfl rfl rfl rfl rfl ?_
      refine D.done [(4, [], _)] ⟨rfl, trivial⟩ (hR _ _ _ rfl ?_); clear hR R
      refine G.retN (G.dropAll (G.fin1 rfl rfl ?_))
      refine ⟨?_, rfl⟩
      rw [List.take_length, h10', List.take_length] at htk
      rw [decide_eq_true htk]
set_option maxHeartbeats 1000000 in
theorem same_fn (C : Mem) (v w : Value) (a b : List (List Nat)) (hv : LL C v a) (hw : LL C w b) (ha : a.length ≤ 100000000) (hb : b.length ≤ 100000000) (ha2 : ∀ x ∈ a, x.length ≤ 1000000) (hb2 : ∀ x ∈ b, x.length ≤ 1000000) :
    Gives cx.P 16 [v, w] C (.bool (decide (a = b))) := by
  obtain ⟨oa, hv, hoa⟩ := hv
  obtain ⟨ob, hw, hob⟩ := hw
  obtain ⟨A, c, rfl, _⟩ := id hv
  obtain ⟨B, d, rfl, _⟩ := id hw
  have hal := hoa.1
  have hbl := hob.1
  simp only [List.length_map, hal, hbl] at hv hw ⊢
  refine Fn.intro (by kernel_rfl) Tryz.func16 rfl 27 rfl rfl (fun w0 => ?_)
  refine G.region rfl (fun R hR => ?_)
  refine D.pure rfl rfl rfl rfl rfl rfl ?_
  refine D.done [(0, [], _), (1, [], _)] ⟨rfl, rfl, trivial⟩ (hR _ _ _ rfl ?_); clear hR R
  refine G.region rfl (fun R hR => ?_)
  iterate 5 refine D.pure rfl rfl rfl rfl rfl rfl ?_
  refine D.done [(0, [], _), (1, [], _), (10, [], _)] ⟨rfl, rfl, rfl, trivial⟩ (hR _ _ _ rfl ?_); clear hR R
  refine G.cond rfl (fun h10 => ?_) (fun h10 => ?_)
  · skip
    have h10' : a.length ≠ b.length := by
      have : ¬ (a.length : Int) = b.length := by simpa using h10
      omega
    refine G.region rfl (fun R hR => ?_)
    refine D.pure rfl rfl rfl rfl rfl rfl ?_
    refine D.done [(4, [], _)] ⟨rfl, trivial⟩ (hR _ _ _ rfl ?_); clear hR R
    refine G.retN (G.dropAll (G.fin1 rfl rfl ?_))
    exact ⟨by rw [decide_eq_false (fun h => h10' (congrArg List.length h))], rfl⟩
  · skip
    have h10' : a.length = b.length := by
      have : (a.length : Int) = b.length := by simpa using h10
      omega
    refine G.region rfl (fun R hR => ?_)
    refine D.pure rfl rfl rfl rfl rfl rfl ?_
    refine D.done [(0, [], _), (1, [], _), (5, [], _)] ⟨rfl, rfl, rfl, trivial⟩ (hR _ _ _ rfl ?_); clear hR R
    refine G.loop (fun fr C' L' μ => ∃ (k : Nat), (k ≤ a.length ∧ a.take k = b.take k) ∧ fr = [(0, [], .slice A a.length c), (1, [], .slice B b.length d), (5, [], .int .i64 k)] ∧ L' = [] ∧ μ = a.length - k) (fr' := [(0, [], _), (1, [], _), (5, [], _)]) ⟨rfl, rfl, rfl, trivial⟩ ⟨0, ⟨Nat.zero_le _, rfl⟩, rfl, rfl, rfl⟩ (fun fr C0' L0' m hle0 hI => ?_)
    obtain ⟨k, ⟨hka, htk⟩, rfl, rfl, rfl⟩ := hI
    refine G.region rfl (fun R hR => ?_)
    iterate 4 refine D.pure rfl rfl rfl rfl rfl rfl ?_
    refine D.done [(0, [], _), (1, [], _), (5, [], _), (14, [], _)] ⟨rfl, rfl, rfl, rfl, trivial⟩ (hR _ _ _ rfl ?_); clear hR R
    refine G.cond rfl (fun h14 => ?_) (fun h14 => ?_)
    · skip
      have hk2 : k < a.length := by simpa using h14
      obtain ⟨x, hx⟩ : ∃ x, a[k]? = some x := ⟨a[k], List.getElem?_eq_getElem hk2⟩
      obtain ⟨y, hy⟩ : ∃ y, b[k]? = some y := ⟨b[k]'(by omega), List.getElem?_eq_getElem (by omega)⟩
      obtain ⟨Ax, cx1, _, hrx, hsx⟩ := hoa.at hx
      obtain ⟨Ay, cy1, _, hry, hsy⟩ := hob.at hy
      refine G.draw [0, 1, 2, 3, 4, 5, 6, 7, 8, 9] [(8, 1)] rfl (by kernel_rfl) (fun R hB hR => ?_)
      iterate 2 refine D.pure rfl rfl rfl rfl rfl rfl ?_
      refine D.index0 (hv.mono (by (repeat (first | exact Mem.le.refl _ | assumption | (apply Mem.le.trans; rotate_left; assumption))))) rfl rfl rfl rfl rfl rfl rfl rfl rfl rfl (by omega) hrx (fun _ => rfl) (fun p19 hp19 => ?_)
      refine D.loadP0 hp19 rfl rfl rfl rfl rfl rfl rfl rfl ?_
      iterate 2 refine D.pure rfl rfl rfl rfl rfl rfl ?_
      refine D.index0 (hw.mono (by (repeat (first | exact Mem.le.refl _ | assumption | (apply Mem.le.trans; rotate_left; assumption))))) rfl rfl rfl rfl rfl rfl rfl rfl rfl rfl (by omega) hry (fun _ => rfl) (fun p23 hp23 => ?_)
      refine D.loadP0 hp23 rfl rfl rfl rfl rfl rfl rfl rfl ?_
      refine D.gives (fun _ => (lequal_fn _ _ _ x y (hsx.mono (by (repeat (first | exact Mem.le.refl _ | assumption | (apply Mem.le.trans; rotate_left; assumption))))) (hsy.mono (by (repeat (first | exact Mem.le.refl _ | assumption | (apply Mem.le.trans; rotate_left; assumption))))) (ha2 x (List.mem_of_getElem? hx)) (hb2 y (List.mem_of_getElem? hy)))) rfl rfl rfl rfl rfl rfl rfl rfl rfl ?_
      refine D.pure rfl rfl rfl rfl rfl rfl ?_
      refine D.done [(0, [], _), (1, [], _), (5, [], _), (26, [], _)] ⟨rfl, rfl, rfl, rfl, trivial⟩ (hR _ _ _ rfl ?_); clear hR hB R
      refine G.cond rfl (fun h26 => ?_) (fun h26 => ?_)
      · skip
        have h26' : x ≠ y := by simpa using h26
        refine G.region rfl (fun R hR => ?_)
        refine D.pure rfl rfl rfl rfl rfl rfl ?_
        refine D.done [(4, [], _)] ⟨rfl, trivial⟩ (hR _ _ _ rfl ?_); clear hR R
        refine G.retN (G.dropAll (G.fin1 rfl rfl ?_))
        refine ⟨?_, rfl⟩
        rw [decide_eq_false]
        rintro rfl
        rw [hx] at hy
        exact h26' (Option.some.inj hy)
      · skip
        have h26' : x = y := by simpa using h26
        refine G.region rfl (fun R hR => ?_)
        refine D.pure rfl rfl rfl rfl rfl rfl ?_
        refine D.i64 _ rfl rfl rfl rfl rfl (by omega) (by omega) rfl rfl ?_
        refine D.pure rfl rfl rfl rfl rfl rfl ?_
        refine D.done [(0, [], _), (1, [], _), (5, [], _)] ⟨rfl, rfl, rfl, trivial⟩ (hR _ _ _ rfl ?_); clear hR R
        refine G.again (m' := a.length - (k + 1)) (by omega) (by (repeat (first | exact Mem.le.refl _ | assumption | (apply Mem.le.trans; rotate_left; assumption)))) (fr' := [(0, [], _), (1, [], _), (5, [], _)]) ⟨rfl, rfl, rfl, trivial⟩ ⟨k + 1, ⟨by omega, by rw [List.take_add_one, List.take_add_one, htk, hx, hy, h26']⟩, rfl, rfl, rfl⟩
    · skip
      have hk2 : k = a.length := by
        have : ¬ k < a.length := by simpa using h14
        omega
      subst hk2
      refine G.region rfl (fun R hR => ?_)
      refine D.pure rfl rfl rfl rfl rfl rfl ?_
      refine D.done [(4, [], _)] ⟨rfl, trivial⟩ (hR _ _ _ rfl ?_); clear hR R
      refine G.retN (G.dropAll (G.fin1 rfl rfl ?_))
      refine ⟨?_, rfl⟩
      rw [List.take_length, h10', List.take_length] at htk
      rw [decide_eq_true htk]

/-! ### paths -/
theorem cat_map' {α β : Type} (f : Nat → List α) (g : α → β) : ∀ n, (cat f n).map g = cat (fun i => (f i).map g) n
  | 0 => rfl
  | n + 1 => by rw [cat_succ, cat_succ, List.map_append, cat_map' f g n]
theorem cat_filter' {α : Type} (f : Nat → List α) (p : α → Bool) : ∀ n, (cat f n).filter p = cat (fun i => (f i).filter p) n
  | 0 => rfl
  | n + 1 => by rw [cat_succ, cat_succ, List.filter_append, cat_filter' f p n]
theorem oneIf_filter {α : Type} (b c : Bool) (x : α) : (oneIf b x).filter (fun _ => c) = oneIf (b && c) x := by cases b <;> cases c <;> rfl
theorem oneIf_map {α β : Type} (b : Bool) (x : α) (f : α → β) : (oneIf b x).map f = oneIf b (f x) := by cases b <;> rfl
theorem fromAt_one {l : List Rel} {u : Str} {k : Nat} (hk : k < l.length) : fromAt l u k = oneIf (arcB l k && (lowOf l k == u)) k := by
  unfold fromAt arcB lowOf
  rw [List.getElem?_eq_getElem hk]
/-- The arc may come next: it begins where the way ends, and nobody began there. -/
def freshB (l : List Rel) (at_ : Str) (x : List Nat) (k : Nat) : Bool := (arcB l k && (lowOf l k == at_)) && x.all fun i => decide (lowOf l i ≠ at_)
theorem simpL_succ (l : List Rel) (s : Str) (n : Nat) : simpL l s (n + 1) = (simpL l s n).flatMap fun x => cat (fun k => oneIf (freshB l (endL l s x) x k) (x ++ [k])) l.length := by
  unfold simpL
  simp only [simpW]
  refine flatMap_congr' (fun x _ => ?_)
  unfold fromL
  rw [cat_filter', cat_map']
  refine cat_congr (fun k hk => ?_)
  rw [fromAt_one hk, oneIf_filter, oneIf_map]
  rfl
theorem fresh_len (l : List Rel) (a : Str) (x : List Nat) (n : Nat) : (cat (fun k => oneIf (freshB l a x k) (x ++ [k])) n).length ≤ n := by
  have := cat_length_mul (f := fun k => oneIf (freshB l a x k) (x ++ [k])) (m := 1) (fun i => oneIf_len _ _) n
  omega
theorem flatMap_len {α β : Type} {f : α → List β} {m : Nat} (hf : ∀ x, (f x).length ≤ m) : ∀ l : List α, (l.flatMap f).length ≤ l.length * m
  | [] => by simp
  | a :: l => by
    have := flatMap_len hf l
    have := hf a
    rw [List.flatMap_cons, List.length_append, List.length_cons, Nat.add_mul]; omega
theorem simpL_len {l : List Rel} (hl : l.length ≤ 8) (s : Str) : ∀ n, (simpL l s n).length ≤ 8 ^ n
  | 0 => by simp [simpL, simpW]
  | n + 1 => by
    rw [simpL_succ]
    have h1 := simpL_len hl s n
    have h2 := flatMap_len (f := fun x => cat (fun k => oneIf (freshB l (endL l s x) x k) (x ++ [k])) l.length) (m := 8) (fun x => Nat.le_trans (fresh_len _ _ _ _) hl) (simpL l s n)
    rw [Nat.pow_succ]; omega
theorem simpL_lengths (l : List Rel) (s : Str) : ∀ n, ∀ x ∈ simpL l s n, x.length = n ∧ ∀ k ∈ x, k < l.length
  | 0, x, h => by
    simp [simpL, simpW] at h
    subst h; simp
  | n + 1, x, h => by
    rw [simpL_succ] at h
    obtain ⟨y, hy, h⟩ := List.mem_flatMap.1 h
    obtain ⟨k, hk, h⟩ := mem_cat.1 h
    obtain ⟨h1, h2⟩ := simpL_lengths l s n y hy
    rw [(mem_oneIf.1 h).2]
    refine ⟨by simp [h1], fun j hj => ?_⟩
    rcases List.mem_append.1 hj with hj | hj
    · exact h2 j hj
    · rw [List.mem_singleton.1 hj]; exact hk
theorem endL_last {l : List Rel} {s : Str} {x : List Nat} {z : Nat} (hx : 0 < x.length) (h : x[x.length - 1]? = some z) : endL l s x = upOf l z := by
  have hne : x ≠ [] := fun e => by rw [e] at hx; simp at hx
  have hz : x.getLast hne = z := by rw [List.getLast_eq_getElem]; exact (List.getElem?_eq_some_iff.1 h).2
  have e : x.dropLast ++ [z] = x := by rw [← hz, List.dropLast_concat_getLast hne]
  have := endW_snoc (up := upOf l) x.dropLast z s
  rw [e] at this
  exact this
end Go.Proofs.YtcghlfepfcagbaaGreat
namespace Go.Jog
open Go Go.MapKept

/-- The iterator that has handed out the entries with these stamps. -/
def iterOf (bm n : Nat) (seen : List Nat) : Obj := .mapIter (some bm) n seen.toArray n

theorem mapEs_get {κ : Type} (enc : κ → Value) : ∀ (m : List (κ × Value)) (i j : Nat), (mapEs enc m i)[j]? = (m[j]?).map fun p => ⟨enc p.1, p.2, i + j⟩
  | [], i, j => by simp [mapEs]
  | (k, v) :: m, i, 0 => by simp [mapEs]
  | (k, v) :: m, i, j + 1 => by
    simp only [mapEs, List.getElem?_cons_succ, mapEs_get enc m (i + 1) j]
    cases m[j]? with
    | none => rfl
    | some p => simp; omega
theorem mapEs_mem {κ : Type} {enc : κ → Value} {m : List (κ × Value)} {e : MapEntry} (h : e ∈ mapEs enc m 0) : ∃ p, m[e.born]? = some p ∧ e.key = enc p.1 ∧ e.val = p.2 := by
  obtain ⟨j, hj⟩ := List.getElem?_of_mem h
  rw [mapEs_get] at hj
  cases hp : m[j]? with
  | none => rw [hp] at hj; cases hj
  | some p =>
    rw [hp] at hj
    cases hj
    exact ⟨p, by simpa using hp, rfl, rfl⟩
theorem mapEs_nodup {κ : Type} (enc : κ → Value) (m : List (κ × Value)) : ((mapEs enc m 0).map (·.born)).Nodup := by
  have : ∀ (m : List (κ × Value)) (i : Nat), (mapEs enc m i).map (·.born) = List.range' i m.length := by
    intro m
    induction m with
    | nil => intro i; rfl
    | cons p m ih => intro i; simp only [mapEs, List.map_cons, ih, List.length_cons, List.range'_succ]
  rw [this]
  exact List.nodup_range'

section
variable {cx : Cx} {n : Nat} {ds : List (Option Nat)} {R : Rg n ds} {its : List It} {fr : Fr} {C : Mem} {L : List Ent} {i k d : Nat} {o : Oper} {g : GL} {v : Value}
variable {kd : TypeDesc} {κ : Type} [DecidableEq κ] (K : KeyT kd κ)

theorem D.rangeMap {t kt et bm : Nat} {x : Operand} {m : List (κ × Value)} {ti : TI} (hc : C bm = some (mapOf K.enc m)) (hk : Nat.ble k 1 = false) (hd : o.dst = some d) (hg : gOn ds fr o.guard = true) (hop : o.op = .range t x) (hx : ev fr [] x = some (.map (some bm)))
    (ht : cx.T.get t = some ti) (htk : ti.k = .map kt et) (hp : ∀ v, okPut n ds ((d, [], v) :: fr) d = true)
    (h : ∀ b, D cx R its ((d, [], .pointer (some ⟨b, 0, none⟩)) :: fr) C (.obj b (iterOf bm m.length []) :: L)) : D cx R ((i, k, o) :: its) fr C L :=
  D.eff (S := fun v C' L' => C' = C ∧ ∃ b, v = .pointer (some ⟨b, 0, none⟩) ∧ L' = .obj b (iterOf bm m.length []) :: L) hk hd hg hp (fun a hs w _ hw => by
    have hb : w.heap[bm]? = some (mapOf K.enc m) := hw.sep.c _ _ hc
    have hu := und_mapK cx.hT ht htk
    have hex : (execOp a.eval o).run cx.P w = .ok (.value (.pointer (some ⟨w.heap.size, 0, none⟩))) (w.alloc (iterOf bm m.length [])) := by
      have e1 : execOp a.eval o = (do Pure.pure (.value (← Instr.range t (a.eval x))) : Sem Next) := by unfold execOp; rw [hop]
      rw [e1, hs _ _ hx]
      simp only [Sem.run_bind, run_range_map w t kt et bm _ _ hu hb, Result.andThen_ok, Sem.run_pure]
      rfl
    unfold Oper.wp
    rw [hex]
    exact ⟨_, C, .obj w.heap.size (iterOf bm m.length []) :: L, rfl, Mem.le.refl _, fun _ x hx => by simp [hx], St.alloc hw _, rfl, _, rfl, rfl⟩)
    (fun v C' L' _ ⟨e1, b, e2, e3⟩ => by subst e1; subst e2; subst e3; exact h b)

theorem mem_leftOf {κ : Type} {enc : κ → Value} {m : List (κ × Value)} {seen : List Nat} {j : Nat} {p : κ × Value} (hj : m[j]? = some p) (hs : j ∉ seen) : (⟨enc p.1, p.2, j⟩ : MapEntry) ∈ (leftOf (mapEs enc m 0).toArray seen.toArray).toList := by
  unfold leftOf
  simp only [Array.toList_filter, List.mem_filter]
  refine ⟨?_, ?_⟩
  · refine List.mem_of_getElem? (i := j) ?_
    rw [mapEs_get, hj]; simp
  · simpa using hs

theorem D.nextMap {b q bm : Nat} {x : Operand} {m : List (κ × Value)} {seen : List Nat} (hc : C bm = some (mapOf K.enc m)) (hk : k = 3) (hd : o.dst = some d) (hg : gOn ds fr o.guard = true) (hop : o.op = .next x false) (hx : ev fr [] x = some (.pointer (some ⟨b, 0, none⟩)))
    (hm : L[q]? = some (.obj b (iterOf bm m.length seen))) (hp : ∀ v, okPut n ds ((d, [], v) :: fr) d = true)
    (h : ∀ (go : Bool) (rest : List Value) (seen' : List Nat), (go = false ∧ seen' = seen ∧ ∀ j, j < m.length → j ∈ seen) ∨ (go = true ∧ ∃ j, j < m.length ∧ j ∉ seen ∧ seen' = seen ++ [j]) →
      D cx R its ((d, [], .tuple ⟨.bool go :: rest⟩) :: fr) C (.obj b (iterOf bm m.length seen') :: L.eraseIdx q)) : D cx R ((i, k, o) :: its) fr C L :=
  D.eff (S := fun v C' L' => C' = C ∧ ∃ (go : Bool) (rest : List Value) (seen' : List Nat), ((go = false ∧ seen' = seen ∧ ∀ j, j < m.length → j ∈ seen) ∨ (go = true ∧ ∃ j, j < m.length ∧ j ∉ seen ∧ seen' = seen ++ [j])) ∧ v = .tuple ⟨.bool go :: rest⟩ ∧ L' = .obj b (iterOf bm m.length seen') :: L.eraseIdx q) (by subst hk; rfl) hd hg hp (fun a hs w _ hw => by
    have hw' := St.perm hw (ent_perm hm)
    have hb : w.heap[b]? = some (iterOf bm m.length seen) := hw'.sep.e _ (List.mem_cons_self ..)
    have hbm : w.heap[bm]? = some (mapOf K.enc m) := hw.sep.c _ _ hc
    have e1 : execOp a.eval o = (do Pure.pure (.value (← Instr.next (a.eval x) false 0)) : Sem Next) := by unfold execOp; rw [hop]; rfl
    have hold : ∀ x ∈ (mapEs K.enc m 0).toArray.toList, x.born < m.length := fun x hx => by
      obtain ⟨p, h1, _⟩ := mapEs_mem (show x ∈ mapEs K.enc m 0 by simpa using hx)
      exact (List.getElem?_eq_some_iff.1 h1).1
    have hg1 : ∀ w : World, w.heap[b]? = some (iterOf bm m.length seen) → (getObj b).run cx.P w = .ok (iterOf bm m.length seen) w := fun w h => by
      simp only [getObj, Sem.run, h, iterOf]
    have hrun : (∀ j, j < m.length → j ∈ seen) ∧ (Instr.next (.pointer (some ⟨b, 0, none⟩)) false 0).run cx.P w = .ok (.tuple #[.bool false]) w ∨
        ∃ (j : Nat) (p : κ × Value) (w1 : World), m[j]? = some p ∧ j ∉ seen ∧ w1.heap = w.heap ∧ w1.os = w.os ∧ w1.tape = w.tape ∧ w1.output = w.output ∧ w.drawn ≤ w1.drawn ∧
          (Instr.next (.pointer (some ⟨b, 0, none⟩)) false 0).run cx.P w = .ok (.tuple #[.bool true, K.enc p.1, p.2]) { w1 with heap := w1.heap.setIfInBounds b (iterOf bm m.length (seen ++ [j])) } := by
      have hnx : (Instr.next (.pointer (some ⟨b, 0, none⟩)) false 0).run cx.P w = (do
          let candidates := (if (leftOf (mapEs K.enc m 0).toArray seen.toArray).isEmpty then #[none] else #[]) ++ (leftOf (mapEs K.enc m 0).toArray seen.toArray).map some
          match candidates[← choose (.mapNext candidates.size)]? with
          | some (some e) =>
            setObj b (.mapIter (some bm) m.length (seen.toArray.push e.born) m.length)
            Pure.pure (Value.tuple #[.bool true, e.key, e.val])
          | some none => Pure.pure (Value.tuple #[.bool false])
          | none => stuck "Next: no such candidate" : Sem Value).run cx.P w := by
        have hmem : ∀ x ∈ (leftOf (mapEs K.enc m 0).toArray seen.toArray).toList, x.born < m.length := fun x hx => hold x (mem_left hx).1
        have f1 : (leftOf (mapEs K.enc m 0).toArray seen.toArray).filter (fun x => decide (x.born < m.length)) = leftOf (mapEs K.enc m 0).toArray seen.toArray := Array.filter_eq_self.2 (fun x hx => by simpa using hmem x (by simpa using hx))
        have f2 : (leftOf (mapEs K.enc m 0).toArray seen.toArray).filter (fun x => decide (x.born ≥ m.length)) = #[] := by
          rw [Array.filter_eq_empty_iff]
          intro x hx
          have := hmem x (by simpa using hx)
          simp; omega
        unfold Instr.next
        simp only [Sem.run_bind, hg1 w hb, Result.andThen_ok, iterOf]
        have hg2 : (getObj bm).run cx.P w = .ok (.map (mapEs K.enc m 0).toArray m.length) w := Go.MapKept.run_getObj_map hbm
        simp only [Sem.run_bind, hg2, Result.andThen_ok, next_test_false seen.toArray (mapEs K.enc m 0).toArray m.length m.length hold (Nat.le_refl _), Bool.false_eq_true, if_false]
        unfold leftOf at f1 f2 ⊢
        simp only [f1, f2, Array.append_empty]
        refine congrArg _ (funext fun a => funext fun w' => ?_)
        congr 1
      rw [hnx]
      have hcorr : ∀ e ∈ (leftOf (mapEs K.enc m 0).toArray seen.toArray).toList, ∃ p, m[e.born]? = some p ∧ e.born ∉ seen ∧ e.key = K.enc p.1 ∧ e.val = p.2 := fun e he => by
        obtain ⟨h1, h2⟩ := mem_left he
        obtain ⟨p, h3, h4, h5⟩ := mapEs_mem (show e ∈ mapEs K.enc m 0 by simpa using h1)
        exact ⟨p, h3, by simpa using h2, h4, h5⟩
      have hall : (leftOf (mapEs K.enc m 0).toArray seen.toArray) = #[] → ∀ j, j < m.length → j ∈ seen := fun he j hj => by
        by_cases hs : j ∈ seen
        · exact hs
        · have := mem_leftOf (enc := K.enc) (List.getElem?_eq_getElem hj) hs
          rw [he] at this; cases this
      generalize leftOf (mapEs K.enc m 0).toArray seen.toArray = F at hcorr hall ⊢
      by_cases h0 : F.size = 0
      · have : F = #[] := Array.eq_empty_of_size_eq_zero h0
        subst this
        left
        refine ⟨hall rfl, ?_⟩
        simp [choose, Sem.run, Question.forced]
      · right
        have hne : F.isEmpty = false := by simp [Array.isEmpty, h0]
        simp only [hne, Bool.false_eq_true, if_false, Array.empty_append, Array.size_map]
        have hch : ∃ (j : Nat) (w1 : World), j < F.size ∧ w1.heap = w.heap ∧ w1.os = w.os ∧ w1.tape = w.tape ∧ w1.output = w.output ∧ w.drawn ≤ w1.drawn ∧ (choose (Question.mapNext F.size)).run cx.P w = .ok j w1 := by
          by_cases hf : F.size ≤ 1
          · exact ⟨0, w, by omega, rfl, rfl, rfl, rfl, Nat.le_refl _, by simp [choose, Sem.run, Question.forced, hf]⟩
          · exact ⟨_, w.drew, Nat.mod_lt _ (by omega), rfl, rfl, rfl, rfl, Nat.le_succ _, by
              simp only [choose, Sem.run, Question.forced, decide_eq_true_eq, hf, if_false, Question.cut]
              rfl⟩
        obtain ⟨j, w1, hj, hh, ho, htp, hou, hdr, hrun⟩ := hch
        obtain ⟨p, h1, h2, h3, h4⟩ := hcorr F[j] (by simp)
        refine ⟨F[j].born, p, w1, h1, h2, hh, ho, htp, hou, hdr, ?_⟩
        have hset : (setObj b (.mapIter (some bm) m.length (seen.toArray.push F[j].born) m.length)).run cx.P w1 = .ok () { w1 with heap := w1.heap.setIfInBounds b (iterOf bm m.length (seen ++ [F[j].born])) } := by
          have hb1 : w1.heap[b]? = some (iterOf bm m.length seen) := by rw [hh]; exact hb
          simp only [setObj, Sem.run, hb1, iterOf]
          simp
        simp only [hrun, Array.getElem?_map, Array.getElem?_eq_getElem hj, Option.map_some, Sem.run_bind, Result.andThen_ok, hset, Sem.run_pure, h3, h4]
    rw [show a.eval x = .pointer (some ⟨b, 0, none⟩) from hs _ _ hx] at e1
    unfold Oper.wp
    rw [e1]
    rcases hrun with ⟨h1, hr⟩ | ⟨j, p, w1, h1, h2, hh, ho, htp, hou, hdr, hr⟩
    · simp only [Sem.run_bind, hr, Result.andThen_ok, Sem.run_pure]
      exact ⟨_, C, .obj b (iterOf bm m.length seen) :: L.eraseIdx q, rfl, Mem.le.refl _, fun h2 => by omega, hw', rfl, false, [], seen, .inl ⟨rfl, rfl, h1⟩, rfl, rfl⟩
    · simp only [Sem.run_bind, hr, Result.andThen_ok, Sem.run_pure]
      have hw1 := hw'.same (w' := w1) ho htp hou hh hdr
      have hset := heap_set (o' := iterOf bm m.length (seen ++ [j])) (show w1.heap[b]? = _ from by rw [hh]; exact hb)
      exact ⟨_, C, .obj b (iterOf bm m.length (seen ++ [j])) :: L.eraseIdx q, rfl, Mem.le.refl _, fun h2 => by omega, St.put hw1 hset.1 hset.2 (by simp) rfl rfl rfl (Nat.le_refl _), rfl, true, [K.enc p.1, p.2], _,
        .inr ⟨rfl, j, (List.getElem?_eq_some_iff.1 h1).1, h2, rfl⟩, rfl, rfl⟩)
    (fun v C' L' _ ⟨e1, go, rest, seen', h1, e2, e3⟩ => by subst e1; subst e2; subst e3; exact h go rest seen' h1)

theorem D.entryMap {b bm j : Nat} {x : Operand} {m : List (κ × Value)} {seen : List Nat} {p : κ × Value} (hc : C bm = some (mapOf K.enc m)) (hj : m[j]? = some p) (hm : Ent.obj b (iterOf bm m.length (seen ++ [j])) ∈ L) (hk : k = 1) (hd : o.dst = some d) (hop : o.op = .entry x) (hg : gOf ds fr o.guard = some g) (hx : ev fr g x = some (.pointer (some ⟨b, 0, none⟩)))
    (hp : okPut n ds ((d, g, .tuple #[K.enc p.1, p.2]) :: fr) d = true) (hwf : wfG ds fr g = true)
    (h : D cx R its ((d, g, .tuple #[K.enc p.1, p.2]) :: fr) C L) : D cx R ((i, k, o) :: its) fr C L :=
  D.det (by subst hk; rfl) hd hg hp hwf (fun _ a hs κ' hκ w hw => by
    have hb : w.heap[b]? = some (iterOf bm m.length (seen ++ [j])) := hw.sep.e _ ((hκ hk).2 _ hm)
    have hbm : w.heap[bm]? = some (mapOf K.enc m) := hw.sep.c _ _ ((hκ hk).1 _ _ hc)
    have hf : (mapEs K.enc m 0).toArray.find? (·.born == j) = some ⟨K.enc p.1, p.2, j⟩ := by
      rw [← Array.find?_toList]
      refine find_born ⟨K.enc p.1, p.2, j⟩ _ (by simpa using mapEs_nodup K.enc m) ?_
      refine List.mem_of_getElem? (i := j) ?_
      simp [mapEs_get, hj]
    have hrun : (Instr.entry (.pointer (some ⟨b, 0, none⟩))).run cx.P w = .ok (.tuple #[K.enc p.1, p.2]) w := by
      have hg2 : (getObj bm).run cx.P w = .ok (.map (mapEs K.enc m 0).toArray m.length) w := Go.MapKept.run_getObj_map hbm
      have hg1 : (getObj b).run cx.P w = .ok (iterOf bm m.length (seen ++ [j])) w := by simp only [getObj, Sem.run, hb, iterOf]
      unfold Instr.entry
      simp only [Sem.run_bind, hg1, Result.andThen_ok, iterOf]
      have hbk : (seen ++ [j]).toArray.back? = some j := by simp
      simp only [hbk, hg2, Sem.run_bind, Result.andThen_ok, bne_self_eq_false, Bool.false_eq_true, if_false, hf, Sem.run_pure]
    have hex : (execOp a.eval o).run cx.P w = .ok (.value (.tuple #[K.enc p.1, p.2])) w := by
      have e1 : execOp a.eval o = (do Pure.pure (.value (← Instr.entry (a.eval x))) : Sem Next) := by unfold execOp; rw [hop]
      rw [e1, hs _ _ hx]
      simp only [Sem.run_bind, hrun, Result.andThen_ok, Sem.run_pure]
    unfold Oper.quietAt
    rw [hex]
    exact ⟨rfl, rfl⟩) h
end
end Go.Jog
namespace Go.Proofs.YtcghlfepfcagbaaGreat
open Go Go.Jog
set_option maxRecDepth 100000

/-- A map used as a set. -/
def setM (ks : List Str) : List (Str × Value) := ks.map fun s => (s, Value.bool true)
theorem mget_setM : ∀ {ks : List Str} {s : Str}, mget (setM ks) s = if s ∈ ks then some (.bool true) else none
  | [], s => by simp [setM, mget]
  | k :: ks, s => by
    have ih := mget_setM (ks := ks) (s := s)
    unfold setM at ih ⊢
    simp only [List.map_cons, mget, ih, List.mem_cons]
    by_cases e : k = s
    · subst e; simp
    · rw [if_neg e]
      have : ¬ s = k := fun h => e h.symm
      simp [this]
def addS (ks : List Str) (s : Str) : List Str := if s ∈ ks then ks else ks ++ [s]
theorem mset_setM : ∀ {ks : List Str} {s : Str}, mset (setM ks) s (.bool true) = setM (addS ks s)
  | [], s => by simp [setM, mset, addS]
  | k :: ks, s => by
    have ih := mset_setM (ks := ks) (s := s)
    unfold setM at ih ⊢
    simp only [List.map_cons, mset]
    by_cases e : k = s
    · subst e; simp [addS]
    · have e2 : ¬ s = k := fun h => e h.symm
      rw [if_neg e, ih]
      unfold addS
      by_cases h : s ∈ ks
      · simp [h]
      · simp [h, e2]
theorem mem_addS {ks : List Str} {s t : Str} : t ∈ addS ks s ↔ t = s ∨ t ∈ ks := by
  unfold addS
  split
  · rename_i h
    constructor
    · exact .inr
    · rintro (rfl | h2)
      · exact h
      · exact h2
  · rw [List.mem_append, List.mem_singleton, or_comm]
theorem addS_nodup {ks : List Str} {s : Str} (h : ks.Nodup) : (addS ks s).Nodup := by
  unfold addS
  split
  · exact h
  · rename_i h2
    rw [List.nodup_append]
    exact ⟨h, by simp, fun a ha b hb e => by rw [List.mem_singleton.1 hb] at e; subst e; exact h2 ha⟩
theorem addS_len (ks : List Str) (s : Str) : (addS ks s).length ≤ ks.length + 1 := by unfold addS; split <;> simp
theorem setM_len (ks : List Str) : (setM ks).length = ks.length := by simp [setM]
theorem lookS (ks : List Str) (s : Str) : lookV (.bool false) false (mget (setM ks) s) = .bool (decide (s ∈ ks)) := by
  rw [mget_setM]
  by_cases h : s ∈ ks <;> simp [h, lookV]

/-- There is a way from one unit to another. -/
def reachB (l : List Rel) (s t : Str) : Bool := decide (0 ≤ leastW (arcsOf l) (posS (unitsL l) t) (posS (unitsL l) s))
theorem reach_iff {l : List Rel} {s t : Str} (hs : s ∈ unitsL l) (ht : t ∈ unitsL l) : reachB l s t = true ↔ ∃ x, WayL l s x ∧ endL l s x = t := by
  unfold reachB
  rw [decide_eq_true_eq]
  rcases leastW_spec (arcsOf l) (posS (unitsL l) t) (posS (unitsL l) s) with ⟨h1, h2⟩ | ⟨k, h1, h2, _⟩
  · rw [h1]
    constructor
    · intro h; omega
    · rintro ⟨x, h3, h4⟩
      exact absurd ((walk_way hs ht).2 ⟨x, h3, rfl, h4⟩) (h2 _)
  · rw [h1]
    constructor
    · intro _
      obtain ⟨x, h3, _, h4⟩ := (walk_way hs ht).1 h2
      exact ⟨x, h3, h4⟩
    · intro _; omega
theorem reach_self {l : List Rel} {s : Str} (hs : s ∈ unitsL l) : reachB l s s = true := (reach_iff hs hs).2 ⟨[], trivial, rfl⟩
def mutB (l : List Rel) (a u : Str) : Bool := reachB l u a && reachB l a u
/-- The groups, one behind the other. -/
def knF (l : List Rel) : Nat → List Str → List (List Str)
  | 0, _ => []
  | _ + 1, [] => []
  | f + 1, a :: r => (a :: r).filter (mutB l a) :: knF l f ((a :: r).filter fun u => !mutB l a u)
/-- The units that are in cycles, in order. -/
def inU (l : List Rel) (q : List Nat) : List Str := (unitsL l).filter fun s => decide (s ∈ q.map (lowOf l))
theorem knF_nil (l : List Rel) : ∀ f, knF l f [] = []
  | 0 => rfl
  | _ + 1 => rfl
theorem knF_cons {l : List Rel} {f : Nat} {all : List Str} {a : Str} (h0 : all[0]? = some a) (hf : all.length ≤ f) : ∃ g, f = g + 1 ∧ knF l f all = all.filter (mutB l a) :: knF l g (all.filter fun u => !mutB l a u) := by
  cases all with
  | nil => simp at h0
  | cons b r =>
    simp only [List.getElem?_cons_zero, Option.some.injEq] at h0
    subst h0
    cases f with
    | zero => simp at hf
    | succ g => exact ⟨g, rfl, rfl⟩
theorem rest_less {l : List Rel} {all : List Str} {a : Str} (h0 : all[0]? = some a) (ha : a ∈ unitsL l) : (all.filter fun u => !mutB l a u).length < all.length := by
  cases all with
  | nil => simp at h0
  | cons b r =>
    simp only [List.getElem?_cons_zero, Option.some.injEq] at h0
    subst h0
    have hb : mutB l b b = true := by unfold mutB; rw [reach_self ha]; rfl
    rw [List.filter_cons, hb]
    have := List.length_filter_le (fun u => !mutB l b u) r
    simp; omega

def OutS (C : Mem) (ov : List Value) (outs : List (List Str)) : Prop := ov.length = outs.length ∧ ∀ (j : Nat) (v : Value) (o : List Str), ov[j]? = some v → outs[j]? = some o → Sl C 1 v (o.map encS)
theorem OutS.mono {C D : Mem} {ov : List Value} {outs : List (List Str)} (h : OutS C ov outs) (hl : C.le D) : OutS D ov outs := ⟨h.1, fun j v o h1 h2 => (h.2 j v o h1 h2).mono hl⟩
theorem OutS.snoc {C : Mem} {ov : List Value} {outs : List (List Str)} {v : Value} {o : List Str} (h : OutS C ov outs) (hv : Sl C 1 v (o.map encS)) : OutS C (ov ++ [v]) (outs ++ [o]) := by
  have h0 := h.1
  refine ⟨by simp [h0], fun j v' o' h1 h2 => ?_⟩
  rcases Nat.lt_or_ge j ov.length with hlt | hge
  · rw [List.getElem?_append_left hlt] at h1
    rw [List.getElem?_append_left (by omega)] at h2
    exact h.2 j v' o' h1 h2
  · rw [List.getElem?_append_right hge] at h1
    rw [List.getElem?_append_right (by omega), ← h0] at h2
    cases hj : j - ov.length with
    | zero => rw [hj] at h1 h2; simp at h1 h2; subst h1; subst h2; exact hv
    | succ q => rw [hj] at h1; simp at h1
theorem strict_of {l : List Str} (hn : l.Nodup) (hs : l.Pairwise fun x y => ltOf cmpS y x = false) : l.Pairwise fun x y => cmpS x y < 0 := by
  refine (List.Pairwise.and hn hs).imp (fun {a b} h => ?_)
  have h1 : ¬ cmpS b a < 0 := by simpa [ltOf] using h.2
  have h2 : ¬ cmpS a b = 0 := fun e => h.1 ((tot_cmpS.eq a b).1 e)
  have h3 : ¬ 0 < cmpS a b := fun e => h1 ((tot_cmpS.sym b a).2 e)
  omega
theorem sorted_inU {l : List Rel} {q : List Nat} {nm : List Str} (hq : ∀ i ∈ q, i < l.length) (hn : nm.Nodup) (hm : ∀ s, s ∈ nm ↔ s ∈ q.map (lowOf l)) : nm.mergeSort (fun x y => decide (x ≤ y)) = inU l q := by
  have hp := List.mergeSort_perm nm (fun x y => decide (x ≤ y))
  refine tot_cmpS.unique (strict_of (hp.nodup_iff.2 hn) (ms_sorted nm)) ((tot_cmpS.setL_strict _).filter _) (fun s => ?_)
  rw [hp.mem_iff, hm, inU, List.mem_filter, decide_eq_true_eq]
  constructor
  · intro h
    refine ⟨?_, h⟩
    obtain ⟨i, hi, rfl⟩ := List.mem_map.1 h
    exact (low_of_arc (hq i hi)).1
  · exact fun h => h.2
/-- All places have come, each once. -/
theorem seen_all {seen : List Nat} {ks : List Str} (hn : seen.Nodup) (hl : ∀ j ∈ seen, j < ks.length) (hall : ∀ j, j < ks.length → j ∈ seen) : (seen.map fun j => ks.getD j []).Perm ks := by
  have hp : seen.Perm (List.range ks.length) := (List.perm_ext_iff_of_nodup hn List.nodup_range).2 (fun j => by
    rw [List.mem_range]
    exact ⟨fun h => hl j h, fun h => hall j h⟩)
  refine (hp.map _).trans (List.Perm.of_eq ?_)
  refine List.ext_getElem? (fun i => ?_)
  rw [List.getElem?_map]
  rcases Nat.lt_or_ge i ks.length with h | h
  · rw [List.getElem?_range h]
    simp [List.getD_eq_getElem?_getD, List.getElem?_eq_getElem h]
  · rw [List.getElem?_eq_none (by simpa using h), List.getElem?_eq_none h]; rfl
theorem take_filter {α : Type} (p : α → Bool) {l : List α} {k : Nat} {x : α} (h : l[k]? = some x) : (l.take (k + 1)).filter p = (l.take k).filter p ++ if p x = true then [x] else [] := by
  rw [List.take_add_one, h, List.filter_append]
  congr 1
  simp [List.filter_cons]
def KnotsRes (C : Mem) (l : List Rel) (r : Value) : Prop :=
  (errU l ≠ 0 ∧ r = .tuple #[nilV, .int .i64 (errU l)]) ∨ (errU l = 0 ∧ ∃ q v ov, Invs l q l.length ∧ r = .tuple #[v, .int .i64 0] ∧ Sl C 1 v (ov.map fun x => [x]) ∧ OutS C ov (knF l (inU l q).length (inU l q)))
theorem dist_look {l : List Rel} {s t : Str} {ps : List (Str × Value)} {d : List Int} (hs : s ∈ unitsL l) (hd : IsDist (arcsOf l) (posS (unitsL l) t) (unitsL l).length d) (hds : DsOk (unitsL l) ps d) :
    ∃ n : Int, lookV (.int .i64 0) true (mget ps s) = .tuple #[.int .i64 n, .bool (reachB l s t)] := by
  have hmg := hds _ (posS_lt hs)
  rw [nameAt_pos hs] at hmg
  have hdd := hd.unique (distL_ok (arcsOf l) (posS (unitsL l) t) (unitsL l).length)
  have hat : dAt d (posS (unitsL l) s) = leastW (arcsOf l) (posS (unitsL l) t) (posS (unitsL l) s) := by
    rw [hdd]; exact dAt_get (by simp [distL, posS_lt hs])
  rw [hmg]
  unfold reachB
  rw [← hat]
  by_cases h : dAt d (posS (unitsL l) s) < 0
  · have h2 : ¬ 0 ≤ dAt d (posS (unitsL l) s) := by omega
    exact ⟨0, by simp [h, h2, lookV]⟩
  · have h2 : 0 ≤ dAt d (posS (unitsL l) s) := by omega
    exact ⟨dAt d (posS (unitsL l) s), by simp [h, h2, lookV]⟩
theorem inU_sub {l : List Rel} {q : List Nat} : ∀ s ∈ inU l q, s ∈ unitsL l := fun _s h => (List.mem_filter.1 h).1
theorem inU_len (l : List Rel) (q : List Nat) : (inU l q).length ≤ 2 * l.length := by
  have := List.length_filter_le (fun s => decide (s ∈ q.map (lowOf l))) (unitsL l)
  have := unitsL_len l
  unfold inU; omega

set_option maxHeartbeats 8000000 in
theorem knots_fn (C : Mem) (v : Value) (l : List Rel) (hv : Sl C 3 v (l.map Rel.enc)) (hl : l.length ≤ 10000) (hsh : ∀ x ∈ l, x.short) : Pur cx.P 23 [v] C fun r C' => KnotsRes C' l r := by
  obtain ⟨A, c, rfl, _⟩ := id hv
  simp only [List.length_map] at hv ⊢
  have hl5 : l.length ≤ 100000 := by omega
  refine Fn.intro (by kernel_rfl) Tryz.func23 rfl 120 rfl rfl (fun w0 => ?_)
  refine G.region rfl (fun R hR => ?_)
  iterate 2 refine D.pure rfl rfl rfl rfl rfl rfl ?_
  refine D.done [(0, [], _)] ⟨rfl, trivial⟩ (hR _ _ _ rfl ?_); clear hR R
  refine G.region rfl (fun R hR => ?_)
  refine D.pure rfl rfl rfl rfl rfl rfl ?_
  refine D.gives2 (check_fn _ _ l (hv.mono (by (repeat (first | exact Mem.le.refl _ | assumption | (apply Mem.le.trans; rotate_left; assumption))))) hl5 hsh) rfl rfl rfl rfl rfl rfl rfl (fun _ => rfl) ?_
  refine D.pure rfl rfl rfl rfl rfl rfl ?_
  refine D.done [(0, [], _), (4, [], _)] ⟨rfl, rfl, trivial⟩ (hR _ _ _ rfl ?_); clear hR R
  refine G.region rfl (fun R hR => ?_)
  iterate 2 refine D.pure rfl rfl rfl rfl rfl rfl ?_
  refine D.done [(0, [], _), (4, [], _), (27, [], _)] ⟨rfl, rfl, rfl, trivial⟩ (hR _ _ _ rfl ?_); clear hR R
  refine G.cond rfl (fun h27 => ?_) (fun h27 => ?_)
  · skip
    have h27' : errU l ≠ 0 := by simpa using h27
    refine G.region rfl (fun R hR => ?_)
    iterate 3 refine D.pure rfl rfl rfl rfl rfl rfl ?_
    refine D.done [(2, [], _), (3, [], _)] ⟨rfl, rfl, trivial⟩ (hR _ _ _ rfl ?_); clear hR R
    refine G.retN (G.dropAll (G.fin2 rfl rfl rfl ?_))
    exact ⟨rfl, .inl ⟨h27', rfl⟩⟩
  · skip
    have h27' : errU l = 0 := by simpa using h27
    refine G.region rfl (fun R hR => ?_)
    refine D.pure rfl rfl rfl rfl rfl rfl ?_
    refine D.callP (open_fn _ _ l (hv.mono (by (repeat (first | exact Mem.le.refl _ | assumption | (apply Mem.le.trans; rotate_left; assumption))))) hl5) rfl rfl rfl rfl rfl rfl rfl (fun _ => rfl) (fun v30 C30 hle30 hq30 => ?_)
    have hG := hq30
    obtain ⟨bg, Ag, cg, bmg, psg, rfl, hgo, hgv, hgm, hgf⟩ := hq30.ok
    refine D.pure rfl rfl rfl rfl rfl rfl ?_
    refine D.done [(0, [], _), (5, [], _)] ⟨rfl, rfl, trivial⟩ (hR _ _ _ rfl ?_); clear hR R
    refine G.region rfl (fun R hR => ?_)
    refine D.makeMap keyS rfl rfl rfl rfl (fun _ => rfl) (fun b31 => ?_)
    refine D.pure rfl rfl rfl rfl rfl rfl ?_
    refine D.done [(0, [], _), (5, [], _), (6, [], _)] ⟨rfl, rfl, rfl, trivial⟩ (hR _ _ _ rfl ?_); clear hR R
    refine G.region rfl (fun R hR => ?_)
    refine D.pure rfl rfl rfl rfl rfl rfl ?_
    refine D.callP (involved_fn _ _ l (hG.mono (by (repeat (first | exact Mem.le.refl _ | assumption | (apply Mem.le.trans; rotate_left; assumption))))) hl5) rfl rfl rfl rfl rfl rfl rfl (fun _ => rfl) (fun v33 C33 hle33 hq33 => ?_)
    obtain ⟨q, hq, hqs⟩ := hq33
    have hql := invs_len hq
    obtain ⟨Aq, cq, hqe, _⟩ := id hqs
    rw [List.length_map] at hqe
    subst hqe
    iterate 2 refine D.pure rfl rfl rfl rfl rfl rfl ?_
    refine D.done [(0, [], _), (5, [], _), (6, [], _), (33, [], _), (34, [], _), (35, [], _)] ⟨rfl, rfl, rfl, rfl, rfl, rfl, trivial⟩ (hR _ _ _ rfl ?_); clear hR R
    refine G.loop (fun fr C' L' μ => ∃ (k : Nat) (ks : List Str), (k ≤ q.length ∧ ks.Nodup ∧ (∀ s, s ∈ ks ↔ s ∈ (q.take k).map (lowOf l)) ∧ ks.length ≤ k) ∧ fr = [(0, [], .slice A l.length c), (5, [], .pointer (some ⟨bg, 0, none⟩)), (6, [], .map (some b31)), (33, [], .slice Aq q.length cq), (34, [], .int .i64 q.length), (35, [], .int .i64 k)] ∧ L' = [.obj b31 (mapOf keyS.enc (setM ks))] ∧ μ = q.length - k) (fr' := [(0, [], _), (5, [], _), (6, [], _), (33, [], _), (34, [], _), (35, [], _)]) ⟨rfl, rfl, rfl, rfl, rfl, rfl, trivial⟩ ⟨0, [], ⟨Nat.zero_le _, List.nodup_nil, fun s => by simp, Nat.le_refl _⟩, rfl, rfl, rfl⟩ (fun fr C0' L0' m hle0 hI => ?_)
    obtain ⟨k, ks, ⟨hk, hkn, hks, hkl⟩, rfl, rfl, rfl⟩ := hI
    refine G.region rfl (fun R hR => ?_)
    refine D.pure rfl rfl rfl rfl rfl rfl ?_
    refine D.done [(0, [], _), (5, [], _), (6, [], _), (33, [], _), (34, [], _), (35, [], _), (36, [], _)] ⟨rfl, rfl, rfl, rfl, rfl, rfl, rfl, trivial⟩ (hR _ _ _ rfl ?_); clear hR R
    refine G.cond rfl (fun h36 => ?_) (fun h36 => ?_)
    · skip
      simp only [decide_eq_true_eq] at h36
      have hkq : k < q.length := by omega
      obtain ⟨i, hi⟩ : ∃ i, q[k]? = some i := ⟨q[k], List.getElem?_eq_getElem hkq⟩
      have hri : (q.map encN)[k]? = some (encN i) := by rw [List.getElem?_map, hi]; rfl
      have hil : i < l.length := ((hq.2 i).1 (List.mem_of_getElem? hi)).1
      obtain ⟨x, hx⟩ : ∃ x, l[i]? = some x := ⟨l[i], List.getElem?_eq_getElem hil⟩
      have hrx : (l.map Rel.enc)[i]? = some x.enc := by rw [List.getElem?_map, hx]; rfl
      have hlw : lowOf l i = x.lower := by unfold lowOf; rw [hx]
      refine G.region rfl (fun R hR => ?_)
      refine D.index0 (hqs.mono (by (repeat (first | exact Mem.le.refl _ | assumption | (apply Mem.le.trans; rotate_left; assumption))))) rfl rfl rfl rfl rfl rfl rfl rfl rfl rfl (by omega) hri (fun _ => rfl) (fun p37 hp37 => ?_)
      refine D.loadP0 hp37 rfl rfl rfl rfl rfl rfl rfl rfl ?_
      refine D.pure rfl rfl rfl rfl rfl rfl ?_
      refine D.done [(0, [], _), (5, [], _), (6, [], _), (8, [], _), (33, [], _), (34, [], _), (35, [], _)] ⟨rfl, rfl, rfl, rfl, rfl, rfl, rfl, trivial⟩ (hR _ _ _ rfl ?_); clear hR R
      refine G.region rfl (fun R hR => ?_)
      iterate 3 refine D.pure rfl rfl rfl rfl rfl rfl ?_
      refine D.index0 (hv.mono (by (repeat (first | exact Mem.le.refl _ | assumption | (apply Mem.le.trans; rotate_left; assumption))))) rfl rfl rfl rfl rfl rfl rfl rfl rfl rfl (by omega) hrx (fun _ => rfl) (fun p42 hp42 => ?_)
      refine D.fieldP0 hp42 rfl rfl rfl rfl rfl rfl rfl rfl rfl rfl (fun _ => rfl) (fun p43 hp43 => ?_)
      refine D.loadP0 hp43 rfl rfl rfl rfl rfl rfl rfl rfl ?_
      refine D.mapUpdate keyS (j := 0) rfl rfl rfl rfl rfl rfl rfl rfl rfl rfl (by kernel_rfl) ?_
      refine D.done [(0, [], _), (5, [], _), (6, [], _), (33, [], _), (34, [], _), (35, [], _)] ⟨rfl, rfl, rfl, rfl, rfl, rfl, trivial⟩ (hR _ _ _ rfl ?_); clear hR R
      refine G.region rfl (fun R hR => ?_)
      refine D.i64 _ rfl rfl rfl rfl rfl (by omega) (by omega) rfl rfl ?_
      refine D.pure rfl rfl rfl rfl rfl rfl ?_
      refine D.done [(0, [], _), (5, [], _), (6, [], _), (33, [], _), (34, [], _), (35, [], _)] ⟨rfl, rfl, rfl, rfl, rfl, rfl, trivial⟩ (hR _ _ _ rfl ?_); clear hR R
      rw [mset_setM]
      refine G.again (m' := q.length - (k + 1)) (by omega) (by (repeat (first | exact Mem.le.refl _ | assumption | (apply Mem.le.trans; rotate_left; assumption)))) (fr' := [(0, [], _), (5, [], _), (6, [], _), (33, [], _), (34, [], _), (35, [], _)]) ⟨rfl, rfl, rfl, rfl, rfl, rfl, trivial⟩ ⟨k + 1, addS ks x.lower, ⟨by omega, addS_nodup hkn, fun s => by
        rw [mem_addS, hks, List.take_add_one, hi, List.map_append, List.mem_append]
        simp [hlw, or_comm], by have := addS_len ks x.lower; omega⟩, rfl, rfl, rfl⟩
    · skip
      simp only [decide_eq_false_iff_not] at h36
      have hkq : k = q.length := by omega
      subst hkq
      rw [List.take_length] at hks
      refine G.freeze 0 rfl (fun Cm hlem hmap => ?_)
      refine G.region rfl (fun R hR => ?_)
      refine D.pure rfl rfl rfl rfl rfl rfl ?_
      refine D.done [(5, [], _), (6, [], _), (9, [], _)] ⟨rfl, rfl, rfl, trivial⟩ (hR _ _ _ rfl ?_); clear hR R
      refine G.region rfl (fun R hR => ?_)
      refine D.pure rfl rfl rfl rfl rfl rfl ?_
      refine D.rangeMap keyS (Mem.get hmap (by (repeat (first | exact Mem.le.refl _ | assumption | (apply Mem.le.trans; rotate_left; assumption))))) rfl rfl rfl rfl rfl rfl rfl (fun _ => rfl) (fun b47 => ?_)
      refine D.done [(5, [], _), (9, [], _), (47, [], _)] ⟨rfl, rfl, rfl, trivial⟩ (hR _ _ _ rfl ?_); clear hR R
      refine G.nilArr 9 1 (G.perm (L' := [.obj b47 (iterOf b31 (setM ks).length []), .arr (.slice none 0 0) 9 1 0 []]) (List.Perm.swap _ _ _) ?_)
      refine G.loop (fun fr C' L' μ => ∃ (seen : List Nat) (w : Value), (seen.Nodup ∧ (∀ j ∈ seen, j < ks.length) ∧ seen.length ≤ ks.length) ∧ fr = [(5, [], .pointer (some ⟨bg, 0, none⟩)), (9, [], w), (47, [], .pointer (some ⟨b47, 0, none⟩))] ∧ L' = [.obj b47 (iterOf b31 (setM ks).length seen), .arr w 9 1 seen.length ((seen.map fun j => ks.getD j []).map strV)] ∧ μ = ks.length - seen.length) (fr' := [(5, [], _), (9, [], _), (47, [], _)]) ⟨rfl, rfl, rfl, trivial⟩ ⟨[], _, ⟨List.nodup_nil, fun j hj => (by cases hj), Nat.zero_le _⟩, rfl, rfl, rfl⟩ (fun fr C1' L1' m hle1 hI => ?_)
      obtain ⟨seen, w, ⟨hsn, hsl, hsk⟩, rfl, rfl, rfl⟩ := hI
      refine G.region rfl (fun R hR => ?_)
      refine D.nextMap keyS (q := 0) (Mem.get hmap (by (repeat (first | exact Mem.le.refl _ | assumption | (apply Mem.le.trans; rotate_left; assumption))))) rfl rfl rfl rfl rfl rfl (fun _ => rfl) (fun go48 rs48 sn48 hn48 => ?_)
      refine D.pure rfl rfl rfl rfl rfl rfl ?_
      refine D.done [(5, [], _), (9, [], _), (47, [], _), (49, [], _)] ⟨rfl, rfl, rfl, rfl, trivial⟩ (hR _ _ _ rfl ?_); clear hR R
      refine G.cond rfl (fun h49 => ?_) (fun h49 => ?_)
      · skip
        obtain ⟨hgo1, j, hj, hjs, rfl⟩ : go48 = true ∧ ∃ j, j < (setM ks).length ∧ j ∉ seen ∧ sn48 = seen ++ [j] := by
          rcases hn48 with ⟨h1, _⟩ | h1
          · rw [h1] at h49; cases h49
          · exact h1
        rw [setM_len] at hj
        obtain ⟨s, hs⟩ : ∃ s, ks[j]? = some s := ⟨ks[j], List.getElem?_eq_getElem hj⟩
        have hsm : (setM ks)[j]? = some (s, Value.bool true) := by unfold setM; rw [List.getElem?_map, hs]; rfl
        have hgd : ks.getD j [] = s := by rw [List.getD_eq_getElem?_getD, hs]; rfl
        have hsn2 : (seen ++ [j]).Nodup := by
          rw [List.nodup_append]
          exact ⟨hsn, by simp, fun a ha b hb e => by rw [List.mem_singleton.1 hb] at e; subst e; exact hjs ha⟩
        have hsl2 : ∀ i ∈ seen ++ [j], i < ks.length := fun i hi => by
          rcases List.mem_append.1 hi with h | h
          · exact hsl i h
          · rw [List.mem_singleton.1 h]; exact hj
        have hslen : (seen ++ [j]).length ≤ ks.length := by
          have := List.Nodup.length_le_of_subset hsn2 (l₂ := List.range ks.length) (fun i hi => List.mem_range.2 (hsl2 i hi))
          simpa using this
        have hslen' : seen.length + 1 ≤ ks.length := by simpa using hslen
        have hslen3 : (seen ++ [j]).length = seen.length + 1 := by simp
        refine G.region rfl (fun R hR => ?_)
        refine D.entryMap keyS (Mem.get hmap (by (repeat (first | exact Mem.le.refl _ | assumption | (apply Mem.le.trans; rotate_left; assumption))))) hsm (.head _) rfl rfl rfl rfl rfl rfl rfl ?_
        iterate 2 refine D.pure rfl rfl rfl rfl rfl rfl ?_
        refine D.done [(5, [], _), (9, [], _), (10, [], _), (47, [], _)] ⟨rfl, rfl, rfl, rfl, trivial⟩ (hR _ _ _ rfl ?_); clear hR R
        refine G.region rfl (fun R hR => ?_)
        iterate 2 refine D.pure rfl rfl rfl rfl rfl rfl ?_
        refine D.buildSlice [encS s] rfl rfl rfl rfl rfl rfl rfl rfl rfl rfl rfl rfl (fun _ => rfl) (fun p54 C54 hle54 hs54 => ?_)
        refine D.append (j := 1) rfl rfl rfl rfl rfl rfl rfl rfl rfl rfl rfl hs54 rfl (by simp only [List.length_singleton, maxLen]; omega) (by simp only [List.length_singleton]; omega) (fun _ => rfl) (fun v55 => ?_)
        refine D.pure rfl rfl rfl rfl rfl rfl ?_
        refine D.done [(5, [], _), (9, [], _), (47, [], _)] ⟨rfl, rfl, rfl, trivial⟩ (hR _ _ _ rfl ?_); clear hR R
        refine G.perm (L' := [.obj b47 (iterOf b31 (setM ks).length (seen ++ [j])), .arr v55 9 1 (seen ++ [j]).length (((seen ++ [j]).map fun j => ks.getD j []).map strV)]) (by
          rw [List.map_append, List.map_append, List.map_cons, List.map_cons, hgd]
          simpa [encS] using List.Perm.swap _ _ _) ?_
        refine G.again (m' := ks.length - (seen ++ [j]).length) (by omega) (by (repeat (first | exact Mem.le.refl _ | assumption | (apply Mem.le.trans; rotate_left; assumption)))) (fr' := [(5, [], _), (9, [], _), (47, [], _)]) ⟨rfl, rfl, rfl, trivial⟩ ⟨seen ++ [j], v55, ⟨hsn2, hsl2, hslen⟩, rfl, rfl, rfl⟩
      · skip
        obtain ⟨hgo0, rfl, hall⟩ : go48 = false ∧ sn48 = seen ∧ ∀ j, j < (setM ks).length → j ∈ seen := by
          rcases hn48 with h1 | ⟨h1, _⟩
          · exact h1
          · rw [h1] at h49; cases h49
        rw [setM_len] at hall
        obtain ⟨nm, hnm⟩ : ∃ nm, (sn48.map fun j => ks.getD j []) = nm := ⟨_, rfl⟩
        have hperm := seen_all hsn hsl hall
        rw [hnm] at hperm
        have hnl : nm.length = sn48.length := by rw [← hnm]; simp
        refine G.dropE 0 rfl ?_
        refine G.eqL (L' := [.arr w 9 1 nm.length (nm.map strV)]) (by rw [hnm, hnl]; rfl) ?_
        refine G.regionO [(1, 3)] rfl (fun R hR => ?_)
        refine D.pure rfl rfl rfl rfl rfl rfl ?_
        refine D.call (sortStr_fn Tryz.sortStr _ w 9 nm (by omega) (by kernel_rfl)) rfl (.inr (by decide)) rfl rfl rfl rfl rfl rfl (List.Perm.refl _) (fun _ => rfl) (fun v57 C57 L57 hle57 hq57 => ?_)
        refine D.done [(5, [], _), (9, [], _)] ⟨rfl, rfl, trivial⟩ (hR _ _ _ rfl ?_); clear hR R
        obtain ⟨rfl, rfl⟩ := hq57
        have hU := sorted_inU (l := l) (q := q) (nm := nm) (fun i hi => ((hq.2 i).1 hi).1) (hperm.nodup_iff.2 hkn) (fun s => by rw [hperm.mem_iff]; exact hks s)
        obtain ⟨U, hUe⟩ : ∃ U, inU l q = U := ⟨_, rfl⟩
        have hUu : ∀ s ∈ U, s ∈ unitsL l := by rw [← hUe]; exact inU_sub
        have hUl : U.length ≤ 2 * l.length := by rw [← hUe]; exact inU_len l q
        rw [hUe] at hU
        have hnU : nm.length = U.length := by rw [← hU]; simp
        refine G.eqL (L' := [.arr w 9 1 U.length (U.map encS).flatten]) (by rw [hU, hnU, flat_enc]; rfl) ?_
        refine G.freezeArr 0 (U.map encS) rfl rfl (by intro r hr; obtain ⟨y, _, rfl⟩ := List.mem_map.1 hr; rfl) (by simp) (fun CU hleU hUs => ?_)
        refine G.region rfl (fun R hR => ?_)
        refine D.pure rfl rfl rfl rfl rfl rfl ?_
        refine D.done [(5, [], _), (9, [], _), (11, [], _)] ⟨rfl, rfl, rfl, trivial⟩ (hR _ _ _ rfl ?_); clear hR R
        refine G.nilArr 39 1 ?_
        refine G.loop (fun fr C' L' μ => ∃ (f : Nat) (all : List Str) (w2 wo : Value) (ov : List Value) (outs : List (List Str)), (all.length ≤ f ∧ (∀ s ∈ all, s ∈ unitsL l) ∧ Sl C' 1 w2 (all.map encS) ∧ OutS C' ov outs ∧ outs ++ knF l f all = knF l U.length U ∧ ov.length + all.length ≤ U.length) ∧ fr = [(5, [], .pointer (some ⟨bg, 0, none⟩)), (9, [], w2), (11, [], wo)] ∧ L' = [.arr wo 39 1 ov.length ov] ∧ μ = all.length) (fr' := [(5, [], _), (9, [], _), (11, [], _)]) ⟨rfl, rfl, rfl, trivial⟩ ⟨U.length, U, w, _, [], [], ⟨Nat.le_refl _, hUu, hUs.mono (by (repeat (first | exact Mem.le.refl _ | assumption | (apply Mem.le.trans; rotate_left; assumption)))), ⟨rfl, fun j v o h => by simp at h⟩, rfl, by simp⟩, rfl, rfl, rfl⟩ (fun fr C2' L2' m hle2 hI => ?_)
        obtain ⟨f, all, w2, wo, ov, outs, ⟨haf, hau, has, hout, hkn2, hol⟩, rfl, rfl, rfl⟩ := hI
        obtain ⟨A2, c2, rfl, _⟩ := id has
        simp only [List.length_map] at has ⊢
        refine G.region rfl (fun R hR => ?_)
        iterate 3 refine D.pure rfl rfl rfl rfl rfl rfl ?_
        refine D.done [(5, [], _), (9, [], _), (11, [], _), (60, [], _)] ⟨rfl, rfl, rfl, rfl, trivial⟩ (hR _ _ _ rfl ?_); clear hR R
        refine G.cond rfl (fun h60 => ?_) (fun h60 => ?_)
        · skip
          have h60' : 0 < all.length := by simpa using h60
          obtain ⟨a0, h0⟩ : ∃ a0, all[0]? = some a0 := ⟨all[0], List.getElem?_eq_getElem h60'⟩
          have hr0 : (all.map encS)[0]? = some (encS a0) := by rw [List.getElem?_map, h0]; rfl
          have ha0 := hau a0 (List.mem_of_getElem? h0)
          obtain ⟨g, rfl, hkc⟩ := knF_cons (l := l) h0 haf
          refine G.region rfl (fun R hR => ?_)
          iterate 2 refine D.pure rfl rfl rfl rfl rfl rfl ?_
          refine D.index0 (has.mono (by (repeat (first | exact Mem.le.refl _ | assumption | (apply Mem.le.trans; rotate_left; assumption))))) rfl rfl rfl rfl rfl rfl rfl rfl rfl rfl (by omega) hr0 (fun _ => rfl) (fun p63 hp63 => ?_)
          refine D.loadP0 hp63 rfl rfl rfl rfl rfl rfl rfl rfl ?_
          refine D.callP (dist_fn2 _ _ l a0 (hG.mono (by (repeat (first | exact Mem.le.refl _ | assumption | (apply Mem.le.trans; rotate_left; assumption))))) hl5 ha0) rfl rfl rfl rfl rfl rfl rfl (fun _ => rfl) (fun v65 C65 hle65 hq65 => ?_)
          obtain ⟨bt, pt, dt, rfl, hbt, hdistt, hdbt, hdst⟩ := hq65
          refine D.pure rfl rfl rfl rfl rfl rfl ?_
          refine D.done [(5, [], _), (9, [], _), (11, [], _), (12, [], _)] ⟨rfl, rfl, rfl, rfl, trivial⟩ (hR _ _ _ rfl ?_); clear hR R
          refine G.region rfl (fun R hR => ?_)
          refine D.makeMap keyS rfl rfl rfl rfl (fun _ => rfl) (fun b66 => ?_)
          refine D.pure rfl rfl rfl rfl rfl rfl ?_
          refine D.done [(5, [], _), (9, [], _), (11, [], _), (12, [], _), (13, [], _)] ⟨rfl, rfl, rfl, rfl, rfl, trivial⟩ (hR _ _ _ rfl ?_); clear hR R
          refine G.region rfl (fun R hR => ?_)
          iterate 3 refine D.pure rfl rfl rfl rfl rfl rfl ?_
          refine D.done [(5, [], _), (9, [], _), (11, [], _), (12, [], _), (13, [], _), (67, [], _), (68, [], _), (69, [], _)] ⟨rfl, rfl, rfl, rfl, rfl, rfl, rfl, rfl, trivial⟩ (hR _ _ _ rfl ?_); clear hR R
          refine G.loop (fun fr C' L' μ => ∃ (k : Nat) (ks2 : List Str), (k ≤ all.length ∧ (∀ s, s ∈ ks2 ↔ s ∈ (all.take k).filter (reachB l a0))) ∧ fr = [(5, [], .pointer (some ⟨bg, 0, none⟩)), (9, [], .slice A2 all.length c2), (11, [], wo), (12, [], .map (some bt)), (13, [], .map (some b66)), (67, [], .slice A2 all.length c2), (68, [], .int .i64 all.length), (69, [], .int .i64 k)] ∧ L' = [.obj b66 (mapOf keyS.enc (setM ks2)), .arr wo 39 1 ov.length ov] ∧ μ = all.length - k) (fr' := [(5, [], _), (9, [], _), (11, [], _), (12, [], _), (13, [], _), (67, [], _), (68, [], _), (69, [], _)]) ⟨rfl, rfl, rfl, rfl, rfl, rfl, rfl, rfl, trivial⟩ ⟨0, [], ⟨Nat.zero_le _, fun s => by simp⟩, rfl, rfl, rfl⟩ (fun fr C3' L3' m hle3 hI => ?_)
          obtain ⟨k, ks2, ⟨hk3, hks2⟩, rfl, rfl, rfl⟩ := hI
          refine G.region rfl (fun R hR => ?_)
          refine D.pure rfl rfl rfl rfl rfl rfl ?_
          refine D.done [(5, [], _), (9, [], _), (11, [], _), (12, [], _), (13, [], _), (67, [], _), (68, [], _), (69, [], _), (70, [], _)] ⟨rfl, rfl, rfl, rfl, rfl, rfl, rfl, rfl, rfl, trivial⟩ (hR _ _ _ rfl ?_); clear hR R
          refine G.cond rfl (fun h70 => ?_) (fun h70 => ?_)
          · skip
            simp only [decide_eq_true_eq] at h70
            have hka : k < all.length := by omega
            obtain ⟨u, hu⟩ : ∃ u, all[k]? = some u := ⟨all[k], List.getElem?_eq_getElem hka⟩
            have hru : (all.map encS)[k]? = some (encS u) := by rw [List.getElem?_map, hu]; rfl
            have huu := hau u (List.mem_of_getElem? hu)
            have htk := take_filter (reachB l a0) hu
            refine G.region rfl (fun R hR => ?_)
            refine D.index0 (has.mono (by (repeat (first | exact Mem.le.refl _ | assumption | (apply Mem.le.trans; rotate_left; assumption))))) rfl rfl rfl rfl rfl rfl rfl rfl rfl rfl (by omega) hru (fun _ => rfl) (fun p71 hp71 => ?_)
            refine D.loadP0 hp71 rfl rfl rfl rfl rfl rfl rfl rfl ?_
            refine D.pure rfl rfl rfl rfl rfl rfl ?_
            refine D.done [(5, [], _), (9, [], _), (11, [], _), (12, [], _), (13, [], _), (15, [], _), (67, [], _), (68, [], _), (69, [], _)] ⟨rfl, rfl, rfl, rfl, rfl, rfl, rfl, rfl, rfl, trivial⟩ (hR _ _ _ rfl ?_); clear hR R
            refine G.draw [0, 1, 3, 4, 5, 2, 6, 7, 8, 9, 10, 11] [] rfl (by kernel_rfl) (fun R hB hR => ?_)
            iterate 3 refine D.pure rfl rfl rfl rfl rfl rfl ?_
            refine D.index0 (has.mono (by (repeat (first | exact Mem.le.refl _ | assumption | (apply Mem.le.trans; rotate_left; assumption))))) rfl rfl rfl rfl rfl rfl rfl rfl rfl rfl (by omega) hr0 (fun _ => rfl) (fun p78 hp78 => ?_)
            refine D.loadP0 hp78 rfl rfl rfl rfl rfl rfl rfl rfl ?_
            refine D.callP (dist_fn2 _ _ l u (hG.mono (by (repeat (first | exact Mem.le.refl _ | assumption | (apply Mem.le.trans; rotate_left; assumption))))) hl5 huu) rfl rfl rfl rfl rfl rfl rfl (fun _ => rfl) (fun v76 C76 hle76 hq76 => ?_)
            obtain ⟨bd, pd, d, rfl, hbd, hdist, hdb, hds⟩ := hq76
            obtain ⟨n80, hlv⟩ := dist_look ha0 hdist hds
            refine D.lookupC keyS (fun _ => (Mem.get hbd (by (repeat (first | exact Mem.le.refl _ | assumption | (apply Mem.le.trans; rotate_left; assumption)))))) rfl rfl rfl rfl rfl rfl rfl rfl (by kernel_rfl) rfl hlv rfl rfl ?_
            iterate 5 refine D.pure rfl rfl rfl rfl rfl rfl ?_
            refine D.done [(5, [], _), (9, [], _), (11, [], _), (12, [], _), (13, [], _), (15, [], _), (17, [], _), (67, [], _), (68, [], _), (69, [], _)] ⟨rfl, rfl, rfl, rfl, rfl, rfl, rfl, rfl, rfl, rfl, trivial⟩ (hR _ _ _ rfl ?_); clear hR hB R
            refine G.region rfl (fun R hR => ?_)
            refine D.pure rfl rfl rfl rfl rfl rfl ?_
            refine D.done [(5, [], _), (9, [], _), (11, [], _), (12, [], _), (13, [], _), (15, [], _), (67, [], _), (68, [], _), (69, [], _), (83, [], _)] ⟨rfl, rfl, rfl, rfl, rfl, rfl, rfl, rfl, rfl, rfl, trivial⟩ (hR _ _ _ rfl ?_); clear hR R
            refine G.cond rfl (fun h83 => ?_) (fun h83 => ?_)
            · skip
              have h83' : reachB l a0 u = true := by simpa using h83
              refine G.region rfl (fun R hR => ?_)
              iterate 2 refine D.pure rfl rfl rfl rfl rfl rfl ?_
              refine D.mapUpdate keyS (j := 0) rfl rfl rfl rfl rfl rfl rfl rfl rfl rfl (by kernel_rfl) ?_
              refine D.done [(5, [], _), (9, [], _), (11, [], _), (12, [], _), (13, [], _), (67, [], _), (68, [], _), (69, [], _)] ⟨rfl, rfl, rfl, rfl, rfl, rfl, rfl, rfl, trivial⟩ (hR _ _ _ rfl ?_); clear hR R
              refine G.region rfl (fun R hR => ?_)
              refine D.i64 _ rfl rfl rfl rfl rfl (by omega) (by omega) rfl rfl ?_
              refine D.pure rfl rfl rfl rfl rfl rfl ?_
              refine D.done [(5, [], _), (9, [], _), (11, [], _), (12, [], _), (13, [], _), (67, [], _), (68, [], _), (69, [], _)] ⟨rfl, rfl, rfl, rfl, rfl, rfl, rfl, rfl, trivial⟩ (hR _ _ _ rfl ?_); clear hR R
              rw [mset_setM]
              refine G.again (m' := all.length - (k + 1)) (by omega) (by (repeat (first | exact Mem.le.refl _ | assumption | (apply Mem.le.trans; rotate_left; assumption)))) (fr' := [(5, [], _), (9, [], _), (11, [], _), (12, [], _), (13, [], _), (67, [], _), (68, [], _), (69, [], _)]) ⟨rfl, rfl, rfl, rfl, rfl, rfl, rfl, rfl, trivial⟩ ⟨k + 1, addS ks2 u, ⟨by omega, fun s => by
                rw [mem_addS, hks2, htk, if_pos h83', List.mem_append, List.mem_singleton, or_comm]⟩, rfl, rfl, rfl⟩
            · skip
              have h83' : ¬ reachB l a0 u = true := by simpa using h83
              refine G.region rfl (fun R hR => ?_)
              refine D.i64 _ rfl rfl rfl rfl rfl (by omega) (by omega) rfl rfl ?_
              refine D.pure rfl rfl rfl rfl rfl rfl ?_
              refine D.done [(5, [], _), (9, [], _), (11, [], _), (12, [], _), (13, [], _), (67, [], _), (68, [], _), (69, [], _)] ⟨rfl, rfl, rfl, rfl, rfl, rfl, rfl, rfl, trivial⟩ (hR _ _ _ rfl ?_); clear hR R
              refine G.again (m' := all.length - (k + 1)) (by omega) (by (repeat (first | exact Mem.le.refl _ | assumption | (apply Mem.le.trans; rotate_left; assumption)))) (fr' := [(5, [], _), (9, [], _), (11, [], _), (12, [], _), (13, [], _), (67, [], _), (68, [], _), (69, [], _)]) ⟨rfl, rfl, rfl, rfl, rfl, rfl, rfl, rfl, trivial⟩ ⟨k + 1, ks2, ⟨by omega, fun s => by
                rw [hks2, htk, if_neg h83', List.append_nil]⟩, rfl, rfl, rfl⟩
          · skip
            simp only [decide_eq_false_iff_not] at h70
            have hka : k = all.length := by omega
            subst hka
            rw [List.take_length] at hks2
            refine G.freeze 0 rfl (fun C66 hle66 hb66 => ?_)
            refine G.region rfl (fun R hR => ?_)
            iterate 2 refine D.pure rfl rfl rfl rfl rfl rfl ?_
            refine D.done [(5, [], _), (9, [], _), (11, [], _), (12, [], _), (13, [], _), (18, [], _), (19, [], _)] ⟨rfl, rfl, rfl, rfl, rfl, rfl, rfl, trivial⟩ (hR _ _ _ rfl ?_); clear hR R
            refine G.region rfl (fun R hR => ?_)
            iterate 3 refine D.pure rfl rfl rfl rfl rfl rfl ?_
            refine D.done [(5, [], _), (11, [], _), (12, [], _), (13, [], _), (18, [], _), (19, [], _), (87, [], _), (88, [], _), (89, [], _)] ⟨rfl, rfl, rfl, rfl, rfl, rfl, rfl, rfl, rfl, trivial⟩ (hR _ _ _ rfl ?_); clear hR R
            refine G.nilArr 9 1 (G.nilArr 9 1 ?_)
            refine G.loop (fun fr C' L' μ => ∃ (k : Nat) (wk wr : Value), (k ≤ all.length) ∧ fr = [(5, [], .pointer (some ⟨bg, 0, none⟩)), (11, [], wo), (12, [], .map (some bt)), (13, [], .map (some b66)), (18, [], wk), (19, [], wr), (87, [], .slice A2 all.length c2), (88, [], .int .i64 all.length), (89, [], .int .i64 k)] ∧ L' = [.arr wk 9 1 ((all.take k).filter (mutB l a0)).length (((all.take k).filter (mutB l a0)).map encS).flatten, .arr wr 9 1 ((all.take k).filter fun u => !mutB l a0 u).length (((all.take k).filter fun u => !mutB l a0 u).map encS).flatten, .arr wo 39 1 ov.length ov] ∧ μ = all.length - k) (fr' := [(5, [], _), (11, [], _), (12, [], _), (13, [], _), (18, [], _), (19, [], _), (87, [], _), (88, [], _), (89, [], _)]) ⟨rfl, rfl, rfl, rfl, rfl, rfl, rfl, rfl, rfl, trivial⟩ ⟨0, _, _, Nat.zero_le _, rfl, rfl, rfl⟩ (fun fr C4' L4' m hle4 hI => ?_)
            obtain ⟨k, wk, wr, hk4, rfl, rfl, rfl⟩ := hI
            refine G.region rfl (fun R hR => ?_)
            refine D.pure rfl rfl rfl rfl rfl rfl ?_
            refine D.done [(5, [], _), (11, [], _), (12, [], _), (13, [], _), (18, [], _), (19, [], _), (87, [], _), (88, [], _), (89, [], _), (90, [], _)] ⟨rfl, rfl, rfl, rfl, rfl, rfl, rfl, rfl, rfl, rfl, trivial⟩ (hR _ _ _ rfl ?_); clear hR R
            refine G.cond rfl (fun h90 => ?_) (fun h90 => ?_)
            · skip
              simp only [decide_eq_true_eq] at h90
              have hka : k < all.length := by omega
              obtain ⟨u, hu⟩ : ∃ u, all[k]? = some u := ⟨all[k], List.getElem?_eq_getElem hka⟩
              have hru : (all.map encS)[k]? = some (encS u) := by rw [List.getElem?_map, hu]; rfl
              have huu := hau u (List.mem_of_getElem? hu)
              have htk1 := take_filter (mutB l a0) hu
              have htk2 := take_filter (fun u => !mutB l a0 u) hu
              have hfl1 := List.length_filter_le (mutB l a0) (all.take k)
              have hfl2 := List.length_filter_le (fun u => !mutB l a0 u) (all.take k)
              have hftk : (all.take k).length ≤ all.length := by rw [List.length_take]; omega
              obtain ⟨n96, hlv⟩ := dist_look huu hdistt hdst
              have hmu : mutB l a0 u = (reachB l u a0 && decide (u ∈ ks2)) := by
                unfold mutB
                congr 1
                rw [Bool.eq_iff_iff, decide_eq_true_eq, hks2, List.mem_filter]
                exact ⟨fun h => ⟨List.mem_of_getElem? hu, h⟩, fun h => h.2⟩
              refine G.region rfl (fun R hR => ?_)
              refine D.index0 (has.mono (by (repeat (first | exact Mem.le.refl _ | assumption | (apply Mem.le.trans; rotate_left; assumption))))) rfl rfl rfl rfl rfl rfl rfl rfl rfl rfl (by omega) hru (fun _ => rfl) (fun p91 hp91 => ?_)
              refine D.loadP0 hp91 rfl rfl rfl rfl rfl rfl rfl rfl ?_
              refine D.pure rfl rfl rfl rfl rfl rfl ?_
              refine D.done [(5, [], _), (11, [], _), (12, [], _), (13, [], _), (18, [], _), (19, [], _), (21, [], _), (87, [], _), (88, [], _), (89, [], _)] ⟨rfl, rfl, rfl, rfl, rfl, rfl, rfl, rfl, rfl, rfl, trivial⟩ (hR _ _ _ rfl ?_); clear hR R
              refine G.region rfl (fun R hR => ?_)
              iterate 2 refine D.pure rfl rfl rfl rfl rfl rfl ?_
              refine D.lookupC keyS (fun _ => (Mem.get hbt (by (repeat (first | exact Mem.le.refl _ | assumption | (apply Mem.le.trans; rotate_left; assumption)))))) rfl rfl rfl rfl rfl rfl rfl rfl (by kernel_rfl) rfl hlv rfl rfl ?_
              iterate 5 refine D.pure rfl rfl rfl rfl rfl rfl ?_
              refine D.done [(5, [], _), (11, [], _), (12, [], _), (13, [], _), (18, [], _), (19, [], _), (21, [], _), (23, [], _), (87, [], _), (88, [], _), (89, [], _)] ⟨rfl, rfl, rfl, rfl, rfl, rfl, rfl, rfl, rfl, rfl, rfl, trivial⟩ (hR _ _ _ rfl ?_); clear hR R
              refine G.region rfl (fun R hR => ?_)
              iterate 4 refine D.pure rfl rfl rfl rfl rfl rfl ?_
              refine D.lookupC keyS (fun _ => (Mem.get hb66 (by (repeat (first | exact Mem.le.refl _ | assumption | (apply Mem.le.trans; rotate_left; assumption)))))) rfl rfl rfl rfl rfl rfl rfl rfl (by kernel_rfl) rfl (lookS ks2 u) rfl rfl ?_
              refine D.pickAnd rfl rfl rfl rfl rfl rfl rfl rfl ?_
              refine D.done [(5, [], _), (11, [], _), (12, [], _), (13, [], _), (18, [], _), (19, [], _), (21, [], _), (87, [], _), (88, [], _), (89, [], _), (104, [], _)] ⟨rfl, rfl, rfl, rfl, rfl, rfl, rfl, rfl, rfl, rfl, rfl, trivial⟩ (hR _ _ _ rfl ?_); clear hR R
              refine G.cond rfl (fun h104 => ?_) (fun h104 => ?_)
              · skip
                have h104' : mutB l a0 u = true := by rw [hmu]; simpa using h104
                refine G.region rfl (fun R hR => ?_)
                iterate 2 refine D.pure rfl rfl rfl rfl rfl rfl ?_
                refine D.buildSlice [encS u] rfl rfl rfl rfl rfl rfl rfl rfl rfl rfl rfl rfl (fun _ => rfl) (fun p107 C107 hle107 hs107 => ?_)
                refine D.append (j := 0) rfl rfl rfl rfl rfl rfl rfl rfl rfl rfl rfl hs107 rfl (by simp only [List.length_singleton, maxLen]; omega) (by simp only [List.length_singleton]; omega) (fun _ => rfl) (fun v108 => ?_)
                refine D.pure rfl rfl rfl rfl rfl rfl ?_
                refine D.done [(5, [], _), (11, [], _), (12, [], _), (13, [], _), (18, [], _), (19, [], _), (87, [], _), (88, [], _), (89, [], _)] ⟨rfl, rfl, rfl, rfl, rfl, rfl, rfl, rfl, rfl, trivial⟩ (hR _ _ _ rfl ?_); clear hR R
                refine G.region rfl (fun R hR => ?_)
                refine D.i64 _ rfl rfl rfl rfl rfl (by omega) (by omega) rfl rfl ?_
                refine D.pure rfl rfl rfl rfl rfl rfl ?_
                refine D.done [(5, [], _), (11, [], _), (12, [], _), (13, [], _), (18, [], _), (19, [], _), (87, [], _), (88, [], _), (89, [], _)] ⟨rfl, rfl, rfl, rfl, rfl, rfl, rfl, rfl, rfl, trivial⟩ (hR _ _ _ rfl ?_); clear hR R
                refine G.eqL (L' := [.arr v108 9 1 ((all.take (k + 1)).filter (mutB l a0)).length (((all.take (k + 1)).filter (mutB l a0)).map encS).flatten, .arr wr 9 1 ((all.take (k + 1)).filter fun u => !mutB l a0 u).length (((all.take (k + 1)).filter fun u => !mutB l a0 u).map encS).flatten, .arr wo 39 1 ov.length ov]) (by
                  rw [htk1, htk2, if_pos h104', if_neg (by simp [h104'])]; simp) ?_
                refine G.again (m' := all.length - (k + 1)) (by omega) (by (repeat (first | exact Mem.le.refl _ | assumption | (apply Mem.le.trans; rotate_left; assumption)))) (fr' := [(5, [], _), (11, [], _), (12, [], _), (13, [], _), (18, [], _), (19, [], _), (87, [], _), (88, [], _), (89, [], _)]) ⟨rfl, rfl, rfl, rfl, rfl, rfl, rfl, rfl, rfl, trivial⟩ ⟨k + 1, v108, wr, by omega, rfl, rfl, rfl⟩
              · skip
                have h104' : mutB l a0 u = false := by rw [hmu]; simpa using h104
                refine G.region rfl (fun R hR => ?_)
                iterate 2 refine D.pure rfl rfl rfl rfl rfl rfl ?_
                refine D.buildSlice [encS u] rfl rfl rfl rfl rfl rfl rfl rfl rfl rfl rfl rfl (fun _ => rfl) (fun p111 C111 hle111 hs111 => ?_)
                refine D.append (j := 1) rfl rfl rfl rfl rfl rfl rfl rfl rfl rfl rfl hs111 rfl (by simp only [List.length_singleton, maxLen]; omega) (by simp only [List.length_singleton]; omega) (fun _ => rfl) (fun v112 => ?_)
                refine D.pure rfl rfl rfl rfl rfl rfl ?_
                refine D.done [(5, [], _), (11, [], _), (12, [], _), (13, [], _), (18, [], _), (19, [], _), (87, [], _), (88, [], _), (89, [], _)] ⟨rfl, rfl, rfl, rfl, rfl, rfl, rfl, rfl, rfl, trivial⟩ (hR _ _ _ rfl ?_); clear hR R
                refine G.region rfl (fun R hR => ?_)
                refine D.i64 _ rfl rfl rfl rfl rfl (by omega) (by omega) rfl rfl ?_
                refine D.pure rfl rfl rfl rfl rfl rfl ?_
                refine D.done [(5, [], _), (11, [], _), (12, [], _), (13, [], _), (18, [], _), (19, [], _), (87, [], _), (88, [], _), (89, [], _)] ⟨rfl, rfl, rfl, rfl, rfl, rfl, rfl, rfl, rfl, trivial⟩ (hR _ _ _ rfl ?_); clear hR R
                refine G.perm (L' := [.arr wk 9 1 ((all.take (k + 1)).filter (mutB l a0)).length (((all.take (k + 1)).filter (mutB l a0)).map encS).flatten, .arr v112 9 1 ((all.take (k + 1)).filter fun u => !mutB l a0 u).length (((all.take (k + 1)).filter fun u => !mutB l a0 u).map encS).flatten, .arr wo 39 1 ov.length ov]) (by
                  rw [htk1, htk2, if_neg (by simp [h104']), if_pos (by simp [h104'])]; simpa using List.Perm.swap _ _ _) ?_
                refine G.again (m' := all.length - (k + 1)) (by omega) (by (repeat (first | exact Mem.le.refl _ | assumption | (apply Mem.le.trans; rotate_left; assumption)))) (fr' := [(5, [], _), (11, [], _), (12, [], _), (13, [], _), (18, [], _), (19, [], _), (87, [], _), (88, [], _), (89, [], _)]) ⟨rfl, rfl, rfl, rfl, rfl, rfl, rfl, rfl, rfl, trivial⟩ ⟨k + 1, wk, v112, by omega, rfl, rfl, rfl⟩
            · skip
              simp only [decide_eq_false_iff_not] at h90
              have hka : k = all.length := by omega
              subst hka
              rw [List.take_length]
              refine G.freezeArr 0 ((all.filter (mutB l a0)).map encS) rfl rfl (by intro r hr; obtain ⟨y, _, rfl⟩ := List.mem_map.1 hr; rfl) (by simp) (fun Ck hlek hks => ?_)
              refine G.freezeArr 0 ((all.filter fun u => !mutB l a0 u).map encS) rfl rfl (by intro r hr; obtain ⟨y, _, rfl⟩ := List.mem_map.1 hr; rfl) (by simp) (fun Cr hler hrs => ?_)
              have hrl := rest_less h0 ha0
              obtain ⟨Ak, ck, rfl, _⟩ := id hks
              refine G.region rfl (fun R hR => ?_)
              iterate 2 refine D.pure rfl rfl rfl rfl rfl rfl ?_
              refine D.buildSlice [[.slice Ak ((all.filter (mutB l a0)).map encS).length ck]] rfl rfl rfl rfl rfl rfl rfl rfl rfl rfl rfl rfl (fun _ => rfl) (fun p116 C116 hle116 hs116 => ?_)
              refine D.append (j := 0) rfl rfl rfl rfl rfl rfl rfl rfl rfl rfl rfl hs116 rfl (by simp only [List.length_singleton, maxLen]; omega) (by simp only [List.length_singleton]; omega) (fun _ => rfl) (fun v117 => ?_)
              refine D.pure rfl rfl rfl rfl rfl rfl ?_
              refine D.done [(5, [], _), (11, [], _), (19, [], _)] ⟨rfl, rfl, rfl, trivial⟩ (hR _ _ _ rfl ?_); clear hR R
              refine G.region rfl (fun R hR => ?_)
              iterate 2 refine D.pure rfl rfl rfl rfl rfl rfl ?_
              refine D.done [(5, [], _), (9, [], _), (11, [], _)] ⟨rfl, rfl, rfl, trivial⟩ (hR _ _ _ rfl ?_); clear hR R
              refine G.eqL (L' := [.arr v117 39 1 (ov ++ [Value.slice Ak ((all.filter (mutB l a0)).map encS).length ck]).length (ov ++ [Value.slice Ak ((all.filter (mutB l a0)).map encS).length ck])]) (by simp) ?_
              refine G.again (m' := (all.filter fun u => !mutB l a0 u).length) (by omega) (by (repeat (first | exact Mem.le.refl _ | assumption | (apply Mem.le.trans; rotate_left; assumption)))) (fr' := [(5, [], _), (9, [], _), (11, [], _)]) ⟨rfl, rfl, rfl, trivial⟩ ⟨g, all.filter fun u => !mutB l a0 u, wr, v117, ov ++ [Value.slice Ak ((all.filter (mutB l a0)).map encS).length ck], outs ++ [all.filter (mutB l a0)], ⟨by omega, fun s hs => hau s (List.mem_filter.1 hs).1, hrs.mono (by (repeat (first | exact Mem.le.refl _ | assumption | (apply Mem.le.trans; rotate_left; assumption)))), (hout.mono (by (repeat (first | exact Mem.le.refl _ | assumption | (apply Mem.le.trans; rotate_left; assumption))))).snoc (hks.mono (by (repeat (first | exact Mem.le.refl _ | assumption | (apply Mem.le.trans; rotate_left; assumption))))), by rw [← hkn2, hkc]; simp, by simp; omega⟩, rfl, rfl, rfl⟩
        · skip
          have h60' : all = [] := by simpa using h60
          subst h60'
          rw [knF_nil, List.append_nil] at hkn2
          refine G.region rfl (fun R hR => ?_)
          iterate 3 refine D.pure rfl rfl rfl rfl rfl rfl ?_
          refine D.done [(2, [], _), (3, [], _)] ⟨rfl, rfl, trivial⟩ (hR _ _ _ rfl ?_); clear hR R
          refine G.eqL (L' := [.arr wo 39 1 ov.length (ov.map fun x => [x]).flatten]) (by rw [row1]) ?_
          refine G.freezeArr 0 (ov.map fun x => [x]) rfl rfl (by intro r hr; obtain ⟨y, _, rfl⟩ := List.mem_map.1 hr; rfl) (by simp) (fun Cf hf hsd => ?_)
          refine G.retN (G.dropAll (G.fin2 rfl rfl rfl ?_))
          exact ⟨rfl, .inr ⟨h27', q, _, ov, hq, rfl, hsd, by rw [hUe, ← hkn2]; exact hout.mono hf⟩⟩
end Go.Proofs.YtcghlfepfcagbaaGreat
namespace Go.Proofs.YtcghlfepfcagbaaGreat
open Go Go.Jog
set_option maxRecDepth 100000

set_option maxHeartbeats 8000000 in
theorem paths_fn (C : Mem) (v : Value) (l : List Rel) (s t : Str) (n : Nat) (hv : Sl C 3 v (l.map Rel.enc)) (hl : l.length ≤ 8) (hn : n ≤ 8) :
    Pur cx.P 52 [v, strV s, strV t, .int .i64 n] C fun r C' => LL C' r (pathsL l s t n) := by
  obtain ⟨A, c, rfl, _⟩ := id hv
  simp only [List.length_map] at hv ⊢
  have hpow : ∀ {m : Nat}, m ≤ 8 → (8 : Nat) ^ m ≤ 16777216 := fun {m} h => Nat.le_trans (Nat.pow_le_pow_right (by decide) h) (by decide)
  refine Fn.intro (by kernel_rfl) Tryz.func52 rfl 123 rfl rfl (fun w0 => ?_)
  refine G.region rfl (fun R hR => ?_)
  refine D.pure rfl rfl rfl rfl rfl rfl ?_
  refine D.done [(0, [], _), (1, [], _), (2, [], _), (3, [], _)] ⟨rfl, rfl, rfl, rfl, trivial⟩ (hR _ _ _ rfl ?_); clear hR R
  refine G.region rfl (fun R hR => ?_)
  refine D.buildSlice [[.slice none 0 0]] rfl rfl rfl rfl rfl rfl rfl rfl rfl rfl rfl rfl (fun _ => rfl) (fun p23 C23 hle23 hs23 => ?_)
  refine D.pure rfl rfl rfl rfl rfl rfl ?_
  refine D.done [(0, [], _), (1, [], _), (2, [], _), (3, [], _), (9, [], _)] ⟨rfl, rfl, rfl, rfl, rfl, trivial⟩ (hR _ _ _ rfl ?_); clear hR R
  refine G.region rfl (fun R hR => ?_)
  refine D.pure rfl rfl rfl rfl rfl rfl ?_
  refine D.done [(0, [], _), (1, [], _), (2, [], _), (3, [], _), (9, [], _), (10, [], _)] ⟨rfl, rfl, rfl, rfl, rfl, rfl, trivial⟩ (hR _ _ _ rfl ?_); clear hR R
  refine G.loop (fun fr C' L' μ => ∃ (st : Nat) (w : Value) (ov : List Value), (st ≤ n ∧ Sl C' 1 w (ov.map fun x => [x]) ∧ OutN C' ov (simpL l s st)) ∧ fr = [(0, [], .slice A l.length c), (1, [], strV s), (2, [], strV t), (3, [], .int .i64 n), (9, [], w), (10, [], .int .i64 st)] ∧ L' = [] ∧ μ = n - st) (fr' := [(0, [], _), (1, [], _), (2, [], _), (3, [], _), (9, [], _), (10, [], _)]) ⟨rfl, rfl, rfl, rfl, rfl, rfl, trivial⟩ ⟨0, _, [.slice none 0 0], ⟨Nat.zero_le _, hs23, rfl, fun j v o h1 h2 => by
    cases j with
    | zero => simp [simpL, simpW] at h1 h2; subst h1; subst h2; exact Sl.nil _ 1
    | succ j => simp at h1⟩, rfl, rfl, rfl⟩ (fun fr C0' L0' m hle0 hI => ?_)
  obtain ⟨st, w, ov, ⟨hst, hws, hov⟩, rfl, rfl, rfl⟩ := hI
  refine G.region rfl (fun R hR => ?_)
  iterate 3 refine D.pure rfl rfl rfl rfl rfl rfl ?_
  refine D.done [(0, [], _), (1, [], _), (2, [], _), (3, [], _), (9, [], _), (10, [], _), (26, [], _)] ⟨rfl, rfl, rfl, rfl, rfl, rfl, rfl, trivial⟩ (hR _ _ _ rfl ?_); clear hR R
  refine G.cond rfl (fun h26 => ?_) (fun h26 => ?_)
  · skip
    have h26' : st < n := by simpa using h26
    obtain ⟨A9, c9, hqe, _⟩ := id hws
    have hol := hov.1
    have hsl := simpL_len hl s st
    have hp8 := hpow (m := st) (by omega)
    rw [List.length_map, hol] at hqe
    subst hqe
    obtain ⟨O, hO⟩ : ∃ O, simpL l s st = O := ⟨_, rfl⟩
    rw [hO] at hov hol hsl hws
    obtain ⟨FF, hFF⟩ : ∃ FF : List Nat → List (List Nat), (fun x => cat (fun k => oneIf (freshB l (endL l s x) x k) (x ++ [k])) l.length) = FF := ⟨_, rfl⟩
    have hFl : ∀ x, (FF x).length ≤ 8 := fun x => by rw [← hFF]; exact Nat.le_trans (fresh_len _ _ _ _) hl
    refine G.region rfl (fun R hR => ?_)
    refine D.pure rfl rfl rfl rfl rfl rfl ?_
    refine D.done [(0, [], _), (1, [], _), (2, [], _), (3, [], _), (9, [], _), (10, [], _), (11, [], _)] ⟨rfl, rfl, rfl, rfl, rfl, rfl, rfl, trivial⟩ (hR _ _ _ rfl ?_); clear hR R
    rw [hO]
    refine G.region rfl (fun R hR => ?_)
    iterate 3 refine D.pure rfl rfl rfl rfl rfl rfl ?_
    refine D.done [(0, [], _), (1, [], _), (2, [], _), (3, [], _), (10, [], _), (11, [], _), (29, [], _), (30, [], _), (31, [], _)] ⟨rfl, rfl, rfl, rfl, rfl, rfl, rfl, rfl, rfl, trivial⟩ (hR _ _ _ rfl ?_); clear hR R
    refine G.nilArr 31 1 ?_
    refine G.loop (fun fr C' L' μ => ∃ (j : Nat) (w : Value) (ovm : List Value), (j ≤ O.length ∧ OutN C' ovm ((O.take j).flatMap FF)) ∧ fr = [(0, [], .slice A l.length c), (1, [], strV s), (2, [], strV t), (3, [], .int .i64 n), (10, [], .int .i64 st), (11, [], w), (29, [], .slice A9 O.length c9), (30, [], .int .i64 O.length), (31, [], .int .i64 j)] ∧ L' = [.arr w 31 1 ovm.length ovm] ∧ μ = O.length - j) (fr' := [(0, [], _), (1, [], _), (2, [], _), (3, [], _), (10, [], _), (11, [], _), (29, [], _), (30, [], _), (31, [], _)]) ⟨rfl, rfl, rfl, rfl, rfl, rfl, rfl, rfl, rfl, trivial⟩ ⟨0, _, [], ⟨Nat.zero_le _, rfl, fun j v o h => by simp at h⟩, rfl, rfl, rfl⟩ (fun fr C1' L1' m hle1 hI => ?_)
    obtain ⟨j, w, ovm, ⟨hj, hovm⟩, rfl, rfl, rfl⟩ := hI
    refine G.region rfl (fun R hR => ?_)
    refine D.pure rfl rfl rfl rfl rfl rfl ?_
    refine D.done [(0, [], _), (1, [], _), (2, [], _), (3, [], _), (10, [], _), (11, [], _), (29, [], _), (30, [], _), (31, [], _), (32, [], _)] ⟨rfl, rfl, rfl, rfl, rfl, rfl, rfl, rfl, rfl, rfl, trivial⟩ (hR _ _ _ rfl ?_); clear hR R
    refine G.cond rfl (fun h32 => ?_) (fun h32 => ?_)
    · skip
      have hjl : j < O.length := by simpa using h32
      obtain ⟨x, hx⟩ : ∃ x, O[j]? = some x := ⟨O[j], List.getElem?_eq_getElem hjl⟩
      obtain ⟨hxn, hxl⟩ := simpL_lengths l s st x (by rw [hO]; exact List.mem_of_getElem? hx)
      obtain ⟨Ax, cx1, hovx, hrx, hsx⟩ := hov.at hx
      have hml := flatMap_len hFl (O.take j)
      have hml2 : (O.take j).length ≤ O.length := by rw [List.length_take]; omega
      have hovml := hovm.1
      obtain ⟨at_, hat⟩ : ∃ at_, endL l s x = at_ := ⟨_, rfl⟩
      refine G.region rfl (fun R hR => ?_)
      refine D.index0 (hws.mono (by (repeat (first | exact Mem.le.refl _ | assumption | (apply Mem.le.trans; rotate_left; assumption))))) rfl rfl rfl rfl rfl rfl rfl rfl rfl rfl (by omega) hrx (fun _ => rfl) (fun p33 hp33 => ?_)
      refine D.loadP0 hp33 rfl rfl rfl rfl rfl rfl rfl rfl ?_
      refine D.pure rfl rfl rfl rfl rfl rfl ?_
      refine D.done [(0, [], _), (1, [], _), (2, [], _), (3, [], _), (10, [], _), (11, [], _), (13, [], _), (29, [], _), (30, [], _), (31, [], _)] ⟨rfl, rfl, rfl, rfl, rfl, rfl, rfl, rfl, rfl, rfl, trivial⟩ (hR _ _ _ rfl ?_); clear hR R
      refine G.region rfl (fun R hR => ?_)
      iterate 2 refine D.pure rfl rfl rfl rfl rfl rfl ?_
      refine D.done [(0, [], _), (1, [], _), (2, [], _), (3, [], _), (10, [], _), (11, [], _), (13, [], _), (14, [], _), (29, [], _), (30, [], _), (31, [], _)] ⟨rfl, rfl, rfl, rfl, rfl, rfl, rfl, rfl, rfl, rfl, rfl, trivial⟩ (hR _ _ _ rfl ?_); clear hR R
      refine G.region rfl (fun R hR => ?_)
      iterate 2 refine D.pure rfl rfl rfl rfl rfl rfl ?_
      refine D.done [(0, [], _), (1, [], _), (2, [], _), (3, [], _), (10, [], _), (11, [], _), (13, [], _), (14, [], _), (29, [], _), (30, [], _), (31, [], _), (37, [], _)] ⟨rfl, rfl, rfl, rfl, rfl, rfl, rfl, rfl, rfl, rfl, rfl, rfl, trivial⟩ (hR _ _ _ rfl ?_); clear hR R
      refine G.cut (fun fr C' L' μ => (True) ∧ fr = [(0, [], .slice A l.length c), (1, [], strV s), (2, [], strV t), (3, [], .int .i64 n), (10, [], .int .i64 st), (11, [], w), (13, [], .slice Ax x.length cx1), (14, [], strV at_), (29, [], .slice A9 O.length c9), (30, [], .int .i64 O.length), (31, [], .int .i64 j)] ∧ L' = [.arr w 31 1 ovm.length ovm]) ?_ (fun fr C37 L37 μ hle37 hI => ?_)
      · skip
        refine G.cond rfl (fun h37 => ?_) (fun h37 => ?_)
        · skip
          have h37' : 0 < st := by simpa using h37
          obtain ⟨z, hz⟩ : ∃ z, x[x.length - 1]? = some z := ⟨x[x.length - 1]'(by omega), List.getElem?_eq_getElem (by omega)⟩
          have hez := endL_last (l := l) (s := s) (by omega) hz
          have hzl := hxl z (List.mem_of_getElem? hz)
          obtain ⟨y, hy⟩ : ∃ y, l[z]? = some y := ⟨l[z], List.getElem?_eq_getElem hzl⟩
          have hry : (l.map Rel.enc)[z]? = some y.enc := by rw [List.getElem?_map, hy]; rfl
          have hyu : at_ = y.upper := by rw [← hat, hez]; unfold upOf; rw [hy]
          have hrz : (x.map encN)[st - 1]? = some (encN z) := by rw [List.getElem?_map, ← hxn, hz]; rfl
          refine G.region rfl (fun R hR => ?_)
          iterate 3 refine D.pure rfl rfl rfl rfl rfl rfl ?_
          refine D.i64 (((st - 1 : Nat) : Int)) rfl rfl rfl rfl (by omega) (by omega) (by omega) rfl rfl ?_
          refine D.index0 (hsx.mono (by (repeat (first | exact Mem.le.refl _ | assumption | (apply Mem.le.trans; rotate_left; assumption))))) rfl rfl rfl rfl rfl rfl rfl rfl rfl rfl (by omega) hrz (fun _ => rfl) (fun p42 hp42 => ?_)
          refine D.loadP0 hp42 rfl rfl rfl rfl rfl rfl rfl rfl ?_
          refine D.index0 (hv.mono (by (repeat (first | exact Mem.le.refl _ | assumption | (apply Mem.le.trans; rotate_left; assumption))))) rfl rfl rfl rfl rfl rfl rfl rfl rfl rfl (by omega) hry (fun _ => rfl) (fun p44 hp44 => ?_)
          refine D.fieldP0 hp44 rfl rfl rfl rfl rfl rfl rfl rfl rfl rfl (fun _ => rfl) (fun p45 hp45 => ?_)
          refine D.loadP0 hp45 rfl rfl rfl rfl rfl rfl rfl rfl ?_
          refine D.pure rfl rfl rfl rfl rfl rfl ?_
          refine D.done [(0, [], _), (1, [], _), (2, [], _), (3, [], _), (10, [], _), (11, [], _), (13, [], _), (14, [], _), (29, [], _), (30, [], _), (31, [], _)] ⟨rfl, rfl, rfl, rfl, rfl, rfl, rfl, rfl, rfl, rfl, rfl, trivial⟩ (hR _ _ _ rfl ?_); clear hR R
          rw [hyu]
          refine G.meet 0 (by (repeat (first | exact Mem.le.refl _ | assumption | (apply Mem.le.trans; rotate_left; assumption)))) (fr' := [(0, [], _), (1, [], _), (2, [], _), (3, [], _), (10, [], _), (11, [], _), (13, [], _), (14, [], _), (29, [], _), (30, [], _), (31, [], _)]) ⟨rfl, rfl, rfl, rfl, rfl, rfl, rfl, rfl, rfl, rfl, rfl, trivial⟩ ⟨trivial, rfl, rfl⟩
        · skip
          have h37' : st = 0 := by
            have : ¬ 0 < st := by simpa using h37
            omega
          have hxe : x = [] := List.eq_nil_of_length_eq_zero (by omega)
          have hats : at_ = s := by rw [← hat, hxe]; rfl
          rw [hats]
          refine G.meet 0 (by (repeat (first | exact Mem.le.refl _ | assumption | (apply Mem.le.trans; rotate_left; assumption)))) (fr' := [(0, [], _), (1, [], _), (2, [], _), (3, [], _), (10, [], _), (11, [], _), (13, [], _), (14, [], _), (29, [], _), (30, [], _), (31, [], _)]) ⟨rfl, rfl, rfl, rfl, rfl, rfl, rfl, rfl, rfl, rfl, rfl, trivial⟩ ⟨trivial, rfl, rfl⟩
      · skip
        obtain ⟨_, rfl, rfl⟩ := hI
        refine G.region rfl (fun R hR => ?_)
        refine D.pure rfl rfl rfl rfl rfl rfl ?_
        refine D.done [(0, [], _), (1, [], _), (2, [], _), (3, [], _), (10, [], _), (11, [], _), (13, [], _), (14, [], _), (15, [], _), (29, [], _), (30, [], _), (31, [], _)] ⟨rfl, rfl, rfl, rfl, rfl, rfl, rfl, rfl, rfl, rfl, rfl, rfl, trivial⟩ (hR _ _ _ rfl ?_); clear hR R
        refine G.loop (fun fr C' L' μ => ∃ (k : Nat) (w : Value) (ovk : List Value), (k ≤ l.length ∧ OutN C' ovk ((O.take j).flatMap FF ++ cat (fun k => oneIf (freshB l at_ x k) (x ++ [k])) k)) ∧ fr = [(0, [], .slice A l.length c), (1, [], strV s), (2, [], strV t), (3, [], .int .i64 n), (10, [], .int .i64 st), (11, [], w), (13, [], .slice Ax x.length cx1), (14, [], strV at_), (15, [], .int .i64 k), (29, [], .slice A9 O.length c9), (30, [], .int .i64 O.length), (31, [], .int .i64 j)] ∧ L' = [.arr w 31 1 ovk.length ovk] ∧ μ = l.length - k) (fr' := [(0, [], _), (1, [], _), (2, [], _), (3, [], _), (10, [], _), (11, [], _), (13, [], _), (14, [], _), (15, [], _), (29, [], _), (30, [], _), (31, [], _)]) ⟨rfl, rfl, rfl, rfl, rfl, rfl, rfl, rfl, rfl, rfl, rfl, rfl, trivial⟩ ⟨0, w, ovm, ⟨Nat.zero_le _, by simpa [cat] using hovm.mono (by (repeat (first | exact Mem.le.refl _ | assumption | (apply Mem.le.trans; rotate_left; assumption))))⟩, rfl, rfl, rfl⟩ (fun fr C2' L2' m hle2 hI => ?_)
        obtain ⟨k, w, ovk, ⟨hk, hovk⟩, rfl, rfl, rfl⟩ := hI
        refine G.region rfl (fun R hR => ?_)
        iterate 4 refine D.pure rfl rfl rfl rfl rfl rfl ?_
        refine D.done [(0, [], _), (1, [], _), (2, [], _), (3, [], _), (10, [], _), (11, [], _), (13, [], _), (14, [], _), (15, [], _), (29, [], _), (30, [], _), (31, [], _), (50, [], _)] ⟨rfl, rfl, rfl, rfl, rfl, rfl, rfl, rfl, rfl, rfl, rfl, rfl, rfl, trivial⟩ (hR _ _ _ rfl ?_); clear hR R
        refine G.cond rfl (fun h50 => ?_) (fun h50 => ?_)
        · skip
          have hkl : k < l.length := by simpa using h50
          obtain ⟨y, hy⟩ : ∃ y, l[k]? = some y := ⟨l[k], List.getElem?_eq_getElem hkl⟩
          have hry : (l.map Rel.enc)[k]? = some y.enc := by rw [List.getElem?_map, hy]; rfl
          have hyl : lowOf l k = y.lower := by unfold lowOf; rw [hy]
          have hcl := fresh_len l at_ x k
          have hovkl := hovk.1
          rw [List.length_append] at hovkl
          have hpre : (arcB l k && (lowOf l k == at_)) = (!(y.kind == 4) && (y.lower == at_)) := by rw [arcB_at hy, hyl]
          refine G.region rfl (fun R hR => ?_)
          iterate 2 refine D.pure rfl rfl rfl rfl rfl rfl ?_
          refine D.index0 (hv.mono (by (repeat (first | exact Mem.le.refl _ | assumption | (apply Mem.le.trans; rotate_left; assumption))))) rfl rfl rfl rfl rfl rfl rfl rfl rfl rfl (by omega) hry (fun _ => rfl) (fun p55 hp55 => ?_)
          refine D.loadP0 hp55 rfl rfl rfl rfl rfl rfl rfl rfl ?_
          refine D.gives2 (arc_fn _ y) rfl rfl rfl rfl rfl rfl rfl (fun _ => rfl) ?_
          iterate 3 refine D.pure rfl rfl rfl rfl rfl rfl ?_
          refine D.index rfl rfl rfl rfl rfl rfl rfl rfl rfl rfl (fun hg => ⟨(hv.mono (by (repeat (first | exact Mem.le.refl _ | assumption | (apply Mem.le.trans; rotate_left; assumption))))), by omega, hry⟩) (fun _ => rfl) rfl (fun p61 hp61 => ?_)
          refine D.fieldP rfl rfl rfl rfl rfl rfl rfl rfl rfl rfl hp61 (fun _ => rfl) rfl (fun p62 hp62 => ?_)
          refine D.loadP rfl rfl rfl rfl rfl rfl hp62 rfl rfl rfl ?_
          iterate 2 refine D.pure rfl rfl rfl rfl rfl rfl ?_
          refine D.pickAnd rfl rfl rfl rfl rfl rfl rfl rfl ?_
          refine D.pure rfl rfl rfl rfl rfl rfl ?_
          refine D.done [(0, [], _), (1, [], _), (2, [], _), (3, [], _), (10, [], _), (11, [], _), (13, [], _), (14, [], _), (15, [], _), (16, [], _), (29, [], _), (30, [], _), (31, [], _)] ⟨rfl, rfl, rfl, rfl, rfl, rfl, rfl, rfl, rfl, rfl, rfl, rfl, rfl, trivial⟩ (hR _ _ _ rfl ?_); clear hR R
          refine G.region rfl (fun R hR => ?_)
          iterate 3 refine D.pure rfl rfl rfl rfl rfl rfl ?_
          refine D.done [(0, [], _), (1, [], _), (2, [], _), (3, [], _), (10, [], _), (11, [], _), (13, [], _), (14, [], _), (15, [], _), (16, [], _), (29, [], _), (30, [], _), (31, [], _), (67, [], _), (68, [], _), (69, [], _)] ⟨rfl, rfl, rfl, rfl, rfl, rfl, rfl, rfl, rfl, rfl, rfl, rfl, rfl, rfl, rfl, rfl, trivial⟩ (hR _ _ _ rfl ?_); clear hR R
          rw [show (!(y.kind == 4) && (y.lower == at_)) = ((arcB l k && (lowOf l k == at_)) && (x.take 0).all fun i => decide (lowOf l i ≠ at_)) from by rw [← hpre]; simp]
          refine G.loop (fun fr C' L' μ => ∃ (q : Nat), (q ≤ x.length) ∧ fr = [(0, [], .slice A l.length c), (1, [], strV s), (2, [], strV t), (3, [], .int .i64 n), (10, [], .int .i64 st), (11, [], w), (13, [], .slice Ax x.length cx1), (14, [], strV at_), (15, [], .int .i64 k), (16, [], .bool ((arcB l k && (lowOf l k == at_)) && (x.take q).all fun i => decide (lowOf l i ≠ at_))), (29, [], .slice A9 O.length c9), (30, [], .int .i64 O.length), (31, [], .int .i64 j), (67, [], .slice Ax x.length cx1), (68, [], .int .i64 x.length), (69, [], .int .i64 q)] ∧ L' = [.arr w 31 1 ovk.length ovk] ∧ μ = x.length - q) (fr' := [(0, [], _), (1, [], _), (2, [], _), (3, [], _), (10, [], _), (11, [], _), (13, [], _), (14, [], _), (15, [], _), (16, [], _), (29, [], _), (30, [], _), (31, [], _), (67, [], _), (68, [], _), (69, [], _)]) ⟨rfl, rfl, rfl, rfl, rfl, rfl, rfl, rfl, rfl, rfl, rfl, rfl, rfl, rfl, rfl, rfl, trivial⟩ ⟨0, Nat.zero_le _, rfl, rfl, rfl⟩ (fun fr C3' L3' m hle3 hI => ?_)
          obtain ⟨q, hq, rfl, rfl, rfl⟩ := hI
          refine G.region rfl (fun R hR => ?_)
          refine D.pure rfl rfl rfl rfl rfl rfl ?_
          refine D.done [(0, [], _), (1, [], _), (2, [], _), (3, [], _), (10, [], _), (11, [], _), (13, [], _), (14, [], _), (15, [], _), (16, [], _), (29, [], _), (30, [], _), (31, [], _), (67, [], _), (68, [], _), (69, [], _), (70, [], _)] ⟨rfl, rfl, rfl, rfl, rfl, rfl, rfl, rfl, rfl, rfl, rfl, rfl, rfl, rfl, rfl, rfl, rfl, trivial⟩ (hR _ _ _ rfl ?_); clear hR R
          refine G.cond rfl (fun h70 => ?_) (fun h70 => ?_)
          · skip
            have hql : q < x.length := by simpa using h70
            obtain ⟨z, hz⟩ : ∃ z, x[q]? = some z := ⟨x[q], List.getElem?_eq_getElem hql⟩
            have hrz : (x.map encN)[q]? = some (encN z) := by rw [List.getElem?_map, hz]; rfl
            have hzl := hxl z (List.mem_of_getElem? hz)
            obtain ⟨yz, hyz⟩ : ∃ y, l[z]? = some y := ⟨l[z], List.getElem?_eq_getElem hzl⟩
            have hryz : (l.map Rel.enc)[z]? = some yz.enc := by rw [List.getElem?_map, hyz]; rfl
            have hlz : lowOf l z = yz.lower := by unfold lowOf; rw [hyz]
            have htk : (x.take (q + 1)).all (fun i => decide (lowOf l i ≠ at_)) = ((x.take q).all (fun i => decide (lowOf l i ≠ at_)) && !(yz.lower == at_)) := by
              rw [List.take_add_one, hz, List.all_append]
              congr 1
              by_cases h : yz.lower = at_ <;> simp [hlz, h]
            have e16 : (((arcB l k && (lowOf l k == at_)) && (x.take q).all fun i => decide (lowOf l i ≠ at_)) && !(yz.lower == at_)) = ((arcB l k && (lowOf l k == at_)) && (x.take (q + 1)).all fun i => decide (lowOf l i ≠ at_)) := by rw [htk, Bool.and_assoc]
            refine G.region rfl (fun R hR => ?_)
            refine D.index0 (hsx.mono (by (repeat (first | exact Mem.le.refl _ | assumption | (apply Mem.le.trans; rotate_left; assumption))))) rfl rfl rfl rfl rfl rfl rfl rfl rfl rfl (by omega) hrz (fun _ => rfl) (fun p71 hp71 => ?_)
            refine D.loadP0 hp71 rfl rfl rfl rfl rfl rfl rfl rfl ?_
            refine D.pure rfl rfl rfl rfl rfl rfl ?_
            refine D.done [(0, [], _), (1, [], _), (2, [], _), (3, [], _), (10, [], _), (11, [], _), (13, [], _), (14, [], _), (15, [], _), (16, [], _), (18, [], _), (29, [], _), (30, [], _), (31, [], _), (67, [], _), (68, [], _), (69, [], _)] ⟨rfl, rfl, rfl, rfl, rfl, rfl, rfl, rfl, rfl, rfl, rfl, rfl, rfl, rfl, rfl, rfl, rfl, trivial⟩ (hR _ _ _ rfl ?_); clear hR R
            refine G.region rfl (fun R hR => ?_)
            iterate 4 refine D.pure rfl rfl rfl rfl rfl rfl ?_
            refine D.index rfl rfl rfl rfl rfl rfl rfl rfl rfl rfl (fun hg => ⟨(hv.mono (by (repeat (first | exact Mem.le.refl _ | assumption | (apply Mem.le.trans; rotate_left; assumption))))), by omega, hryz⟩) (fun _ => rfl) rfl (fun p77 hp77 => ?_)
            refine D.fieldP rfl rfl rfl rfl rfl rfl rfl rfl rfl rfl hp77 (fun _ => rfl) rfl (fun p78 hp78 => ?_)
            refine D.loadP rfl rfl rfl rfl rfl rfl hp78 rfl rfl rfl ?_
            iterate 2 refine D.pure rfl rfl rfl rfl rfl rfl ?_
            refine D.pickAnd rfl rfl rfl rfl rfl rfl rfl rfl ?_
            refine D.pure rfl rfl rfl rfl rfl rfl ?_
            refine D.done [(0, [], _), (1, [], _), (2, [], _), (3, [], _), (10, [], _), (11, [], _), (13, [], _), (14, [], _), (15, [], _), (16, [], _), (29, [], _), (30, [], _), (31, [], _), (67, [], _), (68, [], _), (69, [], _)] ⟨rfl, rfl, rfl, rfl, rfl, rfl, rfl, rfl, rfl, rfl, rfl, rfl, rfl, rfl, rfl, rfl, trivial⟩ (hR _ _ _ rfl ?_); clear hR R
            refine G.region rfl (fun R hR => ?_)
            refine D.i64 _ rfl rfl rfl rfl rfl (by omega) (by omega) rfl rfl ?_
            refine D.pure rfl rfl rfl rfl rfl rfl ?_
            refine D.done [(0, [], _), (1, [], _), (2, [], _), (3, [], _), (10, [], _), (11, [], _), (13, [], _), (14, [], _), (15, [], _), (16, [], _), (29, [], _), (30, [], _), (31, [], _), (67, [], _), (68, [], _), (69, [], _)] ⟨rfl, rfl, rfl, rfl, rfl, rfl, rfl, rfl, rfl, rfl, rfl, rfl, rfl, rfl, rfl, rfl, trivial⟩ (hR _ _ _ rfl ?_); clear hR R
            rw [e16]
            refine G.again (m' := x.length - (q + 1)) (by omega) (by (repeat (first | exact Mem.le.refl _ | assumption | (apply Mem.le.trans; rotate_left; assumption)))) (fr' := [(0, [], _), (1, [], _), (2, [], _), (3, [], _), (10, [], _), (11, [], _), (13, [], _), (14, [], _), (15, [], _), (16, [], _), (29, [], _), (30, [], _), (31, [], _), (67, [], _), (68, [], _), (69, [], _)]) ⟨rfl, rfl, rfl, rfl, rfl, rfl, rfl, rfl, rfl, rfl, rfl, rfl, rfl, rfl, rfl, rfl, trivial⟩ ⟨q + 1, by omega, rfl, rfl, rfl⟩
          · skip
            have hql : q = x.length := by
              have : ¬ q < x.length := by simpa using h70
              omega
            subst hql
            have hfr : ((arcB l k && (lowOf l k == at_)) && (x.take x.length).all fun i => decide (lowOf l i ≠ at_)) = freshB l at_ x k := by rw [List.take_length]; rfl
            refine G.region rfl (fun R hR => ?_)
            refine D.pure rfl rfl rfl rfl rfl rfl ?_
            refine D.done [(0, [], _), (1, [], _), (2, [], _), (3, [], _), (10, [], _), (11, [], _), (13, [], _), (14, [], _), (15, [], _), (29, [], _), (30, [], _), (31, [], _), (84, [], _)] ⟨rfl, rfl, rfl, rfl, rfl, rfl, rfl, rfl, rfl, rfl, rfl, rfl, rfl, trivial⟩ (hR _ _ _ rfl ?_); clear hR R
            refine G.cond rfl (fun h84 => ?_) (fun h84 => ?_)
            · skip
              have h84' : freshB l at_ x k = true := by rw [← hfr]; exact h84
              refine G.region rfl (fun R hR => ?_)
              refine D.pure rfl rfl rfl rfl rfl rfl ?_
              refine D.buildArr [] rfl rfl rfl rfl rfl rfl rfl rfl rfl rfl rfl rfl (fun _ => rfl) (fun b86 => ?_)
              refine D.pure rfl rfl rfl rfl rfl rfl ?_
              refine D.append (j := 0) rfl rfl rfl rfl rfl rfl rfl rfl rfl rfl rfl (hsx.mono (by (repeat (first | exact Mem.le.refl _ | assumption | (apply Mem.le.trans; rotate_left; assumption))))) (nat_oneB x) (by simp only [List.length_nil, List.length_map, maxLen]; omega) (by simp only [List.length_nil, List.length_map]; omega) (fun _ => rfl) (fun v88 => ?_)
              refine D.pure rfl rfl rfl rfl rfl rfl ?_
              refine D.buildSlice [encN k] rfl rfl rfl rfl rfl rfl rfl rfl rfl rfl rfl rfl (fun _ => rfl) (fun p90 C90 hle90 hs90 => ?_)
              refine D.appendF (j := 0) rfl rfl rfl rfl rfl rfl rfl rfl rfl rfl rfl hs90 rfl (by simp only [List.length_nil, List.length_map, List.length_singleton, maxLen]; omega) (by simp only [List.length_nil, List.length_map, List.length_singleton]; omega) (fun _ => rfl) (fun A91 n91 c91 => ?_)
              refine D.buildSlice [[.slice A91 n91 c91]] rfl rfl rfl rfl rfl rfl rfl rfl rfl rfl rfl rfl (fun _ => rfl) (fun p92 C92 hle92 hs92 => ?_)
              refine D.append (j := 1) rfl rfl rfl rfl rfl rfl rfl rfl rfl rfl rfl hs92 rfl (by simp only [List.length_singleton, maxLen]; omega) (by simp only [List.length_singleton]; omega) (fun _ => rfl) (fun v93 => ?_)
              refine D.pure rfl rfl rfl rfl rfl rfl ?_
              refine D.done [(0, [], _), (1, [], _), (2, [], _), (3, [], _), (10, [], _), (11, [], _), (13, [], _), (14, [], _), (15, [], _), (29, [], _), (30, [], _), (31, [], _)] ⟨rfl, rfl, rfl, rfl, rfl, rfl, rfl, rfl, rfl, rfl, rfl, rfl, trivial⟩ (hR _ _ _ rfl ?_); clear hR R
              refine G.region rfl (fun R hR => ?_)
              refine D.pure rfl rfl rfl rfl rfl rfl ?_
              refine D.i64 _ rfl rfl rfl rfl rfl (by omega) (by omega) rfl rfl ?_
              refine D.pure rfl rfl rfl rfl rfl rfl ?_
              refine D.done [(0, [], _), (1, [], _), (2, [], _), (3, [], _), (10, [], _), (11, [], _), (13, [], _), (14, [], _), (15, [], _), (29, [], _), (30, [], _), (31, [], _)] ⟨rfl, rfl, rfl, rfl, rfl, rfl, rfl, rfl, rfl, rfl, rfl, rfl, trivial⟩ (hR _ _ _ rfl ?_); clear hR R
              refine G.freezeArr 1 ((x ++ [k]).map encN) rfl (by simp [encN, nats_flat]) (by intro r hr; obtain ⟨y, _, rfl⟩ := List.mem_map.1 hr; rfl) (by simp) (fun Cf hf hsf => ?_)
              refine G.eqL (L' := [.arr v93 31 1 (ovk ++ [Value.slice A91 n91 c91]).length (ovk ++ [Value.slice A91 n91 c91])]) (by simp) ?_
              refine G.again (m' := l.length - (k + 1)) (by omega) (by (repeat (first | exact Mem.le.refl _ | assumption | (apply Mem.le.trans; rotate_left; assumption)))) (fr' := [(0, [], _), (1, [], _), (2, [], _), (3, [], _), (10, [], _), (11, [], _), (13, [], _), (14, [], _), (15, [], _), (29, [], _), (30, [], _), (31, [], _)]) ⟨rfl, rfl, rfl, rfl, rfl, rfl, rfl, rfl, rfl, rfl, rfl, rfl, trivial⟩ ⟨k + 1, v93, ovk ++ [Value.slice A91 n91 c91], ⟨by omega, by rw [cat_succ, oneIf_true h84', ← List.append_assoc]; exact (hovk.mono (by (repeat (first | exact Mem.le.refl _ | assumption | (apply Mem.le.trans; rotate_left; assumption))))).snoc hsf⟩, rfl, rfl, rfl⟩
            · skip
              have h84' : freshB l at_ x k = false := by rw [← hfr]; exact h84
              refine G.region rfl (fun R hR => ?_)
              refine D.pure rfl rfl rfl rfl rfl rfl ?_
              refine D.i64 _ rfl rfl rfl rfl rfl (by omega) (by omega) rfl rfl ?_
              refine D.pure rfl rfl rfl rfl rfl rfl ?_
              refine D.done [(0, [], _), (1, [], _), (2, [], _), (3, [], _), (10, [], _), (11, [], _), (13, [], _), (14, [], _), (15, [], _), (29, [], _), (30, [], _), (31, [], _)] ⟨rfl, rfl, rfl, rfl, rfl, rfl, rfl, rfl, rfl, rfl, rfl, rfl, trivial⟩ (hR _ _ _ rfl ?_); clear hR R
              refine G.again (m' := l.length - (k + 1)) (by omega) (by (repeat (first | exact Mem.le.refl _ | assumption | (apply Mem.le.trans; rotate_left; assumption)))) (fr' := [(0, [], _), (1, [], _), (2, [], _), (3, [], _), (10, [], _), (11, [], _), (13, [], _), (14, [], _), (15, [], _), (29, [], _), (30, [], _), (31, [], _)]) ⟨rfl, rfl, rfl, rfl, rfl, rfl, rfl, rfl, rfl, rfl, rfl, rfl, trivial⟩ ⟨k + 1, w, ovk, ⟨by omega, by rw [cat_succ, oneIf_false h84', List.append_nil]; exact hovk.mono (by (repeat (first | exact Mem.le.refl _ | assumption | (apply Mem.le.trans; rotate_left; assumption))))⟩, rfl, rfl, rfl⟩
        · skip
          have hkl : k = l.length := by
            have : ¬ k < l.length := by simpa using h50
            omega
          subst hkl
          refine G.region rfl (fun R hR => ?_)
          refine D.i64 _ rfl rfl rfl rfl rfl (by omega) (by omega) rfl rfl ?_
          refine D.pure rfl rfl rfl rfl rfl rfl ?_
          refine D.done [(0, [], _), (1, [], _), (2, [], _), (3, [], _), (10, [], _), (11, [], _), (29, [], _), (30, [], _), (31, [], _)] ⟨rfl, rfl, rfl, rfl, rfl, rfl, rfl, rfl, rfl, trivial⟩ (hR _ _ _ rfl ?_); clear hR R
          refine G.again (m' := O.length - (j + 1)) (by omega) (by (repeat (first | exact Mem.le.refl _ | assumption | (apply Mem.le.trans; rotate_left; assumption)))) (fr' := [(0, [], _), (1, [], _), (2, [], _), (3, [], _), (10, [], _), (11, [], _), (29, [], _), (30, [], _), (31, [], _)]) ⟨rfl, rfl, rfl, rfl, rfl, rfl, rfl, rfl, rfl, trivial⟩ ⟨j + 1, w, ovk, ⟨by omega, by
            have e : (O.take (j + 1)).flatMap FF = (O.take j).flatMap FF ++ FF x := by rw [List.take_add_one, hx, List.flatMap_append]; simp
            have hFx : FF x = cat (fun k => oneIf (freshB l at_ x k) (x ++ [k])) l.length := by rw [← hFF]; simp only; rw [hat]
            rw [e, hFx]; exact hovk.mono (by (repeat (first | exact Mem.le.refl _ | assumption | (apply Mem.le.trans; rotate_left; assumption))))⟩, rfl, rfl, rfl⟩
    · skip
      have hjl : j = O.length := by
        have : ¬ j < O.length := by simpa using h32
        omega
      subst hjl
      rw [List.take_length, ← hFF, ← hO, ← simpL_succ] at hovm
      refine G.freezeArr 0 (ovm.map fun x => [x]) rfl row1.symm (by intro r hr; obtain ⟨y, _, rfl⟩ := List.mem_map.1 hr; rfl) (by simp) (fun Cm hlem hsm => ?_)
      refine G.region rfl (fun R hR => ?_)
      iterate 2 refine D.pure rfl rfl rfl rfl rfl rfl ?_
      refine D.done [(0, [], _), (1, [], _), (2, [], _), (3, [], _), (9, [], _), (10, [], _)] ⟨rfl, rfl, rfl, rfl, rfl, rfl, trivial⟩ (hR _ _ _ rfl ?_); clear hR R
      refine G.region rfl (fun R hR => ?_)
      refine D.pure rfl rfl rfl rfl rfl rfl ?_
      refine D.i64 _ rfl rfl rfl rfl rfl (by omega) (by omega) rfl rfl ?_
      refine D.pure rfl rfl rfl rfl rfl rfl ?_
      refine D.done [(0, [], _), (1, [], _), (2, [], _), (3, [], _), (9, [], _), (10, [], _)] ⟨rfl, rfl, rfl, rfl, rfl, rfl, trivial⟩ (hR _ _ _ rfl ?_); clear hR R
      refine G.again (m' := n - (st + 1)) (by omega) (by (repeat (first | exact Mem.le.refl _ | assumption | (apply Mem.le.trans; rotate_left; assumption)))) (fr' := [(0, [], _), (1, [], _), (2, [], _), (3, [], _), (9, [], _), (10, [], _)]) ⟨rfl, rfl, rfl, rfl, rfl, rfl, trivial⟩ ⟨st + 1, w, ovm, ⟨by omega, hsm, hovm.mono (by (repeat (first | exact Mem.le.refl _ | assumption | (apply Mem.le.trans; rotate_left; assumption))))⟩, rfl, rfl, rfl⟩
  · skip
    have h26' : n = st := by
      have : ¬ st < n := by simpa using h26
      omega
    subst h26'
    obtain ⟨A9, c9, hqe, _⟩ := id hws
    have hol := hov.1
    have hsl := simpL_len hl s n
    have hp8 := hpow (m := n) (by omega)
    rw [List.length_map, hol] at hqe
    subst hqe
    obtain ⟨O, hO⟩ : ∃ O, simpL l s n = O := ⟨_, rfl⟩
    rw [hO] at hov hol hsl hws
    refine G.region rfl (fun R hR => ?_)
    refine D.pure rfl rfl rfl rfl rfl rfl ?_
    refine D.done [(0, [], _), (1, [], _), (2, [], _), (3, [], _), (9, [], _), (19, [], _)] ⟨rfl, rfl, rfl, rfl, rfl, rfl, trivial⟩ (hR _ _ _ rfl ?_); clear hR R
    rw [hO]
    refine G.region rfl (fun R hR => ?_)
    iterate 3 refine D.pure rfl rfl rfl rfl rfl rfl ?_
    refine D.done [(0, [], _), (1, [], _), (2, [], _), (3, [], _), (19, [], _), (96, [], _), (97, [], _), (98, [], _)] ⟨rfl, rfl, rfl, rfl, rfl, rfl, rfl, rfl, trivial⟩ (hR _ _ _ rfl ?_); clear hR R
    refine G.nilArr 31 1 ?_
    refine G.loop (fun fr C' L' μ => ∃ (j : Nat) (w : Value) (ov2 : List Value), (j ≤ O.length ∧ OutN C' ov2 ((O.take j).filter fun x => decide (endL l s x = t))) ∧ fr = [(0, [], .slice A l.length c), (1, [], strV s), (2, [], strV t), (3, [], .int .i64 n), (19, [], w), (96, [], .slice A9 O.length c9), (97, [], .int .i64 O.length), (98, [], .int .i64 j)] ∧ L' = [.arr w 31 1 ov2.length ov2] ∧ μ = O.length - j) (fr' := [(0, [], _), (1, [], _), (2, [], _), (3, [], _), (19, [], _), (96, [], _), (97, [], _), (98, [], _)]) ⟨rfl, rfl, rfl, rfl, rfl, rfl, rfl, rfl, trivial⟩ ⟨0, _, [], ⟨Nat.zero_le _, rfl, fun j v o h => by simp at h⟩, rfl, rfl, rfl⟩ (fun fr C4' L4' m hle4 hI => ?_)
    obtain ⟨j, w, ov2, ⟨hj, hov2⟩, rfl, rfl, rfl⟩ := hI
    refine G.region rfl (fun R hR => ?_)
    refine D.pure rfl rfl rfl rfl rfl rfl ?_
    refine D.done [(0, [], _), (1, [], _), (2, [], _), (3, [], _), (19, [], _), (96, [], _), (97, [], _), (98, [], _), (99, [], _)] ⟨rfl, rfl, rfl, rfl, rfl, rfl, rfl, rfl, rfl, trivial⟩ (hR _ _ _ rfl ?_); clear hR R
    refine G.cond rfl (fun h99 => ?_) (fun h99 => ?_)
    · skip
      have hjl : j < O.length := by simpa using h99
      obtain ⟨x, hx⟩ : ∃ x, O[j]? = some x := ⟨O[j], List.getElem?_eq_getElem hjl⟩
      obtain ⟨hxn, hxl⟩ := simpL_lengths l s n x (by rw [hO]; exact List.mem_of_getElem? hx)
      obtain ⟨Ax, cx1, hovx, hrx, hsx⟩ := hov.at hx
      obtain ⟨at_, hat⟩ : ∃ at_, endL l s x = at_ := ⟨_, rfl⟩
      have htf := take_filter (fun x => decide (endL l s x = t)) hx
      have hfl := List.length_filter_le (fun x => decide (endL l s x = t)) (O.take j)
      have htl : (O.take j).length ≤ O.length := by rw [List.length_take]; omega
      have hov2l := hov2.1
      refine G.region rfl (fun R hR => ?_)
      refine D.index0 (hws.mono (by (repeat (first | exact Mem.le.refl _ | assumption | (apply Mem.le.trans; rotate_left; assumption))))) rfl rfl rfl rfl rfl rfl rfl rfl rfl rfl (by omega) hrx (fun _ => rfl) (fun p100 hp100 => ?_)
      refine D.loadP0 hp100 rfl rfl rfl rfl rfl rfl rfl rfl ?_
      refine D.pure rfl rfl rfl rfl rfl rfl ?_
      refine D.done [(0, [], _), (1, [], _), (2, [], _), (3, [], _), (19, [], _), (21, [], _), (96, [], _), (97, [], _), (98, [], _)] ⟨rfl, rfl, rfl, rfl, rfl, rfl, rfl, rfl, rfl, trivial⟩ (hR _ _ _ rfl ?_); clear hR R
      refine G.region rfl (fun R hR => ?_)
      iterate 2 refine D.pure rfl rfl rfl rfl rfl rfl ?_
      refine D.done [(0, [], _), (1, [], _), (2, [], _), (3, [], _), (19, [], _), (21, [], _), (22, [], _), (96, [], _), (97, [], _), (98, [], _)] ⟨rfl, rfl, rfl, rfl, rfl, rfl, rfl, rfl, rfl, rfl, trivial⟩ (hR _ _ _ rfl ?_); clear hR R
      refine G.region rfl (fun R hR => ?_)
      iterate 2 refine D.pure rfl rfl rfl rfl rfl rfl ?_
      refine D.done [(0, [], _), (1, [], _), (2, [], _), (3, [], _), (19, [], _), (21, [], _), (22, [], _), (96, [], _), (97, [], _), (98, [], _), (104, [], _)] ⟨rfl, rfl, rfl, rfl, rfl, rfl, rfl, rfl, rfl, rfl, rfl, trivial⟩ (hR _ _ _ rfl ?_); clear hR R
      refine G.cut (fun fr C' L' μ => (True) ∧ fr = [(0, [], .slice A l.length c), (1, [], strV s), (2, [], strV t), (3, [], .int .i64 n), (19, [], w), (21, [], .slice Ax x.length cx1), (22, [], strV at_), (96, [], .slice A9 O.length c9), (97, [], .int .i64 O.length), (98, [], .int .i64 j)] ∧ L' = [.arr w 31 1 ov2.length ov2]) ?_ (fun fr C104 L104 μ hle104 hI => ?_)
      · skip
        refine G.cond rfl (fun h104 => ?_) (fun h104 => ?_)
        · skip
          have h37' : 0 < n := by simpa using h104
          obtain ⟨z, hz⟩ : ∃ z, x[x.length - 1]? = some z := ⟨x[x.length - 1]'(by omega), List.getElem?_eq_getElem (by omega)⟩
          have hez := endL_last (l := l) (s := s) (by omega) hz
          have hzl := hxl z (List.mem_of_getElem? hz)
          obtain ⟨y, hy⟩ : ∃ y, l[z]? = some y := ⟨l[z], List.getElem?_eq_getElem hzl⟩
          have hry : (l.map Rel.enc)[z]? = some y.enc := by rw [List.getElem?_map, hy]; rfl
          have hyu : at_ = y.upper := by rw [← hat, hez]; unfold upOf; rw [hy]
          have hrz : (x.map encN)[n - 1]? = some (encN z) := by rw [List.getElem?_map, ← hxn, hz]; rfl
          refine G.region rfl (fun R hR => ?_)
          iterate 3 refine D.pure rfl rfl rfl rfl rfl rfl ?_
          refine D.i64 (((n - 1 : Nat) : Int)) rfl rfl rfl rfl (by omega) (by omega) (by omega) rfl rfl ?_
          refine D.index0 (hsx.mono (by (repeat (first | exact Mem.le.refl _ | assumption | (apply Mem.le.trans; rotate_left; assumption))))) rfl rfl rfl rfl rfl rfl rfl rfl rfl rfl (by omega) hrz (fun _ => rfl) (fun p109 hp109 => ?_)
          refine D.loadP0 hp109 rfl rfl rfl rfl rfl rfl rfl rfl ?_
          refine D.index0 (hv.mono (by (repeat (first | exact Mem.le.refl _ | assumption | (apply Mem.le.trans; rotate_left; assumption))))) rfl rfl rfl rfl rfl rfl rfl rfl rfl rfl (by omega) hry (fun _ => rfl) (fun p111 hp111 => ?_)
          refine D.fieldP0 hp111 rfl rfl rfl rfl rfl rfl rfl rfl rfl rfl (fun _ => rfl) (fun p112 hp112 => ?_)
          refine D.loadP0 hp112 rfl rfl rfl rfl rfl rfl rfl rfl ?_
          refine D.pure rfl rfl rfl rfl rfl rfl ?_
          refine D.done [(0, [], _), (1, [], _), (2, [], _), (3, [], _), (19, [], _), (21, [], _), (22, [], _), (96, [], _), (97, [], _), (98, [], _)] ⟨rfl, rfl, rfl, rfl, rfl, rfl, rfl, rfl, rfl, rfl, trivial⟩ (hR _ _ _ rfl ?_); clear hR R
          rw [hyu]
          refine G.meet 0 (by (repeat (first | exact Mem.le.refl _ | assumption | (apply Mem.le.trans; rotate_left; assumption)))) (fr' := [(0, [], _), (1, [], _), (2, [], _), (3, [], _), (19, [], _), (21, [], _), (22, [], _), (96, [], _), (97, [], _), (98, [], _)]) ⟨rfl, rfl, rfl, rfl, rfl, rfl, rfl, rfl, rfl, rfl, trivial⟩ ⟨trivial, rfl, rfl⟩
        · skip
          have h37' : n = 0 := by
            have : ¬ 0 < n := by simpa using h104
            omega
          have hxe : x = [] := List.eq_nil_of_length_eq_zero (by omega)
          have hats : at_ = s := by rw [← hat, hxe]; rfl
          rw [hats]
          refine G.meet 0 (by (repeat (first | exact Mem.le.refl _ | assumption | (apply Mem.le.trans; rotate_left; assumption)))) (fr' := [(0, [], _), (1, [], _), (2, [], _), (3, [], _), (19, [], _), (21, [], _), (22, [], _), (96, [], _), (97, [], _), (98, [], _)]) ⟨rfl, rfl, rfl, rfl, rfl, rfl, rfl, rfl, rfl, rfl, trivial⟩ ⟨trivial, rfl, rfl⟩
      · skip
        obtain ⟨_, rfl, rfl⟩ := hI
        refine G.region rfl (fun R hR => ?_)
        iterate 3 refine D.pure rfl rfl rfl rfl rfl rfl ?_
        refine D.done [(0, [], _), (1, [], _), (2, [], _), (3, [], _), (19, [], _), (21, [], _), (96, [], _), (97, [], _), (98, [], _), (116, [], _)] ⟨rfl, rfl, rfl, rfl, rfl, rfl, rfl, rfl, rfl, rfl, trivial⟩ (hR _ _ _ rfl ?_); clear hR R
        refine G.cond rfl (fun h116 => ?_) (fun h116 => ?_)
        · skip
          have h116' : at_ = t := by simpa using h116
          refine G.region rfl (fun R hR => ?_)
          iterate 2 refine D.pure rfl rfl rfl rfl rfl rfl ?_
          refine D.buildSlice [[.slice Ax x.length cx1]] rfl rfl rfl rfl rfl rfl rfl rfl rfl rfl rfl rfl (fun _ => rfl) (fun p119 C119 hle119 hs119 => ?_)
          refine D.append (j := 0) rfl rfl rfl rfl rfl rfl rfl rfl rfl rfl rfl hs119 rfl (by simp only [List.length_singleton, maxLen]; omega) (by simp only [List.length_singleton]; omega) (fun _ => rfl) (fun v120 => ?_)
          refine D.pure rfl rfl rfl rfl rfl rfl ?_
          refine D.done [(0, [], _), (1, [], _), (2, [], _), (3, [], _), (19, [], _), (96, [], _), (97, [], _), (98, [], _)] ⟨rfl, rfl, rfl, rfl, rfl, rfl, rfl, rfl, trivial⟩ (hR _ _ _ rfl ?_); clear hR R
          refine G.region rfl (fun R hR => ?_)
          refine D.i64 _ rfl rfl rfl rfl rfl (by omega) (by omega) rfl rfl ?_
          refine D.pure rfl rfl rfl rfl rfl rfl ?_
          refine D.done [(0, [], _), (1, [], _), (2, [], _), (3, [], _), (19, [], _), (96, [], _), (97, [], _), (98, [], _)] ⟨rfl, rfl, rfl, rfl, rfl, rfl, rfl, rfl, trivial⟩ (hR _ _ _ rfl ?_); clear hR R
          refine G.eqL (L' := [.arr v120 31 1 (ov2 ++ [Value.slice Ax x.length cx1]).length (ov2 ++ [Value.slice Ax x.length cx1])]) (by simp) ?_
          refine G.again (m' := O.length - (j + 1)) (by omega) (by (repeat (first | exact Mem.le.refl _ | assumption | (apply Mem.le.trans; rotate_left; assumption)))) (fr' := [(0, [], _), (1, [], _), (2, [], _), (3, [], _), (19, [], _), (96, [], _), (97, [], _), (98, [], _)]) ⟨rfl, rfl, rfl, rfl, rfl, rfl, rfl, rfl, trivial⟩ ⟨j + 1, v120, ov2 ++ [Value.slice Ax x.length cx1], ⟨by omega, by rw [htf, if_pos (by rw [hat, h116']; simp)]; exact (hov2.mono (by (repeat (first | exact Mem.le.refl _ | assumption | (apply Mem.le.trans; rotate_left; assumption))))).snoc (hsx.mono (by (repeat (first | exact Mem.le.refl _ | assumption | (apply Mem.le.trans; rotate_left; assumption)))))⟩, rfl, rfl, rfl⟩
        · skip
          have h116' : ¬ at_ = t := by simpa using h116
          refine G.region rfl (fun R hR => ?_)
          refine D.i64 _ rfl rfl rfl rfl rfl (by omega) (by omega) rfl rfl ?_
          refine D.pure rfl rfl rfl rfl rfl rfl ?_
          refine D.done [(0, [], _), (1, [], _), (2, [], _), (3, [], _), (19, [], _), (96, [], _), (97, [], _), (98, [], _)] ⟨rfl, rfl, rfl, rfl, rfl, rfl, rfl, rfl, trivial⟩ (hR _ _ _ rfl ?_); clear hR R
          refine G.again (m' := O.length - (j + 1)) (by omega) (by (repeat (first | exact Mem.le.refl _ | assumption | (apply Mem.le.trans; rotate_left; assumption)))) (fr' := [(0, [], _), (1, [], _), (2, [], _), (3, [], _), (19, [], _), (96, [], _), (97, [], _), (98, [], _)]) ⟨rfl, rfl, rfl, rfl, rfl, rfl, rfl, rfl, trivial⟩ ⟨j + 1, w, ov2, ⟨by omega, by rw [htf, if_neg (by rw [hat]; simpa using h116'), List.append_nil]; exact hov2.mono (by (repeat (first | exact Mem.le.refl _ | assumption | (apply Mem.le.trans; rotate_left; assumption))))⟩, rfl, rfl, rfl⟩
    · skip
      have hjl : j = O.length := by
        have : ¬ j < O.length := by simpa using h99
        omega
      subst hjl
      rw [List.take_length] at hov2
      refine G.region rfl (fun R hR => ?_)
      iterate 2 refine D.pure rfl rfl rfl rfl rfl rfl ?_
      refine D.done [(8, [], _)] ⟨rfl, trivial⟩ (hR _ _ _ rfl ?_); clear hR R
      refine G.freezeArr 0 (ov2.map fun x => [x]) rfl row1.symm (by intro r hr; obtain ⟨y, _, rfl⟩ := List.mem_map.1 hr; rfl) (by simp) (fun Cm hlem hsm => ?_)
      refine G.retN (G.dropAll (G.fin1 rfl rfl ?_))
      exact ⟨rfl, ov2, hsm, by unfold pathsL; rw [hO]; exact hov2.mono hlem⟩
end Go.Proofs.YtcghlfepfcagbaaGreat
