/- Laws that the proofs of this seat share, part 8. -/
import Derived.Test.YtcghlfepfcagbaaG7
import Derived.Test.YtcghlfepfcagbaaShelf
import Derived.Shelf.Slices.Delete
import Derived.Laws.Bits64b
import Derived.Laws.IdiomRangeMap
import Derived.Test.YtcghlfepfcagbaaRows
import Derived.Lib.LaidTab
import Derived.Carry
import Derived.Deep.Strs
namespace Go.Proofs.Ytcghlfepfcagbaa
open Go Go.Jog
set_option maxRecDepth 100000

/-! ### Plain: the first smallest cycle, by the law's list -/
theorem short_ex (l : List Rel) : ∃ m, Short l m l.length := by
  by_cases h : ∃ k, ∃ a ∈ arcsOf l, Walk (arcsOf l) k a.up a.lo
  · obtain ⟨m, ⟨a, h1, h2⟩, hmin⟩ := leastN (p := fun k => ∃ a ∈ arcsOf l, Walk (arcsOf l) k a.up a.lo) h
    exact ⟨m + 1, .inr ⟨by omega, ⟨a, h1, arc_lt h1, by simpa using h2⟩, fun b hb _ j hw => by have := hmin j ⟨b, hb, hw⟩; omega⟩⟩
  · exact ⟨0, .inl ⟨rfl, fun a ha _ j hw => h ⟨j, a, ha, hw⟩⟩⟩
theorem cycAll_zero (l : List Rel) : cycAll l 0 = [] := by
  refine cat_nil (fun i _ => ?_)
  unfold cycAt
  rw [if_neg]
  unfold rootB
  split
  · simp only [Bool.and_eq_true, decide_eq_true_eq]
    rintro ⟨⟨_, h1⟩, h2⟩
    omega
  · simp
theorem short_back {l : List Rel} {m : Nat} (hs : Short l m l.length) : 0 < m ↔ Back (arcsOf l) := by
  constructor
  · intro hm
    rcases hs with ⟨h, _⟩ | ⟨_, ⟨a, h1, _, h2⟩, _⟩
    · omega
    · exact ⟨m, a.lo, hm, by rw [show m = (m - 1) + 1 by omega]; exact Walk.succ.2 ⟨a, h1, rfl, h2⟩⟩
  · rintro ⟨k, w, hk, hw⟩
    obtain ⟨j, rfl⟩ : ∃ j, k = j + 1 := ⟨k - 1, by omega⟩
    obtain ⟨a, ha, hl, hw2⟩ := Walk.succ.1 hw
    subst hl
    rcases hs with ⟨_, h⟩ | ⟨h, _⟩
    · exact absurd hw2 (h a ha (arc_lt ha) j)
    · exact h
theorem cycAll_mem {l : List Rel} {m : Nat} (hs : Short l m l.length) (hm : 0 < m) {c : List Nat} : c ∈ cycAll l m ↔ ∃ p, Cyc (arcsOf l) p ∧ p.length = m ∧ nums p = c := by
  have hmin : ∀ a ∈ arcsOf l, ∀ j, Walk (arcsOf l) j a.up a.lo → m ≤ j + 1 := fun a ha j hw => by
    rcases hs with ⟨h3, _⟩ | ⟨_, _, h3⟩
    · omega
    · exact h3 a ha (arc_lt ha) j hw
  have e1 : cycAll l m = cat (cycW l m) l.length := cat_congr (fun i _ => cycAt_eq hm hmin)
  rw [e1]; exact mem_cycW hm
theorem cycL_ne {l : List Rel} (hl : l.length ≤ 100000) : cycL l ≠ [] ↔ Back (arcsOf l) := by
  obtain ⟨m, hs⟩ := short_ex l
  rw [cycL_eq hl hs, ← short_back hs]
  constructor
  · intro h
    rcases Nat.eq_zero_or_pos m with rfl | hm
    · exact absurd (cycAll_zero l) h
    · exact hm
  · intro hm e
    obtain ⟨p, h1, h2⟩ := short_cyc hl hs hm
    have := (cycAll_mem hs hm).2 ⟨p, h1, h2, rfl⟩
    rw [e] at this; cases this
def cyc0 (l : List Rel) : List Nat := (cycL l).headD []
theorem cyc0_least {l : List Rel} {q : List Arc3} (hl : l.length ≤ 100000) (hq : LeastCyc (arcsOf l) q) : cyc0 l = nums q := by
  obtain ⟨m, hs⟩ := short_ex l
  obtain ⟨r, hr⟩ := cyc_head hl hs hq
  unfold cyc0
  rw [cycL_eq hl hs, hr]; rfl
theorem cyc0_nil {l : List Rel} (hl : l.length ≤ 100000) (h : ¬ Back (arcsOf l)) : cyc0 l = [] := by
  have : cycL l = [] := Classical.not_not.1 (fun h2 => h ((cycL_ne hl).1 h2))
  unfold cyc0; rw [this]; rfl
theorem nums_lt {l : List Rel} {p : List Arc3} (h : In (arcsOf l) p) : ∀ k ∈ nums p, k < l.length := fun k hk => by
  obtain ⟨a, ha, rfl⟩ := List.mem_map.1 hk
  exact arc_lt (h a ha)
theorem cyc0_in {l : List Rel} (hl : l.length ≤ 100000) : (∀ k ∈ cyc0 l, k < l.length) ∧ (cyc0 l).length ≤ l.length := by
  by_cases hb : Back (arcsOf l)
  · obtain ⟨m, hs⟩ := short_ex l
    have hm := (short_back hs).2 hb
    have hne := (cycL_ne hl).2 hb
    rw [cycL_eq hl hs] at hne
    unfold cyc0
    rw [cycL_eq hl hs]
    cases hc : cycAll l m with
    | nil => exact absurd hc hne
    | cons c r =>
      obtain ⟨p, h1, h2, h3⟩ := (cycAll_mem hs hm (c := c)).1 (by rw [hc]; simp)
      obtain ⟨a, q, rfl, hi, hch, hlt⟩ := id h1
      simp only [List.headD_cons]
      refine ⟨by rw [← h3]; exact nums_lt hi, ?_⟩
      have hmin : ∀ k w, 0 < k → Walk (arcsOf l) k w w → (a :: q).length ≤ k := fun k w hk hw => by
        rw [h2]
        obtain ⟨j, rfl⟩ : ∃ j, k = j + 1 := ⟨k - 1, by omega⟩
        obtain ⟨b, hb2, hbl, hw2⟩ := Walk.succ.1 hw
        subst hbl
        rcases hs with ⟨h3, _⟩ | ⟨_, _, h3⟩
        · omega
        · exact h3 b hb2 (arc_lt hb2) j hw2
      have hn := short_nodup hi hch hmin
      have hn2 : (nums (a :: q)).Nodup := by
        have hp : (a :: q).Nodup := List.Pairwise.of_map (·.lo) (fun x y h e => h (congrArg (·.lo) e)) hn
        refine List.Pairwise.map _ (fun x y h => h) ?_
        rw [List.pairwise_iff_getElem]
        intro i j hi' hj' hij e
        have := (gok_of hl).ix.inj _ (hi _ (List.getElem_mem hi')) _ (hi _ (List.getElem_mem hj')) e
        have := (List.getElem_inj hp).1 this
        omega
      rw [← h3]
      have := List.Nodup.length_le_of_subset hn2 (l₂ := List.range l.length) (fun k hk => List.mem_range.2 (nums_lt hi k hk))
      simpa using this
  · rw [cyc0_nil hl hb]
    exact ⟨fun k hk => (by cases hk), Nat.zero_le _⟩

/-! ### Lists that are right -/
theorem errs_all {l : List Rel} (h : errs l = 0) : ∀ x ∈ l, errOf x = 0 := by
  induction l with
  | nil => intro x hx; cases hx
  | cons y l ih =>
    simp only [errs] at h
    split at h
    · rename_i h1
      intro x hx
      rcases List.mem_cons.1 hx with rfl | hx
      · exact h1
      · exact ih h x hx
    · rename_i h1; exact absurd h h1
theorem errU_sub {l m : List Rel} (h : errU l = 0) (hm : m.length ≤ l.length) (hs : ∀ x ∈ m, x ∈ l) : errU m = 0 := by
  have h1 := errU_len h
  have h2 := errU_names h
  have h3 : errs l = 0 := by
    unfold errU at h
    rw [if_neg (by omega)] at h
    split at h
    · rename_i h4; exact absurd h h4
    · rename_i h4; exact Classical.not_not.1 h4
  have h4 : (unitsL m).length ≤ (unitsL l).length := List.Nodup.length_le_of_subset (unitsL_nodup m) (fun s hs2 => by
    rw [unitsL, mem_setL, mem_namesOf] at hs2 ⊢
    obtain ⟨x, hx, hs3⟩ := hs2
    exact ⟨x, hs x hx, hs3⟩)
  unfold errU
  rw [if_neg (by omega), if_neg (by rw [errs_zero (fun x hx => errs_all h3 x (hs x hx))]; simp), if_neg (by omega)]
theorem woL_len (l : List Rel) (st : List Nat) : (woL l st).length ≤ l.length := woAt_len l st l.length
theorem cyc_ok {C : Mem} {l : List Rel} {r : Value} (hE : errU l = 0) (h : CycRes C l r) : ∃ A c f, r = .tuple #[.slice A (cyc0 l).length c, .bool f, .int .i64 0] ∧ Sl C 1 (.slice A (cyc0 l).length c) ((cyc0 l).map encN) ∧ (f = true ↔ cycL l ≠ []) := by
  have hl : l.length ≤ 100000 := by have := errU_len hE; omega
  rcases h with ⟨h, _⟩ | ⟨_, h, rfl⟩ | ⟨_, q, v, h1, rfl, h3⟩
  · exact absurd hE h
  · have hb : ¬ Back (arcsOf l) := fun ⟨k, w, h1, h2⟩ => h k w h1 h2
    rw [cyc0_nil hl hb]
    exact ⟨none, 0, false, rfl, Sl.nilS _ _, by rw [cycL_ne hl]; exact ⟨fun h => (by cases h), fun h => absurd h hb⟩⟩
  · rw [cyc0_least hl h1]
    obtain ⟨A, c, rfl, _⟩ := id h3
    obtain ⟨u, h4, h5⟩ := h1.1.walk
    have e : ((nums q).map encN).length = (nums q).length := by simp
    rw [e] at h3 ⊢
    exact ⟨A, c, true, rfl, h3, by rw [cycL_ne hl]; exact ⟨fun _ => ⟨_, u, h4, h5⟩, fun _ => rfl⟩⟩

/-! ### The sets -/
def leftI (gone : List Nat) (n : Nat) : List Nat := idxs (fun i => decide (i ∉ gone)) n
theorem left_len (l : List Rel) (gone : List Nat) : (leftI gone l.length).length = (woL l gone).length := by
  have : ∀ n, n ≤ l.length → (leftI gone n).length = (cat (woAt l gone) n).length := by
    intro n
    induction n with
    | zero => intro _; rfl
    | succ n ih =>
      intro h
      unfold leftI at ih ⊢
      rw [cat_succ, List.length_append, ← ih (by omega)]
      unfold woAt
      rw [List.getElem?_eq_getElem (by omega)]
      dsimp only
      by_cases hm : n ∈ gone
      · rw [idxs_false (by simp [hm]), oneIf_false (by simp [hm])]; rfl
      · rw [idxs_true (by simp [hm]), oneIf_true (by simp [hm]), List.length_append]; rfl
  exact this l.length (Nat.le_refl _)
def setsF (l : List Rel) : Nat → List Nat → List (List Nat)
  | 0, g => if cycL (woL l g) = [] then [sortN g] else []
  | m + 1, g => if cycL (woL l g) = [] then [sortN g] else (cyc0 (woL l g)).flatMap fun k => setsF l m (g ++ [(leftI g l.length).getD k 0])
theorem setsF_len (l : List Rel) (hl : l.length ≤ 200) : ∀ (m : Nat) (g : List Nat), (setsF l m g).length ≤ 200 ^ m
  | 0, g => by
    simp only [setsF]
    split <;> simp
  | m + 1, g => by
    simp only [setsF]
    split
    · exact Nat.pow_pos (by decide)
    · have h1 := (cyc0_in (l := woL l g) (by have := woL_len l g; omega)).2
      have h2 := woL_len l g
      generalize cyc0 (woL l g) = ks at h1
      have : ∀ (ks : List Nat), (ks.flatMap fun k => setsF l m (g ++ [(leftI g l.length).getD k 0])).length ≤ ks.length * 200 ^ m := by
        intro ks
        induction ks with
        | nil => simp
        | cons k ks ih =>
          have := setsF_len l hl m (g ++ [(leftI g l.length).getD k 0])
          rw [List.flatMap_cons, List.length_append, List.length_cons, Nat.add_mul]; omega
      refine Nat.le_trans (this ks) ?_
      rw [Nat.pow_succ, Nat.mul_comm]
      exact Nat.mul_le_mul_left _ (by omega)
theorem setsF_small (l : List Rel) : ∀ (m : Nat) (g : List Nat), ∀ s ∈ setsF l m g, s.length ≤ g.length + m
  | 0, g, s, h => by
    simp only [setsF] at h
    split at h
    · rw [List.mem_singleton.1 h]; simp [sortN]
    · cases h
  | m + 1, g, s, h => by
    simp only [setsF] at h
    split at h
    · rw [List.mem_singleton.1 h]; simp [sortN]
    · obtain ⟨k, _, h⟩ := List.mem_flatMap.1 h
      have := setsF_small l m _ s h
      simp at this; omega

theorem clone_g (C : Mem) (v : Value) (c : List Nat) (hv : Sl C 1 v (c.map encN)) (hl : c.length ≤ 2000000) :
    Jog.Fn cx.P 15 [v] C [] fun u C' L' => L' = [.arr u 3 1 c.length (c.map intN)] := by
  obtain ⟨A, cp, rfl, hlc, hcm, _, hcells⟩ := id hv
  simp only [List.length_map] at hv hlc ⊢
  refine Fn.intro (by kernel_rfl) Try.func15 rfl 8 rfl rfl (fun w0 => ?_)
  refine G.region rfl (fun R hR => ?_)
  refine D.pure rfl rfl rfl rfl rfl rfl ?_
  refine D.done [(0, [], _)] ⟨rfl, trivial⟩ (hR _ _ _ rfl ?_); clear hR R
  refine G.region rfl (fun R hR => ?_)
  refine D.pure rfl rfl rfl rfl rfl rfl ?_
  refine D.nilEq rfl rfl rfl rfl rfl rfl rfl rfl rfl ?_
  refine D.done [(0, [], _), (4, [], _)] ⟨rfl, rfl, trivial⟩ (hR _ _ _ rfl ?_); clear hR R
  refine G.cond rfl (fun h4 => ?_) (fun h4 => ?_)
  · skip
    have hc0 : c = [] := by
      rcases Nat.eq_zero_or_pos c.length with h | h
      · exact List.eq_nil_of_length_eq_zero h
      · exfalso
        obtain ⟨a, ha, _⟩ := hcells 0 (encN (hAt c 0)) (by rw [List.getElem?_map, get_hAt h]; rfl)
        subst ha
        simp at h4
    subst hc0
    refine G.region rfl (fun R hR => ?_)
    refine D.pure rfl rfl rfl rfl rfl rfl ?_
    refine D.done [(2, [], _)] ⟨rfl, trivial⟩ (hR _ _ _ rfl ?_); clear hR R
    refine G.nilArr 3 1 ?_
    refine G.retN (G.fin1 rfl rfl ?_)
    rfl
  · skip
    refine G.region rfl (fun R hR => ?_)
    refine D.buildArr [] rfl rfl rfl rfl rfl rfl rfl rfl rfl rfl rfl rfl (fun _ => rfl) (fun b5 => ?_)
    refine D.pure rfl rfl rfl rfl rfl rfl ?_
    refine D.append (j := 0) rfl rfl rfl rfl rfl rfl rfl rfl rfl rfl rfl hv (nat_oneB c) (by simp only [List.length_nil, List.length_map, maxLen]; omega) (by simp only [List.length_nil, List.length_map]; omega) (fun _ => rfl) (fun v7 => ?_)
    refine D.pure rfl rfl rfl rfl rfl rfl ?_
    refine D.done [(2, [], _)] ⟨rfl, trivial⟩ (hR _ _ _ rfl ?_); clear hR R
    refine G.retN (G.fin1 rfl rfl ?_)
    rw [← nats_flat]; simp

set_option maxHeartbeats 8000000 in
theorem sets_fn (l : List Rel) (hE : errU l = 0) (hsh : ∀ x ∈ l, x.short) : ∀ (m : Nat) (C : Mem) (v vg : Value) (gone : List Nat) (b : Nat) (w : Value) (ov : List Value) (outs : List (List Nat)),
    Sl C 3 v (l.map Rel.enc) → Sl C 1 vg (gone.map encN) → gone.length + m ≤ 10 → OutN C ov outs → outs.length + 200 ^ m ≤ 10000000000 →
    Jog.Fn cx.P 17 [v, vg, .int .i64 m, ptr b] C [nObj b w, nArr w ov] fun u C' L' =>
      ∃ w' ov', u = .tuple #[] ∧ L' = [nObj b w', nArr w' ov'] ∧ OutN C' ov' (outs ++ setsF l m gone) := by
  have hl200 := errU_len hE
  have hl5 : l.length ≤ 100000 := by omega
  intro m
  induction m using Nat.strongRecOn with
  | _ m ih =>
  intro C v vg gone b w ov outs hv hvg hgl hout hob
  obtain ⟨A, c, rfl, _⟩ := id hv
  obtain ⟨Ag, cg, rfl, _⟩ := id hvg
  simp only [List.length_map] at hv hvg ⊢
  have hwl := woL_len l gone
  have hEw : errU (woL l gone) = 0 := errU_sub hE hwl (fun x hx => mem_woL hx)
  have hshw : ∀ x ∈ woL l gone, x.short := fun x hx => hsh x (mem_woL hx)
  have hov := hout.1
  have hob0 : outs.length ≤ 10000000000 := Nat.le_trans (Nat.le_add_right _ _) hob
  obtain ⟨hcin, hcl⟩ := cyc0_in (l := woL l gone) (by omega)
  refine Fn.intro (by kernel_rfl) Try.func17 rfl 73 rfl rfl (fun w0 => ?_)
  refine G.eqL (L' := [.obj b (.cells ⟨[w]⟩ 27 (0, 0)), .arr w 36 1 ov.length ov]) rfl ?_
  refine G.region rfl (fun R hR => ?_)
  iterate 2 refine D.pure rfl rfl rfl rfl rfl rfl ?_
  refine D.callP (without_fn _ _ _ l gone (hv.mono (by (repeat (first | exact Mem.le.refl _ | assumption | (apply Mem.le.trans; rotate_left; assumption))))) hl5 (hvg.mono (by (repeat (first | exact Mem.le.refl _ | assumption | (apply Mem.le.trans; rotate_left; assumption))))) (by omega)) rfl rfl rfl rfl rfl rfl rfl (fun _ => rfl) (fun v18 C18 hle18 hq18 => ?_)
  refine D.pure rfl rfl rfl rfl rfl rfl ?_
  refine D.done [(0, [], _), (1, [], _), (2, [], _), (3, [], _), (8, [], _)] ⟨rfl, rfl, rfl, rfl, rfl, trivial⟩ (hR _ _ _ rfl ?_); clear hR R
  refine G.region rfl (fun R hR => ?_)
  refine D.pure rfl rfl rfl rfl rfl rfl ?_
  refine D.callP (cycle_fn _ _ (woL l gone) hq18 (by omega) hshw) rfl rfl rfl rfl rfl rfl rfl (fun _ => rfl) (fun v21 C21 hle21 hq21 => ?_)
  obtain ⟨Ac, cc, fc, rfl, hcs, hfc⟩ := cyc_ok hEw hq21
  iterate 7 refine D.pure rfl rfl rfl rfl rfl rfl ?_
  refine D.done [(0, [], _), (1, [], _), (2, [], _), (3, [], _), (9, [], _), (10, [], _)] ⟨rfl, rfl, rfl, rfl, rfl, rfl, trivial⟩ (hR _ _ _ rfl ?_); clear hR R
  refine G.region rfl (fun R hR => ?_)
  iterate 2 refine D.pure rfl rfl rfl rfl rfl rfl ?_
  refine D.done [(0, [], _), (1, [], _), (2, [], _), (3, [], _), (9, [], _), (26, [], _)] ⟨rfl, rfl, rfl, rfl, rfl, rfl, trivial⟩ (hR _ _ _ rfl ?_); clear hR R
  refine G.cond rfl (fun h26 => ?_) (fun h26 => ?_)
  · skip
    have h26' : cycL (woL l gone) = [] := by
      have : fc = false := by simpa using h26
      exact Classical.not_not.1 (fun h => by rw [hfc.2 h] at this; cases this)
    have hsf : setsF l m gone = [sortN gone] := by cases m <;> simp only [setsF, if_pos h26']
    refine G.draw [0, 1, 2, 3, 4, 5, 6, 7, 8, 9, 10] [] rfl (by kernel_rfl) (fun R hB hR => ?_)
    iterate 3 refine D.pure rfl rfl rfl rfl rfl rfl ?_
    refine D.loadL (.head _) rfl rfl rfl rfl rfl rfl rfl rfl rfl ?_
    refine D.pure rfl rfl rfl rfl rfl rfl ?_
    refine D.callP (values_fn _ _ _ _) rfl rfl rfl rfl rfl rfl rfl (fun _ => rfl) (fun v32 C32 hle32 hq32 => ?_)
    obtain ⟨bv, rfl, hbv⟩ := hq32
    refine D.callP (sorted_fn _ bv _ gone (Mem.get hbv (by (repeat (first | exact Mem.le.refl _ | assumption | (apply Mem.le.trans; rotate_left; assumption))))) (hvg.mono (by (repeat (first | exact Mem.le.refl _ | assumption | (apply Mem.le.trans; rotate_left; assumption))))) (by omega)) rfl rfl rfl rfl rfl rfl rfl (fun _ => rfl) (fun v33 C33 hle33 hq33 => ?_)
    obtain ⟨As, cs, rfl, _⟩ := id hq33
    refine D.buildSlice [[.slice As ((sortN gone).map encN).length cs]] rfl rfl rfl rfl rfl rfl rfl rfl rfl rfl rfl rfl (fun _ => rfl) (fun p34 C34 hle34 hs34 => ?_)
    refine D.appendF (j := 1) rfl rfl rfl rfl rfl rfl rfl rfl rfl rfl rfl hs34 rfl (by simp only [List.length_singleton, maxLen]; omega) (by simp only [List.length_singleton]; omega) (fun _ => rfl) (fun A35 n35 c35 => ?_)
    refine D.pure rfl rfl rfl rfl rfl rfl ?_
    refine D.store (j := 1) rfl rfl rfl rfl rfl rfl rfl rfl rfl rfl rfl rfl ?_
    refine D.done [] trivial (hR _ _ _ rfl ?_); clear hR hB R
    refine G.eqL (L' := [nObj b (.slice A35 n35 c35), nArr (.slice A35 n35 c35) (ov ++ [Value.slice As ((sortN gone).map encN).length cs])]) (by simp; rfl) ?_
    refine G.retN (G.fin0 rfl  ?_)
    exact ⟨_, _, rfl, rfl, by rw [hsf]; exact (hout.mono (by (repeat (first | exact Mem.le.refl _ | assumption | (apply Mem.le.trans; rotate_left; assumption))))).snoc (hq33.mono (by (repeat (first | exact Mem.le.refl _ | assumption | (apply Mem.le.trans; rotate_left; assumption)))))⟩
  · skip
    have h26' : ¬ cycL (woL l gone) = [] := by
      have : fc = true := by simpa using h26
      exact hfc.1 this
    refine G.region rfl (fun R hR => ?_)
    iterate 2 refine D.pure rfl rfl rfl rfl rfl rfl ?_
    refine D.done [(0, [], _), (1, [], _), (2, [], _), (3, [], _), (9, [], _), (38, [], _)] ⟨rfl, rfl, rfl, rfl, rfl, rfl, trivial⟩ (hR _ _ _ rfl ?_); clear hR R
    refine G.cond rfl (fun h38 => ?_) (fun h38 => ?_)
    · skip
      have h38' : m = 0 := by
        have : (m : Int) = 0 := by simpa using h38
        omega
      subst h38'
      refine G.retN (G.fin0 rfl  ?_)
      exact ⟨_, ov, rfl, rfl, by simp only [setsF, if_neg h26', List.append_nil]; exact hout.mono (by (repeat (first | exact Mem.le.refl _ | assumption | (apply Mem.le.trans; rotate_left; assumption))))⟩
    · skip
      have h38' : ¬ m = 0 := by
        have : ¬ (m : Int) = 0 := by simpa using h38
        omega
      obtain ⟨m, rfl⟩ : ∃ q, m = q + 1 := ⟨m - 1, by omega⟩
      have hm9 : m ≤ 9 := by omega
      have hpow : 200 ^ (m + 1) = 200 * 200 ^ m := by rw [Nat.pow_succ, Nat.mul_comm]
      obtain ⟨P, hP⟩ : ∃ P : Nat, 200 ^ m = P := ⟨_, rfl⟩
      rw [hP] at hpow
      refine G.region rfl (fun R hR => ?_)
      refine D.pure rfl rfl rfl rfl rfl rfl ?_
      refine D.done [(0, [], _), (1, [], _), (2, [], _), (3, [], _), (9, [], _), (12, [], _)] ⟨rfl, rfl, rfl, rfl, rfl, rfl, trivial⟩ (hR _ _ _ rfl ?_); clear hR R
      refine G.region rfl (fun R hR => ?_)
      iterate 3 refine D.pure rfl rfl rfl rfl rfl rfl ?_
      refine D.done [(0, [], _), (1, [], _), (2, [], _), (3, [], _), (9, [], _), (12, [], _), (40, [], _), (41, [], _)] ⟨rfl, rfl, rfl, rfl, rfl, rfl, rfl, rfl, trivial⟩ (hR _ _ _ rfl ?_); clear hR R
      refine G.nilArr 3 1 ?_
      refine G.loop (fun fr C' L' μ => ∃ (i : Nat) (w12 : Value), (i ≤ l.length) ∧ fr = [(0, [], .slice A l.length c), (1, [], .slice Ag gone.length cg), (2, [], .int .i64 ((m + 1 : Nat) : Int)), (3, [], .pointer (some ⟨b, 0, none⟩)), (9, [], .slice Ac (cyc0 (woL l gone)).length cc), (12, [], w12), (40, [], .int .i64 l.length), (41, [], .int .i64 i)] ∧ L' = [.arr w12 3 1 (leftI gone i).length ((leftI gone i).map intN), .obj b (.cells ⟨[w]⟩ 27 (0, 0)), .arr w 36 1 ov.length ov] ∧ μ = l.length - i) (fr' := [(0, [], _), (1, [], _), (2, [], _), (3, [], _), (9, [], _), (12, [], _), (40, [], _), (41, [], _)]) ⟨rfl, rfl, rfl, rfl, rfl, rfl, rfl, rfl, trivial⟩ ⟨0, _, Nat.zero_le _, rfl, rfl, rfl⟩ (fun fr C0' L0' m hle0 hI => ?_)
      obtain ⟨i, w12, hi, rfl, rfl, rfl⟩ := hI
      refine G.region rfl (fun R hR => ?_)
      refine D.pure rfl rfl rfl rfl rfl rfl ?_
      refine D.done [(0, [], _), (1, [], _), (2, [], _), (3, [], _), (9, [], _), (12, [], _), (40, [], _), (41, [], _), (42, [], _)] ⟨rfl, rfl, rfl, rfl, rfl, rfl, rfl, rfl, rfl, trivial⟩ (hR _ _ _ rfl ?_); clear hR R
      refine G.cond rfl (fun h42 => ?_) (fun h42 => ?_)
      · skip
        simp only [decide_eq_true_eq] at h42
        have hil : i < l.length := by omega
        have hlf := idxs_len (fun i => decide (i ∉ gone)) i
        refine G.region rfl (fun R hR => ?_)
        iterate 2 refine D.pure rfl rfl rfl rfl rfl rfl ?_
        refine D.done [(0, [], _), (1, [], _), (2, [], _), (3, [], _), (9, [], _), (12, [], _), (13, [], _), (40, [], _), (41, [], _)] ⟨rfl, rfl, rfl, rfl, rfl, rfl, rfl, rfl, rfl, trivial⟩ (hR _ _ _ rfl ?_); clear hR R
        refine G.region rfl (fun R hR => ?_)
        iterate 2 refine D.pure rfl rfl rfl rfl rfl rfl ?_
        refine D.gives2 (contains_fn _ _ gone i (hvg.mono (by (repeat (first | exact Mem.le.refl _ | assumption | (apply Mem.le.trans; rotate_left; assumption))))) (by omega)) rfl rfl rfl rfl rfl rfl rfl (fun _ => rfl) ?_
        refine D.pure rfl rfl rfl rfl rfl rfl ?_
        refine D.done [(0, [], _), (1, [], _), (2, [], _), (3, [], _), (9, [], _), (12, [], _), (13, [], _), (40, [], _), (41, [], _), (47, [], _)] ⟨rfl, rfl, rfl, rfl, rfl, rfl, rfl, rfl, rfl, rfl, trivial⟩ (hR _ _ _ rfl ?_); clear hR R
        refine G.cond rfl (fun h47 => ?_) (fun h47 => ?_)
        · skip
          have h47' : i ∉ gone := by simpa using h47
          refine G.region rfl (fun R hR => ?_)
          iterate 2 refine D.pure rfl rfl rfl rfl rfl rfl ?_
          refine D.buildSlice [encN i] rfl rfl rfl rfl rfl rfl rfl rfl rfl rfl rfl rfl (fun _ => rfl) (fun p50 C50 hle50 hs50 => ?_)
          refine D.append (j := 0) rfl rfl rfl rfl rfl rfl rfl rfl rfl rfl rfl hs50 rfl (by simp only [List.length_singleton, maxLen, leftI]; omega) (by simp only [List.length_singleton, leftI]; omega) (fun _ => rfl) (fun v51 => ?_)
          refine D.pure rfl rfl rfl rfl rfl rfl ?_
          refine D.done [(0, [], _), (1, [], _), (2, [], _), (3, [], _), (9, [], _), (12, [], _), (40, [], _), (41, [], _)] ⟨rfl, rfl, rfl, rfl, rfl, rfl, rfl, rfl, trivial⟩ (hR _ _ _ rfl ?_); clear hR R
          refine G.region rfl (fun R hR => ?_)
          refine D.i64 _ rfl rfl rfl rfl rfl (by omega) (by omega) rfl rfl ?_
          refine D.pure rfl rfl rfl rfl rfl rfl ?_
          refine D.done [(0, [], _), (1, [], _), (2, [], _), (3, [], _), (9, [], _), (12, [], _), (40, [], _), (41, [], _)] ⟨rfl, rfl, rfl, rfl, rfl, rfl, rfl, rfl, trivial⟩ (hR _ _ _ rfl ?_); clear hR R
          refine G.eqL (L' := [.arr v51 3 1 (leftI gone (i + 1)).length ((leftI gone (i + 1)).map intN), .obj b (.cells ⟨[w]⟩ 27 (0, 0)), .arr w 36 1 ov.length ov]) (by
            unfold leftI
            rw [idxs_true (by simp [h47'])]; simp [encN, intN]) ?_
          refine G.again (m' := l.length - (i + 1)) (by omega) (by (repeat (first | exact Mem.le.refl _ | assumption | (apply Mem.le.trans; rotate_left; assumption)))) (fr' := [(0, [], _), (1, [], _), (2, [], _), (3, [], _), (9, [], _), (12, [], _), (40, [], _), (41, [], _)]) ⟨rfl, rfl, rfl, rfl, rfl, rfl, rfl, rfl, trivial⟩ ⟨i + 1, v51, by omega, rfl, rfl, rfl⟩
        · skip
          have h47' : i ∈ gone := by simpa using h47
          refine G.region rfl (fun R hR => ?_)
          refine D.i64 _ rfl rfl rfl rfl rfl (by omega) (by omega) rfl rfl ?_
          refine D.pure rfl rfl rfl rfl rfl rfl ?_
          refine D.done [(0, [], _), (1, [], _), (2, [], _), (3, [], _), (9, [], _), (12, [], _), (40, [], _), (41, [], _)] ⟨rfl, rfl, rfl, rfl, rfl, rfl, rfl, rfl, trivial⟩ (hR _ _ _ rfl ?_); clear hR R
          refine G.eqL (L' := [.arr w12 3 1 (leftI gone (i + 1)).length ((leftI gone (i + 1)).map intN), .obj b (.cells ⟨[w]⟩ 27 (0, 0)), .arr w 36 1 ov.length ov]) (by
            unfold leftI
            rw [idxs_false (by simp [h47'])]) ?_
          refine G.again (m' := l.length - (i + 1)) (by omega) (by (repeat (first | exact Mem.le.refl _ | assumption | (apply Mem.le.trans; rotate_left; assumption)))) (fr' := [(0, [], _), (1, [], _), (2, [], _), (3, [], _), (9, [], _), (12, [], _), (40, [], _), (41, [], _)]) ⟨rfl, rfl, rfl, rfl, rfl, rfl, rfl, rfl, trivial⟩ ⟨i + 1, w12, by omega, rfl, rfl, rfl⟩
      · skip
        simp only [decide_eq_false_iff_not] at h42
        have hil : i = l.length := by omega
        subst hil
        refine G.freezeArr 0 ((leftI gone l.length).map encN) rfl (nats_flat _).symm (by intro r hr; obtain ⟨y, _, rfl⟩ := List.mem_map.1 hr; rfl) (by simp) (fun Cw hlew hws => ?_)
        obtain ⟨Aw, cw, hqe, _⟩ := id hws
        rw [List.length_map] at hqe
        subst hqe
        obtain ⟨FF, hFF⟩ : ∃ FF : Nat → List (List Nat), (fun k => setsF l m (gone ++ [(leftI gone l.length).getD k 0])) = FF := ⟨_, rfl⟩
        have hFl : ∀ k, (FF k).length ≤ P := fun k => by rw [← hFF, ← hP]; exact setsF_len l hl200 m _
        have hsf : setsF l (m + 1) gone = (cyc0 (woL l gone)).flatMap FF := by rw [← hFF]; simp only [setsF, if_neg h26']
        obtain ⟨cy, hcy⟩ : ∃ cy, cyc0 (woL l gone) = cy := ⟨_, rfl⟩
        rw [hcy] at hsf hcs hcin hcl ⊢
        have hcl2 : cy.length ≤ 200 := by omega
        refine G.region rfl (fun R hR => ?_)
        iterate 3 refine D.pure rfl rfl rfl rfl rfl rfl ?_
        refine D.done [(0, [], _), (1, [], _), (2, [], _), (3, [], _), (12, [], _), (53, [], _), (54, [], _), (55, [], _)] ⟨rfl, rfl, rfl, rfl, rfl, rfl, rfl, rfl, trivial⟩ (hR _ _ _ rfl ?_); clear hR R
        refine G.loop (fun fr C' L' μ => ∃ (j : Nat) (w : Value) (ov : List Value) (outs2 : List (List Nat)), (j ≤ cy.length ∧ OutN C' ov outs2 ∧ outs2 = outs ++ (cy.take j).flatMap FF ∧ outs2.length + (200 - j) * P ≤ 10000000000) ∧ fr = [(0, [], .slice A l.length c), (1, [], .slice Ag gone.length cg), (2, [], .int .i64 ((m + 1 : Nat) : Int)), (3, [], .pointer (some ⟨b, 0, none⟩)), (12, [], .slice Aw (leftI gone l.length).length cw), (53, [], .slice Ac cy.length cc), (54, [], .int .i64 cy.length), (55, [], .int .i64 j)] ∧ L' = [.obj b (.cells ⟨[w]⟩ 27 (0, 0)), .arr w 36 1 ov.length ov] ∧ μ = cy.length - j) (fr' := [(0, [], _), (1, [], _), (2, [], _), (3, [], _), (12, [], _), (53, [], _), (54, [], _), (55, [], _)]) ⟨rfl, rfl, rfl, rfl, rfl, rfl, rfl, rfl, trivial⟩ ⟨0, w, ov, outs, ⟨Nat.zero_le _, hout.mono (by (repeat (first | exact Mem.le.refl _ | assumption | (apply Mem.le.trans; rotate_left; assumption)))), by simp, by rw [hpow] at hob; simpa using hob⟩, rfl, rfl, rfl⟩ (fun fr C1' L1' m hle1 hI => ?_)
        obtain ⟨j, w, ov, outs2, ⟨hj, hout2, ho2, hob2⟩, rfl, rfl, rfl⟩ := hI
        refine G.region rfl (fun R hR => ?_)
        refine D.pure rfl rfl rfl rfl rfl rfl ?_
        refine D.done [(0, [], _), (1, [], _), (2, [], _), (3, [], _), (12, [], _), (53, [], _), (54, [], _), (55, [], _), (56, [], _)] ⟨rfl, rfl, rfl, rfl, rfl, rfl, rfl, rfl, rfl, trivial⟩ (hR _ _ _ rfl ?_); clear hR R
        refine G.cond rfl (fun h56 => ?_) (fun h56 => ?_)
        · skip
          simp only [decide_eq_true_eq] at h56
          have hjl : j < cy.length := by omega
          obtain ⟨k, hk⟩ : ∃ k, cy[j]? = some k := ⟨cy[j], List.getElem?_eq_getElem hjl⟩
          have hrk : (cy.map encN)[j]? = some (encN k) := by rw [List.getElem?_map, hk]; rfl
          have hkl := hcin k (List.mem_of_getElem? hk)
          rw [← left_len] at hkl
          obtain ⟨wk, hwk⟩ : ∃ wk, (leftI gone l.length)[k]? = some wk := ⟨(leftI gone l.length)[k], List.getElem?_eq_getElem hkl⟩
          have hrw : ((leftI gone l.length).map encN)[k]? = some (encN wk) := by rw [List.getElem?_map, hwk]; rfl
          have hgd : (leftI gone l.length).getD k 0 = wk := by rw [List.getD_eq_getElem?_getD, hwk]; rfl
          have hFk : FF k = setsF l m (gone ++ [wk]) := by rw [← hFF]; simp only; rw [hgd]
          have htk : (cy.take (j + 1)).flatMap FF = (cy.take j).flatMap FF ++ FF k := by rw [List.take_add_one, hk, List.flatMap_append]; simp
          have hmul : (200 - j) * P = (200 - (j + 1)) * P + P := by
            rw [show 200 - j = (200 - (j + 1)) + 1 by omega, Nat.add_mul, Nat.one_mul]
          refine G.region rfl (fun R hR => ?_)
          refine D.index0 (hcs.mono (by (repeat (first | exact Mem.le.refl _ | assumption | (apply Mem.le.trans; rotate_left; assumption))))) rfl rfl rfl rfl rfl rfl rfl rfl rfl rfl (by omega) hrk (fun _ => rfl) (fun p57 hp57 => ?_)
          refine D.loadP0 hp57 rfl rfl rfl rfl rfl rfl rfl rfl ?_
          refine D.pure rfl rfl rfl rfl rfl rfl ?_
          refine D.done [(0, [], _), (1, [], _), (2, [], _), (3, [], _), (12, [], _), (15, [], _), (53, [], _), (54, [], _), (55, [], _)] ⟨rfl, rfl, rfl, rfl, rfl, rfl, rfl, rfl, rfl, trivial⟩ (hR _ _ _ rfl ?_); clear hR R
          refine G.cut (fun fr C' L' μ => ∃ (w' : Value) (ov' : List Value), (OutN C' ov' (outs2 ++ setsF l m (gone ++ [wk]))) ∧ fr = [(0, [], .slice A l.length c), (1, [], .slice Ag gone.length cg), (2, [], .int .i64 ((m + 1 : Nat) : Int)), (3, [], .pointer (some ⟨b, 0, none⟩)), (12, [], .slice Aw (leftI gone l.length).length cw), (53, [], .slice Ac cy.length cc), (54, [], .int .i64 cy.length), (55, [], .int .i64 j)] ∧ L' = [.obj b (.cells ⟨[w']⟩ 27 (0, 0)), .arr w' 36 1 ov'.length ov']) ?_ (fun fr Cr15 Lr15 μ hler15 hI => ?_)
          · skip
            refine G.drawT (.cut [0, 1, 3, 4, 5, 9, 10, 11] (.alt 2 (.fin [6, 7, 8, 12]) (.alt 6 (.cut [] (.alt 2 (.fin [7, 8, 12]) (.alt 7 (.fin [2, 8, 12]) .stop))) .stop))) [(2, 3), (12, 3)] rfl rfl (by kernel_rfl) (fun R hB hR hH => ?_)
            iterate 4 refine D.pure rfl rfl rfl rfl rfl rfl ?_
            refine D.index0 (hws.mono (by (repeat (first | exact Mem.le.refl _ | assumption | (apply Mem.le.trans; rotate_left; assumption))))) rfl rfl rfl rfl rfl rfl rfl rfl rfl rfl (by omega) hrw (fun _ => rfl) (fun p64 hp64 => ?_)
            refine D.pure rfl rfl rfl rfl rfl rfl ?_
            refine D.i64 (((m : Nat) : Int)) rfl rfl rfl rfl (by omega) (by omega) (by omega) rfl rfl ?_
            refine D.pure rfl rfl rfl rfl rfl rfl ?_
            refine D.fork hH rfl ⟨?_, ?_, trivial⟩
            · skip
              refine D.call (clone_g _ _ gone (hvg.mono (by (repeat (first | exact Mem.le.refl _ | assumption | (apply Mem.le.trans; rotate_left; assumption))))) (by omega)) rfl (.inr (by decide)) rfl rfl rfl rfl rfl rfl (List.Perm.refl _) (fun _ => rfl) (fun v61 C61 L61 hle61 hq61 => ?_)
              first | refine D.loadP0 hp64 rfl rfl rfl rfl rfl rfl rfl rfl ?_ | refine D.loadP0 (hp64.mono (by (repeat (first | exact Mem.le.refl _ | assumption | (apply Mem.le.trans; rotate_left; assumption))))) rfl rfl rfl rfl rfl rfl rfl rfl ?_
              refine D.buildSlice [encN wk] rfl rfl rfl rfl rfl rfl rfl rfl rfl rfl rfl rfl (fun _ => rfl) (fun p66 C66 hle66 hs66 => ?_)
              subst hq61
              refine D.append (j := 0) rfl rfl rfl rfl rfl rfl rfl rfl rfl rfl rfl (hs66.mono (by (repeat (first | exact Mem.le.refl _ | assumption | (apply Mem.le.trans; rotate_left; assumption))))) rfl (by simp only [List.length_singleton, maxLen]; omega) (by simp only [List.length_singleton]; omega) (fun _ => rfl) (fun v67 => ?_)
              refine D.call (Fn.give (v := v67) (t := 3) (size := 1) (len := (gone ++ [wk]).length) ((gone ++ [wk]).map encN) (by kernel_rfl) (by intro r hr; obtain ⟨y, _, rfl⟩ := List.mem_map.1 hr; rfl) (by simp) (fun C' hle hs => ih m (by omega) C' _ v67 (gone ++ [wk]) b w ov outs2 (hv.mono (by (repeat (first | exact Mem.le.refl _ | assumption | (apply Mem.le.trans; rotate_left; assumption))))) hs (by simp; omega) (hout2.mono (by (repeat (first | exact Mem.le.refl _ | assumption | (apply Mem.le.trans; rotate_left; assumption))))) (by rw [hP]; omega))) rfl (.inr (by decide)) rfl rfl rfl rfl rfl rfl (List.Perm.of_eq (show _ = _ ++ ([] : List Ent) from by simp [encN, nats_flat])) (fun _ => rfl) (fun v71 C71 L71 hle71 hq71 => ?_)
              refine D.done [(0, [], _), (1, [], _), (2, [], _), (3, [], _), (12, [], _), (53, [], _), (54, [], _), (55, [], _)] ⟨rfl, rfl, rfl, rfl, rfl, rfl, rfl, rfl, trivial⟩ (hR _ _ _ rfl ?_); clear hR hB hH R
              obtain ⟨w', ov', rfl, rfl, hout'⟩ := hq71
              exact G.meet 0 (by (repeat (first | exact Mem.le.refl _ | assumption | (apply Mem.le.trans; rotate_left; assumption)))) (fr' := [(0, [], _), (1, [], _), (2, [], _), (3, [], _), (12, [], _), (53, [], _), (54, [], _), (55, [], _)]) ⟨rfl, rfl, rfl, rfl, rfl, rfl, rfl, rfl, trivial⟩ ⟨w', ov', hout', rfl, rfl⟩
            · skip
              first | refine D.loadP0 hp64 rfl rfl rfl rfl rfl rfl rfl rfl ?_ | refine D.loadP0 (hp64.mono (by (repeat (first | exact Mem.le.refl _ | assumption | (apply Mem.le.trans; rotate_left; assumption))))) rfl rfl rfl rfl rfl rfl rfl rfl ?_
              refine D.fork hH rfl ⟨?_, ?_, trivial⟩
              · skip
                refine D.call (clone_g _ _ gone (hvg.mono (by (repeat (first | exact Mem.le.refl _ | assumption | (apply Mem.le.trans; rotate_left; assumption))))) (by omega)) rfl (.inr (by decide)) rfl rfl rfl rfl rfl rfl (List.Perm.refl _) (fun _ => rfl) (fun v61 C61 L61 hle61 hq61 => ?_)
                refine D.buildSlice [encN wk] rfl rfl rfl rfl rfl rfl rfl rfl rfl rfl rfl rfl (fun _ => rfl) (fun p66 C66 hle66 hs66 => ?_)
                subst hq61
                refine D.append (j := 0) rfl rfl rfl rfl rfl rfl rfl rfl rfl rfl rfl (hs66.mono (by (repeat (first | exact Mem.le.refl _ | assumption | (apply Mem.le.trans; rotate_left; assumption))))) rfl (by simp only [List.length_singleton, maxLen]; omega) (by simp only [List.length_singleton]; omega) (fun _ => rfl) (fun v67 => ?_)
                refine D.call (Fn.give (v := v67) (t := 3) (size := 1) (len := (gone ++ [wk]).length) ((gone ++ [wk]).map encN) (by kernel_rfl) (by intro r hr; obtain ⟨y, _, rfl⟩ := List.mem_map.1 hr; rfl) (by simp) (fun C' hle hs => ih m (by omega) C' _ v67 (gone ++ [wk]) b w ov outs2 (hv.mono (by (repeat (first | exact Mem.le.refl _ | assumption | (apply Mem.le.trans; rotate_left; assumption))))) hs (by simp; omega) (hout2.mono (by (repeat (first | exact Mem.le.refl _ | assumption | (apply Mem.le.trans; rotate_left; assumption))))) (by rw [hP]; omega))) rfl (.inr (by decide)) rfl rfl rfl rfl rfl rfl (List.Perm.of_eq (show _ = _ ++ ([] : List Ent) from by simp [encN, nats_flat])) (fun _ => rfl) (fun v71 C71 L71 hle71 hq71 => ?_)
                refine D.done [(0, [], _), (1, [], _), (2, [], _), (3, [], _), (12, [], _), (53, [], _), (54, [], _), (55, [], _)] ⟨rfl, rfl, rfl, rfl, rfl, rfl, rfl, rfl, trivial⟩ (hR _ _ _ rfl ?_); clear hR hB hH R
                obtain ⟨w', ov', rfl, rfl, hout'⟩ := hq71
                exact G.meet 0 (by (repeat (first | exact Mem.le.refl _ | assumption | (apply Mem.le.trans; rotate_left; assumption)))) (fr' := [(0, [], _), (1, [], _), (2, [], _), (3, [], _), (12, [], _), (53, [], _), (54, [], _), (55, [], _)]) ⟨rfl, rfl, rfl, rfl, rfl, rfl, rfl, rfl, trivial⟩ ⟨w', ov', hout', rfl, rfl⟩
              · skip
                refine D.buildSlice [encN wk] rfl rfl rfl rfl rfl rfl rfl rfl rfl rfl rfl rfl (fun _ => rfl) (fun p66 C66 hle66 hs66 => ?_)
                refine D.call (clone_g _ _ gone (hvg.mono (by (repeat (first | exact Mem.le.refl _ | assumption | (apply Mem.le.trans; rotate_left; assumption))))) (by omega)) rfl (.inr (by decide)) rfl rfl rfl rfl rfl rfl (List.Perm.refl _) (fun _ => rfl) (fun v61 C61 L61 hle61 hq61 => ?_)
                subst hq61
                refine D.append (j := 0) rfl rfl rfl rfl rfl rfl rfl rfl rfl rfl rfl (hs66.mono (by (repeat (first | exact Mem.le.refl _ | assumption | (apply Mem.le.trans; rotate_left; assumption))))) rfl (by simp only [List.length_singleton, maxLen]; omega) (by simp only [List.length_singleton]; omega) (fun _ => rfl) (fun v67 => ?_)
                refine D.call (Fn.give (v := v67) (t := 3) (size := 1) (len := (gone ++ [wk]).length) ((gone ++ [wk]).map encN) (by kernel_rfl) (by intro r hr; obtain ⟨y, _, rfl⟩ := List.mem_map.1 hr; rfl) (by simp) (fun C' hle hs => ih m (by omega) C' _ v67 (gone ++ [wk]) b w ov outs2 (hv.mono (by (repeat (first | exact Mem.le.refl _ | assumption | (apply Mem.le.trans; rotate_left; assumption))))) hs (by simp; omega) (hout2.mono (by (repeat (first | exact Mem.le.refl _ | assumption | (apply Mem.le.trans; rotate_left; assumption))))) (by rw [hP]; omega))) rfl (.inr (by decide)) rfl rfl rfl rfl rfl rfl (List.Perm.of_eq (show _ = _ ++ ([] : List Ent) from by simp [encN, nats_flat])) (fun _ => rfl) (fun v71 C71 L71 hle71 hq71 => ?_)
                refine D.done [(0, [], _), (1, [], _), (2, [], _), (3, [], _), (12, [], _), (53, [], _), (54, [], _), (55, [], _)] ⟨rfl, rfl, rfl, rfl, rfl, rfl, rfl, rfl, trivial⟩ (hR _ _ _ rfl ?_); clear hR hB hH R
                obtain ⟨w', ov', rfl, rfl, hout'⟩ := hq71
                exact G.meet 0 (by (repeat (first | exact Mem.le.refl _ | assumption | (apply Mem.le.trans; rotate_left; assumption)))) (fr' := [(0, [], _), (1, [], _), (2, [], _), (3, [], _), (12, [], _), (53, [], _), (54, [], _), (55, [], _)]) ⟨rfl, rfl, rfl, rfl, rfl, rfl, rfl, rfl, trivial⟩ ⟨w', ov', hout', rfl, rfl⟩
          obtain ⟨w', ov', hout3, rfl, rfl⟩ := hI
          refine G.region rfl (fun R hR => ?_)
          refine D.i64 _ rfl rfl rfl rfl rfl (by omega) (by omega) rfl rfl ?_
          refine D.pure rfl rfl rfl rfl rfl rfl ?_
          refine D.done [(0, [], _), (1, [], _), (2, [], _), (3, [], _), (12, [], _), (53, [], _), (54, [], _), (55, [], _)] ⟨rfl, rfl, rfl, rfl, rfl, rfl, rfl, rfl, trivial⟩ (hR _ _ _ rfl ?_); clear hR R
          refine G.again (m' := cy.length - (j + 1)) (by omega) (by (repeat (first | exact Mem.le.refl _ | assumption | (apply Mem.le.trans; rotate_left; assumption)))) (fr' := [(0, [], _), (1, [], _), (2, [], _), (3, [], _), (12, [], _), (53, [], _), (54, [], _), (55, [], _)]) ⟨rfl, rfl, rfl, rfl, rfl, rfl, rfl, rfl, trivial⟩ ⟨j + 1, w', ov', _, ⟨by omega, hout3, by rw [htk, hFk, ho2, List.append_assoc], by have := hFl k; rw [hFk] at this; rw [List.length_append]; omega⟩, rfl, rfl, rfl⟩
        · skip
          simp only [decide_eq_false_iff_not] at h56
          have hjl : j = cy.length := by omega
          subst hjl
          rw [List.take_length] at ho2
          refine G.end0 rfl ?_
          exact ⟨_, ov, rfl, rfl, by rw [hsf, ← ho2]; exact hout2.mono (by (repeat (first | exact Mem.le.refl _ | assumption | (apply Mem.le.trans; rotate_left; assumption))))⟩

/-! ### Repairs -/
theorem lt_swo : Sort.SWO (ltOf cmpL) := tot_cmpL.swo
abbrev ElemP (C : Mem) : Type := { x : RowP // Sl C 1 x.1 (x.2.map encN) ∧ x.2.length ≤ 1000000 }
instance (C : Mem) : Inhabited (ElemP C) := ⟨⟨(.slice none 0 0, []), Sl.nil C 1, Nat.zero_le _⟩⟩
theorem elems_of {C : Mem} : ∀ {ov : List Value} {outs : List (List Nat)}, OutN C ov outs → (∀ o ∈ outs, o.length ≤ 1000000) → ∃ es : List (ElemP C), es.map (fun e => e.1.1) = ov ∧ es.map (fun e => e.1.2) = outs
  | [], [], _, _ => ⟨[], rfl, rfl⟩
  | [], _ :: _, h, _ => by have := h.1; simp at this
  | _ :: _, [], h, _ => by have := h.1; simp at this
  | v :: ov, o :: outs, h, hl => by
    obtain ⟨es, h1, h2⟩ := elems_of (ov := ov) (outs := outs) ⟨by have := h.1; simpa using this, fun j v o h1 h2 => h.2 (j + 1) v o (by simpa using h1) (by simpa using h2)⟩ (fun o ho => hl o (by simp [ho]))
    exact ⟨⟨(v, o), h.2 0 v o rfl rfl, hl o (by simp)⟩ :: es, by simp [h1], by simp [h2]⟩
theorem rowsSort_fn (C : Mem) (v : Value) (ov : List Value) (outs : List (List Nat)) (h : OutN C ov outs) (hol : ∀ o ∈ outs, o.length ≤ 1000000) (hlen : outs.length ≤ 10000000000) :
    Jog.Fn cx.P 18 [v, .func (.func 19) #[] #[]] C [nArr v ov] fun u _ L' => ∃ l : List RowP, u = .tuple #[] ∧ L' = [.arr v 36 1 l.length (l.map encP).flatten] ∧
      (∀ x ∈ l, Sl C 1 x.1 (x.2.map encN) ∧ x.2.length ≤ 1000000) ∧ (l.map (·.2)).Perm outs ∧ (l.map (·.2)).Pairwise fun x y => ltOf cmpL y x = false := by
  obtain ⟨es, h1, h2⟩ := elems_of h hol
  have hel : es.length = ov.length := by rw [← h1]; simp
  have hel2 : es.length = outs.length := by rw [← h2]; simp
  have hO : Sort.SWO (ltOf fun x y : ElemP C => cmpL x.1.2 y.1.2) := {
    irrefl := fun x => lt_swo.irrefl x.1.2
    trans := fun x y z => lt_swo.trans x.1.2 y.1.2 z.1.2
    ntrans := fun x y z => lt_swo.ntrans x.1.2 y.1.2 z.1.2 }
  have main := sortOne_fn (P := cx.P) (α := ElemP C) Try.sortRows (fun x => x.1.1) (fun x => by obtain ⟨A, c, h3, _⟩ := x.2.1; rw [h3]; rfl) (fun x y => cmpL x.1.2 y.1.2) hO 19 [] C
    (fun x y C' hle => compareL_fn C' _ _ _ _ (x.2.1.mono hle) (y.2.1.mono hle) x.2.2 y.2.2) v 36 es (by omega) (by kernel_rfl) (by kernel_rfl)
  rw [h1, hel] at main
  refine Fn.mono main (fun u C' L' _ ⟨l', k1, k2, k3, k4⟩ => ?_)
  have hp : (l'.map (fun x : ElemP C => x.1.2)).Perm outs := by rw [← h2]; exact k3.map _
  have hll : l'.length = ov.length := by rw [← hel]; exact k3.length_eq
  refine ⟨l'.map (·.1), k1, ?_, ?_, ?_, ?_⟩
  · rw [k2, List.length_map, hll, row1P, List.map_map]; rfl
  · intro x hx
    obtain ⟨e, _, rfl⟩ := List.mem_map.1 hx
    exact e.2
  · rw [List.map_map]; exact hp
  · rw [List.map_map, List.pairwise_map]
    exact k4.imp (fun h => h)
def repL (l : List Rel) (n : Nat) : List (List Nat) := setL cmpL (setsF l n [])
def RepsRes (C : Mem) (l : List Rel) (r : Value) : Prop :=
  (errU l ≠ 0 ∧ r = .tuple #[nilV, .int .i64 (errU l)]) ∨ (errU l = 0 ∧ ∃ q, Invs l q l.length ∧ ((40 < q.length ∧ r = .tuple #[nilV, .int .i64 4]) ∨ (q.length ≤ 40 ∧
    ((∃ n, n ≤ 4 ∧ (∀ k, k < n → setsF l k [] = []) ∧ setsF l n [] ≠ [] ∧ ((200 < (repL l n).length ∧ r = .tuple #[nilV, .int .i64 4]) ∨ ((repL l n).length ≤ 200 ∧ ∃ v ov, r = .tuple #[v, .int .i64 0] ∧ Sl C 1 v (ov.map fun x => [x]) ∧ OutN C ov (repL l n)))) ∨
     ((∀ k, k < 5 → setsF l k [] = []) ∧ r = .tuple #[nilV, .int .i64 4])))))
theorem outN_of {C : Mem} {r : List RowP} (h : ∀ x ∈ r, Sl C 1 x.1 (x.2.map encN)) : OutN C (r.map (·.1)) (r.map (·.2)) := by
  refine ⟨by simp, fun j v o h1 h2 => ?_⟩
  rw [List.getElem?_map] at h1 h2
  cases hx : r[j]? with
  | none => rw [hx] at h1; cases h1
  | some x =>
    rw [hx] at h1 h2
    cases h1; cases h2
    exact h x (List.mem_of_getElem? hx)
set_option maxHeartbeats 8000000 in
theorem repairs_fn (C : Mem) (v : Value) (l : List Rel) (hv : Sl C 3 v (l.map Rel.enc)) (hl : l.length ≤ 100000) (hsh : ∀ x ∈ l, x.short) : Pur cx.P 6 [v] C fun r C' => RepsRes C' l r := by
  obtain ⟨A, c, rfl, _⟩ := id hv
  simp only [List.length_map] at hv ⊢
  refine Fn.intro (by kernel_rfl) Try.func6 rfl 37 rfl rfl (fun w0 => ?_)
  refine G.region rfl (fun R hR => ?_)
  iterate 2 refine D.pure rfl rfl rfl rfl rfl rfl ?_
  refine D.done [(0, [], _)] ⟨rfl, trivial⟩ (hR _ _ _ rfl ?_); clear hR R
  refine G.region rfl (fun R hR => ?_)
  refine D.pure rfl rfl rfl rfl rfl rfl ?_
  refine D.gives2 (check_fn _ _ l (hv.mono (by (repeat (first | exact Mem.le.refl _ | assumption | (apply Mem.le.trans; rotate_left; assumption))))) hl hsh) rfl rfl rfl rfl rfl rfl rfl (fun _ => rfl) ?_
  refine D.pure rfl rfl rfl rfl rfl rfl ?_
  refine D.done [(0, [], _), (4, [], _)] ⟨rfl, rfl, trivial⟩ (hR _ _ _ rfl ?_); clear hR R
  refine G.region rfl (fun R hR => ?_)
  iterate 2 refine D.pure rfl rfl rfl rfl rfl rfl ?_
  refine D.done [(0, [], _), (4, [], _), (10, [], _)] ⟨rfl, rfl, rfl, trivial⟩ (hR _ _ _ rfl ?_); clear hR R
  refine G.cond rfl (fun h10 => ?_) (fun h10 => ?_)
  · skip
    have h10' : errU l ≠ 0 := by simpa using h10
    refine G.region rfl (fun R hR => ?_)
    iterate 3 refine D.pure rfl rfl rfl rfl rfl rfl ?_
    refine D.done [(2, [], _), (3, [], _)] ⟨rfl, rfl, trivial⟩ (hR _ _ _ rfl ?_); clear hR R
    refine G.retN (G.dropAll (G.fin2 rfl rfl rfl ?_))
    exact ⟨rfl, .inl ⟨h10', rfl⟩⟩
  · skip
    have h10' : errU l = 0 := by simpa using h10
    refine G.region rfl (fun R hR => ?_)
    refine D.pure rfl rfl rfl rfl rfl rfl ?_
    refine D.callP (open_fn _ _ l (hv.mono (by (repeat (first | exact Mem.le.refl _ | assumption | (apply Mem.le.trans; rotate_left; assumption))))) hl) rfl rfl rfl rfl rfl rfl rfl (fun _ => rfl) (fun v13 C13 hle13 hq13 => ?_)
    refine D.callP (involved_fn _ _ l (hq13.mono (by (repeat (first | exact Mem.le.refl _ | assumption | (apply Mem.le.trans; rotate_left; assumption))))) hl) rfl rfl rfl rfl rfl rfl rfl (fun _ => rfl) (fun v14 C14 hle14 hq14 => ?_)
    obtain ⟨q, hq, hqs⟩ := hq14
    have hql := invs_len hq
    obtain ⟨Aq, cq, hqe, _⟩ := id hqs
    rw [List.length_map] at hqe
    subst hqe
    iterate 2 refine D.pure rfl rfl rfl rfl rfl rfl ?_
    refine D.done [(0, [], _), (16, [], _)] ⟨rfl, rfl, trivial⟩ (hR _ _ _ rfl ?_); clear hR R
    refine G.cond rfl (fun h16 => ?_) (fun h16 => ?_)
    · skip
      have h16' : 40 < q.length := by
        have : (40 : Int) < q.length := by simpa using h16
        omega
      refine G.region rfl (fun R hR => ?_)
      iterate 2 refine D.pure rfl rfl rfl rfl rfl rfl ?_
      refine D.done [(2, [], _), (3, [], _)] ⟨rfl, rfl, trivial⟩ (hR _ _ _ rfl ?_); clear hR R
      refine G.retN (G.dropAll (G.fin2 rfl rfl rfl ?_))
      exact ⟨rfl, .inr ⟨h10', q, hq, .inl ⟨h16', rfl⟩⟩⟩
    · skip
      have h16' : q.length ≤ 40 := by
        have : (q.length : Int) ≤ 40 := by simpa using h16
        omega
      refine G.region rfl (fun R hR => ?_)
      refine D.pure rfl rfl rfl rfl rfl rfl ?_
      refine D.done [(0, [], _), (17, [], _)] ⟨rfl, rfl, trivial⟩ (hR _ _ _ rfl ?_); clear hR R
      refine G.loop (fun fr C' L' μ => ∃ (n : Nat), (n ≤ 5 ∧ ∀ k, k < n → setsF l k [] = []) ∧ fr = [(0, [], .slice A l.length c), (17, [], .int .i64 n)] ∧ L' = [] ∧ μ = 5 - n) (fr' := [(0, [], _), (17, [], _)]) ⟨rfl, rfl, trivial⟩ ⟨0, ⟨by omega, fun k h => by omega⟩, rfl, rfl, rfl⟩ (fun fr C0' L0' m hle0 hI => ?_)
      obtain ⟨n, ⟨hn5, hnone⟩, rfl, rfl, rfl⟩ := hI
      refine G.region rfl (fun R hR => ?_)
      refine D.pure rfl rfl rfl rfl rfl rfl ?_
      refine D.done [(0, [], _), (17, [], _), (18, [], _)] ⟨rfl, rfl, rfl, trivial⟩ (hR _ _ _ rfl ?_); clear hR R
      refine G.cond rfl (fun h18 => ?_) (fun h18 => ?_)
      · skip
        have hn4 : n ≤ 4 := by
          have : (n : Int) < 5 := by simpa using h18
          omega
        have hn4' : n = 0 ∨ n = 1 ∨ n = 2 ∨ n = 3 ∨ n = 4 := by omega
        have hp4 : 200 ^ n ≤ 1600000000 := by rcases hn4' with rfl | rfl | rfl | rfl | rfl <;> decide
        have hsfl := setsF_len l (errU_len h10') n []
        have hsm := setsF_small l n []
        refine G.region rfl (fun R hR => ?_)
        iterate 2 refine D.pure rfl rfl rfl rfl rfl rfl ?_
        refine D.done [(0, [], _), (5, [], _), (17, [], _)] ⟨rfl, rfl, rfl, trivial⟩ (hR _ _ _ rfl ?_); clear hR R
        refine G.region rfl (fun R hR => ?_)
        refine D.alloc rfl rfl rfl rfl rfl (fun _ => rfl) (fun b6 => ?_)
        refine D.done [(0, [], _), (5, [], _), (6, [], _), (17, [], _)] ⟨rfl, rfl, rfl, rfl, trivial⟩ (hR _ _ _ rfl ?_); clear hR R
        refine G.nilArr 36 1 (G.perm (L' := [nObj b6 (.slice none 0 0), nArr (.slice none 0 0) []]) (List.Perm.swap _ _ _) ?_)
        refine G.regionO [(2, 3)] rfl (fun R hR => ?_)
        iterate 2 refine D.pure rfl rfl rfl rfl rfl rfl ?_
        refine D.call (sets_fn l h10' hsh n _ _ _ [] b6 _ [] [] (hv.mono (by (repeat (first | exact Mem.le.refl _ | assumption | (apply Mem.le.trans; rotate_left; assumption))))) (Sl.nil _ 1) (by simp; omega) ⟨rfl, fun j v o h => by simp at h⟩ (by simp; omega)) rfl (.inr (by decide)) rfl rfl rfl rfl rfl rfl (List.Perm.refl _) (fun _ => rfl) (fun v22 C22 L22 hle22 hq22 => ?_)
        refine D.done [(0, [], _), (6, [], _), (17, [], _)] ⟨rfl, rfl, rfl, trivial⟩ (hR _ _ _ rfl ?_); clear hR R
        obtain ⟨w6, ov6, rfl, rfl, hout6⟩ := hq22
        rw [List.nil_append] at hout6
        refine G.eqL (L' := [.obj b6 (.cells ⟨[w6]⟩ 27 (0, 0)), .arr w6 36 1 ov6.length ov6]) rfl ?_
        refine G.regionO [(1, 3)] rfl (fun R hR => ?_)
        refine D.loadL (.head _) rfl rfl rfl rfl rfl rfl rfl rfl rfl ?_
        refine D.call (rowsSort_fn _ w6 ov6 (setsF l n []) hout6 (fun o ho => by have := hsm o ho; simp at this; omega) (by omega)) rfl (.inr (by decide)) rfl rfl rfl rfl rfl rfl (List.Perm.swap _ _ _) (fun _ => rfl) (fun v24 C24 L24 hle24 hq24 => ?_)
        refine D.done [(0, [], _), (6, [], _), (17, [], _)] ⟨rfl, rfl, rfl, trivial⟩ (hR _ _ _ rfl ?_); clear hR R
        obtain ⟨l6, rfl, rfl, hel6, hp6, hs6⟩ := hq24
        have hl6 : l6.length ≤ 10000000000 := by have := hp6.length_eq; rw [List.length_map] at this; omega
        refine G.perm (L' := [.obj b6 (.cells ⟨[w6]⟩ 27 (0, 0)), .arr w6 36 1 l6.length (l6.map encP).flatten]) (List.Perm.swap _ _ _) ?_
        refine G.regionO [(1, 3)] rfl (fun R hR => ?_)
        refine D.loadL (.head _) rfl rfl rfl rfl rfl rfl rfl rfl rfl ?_
        refine D.call (compactF_fn _ w6 l6 hl6 (fun x hx => ((hel6 x hx).1).mono (by (repeat (first | exact Mem.le.refl _ | assumption | (apply Mem.le.trans; rotate_left; assumption))))) (fun x hx => (hel6 x hx).2)) rfl (.inr (by decide)) rfl rfl rfl rfl rfl rfl (List.Perm.swap _ _ _) (fun _ => rfl) (fun v26 C26 L26 hle26 hq26 => ?_)
        obtain ⟨rfl, r6, hrs6, hrm6, hrc6⟩ := hq26
        obtain ⟨A6, c6, hqe, _⟩ := id hrs6
        rw [List.length_map] at hqe
        subst hqe
        refine D.store (j := 0) rfl rfl rfl rfl rfl rfl rfl rfl rfl rfl rfl rfl ?_
        refine D.done [(0, [], _), (6, [], _), (17, [], _)] ⟨rfl, rfl, rfl, trivial⟩ (hR _ _ _ rfl ?_); clear hR R
        have hrep : r6.map (·.2) = repL l n := by rw [hrc6]; exact tot_cmpL.compact_eq hp6 hs6
        have hrl : (repL l n).length = r6.length := by rw [← hrep]; simp
        have hout7 : OutN C26 (r6.map (·.1)) (repL l n) := by rw [← hrep]; exact outN_of (fun x hx => ((hel6 x (hrm6 x hx)).1).mono (by (repeat (first | exact Mem.le.refl _ | assumption | (apply Mem.le.trans; rotate_left; assumption)))))
        have hne7 : r6.length = 0 ↔ setsF l n [] = [] := by
          rw [← hrl]
          constructor
          · intro h
            refine List.eq_nil_iff_forall_not_mem.2 (fun s hs => ?_)
            have : s ∈ repL l n := mem_setL.2 hs
            rw [List.eq_nil_of_length_eq_zero h] at this; cases this
          · intro h; unfold repL; rw [h]; rfl
        refine G.region rfl (fun R hR => ?_)
        refine D.loadL (.head _) rfl rfl rfl rfl rfl rfl rfl rfl rfl ?_
        iterate 3 refine D.pure rfl rfl rfl rfl rfl rfl ?_
        refine D.done [(0, [], _), (6, [], _), (17, [], _), (27, [], _)] ⟨rfl, rfl, rfl, rfl, trivial⟩ (hR _ _ _ rfl ?_); clear hR R
        refine G.cond rfl (fun h27 => ?_) (fun h27 => ?_)
        · skip
          have h27' : 200 < r6.length := by
            have : (200 : Int) < r6.length := by simpa using h27
            omega
          have hne8 : setsF l n [] ≠ [] := fun h => by have := hne7.2 h; omega
          refine G.region rfl (fun R hR => ?_)
          iterate 2 refine D.pure rfl rfl rfl rfl rfl rfl ?_
          refine D.done [(2, [], _), (3, [], _)] ⟨rfl, rfl, trivial⟩ (hR _ _ _ rfl ?_); clear hR R
          refine G.retN (G.dropAll (G.fin2 rfl rfl rfl ?_))
          exact ⟨rfl, .inr ⟨h10', q, hq, .inr ⟨h16', .inl ⟨n, hn4, hnone, hne8, .inl ⟨by omega, rfl⟩⟩⟩⟩⟩
        · skip
          have h27' : ¬ 200 < r6.length := by
            have : (r6.length : Int) ≤ 200 := by simpa using h27
            omega
          refine G.region rfl (fun R hR => ?_)
          refine D.loadL (.head _) rfl rfl rfl rfl rfl rfl rfl rfl rfl ?_
          iterate 3 refine D.pure rfl rfl rfl rfl rfl rfl ?_
          refine D.done [(0, [], _), (6, [], _), (17, [], _), (31, [], _)] ⟨rfl, rfl, rfl, rfl, trivial⟩ (hR _ _ _ rfl ?_); clear hR R
          refine G.cond rfl (fun h31 => ?_) (fun h31 => ?_)
          · skip
            have h31' : 0 < r6.length := by simpa using h31
            have hne8 : setsF l n [] ≠ [] := fun h => by have := hne7.2 h; omega
            refine G.region rfl (fun R hR => ?_)
            refine D.loadL (.head _) rfl rfl rfl rfl rfl rfl rfl rfl rfl ?_
            iterate 2 refine D.pure rfl rfl rfl rfl rfl rfl ?_
            refine D.done [(2, [], _), (3, [], _)] ⟨rfl, rfl, trivial⟩ (hR _ _ _ rfl ?_); clear hR R
            refine G.retN (G.dropAll (G.fin2 rfl rfl rfl ?_))
            exact ⟨rfl, .inr ⟨h10', q, hq, .inr ⟨h16', .inl ⟨n, hn4, hnone, hne8, .inr ⟨by omega, _, r6.map (·.1), rfl, by rw [List.map_map]; exact hrs6, hout7⟩⟩⟩⟩⟩
          · skip
            have h31' : r6.length = 0 := by
              have : ¬ 0 < r6.length := by simpa using h31
              omega
            refine G.region rfl (fun R hR => ?_)
            refine D.i64 _ rfl rfl rfl rfl rfl (by omega) (by omega) rfl rfl ?_
            refine D.pure rfl rfl rfl rfl rfl rfl ?_
            refine D.done [(0, [], _), (17, [], _)] ⟨rfl, rfl, trivial⟩ (hR _ _ _ rfl ?_); clear hR R
            refine G.dropE 0 rfl ?_
            refine G.again (m' := 5 - (n + 1)) (by omega) (by (repeat (first | exact Mem.le.refl _ | assumption | (apply Mem.le.trans; rotate_left; assumption)))) (fr' := [(0, [], _), (17, [], _)]) ⟨rfl, rfl, trivial⟩ ⟨n + 1, ⟨by omega, fun k hk => by
              rcases Nat.lt_or_ge k n with h | h
              · exact hnone k h
              · have : k = n := by omega
                subst this
                exact hne7.1 h31'⟩, rfl, rfl, rfl⟩
      · skip
        have hn5' : n = 5 := by
          have : (5 : Int) ≤ n := by simpa using h18
          omega
        subst hn5'
        refine G.region rfl (fun R hR => ?_)
        iterate 2 refine D.pure rfl rfl rfl rfl rfl rfl ?_
        refine D.done [(2, [], _), (3, [], _)] ⟨rfl, rfl, trivial⟩ (hR _ _ _ rfl ?_); clear hR R
        refine G.retN (G.dropAll (G.fin2 rfl rfl rfl ?_))
        exact ⟨rfl, .inr ⟨h10', q, hq, .inr ⟨h16', .inr ⟨hnone, rfl⟩⟩⟩⟩
end Go.Proofs.Ytcghlfepfcagbaa
namespace Go.Jog
open Go Go.Proofs Go.Shelf

section
variable {P : Program} {ρ : Ren}
end
end Go.Jog
namespace Go.Proofs.Ytcghlfepfcagbaa
open Go Go.Jog
set_option maxRecDepth 100000

end Go.Proofs.Ytcghlfepfcagbaa
namespace Go.Jog
open Go

section
variable {cx : Cx} {n : Nat} {ds : List (Option Nat)} {R : Rg n ds} {its : List It} {fr : Fr} {C : Mem} {L : List Ent} {i k d : Nat} {o : Oper} {g : GL}
/-- 1, shifted. -/
theorem D.shl1 (m : Nat) {ki kj : IntKind} {t ty : Nat} {x y : Operand} {q : Int} (hk : Nat.ble k 1 = true) (hd : o.dst = some d) (hop : o.op = .binOp .shl t x y ty) (hg : gOf ds fr o.guard = some g) (hx : ev fr g x = some (.int ki 1)) (hy : ev fr g y = some (.int kj q))
    (hki : ki = .u64 ∨ ki = .i64) (hq : q = m) (hm : m ≤ 62) (hp : okPut n ds ((d, g, .int ki ((2 ^ m : Nat) : Int)) :: fr) d = true) (hwf : wfG ds fr g = true)
    (h : D cx R its ((d, g, .int ki ((2 ^ m : Nat) : Int)) :: fr) C L) : D cx R ((i, k, o) :: its) fr C L :=
  D.run _ hk hd hg (fun _ A hs w => by
    subst hq
    rw [exec_binOp hop (hs _ _ hx) (hs _ _ hy) (fun _ _ => .inl (by simp)) (.inl (by simp)) w]
    have h0 : ¬ ((m : Int) < 0) := by omega
    have hb : ki.bits = 64 := by rcases hki with rfl | rfl <;> rfl
    have hmin : Min.min m 64 = m := by omega
    have hle : 2 ^ m ≤ 2 ^ 62 := Nat.pow_le_pow_right (by decide) hm
    have e : ki.wrap (1 * 2 ^ m) = ((2 ^ m : Nat) : Int) := by
      have e1 : (1 : Int) * 2 ^ m = ((2 ^ m : Nat) : Int) := by rw [Int.one_mul]; norm_cast
      rw [e1]
      have hle2 : 2 ^ m ≤ 4611686018427387904 := hle
      generalize 2 ^ m = P at hle2
      rcases hki with rfl | rfl
      · rw [IntKind.wrap_u64]; omega
      · exact wrap_i64 (by omega) (by omega)
    simp only [binOp, Op.shift, h0, if_false, Int.toNat_natCast, hb, hmin, Sem.run_pure, Result.andThen_ok]
    rw [e]) hp hwf h
end

end Go.Jog
namespace Go.Jog
open Go
section
variable {cx : Cx} {n : Nat} {ds : List (Option Nat)} {R : Rg n ds} {its : List It} {fr : Fr} {C : Mem} {L : List Ent} {i k d : Nat} {o : Oper} {g : GL}
end
end Go.Jog
namespace Go.Proofs.Ytcghlfepfcagbaa
open Go Go.Jog
set_option maxRecDepth 100000

/-- A list of lists of numbers, laid. -/
def LL (C : Mem) (v : Value) (outs : List (List Nat)) : Prop := ∃ ov : List Value, Sl C 1 v (ov.map fun x => [x]) ∧ OutN C ov outs
theorem LL.mono {C D : Mem} {v : Value} {outs : List (List Nat)} (h : LL C v outs) (hl : C.le D) : LL D v outs := let ⟨ov, h1, h2⟩ := h; ⟨ov, h1.mono hl, h2.mono hl⟩
theorem LL.nil (C : Mem) : LL C (.slice none 0 0) [] := ⟨[], Sl.nil C 1, rfl, fun j v o h => by simp at h⟩
theorem OutN.at {C : Mem} {ov : List Value} {outs : List (List Nat)} (h : OutN C ov outs) {j : Nat} {o : List Nat} (ho : outs[j]? = some o) : ∃ A c, ov[j]? = some (.slice A o.length c) ∧ (ov.map fun x => [x])[j]? = some [.slice A o.length c] ∧ Sl C 1 (.slice A o.length c) (o.map encN) := by
  have hj := (List.getElem?_eq_some_iff.1 ho).1
  have hv : ov[j]? = some (ov[j]'(by rw [h.1]; exact hj)) := List.getElem?_eq_getElem _
  obtain ⟨A, c, he, _⟩ := id (h.2 j _ o hv ho)
  rw [List.length_map] at he
  have hs := h.2 j _ o hv ho
  rw [he] at hs hv
  exact ⟨A, c, hv, by rw [List.getElem?_map, hv]; rfl, hs⟩
theorem arcB_at {l : List Rel} {i : Nat} {x : Rel} (h : l[i]? = some x) : arcB l i = !(x.kind == 4) := by unfold arcB; rw [h]
set_option maxHeartbeats 1000000 in
theorem lequal_fn (C : Mem) (v w : Value) (a b : List Nat) (hv : Sl C 1 v (a.map encN)) (hw : Sl C 1 w (b.map encN)) (ha : a.length ≤ 1000000) (hb : b.length ≤ 1000000) :
    Gives cx.P 24 [v, w] C (.bool (decide (a = b))) := by
  obtain ⟨A, c, rfl, _⟩ := id hv
  obtain ⟨B, d, rfl, _⟩ := id hw
  simp only [List.length_map] at hv hw ⊢
  refine Fn.intro (by kernel_rfl) Try.func24 rfl 26 rfl rfl (fun w0 => ?_)
  refine G.region rfl (fun R hR => ?_)
  refine D.pure rfl rfl rfl rfl rfl rfl ?_
  refine D.done [(0, [], _), (1, [], _)] ⟨rfl, rfl, trivial⟩ (hR _ _ _ rfl ?_); clear hR R
  refine G.region rfl (fun R hR => ?_)
  iterate 5 refine D.pure rfl rfl rfl rfl rfl rfl ?_
  refine D.done [(0, [], _), (1, [], _), (10, [], _)] ⟨rfl, rfl, rfl, trivial⟩ (hR _ _ _ rfl ?_); clear hR R
  refine G.cond rfl (fun h10 => ?_) (fun h10 => ?_)
  · skip
    have h10' : a.length ≠ b.length := by
      have : ¬ (a.length : Int) = b.length := by simpa using h10
      omega
    refine G.region rfl (fun R hR => ?_)
    refine D.pure rfl rfl rfl rfl rfl rfl ?_
    refine D.done [(4, [], _)] ⟨rfl, trivial⟩ (hR _ _ _ rfl ?_); clear hR R
    refine G.retN (G.dropAll (G.fin1 rfl rfl ?_))
    exact ⟨by rw [decide_eq_false (fun h => h10' (congrArg List.length h))], rfl⟩
  · skip
    have h10' : a.length = b.length := by
      have : (a.length : Int) = b.length := by simpa using h10
      omega
    refine G.region rfl (fun R hR => ?_)
    refine D.pure rfl rfl rfl rfl rfl rfl ?_
    refine D.done [(0, [], _), (1, [], _), (5, [], _)] ⟨rfl, rfl, rfl, trivial⟩ (hR _ _ _ rfl ?_); clear hR R
    refine G.loop (fun fr C' L' μ => ∃ (k : Nat), (k ≤ a.length ∧ a.take k = b.take k) ∧ fr = [(0, [], .slice A a.length c), (1, [], .slice B b.length d), (5, [], .int .i64 k)] ∧ L' = [] ∧ μ = a.length - k) (fr' := [(0, [], _), (1, [], _), (5, [], _)]) ⟨rfl, rfl, rfl, trivial⟩ ⟨0, ⟨Nat.zero_le _, rfl⟩, rfl, rfl, rfl⟩ (fun fr C0' L0' m hle0 hI => ?_)
    obtain ⟨k, ⟨hka, htk⟩, rfl, rfl, rfl⟩ := hI
    refine G.region rfl (fun R hR => ?_)
    iterate 4 refine D.pure rfl rfl rfl rfl rfl rfl ?_
    refine D.done [(0, [], _), (1, [], _), (5, [], _), (14, [], _)] ⟨rfl, rfl, rfl, rfl, trivial⟩ (hR _ _ _ rfl ?_); clear hR R
    refine G.cond rfl (fun h14 => ?_) (fun h14 => ?_)
    · skip
      have hk2 : k < a.length := by simpa using h14
      obtain ⟨x, hx⟩ : ∃ x, a[k]? = some x := ⟨a[k], List.getElem?_eq_getElem hk2⟩
      have hrx : (a.map encN)[k]? = some (encN x) := by rw [List.getElem?_map, hx]; rfl
      obtain ⟨y, hy⟩ : ∃ y, b[k]? = some y := ⟨b[k]'(by omega), List.getElem?_eq_getElem (by omega)⟩
      have hry : (b.map encN)[k]? = some (encN y) := by rw [List.getElem?_map, hy]; rfl
      refine G.draw [0, 1, 2, 3, 4, 5, 6, 7, 8] [] rfl (by kernel_rfl) (fun R hB hR => ?_)
      iterate 2 refine D.pure rfl rfl rfl rfl rfl rfl ?_
      refine D.index0 (hv.mono (by (repeat (first | exact Mem.le.refl _ | assumption | (apply Mem.le.trans; rotate_left; assumption))))) rfl rfl rfl rfl rfl rfl rfl rfl rfl rfl (by omega) hrx (fun _ => rfl) (fun p19 hp19 => ?_)
      refine D.loadP0 hp19 rfl rfl rfl rfl rfl rfl rfl rfl ?_
      iterate 2 refine D.pure rfl rfl rfl rfl rfl rfl ?_
      refine D.index0 (hw.mono (by (repeat (first | exact Mem.le.refl _ | assumption | (apply Mem.le.trans; rotate_left; assumption))))) rfl rfl rfl rfl rfl rfl rfl rfl rfl rfl (by omega) hry (fun _ => rfl) (fun p23 hp23 => ?_)
      refine D.loadP0 hp23 rfl rfl rfl rfl rfl rfl rfl rfl ?_
      refine D.pure rfl rfl rfl rfl rfl rfl ?_
      refine D.done [(0, [], _), (1, [], _), (5, [], _), (25, [], _)] ⟨rfl, rfl, rfl, rfl, trivial⟩ (hR _ _ _ rfl ?_); clear hR hB R
      refine G.cond rfl (fun h25 => ?_) (fun h25 => ?_)
      · skip
        have h25' : x ≠ y := by
          have : ¬ (x : Int) = y := by simpa using h25
          omega
        refine G.region rfl (fun R hR => ?_)
        refine D.pure rfl rfl rfl rfl rfl rfl ?_
        refine D.done [(4, [], _)] ⟨rfl, trivial⟩ (hR _ _ _ rfl ?_); clear hR R
        refine G.retN (G.dropAll (G.fin1 rfl rfl ?_))
        refine ⟨?_, rfl⟩
        rw [decide_eq_false]
        rintro rfl
        rw [hx] at hy
        exact h25' (Option.some.inj hy)
      · skip
        have h25' : x = y := by
          have : (x : Int) = y := by simpa using h25
          omega
        refine G.region rfl (fun R hR => ?_)
        refine D.pure rfl rfl rfl rfl rfl rfl ?_
        refine D.i64 _ rfl rfl rfl rfl rfl (by omega) (by omega) rfl rfl ?_
        refine D.pure rfl rfl rfl rfl rfl rfl ?_
        refine D.done [(0, [], _), (1, [], _), (5, [], _)] ⟨rfl, rfl, rfl, trivial⟩ (hR _ _ _ rfl ?_); clear hR R
        refine G.again (m' := a.length - (k + 1)) (by omega) (by (repeat (first | exact Mem.le.refl _ | assumption | (apply Mem.le.trans; rotate_left; assumption)))) (fr' := [(0, [], _), (1, [], _), (5, [], _)]) ⟨rfl, rfl, rfl, trivial⟩ ⟨k + 1, ⟨by omega, by rw [List.take_add_one, List.take_add_one, htk, hx, hy, h25']⟩, rfl, rfl, rfl⟩
    · skip
      have hk2 : k = a.length := by
        have : ¬ k < a.length := by simpa using h14
        omega
      subst hk2
      refine G.region rfl (fun R hR => ?_)
      refine D.pure rfl rfl rfl rfl rfl rfl ?_
      refine D.done [(4, [], _)] ⟨rfl, trivial⟩ (hR _ _ _ rfl ?_); clear hR R
      refine G.retN (G.dropAll (G.fin1 rfl rfl ?_))
      refine ⟨?_, rfl⟩
      rw [List.take_length, h10', List.take_length] at htk
      rw [decide_eq_true htk]
set_option maxHeartbeats 1000000 in
theorem same_fn (C : Mem) (v w : Value) (a b : List (List Nat)) (hv : LL C v a) (hw : LL C w b) (ha : a.length ≤ 100000000) (hb : b.length ≤ 100000000) (ha2 : ∀ x ∈ a, x.length ≤ 1000000) (hb2 : ∀ x ∈ b, x.length ≤ 1000000) :
    Gives cx.P 8 [v, w] C (.bool (decide (a = b))) := by
  obtain ⟨oa, hv, hoa⟩ := hv
  obtain ⟨ob, hw, hob⟩ := hw
  obtain ⟨A, c, rfl, _⟩ := id hv
  obtain ⟨B, d, rfl, _⟩ := id hw
  have hal := hoa.1
  have hbl := hob.1
  simp only [List.length_map, hal, hbl] at hv hw ⊢
  refine Fn.intro (by kernel_rfl) Try.func8 rfl 27 rfl rfl (fun w0 => ?_)
  refine G.region rfl (fun R hR => ?_)
  refine D.pure rfl rfl rfl rfl rfl rfl ?_
  refine D.done [(0, [], _), (1, [], _)] ⟨rfl, rfl, trivial⟩ (hR _ _ _ rfl ?_); clear hR R
  refine G.region rfl (fun R hR => ?_)
  iterate 5 refine D.pure rfl rfl rfl rfl rfl rfl ?_
  refine D.done [(0, [], _), (1, [], _), (10, [], _)] ⟨rfl, rfl, rfl, trivial⟩ (hR _ _ _ rfl ?_); clear hR R
  refine G.cond rfl (fun h10 => ?_) (fun h10 => ?_)
  · skip
    have h10' : a.length ≠ b.length := by
      have : ¬ (a.length : Int) = b.length := by simpa using h10
      omega
    refine G.region rfl (fun R hR => ?_)
    refine D.pure rfl rfl rfl rfl rfl rfl ?_
    refine D.done [(4, [], _)] ⟨rfl, trivial⟩ (hR _ _ _ rfl ?_); clear hR R
    refine G.retN (G.dropAll (G.fin1 rfl rfl ?_))
    exact ⟨by rw [decide_eq_false (fun h => h10' (congrArg List.length h))], rfl⟩
  · skip
    have h10' : a.length = b.length := by
      have : (a.length : Int) = b.length := by simpa using h10
      omega
    refine G.region rfl (fun R hR => ?_)
    refine D.pure rfl rfl rfl rfl rfl rfl ?_
    refine D.done [(0, [], _), (1, [], _), (5, [], _)] ⟨rfl, rfl, rfl, trivial⟩ (hR _ _ _ rfl ?_); clear hR R
    refine G.loop (fun fr C' L' μ => ∃ (k : Nat), (k ≤ a.length ∧ a.take k = b.take k) ∧ fr = [(0, [], .slice A a.length c), (1, [], .slice B b.length d), (5, [], .int .i64 k)] ∧ L' = [] ∧ μ = a.length - k) (fr' := [(0, [], _), (1, [], _), (5, [], _)]) ⟨rfl, rfl, rfl, trivial⟩ ⟨0, ⟨Nat.zero_le _, rfl⟩, rfl, rfl, rfl⟩ (fun fr C0' L0' m hle0 hI => ?_)
    obtain ⟨k, ⟨hka, htk⟩, rfl, rfl, rfl⟩ := hI
    refine G.region rfl (fun R hR => ?_)
    iterate 4 refine D.pure rfl rfl rfl rfl rfl rfl ?_
    refine D.done [(0, [], _), (1, [], _), (5, [], _), (14, [], _)] ⟨rfl, rfl, rfl, rfl, trivial⟩ (hR _ _ _ rfl ?_); clear hR R
    refine G.cond rfl (fun h14 => ?_) (fun h14 => ?_)
    · skip
      have hk2 : k < a.length := by simpa using h14
      obtain ⟨x, hx⟩ : ∃ x, a[k]? = some x := ⟨a[k], List.getElem?_eq_getElem hk2⟩
      obtain ⟨y, hy⟩ : ∃ y, b[k]? = some y := ⟨b[k]'(by omega), List.getElem?_eq_getElem (by omega)⟩
      obtain ⟨Ax, cx1, _, hrx, hsx⟩ := hoa.at hx
      obtain ⟨Ay, cy1, _, hry, hsy⟩ := hob.at hy
      refine G.draw [0, 1, 2, 3, 4, 5, 6, 7, 8, 9] [(8, 1)] rfl (by kernel_rfl) (fun R hB hR => ?_)
      iterate 2 refine D.pure rfl rfl rfl rfl rfl rfl ?_
      refine D.index0 (hv.mono (by (repeat (first | exact Mem.le.refl _ | assumption | (apply Mem.le.trans; rotate_left; assumption))))) rfl rfl rfl rfl rfl rfl rfl rfl rfl rfl (by omega) hrx (fun _ => rfl) (fun p19 hp19 => ?_)
      refine D.loadP0 hp19 rfl rfl rfl rfl rfl rfl rfl rfl ?_
      iterate 2 refine D.pure rfl rfl rfl rfl rfl rfl ?_
      refine D.index0 (hw.mono (by (repeat (first | exact Mem.le.refl _ | assumption | (apply Mem.le.trans; rotate_left; assumption))))) rfl rfl rfl rfl rfl rfl rfl rfl rfl rfl (by omega) hry (fun _ => rfl) (fun p23 hp23 => ?_)
      refine D.loadP0 hp23 rfl rfl rfl rfl rfl rfl rfl rfl ?_
      refine D.gives (fun _ => (lequal_fn _ _ _ x y (hsx.mono (by (repeat (first | exact Mem.le.refl _ | assumption | (apply Mem.le.trans; rotate_left; assumption))))) (hsy.mono (by (repeat (first | exact Mem.le.refl _ | assumption | (apply Mem.le.trans; rotate_left; assumption))))) (ha2 x (List.mem_of_getElem? hx)) (hb2 y (List.mem_of_getElem? hy)))) rfl rfl rfl rfl rfl rfl rfl rfl rfl ?_
      refine D.pure rfl rfl rfl rfl rfl rfl ?_
      refine D.done [(0, [], _), (1, [], _), (5, [], _), (26, [], _)] ⟨rfl, rfl, rfl, rfl, trivial⟩ (hR _ _ _ rfl ?_); clear hR hB R
      refine G.cond rfl (fun h26 => ?_) (fun h26 => ?_)
      · skip
        have h26' : x ≠ y := by simpa using h26
        refine G.region rfl (fun R hR => ?_)
        refine D.pure rfl rfl rfl rfl rfl rfl ?_
        refine D.done [(4, [], _)] ⟨rfl, trivial⟩ (hR _ _ _ rfl ?_); clear hR R
        refine G.retN (G.dropAll (G.fin1 rfl rfl ?_))
        refine ⟨?_, rfl⟩
        rw [decide_eq_false]
        rintro rfl
        rw [hx] at hy
        exact h26' (Option.some.inj hy)
      · skip
        have h26' : x = y := by simpa using h26
        refine G.region rfl (fun R hR => ?_)
        refine D.pure rfl rfl rfl rfl rfl rfl ?_
        refine D.i64 _ rfl rfl rfl rfl rfl (by omega) (by omega) rfl rfl ?_
        refine D.pure rfl rfl rfl rfl rfl rfl ?_
        refine D.done [(0, [], _), (1, [], _), (5, [], _)] ⟨rfl, rfl, rfl, trivial⟩ (hR _ _ _ rfl ?_); clear hR R
        refine G.again (m' := a.length - (k + 1)) (by omega) (by (repeat (first | exact Mem.le.refl _ | assumption | (apply Mem.le.trans; rotate_left; assumption)))) (fr' := [(0, [], _), (1, [], _), (5, [], _)]) ⟨rfl, rfl, rfl, trivial⟩ ⟨k + 1, ⟨by omega, by rw [List.take_add_one, List.take_add_one, htk, hx, hy, h26']⟩, rfl, rfl, rfl⟩
    · skip
      have hk2 : k = a.length := by
        have : ¬ k < a.length := by simpa using h14
        omega
      subst hk2
      refine G.region rfl (fun R hR => ?_)
      refine D.pure rfl rfl rfl rfl rfl rfl ?_
      refine D.done [(4, [], _)] ⟨rfl, trivial⟩ (hR _ _ _ rfl ?_); clear hR R
      refine G.retN (G.dropAll (G.fin1 rfl rfl ?_))
      refine ⟨?_, rfl⟩
      rw [List.take_length, h10', List.take_length] at htk
      rw [decide_eq_true htk]

end Go.Proofs.Ytcghlfepfcagbaa
namespace Go.Jog
open Go Go.MapKept

/-- The iterator that has handed out the entries with these stamps. -/
def iterOf (bm n : Nat) (seen : List Nat) : Obj := .mapIter (some bm) n seen.toArray n

theorem mapEs_get {κ : Type} (enc : κ → Value) : ∀ (m : List (κ × Value)) (i j : Nat), (mapEs enc m i)[j]? = (m[j]?).map fun p => ⟨enc p.1, p.2, i + j⟩
  | [], i, j => by simp [mapEs]
  | (k, v) :: m, i, 0 => by simp [mapEs]
  | (k, v) :: m, i, j + 1 => by
    simp only [mapEs, List.getElem?_cons_succ, mapEs_get enc m (i + 1) j]
    cases m[j]? with
    | none => rfl
    | some p => simp; omega
theorem mapEs_mem {κ : Type} {enc : κ → Value} {m : List (κ × Value)} {e : MapEntry} (h : e ∈ mapEs enc m 0) : ∃ p, m[e.born]? = some p ∧ e.key = enc p.1 ∧ e.val = p.2 := by
  obtain ⟨j, hj⟩ := List.getElem?_of_mem h
  rw [mapEs_get] at hj
  cases hp : m[j]? with
  | none => rw [hp] at hj; cases hj
  | some p =>
    rw [hp] at hj
    cases hj
    exact ⟨p, by simpa using hp, rfl, rfl⟩
theorem mapEs_nodup {κ : Type} (enc : κ → Value) (m : List (κ × Value)) : ((mapEs enc m 0).map (·.born)).Nodup := by
  have : ∀ (m : List (κ × Value)) (i : Nat), (mapEs enc m i).map (·.born) = List.range' i m.length := by
    intro m
    induction m with
    | nil => intro i; rfl
    | cons p m ih => intro i; simp only [mapEs, List.map_cons, ih, List.length_cons, List.range'_succ]
  rw [this]
  exact List.nodup_range'

section
variable {cx : Cx} {n : Nat} {ds : List (Option Nat)} {R : Rg n ds} {its : List It} {fr : Fr} {C : Mem} {L : List Ent} {i k d : Nat} {o : Oper} {g : GL} {v : Value}
variable {kd : TypeDesc} {κ : Type} [DecidableEq κ] (K : KeyT kd κ)

theorem D.rangeMap {t kt et bm : Nat} {x : Operand} {m : List (κ × Value)} {ti : TI} (hc : C bm = some (mapOf K.enc m)) (hk : Nat.ble k 1 = false) (hd : o.dst = some d) (hg : gOn ds fr o.guard = true) (hop : o.op = .range t x) (hx : ev fr [] x = some (.map (some bm)))
    (ht : cx.T.get t = some ti) (htk : ti.k = .map kt et) (hp : ∀ v, okPut n ds ((d, [], v) :: fr) d = true)
    (h : ∀ b, D cx R its ((d, [], .pointer (some ⟨b, 0, none⟩)) :: fr) C (.obj b (iterOf bm m.length []) :: L)) : D cx R ((i, k, o) :: its) fr C L :=
  D.eff (S := fun v C' L' => C' = C ∧ ∃ b, v = .pointer (some ⟨b, 0, none⟩) ∧ L' = .obj b (iterOf bm m.length []) :: L) hk hd hg hp (fun a hs w _ hw => by
    have hb : w.heap[bm]? = some (mapOf K.enc m) := hw.sep.c _ _ hc
    have hu := und_mapK cx.hT ht htk
    have hex : (execOp a.eval o).run cx.P w = .ok (.value (.pointer (some ⟨w.heap.size, 0, none⟩))) (w.alloc (iterOf bm m.length [])) := by
      have e1 : execOp a.eval o = (do Pure.pure (.value (← Instr.range t (a.eval x))) : Sem Next) := by unfold execOp; rw [hop]
      rw [e1, hs _ _ hx]
      simp only [Sem.run_bind, run_range_map w t kt et bm _ _ hu hb, Result.andThen_ok, Sem.run_pure]
      rfl
    unfold Oper.wp
    rw [hex]
    exact ⟨_, C, .obj w.heap.size (iterOf bm m.length []) :: L, rfl, Mem.le.refl _, fun _ x hx => by simp [hx], St.alloc hw _, rfl, _, rfl, rfl⟩)
    (fun v C' L' _ ⟨e1, b, e2, e3⟩ => by subst e1; subst e2; subst e3; exact h b)

theorem mem_leftOf {κ : Type} {enc : κ → Value} {m : List (κ × Value)} {seen : List Nat} {j : Nat} {p : κ × Value} (hj : m[j]? = some p) (hs : j ∉ seen) : (⟨enc p.1, p.2, j⟩ : MapEntry) ∈ (leftOf (mapEs enc m 0).toArray seen.toArray).toList := by
  unfold leftOf
  simp only [Array.toList_filter, List.mem_filter]
  refine ⟨?_, ?_⟩
  · refine List.mem_of_getElem? (i := j) ?_
    rw [mapEs_get, hj]; simp
  · simpa using hs

theorem D.nextMap {b q bm : Nat} {x : Operand} {m : List (κ × Value)} {seen : List Nat} (hc : C bm = some (mapOf K.enc m)) (hk : k = 3) (hd : o.dst = some d) (hg : gOn ds fr o.guard = true) (hop : o.op = .next x false) (hx : ev fr [] x = some (.pointer (some ⟨b, 0, none⟩)))
    (hm : L[q]? = some (.obj b (iterOf bm m.length seen))) (hp : ∀ v, okPut n ds ((d, [], v) :: fr) d = true)
    (h : ∀ (go : Bool) (rest : List Value) (seen' : List Nat), (go = false ∧ seen' = seen ∧ ∀ j, j < m.length → j ∈ seen) ∨ (go = true ∧ ∃ j, j < m.length ∧ j ∉ seen ∧ seen' = seen ++ [j]) →
      D cx R its ((d, [], .tuple ⟨.bool go :: rest⟩) :: fr) C (.obj b (iterOf bm m.length seen') :: L.eraseIdx q)) : D cx R ((i, k, o) :: its) fr C L :=
  D.eff (S := fun v C' L' => C' = C ∧ ∃ (go : Bool) (rest : List Value) (seen' : List Nat), ((go = false ∧ seen' = seen ∧ ∀ j, j < m.length → j ∈ seen) ∨ (go = true ∧ ∃ j, j < m.length ∧ j ∉ seen ∧ seen' = seen ++ [j])) ∧ v = .tuple ⟨.bool go :: rest⟩ ∧ L' = .obj b (iterOf bm m.length seen') :: L.eraseIdx q) (by subst hk; rfl) hd hg hp (fun a hs w _ hw => by
    have hw' := St.perm hw (ent_perm hm)
    have hb : w.heap[b]? = some (iterOf bm m.length seen) := hw'.sep.e _ (List.mem_cons_self ..)
    have hbm : w.heap[bm]? = some (mapOf K.enc m) := hw.sep.c _ _ hc
    have e1 : execOp a.eval o = (do Pure.pure (.value (← Instr.next (a.eval x) false 0)) : Sem Next) := by unfold execOp; rw [hop]; rfl
    have hold : ∀ x ∈ (mapEs K.enc m 0).toArray.toList, x.born < m.length := fun x hx => by
      obtain ⟨p, h1, _⟩ := mapEs_mem (show x ∈ mapEs K.enc m 0 by simpa using hx)
      exact (List.getElem?_eq_some_iff.1 h1).1
    have hg1 : ∀ w : World, w.heap[b]? = some (iterOf bm m.length seen) → (getObj b).run cx.P w = .ok (iterOf bm m.length seen) w := fun w h => by
      simp only [getObj, Sem.run, h, iterOf]
    have hrun : (∀ j, j < m.length → j ∈ seen) ∧ (Instr.next (.pointer (some ⟨b, 0, none⟩)) false 0).run cx.P w = .ok (.tuple #[.bool false]) w ∨
        ∃ (j : Nat) (p : κ × Value) (w1 : World), m[j]? = some p ∧ j ∉ seen ∧ w1.heap = w.heap ∧ w1.os = w.os ∧ w1.tape = w.tape ∧ w1.output = w.output ∧ w.drawn ≤ w1.drawn ∧
          (Instr.next (.pointer (some ⟨b, 0, none⟩)) false 0).run cx.P w = .ok (.tuple #[.bool true, K.enc p.1, p.2]) { w1 with heap := w1.heap.setIfInBounds b (iterOf bm m.length (seen ++ [j])) } := by
      have hnx : (Instr.next (.pointer (some ⟨b, 0, none⟩)) false 0).run cx.P w = (do
          let candidates := (if (leftOf (mapEs K.enc m 0).toArray seen.toArray).isEmpty then #[none] else #[]) ++ (leftOf (mapEs K.enc m 0).toArray seen.toArray).map some
          match candidates[← choose (.mapNext candidates.size)]? with
          | some (some e) =>
            setObj b (.mapIter (some bm) m.length (seen.toArray.push e.born) m.length)
            Pure.pure (Value.tuple #[.bool true, e.key, e.val])
          | some none => Pure.pure (Value.tuple #[.bool false])
          | none => stuck "Next: no such candidate" : Sem Value).run cx.P w := by
        have hmem : ∀ x ∈ (leftOf (mapEs K.enc m 0).toArray seen.toArray).toList, x.born < m.length := fun x hx => hold x (mem_left hx).1
        have f1 : (leftOf (mapEs K.enc m 0).toArray seen.toArray).filter (fun x => decide (x.born < m.length)) = leftOf (mapEs K.enc m 0).toArray seen.toArray := Array.filter_eq_self.2 (fun x hx => by simpa using hmem x (by simpa using hx))
        have f2 : (leftOf (mapEs K.enc m 0).toArray seen.toArray).filter (fun x => decide (x.born ≥ m.length)) = #[] := by
          rw [Array.filter_eq_empty_iff]
          intro x hx
          have := hmem x (by simpa using hx)
          simp; omega
        unfold Instr.next
        simp only [Sem.run_bind, hg1 w hb, Result.andThen_ok, iterOf]
        have hg2 : (getObj bm).run cx.P w = .ok (.map (mapEs K.enc m 0).toArray m.length) w := Go.MapKept.run_getObj_map hbm
        simp only [Sem.run_bind, hg2, Result.andThen_ok, next_test_false seen.toArray (mapEs K.enc m 0).toArray m.length m.length hold (Nat.le_refl _), Bool.false_eq_true, if_false]
        unfold leftOf at f1 f2 ⊢
        simp only [f1, f2, Array.append_empty]
        refine congrArg _ (funext fun a => funext fun w' => ?_)
        congr 1
      rw [hnx]
      have hcorr : ∀ e ∈ (leftOf (mapEs K.enc m 0).toArray seen.toArray).toList, ∃ p, m[e.born]? = some p ∧ e.born ∉ seen ∧ e.key = K.enc p.1 ∧ e.val = p.2 := fun e he => by
        obtain ⟨h1, h2⟩ := mem_left he
        obtain ⟨p, h3, h4, h5⟩ := mapEs_mem (show e ∈ mapEs K.enc m 0 by simpa using h1)
        exact ⟨p, h3, by simpa using h2, h4, h5⟩
      have hall : (leftOf (mapEs K.enc m 0).toArray seen.toArray) = #[] → ∀ j, j < m.length → j ∈ seen := fun he j hj => by
        by_cases hs : j ∈ seen
        · exact hs
        · have := mem_leftOf (enc := K.enc) (List.getElem?_eq_getElem hj) hs
          rw [he] at this; cases this
      generalize leftOf (mapEs K.enc m 0).toArray seen.toArray = F at hcorr hall ⊢
      by_cases h0 : F.size = 0
      · have : F = #[] := Array.eq_empty_of_size_eq_zero h0
        subst this
        left
        refine ⟨hall rfl, ?_⟩
        simp [choose, Sem.run, Question.forced]
      · right
        have hne : F.isEmpty = false := by simp [Array.isEmpty, h0]
        simp only [hne, Bool.false_eq_true, if_false, Array.empty_append, Array.size_map]
        have hch : ∃ (j : Nat) (w1 : World), j < F.size ∧ w1.heap = w.heap ∧ w1.os = w.os ∧ w1.tape = w.tape ∧ w1.output = w.output ∧ w.drawn ≤ w1.drawn ∧ (choose (Question.mapNext F.size)).run cx.P w = .ok j w1 := by
          by_cases hf : F.size ≤ 1
          · exact ⟨0, w, by omega, rfl, rfl, rfl, rfl, Nat.le_refl _, by simp [choose, Sem.run, Question.forced, hf]⟩
          · exact ⟨_, w.drew, Nat.mod_lt _ (by omega), rfl, rfl, rfl, rfl, Nat.le_succ _, by
              simp only [choose, Sem.run, Question.forced, decide_eq_true_eq, hf, if_false, Question.cut]
              rfl⟩
        obtain ⟨j, w1, hj, hh, ho, htp, hou, hdr, hrun⟩ := hch
        obtain ⟨p, h1, h2, h3, h4⟩ := hcorr F[j] (by simp)
        refine ⟨F[j].born, p, w1, h1, h2, hh, ho, htp, hou, hdr, ?_⟩
        have hset : (setObj b (.mapIter (some bm) m.length (seen.toArray.push F[j].born) m.length)).run cx.P w1 = .ok () { w1 with heap := w1.heap.setIfInBounds b (iterOf bm m.length (seen ++ [F[j].born])) } := by
          have hb1 : w1.heap[b]? = some (iterOf bm m.length seen) := by rw [hh]; exact hb
          simp only [setObj, Sem.run, hb1, iterOf]
          simp
        simp only [hrun, Array.getElem?_map, Array.getElem?_eq_getElem hj, Option.map_some, Sem.run_bind, Result.andThen_ok, hset, Sem.run_pure, h3, h4]
    rw [show a.eval x = .pointer (some ⟨b, 0, none⟩) from hs _ _ hx] at e1
    unfold Oper.wp
    rw [e1]
    rcases hrun with ⟨h1, hr⟩ | ⟨j, p, w1, h1, h2, hh, ho, htp, hou, hdr, hr⟩
    · simp only [Sem.run_bind, hr, Result.andThen_ok, Sem.run_pure]
      exact ⟨_, C, .obj b (iterOf bm m.length seen) :: L.eraseIdx q, rfl, Mem.le.refl _, fun h2 => by omega, hw', rfl, false, [], seen, .inl ⟨rfl, rfl, h1⟩, rfl, rfl⟩
    · simp only [Sem.run_bind, hr, Result.andThen_ok, Sem.run_pure]
      have hw1 := hw'.same (w' := w1) ho htp hou hh hdr
      have hset := heap_set (o' := iterOf bm m.length (seen ++ [j])) (show w1.heap[b]? = _ from by rw [hh]; exact hb)
      exact ⟨_, C, .obj b (iterOf bm m.length (seen ++ [j])) :: L.eraseIdx q, rfl, Mem.le.refl _, fun h2 => by omega, St.put hw1 hset.1 hset.2 (by simp) rfl rfl rfl (Nat.le_refl _), rfl, true, [K.enc p.1, p.2], _,
        .inr ⟨rfl, j, (List.getElem?_eq_some_iff.1 h1).1, h2, rfl⟩, rfl, rfl⟩)
    (fun v C' L' _ ⟨e1, go, rest, seen', h1, e2, e3⟩ => by subst e1; subst e2; subst e3; exact h go rest seen' h1)

theorem D.entryMap {b bm j : Nat} {x : Operand} {m : List (κ × Value)} {seen : List Nat} {p : κ × Value} (hc : C bm = some (mapOf K.enc m)) (hj : m[j]? = some p) (hm : Ent.obj b (iterOf bm m.length (seen ++ [j])) ∈ L) (hk : k = 1) (hd : o.dst = some d) (hop : o.op = .entry x) (hg : gOf ds fr o.guard = some g) (hx : ev fr g x = some (.pointer (some ⟨b, 0, none⟩)))
    (hp : okPut n ds ((d, g, .tuple #[K.enc p.1, p.2]) :: fr) d = true) (hwf : wfG ds fr g = true)
    (h : D cx R its ((d, g, .tuple #[K.enc p.1, p.2]) :: fr) C L) : D cx R ((i, k, o) :: its) fr C L :=
  D.det (by subst hk; rfl) hd hg hp hwf (fun _ a hs κ' hκ w hw => by
    have hb : w.heap[b]? = some (iterOf bm m.length (seen ++ [j])) := hw.sep.e _ ((hκ hk).2 _ hm)
    have hbm : w.heap[bm]? = some (mapOf K.enc m) := hw.sep.c _ _ ((hκ hk).1 _ _ hc)
    have hf : (mapEs K.enc m 0).toArray.find? (·.born == j) = some ⟨K.enc p.1, p.2, j⟩ := by
      rw [← Array.find?_toList]
      refine find_born ⟨K.enc p.1, p.2, j⟩ _ (by simpa using mapEs_nodup K.enc m) ?_
      refine List.mem_of_getElem? (i := j) ?_
      simp [mapEs_get, hj]
    have hrun : (Instr.entry (.pointer (some ⟨b, 0, none⟩))).run cx.P w = .ok (.tuple #[K.enc p.1, p.2]) w := by
      have hg2 : (getObj bm).run cx.P w = .ok (.map (mapEs K.enc m 0).toArray m.length) w := Go.MapKept.run_getObj_map hbm
      have hg1 : (getObj b).run cx.P w = .ok (iterOf bm m.length (seen ++ [j])) w := by simp only [getObj, Sem.run, hb, iterOf]
      unfold Instr.entry
      simp only [Sem.run_bind, hg1, Result.andThen_ok, iterOf]
      have hbk : (seen ++ [j]).toArray.back? = some j := by simp
      simp only [hbk, hg2, Sem.run_bind, Result.andThen_ok, bne_self_eq_false, Bool.false_eq_true, if_false, hf, Sem.run_pure]
    have hex : (execOp a.eval o).run cx.P w = .ok (.value (.tuple #[K.enc p.1, p.2])) w := by
      have e1 : execOp a.eval o = (do Pure.pure (.value (← Instr.entry (a.eval x))) : Sem Next) := by unfold execOp; rw [hop]
      rw [e1, hs _ _ hx]
      simp only [Sem.run_bind, hrun, Result.andThen_ok, Sem.run_pure]
    unfold Oper.quietAt
    rw [hex]
    exact ⟨rfl, rfl⟩) h
end
end Go.Jog
namespace Go.Proofs.Ytcghlfepfcagbaa
open Go Go.Jog
set_option maxRecDepth 100000

/-- A map used as a set. -/
def setM (ks : List Str) : List (Str × Value) := ks.map fun s => (s, Value.bool true)
theorem mget_setM : ∀ {ks : List Str} {s : Str}, mget (setM ks) s = if s ∈ ks then some (.bool true) else none
  | [], s => by simp [setM, mget]
  | k :: ks, s => by
    have ih := mget_setM (ks := ks) (s := s)
    unfold setM at ih ⊢
    simp only [List.map_cons, mget, ih, List.mem_cons]
    by_cases e : k = s
    · subst e; simp
    · rw [if_neg e]
      have : ¬ s = k := fun h => e h.symm
      simp [this]
def addS (ks : List Str) (s : Str) : List Str := if s ∈ ks then ks else ks ++ [s]
theorem mset_setM : ∀ {ks : List Str} {s : Str}, mset (setM ks) s (.bool true) = setM (addS ks s)
  | [], s => by simp [setM, mset, addS]
  | k :: ks, s => by
    have ih := mset_setM (ks := ks) (s := s)
    unfold setM at ih ⊢
    simp only [List.map_cons, mset]
    by_cases e : k = s
    · subst e; simp [addS]
    · have e2 : ¬ s = k := fun h => e h.symm
      rw [if_neg e, ih]
      unfold addS
      by_cases h : s ∈ ks
      · simp [h]
      · simp [h, e2]
theorem mem_addS {ks : List Str} {s t : Str} : t ∈ addS ks s ↔ t = s ∨ t ∈ ks := by
  unfold addS
  split
  · rename_i h
    constructor
    · exact .inr
    · rintro (rfl | h2)
      · exact h
      · exact h2
  · rw [List.mem_append, List.mem_singleton, or_comm]
theorem addS_nodup {ks : List Str} {s : Str} (h : ks.Nodup) : (addS ks s).Nodup := by
  unfold addS
  split
  · exact h
  · rename_i h2
    rw [List.nodup_append]
    exact ⟨h, by simp, fun a ha b hb e => by rw [List.mem_singleton.1 hb] at e; subst e; exact h2 ha⟩
theorem addS_len (ks : List Str) (s : Str) : (addS ks s).length ≤ ks.length + 1 := by unfold addS; split <;> simp
theorem setM_len (ks : List Str) : (setM ks).length = ks.length := by simp [setM]
theorem lookS (ks : List Str) (s : Str) : lookV (.bool false) false (mget (setM ks) s) = .bool (decide (s ∈ ks)) := by
  rw [mget_setM]
  by_cases h : s ∈ ks <;> simp [h, lookV]

/-- There is a way from one unit to another. -/
def reachB (l : List Rel) (s t : Str) : Bool := decide (0 ≤ leastW (arcsOf l) (posS (unitsL l) t) (posS (unitsL l) s))
theorem reach_iff {l : List Rel} {s t : Str} (hs : s ∈ unitsL l) (ht : t ∈ unitsL l) : reachB l s t = true ↔ ∃ x, WayL l s x ∧ endL l s x = t := by
  unfold reachB
  rw [decide_eq_true_eq]
  rcases leastW_spec (arcsOf l) (posS (unitsL l) t) (posS (unitsL l) s) with ⟨h1, h2⟩ | ⟨k, h1, h2, _⟩
  · rw [h1]
    constructor
    · intro h; omega
    · rintro ⟨x, h3, h4⟩
      exact absurd ((walk_way hs ht).2 ⟨x, h3, rfl, h4⟩) (h2 _)
  · rw [h1]
    constructor
    · intro _
      obtain ⟨x, h3, _, h4⟩ := (walk_way hs ht).1 h2
      exact ⟨x, h3, h4⟩
    · intro _; omega
theorem reach_self {l : List Rel} {s : Str} (hs : s ∈ unitsL l) : reachB l s s = true := (reach_iff hs hs).2 ⟨[], trivial, rfl⟩
def mutB (l : List Rel) (a u : Str) : Bool := reachB l u a && reachB l a u
/-- The groups, one behind the other. -/
def knF (l : List Rel) : Nat → List Str → List (List Str)
  | 0, _ => []
  | _ + 1, [] => []
  | f + 1, a :: r => (a :: r).filter (mutB l a) :: knF l f ((a :: r).filter fun u => !mutB l a u)
/-- The units that are in cycles, in order. -/
def inU (l : List Rel) (q : List Nat) : List Str := (unitsL l).filter fun s => decide (s ∈ q.map (lowOf l))
theorem knF_nil (l : List Rel) : ∀ f, knF l f [] = []
  | 0 => rfl
  | _ + 1 => rfl
theorem knF_cons {l : List Rel} {f : Nat} {all : List Str} {a : Str} (h0 : all[0]? = some a) (hf : all.length ≤ f) : ∃ g, f = g + 1 ∧ knF l f all = all.filter (mutB l a) :: knF l g (all.filter fun u => !mutB l a u) := by
  cases all with
  | nil => simp at h0
  | cons b r =>
    simp only [List.getElem?_cons_zero, Option.some.injEq] at h0
    subst h0
    cases f with
    | zero => simp at hf
    | succ g => exact ⟨g, rfl, rfl⟩
theorem rest_less {l : List Rel} {all : List Str} {a : Str} (h0 : all[0]? = some a) (ha : a ∈ unitsL l) : (all.filter fun u => !mutB l a u).length < all.length := by
  cases all with
  | nil => simp at h0
  | cons b r =>
    simp only [List.getElem?_cons_zero, Option.some.injEq] at h0
    subst h0
    have hb : mutB l b b = true := by unfold mutB; rw [reach_self ha]; rfl
    rw [List.filter_cons, hb]
    have := List.length_filter_le (fun u => !mutB l b u) r
    simp; omega

def OutS (C : Mem) (ov : List Value) (outs : List (List Str)) : Prop := ov.length = outs.length ∧ ∀ (j : Nat) (v : Value) (o : List Str), ov[j]? = some v → outs[j]? = some o → Sl C 1 v (o.map encS)
theorem OutS.mono {C D : Mem} {ov : List Value} {outs : List (List Str)} (h : OutS C ov outs) (hl : C.le D) : OutS D ov outs := ⟨h.1, fun j v o h1 h2 => (h.2 j v o h1 h2).mono hl⟩
theorem OutS.snoc {C : Mem} {ov : List Value} {outs : List (List Str)} {v : Value} {o : List Str} (h : OutS C ov outs) (hv : Sl C 1 v (o.map encS)) : OutS C (ov ++ [v]) (outs ++ [o]) := by
  have h0 := h.1
  refine ⟨by simp [h0], fun j v' o' h1 h2 => ?_⟩
  rcases Nat.lt_or_ge j ov.length with hlt | hge
  · rw [List.getElem?_append_left hlt] at h1
    rw [List.getElem?_append_left (by omega)] at h2
    exact h.2 j v' o' h1 h2
  · rw [List.getElem?_append_right hge] at h1
    rw [List.getElem?_append_right (by omega), ← h0] at h2
    cases hj : j - ov.length with
    | zero => rw [hj] at h1 h2; simp at h1 h2; subst h1; subst h2; exact hv
    | succ q => rw [hj] at h1; simp at h1
theorem strict_of {l : List Str} (hn : l.Nodup) (hs : l.Pairwise fun x y => ltOf cmpS y x = false) : l.Pairwise fun x y => cmpS x y < 0 := by
  refine (List.Pairwise.and hn hs).imp (fun {a b} h => ?_)
  have h1 : ¬ cmpS b a < 0 := by simpa [ltOf] using h.2
  have h2 : ¬ cmpS a b = 0 := fun e => h.1 ((tot_cmpS.eq a b).1 e)
  have h3 : ¬ 0 < cmpS a b := fun e => h1 ((tot_cmpS.sym b a).2 e)
  omega
theorem sorted_inU {l : List Rel} {q : List Nat} {nm : List Str} (hq : ∀ i ∈ q, i < l.length) (hn : nm.Nodup) (hm : ∀ s, s ∈ nm ↔ s ∈ q.map (lowOf l)) : nm.mergeSort (fun x y => decide (x ≤ y)) = inU l q := by
  have hp := List.mergeSort_perm nm (fun x y => decide (x ≤ y))
  refine tot_cmpS.unique (strict_of (hp.nodup_iff.2 hn) (ms_sorted nm)) ((tot_cmpS.setL_strict _).filter _) (fun s => ?_)
  rw [hp.mem_iff, hm, inU, List.mem_filter, decide_eq_true_eq]
  constructor
  · intro h
    refine ⟨?_, h⟩
    obtain ⟨i, hi, rfl⟩ := List.mem_map.1 h
    exact (low_of_arc (hq i hi)).1
  · exact fun h => h.2
/-- All places have come, each once. -/
theorem seen_all {seen : List Nat} {ks : List Str} (hn : seen.Nodup) (hl : ∀ j ∈ seen, j < ks.length) (hall : ∀ j, j < ks.length → j ∈ seen) : (seen.map fun j => ks.getD j []).Perm ks := by
  have hp : seen.Perm (List.range ks.length) := (List.perm_ext_iff_of_nodup hn List.nodup_range).2 (fun j => by
    rw [List.mem_range]
    exact ⟨fun h => hl j h, fun h => hall j h⟩)
  refine (hp.map _).trans (List.Perm.of_eq ?_)
  refine List.ext_getElem? (fun i => ?_)
  rw [List.getElem?_map]
  rcases Nat.lt_or_ge i ks.length with h | h
  · rw [List.getElem?_range h]
    simp [List.getD_eq_getElem?_getD, List.getElem?_eq_getElem h]
  · rw [List.getElem?_eq_none (by simpa using h), List.getElem?_eq_none h]; rfl
theorem take_filter {α : Type} (p : α → Bool) {l : List α} {k : Nat} {x : α} (h : l[k]? = some x) : (l.take (k + 1)).filter p = (l.take k).filter p ++ if p x = true then [x] else [] := by
  rw [List.take_add_one, h, List.filter_append]
  congr 1
  simp [List.filter_cons]
def KnotsRes (C : Mem) (l : List Rel) (r : Value) : Prop :=
  (errU l ≠ 0 ∧ r = .tuple #[nilV, .int .i64 (errU l)]) ∨ (errU l = 0 ∧ ∃ q v ov, Invs l q l.length ∧ r = .tuple #[v, .int .i64 0] ∧ Sl C 1 v (ov.map fun x => [x]) ∧ OutS C ov (knF l (inU l q).length (inU l q)))
theorem dist_look {l : List Rel} {s t : Str} {ps : List (Str × Value)} {d : List Int} (hs : s ∈ unitsL l) (hd : IsDist (arcsOf l) (posS (unitsL l) t) (unitsL l).length d) (hds : DsOk (unitsL l) ps d) :
    ∃ n : Int, lookV (.int .i64 0) true (mget ps s) = .tuple #[.int .i64 n, .bool (reachB l s t)] := by
  have hmg := hds _ (posS_lt hs)
  rw [nameAt_pos hs] at hmg
  have hdd := hd.unique (distL_ok (arcsOf l) (posS (unitsL l) t) (unitsL l).length)
  have hat : dAt d (posS (unitsL l) s) = leastW (arcsOf l) (posS (unitsL l) t) (posS (unitsL l) s) := by
    rw [hdd]; exact dAt_get (by simp [distL, posS_lt hs])
  rw [hmg]
  unfold reachB
  rw [← hat]
  by_cases h : dAt d (posS (unitsL l) s) < 0
  · have h2 : ¬ 0 ≤ dAt d (posS (unitsL l) s) := by omega
    exact ⟨0, by simp [h, h2, lookV]⟩
  · have h2 : 0 ≤ dAt d (posS (unitsL l) s) := by omega
    exact ⟨dAt d (posS (unitsL l) s), by simp [h, h2, lookV]⟩
theorem inU_sub {l : List Rel} {q : List Nat} : ∀ s ∈ inU l q, s ∈ unitsL l := fun s h => (List.mem_filter.1 h).1
theorem inU_len (l : List Rel) (q : List Nat) : (inU l q).length ≤ 2 * l.length := by
  have := List.length_filter_le (fun s => decide (s ∈ q.map (lowOf l))) (unitsL l)
  have := unitsL_len l
  unfold inU; omega

set_option maxHeartbeats 8000000 in
theorem knots_fn (C : Mem) (v : Value) (l : List Rel) (hv : Sl C 3 v (l.map Rel.enc)) (hl : l.length ≤ 10000) (hsh : ∀ x ∈ l, x.short) : Pur cx.P 7 [v] C fun r C' => KnotsRes C' l r := by
  obtain ⟨A, c, rfl, _⟩ := id hv
  simp only [List.length_map] at hv ⊢
  have hl5 : l.length ≤ 100000 := by omega
  refine Fn.intro (by kernel_rfl) Try.func7 rfl 120 rfl rfl (fun w0 => ?_)
  refine G.region rfl (fun R hR => ?_)
  iterate 2 refine D.pure rfl rfl rfl rfl rfl rfl ?_
  refine D.done [(0, [], _)] ⟨rfl, trivial⟩ (hR _ _ _ rfl ?_); clear hR R
  refine G.region rfl (fun R hR => ?_)
  refine D.pure rfl rfl rfl rfl rfl rfl ?_
  refine D.gives2 (check_fn _ _ l (hv.mono (by (repeat (first | exact Mem.le.refl _ | assumption | (apply Mem.le.trans; rotate_left; assumption))))) hl5 hsh) rfl rfl rfl rfl rfl rfl rfl (fun _ => rfl) ?_
  refine D.pure rfl rfl rfl rfl rfl rfl ?_
  refine D.done [(0, [], _), (4, [], _)] ⟨rfl, rfl, trivial⟩ (hR _ _ _ rfl ?_); clear hR R
  refine G.region rfl (fun R hR => ?_)
  iterate 2 refine D.pure rfl rfl rfl rfl rfl rfl ?_
  refine D.done [(0, [], _), (4, [], _), (27, [], _)] ⟨rfl, rfl, rfl, trivial⟩ (hR _ _ _ rfl ?_); clear hR R
  refine G.cond rfl (fun h27 => ?_) (fun h27 => ?_)
  · skip
    have h27' : errU l ≠ 0 := by simpa using h27
    refine G.region rfl (fun R hR => ?_)
    iterate 3 refine D.pure rfl rfl rfl rfl rfl rfl ?_
    refine D.done [(2, [], _), (3, [], _)] ⟨rfl, rfl, trivial⟩ (hR _ _ _ rfl ?_); clear hR R
    refine G.retN (G.dropAll (G.fin2 rfl rfl rfl ?_))
    exact ⟨rfl, .inl ⟨h27', rfl⟩⟩
  · skip
    have h27' : errU l = 0 := by simpa using h27
    refine G.region rfl (fun R hR => ?_)
    refine D.pure rfl rfl rfl rfl rfl rfl ?_
    refine D.callP (open_fn _ _ l (hv.mono (by (repeat (first | exact Mem.le.refl _ | assumption | (apply Mem.le.trans; rotate_left; assumption))))) hl5) rfl rfl rfl rfl rfl rfl rfl (fun _ => rfl) (fun v30 C30 hle30 hq30 => ?_)
    have hG := hq30
    obtain ⟨bg, Ag, cg, bmg, psg, rfl, hgo, hgv, hgm, hgf⟩ := hq30.ok
    refine D.pure rfl rfl rfl rfl rfl rfl ?_
    refine D.done [(0, [], _), (5, [], _)] ⟨rfl, rfl, trivial⟩ (hR _ _ _ rfl ?_); clear hR R
    refine G.region rfl (fun R hR => ?_)
    refine D.makeMap keyS rfl rfl rfl rfl (fun _ => rfl) (fun b31 => ?_)
    refine D.pure rfl rfl rfl rfl rfl rfl ?_
    refine D.done [(0, [], _), (5, [], _), (6, [], _)] ⟨rfl, rfl, rfl, trivial⟩ (hR _ _ _ rfl ?_); clear hR R
    refine G.region rfl (fun R hR => ?_)
    refine D.pure rfl rfl rfl rfl rfl rfl ?_
    refine D.callP (involved_fn _ _ l (hG.mono (by (repeat (first | exact Mem.le.refl _ | assumption | (apply Mem.le.trans; rotate_left; assumption))))) hl5) rfl rfl rfl rfl rfl rfl rfl (fun _ => rfl) (fun v33 C33 hle33 hq33 => ?_)
    obtain ⟨q, hq, hqs⟩ := hq33
    have hql := invs_len hq
    obtain ⟨Aq, cq, hqe, _⟩ := id hqs
    rw [List.length_map] at hqe
    subst hqe
    iterate 2 refine D.pure rfl rfl rfl rfl rfl rfl ?_
    refine D.done [(0, [], _), (5, [], _), (6, [], _), (33, [], _), (34, [], _), (35, [], _)] ⟨rfl, rfl, rfl, rfl, rfl, rfl, trivial⟩ (hR _ _ _ rfl ?_); clear hR R
    refine G.loop (fun fr C' L' μ => ∃ (k : Nat) (ks : List Str), (k ≤ q.length ∧ ks.Nodup ∧ (∀ s, s ∈ ks ↔ s ∈ (q.take k).map (lowOf l)) ∧ ks.length ≤ k) ∧ fr = [(0, [], .slice A l.length c), (5, [], .pointer (some ⟨bg, 0, none⟩)), (6, [], .map (some b31)), (33, [], .slice Aq q.length cq), (34, [], .int .i64 q.length), (35, [], .int .i64 k)] ∧ L' = [.obj b31 (mapOf keyS.enc (setM ks))] ∧ μ = q.length - k) (fr' := [(0, [], _), (5, [], _), (6, [], _), (33, [], _), (34, [], _), (35, [], _)]) ⟨rfl, rfl, rfl, rfl, rfl, rfl, trivial⟩ ⟨0, [], ⟨Nat.zero_le _, List.nodup_nil, fun s => by simp, Nat.le_refl _⟩, rfl, rfl, rfl⟩ (fun fr C0' L0' m hle0 hI => ?_)
    obtain ⟨k, ks, ⟨hk, hkn, hks, hkl⟩, rfl, rfl, rfl⟩ := hI
    refine G.region rfl (fun R hR => ?_)
    refine D.pure rfl rfl rfl rfl rfl rfl ?_
    refine D.done [(0, [], _), (5, [], _), (6, [], _), (33, [], _), (34, [], _), (35, [], _), (36, [], _)] ⟨rfl, rfl, rfl, rfl, rfl, rfl, rfl, trivial⟩ (hR _ _ _ rfl ?_); clear hR R
    refine G.cond rfl (fun h36 => ?_) (fun h36 => ?_)
    · skip
      simp only [decide_eq_true_eq] at h36
      have hkq : k < q.length := by omega
      obtain ⟨i, hi⟩ : ∃ i, q[k]? = some i := ⟨q[k], List.getElem?_eq_getElem hkq⟩
      have hri : (q.map encN)[k]? = some (encN i) := by rw [List.getElem?_map, hi]; rfl
      have hil : i < l.length := ((hq.2 i).1 (List.mem_of_getElem? hi)).1
      obtain ⟨x, hx⟩ : ∃ x, l[i]? = some x := ⟨l[i], List.getElem?_eq_getElem hil⟩
      have hrx : (l.map Rel.enc)[i]? = some x.enc := by rw [List.getElem?_map, hx]; rfl
      have hlw : lowOf l i = x.lower := by unfold lowOf; rw [hx]
      refine G.region rfl (fun R hR => ?_)
      refine D.index0 (hqs.mono (by (repeat (first | exact Mem.le.refl _ | assumption | (apply Mem.le.trans; rotate_left; assumption))))) rfl rfl rfl rfl rfl rfl rfl rfl rfl rfl (by omega) hri (fun _ => rfl) (fun p37 hp37 => ?_)
      refine D.loadP0 hp37 rfl rfl rfl rfl rfl rfl rfl rfl ?_
      refine D.pure rfl rfl rfl rfl rfl rfl ?_
      refine D.done [(0, [], _), (5, [], _), (6, [], _), (8, [], _), (33, [], _), (34, [], _), (35, [], _)] ⟨rfl, rfl, rfl, rfl, rfl, rfl, rfl, trivial⟩ (hR _ _ _ rfl ?_); clear hR R
      refine G.region rfl (fun R hR => ?_)
      iterate 3 refine D.pure rfl rfl rfl rfl rfl rfl ?_
      refine D.index0 (hv.mono (by (repeat (first | exact Mem.le.refl _ | assumption | (apply Mem.le.trans; rotate_left; assumption))))) rfl rfl rfl rfl rfl rfl rfl rfl rfl rfl (by omega) hrx (fun _ => rfl) (fun p42 hp42 => ?_)
      refine D.fieldP0 hp42 rfl rfl rfl rfl rfl rfl rfl rfl rfl rfl (fun _ => rfl) (fun p43 hp43 => ?_)
      refine D.loadP0 hp43 rfl rfl rfl rfl rfl rfl rfl rfl ?_
      refine D.mapUpdate keyS (j := 0) rfl rfl rfl rfl rfl rfl rfl rfl rfl rfl (by kernel_rfl) ?_
      refine D.done [(0, [], _), (5, [], _), (6, [], _), (33, [], _), (34, [], _), (35, [], _)] ⟨rfl, rfl, rfl, rfl, rfl, rfl, trivial⟩ (hR _ _ _ rfl ?_); clear hR R
      refine G.region rfl (fun R hR => ?_)
      refine D.i64 _ rfl rfl rfl rfl rfl (by omega) (by omega) rfl rfl ?_
      refine D.pure rfl rfl rfl rfl rfl rfl ?_
      refine D.done [(0, [], _), (5, [], _), (6, [], _), (33, [], _), (34, [], _), (35, [], _)] ⟨rfl, rfl, rfl, rfl, rfl, rfl, trivial⟩ (hR _ _ _ rfl ?_); clear hR R
      rw [mset_setM]
      refine G.again (m' := q.length - (k + 1)) (by omega) (by (repeat (first | exact Mem.le.refl _ | assumption | (apply Mem.le.trans; rotate_left; assumption)))) (fr' := [(0, [], _), (5, [], _), (6, [], _), (33, [], _), (34, [], _), (35, [], _)]) ⟨rfl, rfl, rfl, rfl, rfl, rfl, trivial⟩ ⟨k + 1, addS ks x.lower, ⟨by omega, addS_nodup hkn, fun s => by
        rw [mem_addS, hks, List.take_add_one, hi, List.map_append, List.mem_append]
        simp [hlw, or_comm], by have := addS_len ks x.lower; omega⟩, rfl, rfl, rfl⟩
    · skip
      simp only [decide_eq_false_iff_not] at h36
      have hkq : k = q.length := by omega
      subst hkq
      rw [List.take_length] at hks
      refine G.freeze 0 rfl (fun Cm hlem hmap => ?_)
      refine G.region rfl (fun R hR => ?_)
      refine D.pure rfl rfl rfl rfl rfl rfl ?_
      refine D.done [(5, [], _), (6, [], _), (9, [], _)] ⟨rfl, rfl, rfl, trivial⟩ (hR _ _ _ rfl ?_); clear hR R
      refine G.region rfl (fun R hR => ?_)
      refine D.pure rfl rfl rfl rfl rfl rfl ?_
      refine D.rangeMap keyS (Mem.get hmap (by (repeat (first | exact Mem.le.refl _ | assumption | (apply Mem.le.trans; rotate_left; assumption))))) rfl rfl rfl rfl rfl rfl rfl (fun _ => rfl) (fun b47 => ?_)
      refine D.done [(5, [], _), (9, [], _), (47, [], _)] ⟨rfl, rfl, rfl, trivial⟩ (hR _ _ _ rfl ?_); clear hR R
      refine G.nilArr 9 1 (G.perm (L' := [.obj b47 (iterOf b31 (setM ks).length []), .arr (.slice none 0 0) 9 1 0 []]) (List.Perm.swap _ _ _) ?_)
      refine G.loop (fun fr C' L' μ => ∃ (seen : List Nat) (w : Value), (seen.Nodup ∧ (∀ j ∈ seen, j < ks.length) ∧ seen.length ≤ ks.length) ∧ fr = [(5, [], .pointer (some ⟨bg, 0, none⟩)), (9, [], w), (47, [], .pointer (some ⟨b47, 0, none⟩))] ∧ L' = [.obj b47 (iterOf b31 (setM ks).length seen), .arr w 9 1 seen.length ((seen.map fun j => ks.getD j []).map strV)] ∧ μ = ks.length - seen.length) (fr' := [(5, [], _), (9, [], _), (47, [], _)]) ⟨rfl, rfl, rfl, trivial⟩ ⟨[], _, ⟨List.nodup_nil, fun j hj => (by cases hj), Nat.zero_le _⟩, rfl, rfl, rfl⟩ (fun fr C1' L1' m hle1 hI => ?_)
      obtain ⟨seen, w, ⟨hsn, hsl, hsk⟩, rfl, rfl, rfl⟩ := hI
      refine G.region rfl (fun R hR => ?_)
      refine D.nextMap keyS (q := 0) (Mem.get hmap (by (repeat (first | exact Mem.le.refl _ | assumption | (apply Mem.le.trans; rotate_left; assumption))))) rfl rfl rfl rfl rfl rfl (fun _ => rfl) (fun go48 rs48 sn48 hn48 => ?_)
      refine D.pure rfl rfl rfl rfl rfl rfl ?_
      refine D.done [(5, [], _), (9, [], _), (47, [], _), (49, [], _)] ⟨rfl, rfl, rfl, rfl, trivial⟩ (hR _ _ _ rfl ?_); clear hR R
      refine G.cond rfl (fun h49 => ?_) (fun h49 => ?_)
      · skip
        obtain ⟨hgo1, j, hj, hjs, rfl⟩ : go48 = true ∧ ∃ j, j < (setM ks).length ∧ j ∉ seen ∧ sn48 = seen ++ [j] := by
          rcases hn48 with ⟨h1, _⟩ | h1
          · rw [h1] at h49; cases h49
          · exact h1
        rw [setM_len] at hj
        obtain ⟨s, hs⟩ : ∃ s, ks[j]? = some s := ⟨ks[j], List.getElem?_eq_getElem hj⟩
        have hsm : (setM ks)[j]? = some (s, Value.bool true) := by unfold setM; rw [List.getElem?_map, hs]; rfl
        have hgd : ks.getD j [] = s := by rw [List.getD_eq_getElem?_getD, hs]; rfl
        have hsn2 : (seen ++ [j]).Nodup := by
          rw [List.nodup_append]
          exact ⟨hsn, by simp, fun a ha b hb e => by rw [List.mem_singleton.1 hb] at e; subst e; exact hjs ha⟩
        have hsl2 : ∀ i ∈ seen ++ [j], i < ks.length := fun i hi => by
          rcases List.mem_append.1 hi with h | h
          · exact hsl i h
          · rw [List.mem_singleton.1 h]; exact hj
        have hslen : (seen ++ [j]).length ≤ ks.length := by
          have := List.Nodup.length_le_of_subset hsn2 (l₂ := List.range ks.length) (fun i hi => List.mem_range.2 (hsl2 i hi))
          simpa using this
        have hslen' : seen.length + 1 ≤ ks.length := by simpa using hslen
        have hslen3 : (seen ++ [j]).length = seen.length + 1 := by simp
        refine G.region rfl (fun R hR => ?_)
        refine D.entryMap keyS (Mem.get hmap (by (repeat (first | exact Mem.le.refl _ | assumption | (apply Mem.le.trans; rotate_left; assumption))))) hsm (.head _) rfl rfl rfl rfl rfl rfl rfl ?_
        iterate 2 refine D.pure rfl rfl rfl rfl rfl rfl ?_
        refine D.done [(5, [], _), (9, [], _), (10, [], _), (47, [], _)] ⟨rfl, rfl, rfl, rfl, trivial⟩ (hR _ _ _ rfl ?_); clear hR R
        refine G.region rfl (fun R hR => ?_)
        iterate 2 refine D.pure rfl rfl rfl rfl rfl rfl ?_
        refine D.buildSlice [encS s] rfl rfl rfl rfl rfl rfl rfl rfl rfl rfl rfl rfl (fun _ => rfl) (fun p54 C54 hle54 hs54 => ?_)
        refine D.append (j := 1) rfl rfl rfl rfl rfl rfl rfl rfl rfl rfl rfl hs54 rfl (by simp only [List.length_singleton, maxLen]; omega) (by simp only [List.length_singleton]; omega) (fun _ => rfl) (fun v55 => ?_)
        refine D.pure rfl rfl rfl rfl rfl rfl ?_
        refine D.done [(5, [], _), (9, [], _), (47, [], _)] ⟨rfl, rfl, rfl, trivial⟩ (hR _ _ _ rfl ?_); clear hR R
        refine G.perm (L' := [.obj b47 (iterOf b31 (setM ks).length (seen ++ [j])), .arr v55 9 1 (seen ++ [j]).length (((seen ++ [j]).map fun j => ks.getD j []).map strV)]) (by
          rw [List.map_append, List.map_append, List.map_cons, List.map_cons, hgd]
          simpa [encS] using List.Perm.swap _ _ _) ?_
        refine G.again (m' := ks.length - (seen ++ [j]).length) (by omega) (by (repeat (first | exact Mem.le.refl _ | assumption | (apply Mem.le.trans; rotate_left; assumption)))) (fr' := [(5, [], _), (9, [], _), (47, [], _)]) ⟨rfl, rfl, rfl, trivial⟩ ⟨seen ++ [j], v55, ⟨hsn2, hsl2, hslen⟩, rfl, rfl, rfl⟩
      · skip
        obtain ⟨hgo0, rfl, hall⟩ : go48 = false ∧ sn48 = seen ∧ ∀ j, j < (setM ks).length → j ∈ seen := by
          rcases hn48 with h1 | ⟨h1, _⟩
          · exact h1
          · rw [h1] at h49; cases h49
        rw [setM_len] at hall
        obtain ⟨nm, hnm⟩ : ∃ nm, (sn48.map fun j => ks.getD j []) = nm := ⟨_, rfl⟩
        have hperm := seen_all hsn hsl hall
        rw [hnm] at hperm
        have hnl : nm.length = sn48.length := by rw [← hnm]; simp
        refine G.dropE 0 rfl ?_
        refine G.eqL (L' := [.arr w 9 1 nm.length (nm.map strV)]) (by rw [hnm, hnl]; rfl) ?_
        refine G.regionO [(1, 3)] rfl (fun R hR => ?_)
        refine D.pure rfl rfl rfl rfl rfl rfl ?_
        refine D.call (sortStr_fn Try.sortStr _ w 9 nm (by omega) (by kernel_rfl)) rfl (.inr (by decide)) rfl rfl rfl rfl rfl rfl (List.Perm.refl _) (fun _ => rfl) (fun v57 C57 L57 hle57 hq57 => ?_)
        refine D.done [(5, [], _), (9, [], _)] ⟨rfl, rfl, trivial⟩ (hR _ _ _ rfl ?_); clear hR R
        obtain ⟨rfl, rfl⟩ := hq57
        have hU := sorted_inU (l := l) (q := q) (nm := nm) (fun i hi => ((hq.2 i).1 hi).1) (hperm.nodup_iff.2 hkn) (fun s => by rw [hperm.mem_iff]; exact hks s)
        obtain ⟨U, hUe⟩ : ∃ U, inU l q = U := ⟨_, rfl⟩
        have hUu : ∀ s ∈ U, s ∈ unitsL l := by rw [← hUe]; exact inU_sub
        have hUl : U.length ≤ 2 * l.length := by rw [← hUe]; exact inU_len l q
        rw [hUe] at hU
        have hnU : nm.length = U.length := by rw [← hU]; simp
        refine G.eqL (L' := [.arr w 9 1 U.length (U.map encS).flatten]) (by rw [hU, hnU, flat_enc]; rfl) ?_
        refine G.freezeArr 0 (U.map encS) rfl rfl (by intro r hr; obtain ⟨y, _, rfl⟩ := List.mem_map.1 hr; rfl) (by simp) (fun CU hleU hUs => ?_)
        refine G.region rfl (fun R hR => ?_)
        refine D.pure rfl rfl rfl rfl rfl rfl ?_
        refine D.done [(5, [], _), (9, [], _), (11, [], _)] ⟨rfl, rfl, rfl, trivial⟩ (hR _ _ _ rfl ?_); clear hR R
        refine G.nilArr 37 1 ?_
        refine G.loop (fun fr C' L' μ => ∃ (f : Nat) (all : List Str) (w2 wo : Value) (ov : List Value) (outs : List (List Str)), (all.length ≤ f ∧ (∀ s ∈ all, s ∈ unitsL l) ∧ Sl C' 1 w2 (all.map encS) ∧ OutS C' ov outs ∧ outs ++ knF l f all = knF l U.length U ∧ ov.length + all.length ≤ U.length) ∧ fr = [(5, [], .pointer (some ⟨bg, 0, none⟩)), (9, [], w2), (11, [], wo)] ∧ L' = [.arr wo 37 1 ov.length ov] ∧ μ = all.length) (fr' := [(5, [], _), (9, [], _), (11, [], _)]) ⟨rfl, rfl, rfl, trivial⟩ ⟨U.length, U, w, _, [], [], ⟨Nat.le_refl _, hUu, hUs.mono (by (repeat (first | exact Mem.le.refl _ | assumption | (apply Mem.le.trans; rotate_left; assumption)))), ⟨rfl, fun j v o h => by simp at h⟩, rfl, by simp⟩, rfl, rfl, rfl⟩ (fun fr C2' L2' m hle2 hI => ?_)
        obtain ⟨f, all, w2, wo, ov, outs, ⟨haf, hau, has, hout, hkn2, hol⟩, rfl, rfl, rfl⟩ := hI
        obtain ⟨A2, c2, rfl, _⟩ := id has
        simp only [List.length_map] at has ⊢
        refine G.region rfl (fun R hR => ?_)
        iterate 3 refine D.pure rfl rfl rfl rfl rfl rfl ?_
        refine D.done [(5, [], _), (9, [], _), (11, [], _), (60, [], _)] ⟨rfl, rfl, rfl, rfl, trivial⟩ (hR _ _ _ rfl ?_); clear hR R
        refine G.cond rfl (fun h60 => ?_) (fun h60 => ?_)
        · skip
          have h60' : 0 < all.length := by simpa using h60
          obtain ⟨a0, h0⟩ : ∃ a0, all[0]? = some a0 := ⟨all[0], List.getElem?_eq_getElem h60'⟩
          have hr0 : (all.map encS)[0]? = some (encS a0) := by rw [List.getElem?_map, h0]; rfl
          have ha0 := hau a0 (List.mem_of_getElem? h0)
          obtain ⟨g, rfl, hkc⟩ := knF_cons (l := l) h0 haf
          refine G.region rfl (fun R hR => ?_)
          iterate 2 refine D.pure rfl rfl rfl rfl rfl rfl ?_
          refine D.index0 (has.mono (by (repeat (first | exact Mem.le.refl _ | assumption | (apply Mem.le.trans; rotate_left; assumption))))) rfl rfl rfl rfl rfl rfl rfl rfl rfl rfl (by omega) hr0 (fun _ => rfl) (fun p63 hp63 => ?_)
          refine D.loadP0 hp63 rfl rfl rfl rfl rfl rfl rfl rfl ?_
          refine D.callP (dist_fn2 _ _ l a0 (hG.mono (by (repeat (first | exact Mem.le.refl _ | assumption | (apply Mem.le.trans; rotate_left; assumption))))) hl5 ha0) rfl rfl rfl rfl rfl rfl rfl (fun _ => rfl) (fun v65 C65 hle65 hq65 => ?_)
          obtain ⟨bt, pt, dt, rfl, hbt, hdistt, hdbt, hdst⟩ := hq65
          refine D.pure rfl rfl rfl rfl rfl rfl ?_
          refine D.done [(5, [], _), (9, [], _), (11, [], _), (12, [], _)] ⟨rfl, rfl, rfl, rfl, trivial⟩ (hR _ _ _ rfl ?_); clear hR R
          refine G.region rfl (fun R hR => ?_)
          refine D.makeMap keyS rfl rfl rfl rfl (fun _ => rfl) (fun b66 => ?_)
          refine D.pure rfl rfl rfl rfl rfl rfl ?_
          refine D.done [(5, [], _), (9, [], _), (11, [], _), (12, [], _), (13, [], _)] ⟨rfl, rfl, rfl, rfl, rfl, trivial⟩ (hR _ _ _ rfl ?_); clear hR R
          refine G.region rfl (fun R hR => ?_)
          iterate 3 refine D.pure rfl rfl rfl rfl rfl rfl ?_
          refine D.done [(5, [], _), (9, [], _), (11, [], _), (12, [], _), (13, [], _), (67, [], _), (68, [], _), (69, [], _)] ⟨rfl, rfl, rfl, rfl, rfl, rfl, rfl, rfl, trivial⟩ (hR _ _ _ rfl ?_); clear hR R
          refine G.loop (fun fr C' L' μ => ∃ (k : Nat) (ks2 : List Str), (k ≤ all.length ∧ (∀ s, s ∈ ks2 ↔ s ∈ (all.take k).filter (reachB l a0))) ∧ fr = [(5, [], .pointer (some ⟨bg, 0, none⟩)), (9, [], .slice A2 all.length c2), (11, [], wo), (12, [], .map (some bt)), (13, [], .map (some b66)), (67, [], .slice A2 all.length c2), (68, [], .int .i64 all.length), (69, [], .int .i64 k)] ∧ L' = [.obj b66 (mapOf keyS.enc (setM ks2)), .arr wo 37 1 ov.length ov] ∧ μ = all.length - k) (fr' := [(5, [], _), (9, [], _), (11, [], _), (12, [], _), (13, [], _), (67, [], _), (68, [], _), (69, [], _)]) ⟨rfl, rfl, rfl, rfl, rfl, rfl, rfl, rfl, trivial⟩ ⟨0, [], ⟨Nat.zero_le _, fun s => by simp⟩, rfl, rfl, rfl⟩ (fun fr C3' L3' m hle3 hI => ?_)
          obtain ⟨k, ks2, ⟨hk3, hks2⟩, rfl, rfl, rfl⟩ := hI
          refine G.region rfl (fun R hR => ?_)
          refine D.pure rfl rfl rfl rfl rfl rfl ?_
          refine D.done [(5, [], _), (9, [], _), (11, [], _), (12, [], _), (13, [], _), (67, [], _), (68, [], _), (69, [], _), (70, [], _)] ⟨rfl, rfl, rfl, rfl, rfl, rfl, rfl, rfl, rfl, trivial⟩ (hR _ _ _ rfl ?_); clear hR R
          refine G.cond rfl (fun h70 => ?_) (fun h70 => ?_)
          · skip
            simp only [decide_eq_true_eq] at h70
            have hka : k < all.length := by omega
            obtain ⟨u, hu⟩ : ∃ u, all[k]? = some u := ⟨all[k], List.getElem?_eq_getElem hka⟩
            have hru : (all.map encS)[k]? = some (encS u) := by rw [List.getElem?_map, hu]; rfl
            have huu := hau u (List.mem_of_getElem? hu)
            have htk := take_filter (reachB l a0) hu
            refine G.region rfl (fun R hR => ?_)
            refine D.index0 (has.mono (by (repeat (first | exact Mem.le.refl _ | assumption | (apply Mem.le.trans; rotate_left; assumption))))) rfl rfl rfl rfl rfl rfl rfl rfl rfl rfl (by omega) hru (fun _ => rfl) (fun p71 hp71 => ?_)
            refine D.loadP0 hp71 rfl rfl rfl rfl rfl rfl rfl rfl ?_
            refine D.pure rfl rfl rfl rfl rfl rfl ?_
            refine D.done [(5, [], _), (9, [], _), (11, [], _), (12, [], _), (13, [], _), (15, [], _), (67, [], _), (68, [], _), (69, [], _)] ⟨rfl, rfl, rfl, rfl, rfl, rfl, rfl, rfl, rfl, trivial⟩ (hR _ _ _ rfl ?_); clear hR R
            refine G.draw [0, 1, 3, 4, 5, 2, 6, 7, 8, 9, 10, 11] [] rfl (by kernel_rfl) (fun R hB hR => ?_)
            iterate 3 refine D.pure rfl rfl rfl rfl rfl rfl ?_
            refine D.index0 (has.mono (by (repeat (first | exact Mem.le.refl _ | assumption | (apply Mem.le.trans; rotate_left; assumption))))) rfl rfl rfl rfl rfl rfl rfl rfl rfl rfl (by omega) hr0 (fun _ => rfl) (fun p78 hp78 => ?_)
            refine D.loadP0 hp78 rfl rfl rfl rfl rfl rfl rfl rfl ?_
            refine D.callP (dist_fn2 _ _ l u (hG.mono (by (repeat (first | exact Mem.le.refl _ | assumption | (apply Mem.le.trans; rotate_left; assumption))))) hl5 huu) rfl rfl rfl rfl rfl rfl rfl (fun _ => rfl) (fun v76 C76 hle76 hq76 => ?_)
            obtain ⟨bd, pd, d, rfl, hbd, hdist, hdb, hds⟩ := hq76
            obtain ⟨n80, hlv⟩ := dist_look ha0 hdist hds
            refine D.lookupC keyS (fun _ => (Mem.get hbd (by (repeat (first | exact Mem.le.refl _ | assumption | (apply Mem.le.trans; rotate_left; assumption)))))) rfl rfl rfl rfl rfl rfl rfl rfl (by kernel_rfl) rfl hlv rfl rfl ?_
            iterate 5 refine D.pure rfl rfl rfl rfl rfl rfl ?_
            refine D.done [(5, [], _), (9, [], _), (11, [], _), (12, [], _), (13, [], _), (15, [], _), (17, [], _), (67, [], _), (68, [], _), (69, [], _)] ⟨rfl, rfl, rfl, rfl, rfl, rfl, rfl, rfl, rfl, rfl, trivial⟩ (hR _ _ _ rfl ?_); clear hR hB R
            refine G.region rfl (fun R hR => ?_)
            refine D.pure rfl rfl rfl rfl rfl rfl ?_
            refine D.done [(5, [], _), (9, [], _), (11, [], _), (12, [], _), (13, [], _), (15, [], _), (67, [], _), (68, [], _), (69, [], _), (83, [], _)] ⟨rfl, rfl, rfl, rfl, rfl, rfl, rfl, rfl, rfl, rfl, trivial⟩ (hR _ _ _ rfl ?_); clear hR R
            refine G.cond rfl (fun h83 => ?_) (fun h83 => ?_)
            · skip
              have h83' : reachB l a0 u = true := by simpa using h83
              refine G.region rfl (fun R hR => ?_)
              iterate 2 refine D.pure rfl rfl rfl rfl rfl rfl ?_
              refine D.mapUpdate keyS (j := 0) rfl rfl rfl rfl rfl rfl rfl rfl rfl rfl (by kernel_rfl) ?_
              refine D.done [(5, [], _), (9, [], _), (11, [], _), (12, [], _), (13, [], _), (67, [], _), (68, [], _), (69, [], _)] ⟨rfl, rfl, rfl, rfl, rfl, rfl, rfl, rfl, trivial⟩ (hR _ _ _ rfl ?_); clear hR R
              refine G.region rfl (fun R hR => ?_)
              refine D.i64 _ rfl rfl rfl rfl rfl (by omega) (by omega) rfl rfl ?_
              refine D.pure rfl rfl rfl rfl rfl rfl ?_
              refine D.done [(5, [], _), (9, [], _), (11, [], _), (12, [], _), (13, [], _), (67, [], _), (68, [], _), (69, [], _)] ⟨rfl, rfl, rfl, rfl, rfl, rfl, rfl, rfl, trivial⟩ (hR _ _ _ rfl ?_); clear hR R
              rw [mset_setM]
              refine G.again (m' := all.length - (k + 1)) (by omega) (by (repeat (first | exact Mem.le.refl _ | assumption | (apply Mem.le.trans; rotate_left; assumption)))) (fr' := [(5, [], _), (9, [], _), (11, [], _), (12, [], _), (13, [], _), (67, [], _), (68, [], _), (69, [], _)]) ⟨rfl, rfl, rfl, rfl, rfl, rfl, rfl, rfl, trivial⟩ ⟨k + 1, addS ks2 u, ⟨by omega, fun s => by
                rw [mem_addS, hks2, htk, if_pos h83', List.mem_append, List.mem_singleton, or_comm]⟩, rfl, rfl, rfl⟩
            · skip
              have h83' : ¬ reachB l a0 u = true := by simpa using h83
              refine G.region rfl (fun R hR => ?_)
              refine D.i64 _ rfl rfl rfl rfl rfl (by omega) (by omega) rfl rfl ?_
              refine D.pure rfl rfl rfl rfl rfl rfl ?_
              refine D.done [(5, [], _), (9, [], _), (11, [], _), (12, [], _), (13, [], _), (67, [], _), (68, [], _), (69, [], _)] ⟨rfl, rfl, rfl, rfl, rfl, rfl, rfl, rfl, trivial⟩ (hR _ _ _ rfl ?_); clear hR R
              refine G.again (m' := all.length - (k + 1)) (by omega) (by (repeat (first | exact Mem.le.refl _ | assumption | (apply Mem.le.trans; rotate_left; assumption)))) (fr' := [(5, [], _), (9, [], _), (11, [], _), (12, [], _), (13, [], _), (67, [], _), (68, [], _), (69, [], _)]) ⟨rfl, rfl, rfl, rfl, rfl, rfl, rfl, rfl, trivial⟩ ⟨k + 1, ks2, ⟨by omega, fun s => by
                rw [hks2, htk, if_neg h83', List.append_nil]⟩, rfl, rfl, rfl⟩
          · skip
            simp only [decide_eq_false_iff_not] at h70
            have hka : k = all.length := by omega
            subst hka
            rw [List.take_length] at hks2
            refine G.freeze 0 rfl (fun C66 hle66 hb66 => ?_)
            refine G.region rfl (fun R hR => ?_)
            iterate 2 refine D.pure rfl rfl rfl rfl rfl rfl ?_
            refine D.done [(5, [], _), (9, [], _), (11, [], _), (12, [], _), (13, [], _), (18, [], _), (19, [], _)] ⟨rfl, rfl, rfl, rfl, rfl, rfl, rfl, trivial⟩ (hR _ _ _ rfl ?_); clear hR R
            refine G.region rfl (fun R hR => ?_)
            iterate 3 refine D.pure rfl rfl rfl rfl rfl rfl ?_
            refine D.done [(5, [], _), (11, [], _), (12, [], _), (13, [], _), (18, [], _), (19, [], _), (87, [], _), (88, [], _), (89, [], _)] ⟨rfl, rfl, rfl, rfl, rfl, rfl, rfl, rfl, rfl, trivial⟩ (hR _ _ _ rfl ?_); clear hR R
            refine G.nilArr 9 1 (G.nilArr 9 1 ?_)
            refine G.loop (fun fr C' L' μ => ∃ (k : Nat) (wk wr : Value), (k ≤ all.length) ∧ fr = [(5, [], .pointer (some ⟨bg, 0, none⟩)), (11, [], wo), (12, [], .map (some bt)), (13, [], .map (some b66)), (18, [], wk), (19, [], wr), (87, [], .slice A2 all.length c2), (88, [], .int .i64 all.length), (89, [], .int .i64 k)] ∧ L' = [.arr wk 9 1 ((all.take k).filter (mutB l a0)).length (((all.take k).filter (mutB l a0)).map encS).flatten, .arr wr 9 1 ((all.take k).filter fun u => !mutB l a0 u).length (((all.take k).filter fun u => !mutB l a0 u).map encS).flatten, .arr wo 37 1 ov.length ov] ∧ μ = all.length - k) (fr' := [(5, [], _), (11, [], _), (12, [], _), (13, [], _), (18, [], _), (19, [], _), (87, [], _), (88, [], _), (89, [], _)]) ⟨rfl, rfl, rfl, rfl, rfl, rfl, rfl, rfl, rfl, trivial⟩ ⟨0, _, _, Nat.zero_le _, rfl, rfl, rfl⟩ (fun fr C4' L4' m hle4 hI => ?_)
            obtain ⟨k, wk, wr, hk4, rfl, rfl, rfl⟩ := hI
            refine G.region rfl (fun R hR => ?_)
            refine D.pure rfl rfl rfl rfl rfl rfl ?_
            refine D.done [(5, [], _), (11, [], _), (12, [], _), (13, [], _), (18, [], _), (19, [], _), (87, [], _), (88, [], _), (89, [], _), (90, [], _)] ⟨rfl, rfl, rfl, rfl, rfl, rfl, rfl, rfl, rfl, rfl, trivial⟩ (hR _ _ _ rfl ?_); clear hR R
            refine G.cond rfl (fun h90 => ?_) (fun h90 => ?_)
            · skip
              simp only [decide_eq_true_eq] at h90
              have hka : k < all.length := by omega
              obtain ⟨u, hu⟩ : ∃ u, all[k]? = some u := ⟨all[k], List.getElem?_eq_getElem hka⟩
              have hru : (all.map encS)[k]? = some (encS u) := by rw [List.getElem?_map, hu]; rfl
              have huu := hau u (List.mem_of_getElem? hu)
              have htk1 := take_filter (mutB l a0) hu
              have htk2 := take_filter (fun u => !mutB l a0 u) hu
              have hfl1 := List.length_filter_le (mutB l a0) (all.take k)
              have hfl2 := List.length_filter_le (fun u => !mutB l a0 u) (all.take k)
              have hftk : (all.take k).length ≤ all.length := by rw [List.length_take]; omega
              obtain ⟨n96, hlv⟩ := dist_look huu hdistt hdst
              have hmu : mutB l a0 u = (reachB l u a0 && decide (u ∈ ks2)) := by
                unfold mutB
                congr 1
                rw [Bool.eq_iff_iff, decide_eq_true_eq, hks2, List.mem_filter]
                exact ⟨fun h => ⟨List.mem_of_getElem? hu, h⟩, fun h => h.2⟩
              refine G.region rfl (fun R hR => ?_)
              refine D.index0 (has.mono (by (repeat (first | exact Mem.le.refl _ | assumption | (apply Mem.le.trans; rotate_left; assumption))))) rfl rfl rfl rfl rfl rfl rfl rfl rfl rfl (by omega) hru (fun _ => rfl) (fun p91 hp91 => ?_)
              refine D.loadP0 hp91 rfl rfl rfl rfl rfl rfl rfl rfl ?_
              refine D.pure rfl rfl rfl rfl rfl rfl ?_
              refine D.done [(5, [], _), (11, [], _), (12, [], _), (13, [], _), (18, [], _), (19, [], _), (21, [], _), (87, [], _), (88, [], _), (89, [], _)] ⟨rfl, rfl, rfl, rfl, rfl, rfl, rfl, rfl, rfl, rfl, trivial⟩ (hR _ _ _ rfl ?_); clear hR R
              refine G.region rfl (fun R hR => ?_)
              iterate 2 refine D.pure rfl rfl rfl rfl rfl rfl ?_
              refine D.lookupC keyS (fun _ => (Mem.get hbt (by (repeat (first | exact Mem.le.refl _ | assumption | (apply Mem.le.trans; rotate_left; assumption)))))) rfl rfl rfl rfl rfl rfl rfl rfl (by kernel_rfl) rfl hlv rfl rfl ?_
              iterate 5 refine D.pure rfl rfl rfl rfl rfl rfl ?_
              refine D.done [(5, [], _), (11, [], _), (12, [], _), (13, [], _), (18, [], _), (19, [], _), (21, [], _), (23, [], _), (87, [], _), (88, [], _), (89, [], _)] ⟨rfl, rfl, rfl, rfl, rfl, rfl, rfl, rfl, rfl, rfl, rfl, trivial⟩ (hR _ _ _ rfl ?_); clear hR R
              refine G.region rfl (fun R hR => ?_)
              iterate 4 refine D.pure rfl rfl rfl rfl rfl rfl ?_
              refine D.lookupC keyS (fun _ => (Mem.get hb66 (by (repeat (first | exact Mem.le.refl _ | assumption | (apply Mem.le.trans; rotate_left; assumption)))))) rfl rfl rfl rfl rfl rfl rfl rfl (by kernel_rfl) rfl (lookS ks2 u) rfl rfl ?_
              refine D.pickAnd rfl rfl rfl rfl rfl rfl rfl rfl ?_
              refine D.done [(5, [], _), (11, [], _), (12, [], _), (13, [], _), (18, [], _), (19, [], _), (21, [], _), (87, [], _), (88, [], _), (89, [], _), (104, [], _)] ⟨rfl, rfl, rfl, rfl, rfl, rfl, rfl, rfl, rfl, rfl, rfl, trivial⟩ (hR _ _ _ rfl ?_); clear hR R
              refine G.cond rfl (fun h104 => ?_) (fun h104 => ?_)
              · skip
                have h104' : mutB l a0 u = true := by rw [hmu]; simpa using h104
                refine G.region rfl (fun R hR => ?_)
                iterate 2 refine D.pure rfl rfl rfl rfl rfl rfl ?_
                refine D.buildSlice [encS u] rfl rfl rfl rfl rfl rfl rfl rfl rfl rfl rfl rfl (fun _ => rfl) (fun p107 C107 hle107 hs107 => ?_)
                refine D.append (j := 0) rfl rfl rfl rfl rfl rfl rfl rfl rfl rfl rfl hs107 rfl (by simp only [List.length_singleton, maxLen]; omega) (by simp only [List.length_singleton]; omega) (fun _ => rfl) (fun v108 => ?_)
                refine D.pure rfl rfl rfl rfl rfl rfl ?_
                refine D.done [(5, [], _), (11, [], _), (12, [], _), (13, [], _), (18, [], _), (19, [], _), (87, [], _), (88, [], _), (89, [], _)] ⟨rfl, rfl, rfl, rfl, rfl, rfl, rfl, rfl, rfl, trivial⟩ (hR _ _ _ rfl ?_); clear hR R
                refine G.region rfl (fun R hR => ?_)
                refine D.i64 _ rfl rfl rfl rfl rfl (by omega) (by omega) rfl rfl ?_
                refine D.pure rfl rfl rfl rfl rfl rfl ?_
                refine D.done [(5, [], _), (11, [], _), (12, [], _), (13, [], _), (18, [], _), (19, [], _), (87, [], _), (88, [], _), (89, [], _)] ⟨rfl, rfl, rfl, rfl, rfl, rfl, rfl, rfl, rfl, trivial⟩ (hR _ _ _ rfl ?_); clear hR R
                refine G.eqL (L' := [.arr v108 9 1 ((all.take (k + 1)).filter (mutB l a0)).length (((all.take (k + 1)).filter (mutB l a0)).map encS).flatten, .arr wr 9 1 ((all.take (k + 1)).filter fun u => !mutB l a0 u).length (((all.take (k + 1)).filter fun u => !mutB l a0 u).map encS).flatten, .arr wo 37 1 ov.length ov]) (by
                  rw [htk1, htk2, if_pos h104', if_neg (by simp [h104'])]; simp) ?_
                refine G.again (m' := all.length - (k + 1)) (by omega) (by (repeat (first | exact Mem.le.refl _ | assumption | (apply Mem.le.trans; rotate_left; assumption)))) (fr' := [(5, [], _), (11, [], _), (12, [], _), (13, [], _), (18, [], _), (19, [], _), (87, [], _), (88, [], _), (89, [], _)]) ⟨rfl, rfl, rfl, rfl, rfl, rfl, rfl, rfl, rfl, trivial⟩ ⟨k + 1, v108, wr, by omega, rfl, rfl, rfl⟩
              · skip
                have h104' : mutB l a0 u = false := by rw [hmu]; simpa using h104
                refine G.region rfl (fun R hR => ?_)
                iterate 2 refine D.pure rfl rfl rfl rfl rfl rfl ?_
                refine D.buildSlice [encS u] rfl rfl rfl rfl rfl rfl rfl rfl rfl rfl rfl rfl (fun _ => rfl) (fun p111 C111 hle111 hs111 => ?_)
                refine D.append (j := 1) rfl rfl rfl rfl rfl rfl rfl rfl rfl rfl rfl hs111 rfl (by simp only [List.length_singleton, maxLen]; omega) (by simp only [List.length_singleton]; omega) (fun _ => rfl) (fun v112 => ?_)
                refine D.pure rfl rfl rfl rfl rfl rfl ?_
                refine D.done [(5, [], _), (11, [], _), (12, [], _), (13, [], _), (18, [], _), (19, [], _), (87, [], _), (88, [], _), (89, [], _)] ⟨rfl, rfl, rfl, rfl, rfl, rfl, rfl, rfl, rfl, trivial⟩ (hR _ _ _ rfl ?_); clear hR R
                refine G.region rfl (fun R hR => ?_)
                refine D.i64 _ rfl rfl rfl rfl rfl (by omega) (by omega) rfl rfl ?_
                refine D.pure rfl rfl rfl rfl rfl rfl ?_
                refine D.done [(5, [], _), (11, [], _), (12, [], _), (13, [], _), (18, [], _), (19, [], _), (87, [], _), (88, [], _), (89, [], _)] ⟨rfl, rfl, rfl, rfl, rfl, rfl, rfl, rfl, rfl, trivial⟩ (hR _ _ _ rfl ?_); clear hR R
                refine G.perm (L' := [.arr wk 9 1 ((all.take (k + 1)).filter (mutB l a0)).length (((all.take (k + 1)).filter (mutB l a0)).map encS).flatten, .arr v112 9 1 ((all.take (k + 1)).filter fun u => !mutB l a0 u).length (((all.take (k + 1)).filter fun u => !mutB l a0 u).map encS).flatten, .arr wo 37 1 ov.length ov]) (by
                  rw [htk1, htk2, if_neg (by simp [h104']), if_pos (by simp [h104'])]; simpa using List.Perm.swap _ _ _) ?_
                refine G.again (m' := all.length - (k + 1)) (by omega) (by (repeat (first | exact Mem.le.refl _ | assumption | (apply Mem.le.trans; rotate_left; assumption)))) (fr' := [(5, [], _), (11, [], _), (12, [], _), (13, [], _), (18, [], _), (19, [], _), (87, [], _), (88, [], _), (89, [], _)]) ⟨rfl, rfl, rfl, rfl, rfl, rfl, rfl, rfl, rfl, trivial⟩ ⟨k + 1, wk, v112, by omega, rfl, rfl, rfl⟩
            · skip
              simp only [decide_eq_false_iff_not] at h90
              have hka : k = all.length := by omega
              subst hka
              rw [List.take_length]
              refine G.freezeArr 0 ((all.filter (mutB l a0)).map encS) rfl rfl (by intro r hr; obtain ⟨y, _, rfl⟩ := List.mem_map.1 hr; rfl) (by simp) (fun Ck hlek hks => ?_)
              refine G.freezeArr 0 ((all.filter fun u => !mutB l a0 u).map encS) rfl rfl (by intro r hr; obtain ⟨y, _, rfl⟩ := List.mem_map.1 hr; rfl) (by simp) (fun Cr hler hrs => ?_)
              have hrl := rest_less h0 ha0
              obtain ⟨Ak, ck, rfl, _⟩ := id hks
              refine G.region rfl (fun R hR => ?_)
              iterate 2 refine D.pure rfl rfl rfl rfl rfl rfl ?_
              refine D.buildSlice [[.slice Ak ((all.filter (mutB l a0)).map encS).length ck]] rfl rfl rfl rfl rfl rfl rfl rfl rfl rfl rfl rfl (fun _ => rfl) (fun p116 C116 hle116 hs116 => ?_)
              refine D.append (j := 0) rfl rfl rfl rfl rfl rfl rfl rfl rfl rfl rfl hs116 rfl (by simp only [List.length_singleton, maxLen]; omega) (by simp only [List.length_singleton]; omega) (fun _ => rfl) (fun v117 => ?_)
              refine D.pure rfl rfl rfl rfl rfl rfl ?_
              refine D.done [(5, [], _), (11, [], _), (19, [], _)] ⟨rfl, rfl, rfl, trivial⟩ (hR _ _ _ rfl ?_); clear hR R
              refine G.region rfl (fun R hR => ?_)
              iterate 2 refine D.pure rfl rfl rfl rfl rfl rfl ?_
              refine D.done [(5, [], _), (9, [], _), (11, [], _)] ⟨rfl, rfl, rfl, trivial⟩ (hR _ _ _ rfl ?_); clear hR R
              refine G.eqL (L' := [.arr v117 37 1 (ov ++ [Value.slice Ak ((all.filter (mutB l a0)).map encS).length ck]).length (ov ++ [Value.slice Ak ((all.filter (mutB l a0)).map encS).length ck])]) (by simp) ?_
              refine G.again (m' := (all.filter fun u => !mutB l a0 u).length) (by omega) (by (repeat (first | exact Mem.le.refl _ | assumption | (apply Mem.le.trans; rotate_left; assumption)))) (fr' := [(5, [], _), (9, [], _), (11, [], _)]) ⟨rfl, rfl, rfl, trivial⟩ ⟨g, all.filter fun u => !mutB l a0 u, wr, v117, ov ++ [Value.slice Ak ((all.filter (mutB l a0)).map encS).length ck], outs ++ [all.filter (mutB l a0)], ⟨by omega, fun s hs => hau s (List.mem_filter.1 hs).1, hrs.mono (by (repeat (first | exact Mem.le.refl _ | assumption | (apply Mem.le.trans; rotate_left; assumption)))), (hout.mono (by (repeat (first | exact Mem.le.refl _ | assumption | (apply Mem.le.trans; rotate_left; assumption))))).snoc (hks.mono (by (repeat (first | exact Mem.le.refl _ | assumption | (apply Mem.le.trans; rotate_left; assumption))))), by rw [← hkn2, hkc]; simp, by simp; omega⟩, rfl, rfl, rfl⟩
        · skip
          have h60' : all = [] := by simpa using h60
          subst h60'
          rw [knF_nil, List.append_nil] at hkn2
          refine G.region rfl (fun R hR => ?_)
          iterate 3 refine D.pure rfl rfl rfl rfl rfl rfl ?_
          refine D.done [(2, [], _), (3, [], _)] ⟨rfl, rfl, trivial⟩ (hR _ _ _ rfl ?_); clear hR R
          refine G.eqL (L' := [.arr wo 37 1 ov.length (ov.map fun x => [x]).flatten]) (by rw [row1]) ?_
          refine G.freezeArr 0 (ov.map fun x => [x]) rfl rfl (by intro r hr; obtain ⟨y, _, rfl⟩ := List.mem_map.1 hr; rfl) (by simp) (fun Cf hf hsd => ?_)
          refine G.retN (G.dropAll (G.fin2 rfl rfl rfl ?_))
          exact ⟨rfl, .inr ⟨h27', q, _, ov, hq, rfl, hsd, by rw [hUe, ← hkn2]; exact hout.mono hf⟩⟩
end Go.Proofs.Ytcghlfepfcagbaa
namespace Go.Proofs.Ytcghlfepfcagbaa
open Go Go.Jog
set_option maxRecDepth 100000

end Go.Proofs.Ytcghlfepfcagbaa
namespace Go.Proofs.Ytcghlfepfcagbaa
open Go Go.Jog
set_option maxRecDepth 100000

end Go.Proofs.Ytcghlfepfcagbaa
namespace Go.Proofs.Ytcghlfepfcagbaa
open Go Go.Jog
set_option maxRecDepth 100000

theorem idx_unique {a b : List Nat} (ha : a.Pairwise (· < ·)) (hb : b.Pairwise (· < ·)) (h : ∀ x, x ∈ a ↔ x ∈ b) : a = b := by
  have hn : ∀ {l : List Nat}, l.Pairwise (· < ·) → l.Nodup := fun h => h.imp (fun h e => by omega)
  exact ((List.perm_ext_iff_of_nodup (hn ha) (hn hb)).2 h).eq_of_pairwise (le := (· < ·)) (fun x y _ _ h1 h2 => by omega) ha hb
/-- The involved relations, computed. -/
def invB (l : List Rel) (i : Nat) : Bool := arcB l i && reachB l (upOf l i) (lowOf l i)
def invL (l : List Rel) : List Nat := idxs (invB l) l.length
theorem inv_iff {l : List Rel} {i : Nat} (hi : i < l.length) : InvAt l i ↔ invB l i = true := by
  unfold invB
  obtain ⟨hl, hu⟩ := low_of_arc hi
  rw [Bool.and_eq_true, reach_iff hu hl]
  constructor
  · rintro ⟨a, h1, h2, j, h3⟩
    obtain ⟨x, k1, k2, k3⟩ := mem_arcs3.1 h1
    rw [h2] at k1 k3
    have e1 : upOf l i = x.upper := by unfold upOf; rw [k1]
    have e2 : lowOf l i = x.lower := by unfold lowOf; rw [k1]
    have e3 : a.up = posS (unitsL l) (upOf l i) := by rw [e1, k3]
    have e4 : a.lo = posS (unitsL l) (lowOf l i) := by rw [e2, k3]
    rw [e3, e4] at h3
    obtain ⟨y, y1, _, y3⟩ := (walk_way hu hl).1 h3
    exact ⟨by rw [arcB_at k1]; simp [k2], y, y1, y3⟩
  · rintro ⟨h1, y, y1, y2⟩
    obtain ⟨a, k1, k2, k3⟩ := closed_walk h1 y1 y2
    exact ⟨a, k1, k2, _, k3⟩
theorem idxs_mem {p : Nat → Bool} {n i : Nat} : i ∈ idxs p n ↔ i < n ∧ p i = true := by
  unfold idxs
  rw [mem_cat]
  constructor
  · rintro ⟨j, h1, h2⟩
    obtain ⟨h3, rfl⟩ := mem_oneIf.1 h2
    exact ⟨h1, h3⟩
  · rintro ⟨h1, h2⟩; exact ⟨i, h1, mem_oneIf.2 ⟨h2, rfl⟩⟩
theorem idxs_sorted (p : Nat → Bool) (n : Nat) : (idxs p n).Pairwise (· < ·) := by
  refine cat_pairwise (fun i _ => by unfold oneIf; split <;> simp) (fun i j hij _ x hx y hy => ?_)
  rw [(mem_oneIf.1 hx).2, (mem_oneIf.1 hy).2]; exact hij
theorem invs_eq {l : List Rel} {q : List Nat} (h : Invs l q l.length) : q = invL l := by
  refine idx_unique h.1 (idxs_sorted _ _) (fun i => ?_)
  rw [h.2 i]
  unfold invL
  rw [idxs_mem]
  constructor
  · rintro ⟨h1, h2⟩; exact ⟨h1, (inv_iff h1).1 h2⟩
  · rintro ⟨h1, h2⟩; exact ⟨h1, (inv_iff h1).2 h2⟩

/-! ### What the functions give for right lists -/
theorem cycs_ok {C : Mem} {l : List Rel} {r : Value} (hE : errU l = 0) (h : CycsRes C l r) : (200 < (cycL l).length ∧ r = .tuple #[nilV, .int .i64 4]) ∨ ((cycL l).length ≤ 200 ∧ ∃ v, r = .tuple #[v, .int .i64 0] ∧ LL C v (cycL l)) := by
  have hl : l.length ≤ 100000 := by have := errU_len hE; omega
  rcases h with ⟨h, _⟩ | ⟨_, m, hs, h⟩
  · exact absurd hE h
  · rw [← cycL_eq hl hs] at h
    rcases h with h | ⟨h1, v, ov, h2, h3, h4⟩
    · exact .inl h
    · exact .inr ⟨h1, v, h2, ov, h3, h4⟩
theorem knots_ok {C : Mem} {l : List Rel} {r : Value} (hE : errU l = 0) (h : KnotsRes C l r) : ∃ v ov, r = .tuple #[v, .int .i64 0] ∧ Sl C 1 v (ov.map fun x => [x]) ∧ OutS C ov (knF l (inU l (invL l)).length (inU l (invL l))) := by
  rcases h with ⟨h, _⟩ | ⟨_, q, v, ov, h1, h2, h3, h4⟩
  · exact absurd hE h
  · rw [invs_eq h1] at h4
    exact ⟨v, ov, h2, h3, h4⟩
theorem reps_ok {C : Mem} {l : List Rel} {r : Value} (hE : errU l = 0) (hi : (invL l).length ≤ 40) (h : RepsRes C l r) : 
    (∃ n, n ≤ 4 ∧ (∀ k, k < n → setsF l k [] = []) ∧ setsF l n [] ≠ [] ∧ ((200 < (repL l n).length ∧ r = .tuple #[nilV, .int .i64 4]) ∨ ((repL l n).length ≤ 200 ∧ ∃ v, r = .tuple #[v, .int .i64 0] ∧ LL C v (repL l n)))) ∨
     ((∀ k, k < 5 → setsF l k [] = []) ∧ r = .tuple #[nilV, .int .i64 4]) := by
  rcases h with ⟨h, _⟩ | ⟨_, q, hq, h⟩
  · exact absurd hE h
  · rw [invs_eq hq] at h
    rcases h with ⟨h, _⟩ | ⟨_, h⟩
    · omega
    · rcases h with ⟨n, h1, h2, h3, h4⟩ | h
      · refine .inl ⟨n, h1, h2, h3, ?_⟩
        rcases h4 with h4 | ⟨h4, v, ov, h5, h6, h7⟩
        · exact .inl h4
        · exact .inr ⟨h4, v, h5, ov, h6, h7⟩
      · exact .inr h

/-! ### The examples -/
def ka : Str := [65]
def kb : Str := [66]
def kc : Str := [67]
def k3l : List Rel := [⟨1, kb, ka⟩, ⟨1, kc, kb⟩, ⟨2, ka, kc⟩]
def k4l : List Rel := [⟨1, kb, ka⟩, ⟨1, kc, kb⟩, ⟨2, ka, kc⟩, ⟨2, ka, kb⟩]
theorem k3_made : Made k3l := by
  refine ⟨by decide, fun x hx => ?_⟩
  simp only [k3l, List.mem_cons, List.not_mem_nil, or_false] at hx
  rcases hx with rfl | rfl | rfl
  · exact ⟨by decide, by decide, 1, 0, by decide, by decide, by decide, rfl, rfl⟩
  · exact ⟨by decide, by decide, 2, 1, by decide, by decide, by decide, rfl, rfl⟩
  · exact ⟨by decide, by decide, 0, 2, by decide, by decide, by decide, rfl, rfl⟩
theorem k4_made : Made k4l := by
  refine ⟨by decide, fun x hx => ?_⟩
  simp only [k4l, List.mem_cons, List.not_mem_nil, or_false] at hx
  rcases hx with rfl | rfl | rfl | rfl
  · exact ⟨by decide, by decide, 1, 0, by decide, by decide, by decide, rfl, rfl⟩
  · exact ⟨by decide, by decide, 2, 1, by decide, by decide, by decide, rfl, rfl⟩
  · exact ⟨by decide, by decide, 0, 2, by decide, by decide, by decide, rfl, rfl⟩
  · exact ⟨by decide, by decide, 0, 1, by decide, by decide, by decide, rfl, rfl⟩
theorem k3_cyc : cycL k3l = [[0, 1, 2]] := by kernel_rfl
theorem k3_inv : invL k3l = [0, 1, 2] := by kernel_rfl
theorem k4_inv : invL k4l = [0, 1, 2, 3] := by kernel_rfl
theorem k3_knots : knF k3l (inU k3l [0, 1, 2]).length (inU k3l [0, 1, 2]) = [[ka, kb, kc]] := by kernel_rfl
theorem sortN_one (k : Nat) : sortN [k] = [k] := by simp [sortN]
theorem setsF_zero {l : List Rel} {g : List Nat} : setsF l 0 g = if cycL (woL l g) = [] then [sortN g] else [] := rfl
theorem k3_s0 : setsF k3l 0 [] = [] := by
  rw [setsF_zero, if_neg (by rw [show cycL (woL k3l []) = [[0, 1, 2]] by kernel_rfl]; simp)]
theorem k3_s1 : setsF k3l 1 [] = [[0], [1], [2]] := by
  have h0 : cycL (woL k3l []) = [[0, 1, 2]] := by kernel_rfl
  have h1 : cyc0 (woL k3l []) = [0, 1, 2] := by unfold cyc0; rw [h0]; rfl
  have e0 : cycL (woL k3l [0]) = [] := by kernel_rfl
  have e1 : cycL (woL k3l [1]) = [] := by kernel_rfl
  have e2 : cycL (woL k3l [2]) = [] := by kernel_rfl
  have hl : leftI [] k3l.length = [0, 1, 2] := by kernel_rfl
  simp only [setsF, h0, h1, hl]
  simp [e0, e1, e2, sortN_one]
theorem k3_rep : repL k3l 1 = [[0], [1], [2]] := by unfold repL; rw [k3_s1]; kernel_rfl
theorem k4_s0 : setsF k4l 0 [] = [] := by
  rw [setsF_zero, if_neg (by rw [show cycL (woL k4l []) = [[0, 3]] by kernel_rfl]; simp)]
theorem k4_s1 : setsF k4l 1 [] = [[0]] := by
  have h0 : cycL (woL k4l []) = [[0, 3]] := by kernel_rfl
  have h1 : cyc0 (woL k4l []) = [0, 3] := by unfold cyc0; rw [h0]; rfl
  have e0 : cycL (woL k4l [0]) = [] := by kernel_rfl
  have e3 : cycL (woL k4l [3]) = [[0, 1, 2]] := by kernel_rfl
  have hl : leftI [] k4l.length = [0, 1, 2, 3] := by kernel_rfl
  simp only [setsF, h0, h1, hl]
  simp [e0, e3, sortN_one]
theorem k4_rep : repL k4l 1 = [[0]] := by unfold repL; rw [k4_s1]; kernel_rfl
theorem rep_at {C : Mem} {l : List Rel} {r : Value} (hE : errU l = 0) (hi : (invL l).length ≤ 40) (h : RepsRes C l r) (h0 : setsF l 0 [] = []) (h1 : setsF l 1 [] ≠ []) (hlen : (repL l 1).length ≤ 200) : ∃ v, r = .tuple #[v, .int .i64 0] ∧ LL C v (repL l 1) := by
  rcases reps_ok hE hi h with ⟨n, hn, hno, hne, h2⟩ | ⟨h2, _⟩
  · have hn1 : n = 1 := by
      rcases Nat.lt_trichotomy n 1 with h3 | h3 | h3
      · have : n = 0 := by omega
        subst this; exact absurd h0 hne
      · exact h3
      · exact absurd (hno 1 h3) h1
    subst hn1
    rcases h2 with ⟨h2, _⟩ | ⟨_, h2⟩
    · omega
    · exact h2
  · exact absurd (h2 1 (by decide)) h1
theorem same_t (C : Mem) (va vb : Value) (x : List (List Nat)) (ha : LL C va x) (hb : LL C vb x) (hl : x.length ≤ 100000000) (h2 : ∀ y ∈ x, y.length ≤ 1000000) : Gives cx.P 8 [va, vb] C (.bool true) := by
  have := same_fn C va vb x x ha hb hl hl h2 h2
  simpa using this
theorem LL.one {C : Mem} {v w : Value} {a : List Nat} (hv : Sl C 1 v [[w]]) (hw : Sl C 1 w (a.map encN)) : LL C v [a] := ⟨[w], hv, rfl, fun j u o h1 h2 => by
  cases j with
  | zero => simp at h1 h2; subst h1; subst h2; exact hw
  | succ j => simp at h1⟩
theorem LL.three {C : Mem} {v w1 w2 w3 : Value} {a b c : List Nat} (hv : Sl C 1 v [[w1], [w2], [w3]]) (h1 : Sl C 1 w1 (a.map encN)) (h2 : Sl C 1 w2 (b.map encN)) (h3 : Sl C 1 w3 (c.map encN)) : LL C v [a, b, c] := ⟨[w1, w2, w3], hv, rfl, fun j u o k1 k2 => by
  match j with
  | 0 => simp at k1 k2; subst k1; subst k2; exact h1
  | 1 => simp at k1 k2; subst k1; subst k2; exact h2
  | 2 => simp at k1 k2; subst k1; subst k2; exact h3
  | j + 3 => simp at k1⟩
set_option maxHeartbeats 8000000 in
theorem known23_fn (C : Mem) : Pur cx.P 4 [] C fun u _ => u = .bool true := by
  refine Fn.intro (by kernel_rfl) Try.func4 rfl 83 rfl rfl (fun w0 => ?_)
  refine G.region rfl (fun R hR => ?_)
  refine D.pure rfl rfl rfl rfl rfl rfl ?_
  refine D.done [] trivial (hR _ _ _ rfl ?_); clear hR R
  refine G.region rfl (fun R hR => ?_)
  refine D.build [.int .i64 1, strV kb, strV ka] rfl rfl rfl rfl rfl rfl rfl rfl ?_
  refine D.build [.int .i64 1, strV kc, strV kb] rfl rfl rfl rfl rfl rfl rfl rfl ?_
  refine D.build [.int .i64 2, strV ka, strV kc] rfl rfl rfl rfl rfl rfl rfl rfl ?_
  refine D.buildSliceV (k3l.map Rel.enc) rfl rfl rfl rfl rfl rfl rfl rfl rfl rfl rfl rfl (fun _ => rfl) (fun b13 C13 hle13 hs13 => ?_)
  refine D.pure rfl rfl rfl rfl rfl rfl ?_
  refine D.done [(1, [], _)] ⟨rfl, trivial⟩ (hR _ _ _ rfl ?_); clear hR R
  refine G.region rfl (fun R hR => ?_)
  refine D.pure rfl rfl rfl rfl rfl rfl ?_
  refine D.callP (cycles_fn _ _ k3l hs13 (by decide) k3_made.short) rfl rfl rfl rfl rfl rfl rfl (fun _ => rfl) (fun v16 C16 hle16 hq16 => ?_)
  obtain ⟨vc, rfl, hvc⟩ : ∃ v, v16 = .tuple #[v, .int .i64 0] ∧ LL C16 v [[0, 1, 2]] := by
    rcases cycs_ok k3_made.err hq16 with ⟨h, _⟩ | ⟨_, h⟩
    · rw [k3_cyc] at h; simp at h
    · rw [k3_cyc] at h; exact h
  iterate 5 refine D.pure rfl rfl rfl rfl rfl rfl ?_
  refine D.done [(1, [], _), (2, [], _), (3, [], _)] ⟨rfl, rfl, rfl, trivial⟩ (hR _ _ _ rfl ?_); clear hR R
  refine G.region rfl (fun R hR => ?_)
  refine D.pure rfl rfl rfl rfl rfl rfl ?_
  refine D.callP (repairs_fn _ _ k3l (hs13.mono (by (repeat (first | exact Mem.le.refl _ | assumption | (apply Mem.le.trans; rotate_left; assumption))))) (by decide) k3_made.short) rfl rfl rfl rfl rfl rfl rfl (fun _ => rfl) (fun v21 C21 hle21 hq21 => ?_)
  obtain ⟨vr, rfl, hvr⟩ := rep_at k3_made.err (by rw [k3_inv]; decide) hq21 k3_s0 (by rw [k3_s1]; simp) (by rw [k3_rep]; decide)
  rw [k3_rep] at hvr
  iterate 5 refine D.pure rfl rfl rfl rfl rfl rfl ?_
  refine D.done [(1, [], _), (2, [], _), (3, [], _), (4, [], _), (5, [], _)] ⟨rfl, rfl, rfl, rfl, rfl, trivial⟩ (hR _ _ _ rfl ?_); clear hR R
  refine G.region rfl (fun R hR => ?_)
  refine D.pure rfl rfl rfl rfl rfl rfl ?_
  refine D.callP (knots_fn _ _ k3l (hs13.mono (by (repeat (first | exact Mem.le.refl _ | assumption | (apply Mem.le.trans; rotate_left; assumption))))) (by decide) k3_made.short) rfl rfl rfl rfl rfl rfl rfl (fun _ => rfl) (fun v26 C26 hle26 hq26 => ?_)
  obtain ⟨vk, ovk, rfl, hvk, hok⟩ := knots_ok k3_made.err hq26
  rw [k3_inv, k3_knots] at hok
  obtain ⟨w0, rfl⟩ : ∃ w0, ovk = [w0] := by
    have := hok.1
    match ovk, this with
    | [w0], _ => exact ⟨w0, rfl⟩
  have hw0 := hok.2 0 w0 _ rfl rfl
  obtain ⟨Ak, ck, rfl, _⟩ := id hvk
  obtain ⟨A0, c0, rfl, _⟩ := id hw0
  iterate 5 refine D.pure rfl rfl rfl rfl rfl rfl ?_
  refine D.done [(1, [], _), (2, [], _), (3, [], _), (4, [], _), (5, [], _), (6, [], _), (7, [], _)] ⟨rfl, rfl, rfl, rfl, rfl, rfl, rfl, trivial⟩ (hR _ _ _ rfl ?_); clear hR R
  refine G.region rfl (fun R hR => ?_)
  refine D.pure rfl rfl rfl rfl rfl rfl ?_
  refine D.build [.int .i64 2, strV ka, strV kb] rfl rfl rfl rfl rfl rfl rfl rfl ?_
  refine D.buildSlice [Rel.enc ⟨2, ka, kb⟩] rfl rfl rfl rfl rfl rfl rfl rfl rfl rfl rfl rfl (fun _ => rfl) (fun p32 C32 hle32 hs32 => ?_)
  refine D.appendC rfl rfl rfl rfl rfl rfl rfl rfl rfl rfl (hs13.mono (by (repeat (first | exact Mem.le.refl _ | assumption | (apply Mem.le.trans; rotate_left; assumption))))) hs32 (.inr (by decide)) (by decide) (by decide) (fun _ => rfl) (fun v33 C33 hle33 hs33 => ?_)
  refine D.callP (repairs_fn _ _ k4l hs33 (by decide) k4_made.short) rfl rfl rfl rfl rfl rfl rfl (fun _ => rfl) (fun v34 C34 hle34 hq34 => ?_)
  obtain ⟨vq, rfl, hvq⟩ := rep_at k4_made.err (by rw [k4_inv]; decide) hq34 k4_s0 (by rw [k4_s1]; simp) (by rw [k4_rep]; decide)
  rw [k4_rep] at hvq
  iterate 5 refine D.pure rfl rfl rfl rfl rfl rfl ?_
  refine D.done [(2, [], _), (3, [], _), (4, [], _), (5, [], _), (6, [], _), (7, [], _), (8, [], _), (9, [], _)] ⟨rfl, rfl, rfl, rfl, rfl, rfl, rfl, rfl, trivial⟩ (hR _ _ _ rfl ?_); clear hR R
  refine G.region rfl (fun R hR => ?_)
  iterate 4 refine D.pure rfl rfl rfl rfl rfl rfl ?_
  refine D.buildSliceV (([0, 1, 2] : List Nat).map encN) rfl rfl rfl rfl rfl rfl rfl rfl rfl rfl rfl rfl (fun _ => rfl) (fun b41 C41 hle41 hs41 => ?_)
  refine D.buildSliceV [[.slice (some ⟨b41, 0, none⟩) 3 3]] rfl rfl rfl rfl rfl rfl rfl rfl rfl rfl rfl rfl (fun _ => rfl) (fun b42 C42 hle42 hs42 => ?_)
  refine D.gives (fun _ => (same_t _ _ _ [[0, 1, 2]] (hvc.mono (by (repeat (first | exact Mem.le.refl _ | assumption | (apply Mem.le.trans; rotate_left; assumption))))) (LL.one hs42 (hs41.mono (by (repeat (first | exact Mem.le.refl _ | assumption | (apply Mem.le.trans; rotate_left; assumption)))))) (by decide) (by decide))) rfl rfl rfl rfl rfl rfl rfl rfl rfl ?_
  refine D.pickAnd rfl rfl rfl rfl rfl rfl rfl rfl ?_
  iterate 3 refine D.pure rfl rfl rfl rfl rfl rfl ?_
  refine D.pickAnd rfl rfl rfl rfl rfl rfl rfl rfl ?_
  iterate 2 refine D.pure rfl rfl rfl rfl rfl rfl ?_
  refine D.buildSliceV (([0] : List Nat).map encN) rfl rfl rfl rfl rfl rfl rfl rfl rfl rfl rfl rfl (fun _ => rfl) (fun b51 C51 hle51 hs51 => ?_)
  refine D.buildSliceV (([1] : List Nat).map encN) rfl rfl rfl rfl rfl rfl rfl rfl rfl rfl rfl rfl (fun _ => rfl) (fun b52 C52 hle52 hs52 => ?_)
  refine D.buildSliceV (([2] : List Nat).map encN) rfl rfl rfl rfl rfl rfl rfl rfl rfl rfl rfl rfl (fun _ => rfl) (fun b53 C53 hle53 hs53 => ?_)
  refine D.buildSliceV [[.slice (some ⟨b51, 0, none⟩) 1 1], [.slice (some ⟨b52, 0, none⟩) 1 1], [.slice (some ⟨b53, 0, none⟩) 1 1]] rfl rfl rfl rfl rfl rfl rfl rfl rfl rfl rfl rfl (fun _ => rfl) (fun b54 C54 hle54 hs54 => ?_)
  refine D.gives (fun _ => (same_t _ _ _ [[0], [1], [2]] (hvr.mono (by (repeat (first | exact Mem.le.refl _ | assumption | (apply Mem.le.trans; rotate_left; assumption))))) (LL.three (hs54.mono (by (repeat (first | exact Mem.le.refl _ | assumption | (apply Mem.le.trans; rotate_left; assumption))))) (hs51.mono (by (repeat (first | exact Mem.le.refl _ | assumption | (apply Mem.le.trans; rotate_left; assumption))))) (hs52.mono (by (repeat (first | exact Mem.le.refl _ | assumption | (apply Mem.le.trans; rotate_left; assumption))))) (hs53.mono (by (repeat (first | exact Mem.le.refl _ | assumption | (apply Mem.le.trans; rotate_left; assumption)))))) (by decide) (by decide))) rfl rfl rfl rfl rfl rfl rfl rfl rfl ?_
  refine D.pickAnd rfl rfl rfl rfl rfl rfl rfl rfl ?_
  iterate 3 refine D.pure rfl rfl rfl rfl rfl rfl ?_
  refine D.pickAnd rfl rfl rfl rfl rfl rfl rfl rfl ?_
  iterate 4 refine D.pure rfl rfl rfl rfl rfl rfl ?_
  refine D.pickAnd rfl rfl rfl rfl rfl rfl rfl rfl ?_
  iterate 2 refine D.pure rfl rfl rfl rfl rfl rfl ?_
  refine D.index rfl rfl rfl rfl rfl rfl rfl rfl rfl rfl (fun hg => ⟨(hvk.mono (by (repeat (first | exact Mem.le.refl _ | assumption | (apply Mem.le.trans; rotate_left; assumption))))), (by decide), rfl⟩) (fun _ => rfl) rfl (fun p68 hp68 => ?_)
  refine D.loadP rfl rfl rfl rfl rfl rfl hp68 rfl rfl rfl ?_
  iterate 2 refine D.pure rfl rfl rfl rfl rfl rfl ?_
  refine D.pickAnd rfl rfl rfl rfl rfl rfl rfl rfl ?_
  iterate 3 refine D.pure rfl rfl rfl rfl rfl rfl ?_
  refine D.pickAnd rfl rfl rfl rfl rfl rfl rfl rfl ?_
  iterate 2 refine D.pure rfl rfl rfl rfl rfl rfl ?_
  refine D.buildSliceV (([0] : List Nat).map encN) rfl rfl rfl rfl rfl rfl rfl rfl rfl rfl rfl rfl (fun _ => rfl) (fun b79 C79 hle79 hs79 => ?_)
  refine D.buildSliceV [[.slice (some ⟨b79, 0, none⟩) 1 1]] rfl rfl rfl rfl rfl rfl rfl rfl rfl rfl rfl rfl (fun _ => rfl) (fun b80 C80 hle80 hs80 => ?_)
  refine D.gives (fun _ => (same_t _ _ _ [[0]] (hvq.mono (by (repeat (first | exact Mem.le.refl _ | assumption | (apply Mem.le.trans; rotate_left; assumption))))) (LL.one hs80 (hs79.mono (by (repeat (first | exact Mem.le.refl _ | assumption | (apply Mem.le.trans; rotate_left; assumption)))))) (by decide) (by decide))) rfl rfl rfl rfl rfl rfl rfl rfl rfl ?_
  refine D.pickAnd rfl rfl rfl rfl rfl rfl rfl rfl ?_
  refine D.pure rfl rfl rfl rfl rfl rfl ?_
  refine D.done [(0, [], _)] ⟨rfl, trivial⟩ (hR _ _ _ rfl ?_); clear hR R
  refine G.retN (G.dropAll (G.fin1 rfl rfl ?_))
  exact ⟨rfl, rfl⟩
end Go.Proofs.Ytcghlfepfcagbaa
namespace Go.Proofs.Ytcghlfepfcagbaa
open Go Go.Jog Go.ChangeShapes Go.WideShapes Go.ChangeAt Go.RowKit
set_option maxRecDepth 100000

theorem own : ownKnob Try.prog.godebug = none := by kernel_rfl
section
variable {H : Type} {enc : TypeId × Value → H} {W : World} {spare : Nat → Bool} {held : Bool}
theorem u8_of {n : Nat} {c : Value} {y : DataW H × List MemPlace} (h : DataW.trod enc Try.prog W 0 spare held n 5 [c] = some y) : ∃ b : UInt8, c = .int .u8 b.toNat := by
  obtain ⟨m, h1, _, h3⟩ := DataW.trod_int Try.underlying5 h
  simp only [List.cons.injEq, and_true] at h1
  subst h1
  have hb : 0 ≤ m ∧ m < 256 := by
    simp [Lit.wf, IntKind.min, IntKind.max, IntKind.signed, IntKind.bits] at h3
    omega
  refine ⟨UInt8.ofNat m.toNat, ?_⟩
  congr 1
  simp only [UInt8.toNat_ofNat']
  omega
end

noncomputable def laidWorld (os : Os) : World := World.holding Try.prog os ⟨#[], #[], []⟩
theorem laidOut' : laidOutB Try.prog = true := by kernel_rfl
theorem gives_of {f : FuncId} {args : List Value} {C : Mem} (h : Pur cx.P f args C fun u _ => u = .bool true) : Gives cx.P f args C (.bool true) := Fn.mono h (fun v C' L' _ ⟨h1, h2⟩ => ⟨h2, h1⟩)
end Go.Proofs.Ytcghlfepfcagbaa
namespace Go.Proofs.Ytcghlfepfcagbaa
open Go Go.Jog
set_option maxRecDepth 100000

def nmA (i : Nat) : Str := [UInt8.ofNat (97 + i)]
def nmP (i : Nat) : Str := [UInt8.ofNat (112 + i)]
def plR (i : Nat) : List Rel := [⟨1, nmA i, nmP i⟩, ⟨2, nmP i, nmA i⟩]
def plL (k : Nat) : List Rel := cat plR k
def qlR : List Rel := [⟨1, [97], [98]⟩, ⟨1, [98], [97]⟩]
def qlL (k : Nat) : List Rel := cat (fun _ => qlR) k
theorem pl_err : ∀ k, k < 9 → errU (plL k) = 0 := by decide +kernel
theorem pl_cyc : ∀ k, k < 9 → (cycL (plL k)).length = k := by decide +kernel
theorem ql_err : errU (qlL 15) = 0 := by decide +kernel
theorem ql_cyc : 200 < (cycL (qlL 15)).length := by decide +kernel
def setsU (l : List Rel) : Nat → List Nat → List (List Nat)
  | 0, g => if cycL (woL l g) = [] then [g] else []
  | m + 1, g => if cycL (woL l g) = [] then [g] else (cyc0 (woL l g)).flatMap fun k => setsU l m (g ++ [(leftI g l.length).getD k 0])
theorem setsU_map (l : List Rel) : ∀ (m : Nat) (g : List Nat), setsF l m g = (setsU l m g).map sortN
  | 0, g => by simp only [setsF, setsU]; split <;> rfl
  | m + 1, g => by
    simp only [setsF, setsU]
    split
    · rfl
    · rw [List.map_flatMap]
      congr 1
      funext k
      exact setsU_map l m _
def ascB : List Nat → Bool
  | [] => true
  | [_] => true
  | a :: b :: l => decide (a < b) && ascB (b :: l)
theorem ascB_pw : ∀ {l : List Nat}, ascB l = true → l.Pairwise (· < ·)
  | [], _ => List.Pairwise.nil
  | [a], _ => by simp
  | a :: b :: l, h => by
    simp only [ascB, Bool.and_eq_true, decide_eq_true_eq] at h
    have ih := ascB_pw h.2
    refine List.pairwise_cons.2 ⟨fun x hx => ?_, ih⟩
    rcases List.mem_cons.1 hx with rfl | hx
    · exact h.1
    · exact Nat.lt_trans h.1 ((List.pairwise_cons.1 ih).1 x hx)
theorem sortN_asc {l : List Nat} (h : ascB l = true) : sortN l = l := by
  unfold sortN
  refine List.mergeSort_of_pairwise ((ascB_pw h).imp (fun {a b} hab => ?_))
  simp only [decide_eq_true_eq]; omega
theorem pl_none : ∀ k, k < 9 → ∀ n, n < 5 → n < k → setsU (plL k) n [] = [] := by decide +kernel
theorem pl_asc : ∀ k, k < 5 → (setsU (plL k) k []).all ascB = true := by decide +kernel
theorem pl_some : ∀ k, k < 5 → (setL cmpL (setsU (plL k) k [])).length = 2 ^ k := by decide +kernel
theorem pl_setsF {k : Nat} (hk : k < 5) : setsF (plL k) k [] = setsU (plL k) k [] := by
  rw [setsU_map]
  conv => rhs; rw [← List.map_id (setsU (plL k) k [])]
  refine List.map_congr_left (fun x hx => ?_)
  exact sortN_asc (List.all_eq_true.1 (pl_asc k hk) x hx)
theorem pl_rep {k : Nat} (hk : k < 5) : (repL (plL k) k).length = 2 ^ k := by
  unfold repL
  rw [pl_setsF hk]; exact pl_some k hk
theorem pl_short {k : Nat} : ∀ x ∈ plL k, x.short := fun x hx => by
  obtain ⟨i, _, h⟩ := mem_cat.1 hx
  simp only [plR, List.mem_cons, List.not_mem_nil, or_false] at h
  rcases h with rfl | rfl <;> exact ⟨by simp [nmA, nmP], by simp [nmA, nmP]⟩
theorem ql_short {k : Nat} : ∀ x ∈ qlL k, x.short := fun x hx => by
  obtain ⟨i, _, h⟩ := mem_cat.1 hx
  simp only [qlR, List.mem_cons, List.not_mem_nil, or_false] at h
  rcases h with rfl | rfl <;> exact ⟨by simp, by simp⟩
theorem pl_len : ∀ k, (plL k).length = 2 * k
  | 0 => rfl
  | k + 1 => by unfold plL; rw [cat_succ, List.length_append, show (cat plR k).length = 2 * k from pl_len k]; simp [plR]; omega
theorem ql_len : ∀ k, (qlL k).length = 2 * k
  | 0 => rfl
  | k + 1 => by unfold qlL; rw [cat_succ, List.length_append, show (cat (fun _ => qlR) k).length = 2 * k from ql_len k]; simp [qlR]; omega
theorem pl_cycles {C : Mem} {k : Nat} {r : Value} (hk : k < 9) (h : CycsRes C (plL k) r) : ∃ A c, r = .tuple #[.slice A k c, .int .i64 0] := by
  rcases cycs_ok (pl_err k hk) h with ⟨h, _⟩ | ⟨_, v, rfl, ov, h2, h3⟩
  · rw [pl_cyc k hk] at h; omega
  · obtain ⟨A, c, rfl, _⟩ := id h2
    rw [List.length_map, h3.1, pl_cyc k hk]
    exact ⟨A, c, rfl⟩
theorem pl_reps {C : Mem} {k : Nat} {r : Value} (hk : k < 9) (h : RepsRes C (plL k) r) : ∃ A n c e, r = .tuple #[.slice A n c, .int .i64 e] ∧ ((k ≤ 4 ∧ n = 2 ^ k ∧ e = 0) ∨ (4 < k ∧ n = 0 ∧ e = 4)) := by
  have hil : (invL (plL k)).length ≤ (plL k).length := idxs_len _ _
  have hpl := pl_len k
  have hnone : ∀ n, n < 5 → n < k → setsF (plL k) n [] = [] := fun n h1 h2 => by rw [setsU_map, pl_none k hk n h1 h2]; rfl
  rcases reps_ok (pl_err k hk) (by omega) h with ⟨n, h1, h2, h3, h4⟩ | ⟨h2, rfl⟩
  · have hkn : k ≤ n := by
      rcases Nat.lt_or_ge n k with h | h
      · exact absurd (hnone n (by omega) h) h3
      · exact h
    have hk5 : k < 5 := by omega
    have hnk : n = k := by
      rcases Nat.lt_or_ge k n with h | h
      · have h5 := h2 k h
        have h6 := pl_some k hk5
        rw [pl_setsF hk5] at h5
        rw [h5] at h6
        exfalso
        have : 0 < 2 ^ k := Nat.pow_pos (by decide)
        simp [setL] at h6
        try omega
      · omega
    subst hnk
    have hrl := pl_rep hk5
    rcases h4 with ⟨h4, _⟩ | ⟨_, v, rfl, ov, h5, h6⟩
    · exfalso
      have : 2 ^ n ≤ 2 ^ 4 := Nat.pow_le_pow_right (by decide) h1
      omega
    · obtain ⟨A, c, rfl, _⟩ := id h5
      rw [List.length_map, h6.1, hrl]
      exact ⟨A, _, c, 0, rfl, .inl ⟨h1, rfl, rfl⟩⟩
  · refine ⟨none, 0, 0, 4, rfl, .inr ⟨?_, rfl, rfl⟩⟩
    rcases Nat.lt_or_ge 4 k with h | h
    · exact h
    · exfalso
      have h5 := h2 k (by omega)
      have h6 := pl_some k (by omega)
      rw [pl_setsF (by omega)] at h5
      rw [h5] at h6
      have : 0 < 2 ^ k := Nat.pow_pos (by decide)
      simp [setL] at h6
      try omega
theorem ql_cycles {C : Mem} {r : Value} (h : CycsRes C (qlL 15) r) : r = .tuple #[nilV, .int .i64 4] := by
  rcases cycs_ok ql_err h with ⟨_, h⟩ | ⟨h, _⟩
  · exact h
  · have := ql_cyc; omega
set_option maxHeartbeats 8000000 in
theorem cmany_fn (C : Mem) (u : UInt8) : Pur cx.P 3 [.int .u8 u.toNat] C fun r _ => r = .bool true := by
  have hu := u.toNat_lt
  obtain ⟨k, hk⟩ : ∃ k, u.toNat % 9 = k := ⟨_, rfl⟩
  have hk9 : k < 9 := by omega
  refine Fn.intro (by kernel_rfl) Try.func3 rfl 110 rfl rfl (fun w0 => ?_)
  refine G.region rfl (fun R hR => ?_)
  refine D.pure rfl rfl rfl rfl rfl rfl ?_
  refine D.done [(0, [], _)] ⟨rfl, trivial⟩ (hR _ _ _ rfl ?_); clear hR R
  refine G.region rfl (fun R hR => ?_)
  refine D.callP (known23_fn _) rfl rfl rfl rfl rfl rfl rfl (fun _ => rfl) (fun v16 C16 hle16 hq16 => ?_)
  obtain rfl := hq16
  refine D.pure rfl rfl rfl rfl rfl rfl ?_
  refine D.done [(0, [], _), (17, [], _)] ⟨rfl, rfl, trivial⟩ (hR _ _ _ rfl ?_); clear hR R
  refine G.cond rfl (fun h17 => ?_) (fun h17 => ?_)
  · skip
    exfalso
    simp at h17
  · skip
    refine G.region rfl (fun R hR => ?_)
    refine D.pure rfl rfl rfl rfl rfl rfl ?_
    refine D.rem rfl rfl rfl rfl rfl rfl (by omega) (by omega) rfl rfl ?_
    refine D.conv (c := (k : Int)) rfl rfl rfl rfl rfl rfl rfl rfl (by rw [wrap_i64 (by omega) (by omega)]; rw [← hk]; rfl) (fun _ => rfl) ?_
    refine D.pure rfl rfl rfl rfl rfl rfl ?_
    refine D.done [(3, [], _)] ⟨rfl, trivial⟩ (hR _ _ _ rfl ?_); clear hR R
    refine G.region rfl (fun R hR => ?_)
    refine D.pure rfl rfl rfl rfl rfl rfl ?_
    refine D.done [(3, [], _), (4, [], _)] ⟨rfl, rfl, trivial⟩ (hR _ _ _ rfl ?_); clear hR R
    refine G.region rfl (fun R hR => ?_)
    refine D.pure rfl rfl rfl rfl rfl rfl ?_
    refine D.done [(3, [], _), (4, [], _), (5, [], _)] ⟨rfl, rfl, rfl, trivial⟩ (hR _ _ _ rfl ?_); clear hR R
    refine G.nilArr 26 3 ?_
    refine G.loop (fun fr C' L' μ => ∃ (i : Nat) (w : Value), (i ≤ k) ∧ fr = [(3, [], .int .i64 k), (4, [], w), (5, [], .int .i64 i)] ∧ L' = [.arr w 26 3 (2 * i) ((plL i).map Rel.enc).flatten] ∧ μ = k - i) (fr' := [(3, [], _), (4, [], _), (5, [], _)]) ⟨rfl, rfl, rfl, trivial⟩ ⟨0, _, Nat.zero_le _, rfl, rfl, rfl⟩ (fun fr C0' L0' m hle0 hI => ?_)
    obtain ⟨i, w, hik, rfl, rfl, rfl⟩ := hI
    refine G.region rfl (fun R hR => ?_)
    iterate 3 refine D.pure rfl rfl rfl rfl rfl rfl ?_
    refine D.done [(3, [], _), (4, [], _), (5, [], _), (23, [], _)] ⟨rfl, rfl, rfl, rfl, trivial⟩ (hR _ _ _ rfl ?_); clear hR R
    refine G.cond rfl (fun h23 => ?_) (fun h23 => ?_)
    · skip
      have hil : i < k := by simpa using h23
      refine G.cut (fun fr C' L' μ => (True) ∧ fr = [(3, [], .int .i64 k), (4, [], w), (5, [], .int .i64 i), (6, [], strV (nmA i)), (7, [], strV (nmP i))] ∧ L' = [.arr w 26 3 (2 * i) ((plL i).map Rel.enc).flatten]) ?_ (fun fr Cr8 Lr8 μ hler8 hI => ?_)
      · skip
        refine G.drawT (.cut [0, 1, 2, 5, 6, 7] (.alt 3 (.cut [] (.alt 4 (.fin [10, 8, 9, 11]) (.alt 8 (.cut [] (.alt 4 (.fin [10, 9, 11]) (.alt 9 (.fin [4, 10, 11]) .stop))) .stop))) (.alt 8 (.cut [] (.alt 3 (.cut [] (.alt 4 (.fin [10, 9, 11]) (.alt 9 (.fin [4, 10, 11]) .stop))) (.alt 9 (.fin [3, 4, 10, 11]) .stop))) .stop))) [(1, 0), (6, 0)] rfl rfl (by kernel_rfl) (fun R hB hR hH => ?_)
        refine D.pure rfl rfl rfl rfl rfl rfl ?_
        refine D.convQ (c := (i : Int)) rfl rfl rfl rfl rfl rfl rfl rfl (by rw [IntKind.wrap_u8]; omega) rfl rfl ?_
        refine D.int (((97 + i : Nat) : Int)) rfl rfl rfl rfl (by rw [IntKind.wrap_u8]; omega) rfl rfl ?_
        refine D.pure rfl rfl rfl rfl rfl rfl ?_
        refine D.convQ (c := (i : Int)) rfl rfl rfl rfl rfl rfl rfl rfl (by rw [IntKind.wrap_u8]; omega) rfl rfl ?_
        refine D.int (((112 + i : Nat) : Int)) rfl rfl rfl rfl (by rw [IntKind.wrap_u8]; omega) rfl rfl ?_
        refine D.fork hH rfl ⟨?_, ?_, trivial⟩
        · skip
          refine D.buildSlice [[.int .u8 ((97 + i : Nat) : Int)]] rfl rfl rfl rfl rfl rfl rfl rfl rfl rfl rfl rfl (fun _ => rfl) (fun p29 C29 hle29 hs29 => ?_)
          refine D.fork hH rfl ⟨?_, ?_, trivial⟩
          · skip
            refine D.strOf (show Sl _ 1 p29 ((nmA i).map fun b => [.int .u8 b.toNat]) from by
              have hb : (UInt8.ofNat (97 + i)).toNat = 97 + i := by rw [UInt8.toNat_ofNat']; omega
              show Sl _ 1 p29 [[.int .u8 ((UInt8.ofNat (97 + i)).toNat : Int)]]
              rw [hb]; exact hs29.mono (by (repeat (first | exact Mem.le.refl _ | assumption | (apply Mem.le.trans; rotate_left; assumption))))) rfl rfl rfl rfl rfl rfl rfl rfl rfl rfl rfl (fun _ => rfl) ?_
            refine D.pure rfl rfl rfl rfl rfl rfl ?_
            refine D.buildSlice [[.int .u8 ((112 + i : Nat) : Int)]] rfl rfl rfl rfl rfl rfl rfl rfl rfl rfl rfl rfl (fun _ => rfl) (fun p34 C34 hle34 hs34 => ?_)
            refine D.strOf (show Sl _ 1 p34 ((nmP i).map fun b => [.int .u8 b.toNat]) from by
              have hb : (UInt8.ofNat (112 + i)).toNat = 112 + i := by rw [UInt8.toNat_ofNat']; omega
              show Sl _ 1 p34 [[.int .u8 ((UInt8.ofNat (112 + i)).toNat : Int)]]
              rw [hb]; exact hs34.mono (by (repeat (first | exact Mem.le.refl _ | assumption | (apply Mem.le.trans; rotate_left; assumption))))) rfl rfl rfl rfl rfl rfl rfl rfl rfl rfl rfl (fun _ => rfl) ?_
            refine D.pure rfl rfl rfl rfl rfl rfl ?_
            refine D.done [(3, [], _), (4, [], _), (5, [], _), (6, [], _), (7, [], _)] ⟨rfl, rfl, rfl, rfl, rfl, trivial⟩ (hR _ _ _ rfl ?_); clear hR hB hH R
            exact G.meet 0 (by (repeat (first | exact Mem.le.refl _ | assumption | (apply Mem.le.trans; rotate_left; assumption)))) (fr' := [(3, [], _), (4, [], _), (5, [], _), (6, [], _), (7, [], _)]) ⟨rfl, rfl, rfl, rfl, rfl, trivial⟩ ⟨trivial, rfl, rfl⟩
          · skip
            refine D.buildSlice [[.int .u8 ((112 + i : Nat) : Int)]] rfl rfl rfl rfl rfl rfl rfl rfl rfl rfl rfl rfl (fun _ => rfl) (fun p34 C34 hle34 hs34 => ?_)
            refine D.fork hH rfl ⟨?_, ?_, trivial⟩
            · skip
              refine D.strOf (show Sl _ 1 p29 ((nmA i).map fun b => [.int .u8 b.toNat]) from by
                have hb : (UInt8.ofNat (97 + i)).toNat = 97 + i := by rw [UInt8.toNat_ofNat']; omega
                show Sl _ 1 p29 [[.int .u8 ((UInt8.ofNat (97 + i)).toNat : Int)]]
                rw [hb]; exact hs29.mono (by (repeat (first | exact Mem.le.refl _ | assumption | (apply Mem.le.trans; rotate_left; assumption))))) rfl rfl rfl rfl rfl rfl rfl rfl rfl rfl rfl (fun _ => rfl) ?_
              refine D.pure rfl rfl rfl rfl rfl rfl ?_
              refine D.strOf (show Sl _ 1 p34 ((nmP i).map fun b => [.int .u8 b.toNat]) from by
                have hb : (UInt8.ofNat (112 + i)).toNat = 112 + i := by rw [UInt8.toNat_ofNat']; omega
                show Sl _ 1 p34 [[.int .u8 ((UInt8.ofNat (112 + i)).toNat : Int)]]
                rw [hb]; exact hs34.mono (by (repeat (first | exact Mem.le.refl _ | assumption | (apply Mem.le.trans; rotate_left; assumption))))) rfl rfl rfl rfl rfl rfl rfl rfl rfl rfl rfl (fun _ => rfl) ?_
              refine D.pure rfl rfl rfl rfl rfl rfl ?_
              refine D.done [(3, [], _), (4, [], _), (5, [], _), (6, [], _), (7, [], _)] ⟨rfl, rfl, rfl, rfl, rfl, trivial⟩ (hR _ _ _ rfl ?_); clear hR hB hH R
              exact G.meet 0 (by (repeat (first | exact Mem.le.refl _ | assumption | (apply Mem.le.trans; rotate_left; assumption)))) (fr' := [(3, [], _), (4, [], _), (5, [], _), (6, [], _), (7, [], _)]) ⟨rfl, rfl, rfl, rfl, rfl, trivial⟩ ⟨trivial, rfl, rfl⟩
            · skip
              refine D.strOf (show Sl _ 1 p34 ((nmP i).map fun b => [.int .u8 b.toNat]) from by
                have hb : (UInt8.ofNat (112 + i)).toNat = 112 + i := by rw [UInt8.toNat_ofNat']; omega
                show Sl _ 1 p34 [[.int .u8 ((UInt8.ofNat (112 + i)).toNat : Int)]]
                rw [hb]; exact hs34.mono (by (repeat (first | exact Mem.le.refl _ | assumption | (apply Mem.le.trans; rotate_left; assumption))))) rfl rfl rfl rfl rfl rfl rfl rfl rfl rfl rfl (fun _ => rfl) ?_
              refine D.strOf (show Sl _ 1 p29 ((nmA i).map fun b => [.int .u8 b.toNat]) from by
                have hb : (UInt8.ofNat (97 + i)).toNat = 97 + i := by rw [UInt8.toNat_ofNat']; omega
                show Sl _ 1 p29 [[.int .u8 ((UInt8.ofNat (97 + i)).toNat : Int)]]
                rw [hb]; exact hs29.mono (by (repeat (first | exact Mem.le.refl _ | assumption | (apply Mem.le.trans; rotate_left; assumption))))) rfl rfl rfl rfl rfl rfl rfl rfl rfl rfl rfl (fun _ => rfl) ?_
              iterate 2 refine D.pure rfl rfl rfl rfl rfl rfl ?_
              refine D.done [(3, [], _), (4, [], _), (5, [], _), (6, [], _), (7, [], _)] ⟨rfl, rfl, rfl, rfl, rfl, trivial⟩ (hR _ _ _ rfl ?_); clear hR hB hH R
              exact G.meet 0 (by (repeat (first | exact Mem.le.refl _ | assumption | (apply Mem.le.trans; rotate_left; assumption)))) (fr' := [(3, [], _), (4, [], _), (5, [], _), (6, [], _), (7, [], _)]) ⟨rfl, rfl, rfl, rfl, rfl, trivial⟩ ⟨trivial, rfl, rfl⟩
        · skip
          refine D.buildSlice [[.int .u8 ((112 + i : Nat) : Int)]] rfl rfl rfl rfl rfl rfl rfl rfl rfl rfl rfl rfl (fun _ => rfl) (fun p34 C34 hle34 hs34 => ?_)
          refine D.fork hH rfl ⟨?_, ?_, trivial⟩
          · skip
            refine D.buildSlice [[.int .u8 ((97 + i : Nat) : Int)]] rfl rfl rfl rfl rfl rfl rfl rfl rfl rfl rfl rfl (fun _ => rfl) (fun p29 C29 hle29 hs29 => ?_)
            refine D.fork hH rfl ⟨?_, ?_, trivial⟩
            · skip
              refine D.strOf (show Sl _ 1 p29 ((nmA i).map fun b => [.int .u8 b.toNat]) from by
                have hb : (UInt8.ofNat (97 + i)).toNat = 97 + i := by rw [UInt8.toNat_ofNat']; omega
                show Sl _ 1 p29 [[.int .u8 ((UInt8.ofNat (97 + i)).toNat : Int)]]
                rw [hb]; exact hs29.mono (by (repeat (first | exact Mem.le.refl _ | assumption | (apply Mem.le.trans; rotate_left; assumption))))) rfl rfl rfl rfl rfl rfl rfl rfl rfl rfl rfl (fun _ => rfl) ?_
              refine D.pure rfl rfl rfl rfl rfl rfl ?_
              refine D.strOf (show Sl _ 1 p34 ((nmP i).map fun b => [.int .u8 b.toNat]) from by
                have hb : (UInt8.ofNat (112 + i)).toNat = 112 + i := by rw [UInt8.toNat_ofNat']; omega
                show Sl _ 1 p34 [[.int .u8 ((UInt8.ofNat (112 + i)).toNat : Int)]]
                rw [hb]; exact hs34.mono (by (repeat (first | exact Mem.le.refl _ | assumption | (apply Mem.le.trans; rotate_left; assumption))))) rfl rfl rfl rfl rfl rfl rfl rfl rfl rfl rfl (fun _ => rfl) ?_
              refine D.pure rfl rfl rfl rfl rfl rfl ?_
              refine D.done [(3, [], _), (4, [], _), (5, [], _), (6, [], _), (7, [], _)] ⟨rfl, rfl, rfl, rfl, rfl, trivial⟩ (hR _ _ _ rfl ?_); clear hR hB hH R
              exact G.meet 0 (by (repeat (first | exact Mem.le.refl _ | assumption | (apply Mem.le.trans; rotate_left; assumption)))) (fr' := [(3, [], _), (4, [], _), (5, [], _), (6, [], _), (7, [], _)]) ⟨rfl, rfl, rfl, rfl, rfl, trivial⟩ ⟨trivial, rfl, rfl⟩
            · skip
              refine D.strOf (show Sl _ 1 p34 ((nmP i).map fun b => [.int .u8 b.toNat]) from by
                have hb : (UInt8.ofNat (112 + i)).toNat = 112 + i := by rw [UInt8.toNat_ofNat']; omega
                show Sl _ 1 p34 [[.int .u8 ((UInt8.ofNat (112 + i)).toNat : Int)]]
                rw [hb]; exact hs34.mono (by (repeat (first | exact Mem.le.refl _ | assumption | (apply Mem.le.trans; rotate_left; assumption))))) rfl rfl rfl rfl rfl rfl rfl rfl rfl rfl rfl (fun _ => rfl) ?_
              refine D.strOf (show Sl _ 1 p29 ((nmA i).map fun b => [.int .u8 b.toNat]) from by
                have hb : (UInt8.ofNat (97 + i)).toNat = 97 + i := by rw [UInt8.toNat_ofNat']; omega
                show Sl _ 1 p29 [[.int .u8 ((UInt8.ofNat (97 + i)).toNat : Int)]]
                rw [hb]; exact hs29.mono (by (repeat (first | exact Mem.le.refl _ | assumption | (apply Mem.le.trans; rotate_left; assumption))))) rfl rfl rfl rfl rfl rfl rfl rfl rfl rfl rfl (fun _ => rfl) ?_
              iterate 2 refine D.pure rfl rfl rfl rfl rfl rfl ?_
              refine D.done [(3, [], _), (4, [], _), (5, [], _), (6, [], _), (7, [], _)] ⟨rfl, rfl, rfl, rfl, rfl, trivial⟩ (hR _ _ _ rfl ?_); clear hR hB hH R
              exact G.meet 0 (by (repeat (first | exact Mem.le.refl _ | assumption | (apply Mem.le.trans; rotate_left; assumption)))) (fr' := [(3, [], _), (4, [], _), (5, [], _), (6, [], _), (7, [], _)]) ⟨rfl, rfl, rfl, rfl, rfl, trivial⟩ ⟨trivial, rfl, rfl⟩
          · skip
            refine D.strOf (show Sl _ 1 p34 ((nmP i).map fun b => [.int .u8 b.toNat]) from by
              have hb : (UInt8.ofNat (112 + i)).toNat = 112 + i := by rw [UInt8.toNat_ofNat']; omega
              show Sl _ 1 p34 [[.int .u8 ((UInt8.ofNat (112 + i)).toNat : Int)]]
              rw [hb]; exact hs34.mono (by (repeat (first | exact Mem.le.refl _ | assumption | (apply Mem.le.trans; rotate_left; assumption))))) rfl rfl rfl rfl rfl rfl rfl rfl rfl rfl rfl (fun _ => rfl) ?_
            refine D.buildSlice [[.int .u8 ((97 + i : Nat) : Int)]] rfl rfl rfl rfl rfl rfl rfl rfl rfl rfl rfl rfl (fun _ => rfl) (fun p29 C29 hle29 hs29 => ?_)
            refine D.strOf (show Sl _ 1 p29 ((nmA i).map fun b => [.int .u8 b.toNat]) from by
              have hb : (UInt8.ofNat (97 + i)).toNat = 97 + i := by rw [UInt8.toNat_ofNat']; omega
              show Sl _ 1 p29 [[.int .u8 ((UInt8.ofNat (97 + i)).toNat : Int)]]
              rw [hb]; exact hs29.mono (by (repeat (first | exact Mem.le.refl _ | assumption | (apply Mem.le.trans; rotate_left; assumption))))) rfl rfl rfl rfl rfl rfl rfl rfl rfl rfl rfl (fun _ => rfl) ?_
            iterate 2 refine D.pure rfl rfl rfl rfl rfl rfl ?_
            refine D.done [(3, [], _), (4, [], _), (5, [], _), (6, [], _), (7, [], _)] ⟨rfl, rfl, rfl, rfl, rfl, trivial⟩ (hR _ _ _ rfl ?_); clear hR hB hH R
            exact G.meet 0 (by (repeat (first | exact Mem.le.refl _ | assumption | (apply Mem.le.trans; rotate_left; assumption)))) (fr' := [(3, [], _), (4, [], _), (5, [], _), (6, [], _), (7, [], _)]) ⟨rfl, rfl, rfl, rfl, rfl, trivial⟩ ⟨trivial, rfl, rfl⟩
      obtain ⟨htr, rfl, rfl⟩ := hI
      refine G.region rfl (fun R hR => ?_)
      iterate 3 refine D.pure rfl rfl rfl rfl rfl rfl ?_
      refine D.build [.int .i64 1, strV (nmA i), strV (nmP i)] rfl rfl rfl rfl rfl rfl rfl rfl ?_
      iterate 2 refine D.pure rfl rfl rfl rfl rfl rfl ?_
      refine D.build [.int .i64 2, strV (nmP i), strV (nmA i)] rfl rfl rfl rfl rfl rfl rfl rfl ?_
      refine D.buildSlice [[.int .i64 1, strV (nmA i), strV (nmP i)], [.int .i64 2, strV (nmP i), strV (nmA i)]] rfl rfl rfl rfl rfl rfl rfl rfl rfl rfl rfl rfl (fun _ => rfl) (fun p43 C43 hle43 hs43 => ?_)
      refine D.append (j := 0) rfl rfl rfl rfl rfl rfl rfl rfl rfl rfl rfl hs43 rfl (by show 2 * i + 2 ≤ maxLen; simp only [maxLen]; omega) (by show (2 * i + 2) * 40 ≤ 140737488355328; omega) (fun _ => rfl) (fun v44 => ?_)
      refine D.pure rfl rfl rfl rfl rfl rfl ?_
      refine D.done [(3, [], _), (4, [], _), (5, [], _)] ⟨rfl, rfl, rfl, trivial⟩ (hR _ _ _ rfl ?_); clear hR R
      refine G.region rfl (fun R hR => ?_)
      refine D.pure rfl rfl rfl rfl rfl rfl ?_
      refine D.i64 _ rfl rfl rfl rfl rfl (by omega) (by omega) rfl rfl ?_
      refine D.pure rfl rfl rfl rfl rfl rfl ?_
      refine D.done [(3, [], _), (4, [], _), (5, [], _)] ⟨rfl, rfl, rfl, trivial⟩ (hR _ _ _ rfl ?_); clear hR R
      refine G.eqL (L' := [.arr v44 26 3 (2 * (i + 1)) ((plL (i + 1)).map Rel.enc).flatten]) (by
        have e : plL (i + 1) = plL i ++ plR i := rfl
        rw [e]; simp [plR, Rel.enc]; try omega) ?_
      refine G.again (m' := k - (i + 1)) (by omega) (by (repeat (first | exact Mem.le.refl _ | assumption | (apply Mem.le.trans; rotate_left; assumption)))) (fr' := [(3, [], _), (4, [], _), (5, [], _)]) ⟨rfl, rfl, rfl, trivial⟩ ⟨i + 1, v44, by omega, rfl, rfl, rfl⟩
    · skip
      have hil : i = k := by
        have : ¬ i < k := by simpa using h23
        omega
      subst hil
      refine G.freezeArr 0 ((plL i).map Rel.enc) rfl rfl (by intro r hr; obtain ⟨y, _, rfl⟩ := List.mem_map.1 hr; exact rel_len y) (by rw [List.length_map, pl_len]) (fun Cf hlef hsd => ?_)
      have hpl := pl_len i
      refine G.region rfl (fun R hR => ?_)
      refine D.pure rfl rfl rfl rfl rfl rfl ?_
      refine D.callP (cycles_fn _ _ (plL i) (hsd.mono (by (repeat (first | exact Mem.le.refl _ | assumption | (apply Mem.le.trans; rotate_left; assumption))))) (by omega) pl_short) rfl rfl rfl rfl rfl rfl rfl (fun _ => rfl) (fun v47 C47 hle47 hq47 => ?_)
      obtain ⟨A1, c1, rfl⟩ := pl_cycles hk9 hq47
      iterate 5 refine D.pure rfl rfl rfl rfl rfl rfl ?_
      refine D.done [(3, [], _), (4, [], _), (8, [], _), (9, [], _)] ⟨rfl, rfl, rfl, rfl, trivial⟩ (hR _ _ _ rfl ?_); clear hR R
      refine G.region rfl (fun R hR => ?_)
      refine D.pure rfl rfl rfl rfl rfl rfl ?_
      refine D.callP (repairs_fn _ _ (plL i) (hsd.mono (by (repeat (first | exact Mem.le.refl _ | assumption | (apply Mem.le.trans; rotate_left; assumption))))) (by omega) pl_short) rfl rfl rfl rfl rfl rfl rfl (fun _ => rfl) (fun v52 C52 hle52 hq52 => ?_)
      obtain ⟨A2, n2, c2, e2, rfl, hre⟩ := pl_reps hk9 hq52
      iterate 5 refine D.pure rfl rfl rfl rfl rfl rfl ?_
      refine D.done [(3, [], _), (8, [], _), (9, [], _), (10, [], _), (11, [], _)] ⟨rfl, rfl, rfl, rfl, rfl, trivial⟩ (hR _ _ _ rfl ?_); clear hR R
      refine G.region rfl (fun R hR => ?_)
      iterate 7 refine D.pure rfl rfl rfl rfl rfl rfl ?_
      refine D.pickOr rfl rfl rfl rfl rfl rfl rfl rfl ?_
      refine D.done [(3, [], _), (10, [], _), (11, [], _), (62, [], _)] ⟨rfl, rfl, rfl, rfl, trivial⟩ (hR _ _ _ rfl ?_); clear hR R
      refine G.cond rfl (fun h62 => ?_) (fun h62 => ?_)
      · skip
        exfalso
        simp at h62
      · skip
        refine G.region rfl (fun R hR => ?_)
        iterate 9 refine D.pure rfl rfl rfl rfl rfl rfl ?_
        refine D.pickOr rfl rfl rfl rfl rfl rfl rfl rfl ?_
        refine D.pickAnd rfl rfl rfl rfl rfl rfl rfl rfl ?_
        iterate 7 refine D.pure rfl rfl rfl rfl rfl rfl ?_
        refine D.shl1 (i) rfl rfl rfl rfl rfl rfl (by first | exact .inl rfl | exact .inr rfl) rfl (by omega) rfl rfl ?_
        iterate 4 refine D.pure rfl rfl rfl rfl rfl rfl ?_
        refine D.pickOr rfl rfl rfl rfl rfl rfl rfl rfl ?_
        refine D.pickAnd rfl rfl rfl rfl rfl rfl rfl rfl ?_
        refine D.pickOr rfl rfl rfl rfl rfl rfl rfl rfl ?_
        refine D.done [(88, [], _)] ⟨rfl, trivial⟩ (hR _ _ _ rfl ?_); clear hR R
        refine G.cond rfl (fun h88 => ?_) (fun h88 => ?_)
        · skip
          exfalso
          rcases hre with ⟨h1, rfl, rfl⟩ | ⟨h1, rfl, rfl⟩
          · simp at h88
            omega
          · simp at h88
            omega
        · skip
          refine G.region rfl (fun R hR => ?_)
          refine D.pure rfl rfl rfl rfl rfl rfl ?_
          refine D.done [(12, [], _)] ⟨rfl, trivial⟩ (hR _ _ _ rfl ?_); clear hR R
          refine G.region rfl (fun R hR => ?_)
          refine D.pure rfl rfl rfl rfl rfl rfl ?_
          refine D.done [(12, [], _), (13, [], _)] ⟨rfl, rfl, trivial⟩ (hR _ _ _ rfl ?_); clear hR R
          refine G.nilArr 26 3 ?_
          refine G.loop (fun fr C' L' μ => ∃ (j : Nat) (w : Value), (j ≤ 15) ∧ fr = [(12, [], w), (13, [], .int .i64 j)] ∧ L' = [.arr w 26 3 (2 * j) ((qlL j).map Rel.enc).flatten] ∧ μ = 15 - j) (fr' := [(12, [], _), (13, [], _)]) ⟨rfl, rfl, trivial⟩ ⟨0, _, Nat.zero_le _, rfl, rfl, rfl⟩ (fun fr C1' L1' m hle1 hI => ?_)
          obtain ⟨j, w, hj15, rfl, rfl, rfl⟩ := hI
          refine G.region rfl (fun R hR => ?_)
          iterate 2 refine D.pure rfl rfl rfl rfl rfl rfl ?_
          refine D.done [(12, [], _), (13, [], _), (90, [], _)] ⟨rfl, rfl, rfl, trivial⟩ (hR _ _ _ rfl ?_); clear hR R
          refine G.cond rfl (fun h90 => ?_) (fun h90 => ?_)
          · skip
            have hjl : j < 15 := by
              have : (j : Int) < 15 := by simpa using h90
              omega
            refine G.region rfl (fun R hR => ?_)
            refine D.pure rfl rfl rfl rfl rfl rfl ?_
            refine D.build [.int .i64 1, strV [97], strV [98]] rfl rfl rfl rfl rfl rfl rfl rfl ?_
            refine D.build [.int .i64 1, strV [98], strV [97]] rfl rfl rfl rfl rfl rfl rfl rfl ?_
            refine D.buildSlice [[.int .i64 1, strV [97], strV [98]], [.int .i64 1, strV [98], strV [97]]] rfl rfl rfl rfl rfl rfl rfl rfl rfl rfl rfl rfl (fun _ => rfl) (fun p96 C96 hle96 hs96 => ?_)
            refine D.append (j := 0) rfl rfl rfl rfl rfl rfl rfl rfl rfl rfl rfl hs96 rfl (by show 2 * j + 2 ≤ maxLen; simp only [maxLen]; omega) (by show (2 * j + 2) * 40 ≤ 140737488355328; omega) (fun _ => rfl) (fun v97 => ?_)
            refine D.pure rfl rfl rfl rfl rfl rfl ?_
            refine D.done [(12, [], _), (13, [], _)] ⟨rfl, rfl, trivial⟩ (hR _ _ _ rfl ?_); clear hR R
            refine G.region rfl (fun R hR => ?_)
            refine D.pure rfl rfl rfl rfl rfl rfl ?_
            refine D.i64 _ rfl rfl rfl rfl rfl (by omega) (by omega) rfl rfl ?_
            refine D.pure rfl rfl rfl rfl rfl rfl ?_
            refine D.done [(12, [], _), (13, [], _)] ⟨rfl, rfl, trivial⟩ (hR _ _ _ rfl ?_); clear hR R
            refine G.eqL (L' := [.arr v97 26 3 (2 * (j + 1)) ((qlL (j + 1)).map Rel.enc).flatten]) (by
              have e : qlL (j + 1) = qlL j ++ qlR := rfl
              rw [e]; simp [qlR, Rel.enc]; try omega) ?_
            refine G.again (m' := 15 - (j + 1)) (by omega) (by (repeat (first | exact Mem.le.refl _ | assumption | (apply Mem.le.trans; rotate_left; assumption)))) (fr' := [(12, [], _), (13, [], _)]) ⟨rfl, rfl, trivial⟩ ⟨j + 1, v97, by omega, rfl, rfl, rfl⟩
          · skip
            have hjl : j = 15 := by
              have : ¬ (j : Int) < 15 := by simpa using h90
              omega
            subst hjl
            refine G.freezeArr 0 ((qlL 15).map Rel.enc) rfl rfl (by intro r hr; obtain ⟨y, _, rfl⟩ := List.mem_map.1 hr; exact rel_len y) (by rw [List.length_map, ql_len]) (fun Cg hleg hsq => ?_)
            have hql := ql_len 15
            refine G.region rfl (fun R hR => ?_)
            refine D.pure rfl rfl rfl rfl rfl rfl ?_
            refine D.callP (cycles_fn _ _ (qlL 15) (hsq.mono (by (repeat (first | exact Mem.le.refl _ | assumption | (apply Mem.le.trans; rotate_left; assumption))))) (by omega) ql_short) rfl rfl rfl rfl rfl rfl rfl (fun _ => rfl) (fun v100 C100 hle100 hq100 => ?_)
            obtain rfl := ql_cycles hq100
            iterate 5 refine D.pure rfl rfl rfl rfl rfl rfl ?_
            refine D.done [(14, [], _), (15, [], _)] ⟨rfl, rfl, trivial⟩ (hR _ _ _ rfl ?_); clear hR R
            refine G.region rfl (fun R hR => ?_)
            iterate 6 refine D.pure rfl rfl rfl rfl rfl rfl ?_
            refine D.pickAnd rfl rfl rfl rfl rfl rfl rfl rfl ?_
            refine D.pure rfl rfl rfl rfl rfl rfl ?_
            refine D.done [(2, [], _)] ⟨rfl, trivial⟩ (hR _ _ _ rfl ?_); clear hR R
            refine G.retN (G.dropAll (G.fin1 rfl rfl ?_))
            exact ⟨rfl, rfl⟩
end Go.Proofs.Ytcghlfepfcagbaa
