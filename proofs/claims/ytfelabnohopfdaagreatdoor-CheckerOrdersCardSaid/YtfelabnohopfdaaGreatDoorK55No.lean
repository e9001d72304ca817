/- FOR ANY DESCRIPTIONS, ANY LIST OF TEXTS AND ANY LIST OF NUMBERS CheckerOrders ANSWERS true, and leaves them as they were. -/
import Derived.Test.YtfelabnohopfdaaGreatDoorG6
import Derived.Test.YtfelabnohopfdaaGreatDoorShelf
namespace Go.Proofs.YtfelabnohopfdaaGreatDoor
open Go Go.Jog
set_option maxRecDepth 100000

theorem upN_lt (x : Seen) : upN x < 6 := Nat.mod_lt _ (by decide)
theorem lowN_lt (x : Seen) : lowN x < 6 := by
  unfold lowN; split
  · exact Nat.mod_lt _ (by decide)
  · exact Nat.mod_lt _ (by decide)
theorem lowN_ne (x : Seen) : upN x ≠ lowN x := by
  unfold lowN upN
  split
  · have : x.b.toNat % 6 < 6 := Nat.mod_lt _ (by decide)
    omega
  · assumption
theorem nameI_inj : ∀ i, i < 6 → ∀ j, j < 6 → nameI i = nameI j → i = j := by decide
theorem nameI_ok : ∀ i, i < 6 → isNameB (nameI i) = true := by decide
theorem nameI_len : ∀ i, i < 6 → (nameI i).length < 1000000 := by decide
theorem mem_makeL {s : List Seen} {x : Rel} (h : x ∈ makeL s) : ∃ y : Seen, x = mkR y := by
  obtain ⟨y, _, rfl⟩ := List.mem_map.1 h
  exact ⟨y, rfl⟩
/-- A relation as Make makes it. -/
def MadeR (x : Rel) : Prop := 1 ≤ x.kind ∧ x.kind ≤ 4 ∧ ∃ i j, i < 6 ∧ j < 6 ∧ i ≠ j ∧ x.upper = nameI i ∧ x.lower = nameI j
def Made (l : List Rel) : Prop := l.length ≤ 8 ∧ ∀ x ∈ l, MadeR x
theorem made_makeL (s : List Seen) : Made (makeL s) := by
  refine ⟨by simp [makeL]; omega, fun x hx => ?_⟩
  obtain ⟨y, rfl⟩ := mem_makeL hx
  refine ⟨?_, ?_, upN y, lowN y, upN_lt y, lowN_lt y, lowN_ne y, rfl, rfl⟩
  · show (1 : Int) ≤ ((1 + y.a.toNat % 4 : Nat) : Int); omega
  · show ((1 + y.a.toNat % 4 : Nat) : Int) ≤ 4
    have : y.a.toNat % 4 < 4 := Nat.mod_lt _ (by decide)
    omega
theorem Made.take {l : List Rel} (h : Made l) (k : Nat) : Made (l.take k) := ⟨by rw [List.length_take]; have := h.1; omega, fun x hx => h.2 x (List.mem_of_mem_take hx)⟩
theorem Made.short {l : List Rel} (h : Made l) : ∀ x ∈ l, x.short := fun x hx => by
  obtain ⟨_, _, i, j, hi, hj, _, h1, h2⟩ := h.2 x hx
  exact ⟨by rw [h1]; exact nameI_len i hi, by rw [h2]; exact nameI_len j hj⟩
theorem Made.errOf {l : List Rel} (h : Made l) : ∀ x ∈ l, errOf x = 0 := fun x hx => by
  obtain ⟨h3, h4, i, j, hi, hj, hij, h1, h2⟩ := h.2 x hx
  unfold Proofs.YtfelabnohopfdaaGreatDoor.errOf
  rw [if_neg (by omega), if_neg (by rw [h1, h2, nameI_ok i hi, nameI_ok j hj]; simp), if_neg]
  intro e
  rw [h1, h2] at e
  exact hij (nameI_inj i hi j hj e)
theorem Made.units {l : List Rel} (h : Made l) : (unitsL l).length ≤ 6 := by
  have : (unitsL l).length ≤ ((List.range 6).map nameI).length := List.Nodup.length_le_of_subset (unitsL_nodup l) (fun s hs => by
    rw [unitsL, mem_setL, mem_namesOf] at hs
    obtain ⟨x, hx, hs⟩ := hs
    obtain ⟨_, _, i, j, hi, hj, _, h1, h2⟩ := h.2 x hx
    rcases hs with rfl | rfl
    · exact List.mem_map.2 ⟨i, List.mem_range.2 hi, h1.symm⟩
    · exact List.mem_map.2 ⟨j, List.mem_range.2 hj, h2.symm⟩)
  simpa using this
theorem Made.err {l : List Rel} (h : Made l) : errU l = 0 := by
  have h1 := h.1
  have h2 := h.units
  unfold errU
  rw [if_neg (by omega), if_neg (by rw [errs_zero h.errOf]; simp), if_neg (by omega)]
theorem Made.sub {l m : List Rel} (h : Made l) (hm : m.length ≤ 8) (hs : ∀ x ∈ m, x ∈ l) : Made m := ⟨hm, fun x hx => h.2 x (hs x hx)⟩
end Go.Proofs.YtfelabnohopfdaaGreatDoor
namespace Go.Proofs.YtfelabnohopfdaaGreatDoor
open Go Go.Jog
set_option maxRecDepth 100000

def chainB (l : List Rel) (c : List Int) : Bool := decide (0 < c.length) && (List.range c.length).all fun k => arcB l (cI c k) && (decide (k = 0) || decide ((gR l (cI c (k - 1))).upper = (gR l (cI c k)).lower))
end Go.Proofs.YtfelabnohopfdaaGreatDoor
namespace Go.Proofs.YtfelabnohopfdaaGreatDoor
open Go Go.Jog
set_option maxRecDepth 100000

theorem chain_stop {l : List Rel} {c : List Int} {k : Nat} (hk : k < c.length) (h : (arcB l (cI c k) && (decide (k = 0) || decide ((gR l (cI c (k - 1))).upper = (gR l (cI c k)).lower))) = false) : chainB l c = false := by
  unfold chainB
  have : ((List.range c.length).all fun k => arcB l (cI c k) && (decide (k = 0) || decide ((gR l (cI c (k - 1))).upper = (gR l (cI c k)).lower))) = false := by
    rw [List.all_eq_false]
    exact ⟨k, List.mem_range.2 hk, by rw [h]; decide⟩
  rw [this, Bool.and_false]
set_option maxHeartbeats 1000000 in
theorem chain_fn (C : Mem) (v vc : Value) (l : List Rel) (c : List Int) (hv : Sl C 3 v (l.map Rel.enc)) (hc : Sl C 1 vc (c.map encI)) : Gives cx.P 15 [v, vc] C (.bool (chainB l c)) := by
  obtain ⟨A, ca, rfl, hl1, hl2, _⟩ := id hv
  obtain ⟨Ac, cc, rfl, hc1, hc2, _⟩ := id hc
  have hmx : maxLen ≤ 9223372036854775807 := by simp [maxLen]
  simp only [List.length_map] at hv hc hl1 hc1 ⊢
  refine Fn.intro (by kernel_rfl) Tryz.func15 rfl 43 rfl rfl (fun w0 => ?_)
  refine G.region rfl (fun R hR => ?_)
  refine D.pure rfl rfl rfl rfl rfl rfl ?_
  refine D.done [(0, [], _), (1, [], _)] ⟨rfl, rfl, trivial⟩ (hR _ _ _ rfl ?_); clear hR R
  refine G.region rfl (fun R hR => ?_)
  iterate 3 refine D.pure rfl rfl rfl rfl rfl rfl ?_
  refine D.done [(0, [], _), (1, [], _), (7, [], _), (8, [], _), (9, [], _)] ⟨rfl, rfl, rfl, rfl, rfl, trivial⟩ (hR _ _ _ rfl ?_); clear hR R
  refine G.loop (fun fr C' L' μ => ∃ (k : Nat), (k ≤ c.length ∧ ∀ j, j < k → (arcB l (cI c j) && (decide (j = 0) || decide ((gR l (cI c (j - 1))).upper = (gR l (cI c j)).lower))) = true) ∧ fr = [(0, [], .slice A l.length ca), (1, [], .slice Ac c.length cc), (7, [], .slice Ac c.length cc), (8, [], .int .i64 c.length), (9, [], .int .i64 k)] ∧ L' = [] ∧ μ = c.length - k) (fr' := [(0, [], _), (1, [], _), (7, [], _), (8, [], _), (9, [], _)]) ⟨rfl, rfl, rfl, rfl, rfl, trivial⟩ ⟨0, ⟨Nat.zero_le _, fun j hj => by omega⟩, rfl, rfl, rfl⟩ (fun fr C0' L0' m hle0 hI => ?_)
  obtain ⟨k, ⟨hk, hall⟩, rfl, rfl, rfl⟩ := hI
  refine G.region rfl (fun R hR => ?_)
  refine D.pure rfl rfl rfl rfl rfl rfl ?_
  refine D.done [(0, [], _), (1, [], _), (7, [], _), (8, [], _), (9, [], _), (10, [], _)] ⟨rfl, rfl, rfl, rfl, rfl, rfl, trivial⟩ (hR _ _ _ rfl ?_); clear hR R
  refine G.cond rfl (fun h10 => ?_) (fun h10 => ?_)
  · skip
    have hkl : k < c.length := by simpa using h10
    have hrow : (c.map encI)[k]? = some (encI (cI c k)) := by rw [List.getElem?_map, cI_at hkl]; rfl
    have hprev : ∀ j, j < k → 0 ≤ cI c j ∧ cI c j < l.length := fun j hj => by
      have := hall j hj
      rw [Bool.and_eq_true] at this
      exact arcB_in this.1
    refine G.region rfl (fun R hR => ?_)
    refine D.pure rfl rfl rfl rfl rfl rfl ?_
    refine D.index0 (hc.mono (by (repeat (first | exact Mem.le.refl _ | assumption | (apply Mem.le.trans; rotate_left; assumption))))) rfl rfl rfl rfl rfl rfl rfl rfl rfl rfl (by omega) hrow (fun _ => rfl) (fun p12 hp12 => ?_)
    refine D.loadP0 hp12 rfl rfl rfl rfl rfl rfl rfl rfl ?_
    iterate 2 refine D.pure rfl rfl rfl rfl rfl rfl ?_
    refine D.done [(0, [], _), (1, [], _), (5, [], _), (6, [], _), (7, [], _), (8, [], _), (9, [], _)] ⟨rfl, rfl, rfl, rfl, rfl, rfl, rfl, trivial⟩ (hR _ _ _ rfl ?_); clear hR R
    refine G.draw [0, 1, 2, 3, 4, 5, 6, 7, 8, 9, 10, 11, 12, 13, 14, 15, 16, 17, 18, 19, 20, 21, 22, 23, 24] [(2, 1)] rfl (by kernel_rfl) (fun R hB hR => ?_)
    iterate 2 refine D.pure rfl rfl rfl rfl rfl rfl ?_
    refine D.gives (fun _ => (larc55_fn _ _ l (cI c k) (hv.mono (by (repeat (first | exact Mem.le.refl _ | assumption | (apply Mem.le.trans; rotate_left; assumption))))))) rfl rfl rfl rfl rfl rfl rfl rfl rfl ?_
    iterate 8 refine D.pure rfl rfl rfl rfl rfl rfl ?_
    refine D.i64 _ rfl rfl rfl rfl rfl (by omega) (by omega) rfl rfl ?_
    refine D.index rfl rfl rfl rfl rfl rfl rfl rfl rfl rfl (fun hg => ⟨hc.mono (by (repeat (first | exact Mem.le.refl _ | assumption | (apply Mem.le.trans; rotate_left; assumption)))), (by have h : decide ((0 : Int) < (k : Int)) = true := hg.1; simp at h; omega), (by have h : decide ((0 : Int) < (k : Int)) = true := hg.1; simp at h; show (c.map encI)[((k : Int) - 1).toNat]? = some (encI (cI c (k - 1))); rw [show ((k : Int) - 1).toNat = k - 1 by omega, List.getElem?_map, cI_at (by omega)]; rfl)⟩) (fun _ => rfl) rfl (fun p26 hp26 => ?_)
    refine D.loadP rfl rfl rfl rfl rfl rfl hp26 rfl rfl rfl ?_
    refine D.index rfl rfl rfl rfl rfl rfl rfl rfl rfl rfl (fun hg => ⟨hv.mono (by (repeat (first | exact Mem.le.refl _ | assumption | (apply Mem.le.trans; rotate_left; assumption)))), (by have h : decide ((0 : Int) < (k : Int)) = true := hg.1; simp at h; exact (hprev (k - 1) (by omega)).1), (by have h : decide ((0 : Int) < (k : Int)) = true := hg.1; simp at h; exact (gR_at (hprev (k - 1) (by omega)).1 (hprev (k - 1) (by omega)).2).2)⟩) (fun _ => rfl) rfl (fun p28 hp28 => ?_)
    refine D.fieldP rfl rfl rfl rfl rfl rfl rfl rfl rfl rfl hp28 (fun _ => rfl) rfl (fun p29 hp29 => ?_)
    refine D.loadP rfl rfl rfl rfl rfl rfl hp29 rfl rfl rfl ?_
    iterate 2 refine D.pure rfl rfl rfl rfl rfl rfl ?_
    refine D.index rfl rfl rfl rfl rfl rfl rfl rfl rfl rfl (fun hg => ⟨hv.mono (by (repeat (first | exact Mem.le.refl _ | assumption | (apply Mem.le.trans; rotate_left; assumption)))), (by have h : (!arcB l (cI c k)) = false := hg.2.1; simp at h; exact (arcB_in h).1), (by have h : (!arcB l (cI c k)) = false := hg.2.1; simp at h; exact (gR_at (arcB_in h).1 (arcB_in h).2).2)⟩) (fun _ => rfl) rfl (fun p33 hp33 => ?_)
    refine D.fieldP rfl rfl rfl rfl rfl rfl rfl rfl rfl rfl hp33 (fun _ => rfl) rfl (fun p34 hp34 => ?_)
    refine D.loadP rfl rfl rfl rfl rfl rfl hp34 rfl rfl rfl ?_
    refine D.pure rfl rfl rfl rfl rfl rfl ?_
    refine D.pickAnd rfl rfl rfl rfl rfl rfl rfl rfl ?_
    refine D.pickOr rfl rfl rfl rfl rfl rfl rfl rfl ?_
    refine D.done [(0, [], _), (1, [], _), (7, [], _), (8, [], _), (9, [], _), (38, [], _)] ⟨rfl, rfl, rfl, rfl, rfl, rfl, trivial⟩ (hR _ _ _ rfl ?_); clear hR hB R
    refine G.cond rfl (fun h38 => ?_) (fun h38 => ?_)
    · skip
      have hno : chainB l c = false := chain_stop hkl (by
        cases h1 : arcB l (cI c k) with
        | false => rfl
        | true =>
          rw [h1] at h38
          simp at h38
          simp
          exact ⟨by omega, h38.2⟩)
      refine G.region rfl (fun R hR => ?_)
      refine D.pure rfl rfl rfl rfl rfl rfl ?_
      refine D.done [(4, [], _)] ⟨rfl, trivial⟩ (hR _ _ _ rfl ?_); clear hR R
      refine G.retN (G.dropAll (G.fin1 rfl rfl ?_))
      exact ⟨by rw [hno], rfl⟩
    · skip
      have hst : (arcB l (cI c k) && (decide (k = 0) || decide ((gR l (cI c (k - 1))).upper = (gR l (cI c k)).lower))) = true := by
        simp at h38
        simp [h38.1]
        by_cases h0 : k = 0
        · exact .inl h0
        · exact .inr (h38.2 (by omega))
      refine G.region rfl (fun R hR => ?_)
      refine D.i64 _ rfl rfl rfl rfl rfl (by omega) (by omega) rfl rfl ?_
      refine D.pure rfl rfl rfl rfl rfl rfl ?_
      refine D.done [(0, [], _), (1, [], _), (7, [], _), (8, [], _), (9, [], _)] ⟨rfl, rfl, rfl, rfl, rfl, trivial⟩ (hR _ _ _ rfl ?_); clear hR R
      refine G.again (m' := c.length - (k + 1)) (by omega) (by (repeat (first | exact Mem.le.refl _ | assumption | (apply Mem.le.trans; rotate_left; assumption)))) (fr' := [(0, [], _), (1, [], _), (7, [], _), (8, [], _), (9, [], _)]) ⟨rfl, rfl, rfl, rfl, rfl, trivial⟩ ⟨k + 1, ⟨by omega, fun j hj => by
        by_cases e : j = k
        · rw [e]; exact hst
        · exact hall j (by omega)⟩, rfl, rfl, rfl⟩
  · skip
    have hkl : c.length ≤ k := by
      have : ¬ k < c.length := by simpa using h10
      omega
    refine G.region rfl (fun R hR => ?_)
    iterate 4 refine D.pure rfl rfl rfl rfl rfl rfl ?_
    refine D.done [(4, [], _)] ⟨rfl, trivial⟩ (hR _ _ _ rfl ?_); clear hR R
    refine G.retN (G.dropAll (G.fin1 rfl rfl ?_))
    refine ⟨?_, rfl⟩
    have h5 : ((List.range c.length).all fun k => arcB l (cI c k) && (decide (k = 0) || decide ((gR l (cI c (k - 1))).upper = (gR l (cI c k)).lower))) = true := by
      rw [List.all_eq_true]
      exact fun j hj => hall j (by have := List.mem_range.1 hj; omega)
    unfold chainB
    rw [h5, Bool.and_true]
    simp
theorem chain_in {l : List Rel} {c : List Int} (h : chainB l c = true) : 0 < c.length ∧ ∀ k, k < c.length → 0 ≤ cI c k ∧ cI c k < l.length := by
  unfold chainB at h
  rw [Bool.and_eq_true, List.all_eq_true] at h
  refine ⟨of_decide_eq_true h.1, fun k hk => ?_⟩
  have := h.2 k (List.mem_range.2 hk)
  rw [Bool.and_eq_true] at this
  exact arcB_in this.1
end Go.Proofs.YtfelabnohopfdaaGreatDoor
namespace Go.Proofs.YtfelabnohopfdaaGreatDoor
open Go Go.Jog
set_option maxRecDepth 100000

def gS (N : List Str) (i : Nat) : Str := N.getD i []
theorem gS_at {N : List Str} {i : Nat} (h : i < N.length) : N[i]? = some (gS N i) := by
  unfold gS; rw [List.getD_eq_getElem?_getD, List.getElem?_eq_getElem h]; rfl
/-- The names are all different, as far as they are looked at. -/
def wantA (N : List Str) (k : Nat) : Bool := (List.range k).all fun i => decide (idxS N (gS N i) = (i : Int))
theorem wantA_nodup (N : List Str) : wantA N N.length = decide N.Nodup := by
  rw [Bool.eq_iff_iff, decide_eq_true_eq]
  unfold wantA
  rw [List.all_eq_true]
  constructor
  · intro h
    rw [List.nodup_iff_pairwise_ne, List.pairwise_iff_getElem]
    intro i j hi hj hij e
    have h1 := of_decide_eq_true (h i (List.mem_range.2 hi))
    have h2 := of_decide_eq_true (h j (List.mem_range.2 hj))
    have e2 : gS N i = gS N j := by
      have e3 := gS_at hi
      have e4 := gS_at hj
      rw [List.getElem?_eq_getElem hi] at e3
      rw [List.getElem?_eq_getElem hj] at e4
      injection e3 with e3; injection e4 with e4
      rw [← e3, ← e4, e]
    rw [e2, h2] at h1
    omega
  · intro hn i hi
    have hi' := List.mem_range.1 hi
    have hm : gS N i ∈ N := List.mem_of_getElem? (gS_at hi')
    have hp : posS N (gS N i) = i := by
      refine posS_take (gS_at hi') fun hx => ?_
      obtain ⟨j, hj, e⟩ := List.mem_iff_getElem.1 hx
      rw [List.length_take] at hj
      rw [List.getElem_take] at e
      rw [List.nodup_iff_pairwise_ne, List.pairwise_iff_getElem] at hn
      refine hn j i (by omega) hi' (by omega) ?_
      have e3 := gS_at hi'
      rw [List.getElem?_eq_getElem hi'] at e3
      injection e3 with e3
      rw [e, e3]
    rw [decide_eq_true_eq]
    unfold idxS
    rw [if_pos hm, hp]
/-- The relations are kept, as far as they are looked at. -/
def wantB (l : List Rel) (N : List Str) (w : Bool) (k : Nat) : Bool := w && (List.range k).all (keptB l N)
theorem kept_eq (l : List Rel) (N : List Str) (i : Nat) : keptB l N i = (decide (0 ≤ idxS N (gR l i).upper) && decide (0 ≤ idxS N (gR l i).lower) && (!(arcB l i) || decide (idxS N (gR l i).lower < idxS N (gR l i).upper))) := by
  unfold keptB idxS posZ
  by_cases h1 : (gR l i).upper ∈ N
  · by_cases h2 : (gR l i).lower ∈ N
    · rw [if_pos h1, if_pos h2, if_pos h1, if_pos h2, decide_eq_true h1, decide_eq_true h2]
      have e1 : decide ((0 : Int) ≤ (posS N (gR l i).upper : Int)) = true := decide_eq_true (by omega)
      have e2 : decide ((0 : Int) ≤ (posS N (gR l i).lower : Int)) = true := decide_eq_true (by omega)
      have e3 : decide ((posS N (gR l i).lower : Int) < (posS N (gR l i).upper : Int)) = !decide (posS N (gR l i).upper ≤ posS N (gR l i).lower) := by
        rw [Bool.eq_iff_iff, Bool.not_eq_true', decide_eq_true_eq, decide_eq_false_iff_not]; omega
      rw [e1, e2, e3]
      cases arcB l i <;> rfl
    · simp [h2]
  · simp [h1]
theorem pos_map55 {N : List Str} (hN : N.Nodup) : ∀ {o : List Nat} {i : Nat}, (∀ x ∈ o, x < N.length) → i < N.length → posS (o.map (nameAt N)) (nameAt N i) = posIn o i
  | [], _, _, _ => rfl
  | x :: o, i, ho, hi => by
    have hx := ho x (by simp)
    have ih := pos_map55 hN (o := o) (i := i) (fun y hy => ho y (by simp [hy])) hi
    simp only [List.map_cons, posS, posIn]
    by_cases e : x = i
    · rw [if_pos (by rw [e]), if_pos e]
    · rw [if_neg (fun h => e ?_), if_neg e, ih]
      have h1 := nameAt_get hx
      have h2 := nameAt_get hi
      rw [h] at h1
      obtain ⟨h3, h4⟩ := List.getElem?_eq_some_iff.1 h1
      obtain ⟨h5, h6⟩ := List.getElem?_eq_some_iff.1 h2
      exact (List.getElem_inj hN).1 (h4.trans h6.symm)
theorem nameAt_pos55 {N : List Str} {s : Str} (h : s ∈ N) : nameAt N (posS N s) = s := by
  have h1 := posS_at h
  have h2 := nameAt_get (posS_lt h)
  rw [h1] at h2
  exact (Option.some.inj h2).symm
theorem topo_ord {l : List Rel} {o : List Nat} (hT : Topo (arcsOf l) (unitsL l).length o) : ordB l (namesOfO l o) = true := by
  have hN := unitsL_nodup l
  have hnd : (o.map (nameAt (unitsL l))).Nodup := by
    rw [List.nodup_iff_pairwise_ne, List.pairwise_map]
    have h2 := hT.2.1
    rw [List.nodup_iff_pairwise_ne] at h2
    refine List.Pairwise.imp_of_mem (fun {x y} hx hy hne e => hne ?_) h2
    have h3 := nameAt_get (hT.2.2.1 x hx)
    have h4 := nameAt_get (hT.2.2.1 y hy)
    rw [e] at h3
    obtain ⟨h5, h6⟩ := List.getElem?_eq_some_iff.1 h3
    obtain ⟨h7, h8⟩ := List.getElem?_eq_some_iff.1 h4
    exact (List.getElem_inj hN).1 (h6.trans h8.symm)
  have hall : ∀ s ∈ unitsL l, s ∈ o.map (nameAt (unitsL l)) := fun s hs => by
    rw [← nameAt_pos55 hs]
    exact List.mem_map.2 ⟨_, hT.mem (posS_lt hs), rfl⟩
  unfold ordB namesOfO
  rw [decide_eq_true hnd, Bool.true_and, List.all_eq_true]
  intro k hk
  have hkl := List.mem_range.1 hk
  obtain ⟨hgk, _⟩ := gR_at (l := l) (i := (k : Int)) (by omega) (by omega)
  rw [show ((k : Int)).toNat = k by omega] at hgk
  have hy := List.mem_of_getElem? hgk
  have hm := mem_units hy
  unfold keptB
  rw [decide_eq_true (hall _ hm.2), decide_eq_true (hall _ hm.1), Bool.true_and, Bool.true_and]
  cases ha : arcB l k with
  | false => rfl
  | true =>
    have hkd : (gR l k).kind ≠ 4 := by
      unfold arcB at ha
      simp at ha
      omega
    have har : (⟨k, posS (unitsL l) (gR l k).lower, posS (unitsL l) (gR l k).upper⟩ : Arc3) ∈ arcsOf l := mem_arcs3.2 ⟨_, hgk, hkd, rfl⟩
    have hlt := (ord_idx hT.2.2.2 har (hT.mem (posS_lt hm.2)) hT.2.1).1
    simp only at hlt
    unfold posZ
    rw [if_pos (hall _ hm.2), if_pos (hall _ hm.1)]
    have e1 := pos_map55 hN (o := o) (i := posS (unitsL l) (gR l k).upper) hT.2.2.1 (posS_lt hm.2)
    have e2 := pos_map55 hN (o := o) (i := posS (unitsL l) (gR l k).lower) hT.2.2.1 (posS_lt hm.1)
    rw [nameAt_pos55 hm.2] at e1
    rw [nameAt_pos55 hm.1] at e2
    rw [e1, e2, decide_eq_false (by omega)]
    rfl
/-- What succession.Order answers at made relations. -/
theorem ordRes_own {D : Mem} {l : List Rel} {r : Value} (hm : Made l) (h : OrdRes D l r) : ∃ (A : Option Addr) (n cp : Nat) (own : List Str) (e : Int), r = .tuple #[.slice A n cp, .int .i64 e] ∧ Sl D 1 (.slice A n cp) (own.map encS) ∧ own.length = n ∧ ordB l own = (decide (e = 0) || decide (l.length = 0)) := by
  rcases h with ⟨h1, _⟩ | ⟨_, ⟨k, w, hk, hw⟩, h2⟩ | ⟨_, o, v, hT, h2, h3⟩
  · exact absurd hm.err h1
  · refine ⟨none, 0, 0, [], 27, h2, Sl.nil D 1, rfl, ?_⟩
    cases l with
    | nil =>
      exfalso
      obtain ⟨p, hin, hpl, _⟩ := hw
      cases p with
      | nil => simp at hpl; omega
      | cons a p =>
        obtain ⟨x, hx, _⟩ := mem_arcs3.1 (hin a (by simp))
        simp at hx
    | cons x l =>
      unfold ordB
      have : keptB (x :: l) [] 0 = false := by unfold keptB; simp
      rw [List.length_cons, List.range_succ_eq_map, List.all_cons, this]
      simp
  · obtain ⟨A, cp, rfl, _⟩ := id h3
    refine ⟨A, _, cp, namesOfO l o, 0, h2, h3, by rw [List.length_map], ?_⟩
    rw [topo_ord hT.1]; rfl
/-- A reason, step by step. -/
theorem stepsM_iff (l : List Rel) (ix : Int) : ∀ (bs : List Int) (u w : Str), stepsM l ix u bs = some w ↔ (∀ k, k < bs.length → arcB l (cI bs k) = true ∧ cI bs k ≠ ix ∧ (gR l (cI bs k)).lower = if k = 0 then u else (gR l (cI bs (k - 1))).upper) ∧ w = if bs.length = 0 then u else (gR l (cI bs (bs.length - 1))).upper
  | [], u, w => by
    simp [stepsM]
    exact eq_comm
  | i :: r, u, w => by
    unfold stepsM
    have h0 : cI (i :: r) 0 = i := rfl
    have hs : ∀ k, cI (i :: r) (k + 1) = cI r k := fun k => rfl
    split
    · rename_i h
      simp only [Bool.and_eq_true, Bool.not_eq_true', beq_eq_false_iff_ne, ne_eq, decide_eq_true_eq] at h
      rw [stepsM_iff l ix r]
      have hw : (if (i :: r).length = 0 then u else (gR l (cI (i :: r) ((i :: r).length - 1))).upper) = (if r.length = 0 then (gR l i).upper else (gR l (cI r (r.length - 1))).upper) := by
        rw [if_neg (by simp)]
        cases r with
        | nil => rfl
        | cons j r => rfl
      rw [hw]
      constructor
      · rintro ⟨h1, h2⟩
        refine ⟨fun k hk => ?_, h2⟩
        cases k with
        | zero => exact ⟨h.1.1, h.1.2, by rw [h0, if_pos rfl]; exact h.2⟩
        | succ k =>
          obtain ⟨h3, h4, h5⟩ := h1 k (by simpa using hk)
          refine ⟨h3, h4, ?_⟩
          rw [if_neg (by omega), hs, h5]
          cases k with
          | zero => rfl
          | succ k => rw [if_neg (by omega)]; rfl
      · rintro ⟨h1, h2⟩
        refine ⟨fun k hk => ?_, h2⟩
        obtain ⟨h3, h4, h5⟩ := h1 (k + 1) (by simpa using hk)
        refine ⟨h3, h4, ?_⟩
        rw [if_neg (by omega), hs] at h5
        rw [h5]
        cases k with
        | zero => rfl
        | succ k => rw [if_neg (by omega)]; rfl
    · rename_i h
      constructor
      · intro h1; cases h1
      · rintro ⟨h1, _⟩
        refine absurd ?_ h
        obtain ⟨h3, h4, h5⟩ := h1 0 (by simp)
        rw [h0] at h3 h4 h5
        rw [if_pos rfl] at h5
        simp [h3, h4, h5]
/-- What the law says of a reason. -/
def dueB (l : List Rel) (ix : Int) (bs : List Int) : Bool := chainB l bs && (arcB l ix && (decide ((gR l (cI bs 0)).lower = (gR l ix).lower) && decide ((gR l (cI bs (bs.length - 1))).upper = (gR l ix).upper)))
def dueN (bs : List Int) (ix : Int) (k : Nat) : Bool := (List.range k).all fun j => !decide (cI bs j = ix)
theorem due_imp (l : List Rel) (ix : Int) (bs : List Int) : impB l ix bs = (dueB l ix bs && dueN bs ix bs.length) := by
  have hI : impB l ix bs = true ↔ (arcB l ix = true ∧ ¬ bs.length = 0) ∧ stepsM l ix (gR l ix).lower bs = some (gR l ix).upper := by
    unfold impB
    cases stepsM l ix (gR l ix).lower bs with
    | none => simp
    | some u => simp
  rw [Bool.eq_iff_iff, hI]
  unfold dueB dueN chainB
  simp only [Bool.and_eq_true, stepsM_iff, Bool.not_eq_true', decide_eq_false_iff_not, decide_eq_true_eq, List.all_eq_true, List.mem_range, Bool.or_eq_true]
  constructor
  · rintro ⟨⟨h1, h2⟩, h3, h4⟩
    have h5 := h3 0 (by omega)
    rw [if_pos rfl] at h5
    rw [if_neg h2] at h4
    refine ⟨⟨⟨by omega, fun k hk => ⟨(h3 k hk).1, ?_⟩⟩, h1, h5.2.2, h4.symm⟩, fun j hj => (h3 j hj).2.1⟩
    by_cases hk0 : k = 0
    · exact .inl hk0
    · have h6 := (h3 k hk).2.2
      rw [if_neg hk0] at h6
      exact .inr h6.symm
  · rintro ⟨⟨⟨h1, h2⟩, h3, h4, h5⟩, h6⟩
    refine ⟨⟨h3, by omega⟩, fun k hk => ⟨(h2 k hk).1, h6 k hk, ?_⟩, by rw [if_neg (by omega)]; exact h5.symm⟩
    by_cases hk0 : k = 0
    · subst hk0; rw [if_pos rfl]; exact h4
    · rw [if_neg hk0]
      exact ((h2 k hk).2.resolve_left hk0).symm
theorem imp_nil (l : List Rel) : impB l 0 [] = false := by unfold impB; simp
end Go.Proofs.YtfelabnohopfdaaGreatDoor
namespace Go.Proofs.YtfelabnohopfdaaGreatDoor
open Go Go.Jog
set_option maxRecDepth 100000

end Go.Proofs.YtfelabnohopfdaaGreatDoor
namespace Go.Proofs.YtfelabnohopfdaaGreatDoor
open Go Go.Jog
set_option maxRecDepth 100000

theorem at55_fn (C : Mem) (b : Nat) (A : Option Addr) (n c : Nat) (N : List Str) (s : Str) (hb : C b = some (.cells ⟨[.slice A n c]⟩ 26 (0, 0))) (hN : Sl C 1 (.slice A n c) (N.map encS)) (hn : N.length = n) (hl : n ≤ 8) : Gives cx.P 10 [strV s, .pointer (some ⟨b, 0, none⟩)] C (.int .i64 (idxS N s)) := by
  subst hn
  refine Fn.intro (by kernel_rfl) Tryz.func10 rfl 18 rfl rfl (fun w0 => ?_)
  refine G.region rfl (fun R hR => ?_)
  refine D.pure rfl rfl rfl rfl rfl rfl ?_
  refine D.done [(0, [], _), (1, [], _)] ⟨rfl, rfl, trivial⟩ (hR _ _ _ rfl ?_); clear hR R
  refine G.region rfl (fun R hR => ?_)
  refine D.loadP0 (PtrTo.block (Mem.get hb (by (repeat (first | exact Mem.le.refl _ | assumption | (apply Mem.le.trans; rotate_left; assumption))))) _) rfl rfl rfl rfl rfl rfl rfl rfl ?_
  iterate 2 refine D.pure rfl rfl rfl rfl rfl rfl ?_
  refine D.done [(0, [], _), (1, [], _), (6, [], _), (7, [], _)] ⟨rfl, rfl, rfl, rfl, trivial⟩ (hR _ _ _ rfl ?_); clear hR R
  refine G.loop (fun fr C' L' μ => ∃ (k : Nat), (k ≤ N.length ∧ s ∉ N.take k) ∧ fr = [(0, [], strV s), (1, [], .pointer (some ⟨b, 0, none⟩)), (6, [], .int .i64 N.length), (7, [], .int .i64 k)] ∧ L' = [] ∧ μ = N.length - k) (fr' := [(0, [], _), (1, [], _), (6, [], _), (7, [], _)]) ⟨rfl, rfl, rfl, rfl, trivial⟩ ⟨0, ⟨Nat.zero_le _, by simp⟩, rfl, rfl, rfl⟩ (fun fr C0' L0' m hle0 hI => ?_)
  obtain ⟨k, ⟨hk, hn⟩, rfl, rfl, rfl⟩ := hI
  refine G.region rfl (fun R hR => ?_)
  refine D.pure rfl rfl rfl rfl rfl rfl ?_
  refine D.done [(0, [], _), (1, [], _), (6, [], _), (7, [], _), (8, [], _)] ⟨rfl, rfl, rfl, rfl, rfl, trivial⟩ (hR _ _ _ rfl ?_); clear hR R
  refine G.cond rfl (fun h8 => ?_) (fun h8 => ?_)
  · skip
    simp only [decide_eq_true_eq] at h8
    have hkl : k < N.length := by omega
    obtain ⟨p, hp⟩ : ∃ p, N[k]? = some p := ⟨N[k], List.getElem?_eq_getElem hkl⟩
    have hrp : (N.map encS)[k]? = some (encS p) := by rw [List.getElem?_map, hp]; rfl
    refine G.region rfl (fun R hR => ?_)
    iterate 2 refine D.pure rfl rfl rfl rfl rfl rfl ?_
    refine D.done [(0, [], _), (1, [], _), (4, [], _), (6, [], _), (7, [], _)] ⟨rfl, rfl, rfl, rfl, rfl, trivial⟩ (hR _ _ _ rfl ?_); clear hR R
    refine G.region rfl (fun R hR => ?_)
    refine D.loadP0 (PtrTo.block (Mem.get hb (by (repeat (first | exact Mem.le.refl _ | assumption | (apply Mem.le.trans; rotate_left; assumption))))) _) rfl rfl rfl rfl rfl rfl rfl rfl ?_
    refine D.pure rfl rfl rfl rfl rfl rfl ?_
    refine D.index0 (hN.mono (by (repeat (first | exact Mem.le.refl _ | assumption | (apply Mem.le.trans; rotate_left; assumption))))) rfl rfl rfl rfl rfl rfl rfl rfl rfl rfl (by omega) hrp (fun _ => rfl) (fun p12 hp12 => ?_)
    refine D.loadP0 hp12 rfl rfl rfl rfl rfl rfl rfl rfl ?_
    iterate 2 refine D.pure rfl rfl rfl rfl rfl rfl ?_
    refine D.done [(0, [], _), (1, [], _), (4, [], _), (6, [], _), (7, [], _), (15, [], _)] ⟨rfl, rfl, rfl, rfl, rfl, rfl, trivial⟩ (hR _ _ _ rfl ?_); clear hR R
    refine G.cond rfl (fun h15 => ?_) (fun h15 => ?_)
    · skip
      have h15' : p = s := by simpa using h15
      subst h15'
      refine G.region rfl (fun R hR => ?_)
      iterate 2 refine D.pure rfl rfl rfl rfl rfl rfl ?_
      refine D.done [(3, [], _)] ⟨rfl, trivial⟩ (hR _ _ _ rfl ?_); clear hR R
      refine G.retN (G.dropAll (G.fin1 rfl rfl ?_))
      refine ⟨?_, rfl⟩
      rw [idxS, if_pos (List.mem_of_getElem? hp), posS_take hp hn]
    · skip
      have h15' : p ≠ s := by simpa using h15
      refine G.region rfl (fun R hR => ?_)
      refine D.i64 _ rfl rfl rfl rfl rfl (by omega) (by omega) rfl rfl ?_
      refine D.pure rfl rfl rfl rfl rfl rfl ?_
      refine D.done [(0, [], _), (1, [], _), (6, [], _), (7, [], _)] ⟨rfl, rfl, rfl, rfl, trivial⟩ (hR _ _ _ rfl ?_); clear hR R
      refine G.again (m' := N.length - (k + 1)) (by omega) (by (repeat (first | exact Mem.le.refl _ | assumption | (apply Mem.le.trans; rotate_left; assumption)))) (fr' := [(0, [], _), (1, [], _), (6, [], _), (7, [], _)]) ⟨rfl, rfl, rfl, rfl, trivial⟩ ⟨k + 1, ⟨by omega, by rw [take_snoc hp]; simp [hn, Ne.symm h15']⟩, rfl, rfl, rfl⟩
  · skip
    simp only [decide_eq_false_iff_not] at h8
    have hkl : k = N.length := by omega
    subst hkl
    rw [List.take_length] at hn
    refine G.region rfl (fun R hR => ?_)
    refine D.pure rfl rfl rfl rfl rfl rfl ?_
    refine D.done [(3, [], _)] ⟨rfl, trivial⟩ (hR _ _ _ rfl ?_); clear hR R
    refine G.retN (G.dropAll (G.fin1 rfl rfl ?_))
    refine ⟨?_, rfl⟩
    rw [idxS, if_neg hn]
theorem beqI (a b : Int) : (a == b) = decide (a = b) := by rw [Bool.eq_iff_iff]; simp
theorem wantA_succ (N : List Str) (k : Nat) : wantA N (k + 1) = (wantA N k && decide (idxS N (gS N k) = (k : Int))) := by
  unfold wantA; rw [List.range_succ, List.all_append]; simp
theorem wantB_succ (l : List Rel) (N : List Str) (w : Bool) (k : Nat) : wantB l N w (k + 1) = (wantB l N w k && keptB l N k) := by
  unfold wantB; rw [List.range_succ, List.all_append]; simp [Bool.and_assoc]
theorem dueN_succ (bs : List Int) (ix : Int) (k : Nat) : dueN bs ix (k + 1) = (dueN bs ix k && !decide (cI bs k = ix)) := by
  unfold dueN; rw [List.range_succ, List.all_append]; simp
theorem ord_want (l : List Rel) (N : List Str) : ordB l N = wantB l N (wantA N N.length) l.length := by
  unfold ordB wantB; rw [wantA_nodup]
set_option maxHeartbeats 8000000 in
theorem orders55_fn (C : Mem) (hT : Tabs C) (v vn vb : Value) (s : List Seen) (N : List Str) (bys : List Int) (hv : Sl C 3 v (s.map Seen.enc)) (hn : Sl C 1 vn (N.map encS)) (hb : Sl C 1 vb (bys.map encI)) : Gives cx.P 4 [v, vn, vb] C (.bool true) := by
  obtain ⟨A, ca, rfl, _⟩ := id hv
  obtain ⟨An, cn, rfl, _⟩ := id hn
  obtain ⟨Ab, cb, rfl, hbl1, hbl2, _⟩ := id hb
  simp only [List.length_map] at hv hn hb hbl1 ⊢
  refine Fn.intro (by kernel_rfl) Tryz.func4 rfl 203 rfl rfl (fun w0 => ?_)
  refine G.region rfl (fun R hR => ?_)
  refine D.box rfl rfl rfl rfl rfl rfl (fun _ => rfl) (fun b4 => ?_)
  refine D.pure rfl rfl rfl rfl rfl rfl ?_
  refine D.done [(0, [], _), (2, [], _), (4, [], _)] ⟨rfl, rfl, rfl, trivial⟩ (hR _ _ _ rfl ?_); clear hR R
  refine G.freeze 0 rfl (fun C4 hle4 hb4 => ?_)
  refine G.region rfl (fun R hR => ?_)
  refine D.gives2 (known_fn _ (hT.mono (by (repeat (first | exact Mem.le.refl _ | assumption | (apply Mem.le.trans; rotate_left; assumption)))))) rfl rfl rfl rfl rfl rfl rfl (fun _ => rfl) ?_
  iterate 3 refine D.pure rfl rfl rfl rfl rfl rfl ?_
  refine D.gives (fun _ => (fits_fn _ A s.length ca)) rfl rfl rfl rfl rfl rfl rfl rfl rfl ?_
  refine D.pure rfl rfl rfl rfl rfl rfl ?_
  refine D.pickOr rfl rfl rfl rfl rfl rfl rfl rfl ?_
  refine D.pure rfl rfl rfl rfl rfl rfl ?_
  refine D.loadP rfl rfl rfl rfl rfl rfl (fun _ => PtrTo.block (Mem.get hb4 (by (repeat (first | exact Mem.le.refl _ | assumption | (apply Mem.le.trans; rotate_left; assumption))))) _) rfl rfl rfl ?_
  iterate 2 refine D.pure rfl rfl rfl rfl rfl rfl ?_
  refine D.pickOr rfl rfl rfl rfl rfl rfl rfl rfl ?_
  iterate 4 refine D.pure rfl rfl rfl rfl rfl rfl ?_
  refine D.pickOr rfl rfl rfl rfl rfl rfl rfl rfl ?_
  refine D.done [(0, [], _), (2, [], _), (4, [], _), (39, [], _)] ⟨rfl, rfl, rfl, rfl, trivial⟩ (hR _ _ _ rfl ?_); clear hR R
  refine G.cond rfl (fun h39 => ?_) (fun h39 => ?_)
  · skip
    refine G.region rfl (fun R hR => ?_)
    refine D.gives2 (known_fn _ (hT.mono (by (repeat (first | exact Mem.le.refl _ | assumption | (apply Mem.le.trans; rotate_left; assumption)))))) rfl rfl rfl rfl rfl rfl rfl (fun _ => rfl) ?_
    refine D.pure rfl rfl rfl rfl rfl rfl ?_
    refine D.done [(6, [], _)] ⟨rfl, trivial⟩ (hR _ _ _ rfl ?_); clear hR R
    refine G.retN (G.dropAll (G.fin1 rfl rfl ?_))
    exact ⟨rfl, rfl⟩
  · skip
    have hlen : N.length ≤ 8 ∧ bys.length ≤ 5 := by
      simp at h39
      omega
    obtain ⟨hN8, hb5⟩ := hlen
    have hat : ∀ (D : Mem) (x : Str), C4.le D → Gives cx.P 10 [strV x, .pointer (some ⟨b4, 0, none⟩)] D (.int .i64 (idxS N x)) := fun D x hD =>
      at55_fn D b4 An N.length cn N x (hD _ _ hb4) ((hn.mono hle4).mono hD) rfl hN8
    refine G.region rfl (fun R hR => ?_)
    refine D.loadP0 (PtrTo.block (Mem.get hb4 (by (repeat (first | exact Mem.le.refl _ | assumption | (apply Mem.le.trans; rotate_left; assumption))))) _) rfl rfl rfl rfl rfl rfl rfl rfl ?_
    iterate 2 refine D.pure rfl rfl rfl rfl rfl rfl ?_
    refine D.done [(0, [], _), (2, [], _), (4, [], _), (42, [], _), (43, [], _)] ⟨rfl, rfl, rfl, rfl, rfl, trivial⟩ (hR _ _ _ rfl ?_); clear hR R
    refine G.loop (fun fr C' L' μ => ∃ (k : Nat), (k ≤ N.length) ∧ fr = [(0, [], .slice A s.length ca), (2, [], .slice Ab bys.length cb), (4, [], .pointer (some ⟨b4, 0, none⟩)), (42, [], .int .i64 N.length), (43, [], .int .i64 k)] ∧ L' = [] ∧ μ = N.length - k) (fr' := [(0, [], _), (2, [], _), (4, [], _), (42, [], _), (43, [], _)]) ⟨rfl, rfl, rfl, rfl, rfl, trivial⟩ ⟨0, Nat.zero_le _, rfl, rfl, rfl⟩ (fun fr C0' L0' m hle0 hI => ?_)
    obtain ⟨k, hk, rfl, rfl, rfl⟩ := hI
    refine G.region rfl (fun R hR => ?_)
    refine D.pure rfl rfl rfl rfl rfl rfl ?_
    refine D.done [(0, [], _), (2, [], _), (4, [], _), (42, [], _), (43, [], _), (44, [], _)] ⟨rfl, rfl, rfl, rfl, rfl, rfl, trivial⟩ (hR _ _ _ rfl ?_); clear hR R
    refine G.cond rfl (fun h44 => ?_) (fun h44 => ?_)
    · skip
      have hkl : k < N.length := by simpa using h44
      have hrp : (N.map encS)[k]? = some (encS (gS N k)) := by rw [List.getElem?_map, gS_at hkl]; rfl
      refine G.region rfl (fun R hR => ?_)
      iterate 2 refine D.pure rfl rfl rfl rfl rfl rfl ?_
      refine D.done [(0, [], _), (2, [], _), (4, [], _), (7, [], _), (42, [], _), (43, [], _)] ⟨rfl, rfl, rfl, rfl, rfl, rfl, trivial⟩ (hR _ _ _ rfl ?_); clear hR R
      refine G.region rfl (fun R hR => ?_)
      refine D.loadP0 (PtrTo.block (Mem.get hb4 (by (repeat (first | exact Mem.le.refl _ | assumption | (apply Mem.le.trans; rotate_left; assumption))))) _) rfl rfl rfl rfl rfl rfl rfl rfl ?_
      refine D.pure rfl rfl rfl rfl rfl rfl ?_
      refine D.index0 (hn.mono (by (repeat (first | exact Mem.le.refl _ | assumption | (apply Mem.le.trans; rotate_left; assumption))))) rfl rfl rfl rfl rfl rfl rfl rfl rfl rfl (by omega) hrp (fun _ => rfl) (fun p48 hp48 => ?_)
      refine D.loadP0 hp48 rfl rfl rfl rfl rfl rfl rfl rfl ?_
      iterate 2 refine D.pure rfl rfl rfl rfl rfl rfl ?_
      refine D.done [(0, [], _), (2, [], _), (4, [], _), (42, [], _), (43, [], _), (51, [], _)] ⟨rfl, rfl, rfl, rfl, rfl, rfl, trivial⟩ (hR _ _ _ rfl ?_); clear hR R
      refine G.cond rfl (fun h51 => ?_) (fun h51 => ?_)
      · skip
        refine G.region rfl (fun R hR => ?_)
        refine D.pure rfl rfl rfl rfl rfl rfl ?_
        refine D.done [(6, [], _)] ⟨rfl, trivial⟩ (hR _ _ _ rfl ?_); clear hR R
        refine G.retN (G.dropAll (G.fin1 rfl rfl ?_))
        exact ⟨rfl, rfl⟩
      · skip
        refine G.region rfl (fun R hR => ?_)
        refine D.i64 _ rfl rfl rfl rfl rfl (by omega) (by omega) rfl rfl ?_
        refine D.pure rfl rfl rfl rfl rfl rfl ?_
        refine D.done [(0, [], _), (2, [], _), (4, [], _), (42, [], _), (43, [], _)] ⟨rfl, rfl, rfl, rfl, rfl, trivial⟩ (hR _ _ _ rfl ?_); clear hR R
        refine G.again (m' := N.length - (k + 1)) (by omega) (by (repeat (first | exact Mem.le.refl _ | assumption | (apply Mem.le.trans; rotate_left; assumption)))) (fr' := [(0, [], _), (2, [], _), (4, [], _), (42, [], _), (43, [], _)]) ⟨rfl, rfl, rfl, rfl, rfl, trivial⟩ ⟨k + 1, by omega, rfl, rfl, rfl⟩
    · skip
      refine G.region rfl (fun R hR => ?_)
      refine D.pure rfl rfl rfl rfl rfl rfl ?_
      refine D.callP (make_fn _ _ s (hv.mono (by (repeat (first | exact Mem.le.refl _ | assumption | (apply Mem.le.trans; rotate_left; assumption)))))) rfl rfl rfl rfl rfl rfl rfl (fun _ => rfl) (fun v54 C54 hle54 hq54 => ?_)
      obtain ⟨Am, cm, rfl, _⟩ := id hq54
      have hma := made_makeL s
      obtain ⟨l, hl⟩ : ∃ l, makeL s = l := ⟨_, rfl⟩
      rw [hl] at hq54 hma
      have hl8 := hma.1
      rw [List.length_map] at hq54
      rw [hl, List.length_map]
      refine D.pure rfl rfl rfl rfl rfl rfl ?_
      refine D.done [(2, [], _), (4, [], _), (8, [], _)] ⟨rfl, rfl, rfl, trivial⟩ (hR _ _ _ rfl ?_); clear hR R
      refine G.region rfl (fun R hR => ?_)
      iterate 2 refine D.pure rfl rfl rfl rfl rfl rfl ?_
      refine D.done [(2, [], _), (4, [], _), (8, [], _), (9, [], _)] ⟨rfl, rfl, rfl, rfl, trivial⟩ (hR _ _ _ rfl ?_); clear hR R
      refine G.region rfl (fun R hR => ?_)
      refine D.pure rfl rfl rfl rfl rfl rfl ?_
      refine D.done [(2, [], _), (4, [], _), (8, [], _), (9, [], _), (10, [], _)] ⟨rfl, rfl, rfl, rfl, rfl, trivial⟩ (hR _ _ _ rfl ?_); clear hR R
      refine G.region rfl (fun R hR => ?_)
      refine D.loadP0 (PtrTo.block (Mem.get hb4 (by (repeat (first | exact Mem.le.refl _ | assumption | (apply Mem.le.trans; rotate_left; assumption))))) _) rfl rfl rfl rfl rfl rfl rfl rfl ?_
      iterate 2 refine D.pure rfl rfl rfl rfl rfl rfl ?_
      refine D.done [(2, [], _), (4, [], _), (8, [], _), (9, [], _), (10, [], _), (57, [], _), (58, [], _)] ⟨rfl, rfl, rfl, rfl, rfl, rfl, rfl, trivial⟩ (hR _ _ _ rfl ?_); clear hR R
      refine G.loop (fun fr C' L' μ => ∃ (k : Nat), (k ≤ N.length) ∧ fr = [(2, [], .slice Ab bys.length cb), (4, [], .pointer (some ⟨b4, 0, none⟩)), (8, [], .slice Am l.length cm), (9, [], .func (.func 10) #[] #[.pointer (some ⟨b4, 0, none⟩)]), (10, [], .bool (wantA N k)), (57, [], .int .i64 N.length), (58, [], .int .i64 k)] ∧ L' = [] ∧ μ = N.length - k) (fr' := [(2, [], _), (4, [], _), (8, [], _), (9, [], _), (10, [], _), (57, [], _), (58, [], _)]) ⟨rfl, rfl, rfl, rfl, rfl, rfl, rfl, trivial⟩ ⟨0, Nat.zero_le _, rfl, rfl, rfl⟩ (fun fr C1' L1' m hle1 hI => ?_)
      obtain ⟨k, hk, rfl, rfl, rfl⟩ := hI
      refine G.region rfl (fun R hR => ?_)
      refine D.pure rfl rfl rfl rfl rfl rfl ?_
      refine D.done [(2, [], _), (4, [], _), (8, [], _), (9, [], _), (10, [], _), (57, [], _), (58, [], _), (59, [], _)] ⟨rfl, rfl, rfl, rfl, rfl, rfl, rfl, rfl, trivial⟩ (hR _ _ _ rfl ?_); clear hR R
      refine G.cond rfl (fun h59 => ?_) (fun h59 => ?_)
      · skip
        have hkl : k < N.length := by simpa using h59
        have hrp : (N.map encS)[k]? = some (encS (gS N k)) := by rw [List.getElem?_map, gS_at hkl]; rfl
        refine G.region rfl (fun R hR => ?_)
        iterate 2 refine D.pure rfl rfl rfl rfl rfl rfl ?_
        refine D.done [(2, [], _), (4, [], _), (8, [], _), (9, [], _), (10, [], _), (11, [], _), (57, [], _), (58, [], _)] ⟨rfl, rfl, rfl, rfl, rfl, rfl, rfl, rfl, trivial⟩ (hR _ _ _ rfl ?_); clear hR R
        refine G.region rfl (fun R hR => ?_)
        iterate 3 refine D.pure rfl rfl rfl rfl rfl rfl ?_
        refine D.loadP rfl rfl rfl rfl rfl rfl (fun _ => PtrTo.block (Mem.get hb4 (by (repeat (first | exact Mem.le.refl _ | assumption | (apply Mem.le.trans; rotate_left; assumption))))) _) rfl rfl rfl ?_
        refine D.pure rfl rfl rfl rfl rfl rfl ?_
        refine D.index rfl rfl rfl rfl rfl rfl rfl rfl rfl rfl (fun hg => ⟨hn.mono (by (repeat (first | exact Mem.le.refl _ | assumption | (apply Mem.le.trans; rotate_left; assumption)))), by omega, hrp⟩) (fun _ => rfl) rfl (fun p66 hp66 => ?_)
        refine D.loadP rfl rfl rfl rfl rfl rfl hp66 rfl rfl rfl ?_
        refine D.gives (fun _ => (hat _ _ (by (repeat (first | exact Mem.le.refl _ | assumption | (apply Mem.le.trans; rotate_left; assumption)))))) rfl rfl rfl rfl rfl rfl rfl rfl rfl ?_
        iterate 2 refine D.pure rfl rfl rfl rfl rfl rfl ?_
        refine D.pickAnd rfl rfl rfl rfl rfl rfl rfl rfl ?_
        refine D.pure rfl rfl rfl rfl rfl rfl ?_
        refine D.done [(2, [], _), (4, [], _), (8, [], _), (9, [], _), (10, [], _), (57, [], _), (58, [], _)] ⟨rfl, rfl, rfl, rfl, rfl, rfl, rfl, trivial⟩ (hR _ _ _ rfl ?_); clear hR R
        refine G.region rfl (fun R hR => ?_)
        refine D.i64 _ rfl rfl rfl rfl rfl (by omega) (by omega) rfl rfl ?_
        refine D.pure rfl rfl rfl rfl rfl rfl ?_
        refine D.done [(2, [], _), (4, [], _), (8, [], _), (9, [], _), (10, [], _), (57, [], _), (58, [], _)] ⟨rfl, rfl, rfl, rfl, rfl, rfl, rfl, trivial⟩ (hR _ _ _ rfl ?_); clear hR R
        rw [beqI, ← wantA_succ]
        refine G.again (m' := N.length - (k + 1)) (by omega) (by (repeat (first | exact Mem.le.refl _ | assumption | (apply Mem.le.trans; rotate_left; assumption)))) (fr' := [(2, [], _), (4, [], _), (8, [], _), (9, [], _), (10, [], _), (57, [], _), (58, [], _)]) ⟨rfl, rfl, rfl, rfl, rfl, rfl, rfl, trivial⟩ ⟨k + 1, by omega, rfl, rfl, rfl⟩
      · skip
        have hkN : k = N.length := by
          have : ¬ k < N.length := by simpa using h59
          omega
        subst hkN
        refine G.region rfl (fun R hR => ?_)
        iterate 3 refine D.pure rfl rfl rfl rfl rfl rfl ?_
        refine D.done [(2, [], _), (4, [], _), (8, [], _), (9, [], _), (10, [], _), (73, [], _), (74, [], _), (75, [], _)] ⟨rfl, rfl, rfl, rfl, rfl, rfl, rfl, rfl, trivial⟩ (hR _ _ _ rfl ?_); clear hR R
        rw [show wantA N N.length = wantB l N (wantA N N.length) 0 from by unfold wantB; simp]
        refine G.loop (fun fr C' L' μ => ∃ (k : Nat), (k ≤ l.length) ∧ fr = [(2, [], .slice Ab bys.length cb), (4, [], .pointer (some ⟨b4, 0, none⟩)), (8, [], .slice Am l.length cm), (9, [], .func (.func 10) #[] #[.pointer (some ⟨b4, 0, none⟩)]), (10, [], .bool (wantB l N (wantA N N.length) k)), (73, [], .slice Am l.length cm), (74, [], .int .i64 l.length), (75, [], .int .i64 k)] ∧ L' = [] ∧ μ = l.length - k) (fr' := [(2, [], _), (4, [], _), (8, [], _), (9, [], _), (10, [], _), (73, [], _), (74, [], _), (75, [], _)]) ⟨rfl, rfl, rfl, rfl, rfl, rfl, rfl, rfl, trivial⟩ ⟨0, Nat.zero_le _, rfl, rfl, rfl⟩ (fun fr C2' L2' m hle2 hI => ?_)
        obtain ⟨k, hk, rfl, rfl, rfl⟩ := hI
        refine G.region rfl (fun R hR => ?_)
        refine D.pure rfl rfl rfl rfl rfl rfl ?_
        refine D.done [(2, [], _), (4, [], _), (8, [], _), (9, [], _), (10, [], _), (73, [], _), (74, [], _), (75, [], _), (76, [], _)] ⟨rfl, rfl, rfl, rfl, rfl, rfl, rfl, rfl, rfl, trivial⟩ (hR _ _ _ rfl ?_); clear hR R
        refine G.cond rfl (fun h76 => ?_) (fun h76 => ?_)
        · skip
          have hkl : k < l.length := by simpa using h76
          have hrl : (l.map Rel.enc)[k]? = some (gR l k).enc := (gR_at (i := (k : Int)) (by omega) (by omega)).2
          refine G.region rfl (fun R hR => ?_)
          refine D.pure rfl rfl rfl rfl rfl rfl ?_
          refine D.index0 (hq54.mono (by (repeat (first | exact Mem.le.refl _ | assumption | (apply Mem.le.trans; rotate_left; assumption))))) rfl rfl rfl rfl rfl rfl rfl rfl rfl rfl (by omega) hrl (fun _ => rfl) (fun p78 hp78 => ?_)
          refine D.loadP0 hp78 rfl rfl rfl rfl rfl rfl rfl rfl ?_
          refine D.alloc rfl rfl rfl rfl rfl (fun _ => rfl) (fun b13 => ?_)
          refine D.pure rfl rfl rfl rfl rfl rfl ?_
          refine D.store (j := 0) rfl rfl rfl rfl rfl rfl rfl rfl rfl rfl rfl rfl ?_
          refine D.done [(2, [], _), (4, [], _), (8, [], _), (9, [], _), (10, [], _), (12, [], _), (13, [], _), (73, [], _), (74, [], _), (75, [], _)] ⟨rfl, rfl, rfl, rfl, rfl, rfl, rfl, rfl, rfl, rfl, trivial⟩ (hR _ _ _ rfl ?_); clear hR R
          refine G.draw [0, 1, 2, 3, 4, 5, 6, 7, 8, 9] [(3, 1), (7, 1)] rfl (by kernel_rfl) (fun R hB hR => ?_)
          iterate 2 refine D.pure rfl rfl rfl rfl rfl rfl ?_
          refine D.loadL (.head _) rfl rfl rfl rfl rfl rfl rfl rfl rfl ?_
          refine D.gives (fun _ => (hat _ _ (by (repeat (first | exact Mem.le.refl _ | assumption | (apply Mem.le.trans; rotate_left; assumption)))))) rfl rfl rfl rfl rfl rfl rfl rfl rfl ?_
          iterate 2 refine D.pure rfl rfl rfl rfl rfl rfl ?_
          refine D.loadL (.head _) rfl rfl rfl rfl rfl rfl rfl rfl rfl ?_
          refine D.gives (fun _ => (hat _ _ (by (repeat (first | exact Mem.le.refl _ | assumption | (apply Mem.le.trans; rotate_left; assumption)))))) rfl rfl rfl rfl rfl rfl rfl rfl rfl ?_
          iterate 2 refine D.pure rfl rfl rfl rfl rfl rfl ?_
          refine D.done [(2, [], _), (4, [], _), (8, [], _), (9, [], _), (10, [], _), (12, [], _), (14, [], _), (15, [], _), (73, [], _), (74, [], _), (75, [], _)] ⟨rfl, rfl, rfl, rfl, rfl, rfl, rfl, rfl, rfl, rfl, rfl, trivial⟩ (hR _ _ _ rfl ?_); clear hR hB R
          refine G.region rfl (fun R hR => ?_)
          iterate 4 refine D.pure rfl rfl rfl rfl rfl rfl ?_
          refine D.pickAnd rfl rfl rfl rfl rfl rfl rfl rfl ?_
          iterate 3 refine D.pure rfl rfl rfl rfl rfl rfl ?_
          refine D.pickAnd rfl rfl rfl rfl rfl rfl rfl rfl ?_
          iterate 3 refine D.pure rfl rfl rfl rfl rfl rfl ?_
          refine D.gives (fun _ => (larc55_fn _ _ l k (hq54.mono (by (repeat (first | exact Mem.le.refl _ | assumption | (apply Mem.le.trans; rotate_left; assumption))))))) rfl rfl rfl rfl rfl rfl rfl rfl rfl ?_
          iterate 5 refine D.pure rfl rfl rfl rfl rfl rfl ?_
          refine D.pickOr rfl rfl rfl rfl rfl rfl rfl rfl ?_
          refine D.pickAnd rfl rfl rfl rfl rfl rfl rfl rfl ?_
          refine D.pure rfl rfl rfl rfl rfl rfl ?_
          refine D.done [(2, [], _), (4, [], _), (8, [], _), (9, [], _), (10, [], _), (73, [], _), (74, [], _), (75, [], _)] ⟨rfl, rfl, rfl, rfl, rfl, rfl, rfl, rfl, trivial⟩ (hR _ _ _ rfl ?_); clear hR R
          refine G.region rfl (fun R hR => ?_)
          refine D.i64 _ rfl rfl rfl rfl rfl (by omega) (by omega) rfl rfl ?_
          refine D.pure rfl rfl rfl rfl rfl rfl ?_
          refine D.done [(2, [], _), (4, [], _), (8, [], _), (9, [], _), (10, [], _), (73, [], _), (74, [], _), (75, [], _)] ⟨rfl, rfl, rfl, rfl, rfl, rfl, rfl, rfl, trivial⟩ (hR _ _ _ rfl ?_); clear hR R
          rw [show (wantB l N (wantA N N.length) k && decide (0 ≤ idxS N (gR l ↑k).upper) && decide (0 ≤ idxS N (gR l ↑k).lower) && (!arcB l ↑k || decide (idxS N (gR l ↑k).lower < idxS N (gR l ↑k).upper))) = wantB l N (wantA N N.length) (k + 1) from by rw [wantB_succ, kept_eq]; simp only [Bool.and_assoc]]
          refine G.dropE 0 rfl ?_
          refine G.again (m' := l.length - (k + 1)) (by omega) (by (repeat (first | exact Mem.le.refl _ | assumption | (apply Mem.le.trans; rotate_left; assumption)))) (fr' := [(2, [], _), (4, [], _), (8, [], _), (9, [], _), (10, [], _), (73, [], _), (74, [], _), (75, [], _)]) ⟨rfl, rfl, rfl, rfl, rfl, rfl, rfl, rfl, trivial⟩ ⟨k + 1, by omega, rfl, rfl, rfl⟩
        · skip
          have hkN : k = l.length := by
            have : ¬ k < l.length := by simpa using h76
            omega
          subst hkN
          refine G.region rfl (fun R hR => ?_)
          refine D.pure rfl rfl rfl rfl rfl rfl ?_
          refine D.callP (order_fn _ _ l (hq54.mono (by (repeat (first | exact Mem.le.refl _ | assumption | (apply Mem.le.trans; rotate_left; assumption))))) (by omega) hma.short) rfl rfl rfl rfl rfl rfl rfl (fun _ => rfl) (fun v111 C111 hle111 hq111 => ?_)
          obtain ⟨Aw, nw, cw, own, f, rfl, how, hol, hof⟩ := ordRes_own hma hq111
          iterate 5 refine D.pure rfl rfl rfl rfl rfl rfl ?_
          refine D.done [(2, [], _), (4, [], _), (8, [], _), (10, [], _), (16, [], _), (17, [], _)] ⟨rfl, rfl, rfl, rfl, rfl, rfl, trivial⟩ (hR _ _ _ rfl ?_); clear hR R
          refine G.region rfl (fun R hR => ?_)
          refine D.pure rfl rfl rfl rfl rfl rfl ?_
          refine D.loadP0 (PtrTo.block (Mem.get hb4 (by (repeat (first | exact Mem.le.refl _ | assumption | (apply Mem.le.trans; rotate_left; assumption))))) _) rfl rfl rfl rfl rfl rfl rfl rfl ?_
          refine D.gives2 (corder_fn _ _ _ l N (hq54.mono (by (repeat (first | exact Mem.le.refl _ | assumption | (apply Mem.le.trans; rotate_left; assumption))))) (hn.mono (by (repeat (first | exact Mem.le.refl _ | assumption | (apply Mem.le.trans; rotate_left; assumption)))))) rfl rfl rfl rfl rfl rfl rfl (fun _ => rfl) ?_
          iterate 5 refine D.pure rfl rfl rfl rfl rfl rfl ?_
          refine D.gives (fun _ => (corder_fn _ _ _ l own (hq54.mono (by (repeat (first | exact Mem.le.refl _ | assumption | (apply Mem.le.trans; rotate_left; assumption))))) (how.mono (by (repeat (first | exact Mem.le.refl _ | assumption | (apply Mem.le.trans; rotate_left; assumption))))))) rfl rfl rfl rfl rfl rfl rfl rfl rfl ?_
          iterate 6 refine D.pure rfl rfl rfl rfl rfl rfl ?_
          refine D.pickOr rfl rfl rfl rfl rfl rfl rfl rfl ?_
          refine D.pure rfl rfl rfl rfl rfl rfl ?_
          refine D.pickOr rfl rfl rfl rfl rfl rfl rfl rfl ?_
          refine D.done [(2, [], _), (8, [], _), (131, [], _)] ⟨rfl, rfl, rfl, trivial⟩ (hR _ _ _ rfl ?_); clear hR R
          refine G.cond rfl (fun h131 => ?_) (fun h131 => ?_)
          · skip
            exfalso
            rw [hof, ← ord_want] at h131
            have e2 : (decide (f = 0) || decide (l.length = 0)) = (f == 0 || (l.length : Int) == 0) := by
              congr 1
              rw [beqI, decide_eq_decide]; omega
            rw [e2] at h131
            simp at h131
          · skip
            clear h131
            refine G.region rfl (fun R hR => ?_)
            iterate 3 refine D.pure rfl rfl rfl rfl rfl rfl ?_
            refine D.done [(2, [], _), (8, [], _), (134, [], _)] ⟨rfl, rfl, rfl, trivial⟩ (hR _ _ _ rfl ?_); clear hR R
            refine G.cond rfl (fun h134 => ?_) (fun h134 => ?_)
            · skip
              refine G.region rfl (fun R hR => ?_)
              refine D.pure rfl rfl rfl rfl rfl rfl ?_
              refine D.gives2 (implied_fn _ _ _ l 0 [] (hq54.mono (by (repeat (first | exact Mem.le.refl _ | assumption | (apply Mem.le.trans; rotate_left; assumption))))) (Sl.nil _ 1)) rfl rfl rfl rfl rfl rfl rfl (fun _ => rfl) ?_
              iterate 2 refine D.pure rfl rfl rfl rfl rfl rfl ?_
              refine D.done [(6, [], _)] ⟨rfl, trivial⟩ (hR _ _ _ rfl ?_); clear hR R
              refine G.retN (G.dropAll (G.fin1 rfl rfl ?_))
              exact ⟨by rw [imp_nil]; rfl, rfl⟩
            · skip
              have hb0 : 0 < bys.length := by
                have : ¬ (bys.length : Int) = 0 := by simpa using h134
                omega
              have hr0 : (bys.map encI)[(0 : Int).toNat]? = some (encI (cI bys 0)) := by rw [show (0 : Int).toNat = 0 from rfl, List.getElem?_map, cI_at hb0]; rfl
              refine G.draw [0, 1, 2, 3, 4, 5, 6] [] rfl (by kernel_rfl) (fun R hB hR => ?_)
              refine D.pure rfl rfl rfl rfl rfl rfl ?_
              refine D.index0 (hb.mono (by (repeat (first | exact Mem.le.refl _ | assumption | (apply Mem.le.trans; rotate_left; assumption))))) rfl rfl rfl rfl rfl rfl rfl rfl rfl rfl (by omega) hr0 (fun _ => rfl) (fun p139 hp139 => ?_)
              refine D.loadP0 hp139 rfl rfl rfl rfl rfl rfl rfl rfl ?_
              refine D.pure rfl rfl rfl rfl rfl rfl ?_
              refine D.sliceV 1 bys.length cb rfl rfl rfl rfl rfl rfl rfl rfl rfl rfl rfl rfl (fun _ => ⟨.inr ⟨_, rfl⟩, .inl ⟨rfl, rfl⟩, .inl ⟨rfl, rfl⟩, by omega, by omega, by omega⟩) rfl rfl ?_
              iterate 2 refine D.pure rfl rfl rfl rfl rfl rfl ?_
              refine D.done [(8, [], _), (18, [], _), (19, [], _)] ⟨rfl, rfl, rfl, trivial⟩ (hR _ _ _ rfl ?_); clear hR hB R
              have hrs := Sl.sub hb (l := 1) (h := bys.length) (m := cb) (by omega) (by simp) (by omega) (Nat.le_refl _)
              obtain ⟨Ar, hAr⟩ : ∃ Ar, (if cb = 1 then Ab else Ab.map (·.add (1 * 1))) = Ar := ⟨_, rfl⟩
              obtain ⟨rs, hrsd⟩ : ∃ rs, bys.drop 1 = rs := ⟨_, rfl⟩
              have hrl : rs.length = bys.length - 1 := by rw [← hrsd, List.length_drop]
              obtain ⟨ix, hix⟩ : ∃ ix, cI bys 0 = ix := ⟨_, rfl⟩
              rw [hAr, List.take_of_length_le (by simp), ← List.map_drop, hrsd] at hrs
              rw [hAr, hix]
              refine G.draw [0, 1, 2, 3, 4, 5, 6, 7, 8, 9, 10, 11, 12, 13, 14, 15, 16, 17, 18, 19, 20, 21, 22, 23, 24, 25, 26, 27, 28, 29, 30, 31, 32, 33, 34, 35, 36, 37, 38, 39, 40, 41] [(2, 1)] rfl (by kernel_rfl) (fun R hB hR => ?_)
              iterate 2 refine D.pure rfl rfl rfl rfl rfl rfl ?_
              refine D.gives (fun _ => (chain_fn _ _ _ l rs (hq54.mono (by (repeat (first | exact Mem.le.refl _ | assumption | (apply Mem.le.trans; rotate_left; assumption))))) (hrs.mono (by (repeat (first | exact Mem.le.refl _ | assumption | (apply Mem.le.trans; rotate_left; assumption))))))) rfl rfl rfl rfl rfl rfl rfl rfl rfl ?_
              iterate 3 refine D.pure rfl rfl rfl rfl rfl rfl ?_
              refine D.gives (fun _ => (larc55_fn _ _ l ix (hq54.mono (by (repeat (first | exact Mem.le.refl _ | assumption | (apply Mem.le.trans; rotate_left; assumption))))))) rfl rfl rfl rfl rfl rfl rfl rfl rfl ?_
              refine D.pickAnd rfl rfl rfl rfl rfl rfl rfl rfl ?_
              iterate 3 refine D.pure rfl rfl rfl rfl rfl rfl ?_
              refine D.index rfl rfl rfl rfl rfl rfl rfl rfl rfl rfl (fun hg => ⟨hrs.mono (by (repeat (first | exact Mem.le.refl _ | assumption | (apply Mem.le.trans; rotate_left; assumption)))), by omega, (by have h : chainB l rs = true := (Bool.and_eq_true_iff.1 hg.1).1; have h := (chain_in h).1; rw [show (0 : Int).toNat = 0 from rfl, List.getElem?_map, cI_at h]; rfl)⟩) (fun _ => rfl) rfl (fun p154 hp154 => ?_)
              refine D.loadP rfl rfl rfl rfl rfl rfl hp154 rfl rfl rfl ?_
              refine D.index rfl rfl rfl rfl rfl rfl rfl rfl rfl rfl (fun hg => ⟨hq54.mono (by (repeat (first | exact Mem.le.refl _ | assumption | (apply Mem.le.trans; rotate_left; assumption)))), (by have h : chainB l rs = true := (Bool.and_eq_true_iff.1 hg.1).1; have h := chain_in h; exact (h.2 0 h.1).1), (by have h : chainB l rs = true := (Bool.and_eq_true_iff.1 hg.1).1; have h := chain_in h; exact (gR_at (h.2 0 h.1).1 (h.2 0 h.1).2).2)⟩) (fun _ => rfl) rfl (fun p156 hp156 => ?_)
              refine D.fieldP rfl rfl rfl rfl rfl rfl rfl rfl rfl rfl hp156 (fun _ => rfl) rfl (fun p157 hp157 => ?_)
              refine D.loadP rfl rfl rfl rfl rfl rfl hp157 rfl rfl rfl ?_
              iterate 2 refine D.pure rfl rfl rfl rfl rfl rfl ?_
              refine D.index rfl rfl rfl rfl rfl rfl rfl rfl rfl rfl (fun hg => ⟨hq54.mono (by (repeat (first | exact Mem.le.refl _ | assumption | (apply Mem.le.trans; rotate_left; assumption)))), (by have h : arcB l ix = true := (Bool.and_eq_true_iff.1 hg.1).2; exact (arcB_in h).1), (by have h : arcB l ix = true := (Bool.and_eq_true_iff.1 hg.1).2; exact (gR_at (arcB_in h).1 (arcB_in h).2).2)⟩) (fun _ => rfl) rfl (fun p161 hp161 => ?_)
              refine D.fieldP rfl rfl rfl rfl rfl rfl rfl rfl rfl rfl hp161 (fun _ => rfl) rfl (fun p162 hp162 => ?_)
              refine D.loadP rfl rfl rfl rfl rfl rfl hp162 rfl rfl rfl ?_
              refine D.pure rfl rfl rfl rfl rfl rfl ?_
              refine D.pickAnd rfl rfl rfl rfl rfl rfl rfl rfl ?_
              iterate 5 refine D.pure rfl rfl rfl rfl rfl rfl ?_
              refine D.i64 _ rfl rfl rfl rfl rfl (by omega) (by omega) rfl rfl ?_
              refine D.index rfl rfl rfl rfl rfl rfl rfl rfl rfl rfl (fun hg => ⟨hrs.mono (by (repeat (first | exact Mem.le.refl _ | assumption | (apply Mem.le.trans; rotate_left; assumption)))), (by have h : chainB l rs = true := (Bool.and_eq_true_iff.1 (Bool.and_eq_true_iff.1 hg.1).1).1; have h := chain_in h; omega), (by have h : chainB l rs = true := (Bool.and_eq_true_iff.1 (Bool.and_eq_true_iff.1 hg.1).1).1; have h := chain_in h; rw [show (((bys.length - 1 : Nat) : Int) - 1).toNat = rs.length - 1 by omega, List.getElem?_map, cI_at (by omega)]; rfl)⟩) (fun _ => rfl) rfl (fun p172 hp172 => ?_)
              refine D.loadP rfl rfl rfl rfl rfl rfl hp172 rfl rfl rfl ?_
              refine D.index rfl rfl rfl rfl rfl rfl rfl rfl rfl rfl (fun hg => ⟨hq54.mono (by (repeat (first | exact Mem.le.refl _ | assumption | (apply Mem.le.trans; rotate_left; assumption)))), (by have h : chainB l rs = true := (Bool.and_eq_true_iff.1 (Bool.and_eq_true_iff.1 hg.1).1).1; have h := chain_in h; exact (h.2 (rs.length - 1) (by omega)).1), (by have h : chainB l rs = true := (Bool.and_eq_true_iff.1 (Bool.and_eq_true_iff.1 hg.1).1).1; have h := chain_in h; exact (gR_at (h.2 (rs.length - 1) (by omega)).1 (h.2 (rs.length - 1) (by omega)).2).2)⟩) (fun _ => rfl) rfl (fun p174 hp174 => ?_)
              refine D.fieldP rfl rfl rfl rfl rfl rfl rfl rfl rfl rfl hp174 (fun _ => rfl) rfl (fun p175 hp175 => ?_)
              refine D.loadP rfl rfl rfl rfl rfl rfl hp175 rfl rfl rfl ?_
              iterate 2 refine D.pure rfl rfl rfl rfl rfl rfl ?_
              refine D.index rfl rfl rfl rfl rfl rfl rfl rfl rfl rfl (fun hg => ⟨hq54.mono (by (repeat (first | exact Mem.le.refl _ | assumption | (apply Mem.le.trans; rotate_left; assumption)))), (by have h : arcB l ix = true := (Bool.and_eq_true_iff.1 (Bool.and_eq_true_iff.1 hg.1).1).2; exact (arcB_in h).1), (by have h : arcB l ix = true := (Bool.and_eq_true_iff.1 (Bool.and_eq_true_iff.1 hg.1).1).2; exact (gR_at (arcB_in h).1 (arcB_in h).2).2)⟩) (fun _ => rfl) rfl (fun p179 hp179 => ?_)
              refine D.fieldP rfl rfl rfl rfl rfl rfl rfl rfl rfl rfl hp179 (fun _ => rfl) rfl (fun p180 hp180 => ?_)
              refine D.loadP rfl rfl rfl rfl rfl rfl hp180 rfl rfl rfl ?_
              refine D.pure rfl rfl rfl rfl rfl rfl ?_
              refine D.pickAnd rfl rfl rfl rfl rfl rfl rfl rfl ?_
              refine D.pure rfl rfl rfl rfl rfl rfl ?_
              refine D.done [(8, [], _), (18, [], _), (19, [], _), (20, [], _)] ⟨rfl, rfl, rfl, rfl, trivial⟩ (hR _ _ _ rfl ?_); clear hR hB R
              refine G.region rfl (fun R hR => ?_)
              iterate 3 refine D.pure rfl rfl rfl rfl rfl rfl ?_
              refine D.done [(8, [], _), (18, [], _), (19, [], _), (20, [], _), (184, [], _), (185, [], _), (186, [], _)] ⟨rfl, rfl, rfl, rfl, rfl, rfl, rfl, trivial⟩ (hR _ _ _ rfl ?_); clear hR R
              have hdue : (chainB l rs && arcB l ix && (⟨(gR l (cI rs 0)).lower.toArray⟩ : ByteArray).data.toList == (⟨(gR l ix).lower.toArray⟩ : ByteArray).data.toList && (⟨(gR l (cI rs (rs.length - 1))).upper.toArray⟩ : ByteArray).data.toList == (⟨(gR l ix).upper.toArray⟩ : ByteArray).data.toList) = (dueB l ix rs && dueN rs ix 0) := by
                rw [eqStr, eqStr]
                unfold dueB dueN
                simp [Bool.and_assoc]
              rw [hdue]
              refine G.loop (fun fr C' L' μ => ∃ (k : Nat), (k ≤ rs.length) ∧ fr = [(8, [], .slice Am l.length cm), (18, [], .int .i64 ix), (19, [], .slice Ar (bys.length - 1) (cb - 1)), (20, [], .bool (dueB l ix rs && dueN rs ix k)), (184, [], .slice Ar (bys.length - 1) (cb - 1)), (185, [], .int .i64 ((bys.length - 1 : Nat) : Int)), (186, [], .int .i64 k)] ∧ L' = [] ∧ μ = rs.length - k) (fr' := [(8, [], _), (18, [], _), (19, [], _), (20, [], _), (184, [], _), (185, [], _), (186, [], _)]) ⟨rfl, rfl, rfl, rfl, rfl, rfl, rfl, trivial⟩ ⟨0, Nat.zero_le _, rfl, rfl, rfl⟩ (fun fr C3' L3' m hle3 hI => ?_)
              obtain ⟨k, hk, rfl, rfl, rfl⟩ := hI
              refine G.region rfl (fun R hR => ?_)
              refine D.pure rfl rfl rfl rfl rfl rfl ?_
              refine D.done [(8, [], _), (18, [], _), (19, [], _), (20, [], _), (184, [], _), (185, [], _), (186, [], _), (187, [], _)] ⟨rfl, rfl, rfl, rfl, rfl, rfl, rfl, rfl, trivial⟩ (hR _ _ _ rfl ?_); clear hR R
              refine G.cond rfl (fun h187 => ?_) (fun h187 => ?_)
              · skip
                have hkl : k < rs.length := by
                  have : (k : Int) < ((bys.length - 1 : Nat) : Int) := by simpa using h187
                  omega
                have hrk : (rs.map encI)[k]? = some (encI (cI rs k)) := by rw [List.getElem?_map, cI_at hkl]; rfl
                refine G.region rfl (fun R hR => ?_)
                refine D.index0 (hrs.mono (by (repeat (first | exact Mem.le.refl _ | assumption | (apply Mem.le.trans; rotate_left; assumption))))) rfl rfl rfl rfl rfl rfl rfl rfl rfl rfl (by omega) hrk (fun _ => rfl) (fun p188 hp188 => ?_)
                refine D.loadP0 hp188 rfl rfl rfl rfl rfl rfl rfl rfl ?_
                refine D.pure rfl rfl rfl rfl rfl rfl ?_
                refine D.done [(8, [], _), (18, [], _), (19, [], _), (20, [], _), (22, [], _), (184, [], _), (185, [], _), (186, [], _)] ⟨rfl, rfl, rfl, rfl, rfl, rfl, rfl, rfl, trivial⟩ (hR _ _ _ rfl ?_); clear hR R
                refine G.region rfl (fun R hR => ?_)
                iterate 5 refine D.pure rfl rfl rfl rfl rfl rfl ?_
                refine D.pickAnd rfl rfl rfl rfl rfl rfl rfl rfl ?_
                refine D.pure rfl rfl rfl rfl rfl rfl ?_
                refine D.done [(8, [], _), (18, [], _), (19, [], _), (20, [], _), (184, [], _), (185, [], _), (186, [], _)] ⟨rfl, rfl, rfl, rfl, rfl, rfl, rfl, trivial⟩ (hR _ _ _ rfl ?_); clear hR R
                refine G.region rfl (fun R hR => ?_)
                refine D.i64 _ rfl rfl rfl rfl rfl (by omega) (by omega) rfl rfl ?_
                refine D.pure rfl rfl rfl rfl rfl rfl ?_
                refine D.done [(8, [], _), (18, [], _), (19, [], _), (20, [], _), (184, [], _), (185, [], _), (186, [], _)] ⟨rfl, rfl, rfl, rfl, rfl, rfl, rfl, trivial⟩ (hR _ _ _ rfl ?_); clear hR R
                rw [show (dueB l ix rs && dueN rs ix k && cI rs k != ix) = (dueB l ix rs && dueN rs ix (k + 1)) from by rw [dueN_succ, Bool.and_assoc, bne, beqI]]
                refine G.again (m' := rs.length - (k + 1)) (by omega) (by (repeat (first | exact Mem.le.refl _ | assumption | (apply Mem.le.trans; rotate_left; assumption)))) (fr' := [(8, [], _), (18, [], _), (19, [], _), (20, [], _), (184, [], _), (185, [], _), (186, [], _)]) ⟨rfl, rfl, rfl, rfl, rfl, rfl, rfl, trivial⟩ ⟨k + 1, by omega, rfl, rfl, rfl⟩
              · skip
                have hkN : k = rs.length := by
                  have : ¬ (k : Int) < ((bys.length - 1 : Nat) : Int) := by simpa using h187
                  omega
                subst hkN
                refine G.region rfl (fun R hR => ?_)
                iterate 3 refine D.pure rfl rfl rfl rfl rfl rfl ?_
                refine D.gives2 (implied_fn _ _ _ l ix rs (hq54.mono (by (repeat (first | exact Mem.le.refl _ | assumption | (apply Mem.le.trans; rotate_left; assumption))))) (hrs.mono (by (repeat (first | exact Mem.le.refl _ | assumption | (apply Mem.le.trans; rotate_left; assumption)))))) rfl rfl rfl rfl rfl rfl rfl (fun _ => rfl) ?_
                iterate 3 refine D.pure rfl rfl rfl rfl rfl rfl ?_
                refine D.done [(6, [], _)] ⟨rfl, trivial⟩ (hR _ _ _ rfl ?_); clear hR R
                refine G.retN (G.dropAll (G.fin1 rfl rfl ?_))
                refine ⟨?_, rfl⟩
                rw [due_imp]
                simp
end Go.Proofs.YtfelabnohopfdaaGreatDoor
namespace Go.Proofs.YtfelabnohopfdaaGreatDoor
open Go Go.Jog Go.ChangeShapes Go.WideShapes Go.ChangeAt Go.RowKit
set_option maxRecDepth 100000

namespace lawCheckerOrders
theorem laid_met (os : Os) (args : Array Value) : laidMetH Tryz.prog Rows.checkerOrdersRow.laid ((laidWorld os).forCall (fun _ _ => 0) ⟨#[], args, []⟩).memory :=
  laidMet_of_run' 8 (by kernel_rfl) (by kernel_rfl)
theorem contract (H : Type) (enc : TypeId × Value → H) (W : World) (base : Nat) (args : Array Value) (ds gs : List (DataW H)) (before : List MemPlace)
    (hval : ∀ (j : Nat) t v, Tryz.f4.params[j]? = some t → args[j]? = some v → Value.okWide Tryz.prog W .any base t v)
    (hW : DataW.Whole enc Tryz.prog Tryz.f4.params.toList Rows.checkerOrdersSpec.vars false W args.toList ds gs before) (hL : laidMet Tryz.prog Rows.checkerOrdersRow.laid W) :
    Calls Tryz.prog 4 args W fun e W' => ∃ v, e = .returned v ∧ Rows.checkerOrdersSpec.post enc Tryz.prog Tryz.f4 false true false false W args v W' := by
  have hW' := hW
  obtain ⟨p, q, hA0, hV, rfl, hfz, hnd⟩ := hW
  have hA : DataW.TrodAll enc Tryz.prog W 0 (fun _ => true) true Tryz.f4.params.toList args.toList ds p := hA0
  rw [Tryz.params4] at hA hval
  obtain ⟨v0, vs0, d0, ds0, p0, q0, hargs0, rfl, rfl, h0, r0⟩ := trodAll_cons hA
  obtain ⟨v1, vs1, d1, ds1, p1, q1, hargs1, rfl, rfl, h1, r1⟩ := trodAll_cons r0
  obtain ⟨v2, vs2, d2, ds2, p2, q2, hargs2, rfl, rfl, h2, r2⟩ := trodAll_cons r1
  obtain ⟨rfl, rfl, rfl⟩ := trodAll_nil r2
  obtain rfl : args = #[v0, v1, v2] := by cases args; simp_all
  obtain ⟨rfl, rfl⟩ := trodVars_none hV
  obtain ⟨a0, len0, cap0, rfl⟩ := okWide_slice Tryz.underlying25 (hval 0 25 v0 rfl rfl)
  obtain ⟨l0, hl0⟩ : ∃ l : List Seen, Sl (memOf W) 3 (.slice a0 len0 cap0) (l.map Seen.enc) := by
    obtain ⟨n, hn⟩ := (id h0)
    exact seens_of hn
  obtain ⟨a1, len1, cap1, rfl⟩ := okWide_slice Tryz.underlying26 (hval 1 26 v1 rfl rfl)
  obtain ⟨l1, hl1⟩ : ∃ l : List Str, Sl (memOf W) 1 (.slice a1 len1 cap1) (l.map encS) := by
    obtain ⟨n, hn⟩ := (id h1)
    exact strs_of hn
  obtain ⟨a2, len2, cap2, rfl⟩ := okWide_slice Tryz.underlying27 (hval 2 27 v2 rfl rfl)
  obtain ⟨l2, hl2⟩ : ∃ l : List Int, Sl (memOf W) 1 (.slice a2 len2 cap2) (l.map encI) := by
    obtain ⟨n, hn⟩ := (id h2)
    exact ints_of hn
  simp only [List.append_nil] at hW'
  have hlt0 : ∀ x ∈ p0, x.block < W.heap.size := fun x hx => hW'.lt x (by simp [hx])
  have hlt1 : ∀ x ∈ p1, x.block < W.heap.size := fun x hx => hW'.lt x (by simp [hx])
  have hlt2 : ∀ x ∈ p2, x.block < W.heap.size := fun x hx => hW'.lt x (by simp [hx])
  have main := gives_below (orders55_fn (memOf W) (tabs_of hL) _ _ _ l0 l1 l2 hl0 hl1 hl2)
  refine Calls.mono main fun e W' ⟨he, hb⟩ => ?_
  subst he
  refine ⟨_, rfl, post_of_below (pa := p0 ++ (p1 ++ (p2 ++ ([])))) (pv := []) hW' (fun _ _ _ => trodAll_cons_mk (shut_bool Tryz.underlying4 _) trodAll_mk0) (fun sp hsp => ?_) (fun _ _ => rfl) (by simp) hb (ok_one (by kernel_rfl) rfl (okWide_bool_mk Tryz.underlying4 _))⟩
  exact trodAll_cons_mk (WideElems.Trod_stays laidOut' (by kernel_rfl) (of_decide_eq_true (by kernel_rfl)) h0 (fun x hx => hb.same (hlt0 x hx)) (fun x hx => hsp x (by simp [hx]))) (trodAll_cons_mk (WideElems.Trod_stays laidOut' (by kernel_rfl) (of_decide_eq_true (by kernel_rfl)) h1 (fun x hx => hb.same (hlt1 x hx)) (fun x hx => hsp x (by simp [hx]))) (trodAll_cons_mk (WideElems.Trod_stays laidOut' (by kernel_rfl) (of_decide_eq_true (by kernel_rfl)) h2 (fun x hx => hb.same (hlt2 x hx)) (fun x hx => hsp x (by simp [hx]))) (trodAll_mk0)))

theorem reads (os : Os) {H : Type} (enc : TypeId × Value → H) : ∃ places, DataW.whole enc Tryz.prog ((laidWorld os).forCall (fun _ _ => 0) ⟨#[], #[.slice none 0 0, .slice none 0 0, .slice none 0 0], []⟩).memory Tryz.f4.params.toList Rows.checkerOrdersSpec.vars false (#[.slice none 0 0, .slice none 0 0, .slice none 0 0] : Array Value).toList 8 = some ([.nil, .nil, .nil], [], places) :=
  ⟨[], by kernel_rfl⟩

theorem lifted (os : Os) (started : os.Started) (H : Type) (enc : TypeId × Value → H) (F : Stop.Interp) :
    ReturnsInHanded {} Tryz.checked os 4 .any ((OpenSpec.ofChange Rows.checkerOrdersSpec).preRow enc Tryz.prog Tryz.f4 Rows.checkerOrdersRow.domain false Rows.checkerOrdersRow.laid) (((OpenSpec.ofChange Rows.checkerOrdersSpec).at F).post enc Tryz.prog Tryz.f4 false true false false) := by
  obtain ⟨places, hx⟩ := reads os enc
  refine returnsInHanded_of_row (C := Tryz.checked) (s := OpenSpec.ofChange Rows.checkerOrdersSpec) own started (by kernel_rfl) Tryz.func4
    (witness_row_at (enc := enc) (C := Tryz.checked) false (laidWorld os) #[.slice none 0 0, .slice none 0 0, .slice none 0 0] rfl (by kernel_rfl) (by kernel_rfl) (by kernel_rfl)
      (OpenSpec.preRow_of_cond 8 hx (by kernel_rfl) (fun k hk => by cases hk) (by kernel_rfl) (laid_met os _))) ?_
  intro W base args ds gs before hval hW _ _ _ hL _ _
  exact contract H enc W base args ds gs before hval hW hL

theorem said : Rows.CheckerOrdersSaid :=
  OpenClaim.holds_of_cond 4 Tryz.f4 rfl rfl rfl rfl rfl rfl rfl ⟨rfl, rfl, rfl, rfl, rfl⟩ rfl rfl rfl rfl rfl (by kernel_rfl) Tryz.func4 (by kernel_rfl)
    (of_decide_eq_true (by kernel_rfl)) (by unfold Func.isWrapper; first | (rw [if_pos (by decide +kernel)]; kernel_rfl) | (rw [if_neg (by decide +kernel)]; exact ⟨rfl, rfl⟩))
    (fun os started H enc _ F => by rw [OpenClaim.pre_eq_preRow]; exact lifted os started H enc F)

theorem plain (f : FuncId) (fn : Func) (hf : Tryz.pinned.checked.prog.funcNamed "klippe/klippelaw55.CheckerOrders" = some f) (hfn : Tryz.pinned.checked.prog.funcs[f]? = some fn) :
    true = Tryz.pinned.checked.prog.looks [] ∧ ∀ (j : Nat) t, fn.params[j]? = some t → Tryz.pinned.checked.prog.wantsStandIn t = false := by
  obtain rfl : f = 4 := Option.some.inj ((show Tryz.prog.funcNamed "klippe/klippelaw55.CheckerOrders" = some 4 by kernel_rfl).symm.trans hf) |>.symm
  obtain rfl : fn = Tryz.f4 := (Option.some.inj (Tryz.func4.symm.trans hfn)).symm
  refine ⟨by kernel_rfl, fun j t ht => ?_⟩
  rw [Tryz.params4] at ht
  have hm := Array.mem_of_getElem? ht
  simp only [List.mem_toArray, List.mem_cons, List.not_mem_nil, or_false] at hm
  rcases hm with rfl | rfl | rfl
  · exact (show Tryz.prog.wantsStandIn 25 = false by kernel_rfl)
  · exact (show Tryz.prog.wantsStandIn 26 = false by kernel_rfl)
  · exact (show Tryz.prog.wantsStandIn 27 = false by kernel_rfl)
end lawCheckerOrders

/-- FOR ANY DESCRIPTIONS, ANY LIST OF TEXTS AND ANY LIST OF NUMBERS CheckerOrders ANSWERS true, and leaves them as they were. The listed tables as the program's text lays them (the card ties them). -/
theorem checkerOrders_card : Rows.CheckerOrdersCardSaid :=
  Claim7.holds_tied_plain_at .later [] _ _ _ _ lawCheckerOrders.said (fun _ h => by cases h) (by kernel_rfl) (fun _ h => by cases h) checkerOrders_row_tie rfl ⟨rfl, rfl⟩ (by kernel_rfl) rfl lawCheckerOrders.plain (by kernel_rfl)
#print axioms checkerOrders_card
end Go.Proofs.YtfelabnohopfdaaGreatDoor
