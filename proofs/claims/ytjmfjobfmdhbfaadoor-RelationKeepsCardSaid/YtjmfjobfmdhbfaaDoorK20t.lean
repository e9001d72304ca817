/- Layer 20: the function of the statement RelationLists. -/
import Derived.Test.YtjmfjobfmdhbfaaDoorK20s
namespace Go.Proofs.YtjmfjobfmdhbfaaDoor
open Go Go.Jog
set_option maxRecDepth 100000

/-! ### The model -/
def usesB (a : Nat) (x : Rel) : Bool := (x.upper == unitS a) || (x.lower == unitS a)
def arcB (a b : Nat) (x : Rel) : Bool := ((!(x.kind == 4)) && (x.lower == unitS a)) && (x.upper == unitS b)
def E1 (m : List Rel) (a : Nat) : List Str := oneIf (m.any (usesB a)) (unitS a)
def E2r (m : List Rel) (a b : Nat) : List ArcE := oneIf (m.any (arcB a b)) ⟨unitS a, unitS b⟩
def E2 (m : List Rel) (a : Nat) : List ArcE := cat (E2r m a) 8
/-- All names are of the eight units. -/
def Eight (m : List Rel) : Prop := ∀ x ∈ m, (∃ a : Nat, a < 8 ∧ x.upper = unitS a) ∧ (∃ a : Nat, a < 8 ∧ x.lower = unitS a)
theorem unitS_eight (n : Int) : ∃ a : Nat, a < 8 ∧ unitS n = unitS a := by
  obtain ⟨k, hk, h1, h2⟩ := unitS_mod n
  refine ⟨k, hk, ?_⟩
  have h3 : (k : Int) % 8 = k := by omega
  rw [h2, unitS, h3]
  congr 2
theorem makeL_eight (l : List Seen) : Eight (makeL l) := fun y hy => by
  obtain ⟨x, _, rfl⟩ := List.mem_map.1 hy
  exact ⟨unitS_eight _, unitS_eight _⟩
theorem unitS_lt8 : ∀ a : Fin 8, ∀ b : Fin 8, a < b → Op.bytesLess (unitS (a.val : Int)) (unitS (b.val : Int)) = true := by decide +kernel
theorem unitS_lt {a b : Nat} (h : a < b) (hb : b < 8) : cmpS (unitS a) (unitS b) < 0 := (cmpS_neg _ _).2 (unitS_lt8 ⟨a, by omega⟩ ⟨b, hb⟩ h)
theorem unitS_inj8 {a b : Nat} (ha : a < 8) (hb : b < 8) (h : unitS a = unitS b) : a = b := by
  have := unitS_inj h; omega

theorem units_eq {m : List Rel} (h : Eight m) : unitsL m = cat (E1 m) 8 := by
  refine tot_cmpS.unique (tot_cmpS.setL_strict _) ?_ (fun s => ?_)
  · refine cat_pairwise (fun i _ => ?_) (fun i j hij hj x hx y hy => ?_)
    · unfold E1 oneIf; split <;> simp
    · obtain ⟨_, rfl⟩ := mem_oneIf.1 hx
      obtain ⟨_, rfl⟩ := mem_oneIf.1 hy
      exact unitS_lt hij hj
  · rw [unitsL, mem_setL, mem_namesOf, mem_cat]
    constructor
    · rintro ⟨x, hx, rfl | rfl⟩
      · obtain ⟨a, ha, he⟩ := (h x hx).1
        exact ⟨a, ha, mem_oneIf.2 ⟨List.any_eq_true.2 ⟨x, hx, by simp [usesB, he]⟩, he⟩⟩
      · obtain ⟨a, ha, he⟩ := (h x hx).2
        exact ⟨a, ha, mem_oneIf.2 ⟨List.any_eq_true.2 ⟨x, hx, by simp [usesB, he]⟩, he⟩⟩
    · rintro ⟨a, ha, hm⟩
      obtain ⟨h1, rfl⟩ := mem_oneIf.1 hm
      obtain ⟨x, hx, h2⟩ := List.any_eq_true.1 h1
      simp only [usesB, Bool.or_eq_true, beq_iff_eq] at h2
      exact ⟨x, hx, h2.imp Eq.symm Eq.symm⟩
theorem cmpA_neg (x y : ArcE) : cmpA x y < 0 ↔ cmpS x.lower y.lower < 0 ∨ (x.lower = y.lower ∧ cmpS x.upper y.upper < 0) := by
  rw [cmpA, orI_cons, orI_cons, orI_nil]
  by_cases h : cmpS x.lower y.lower = 0
  · rw [if_pos h, h]
    have := (tot_cmpS.eq _ _).1 h
    constructor
    · intro h2
      refine .inr ⟨this, ?_⟩
      split at h2
      · omega
      · exact h2
    · rintro (h2 | ⟨_, h2⟩)
      · omega
      · rw [if_neg (by omega)]; exact h2
  · rw [if_neg h]
    constructor
    · exact .inl
    · rintro (h2 | ⟨h2, _⟩)
      · exact h2
      · exact absurd ((tot_cmpS.eq _ _).2 h2) h
theorem arcs_eq {m : List Rel} (h : Eight m) : arcsL m = cat (E2 m) 8 := by
  refine tot_cmpA.unique (tot_cmpA.setL_strict _) ?_ (fun s => ?_)
  · refine cat_pairwise (fun i _ => ?_) (fun i j hij hj x hx y hy => ?_)
    · refine cat_pairwise (fun b _ => ?_) (fun b c hbc hc x hx y hy => ?_)
      · unfold E2r oneIf; split <;> simp
      · obtain ⟨_, rfl⟩ := mem_oneIf.1 hx
        obtain ⟨_, rfl⟩ := mem_oneIf.1 hy
        exact (cmpA_neg _ _).2 (.inr ⟨rfl, unitS_lt hbc hc⟩)
    · obtain ⟨b, _, hx⟩ := mem_cat.1 hx
      obtain ⟨c, _, hy⟩ := mem_cat.1 hy
      obtain ⟨_, rfl⟩ := mem_oneIf.1 hx
      obtain ⟨_, rfl⟩ := mem_oneIf.1 hy
      exact (cmpA_neg _ _).2 (.inl (unitS_lt hij hj))
  · rw [arcsL, mem_setL, mem_cat, arcsOf]
    simp only [List.mem_map, List.mem_filter]
    constructor
    · rintro ⟨x, ⟨hx, hk⟩, rfl⟩
      obtain ⟨a, ha, he⟩ := (h x hx).2
      obtain ⟨b, hb, hf⟩ := (h x hx).1
      refine ⟨a, ha, mem_cat.2 ⟨b, hb, mem_oneIf.2 ⟨List.any_eq_true.2 ⟨x, hx, ?_⟩, ?_⟩⟩⟩
      · simp only [arcB, he, hf, hk]; simp
      · rw [he, hf]
    · rintro ⟨a, ha, hm⟩
      obtain ⟨b, hb, hm⟩ := mem_cat.1 hm
      obtain ⟨h1, rfl⟩ := mem_oneIf.1 hm
      obtain ⟨x, hx, h2⟩ := List.any_eq_true.1 h1
      simp only [arcB, Bool.and_eq_true, beq_iff_eq] at h2
      exact ⟨x, ⟨hx, h2.1.1⟩, by rw [h2.1.2, h2.2]⟩
theorem E1_len (m : List Rel) (i : Nat) : (cat (E1 m) i).length ≤ i := by
  have := cat_length_mul (f := E1 m) (m := 1) (fun i => oneIf_len _ _) i; omega
theorem E2r_len (m : List Rel) (a i : Nat) : (cat (E2r m a) i).length ≤ i := by
  have := cat_length_mul (f := E2r m a) (m := 1) (fun i => oneIf_len _ _) i; omega
theorem E2_len (m : List Rel) (i : Nat) : (cat (E2 m) i).length ≤ i * 8 := cat_length_mul (fun a => E2r_len m a 8) i

theorem take_any {α : Type} {m : List α} {i : Nat} {x : α} {p : α → Bool} (h : m[i]? = some x) : (m.take (i + 1)).any p = ((m.take i).any p || p x) := by
  rw [List.take_add_one, h, List.any_append]; simp
theorem wrap_succ {a : Nat} (h : a < 255) : IntKind.u8.wrap ((a : Int) + 1) = ((a + 1 : Nat) : Int) := by
  have := @wrap_u8 ((a : Int) + 1) (by omega) (by omega)
  omega

set_option maxHeartbeats 1000000 in
theorem lists_spec (C : Mem) (v : Value) (l : List Seen) (hv : Sl C 3 v (l.map Seen.enc)) (hM : MaxLenAt C) : Gives cx.P 9 [v] C (.bool true) := by
  have hv0 := hv
  obtain ⟨A, c, rfl, _⟩ := hv0
  obtain ⟨m, hm⟩ : ∃ m, makeL l = m := ⟨_, rfl⟩
  have hml : m.length ≤ 12 := by rw [← hm]; simp [makeL]; omega
  have hms : ∀ x ∈ m, x.short := by rw [← hm]; exact makeL_short l
  have hme : errAll m = 0 := by rw [← hm]; exact makeL_ok l
  have hm8 : Eight m := by rw [← hm]; exact makeL_eight l
  have hue := units_eq hm8
  have hae := arcs_eq hm8
  refine Fn.intro (by kernel_rfl) Tryd.func9 rfl 159 rfl rfl (fun w0 => ?_)
  refine G.region rfl (fun R hR => ?_)
  refine D.pure rfl rfl rfl rfl rfl rfl ?_
  refine D.done [(0, [], _)] ⟨rfl, trivial⟩ (hR _ _ _ rfl ?_); clear hR R
  refine G.region rfl (fun R hR => ?_)
  refine D.gives2 (known_spec _ hM) rfl rfl rfl rfl rfl rfl rfl (fun _ => rfl) ?_
  iterate 5 refine D.pure rfl rfl rfl rfl rfl rfl ?_
  refine D.pickOr rfl rfl rfl rfl rfl rfl rfl rfl ?_
  refine D.done [(0, [], _), (23, [], _)] ⟨rfl, rfl, trivial⟩ (hR _ _ _ rfl ?_); clear hR R
  refine G.cond rfl (fun h23 => ?_) (fun h23 => ?_)
  · skip
    refine G.region rfl (fun R hR => ?_)
    refine D.gives2 (known_spec _ hM) rfl rfl rfl rfl rfl rfl rfl (fun _ => rfl) ?_
    refine D.pure rfl rfl rfl rfl rfl rfl ?_
    refine D.done [(2, [], _)] ⟨rfl, trivial⟩ (hR _ _ _ rfl ?_); clear hR R
    refine G.retN (G.dropAll (G.fin1 rfl rfl ?_))
    exact ⟨rfl, rfl⟩
  · skip
    simp only [List.length_map, Bool.or_eq_false_iff, decide_eq_false_iff_not] at h23
    refine G.region rfl (fun R hR => ?_)
    refine D.pure rfl rfl rfl rfl rfl rfl ?_
    refine D.callP (make_spec _ _ l hv) rfl rfl rfl rfl rfl rfl rfl (fun _ => rfl) (fun v26 C26 hle26 hq26 => ?_)
    refine D.pure rfl rfl rfl rfl rfl rfl ?_
    refine D.done [(3, [], _)] ⟨rfl, trivial⟩ (hR _ _ _ rfl ?_); clear hR R
    rw [hm] at hq26
    have hm0 := hq26
    obtain ⟨Am, cm, hvm, _⟩ := id hq26
    subst hvm
    refine G.region rfl (fun R hR => ?_)
    refine D.pure rfl rfl rfl rfl rfl rfl ?_
    refine D.callP (units_fn _ _ m hm0 (by omega) hms) rfl rfl rfl rfl rfl rfl rfl (fun _ => rfl) (fun v29 C29 hle29 hq29 => ?_)
    rcases hq29 with ⟨h, _⟩ | ⟨_, ux, rfl, hsx⟩
    · exact absurd hme h
    obtain ⟨Ax, cx', hux, _⟩ := id hsx
    subst hux
    iterate 5 refine D.pure rfl rfl rfl rfl rfl rfl ?_
    refine D.done [(3, [], _), (4, [], _), (5, [], _)] ⟨rfl, rfl, rfl, trivial⟩ (hR _ _ _ rfl ?_); clear hR R
    refine G.region rfl (fun R hR => ?_)
    refine D.pure rfl rfl rfl rfl rfl rfl ?_
    refine D.callP (arcs_fn _ _ m (hm0.mono hle29) (by omega) hms) rfl rfl rfl rfl rfl rfl rfl (fun _ => rfl) (fun v34 C34 hle34 hq34 => ?_)
    rcases hq34 with ⟨h, _⟩ | ⟨_, uy, rfl, hsy⟩
    · exact absurd hme h
    obtain ⟨Ay, cy, huy, _⟩ := id hsy
    subst huy
    iterate 5 refine D.pure rfl rfl rfl rfl rfl rfl ?_
    refine D.done [(3, [], _), (4, [], _), (5, [], _), (6, [], _), (7, [], _)] ⟨rfl, rfl, rfl, rfl, rfl, trivial⟩ (hR _ _ _ rfl ?_); clear hR R
    refine G.region rfl (fun R hR => ?_)
    iterate 5 refine D.pure rfl rfl rfl rfl rfl rfl ?_
    refine D.pickOr rfl rfl rfl rfl rfl rfl rfl rfl ?_
    refine D.done [(3, [], _), (4, [], _), (6, [], _), (42, [], _)] ⟨rfl, rfl, rfl, rfl, trivial⟩ (hR _ _ _ rfl ?_); clear hR R
    refine G.cond rfl (fun h42 => ?_) (fun h42 => ?_)
    · skip
      simp at h42
    · skip
      refine G.region rfl (fun R hR => ?_)
      iterate 2 refine D.pure rfl rfl rfl rfl rfl rfl ?_
      refine D.done [(3, [], _), (4, [], _), (6, [], _), (8, [], _), (9, [], _)] ⟨rfl, rfl, rfl, rfl, rfl, trivial⟩ (hR _ _ _ rfl ?_); clear hR R
      refine G.region rfl (fun R hR => ?_)
      refine D.pure rfl rfl rfl rfl rfl rfl ?_
      refine D.done [(3, [], _), (4, [], _), (6, [], _), (8, [], _), (9, [], _), (10, [], _)] ⟨rfl, rfl, rfl, rfl, rfl, rfl, trivial⟩ (hR _ _ _ rfl ?_); clear hR R
      refine G.loop (fun fr C' L' μ => ∃ (a k n : Nat), (a ≤ 8 ∧ k = (cat (E1 m) a).length ∧ n = (cat (E2 m) a).length) ∧ fr = [(3, [], .slice Am (m.map Rel.enc).length cm), (4, [], .slice Ax ((unitsL m).map encS).length cx'), (6, [], .slice Ay ((arcsL m).map ArcE.enc).length cy), (8, [], .int .i64 k), (9, [], .int .i64 n), (10, [], .int .u8 a)] ∧ L' = [] ∧ μ = 8 - a) (fr' := [(3, [], _), (4, [], _), (6, [], _), (8, [], _), (9, [], _), (10, [], _)]) ⟨rfl, rfl, rfl, rfl, rfl, rfl, trivial⟩ ⟨0, 0, 0, ⟨Nat.zero_le _, rfl, rfl⟩, rfl, rfl, rfl⟩ (fun fr C0' L0' m hle0 hI => ?_)
      obtain ⟨a, k, n, ⟨ha, hk, hn⟩, rfl, rfl, rfl⟩ := hI
      have hm1 := ((hm0.mono hle29).mono hle34).mono hle0
      have hx1 := (hsx.mono hle34).mono hle0
      have hy1 := hsy.mono hle0
      have hkb := E1_len m a
      have hnb := E2_len m a
      refine G.region rfl (fun R hR => ?_)
      iterate 2 refine D.pure rfl rfl rfl rfl rfl rfl ?_
      refine D.done [(3, [], _), (4, [], _), (6, [], _), (8, [], _), (9, [], _), (10, [], _), (44, [], _)] ⟨rfl, rfl, rfl, rfl, rfl, rfl, rfl, trivial⟩ (hR _ _ _ rfl ?_); clear hR R
      refine G.cond rfl (fun h44 => ?_) (fun h44 => ?_)
      · skip
        simp only [decide_eq_true_eq] at h44
        have ha8 : a < 8 := by omega
        refine G.region rfl (fun R hR => ?_)
        refine D.pure rfl rfl rfl rfl rfl rfl ?_
        refine D.done [(3, [], _), (4, [], _), (6, [], _), (8, [], _), (9, [], _), (10, [], _), (11, [], _)] ⟨rfl, rfl, rfl, rfl, rfl, rfl, rfl, trivial⟩ (hR _ _ _ rfl ?_); clear hR R
        refine G.region rfl (fun R hR => ?_)
        refine D.pure rfl rfl rfl rfl rfl rfl ?_
        refine D.done [(3, [], _), (4, [], _), (6, [], _), (8, [], _), (9, [], _), (10, [], _), (11, [], _), (12, [], _)] ⟨rfl, rfl, rfl, rfl, rfl, rfl, rfl, rfl, trivial⟩ (hR _ _ _ rfl ?_); clear hR R
        refine G.loop (fun fr C' L' μ => ∃ (i : Nat), (i ≤ m.length) ∧ fr = [(3, [], .slice Am (m.map Rel.enc).length cm), (4, [], .slice Ax ((unitsL m).map encS).length cx'), (6, [], .slice Ay ((arcsL m).map ArcE.enc).length cy), (8, [], .int .i64 k), (9, [], .int .i64 n), (10, [], .int .u8 a), (11, [], .bool ((m.take i).any (usesB a))), (12, [], .int .i64 i)] ∧ L' = [] ∧ μ = m.length - i) (fr' := [(3, [], _), (4, [], _), (6, [], _), (8, [], _), (9, [], _), (10, [], _), (11, [], _), (12, [], _)]) ⟨rfl, rfl, rfl, rfl, rfl, rfl, rfl, rfl, trivial⟩ ⟨0, Nat.zero_le _, rfl, rfl, rfl⟩ (fun fr C1' L1' m hle1 hI => ?_)
        obtain ⟨i, hi, rfl, rfl, rfl⟩ := hI
        refine G.region rfl (fun R hR => ?_)
        iterate 4 refine D.pure rfl rfl rfl rfl rfl rfl ?_
        refine D.done [(3, [], _), (4, [], _), (6, [], _), (8, [], _), (9, [], _), (10, [], _), (11, [], _), (12, [], _), (50, [], _)] ⟨rfl, rfl, rfl, rfl, rfl, rfl, rfl, rfl, rfl, trivial⟩ (hR _ _ _ rfl ?_); clear hR R
        refine G.cond rfl (fun h50 => ?_) (fun h50 => ?_)
        · skip
          simp only [List.length_map, decide_eq_true_eq] at h50
          have hil : i < m.length := by omega
          obtain ⟨x, hxi⟩ : ∃ x, m[i]? = some x := ⟨m[i], List.getElem?_eq_getElem hil⟩
          have hta := take_any (p := usesB a) hxi
          have hrx : (m.map Rel.enc)[i]? = some x.enc := by simp [hxi]
          refine G.draw [0, 1, 2, 3, 4, 5, 6, 7, 8, 9, 10, 11, 12, 13, 14, 15, 16, 17, 18, 19, 20, 21] [] rfl (by kernel_rfl) (fun R hB hR => ?_)
          iterate 4 refine D.pure rfl rfl rfl rfl rfl rfl ?_
          refine D.index rfl rfl rfl rfl rfl rfl rfl rfl rfl rfl (fun hg => ⟨(hm1.mono hle1), by omega, hrx⟩) (fun _ => rfl) rfl (fun p57 hp57 => ?_)
          refine D.fieldP rfl rfl rfl rfl rfl rfl rfl rfl rfl rfl hp57 (fun _ => rfl) rfl (fun p58 hp58 => ?_)
          refine D.loadP rfl rfl rfl rfl rfl rfl hp58 rfl rfl rfl ?_
          refine D.pure rfl rfl rfl rfl rfl rfl ?_
          refine D.gives (fun _ => (unit_spec _ _ (by omega) (by omega))) rfl rfl rfl rfl rfl rfl rfl rfl rfl ?_
          refine D.pure rfl rfl rfl rfl rfl rfl ?_
          refine D.pickOr rfl rfl rfl rfl rfl rfl rfl rfl ?_
          iterate 3 refine D.pure rfl rfl rfl rfl rfl rfl ?_
          refine D.index rfl rfl rfl rfl rfl rfl rfl rfl rfl rfl (fun hg => ⟨(hm1.mono hle1), by omega, hrx⟩) (fun _ => rfl) rfl (fun p67 hp67 => ?_)
          refine D.fieldP rfl rfl rfl rfl rfl rfl rfl rfl rfl rfl hp67 (fun _ => rfl) rfl (fun p68 hp68 => ?_)
          refine D.loadP rfl rfl rfl rfl rfl rfl hp68 rfl rfl rfl ?_
          refine D.pure rfl rfl rfl rfl rfl rfl ?_
          refine D.gives (fun _ => (unit_spec _ _ (by omega) (by omega))) rfl rfl rfl rfl rfl rfl rfl rfl rfl ?_
          refine D.pure rfl rfl rfl rfl rfl rfl ?_
          refine D.pickOr rfl rfl rfl rfl rfl rfl rfl rfl ?_
          refine D.pure rfl rfl rfl rfl rfl rfl ?_
          refine D.done [(3, [], _), (4, [], _), (6, [], _), (8, [], _), (9, [], _), (10, [], _), (11, [], (.bool (((m.take i).any (usesB a) || (x.upper == unitS a)) || (x.lower == unitS a)))), (12, [], _)] ⟨rfl, rfl, rfl, rfl, rfl, rfl, rfl, rfl, trivial⟩ (hR _ _ _ rfl ?_); clear hR hB R
          refine G.region rfl (fun R hR => ?_)
          refine D.pure rfl rfl rfl rfl rfl rfl ?_
          refine D.i64 _ rfl rfl rfl rfl rfl (by omega) (by omega) rfl rfl ?_
          refine D.pure rfl rfl rfl rfl rfl rfl ?_
          refine D.done [(3, [], _), (4, [], _), (6, [], _), (8, [], _), (9, [], _), (10, [], _), (11, [], _), (12, [], _)] ⟨rfl, rfl, rfl, rfl, rfl, rfl, rfl, rfl, trivial⟩ (hR _ _ _ rfl ?_); clear hR R
          have e11 : (((m.take i).any (usesB a) || (x.upper == unitS a)) || (x.lower == unitS a)) = (m.take (i + 1)).any (usesB a) := by rw [hta, usesB, Bool.or_assoc]
          rw [e11]
          refine G.again (m' := m.length - (i + 1)) (by omega) hle1 (fr' := [(3, [], _), (4, [], _), (6, [], _), (8, [], _), (9, [], _), (10, [], _), (11, [], _), (12, [], _)]) ⟨rfl, rfl, rfl, rfl, rfl, rfl, rfl, rfl, trivial⟩ ⟨i + 1, by omega, rfl, rfl, rfl⟩
        · skip
          simp only [List.length_map, decide_eq_false_iff_not] at h50
          have hie : i = m.length := by omega
          subst hie
          rw [List.take_length]
          refine G.region rfl (fun R hR => ?_)
          refine D.pure rfl rfl rfl rfl rfl rfl ?_
          refine D.done [(3, [], _), (4, [], _), (6, [], _), (8, [], _), (9, [], _), (10, [], _), (74, [], _)] ⟨rfl, rfl, rfl, rfl, rfl, rfl, rfl, trivial⟩ (hR _ _ _ rfl ?_); clear hR R
          refine G.cut (fun fr C' L' μ => ∃ (k' : Nat), (k' = (cat (E1 m) (a + 1)).length) ∧ fr = [(3, [], .slice Am (m.map Rel.enc).length cm), (4, [], .slice Ax ((unitsL m).map encS).length cx'), (6, [], .slice Ay ((arcsL m).map ArcE.enc).length cy), (8, [], .int .i64 k'), (9, [], .int .i64 n), (10, [], .int .u8 a)] ∧ L' = []) ?_ (fun fr C74 L74 μ hle74 hI => ?_)
          · skip
            refine G.cond rfl (fun h74 => ?_) (fun h74 => ?_)
            · skip
              have hat : (unitsL m)[k]? = some (unitS a) := by
                rw [hue, hk]
                exact cat_at (f := E1 m) (pre := []) (post := []) ha8 (oneIf_true h74)
              have hklt : k < (unitsL m).length := (List.getElem?_eq_some_iff.1 hat).1
              have hrk : ((unitsL m).map encS)[k]? = some (encS (unitS a)) := by simp [hat]
              refine G.draw [0, 1, 2, 3, 4, 5, 6, 7, 8, 9, 10, 11, 12] [] rfl (by kernel_rfl) (fun R hB hR => ?_)
              iterate 7 refine D.pure rfl rfl rfl rfl rfl rfl ?_
              refine D.index rfl rfl rfl rfl rfl rfl rfl rfl rfl rfl (fun hg => ⟨(hx1.mono hle1), by omega, hrk⟩) (fun _ => rfl) rfl (fun p82 hp82 => ?_)
              refine D.loadP rfl rfl rfl rfl rfl rfl hp82 rfl rfl rfl ?_
              refine D.pure rfl rfl rfl rfl rfl rfl ?_
              refine D.gives (fun _ => (unit_spec _ _ (by omega) (by omega))) rfl rfl rfl rfl rfl rfl rfl rfl rfl ?_
              refine D.pure rfl rfl rfl rfl rfl rfl ?_
              refine D.pickOr rfl rfl rfl rfl rfl rfl rfl rfl ?_
              refine D.done [(3, [], _), (4, [], _), (6, [], _), (8, [], _), (9, [], _), (10, [], _), (87, [], (.bool (decide ((((unitsL m).map encS).length : Int) ≤ (k : Int)) || (!(unitS a == unitS a)))))] ⟨rfl, rfl, rfl, rfl, rfl, rfl, rfl, trivial⟩ (hR _ _ _ rfl ?_); clear hR hB R
              refine G.cond rfl (fun h87 => ?_) (fun h87 => ?_)
              · skip
                simp at h87; omega
              · skip
                refine G.region rfl (fun R hR => ?_)
                refine D.pure rfl rfl rfl rfl rfl rfl ?_
                refine D.i64 _ rfl rfl rfl rfl rfl (by omega) (by omega) rfl rfl ?_
                refine D.pure rfl rfl rfl rfl rfl rfl ?_
                refine D.done [(3, [], _), (4, [], _), (6, [], _), (8, [], _), (9, [], _), (10, [], _)] ⟨rfl, rfl, rfl, rfl, rfl, rfl, trivial⟩ (hR _ _ _ rfl ?_); clear hR R
                refine G.meet 0 (Mem.le.refl _) (fr' := [(3, [], _), (4, [], _), (6, [], _), (8, [], _), (9, [], _), (10, [], _)]) ⟨rfl, rfl, rfl, rfl, rfl, rfl, trivial⟩ ⟨k + 1, by rw [cat_succ, E1, oneIf_true h74, hk]; simp, rfl, rfl⟩
            · skip
              refine G.meet 0 (Mem.le.refl _) (fr' := [(3, [], _), (4, [], _), (6, [], _), (8, [], _), (9, [], _), (10, [], _)]) ⟨rfl, rfl, rfl, rfl, rfl, rfl, trivial⟩ ⟨k, by rw [cat_succ, E1, oneIf_false h74, hk]; simp, rfl, rfl⟩
          · skip
            obtain ⟨k', hk', rfl, rfl⟩ := hI
            have hm2 := (hm1.mono hle1).mono hle74
            have hy2 := (hy1.mono hle1).mono hle74
            refine G.region rfl (fun R hR => ?_)
            refine D.pure rfl rfl rfl rfl rfl rfl ?_
            refine D.done [(3, [], _), (4, [], _), (6, [], _), (8, [], _), (9, [], _), (10, [], _), (13, [], _)] ⟨rfl, rfl, rfl, rfl, rfl, rfl, rfl, trivial⟩ (hR _ _ _ rfl ?_); clear hR R
            refine G.loop (fun fr C' L' μ => ∃ (b n' : Nat), (b ≤ 8 ∧ n' = (cat (E2 m) a ++ cat (E2r m a) b).length) ∧ fr = [(3, [], .slice Am (m.map Rel.enc).length cm), (4, [], .slice Ax ((unitsL m).map encS).length cx'), (6, [], .slice Ay ((arcsL m).map ArcE.enc).length cy), (8, [], .int .i64 k'), (9, [], .int .i64 n'), (10, [], .int .u8 a), (13, [], .int .u8 b)] ∧ L' = [] ∧ μ = 8 - b) (fr' := [(3, [], _), (4, [], _), (6, [], _), (8, [], _), (9, [], _), (10, [], _), (13, [], _)]) ⟨rfl, rfl, rfl, rfl, rfl, rfl, rfl, trivial⟩ ⟨0, n, ⟨Nat.zero_le _, by rw [hn]; simp [cat]⟩, rfl, rfl, rfl⟩ (fun fr C2' L2' m hle2 hI => ?_)
            obtain ⟨b, n', ⟨hb, hn'⟩, rfl, rfl, rfl⟩ := hI
            have hnb2 := E2r_len m a b
            have hnb3 : (cat (E2 m) a ++ cat (E2r m a) b).length ≤ 100 := by rw [List.length_append]; omega
            refine G.region rfl (fun R hR => ?_)
            iterate 2 refine D.pure rfl rfl rfl rfl rfl rfl ?_
            refine D.done [(3, [], _), (4, [], _), (6, [], _), (8, [], _), (9, [], _), (10, [], _), (13, [], _), (91, [], _)] ⟨rfl, rfl, rfl, rfl, rfl, rfl, rfl, rfl, trivial⟩ (hR _ _ _ rfl ?_); clear hR R
            refine G.cond rfl (fun h91 => ?_) (fun h91 => ?_)
            · skip
              simp only [decide_eq_true_eq] at h91
              have hb8 : b < 8 := by omega
              refine G.region rfl (fun R hR => ?_)
              refine D.pure rfl rfl rfl rfl rfl rfl ?_
              refine D.gives2 (unit_spec _ _ (by omega) (by omega)) rfl rfl rfl rfl rfl rfl rfl (fun _ => rfl) ?_
              refine D.pure rfl rfl rfl rfl rfl rfl ?_
              refine D.gives2 (unit_spec _ _ (by omega) (by omega)) rfl rfl rfl rfl rfl rfl rfl (fun _ => rfl) ?_
              refine D.build [strV (unitS a), strV (unitS b)] rfl rfl rfl rfl rfl rfl rfl rfl ?_
              refine D.alloc rfl rfl rfl rfl rfl (fun _ => rfl) (fun b14 => ?_)
              refine D.store (j := 0) rfl rfl rfl rfl rfl rfl rfl rfl rfl rfl rfl rfl ?_
              refine D.done [(3, [], _), (4, [], _), (6, [], _), (8, [], _), (9, [], _), (10, [], _), (13, [], _), (14, [], _)] ⟨rfl, rfl, rfl, rfl, rfl, rfl, rfl, rfl, trivial⟩ (hR _ _ _ rfl ?_); clear hR R
              refine G.region rfl (fun R hR => ?_)
              refine D.pure rfl rfl rfl rfl rfl rfl ?_
              refine D.done [(3, [], _), (4, [], _), (6, [], _), (8, [], _), (9, [], _), (10, [], _), (13, [], _), (14, [], _), (15, [], _)] ⟨rfl, rfl, rfl, rfl, rfl, rfl, rfl, rfl, rfl, trivial⟩ (hR _ _ _ rfl ?_); clear hR R
              refine G.region rfl (fun R hR => ?_)
              refine D.pure rfl rfl rfl rfl rfl rfl ?_
              refine D.done [(3, [], _), (4, [], _), (6, [], _), (8, [], _), (9, [], _), (10, [], _), (13, [], _), (14, [], _), (15, [], _), (16, [], _)] ⟨rfl, rfl, rfl, rfl, rfl, rfl, rfl, rfl, rfl, rfl, trivial⟩ (hR _ _ _ rfl ?_); clear hR R
              refine G.loop (fun fr C' L' μ => ∃ (i : Nat), (i ≤ m.length) ∧ fr = [(3, [], .slice Am (m.map Rel.enc).length cm), (4, [], .slice Ax ((unitsL m).map encS).length cx'), (6, [], .slice Ay ((arcsL m).map ArcE.enc).length cy), (8, [], .int .i64 k'), (9, [], .int .i64 n'), (10, [], .int .u8 a), (13, [], .int .u8 b), (14, [], .pointer (some ⟨b14, 0, none⟩)), (15, [], .bool ((m.take i).any (arcB a b))), (16, [], .int .i64 i)] ∧ L' = [.obj b14 (.cells ⟨ArcE.enc ⟨unitS a, unitS b⟩⟩ 61 (0, 0))] ∧ μ = m.length - i) (fr' := [(3, [], _), (4, [], _), (6, [], _), (8, [], _), (9, [], _), (10, [], _), (13, [], _), (14, [], _), (15, [], _), (16, [], _)]) ⟨rfl, rfl, rfl, rfl, rfl, rfl, rfl, rfl, rfl, rfl, trivial⟩ ⟨0, Nat.zero_le _, rfl, rfl, rfl⟩ (fun fr C3' L3' m hle3 hI => ?_)
              obtain ⟨i, hi, rfl, rfl, rfl⟩ := hI
              refine G.region rfl (fun R hR => ?_)
              iterate 4 refine D.pure rfl rfl rfl rfl rfl rfl ?_
              refine D.done [(3, [], _), (4, [], _), (6, [], _), (8, [], _), (9, [], _), (10, [], _), (13, [], _), (14, [], _), (15, [], _), (16, [], _), (102, [], _)] ⟨rfl, rfl, rfl, rfl, rfl, rfl, rfl, rfl, rfl, rfl, rfl, trivial⟩ (hR _ _ _ rfl ?_); clear hR R
              refine G.cond rfl (fun h102 => ?_) (fun h102 => ?_)
              · skip
                simp only [List.length_map, decide_eq_true_eq] at h102
                have hil : i < m.length := by omega
                obtain ⟨x, hxi⟩ : ∃ x, m[i]? = some x := ⟨m[i], List.getElem?_eq_getElem hil⟩
                have hta := take_any (p := arcB a b) hxi
                have hrx : (m.map Rel.enc)[i]? = some x.enc := by simp [hxi]
                refine G.draw [0, 1, 2, 3, 4, 5, 6, 7, 8, 9, 10, 11, 12, 13, 14, 15, 16, 17, 18, 19, 20, 21, 22, 23, 24, 25, 26, 27, 28, 29] [] rfl (by kernel_rfl) (fun R hB hR => ?_)
                iterate 4 refine D.pure rfl rfl rfl rfl rfl rfl ?_
                refine D.index rfl rfl rfl rfl rfl rfl rfl rfl rfl rfl (fun hg => ⟨(hm2.mono hle2).mono hle3, by omega, hrx⟩) (fun _ => rfl) rfl (fun p109 hp109 => ?_)
                refine D.fieldP rfl rfl rfl rfl rfl rfl rfl rfl rfl rfl hp109 (fun _ => rfl) rfl (fun p110 hp110 => ?_)
                refine D.loadP rfl rfl rfl rfl rfl rfl hp110 rfl rfl rfl ?_
                iterate 4 refine D.pure rfl rfl rfl rfl rfl rfl ?_
                refine D.index rfl rfl rfl rfl rfl rfl rfl rfl rfl rfl (fun hg => ⟨(hm2.mono hle2).mono hle3, by omega, hrx⟩) (fun _ => rfl) rfl (fun p116 hp116 => ?_)
                refine D.fieldP rfl rfl rfl rfl rfl rfl rfl rfl rfl rfl hp116 (fun _ => rfl) rfl (fun p117 hp117 => ?_)
                refine D.loadP rfl rfl rfl rfl rfl rfl hp117 rfl rfl rfl ?_
                refine D.pure rfl rfl rfl rfl rfl rfl ?_
                refine D.loadL (.head _) rfl rfl rfl rfl rfl rfl rfl rfl rfl ?_
                refine D.pure rfl rfl rfl rfl rfl rfl ?_
                refine D.pickAnd rfl rfl rfl rfl rfl rfl rfl rfl ?_
                iterate 3 refine D.pure rfl rfl rfl rfl rfl rfl ?_
                refine D.index rfl rfl rfl rfl rfl rfl rfl rfl rfl rfl (fun hg => ⟨(hm2.mono hle2).mono hle3, by omega, hrx⟩) (fun _ => rfl) rfl (fun p126 hp126 => ?_)
                refine D.fieldP rfl rfl rfl rfl rfl rfl rfl rfl rfl rfl hp126 (fun _ => rfl) rfl (fun p127 hp127 => ?_)
                refine D.loadP rfl rfl rfl rfl rfl rfl hp127 rfl rfl rfl ?_
                refine D.pure rfl rfl rfl rfl rfl rfl ?_
                refine D.loadL (.head _) rfl rfl rfl rfl rfl rfl rfl rfl rfl ?_
                refine D.pure rfl rfl rfl rfl rfl rfl ?_
                refine D.pickAnd rfl rfl rfl rfl rfl rfl rfl rfl ?_
                refine D.pickOr rfl rfl rfl rfl rfl rfl rfl rfl ?_
                refine D.pure rfl rfl rfl rfl rfl rfl ?_
                refine D.done [(3, [], _), (4, [], _), (6, [], _), (8, [], _), (9, [], _), (10, [], _), (13, [], _), (14, [], _), (15, [], (.bool ((m.take i).any (arcB a b) || arcB a b x))), (16, [], _)] ⟨rfl, rfl, rfl, rfl, rfl, rfl, rfl, rfl, rfl, rfl, trivial⟩ (hR _ _ _ rfl ?_); clear hR hB R
                refine G.region rfl (fun R hR => ?_)
                refine D.pure rfl rfl rfl rfl rfl rfl ?_
                refine D.i64 _ rfl rfl rfl rfl rfl (by omega) (by omega) rfl rfl ?_
                refine D.pure rfl rfl rfl rfl rfl rfl ?_
                refine D.done [(3, [], _), (4, [], _), (6, [], _), (8, [], _), (9, [], _), (10, [], _), (13, [], _), (14, [], _), (15, [], _), (16, [], _)] ⟨rfl, rfl, rfl, rfl, rfl, rfl, rfl, rfl, rfl, rfl, trivial⟩ (hR _ _ _ rfl ?_); clear hR R
                rw [← hta]
                refine G.again (m' := m.length - (i + 1)) (by omega) hle3 (fr' := [(3, [], _), (4, [], _), (6, [], _), (8, [], _), (9, [], _), (10, [], _), (13, [], _), (14, [], _), (15, [], _), (16, [], _)]) ⟨rfl, rfl, rfl, rfl, rfl, rfl, rfl, rfl, rfl, rfl, trivial⟩ ⟨i + 1, by omega, rfl, rfl, rfl⟩
              · skip
                simp only [List.length_map, decide_eq_false_iff_not] at h102
                have hie : i = m.length := by omega
                subst hie
                rw [List.take_length]
                refine G.region rfl (fun R hR => ?_)
                refine D.pure rfl rfl rfl rfl rfl rfl ?_
                refine D.done [(3, [], _), (4, [], _), (6, [], _), (8, [], _), (9, [], _), (10, [], _), (13, [], _), (14, [], _), (134, [], _)] ⟨rfl, rfl, rfl, rfl, rfl, rfl, rfl, rfl, rfl, trivial⟩ (hR _ _ _ rfl ?_); clear hR R
                refine G.cut (fun fr C' L' μ => ∃ (n2 : Nat), (n2 = (cat (E2 m) a ++ cat (E2r m a) (b + 1)).length) ∧ fr = [(3, [], .slice Am (m.map Rel.enc).length cm), (4, [], .slice Ax ((unitsL m).map encS).length cx'), (6, [], .slice Ay ((arcsL m).map ArcE.enc).length cy), (8, [], .int .i64 k'), (9, [], .int .i64 n2), (10, [], .int .u8 a), (13, [], .int .u8 b)] ∧ L' = []) ?_ (fun fr C134 L134 μ hle134 hI => ?_)
                · skip
                  refine G.cond rfl (fun h134 => ?_) (fun h134 => ?_)
                  · skip
                    have hat2 : (arcsL m)[n']? = some ⟨unitS a, unitS b⟩ := by
                      have hrow : E2r m a b = [] ++ ⟨unitS a, unitS b⟩ :: [] := oneIf_true h134
                      have h1 := cat_at (f := E2r m a) hb8 hrow
                      have h2 : E2 m a = (E2 m a).take ((cat (E2r m a) b).length) ++ ⟨unitS a, unitS b⟩ :: (E2 m a).drop ((cat (E2r m a) b).length + 1) := by
                        have h3 : (E2 m a)[(cat (E2r m a) b).length]? = some ⟨unitS a, unitS b⟩ := by rw [List.length_nil, Nat.add_zero] at h1; exact h1
                        obtain ⟨h4, h5⟩ := List.getElem?_eq_some_iff.1 h3
                        rw [← h5, List.getElem_cons_drop, List.take_append_drop]
                      have h3 := cat_at (f := E2 m) ha8 h2
                      have h4 : (cat (E2r m a) b).length ≤ (E2 m a).length := cat_length_le hb
                      rw [List.length_take, Nat.min_eq_left h4] at h3
                      rw [hae, hn', List.length_append]
                      exact h3
                    have hnlt : n' < (arcsL m).length := (List.getElem?_eq_some_iff.1 hat2).1
                    have hrn : ((arcsL m).map ArcE.enc)[n']? = some (ArcE.enc ⟨unitS a, unitS b⟩) := by simp [hat2]
                    refine G.draw [0, 1, 2, 3, 4, 5, 6, 7, 8, 9, 10, 11] [] rfl (by kernel_rfl) (fun R hB hR => ?_)
                    iterate 7 refine D.pure rfl rfl rfl rfl rfl rfl ?_
                    refine D.index rfl rfl rfl rfl rfl rfl rfl rfl rfl rfl (fun hg => ⟨((hy2.mono hle2).mono hle3), by omega, hrn⟩) (fun _ => rfl) rfl (fun p142 hp142 => ?_)
                    refine D.loadP rfl rfl rfl rfl rfl rfl hp142 rfl rfl rfl ?_
                    refine D.loadL (.head _) rfl rfl rfl rfl rfl rfl rfl rfl rfl ?_
                    refine D.neAgg (!decide ((⟨unitS a, unitS b⟩ : ArcE) = ⟨unitS a, unitS b⟩)) (by kernel_rfl) rfl rfl rfl rfl rfl rfl rfl rfl (fun _ => congrArg (fun q => !q) (eqRow_arc ⟨unitS a, unitS b⟩ ⟨unitS a, unitS b⟩)) rfl rfl ?_
                    refine D.pickOr rfl rfl rfl rfl rfl rfl rfl rfl ?_
                    refine D.done [(3, [], _), (4, [], _), (6, [], _), (8, [], _), (9, [], _), (10, [], _), (13, [], _), (146, [], (.bool (decide ((((arcsL m).map ArcE.enc).length : Int) ≤ (n' : Int)) || (!decide ((⟨unitS a, unitS b⟩ : ArcE) = ⟨unitS a, unitS b⟩)))))] ⟨rfl, rfl, rfl, rfl, rfl, rfl, rfl, rfl, trivial⟩ (hR _ _ _ rfl ?_); clear hR hB R
                    refine G.cond rfl (fun h146 => ?_) (fun h146 => ?_)
                    · skip
                      simp at h146; omega
                    · skip
                      refine G.region rfl (fun R hR => ?_)
                      refine D.pure rfl rfl rfl rfl rfl rfl ?_
                      refine D.i64 _ rfl rfl rfl rfl rfl (by omega) (by omega) rfl rfl ?_
                      refine D.pure rfl rfl rfl rfl rfl rfl ?_
                      refine D.done [(3, [], _), (4, [], _), (6, [], _), (8, [], _), (9, [], _), (10, [], _), (13, [], _)] ⟨rfl, rfl, rfl, rfl, rfl, rfl, rfl, trivial⟩ (hR _ _ _ rfl ?_); clear hR R
                      refine G.dropAll ?_
                      refine G.meet 0 (Mem.le.refl _) (fr' := [(3, [], _), (4, [], _), (6, [], _), (8, [], _), (9, [], _), (10, [], _), (13, [], _)]) ⟨rfl, rfl, rfl, rfl, rfl, rfl, rfl, trivial⟩ ⟨n' + 1, by rw [cat_succ, E2r, oneIf_true h134, ← List.append_assoc, List.length_append, hn']; rfl, rfl, rfl⟩
                  · skip
                    refine G.dropAll ?_
                    refine G.meet 0 (Mem.le.refl _) (fr' := [(3, [], _), (4, [], _), (6, [], _), (8, [], _), (9, [], _), (10, [], _), (13, [], _)]) ⟨rfl, rfl, rfl, rfl, rfl, rfl, rfl, trivial⟩ ⟨n', by rw [cat_succ, E2r, oneIf_false h134, List.append_nil]; exact hn', rfl, rfl⟩
                · skip
                  obtain ⟨n2, hn2, rfl, rfl⟩ := hI
                  refine G.region rfl (fun R hR => ?_)
                  refine D.pure rfl rfl rfl rfl rfl rfl ?_
                  refine D.int (((b + 1 : Nat) : Int)) rfl rfl rfl rfl (wrap_succ (by omega)) rfl rfl ?_
                  refine D.pure rfl rfl rfl rfl rfl rfl ?_
                  refine D.done [(3, [], _), (4, [], _), (6, [], _), (8, [], _), (9, [], _), (10, [], _), (13, [], _)] ⟨rfl, rfl, rfl, rfl, rfl, rfl, rfl, trivial⟩ (hR _ _ _ rfl ?_); clear hR R
                  refine G.again (m' := 8 - (b + 1)) (by omega) (hle2.trans (hle3.trans hle134)) (fr' := [(3, [], _), (4, [], _), (6, [], _), (8, [], _), (9, [], _), (10, [], _), (13, [], _)]) ⟨rfl, rfl, rfl, rfl, rfl, rfl, rfl, trivial⟩ ⟨b + 1, n2, ⟨by omega, hn2⟩, rfl, rfl, rfl⟩
            · skip
              simp only [decide_eq_false_iff_not] at h91
              have hbe : b = 8 := by omega
              subst hbe
              refine G.region rfl (fun R hR => ?_)
              refine D.pure rfl rfl rfl rfl rfl rfl ?_
              refine D.int (((a + 1 : Nat) : Int)) rfl rfl rfl rfl (wrap_succ (by omega)) rfl rfl ?_
              refine D.pure rfl rfl rfl rfl rfl rfl ?_
              refine D.done [(3, [], _), (4, [], _), (6, [], _), (8, [], _), (9, [], _), (10, [], _)] ⟨rfl, rfl, rfl, rfl, rfl, rfl, trivial⟩ (hR _ _ _ rfl ?_); clear hR R
              refine G.again (m' := 8 - (a + 1)) (by omega) (hle0.trans (hle1.trans (hle74.trans hle2))) (fr' := [(3, [], _), (4, [], _), (6, [], _), (8, [], _), (9, [], _), (10, [], _)]) ⟨rfl, rfl, rfl, rfl, rfl, rfl, trivial⟩ ⟨a + 1, k', n', ⟨by omega, hk', hn'⟩, rfl, rfl, rfl⟩
      · skip
        simp only [decide_eq_false_iff_not] at h44
        have hae' : a = 8 := by omega
        subst hae'
        refine G.region rfl (fun R hR => ?_)
        iterate 9 refine D.pure rfl rfl rfl rfl rfl rfl ?_
        refine D.pickAnd rfl rfl rfl rfl rfl rfl rfl rfl ?_
        refine D.pure rfl rfl rfl rfl rfl rfl ?_
        refine D.done [(2, [], _)] ⟨rfl, trivial⟩ (hR _ _ _ rfl ?_); clear hR R
        refine G.retN (G.dropAll (G.fin1 rfl rfl ?_))
        refine ⟨?_, rfl⟩
        have h1 : k = (unitsL m).length := by rw [hue]; exact hk
        have h2 : n = (arcsL m).length := by rw [hae]; exact hn
        rw [h1, h2]; simp
end Go.Proofs.YtjmfjobfmdhbfaaDoor
