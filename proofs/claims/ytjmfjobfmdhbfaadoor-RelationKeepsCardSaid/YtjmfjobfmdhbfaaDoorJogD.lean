/- The judgement D on the operations of a region, and its rules. Program-independent. -/
import Derived.Test.YtjmfjobfmdhbfaaDoorJogC
namespace Go.Jog
open Go

structure Cx where
  P : Program
  T : Tab
  mixed : P.follows .mixedOrders = true
  hT : tabB P T = true

structure Bs where
  w0 : World
  C0 : Mem
  L0 : List Ent

def Bs.cls (b : Bs) : Mem × List Ent → World → Prop := Jog.cls b.w0 b.C0 b.L0

abbrev It := Nat × Nat × Oper

/-- What a region's derivation is about, out of sight. -/
structure Rg (n : Nat) (ds : List (Option Nat)) where
  b : Bs
  ops : Array Oper
  kd : Nat → Nat
  Post : Act → Mem × List Ent → Prop
  hy : ∀ tmps, yielded ops tmps = yld ds tmps

def D (cx : Cx) {n : Nat} {ds : List (Option Nat)} (R : Rg n ds) (its : List It) (fr : Fr) (C : Mem) (L : List Ent) : Prop :=
  R.b.C0.le C → (∀ x ∈ its, R.kd x.1 = x.2.1 ∧ R.ops[x.1]? = some x.2.2) → ∀ a, FrOk n ds fr a → DU cx.P R.ops R.b.cls kle R.kd R.Post (its.map (·.1)) a (C, L)

def wfG (ds : List (Option Nat)) (fr : Fr) (g : GL) : Bool := g.all fun p => match ((ds[p.1]?).bind id).bind fr.get with
  | some (_, .bool _) => true
  | _ => false

theorem wfG_spec {ds : List (Option Nat)} {fr : Fr} {g : GL} (h : wfG ds fr g = true) : ∀ p ∈ g, ∃ g' b, ((ds[p.1]?).bind id).bind fr.get = some (g', .bool b) := by
  intro p hp
  have := List.all_eq_true.1 h p hp
  split at this
  · rename_i g' b hb; exact ⟨g', b, hb⟩
  · cases this

theorem wanted_iff {n : Nat} {ds : List (Option Nat)} {ops : Array Oper} (hy : ∀ tmps, yielded ops tmps = yld ds tmps) {fr : Fr} {a : Act} (h : FrOk n ds fr a) {o : Oper} {g : GL} (hg : gOf ds fr o.guard = some g) :
    Region.wanted o (yielded ops a.tmps) = true ↔ GH ds a.tmps g := by
  unfold Region.wanted
  rw [hy]
  cases hgd : o.guard with
  | none =>
    rw [hgd] at hg
    simp only [gOf, Option.some.injEq] at hg
    subst hg
    simp [GH]
  | some jw =>
    obtain ⟨j, w⟩ := jw
    rw [hgd] at hg
    simp only [gOf] at hg
    split at hg
    · rename_i g' b hb
      cases hg
      simp only [beq_iff_eq]
      constructor
      · intro hyl p hp
        rcases List.mem_cons.1 hp with rfl | hp
        · exact hyl
        · obtain ⟨d, hd, ht⟩ := yld_some hyl
          rw [hd] at hb
          have he := h.ent d g' (.bool b) hb
          by_cases hG : GH ds a.tmps g'
          · exact hG p hp
          · have := he.2 hG
            rw [ht] at this
            simp [undef] at this
      · intro hG
        exact hG (j, w) (by simp)
    · cases hg

/-- The guard, if there is one, is known to hold; or known not to hold. -/
def gOn (ds : List (Option Nat)) (fr : Fr) : Option (Nat × Bool) → Bool
  | none => true
  | some (j, w) => match ((ds[j]?).bind id).bind fr.get with
    | some ([], .bool b) => b == w
    | _ => false
def gOff (ds : List (Option Nat)) (fr : Fr) : Option (Nat × Bool) → Bool
  | none => false
  | some (j, w) => match ((ds[j]?).bind id).bind fr.get with
    | some ([], .bool b) => b != w
    | some ([], .tuple _) => true
    | _ => false

theorem wanted_on {n : Nat} {ds : List (Option Nat)} {ops : Array Oper} (hy : ∀ tmps, yielded ops tmps = yld ds tmps) {fr : Fr} {a : Act} (h : FrOk n ds fr a) {o : Oper} (hg : gOn ds fr o.guard = true) : Region.wanted o (yielded ops a.tmps) = true := by
  unfold Region.wanted
  rw [hy]
  cases hgd : o.guard with
  | none => rfl
  | some jw =>
    obtain ⟨j, w⟩ := jw
    rw [hgd] at hg
    simp only [gOn] at hg
    split at hg
    · rename_i b hb
      simp only [beq_iff_eq] at hg
      subst hg
      simp only [beq_iff_eq]
      unfold yld
      cases hd : (ds[j]?).bind id with
      | none => rw [hd] at hb; cases hb
      | some d =>
        rw [hd] at hb
        have := (h.ent d [] _ hb).1 (fun p hp => by cases hp)
        simp [this]
    · cases hg

theorem wanted_off {n : Nat} {ds : List (Option Nat)} {ops : Array Oper} (hy : ∀ tmps, yielded ops tmps = yld ds tmps) {fr : Fr} {a : Act} (h : FrOk n ds fr a) {o : Oper} (hg : gOff ds fr o.guard = true) : Region.wanted o (yielded ops a.tmps) = false := by
  unfold Region.wanted
  rw [hy]
  cases hgd : o.guard with
  | none => rw [hgd] at hg; cases hg
  | some jw =>
    obtain ⟨j, w⟩ := jw
    rw [hgd] at hg
    simp only [gOff] at hg
    split at hg
    · rename_i b hb
      simp only [beq_eq_false_iff_ne]
      unfold yld
      cases hd : (ds[j]?).bind id with
      | none => rw [hd] at hb; cases hb
      | some d =>
        rw [hd] at hb
        have := (h.ent d [] _ hb).1 (fun p hp => by cases hp)
        simp [this]
        intro e
        subst e
        simp at hg
    · rename_i b hb
      simp only [beq_eq_false_iff_ne]
      unfold yld
      cases hd : (ds[j]?).bind id with
      | none => rw [hd] at hb; cases hb
      | some d =>
        rw [hd] at hb
        have := (h.ent d [] _ hb).1 (fun p hp => by cases hp)
        simp [this]
    · cases hg

section
variable {cx : Cx} {n : Nat} {ds : List (Option Nat)} {R : Rg n ds} {its : List It} {fr : Fr} {C : Mem} {L : List Ent} {i k d : Nat} {o : Oper} {g : GL} {v : Value}

/-- A value in every class from here on. -/
theorem D.det (hk : Nat.ble k 1 = true) (hd : o.dst = some d) (hg : gOf ds fr o.guard = some g) (hp : okPut n ds ((d, g, v) :: fr) d = true) (hwf : wfG ds fr g = true)
    (hrun : GT ds fr g → ∀ a, Sees (ev fr g) a → ∀ κ', (k = 1 → kle (C, L) κ') → ∀ w, R.b.cls κ' w → o.quietAt cx.P a (R.b.cls κ') w v)
    (h : D cx R its ((d, g, v) :: fr) C L) : D cx R ((i, k, o) :: its) fr C L := by
  intro hC0 hits a ha
  obtain ⟨hkd, ho⟩ := hits (i, k, o) (by simp)
  simp only at hkd ho
  have hk1 : k ≤ 1 := by rw [Nat.ble_eq] at hk; exact hk
  simp only [List.map_cons, DU]
  unfold stepU
  simp only [ho, hkd, hk1, if_true, hd]
  have hw := wanted_iff R.hy ha hg
  by_cases hG : GH ds a.tmps g
  · refine ⟨v, fun κ' hκ => .inl ⟨hw.2 hG, fun w hcw => hrun (GT_of ha hG (wfG_spec hwf)) a (fun x u hx => ev_spec ha hG hx) κ' hκ w hcw⟩, ?_⟩
    exact h hC0 (fun x hx => hits x (by simp [hx])) _ (ha.put hp ⟨fun _ => rfl, fun hn => absurd hG hn⟩)
  · refine ⟨undef, fun κ' hκ => .inr ⟨by cases hx : Region.wanted o (yielded R.ops a.tmps) with | false => rfl | true => exact absurd (hw.1 hx) hG, rfl⟩, ?_⟩
    exact h hC0 (fun x hx => hits x (by simp [hx])) _ (ha.put hp ⟨fun hn => absurd hn hG, fun _ => rfl⟩)

theorem D.pure (hk : Nat.ble k 1 = true) (hd : o.dst = some d) (hg : gOf ds fr o.guard = some g) (hv : po cx.T (ev fr g) o.op = some v) (hp : okPut n ds ((d, g, v) :: fr) d = true) (hwf : wfG ds fr g = true)
    (h : D cx R its ((d, g, v) :: fr) C L) : D cx R ((i, k, o) :: its) fr C L :=
  D.det hk hd hg hp hwf (fun _ a hs κ' _ w _ => by
    unfold Oper.quietAt
    rw [po_spec cx.hT (fun x u hx => hs x u hx) hv w]
    exact ⟨rfl, rfl⟩) h

def idxOf (ds : List (Option Nat)) (t : Nat) : Nat → Option Nat
  | j => match ds with
    | [] => none
    | some d :: r => bif Nat.beq d t then some j else idxOf r t (j + 1)
    | none :: r => idxOf r t (j + 1)

theorem idxOf_spec : ∀ {ds : List (Option Nat)} {t j m : Nat}, idxOf ds t j = some m → j ≤ m ∧ (ds[m - j]?).bind id = some t
  | [], t, j, m, h => by simp [idxOf] at h
  | some d :: r, t, j, m, h => by
    simp only [idxOf] at h
    cases hb : Nat.beq d t with
    | true =>
      rw [hb] at h
      simp only [cond_true, Option.some.injEq] at h
      subst h
      exact ⟨Nat.le_refl _, by simp [Nat.eq_of_beq_eq_true hb]⟩
    | false =>
      rw [hb] at h
      obtain ⟨h1, h2⟩ := idxOf_spec h
      refine ⟨by omega, ?_⟩
      rw [show m - j = (m - (j + 1)) + 1 by omega]
      simpa using h2
  | none :: r, t, j, m, h => by
    simp only [idxOf] at h
    obtain ⟨h1, h2⟩ := idxOf_spec h
    refine ⟨by omega, ?_⟩
    rw [show m - j = (m - (j + 1)) + 1 by omega]
    simpa using h2

/-- The value of a guarded operand: seen under one guard more. -/
theorem D.pickCore {tc jc : Nat} {x y : Operand} {cb xb yb : Bool} (hk : Nat.ble k 1 = true) (hd : o.dst = some d) (hop : o.op = .pick (.tmp tc) x y) (hg : gOf ds fr o.guard = some g)
    (hc : ev fr g (.tmp tc) = some (.bool cb)) (hj : idxOf ds tc 0 = some jc)
    (hx : ev fr ((jc, true) :: g) x = some (.bool xb)) (hy : ev fr ((jc, false) :: g) y = some (.bool yb)) (hr : v = .bool (bif cb then xb else yb))
    (hp : okPut n ds ((d, g, v) :: fr) d = true)
    (h : D cx R its ((d, g, v) :: fr) C L) : D cx R ((i, k, o) :: its) fr C L := by
  intro hC0 hits a ha
  obtain ⟨hkd, ho⟩ := hits (i, k, o) (by simp)
  simp only at hkd ho
  have hk1 : k ≤ 1 := by rw [Nat.ble_eq] at hk; exact hk
  simp only [List.map_cons, DU]
  unfold stepU
  simp only [ho, hkd, hk1, if_true, hd]
  have hw := wanted_iff R.hy ha hg
  by_cases hG : GH ds a.tmps g
  · have hcv : a.eval (.tmp tc) = .bool cb := ev_spec ha hG hc
    have hslot : a.tmps[tc]? = some (.bool cb) := by
      simp only [Act.eval, Array.getD_eq_getD_getElem?] at hcv
      cases ht : a.tmps[tc]? with
      | none => rw [ht] at hcv; simp [undef] at hcv
      | some u => rw [ht] at hcv; simp at hcv; rw [hcv]
    have hyl : yld ds a.tmps jc = some cb := by
      unfold yld
      have := (idxOf_spec hj).2
      simp only [Nat.sub_zero] at this
      rw [this]
      simp [hslot]
    have hval : (execOp a.eval o) = Pure.pure (.value v) := by
      have e1 : execOp a.eval o = (do Pure.pure (.value (if ← asBool (a.eval (.tmp tc)) then a.eval x else a.eval y)) : Sem Next) := by unfold execOp; rw [hop]
      rw [e1, hcv, hr]
      cases cb with
      | true =>
        have hG' : GH ds a.tmps ((jc, true) :: g) := fun p hp' => by
          rcases List.mem_cons.1 hp' with rfl | hp'
          · exact hyl
          · exact hG p hp'
        rw [ev_spec ha hG' hx]
        rfl
      | false =>
        have hG' : GH ds a.tmps ((jc, false) :: g) := fun p hp' => by
          rcases List.mem_cons.1 hp' with rfl | hp'
          · exact hyl
          · exact hG p hp'
        rw [ev_spec ha hG' hy]
        rfl
    refine ⟨v, fun κ' hκ => .inl ⟨hw.2 hG, fun w hcw => ?_⟩, ?_⟩
    · unfold Oper.quietAt
      rw [hval]
      exact ⟨rfl, rfl⟩
    · exact h hC0 (fun x hx => hits x (by simp [hx])) _ (ha.put hp ⟨fun _ => rfl, fun hn => absurd hG hn⟩)
  · refine ⟨undef, fun κ' hκ => .inr ⟨by cases hx : Region.wanted o (yielded R.ops a.tmps) with | false => rfl | true => exact absurd (hw.1 hx) hG, rfl⟩, ?_⟩
    exact h hC0 (fun x hx => hits x (by simp [hx])) _ (ha.put hp ⟨fun hn => absurd hn hG, fun _ => rfl⟩)

theorem D.pickAnd {tc jc : Nat} {x : Operand} {cb xb : Bool} (hk : Nat.ble k 1 = true) (hd : o.dst = some d) (hop : o.op = .pick (.tmp tc) x (.const (.bool false))) (hg : gOf ds fr o.guard = some g)
    (hc : ev fr g (.tmp tc) = some (.bool cb)) (hj : idxOf ds tc 0 = some jc)
    (hx : ev fr ((jc, true) :: g) x = some (.bool xb))
    (hp : okPut n ds ((d, g, .bool (cb && xb)) :: fr) d = true)
    (h : D cx R its ((d, g, .bool (cb && xb)) :: fr) C L) : D cx R ((i, k, o) :: its) fr C L :=
  D.pickCore hk hd hop hg hc hj hx (yb := false) rfl (by cases cb <;> rfl) hp h

theorem D.pickOr {tc jc : Nat} {y : Operand} {cb yb : Bool} (hk : Nat.ble k 1 = true) (hd : o.dst = some d) (hop : o.op = .pick (.tmp tc) (.const (.bool true)) y) (hg : gOf ds fr o.guard = some g)
    (hc : ev fr g (.tmp tc) = some (.bool cb)) (hj : idxOf ds tc 0 = some jc)
    (hy : ev fr ((jc, false) :: g) y = some (.bool yb))
    (hp : okPut n ds ((d, g, .bool (cb || yb)) :: fr) d = true)
    (h : D cx R its ((d, g, .bool (cb || yb)) :: fr) C L) : D cx R ((i, k, o) :: its) fr C L :=
  D.pickCore hk hd hop hg hc hj (xb := true) rfl hy (by cases cb <;> rfl) hp h

/-- An operation that moves on. -/
theorem D.eff {S : Value → Mem → List Ent → Prop} (hk : Nat.ble k 1 = false) (hd : o.dst = some d) (hg : gOn ds fr o.guard = true) (hp : ∀ v, okPut n ds ((d, [], v) :: fr) d = true)
    (hrun : ∀ a, Sees (ev fr []) a → ∀ w, R.b.C0.le C → R.b.cls (C, L) w → o.wp cx.P a w (fun a' w' => ∃ v C' L', a' = a.put o.dst v ∧ C.le C' ∧ (k = 2 → ∀ x ∈ L, x ∈ L') ∧ R.b.cls (C', L') w' ∧ S v C' L') (QN fun _ _ => False))
    (h : ∀ v C' L', C.le C' → S v C' L' → D cx R its ((d, [], v) :: fr) C' L') : D cx R ((i, k, o) :: its) fr C L := by
  intro hC0 hits a ha
  obtain ⟨hkd, ho⟩ := hits (i, k, o) (by simp)
  simp only at hkd ho
  have hk1 : ¬ k ≤ 1 := fun hle => by rw [← Nat.ble_eq] at hle; rw [hle] at hk; cases hk
  simp only [List.map_cons, DU]
  unfold stepU
  simp only [ho, hkd, hk1, if_false]
  intro w hw
  unfold wpOp
  simp only [ho]
  have hwt : Region.wanted o (yielded R.ops a.tmps) = true := wanted_on R.hy ha hg
  simp only [hwt, if_true]
  refine .inl (Oper.wp_mono (fun a' w' ⟨v, C', L', e, hle, hL, hc, hS⟩ => ⟨(C', L'), fun h2 => ⟨hle, hL h2⟩, hc, ?_⟩) (hrun a (fun x u hx => ev_spec ha (fun p hp => by cases hp) hx) w hC0 hw))
  rw [e, hd]
  refine h v C' L' hle hS (hC0.trans hle) (fun x hx => hits x (by simp [hx])) _ (ha.put (hp v) ⟨fun _ => rfl, fun hn => absurd (fun p hp => by cases hp) hn⟩)

theorem D.eff0 {S : Mem → List Ent → Prop} (hk : Nat.ble k 1 = false) (hg : gOn ds fr o.guard = true)
    (hrun : ∀ a, Sees (ev fr []) a → ∀ w, R.b.C0.le C → R.b.cls (C, L) w → o.wp cx.P a w (fun a' w' => ∃ C' L', a' = a ∧ C.le C' ∧ (k = 2 → ∀ x ∈ L, x ∈ L') ∧ R.b.cls (C', L') w' ∧ S C' L') (QN fun _ _ => False))
    (h : ∀ C' L', C.le C' → S C' L' → D cx R its fr C' L') : D cx R ((i, k, o) :: its) fr C L := by
  intro hC0 hits a ha
  obtain ⟨hkd, ho⟩ := hits (i, k, o) (by simp)
  simp only at hkd ho
  have hk1 : ¬ k ≤ 1 := fun hle => by rw [← Nat.ble_eq] at hle; rw [hle] at hk; cases hk
  simp only [List.map_cons, DU]
  unfold stepU
  simp only [ho, hkd, hk1, if_false]
  intro w hw
  unfold wpOp
  simp only [ho]
  have hwt : Region.wanted o (yielded R.ops a.tmps) = true := wanted_on R.hy ha hg
  simp only [hwt, if_true]
  refine .inl (Oper.wp_mono (fun a' w' ⟨C', L', e, hle, hL, hc, hS⟩ => ⟨(C', L'), fun h2 => ⟨hle, hL h2⟩, hc, ?_⟩) (hrun a (fun x u hx => ev_spec ha (fun p hp => by cases hp) hx) w hC0 hw))
  rw [e]
  exact h C' L' hle hS (hC0.trans hle) (fun x hx => hits x (by simp [hx])) _ ha
end

section
variable {cx : Cx} {n : Nat} {ds : List (Option Nat)} {R : Rg n ds} {its : List It} {fr : Fr} {C : Mem} {L : List Ent} {i k d : Nat} {o : Oper} {g : GL} {v : Value}

/-- An operation whose guard is known not to hold. -/
theorem D.skip (hd : o.dst = some d) (hg : gOff ds fr o.guard = true) (hp : okPut n ds ((d, [], undef) :: fr) d = true)
    (h : D cx R its ((d, [], undef) :: fr) C L) : D cx R ((i, k, o) :: its) fr C L := by
  intro hC0 hits a ha
  obtain ⟨hkd, ho⟩ := hits (i, k, o) (by simp)
  simp only at hkd ho
  have hw := wanted_off R.hy ha hg
  simp only [List.map_cons, DU]
  unfold stepU
  simp only [ho, hkd]
  by_cases hk1 : k ≤ 1
  · simp only [hk1, if_true, hd]
    refine ⟨undef, fun κ' hκ => .inr ⟨hw, rfl⟩, ?_⟩
    exact h hC0 (fun x hx => hits x (by simp [hx])) _ (ha.put hp ⟨fun _ => rfl, fun hn => absurd (fun p hp => by cases hp) hn⟩)
  · simp only [hk1, if_false]
    intro w hcw
    unfold wpOp
    simp only [ho, hw, Bool.false_eq_true, if_false]
    refine ⟨(C, L), fun _ => kle.refl _, hcw, ?_⟩
    rw [hd]
    exact h hC0 (fun x hx => hits x (by simp [hx])) _ (ha.put hp ⟨fun _ => rfl, fun hn => absurd (fun p hp => by cases hp) hn⟩)

theorem D.skip0 (hk : Nat.ble k 1 = false) (hd : o.dst = none) (hg : gOff ds fr o.guard = true)
    (h : D cx R its fr C L) : D cx R ((i, k, o) :: its) fr C L := by
  intro hC0 hits a ha
  obtain ⟨hkd, ho⟩ := hits (i, k, o) (by simp)
  simp only at hkd ho
  have hw := wanted_off R.hy ha hg
  have hk1 : ¬ k ≤ 1 := fun hle => by rw [← Nat.ble_eq] at hle; rw [hle] at hk; cases hk
  simp only [List.map_cons, DU]
  unfold stepU
  simp only [ho, hkd, hk1, if_false]
  intro w hcw
  unfold wpOp
  simp only [ho, hw, Bool.false_eq_true, if_false]
  refine ⟨(C, L), fun _ => kle.refl _, hcw, ?_⟩
  rw [hd]
  exact h hC0 (fun x hx => hits x (by simp [hx])) _ ha

/-- A value under a guard that is known to hold. -/
theorem D.detT (hk : Nat.ble k 1 = true) (hd : o.dst = some d) (hg : gOn ds fr o.guard = true) (hp : okPut n ds ((d, [], v) :: fr) d = true)
    (hrun : ∀ a, Sees (ev fr []) a → ∀ κ', (k = 1 → kle (C, L) κ') → ∀ w, R.b.cls κ' w → o.quietAt cx.P a (R.b.cls κ') w v)
    (h : D cx R its ((d, [], v) :: fr) C L) : D cx R ((i, k, o) :: its) fr C L := by
  intro hC0 hits a ha
  obtain ⟨hkd, ho⟩ := hits (i, k, o) (by simp)
  simp only at hkd ho
  have hk1 : k ≤ 1 := by rw [Nat.ble_eq] at hk; exact hk
  simp only [List.map_cons, DU]
  unfold stepU
  simp only [ho, hkd, hk1, if_true, hd]
  refine ⟨v, fun κ' hκ => .inl ⟨wanted_on R.hy ha hg, fun w hcw => hrun a (fun x u hx => ev_spec ha (fun p hp => by cases hp) hx) κ' hκ w hcw⟩, ?_⟩
  exact h hC0 (fun x hx => hits x (by simp [hx])) _ (ha.put hp ⟨fun _ => rfl, fun hn => absurd (fun p hp => by cases hp) hn⟩)

theorem D.pureT (hk : Nat.ble k 1 = true) (hd : o.dst = some d) (hg : gOn ds fr o.guard = true) (hv : po cx.T (ev fr []) o.op = some v) (hp : okPut n ds ((d, [], v) :: fr) d = true)
    (h : D cx R its ((d, [], v) :: fr) C L) : D cx R ((i, k, o) :: its) fr C L :=
  D.detT hk hd hg hp (fun a hs κ' _ w _ => by
    unfold Oper.quietAt
    rw [po_spec cx.hT (fun x u hx => hs x u hx) hv w]
    exact ⟨rfl, rfl⟩) h

/-- The choice, where the condition is known. -/
theorem D.pickT {c x y : Operand} (hk : Nat.ble k 1 = true) (hd : o.dst = some d) (hg : gOn ds fr o.guard = true) (hop : o.op = .pick c x y) {b : Bool} (hc : ev fr [] c = some (.bool b)) (hb : (b == true) = true) (hx : ev fr [] x = some v)
    (hp : okPut n ds ((d, [], v) :: fr) d = true) (h : D cx R its ((d, [], v) :: fr) C L) : D cx R ((i, k, o) :: its) fr C L :=
  D.detT hk hd hg hp (fun a hs κ' _ w _ => by
    have e1 : execOp a.eval o = (do Pure.pure (.value (if ← asBool (a.eval c) then a.eval x else a.eval y)) : Sem Next) := by unfold execOp; rw [hop]
    simp only [beq_iff_eq] at hb
    unfold Oper.quietAt
    rw [e1, hs _ _ hc, hs _ _ hx, hb]
    exact ⟨rfl, rfl⟩) h
theorem D.pickF {c x y : Operand} (hk : Nat.ble k 1 = true) (hd : o.dst = some d) (hg : gOn ds fr o.guard = true) (hop : o.op = .pick c x y) {b : Bool} (hc : ev fr [] c = some (.bool b)) (hb : (b != true) = true) (hy : ev fr [] y = some v)
    (hp : okPut n ds ((d, [], v) :: fr) d = true) (h : D cx R its ((d, [], v) :: fr) C L) : D cx R ((i, k, o) :: its) fr C L :=
  D.detT hk hd hg hp (fun a hs κ' _ w _ => by
    have e1 : execOp a.eval o = (do Pure.pure (.value (if ← asBool (a.eval c) then a.eval x else a.eval y)) : Sem Next) := by unfold execOp; rw [hop]
    simp only [bne_iff_ne, ne_eq, Bool.not_eq_true] at hb
    unfold Oper.quietAt
    rw [e1, hs _ _ hc, hs _ _ hy, hb]
    exact ⟨rfl, rfl⟩) h
end
theorem onT {b : Bool} (h : b = true) : (b == true) = true := by rw [h]; rfl
theorem onF {b : Bool} (h : b = false) : (b == false) = true := by rw [h]; rfl
theorem offT {b : Bool} (h : b = false) : (b != true) = true := by rw [h]; rfl
theorem offF {b : Bool} (h : b = true) : (b != false) = true := by rw [h]; rfl

/-! ### Reading memory that nobody writes -/
def CCell (C : Mem) (a : Addr) (v : Value) : Prop := a.spot = none ∧ ∃ blk t fz, C a.block = some (.cells blk t fz) ∧ blk[a.off]? = some v

theorem CCell.mono {C D : Mem} {a : Addr} {v : Value} (h : CCell C a v) (hl : C.le D) : CCell D a v :=
  let ⟨h0, blk, t, fz, h1, h2⟩ := h
  ⟨h0, blk, t, fz, hl _ _ h1, h2⟩

theorem CCell.cell {C : Mem} {L : List Ent} {w : World} {a : Addr} {v : Value} (h : CCell C a v) (hs : Sep C L w) : w.cell? a = some v := by
  obtain ⟨h0, blk, t, fz, h1, h2⟩ := h
  simp [World.cell?, hs.c _ _ h1, h0, h2]

/-- A pointer to cells. -/
def PtrTo (C : Mem) (p : Value) (cs : List Value) : Prop := ∃ a : Addr, p = .pointer (some a) ∧ a.spot = none ∧ ∀ j v, cs[j]? = some v → CCell C (a.add j) v

theorem PtrTo.mono {C D : Mem} {p : Value} {cs : List Value} (h : PtrTo C p cs) (hl : C.le D) : PtrTo D p cs :=
  let ⟨a, h1, h2, h3⟩ := h
  ⟨a, h1, h2, fun j v hj => (h3 j v hj).mono hl⟩

theorem add_add (a : Addr) (i j : Nat) (h : a.spot = none) : (a.add i).add j = a.add (i + j) := by
  obtain ⟨b, o, s⟩ := a
  simp only at h
  subst h
  unfold Addr.add
  by_cases hi : i = 0 <;> by_cases hj : j = 0 <;> simp [hi, hj, Nat.add_assoc]
theorem spot_add (a : Addr) (i : Nat) (h : a.spot = none) : (a.add i).spot = none := by
  unfold Addr.add; split <;> simp [h]

theorem PtrTo.part {C : Mem} {p : Value} {cs : List Value} (h : PtrTo C p cs) (o s : Nat) : ∃ a : Addr, p = .pointer (some a) ∧ PtrTo C (.pointer (some (a.add o))) ((cs.drop o).take s) := by
  obtain ⟨a, h1, h2, h3⟩ := h
  refine ⟨a, h1, a.add o, rfl, spot_add a o h2, fun j v hj => ?_⟩
  rw [add_add a o j h2]
  refine h3 _ v ?_
  rw [List.getElem?_take] at hj
  split at hj
  · simpa using hj
  · cases hj

/-- A slice that reads as a list of rows of k cells. -/
def Sl (C : Mem) (k : Nat) (v : Value) (xs : List (List Value)) : Prop :=
  ∃ A c, v = .slice A xs.length c ∧ xs.length ≤ c ∧ c ≤ maxLen ∧ (∀ x ∈ xs, x.length = k) ∧ ∀ i x, xs[i]? = some x → ∃ a : Addr, A = some a ∧ a.spot = none ∧ ∀ j v, x[j]? = some v → CCell C (a.add (i * k + j)) v

theorem Sl.mono {C D : Mem} {k : Nat} {v : Value} {xs : List (List Value)} (h : Sl C k v xs) (hl : C.le D) : Sl D k v xs :=
  let ⟨A, c, h1, h2, h3, h4, h5⟩ := h
  ⟨A, c, h1, h2, h3, h4, fun i x hx => let ⟨a, e1, e2, e3⟩ := h5 i x hx; ⟨a, e1, e2, fun j v hj => (e3 j v hj).mono hl⟩⟩

theorem Sl.nil (C : Mem) (k : Nat) : Sl C k (.slice none 0 0) [] := ⟨none, 0, rfl, Nat.le_refl _, Nat.zero_le _, fun x hx => (by cases hx), fun i x hx => (by simp at hx)⟩

theorem Sl.ptr {C : Mem} {k : Nat} {v : Value} {xs : List (List Value)} (h : Sl C k v xs) {i : Nat} {x : List Value} (hi : xs[i]? = some x) :
    ∃ (a : Addr) (c : Nat), v = .slice (some a) xs.length c ∧ i < xs.length ∧ PtrTo C (.pointer (some (a.add (i * k)))) x := by
  obtain ⟨A, c, h1, h2, h3, h4, h5⟩ := h
  obtain ⟨a, rfl, e2, e3⟩ := h5 i x hi
  exact ⟨a, c, h1, (List.getElem?_eq_some_iff.1 hi).1, a.add (i * k), rfl, spot_add a _ e2, fun j v hj => by rw [add_add a _ j e2]; exact e3 j v hj⟩

theorem run_load_cells {P : Program} {w : World} {a : Addr} {cs : List Value} (h : ∀ j v, cs[j]? = some v → w.cell? (a.add j) = some v) : (loadCells a cs.length).run P w = .ok cs.toArray w := run_loadCells_list (P := P) (w := w) a cs h

theorem run_loadVar {T : Tab} {P : Program} (hT : tabB P T = true) {t : Nat} {ti : TI} (ht : T.get t = some ti) {w : World} {a : Addr} {cs : List Value} (h : ∀ j v, cs[j]? = some v → w.cell? (a.add j) = some v)
    {v : Value} (hv : (bif ti.agg then (bif Nat.beq cs.length ti.size then some (.agg cs.toArray) else none) else cs[0]?) = some v) : (loadVar t a).run P w = .ok v w := by
  unfold loadVar
  simp only [Sem.run_bind, is_agg hT ht w, Result.andThen_ok]
  cases hag : ti.agg with
  | true =>
    rw [hag] at hv
    simp only [cond_true] at hv
    cases hl : Nat.beq cs.length ti.size with
    | false => rw [hl] at hv; cases hv
    | true =>
      rw [hl] at hv
      simp only [cond_true, Option.some.injEq] at hv
      subst hv
      have hlen := Nat.eq_of_beq_eq_true hl
      simp only [if_true, Sem.run_bind, size_of hT ht w, Result.andThen_ok, ← hlen, run_load_cells h]
      rfl
  | false =>
    rw [hag] at hv
    simp only [cond_false] at hv
    have := h 0 v hv
    simp only [Addr.add, if_true] at this
    simp [this]

section
variable {cx : Cx} {n : Nat} {ds : List (Option Nat)} {R : Rg n ds} {its : List It} {fr : Fr} {C : Mem} {L : List Ent} {i k d : Nat} {o : Oper} {g : GL} {v : Value}

/-- The value that a load of type t finds in these cells. -/
def ofCells (ti : TI) (cs : List Value) : Option Value := bif ti.agg then (bif Nat.beq cs.length ti.size then some (.agg cs.toArray) else none) else cs[0]?

theorem D.loadP {t : Nat} {x : Operand} {p : Value} {cs : List Value} {ti : TI} (hk : k = 1) (hd : o.dst = some d) (hop : o.op = .load t x) (hg : gOf ds fr o.guard = some g) (hx : ev fr g x = some p)
    (ht : cx.T.get t = some ti) (hc : GT ds fr g → PtrTo C p cs) (hv : ofCells ti cs = some v) (hp : okPut n ds ((d, g, v) :: fr) d = true) (hwf : wfG ds fr g = true)
    (h : D cx R its ((d, g, v) :: fr) C L) : D cx R ((i, k, o) :: its) fr C L :=
  D.det (by subst hk; rfl) hd hg hp hwf (fun hGT a hs κ' hκ w hw => by
    obtain ⟨ad, rfl, _, hcell⟩ := hc hGT
    have hex : (execOp a.eval o).run cx.P w = .ok (.value v) w := by
      have e1 : execOp a.eval o = (do Pure.pure (.value (← Instr.loadAt t (a.eval x))) : Sem Next) := by unfold execOp; rw [hop]
      rw [e1, hs _ _ hx]
      simp only [Instr.loadAt, Instr.sureAddr, Sem.run_bind, Sem.run_pure, Result.andThen_ok]
      rw [run_loadVar cx.hT ht (fun j u hj => ((hcell j u hj).mono (hκ hk).1).cell hw.sep) hv]
      rfl
    unfold Oper.quietAt
    rw [hex]
    exact ⟨rfl, rfl⟩) h

theorem D.loadL {t b off : Nat} {x : Operand} {cs : List Value} {tb : TypeId} {fz : Nat × Nat} {ti : TI} (hm : Ent.obj b (.cells ⟨cs⟩ tb fz) ∈ L) (hk : k = 1) (hd : o.dst = some d) (hop : o.op = .load t x) (hg : gOf ds fr o.guard = some g) (hx : ev fr g x = some (.pointer (some ⟨b, off, none⟩)))
    (ht : cx.T.get t = some ti) (hv : ofCells ti ((cs.drop off).take ti.size) = some v) (hp : okPut n ds ((d, g, v) :: fr) d = true) (hwf : wfG ds fr g = true)
    (h : D cx R its ((d, g, v) :: fr) C L) : D cx R ((i, k, o) :: its) fr C L :=
  D.det (by subst hk; rfl) hd hg hp hwf (fun _ a hs κ' hκ w hw => by
    have hb : w.heap[b]? = some (.cells ⟨cs⟩ tb fz) := hw.sep.e _ ((hκ hk).2 _ hm)
    have hcell : ∀ j u, ((cs.drop off).take ti.size)[j]? = some u → w.cell? ((⟨b, off, none⟩ : Addr).add j) = some u := fun j u hj => by
      rw [Addr.add_lit, cell_of_row w b (off + j) _ tb fz hb]
      rw [List.getElem?_take] at hj
      split at hj
      · simpa using hj
      · cases hj
    have hex : (execOp a.eval o).run cx.P w = .ok (.value v) w := by
      have e1 : execOp a.eval o = (do Pure.pure (.value (← Instr.loadAt t (a.eval x))) : Sem Next) := by unfold execOp; rw [hop]
      rw [e1, hs _ _ hx]
      simp only [Instr.loadAt, Instr.sureAddr, Sem.run_bind, Sem.run_pure, Result.andThen_ok]
      rw [run_loadVar cx.hT ht hcell hv]
      rfl
    unfold Oper.quietAt
    rw [hex]
    exact ⟨rfl, rfl⟩) h

/-- An element's address in a slice that nobody writes. -/
theorem D.index {t e : Nat} {x y : Operand} {ki : IntKind} {m : Int} {s : Value} {ke : Nat} {xs : List (List Value)} {row : List Value} {ti te : TI} (hk : Nat.ble k 1 = true) (hd : o.dst = some d) (hop : o.op = .indexAddr t x y)
    (hg : gOf ds fr o.guard = some g) (hx : ev fr g x = some s) (hy : ev fr g y = some (.int ki m)) (ht : cx.T.get t = some ti) (hte : ti.k = .slice e) (he : cx.T.get e = some te) (hsz : te.size = ke)
    (hs : GT ds fr g → Sl C ke s xs ∧ 0 ≤ m ∧ xs[m.toNat]? = some row) (hp : ∀ v, okPut n ds ((d, g, v) :: fr) d = true) (hwf : wfG ds fr g = true)
    (h : ∀ p, (GT ds fr g → PtrTo C p row) → D cx R its ((d, g, p) :: fr) C L) : D cx R ((i, k, o) :: its) fr C L := by
  have hu : cx.P.underlying t = some (.slice e) := by
    obtain ⟨kk, s1, b1, z1, g1⟩ := ti
    simp only at hte
    subst hte
    exact und_slice cx.hT ht
  by_cases hG : GT ds fr g
  · obtain ⟨hsl, hm, hrow⟩ := hs hG
    obtain ⟨a0, c0, hv0, hlt, hpt⟩ := hsl.ptr hrow
    refine D.det hk hd hg (hp (.pointer (some (a0.add (m.toNat * ke))))) hwf (fun _ a hsee κ' hκ w hw => ?_) (h _ (fun _ => hpt))
    have hex : (execOp a.eval o).run cx.P w = .ok (.value (.pointer (some (a0.add (m.toNat * ke))))) w := by
      have e1 : execOp a.eval o = (do Pure.pure (.value (← Instr.indexAt t (a.eval x) (a.eval y))) : Sem Next) := by unfold execOp; rw [hop]
      rw [e1, hsee _ _ hx, hsee _ _ hy, hv0]
      have h2 := size_of cx.hT he w
      rw [hsz] at h2
      have hmlt : m < (xs.length : Int) := by omega
      simp [Instr.indexAt, asIntOf, run_underlying hu, h2, hm, hmlt]
    unfold Oper.quietAt
    rw [hex]
    exact ⟨rfl, rfl⟩
  · exact D.det hk hd hg (hp undef) hwf (fun hGT => absurd hGT hG) (h _ (fun hGT => absurd hGT hG))

/-- A field's address behind such a pointer. -/
theorem D.fieldP {t f ty off : Nat} {x : Operand} {p : Value} {cs : List Value} {ti te : TI} {fs : List (Nat × Nat)} (hk : Nat.ble k 1 = true) (hd : o.dst = some d) (hop : o.op = .fieldAddr t x f)
    (hg : gOf ds fr o.guard = some g) (hx : ev fr g x = some p) (ht : cx.T.get t = some ti) (hfs : ti.k = .struct fs) (hf : fs[f]? = some (ty, off)) (hte : cx.T.get ty = some te) (hs0 : Nat.beq te.size 0 = false)
    (hc : GT ds fr g → PtrTo C p cs) (hp : ∀ v, okPut n ds ((d, g, v) :: fr) d = true) (hwf : wfG ds fr g = true)
    (h : ∀ p', (GT ds fr g → PtrTo C p' ((cs.drop off).take te.size)) → D cx R its ((d, g, p') :: fr) C L) : D cx R ((i, k, o) :: its) fr C L := by
  by_cases hG : GT ds fr g
  · obtain ⟨ad, hpe, hpt⟩ := (hc hG).part off te.size
    refine D.det hk hd hg (hp (.pointer (some (ad.add off)))) hwf (fun _ a hsee κ' hκ w hw => ?_) (h _ (fun _ => hpt))
    have hpo : po cx.T (ev fr g) o.op = some (.pointer (some (ad.add off))) := by
      rw [hop]
      obtain ⟨kk, s1, b1, z1, g1⟩ := ti
      simp only at hfs
      subst hfs
      obtain ⟨k2, s2, b2, z2, g2⟩ := te
      simp only [po, hx, hpe, ht, hf, hte]
      simp only at hs0
      rw [hs0]
      rfl
    unfold Oper.quietAt
    rw [po_spec cx.hT (fun x u hx => hsee x u hx) hpo w]
    exact ⟨rfl, rfl⟩
  · exact D.det hk hd hg (hp undef) hwf (fun hGT => absurd hGT hG) (h _ (fun hGT => absurd hGT hG))
end
end Go.Jog
