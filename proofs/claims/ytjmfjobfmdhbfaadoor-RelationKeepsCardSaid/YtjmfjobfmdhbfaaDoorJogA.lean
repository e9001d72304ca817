/- Regions that draw their order, for classes of worlds: one derivation along a canonical order serves every order. Program-independent. -/
import Derived.Deep.Quiet
namespace Go.Jog
open Go

section
variable {P : Program} {ops : Array Oper} {ι : Type} {cls : ι → World → Prop} {le : ι → ι → Prop}

/-- The exits of a region that cannot fail: only the normal one. -/
def QN (N : Act → World → Prop) : Exit → Act → World → Prop
  | .normal, a, w => N a w
  | _, _, _ => False

theorem wpOp_Q {Q Q' : Exit → Act → World → Prop} {i : Nat} {K : Act → World → Prop} {a : Act} {w : World}
    (hq : ∀ e a w, (∀ (_ : e = .normal), False) → ¬ Q e a w) (h : wpOp P ops Q i K a w) : wpOp P ops Q' i K a w := by
  have hl : ¬ LetsOut Q := fun ⟨a, w, h⟩ => hq .outgrown a w (fun e => by cases e) h
  unfold wpOp at *
  split
  · rename_i ho; simp only [ho] at h; exact h
  · rename_i o ho
    simp only [ho] at h
    split
    · rename_i hw
      simp only [hw, if_true] at h
      rcases h with h | ⟨_, h⟩
      · refine .inl ?_
        unfold Oper.wp at *
        generalize (execOp a.eval o).run P w = r at *
        cases r with
        | ok n w' =>
          cases n <;> simp only [Oper.upon] at h ⊢ <;> try exact h
          case enter f args =>
            refine Calls.mono h fun e w'' he => ?_
            cases e with
            | returned u => exact he
            | panicked c => exact absurd he (hq _ _ _ (fun e => by cases e))
            | outgrown => exact absurd he hl
        | halt x w' =>
          cases x <;> simp only [Oper.upon] at h ⊢
          case panic u => exact absurd h (hq _ _ _ (fun e => by cases e))
      · exact absurd h hl
    · rename_i hw; simp only [hw] at h; exact h

theorem wpAny_Q {Q : Exit → Act → World → Prop} {N : Act → World → Prop} {md : Region.Mode} (hN : ∀ a w, N a w → Q .normal a w) :
    ∀ (f : Nat) (listed : Array Bool) (a : Act) (w : World), wpAny P md ops (QN N) f listed a w → wpAny P md ops Q f listed a w
  | 0, _, _, _, h => ⟨h.1, hN _ _ h.2⟩
  | f + 1, _, _, _, h => ⟨fun h0 => hN _ _ (h.1 h0), fun i hi =>
      wpOp_mono (fun a' w' h' => wpAny_Q hN f _ a' w' h') (wpOp_Q (Q := QN N) (fun e a w he h => by cases e <;> first | exact he rfl | exact h) (h.2 i hi))⟩

theorem wpOps_Q {Q : Exit → Act → World → Prop} {N : Act → World → Prop} (hN : ∀ a w, N a w → Q .normal a w) :
    ∀ (l : List Nat) (a : Act) (w : World), wpOps P ops (QN N) l a w → wpOps P ops Q l a w
  | [], _, _, h => hN _ _ h
  | i :: l, a, w, h => by
    rw [wpOps_cons] at *
    exact wpOp_mono (fun a' w' h' => wpOps_Q hN l a' w' h') (wpOp_Q (Q := QN N) (fun e a w he h => by cases e <;> first | exact he rfl | exact h) h)

/-- One operation comes up. Kinds: 0 it yields a value in whatever class; 1 it yields a value in each class from this one on; 2 it moves on to a later class; 3 it moves to some class. -/
def stepU (P : Program) (ops : Array Oper) (cls : ι → World → Prop) (le : ι → ι → Prop) (kd i : Nat) (K : Act → ι → Prop) (a : Act) (κ : ι) : Prop :=
  match ops[i]? with
  | none => False
  | some o =>
    if kd ≤ 1 then ∃ v, (∀ κ', (kd = 1 → le κ κ') → YieldsIn P ops (cls κ') o v a) ∧ K (a.put o.dst v) κ
    else ∀ w, cls κ w → wpOp P ops (QN fun _ _ => False) i (fun a' w' => ∃ κ', (kd = 2 → le κ κ') ∧ cls κ' w' ∧ K a' κ') a w

theorem stepU_mono {kd i : Nat} {K K' : Act → ι → Prop} {a : Act} {κ : ι} (hk : ∀ a κ, K a κ → K' a κ) (h : stepU P ops cls le kd i K a κ) : stepU P ops cls le kd i K' a κ := by
  unfold stepU at *
  split
  · rename_i ho; simp only [ho] at h
  · rename_i o ho
    simp only [ho] at h
    split
    · rename_i hkd; simp only [hkd, if_true] at h
      obtain ⟨v, h1, h2⟩ := h
      exact ⟨v, h1, hk _ _ h2⟩
    · rename_i hkd; simp only [hkd, if_false] at h
      exact fun w hw => wpOp_mono (fun a' w' ⟨κ', h1, h2, h3⟩ => ⟨κ', h1, h2, hk _ _ h3⟩) (h w hw)

/-- What one step comes to, in a world of the class. -/
theorem wpOp_of_stepU (hrefl : ∀ κ, le κ κ) {kd i : Nat} {K : Act → ι → Prop} {K' : Act → World → Prop} {Q : Exit → Act → World → Prop} {a : Act} {κ : ι} {w : World} (hw : cls κ w)
    (hk : ∀ a κ w, K a κ → cls κ w → K' a w) (h : stepU P ops cls le kd i K a κ) : wpOp P ops Q i K' a w := by
  unfold stepU at h
  cases ho : ops[i]? with
  | none => simp only [ho] at h
  | some o =>
    simp only [ho] at h
    split at h
    · obtain ⟨v, h1, h2⟩ := h
      exact wpOp_of_qOp (K := fun a => K a κ) hw (fun a w' hw' hK => hk _ _ _ hK hw') (YieldsIn.qOp ho (h1 κ (fun _ => hrefl κ)) h2)
    · exact wpOp_Q (Q := QN fun _ _ => False) (fun e a w he h => by cases e <;> exact h) (wpOp_mono (fun a' w' ⟨κ', _, h2, h3⟩ => hk _ _ _ h3 h2) (h w hw))

variable {md : Region.Mode}

def wpAnyU (P : Program) (md : Region.Mode) (ops : Array Oper) (cls : ι → World → Prop) (le : ι → ι → Prop) (kd : Nat → Nat) (Post : Act → ι → Prop) : Nat → Array Bool → Act → ι → Prop
  | 0, listed, a, κ => Region.ready md ops listed = [] ∧ Post a κ
  | f + 1, listed, a, κ => (Region.ready md ops listed = [] → Post a κ) ∧
      ∀ i ∈ Region.ready md ops listed, stepU P ops cls le (kd i) i (wpAnyU P md ops cls le kd Post f (listed.setIfInBounds i true)) a κ

theorem wpAny_of_U (hrefl : ∀ κ, le κ κ) {kd : Nat → Nat} {Post : Act → ι → Prop} {N : Act → World → Prop} (hN : ∀ a κ w, Post a κ → cls κ w → N a w) :
    ∀ (f : Nat) (listed : Array Bool) (a : Act) (κ : ι) (w : World), cls κ w → wpAnyU P md ops cls le kd Post f listed a κ → wpAny P md ops (QN N) f listed a w
  | 0, _, _, _, _, hw, h => ⟨h.1, hN _ _ _ h.2 hw⟩
  | f + 1, _, _, _, _, hw, h => ⟨fun h0 => hN _ _ _ (h.1 h0) hw, fun i hi =>
      wpOp_of_stepU hrefl hw (fun a' κ' w' h' hw' => wpAny_of_U hrefl hN f _ a' κ' w' hw' h') (h.2 i hi)⟩

/-- Operation j waits, maybe through others, for operation i. -/
def waitsT (md : Region.Mode) (ops : Array Oper) : Nat → Nat → Nat → Bool
  | 0, _, _ => false
  | f + 1, j, i => match ops[j]? with
    | some oj => oj.after.any fun e => Region.binds md e && (e.on == i || waitsT md ops f e.on i)
    | none => false

def Closed (md : Region.Mode) (ops : Array Oper) (listed : Array Bool) : Prop :=
  ∀ j oj, ops[j]? = some oj → listed.getD j false = true → ∀ e ∈ oj.after, Region.binds md e = true → listed.getD e.on false = true

theorem listed_of_waitsT {listed : Array Bool} (hc : Closed md ops listed) {i : Nat} : ∀ (f j : Nat) (oj : Oper), ops[j]? = some oj →
    (∀ e ∈ oj.after, Region.binds md e = true → listed.getD e.on false = true) → waitsT md ops f j i = true → listed.getD i false = true
  | 0, _, _, _, _, h => by simp [waitsT] at h
  | f + 1, j, oj, hj, hl, h => by
    simp only [waitsT, hj] at h
    obtain ⟨e, he, hb⟩ := Array.any_eq_true'.1 h
    simp only [Bool.and_eq_true, Bool.or_eq_true, beq_iff_eq] at hb
    have h1 := hl e he hb.1
    rcases hb.2 with h2 | h2
    · rw [← h2]; exact h1
    · cases hoe : ops[e.on]? with
      | none =>
        cases f with
        | zero => simp [waitsT] at h2
        | succ f => simp [waitsT, hoe] at h2
      | some oe => exact listed_of_waitsT hc f e.on oe hoe (hc e.on oe hoe h1) h2

theorem getD_tf {listed : Array Bool} {i : Nat} (h : listed.getD i true = false) : listed.getD i false = false := by
  rcases Nat.lt_or_ge i listed.size with h' | h'
  · simp [h'] at h ⊢; exact h
  · simp [Array.getElem?_eq_none h'] at h

theorem Closed.set {listed : Array Bool} (hc : Closed md ops listed) {i : Nat} (hi : i ∈ Region.ready md ops listed) : Closed md ops (listed.setIfInBounds i true) := by
  obtain ⟨_, oi, hoi, hall⟩ := mem_ready.1 hi
  intro j oj hj hl e he hb
  by_cases hij : i = j
  · subst hij
    obtain rfl : oj = oi := Option.some.inj (hj.symm.trans hoi)
    exact getD_set_true (hall e he hb)
  · rw [getD_set_ne false hij] at hl
    exact getD_set_true (hc j oj hj hl e he hb)

theorem same_tmps {o : Oper} {C : World → Prop} {v : Value} {a a' : Act} (h : YieldsIn P ops C o v a) (ht : a'.tmps = a.tmps) : YieldsIn P ops C o v a' := by
  have he : a'.eval = a.eval := by funext x; cases x <;> simp [Act.eval, ht]
  exact h.of_same (by rw [he]) (by rw [ht])

/-- Carrying out oj, apart from oi: whether oi's value is there already makes no difference. -/
theorem wpOp_swap {j : Nat} {oi oj : Oper} {v : Value} (hj : ops[j]? = some oj) (hap : oi.apart ops oj = true)
    (hsj : ∀ cs b, oj.op ≠ .select cs b) {K : Act → World → Prop} {a : Act} {w : World}
    (h : wpOp P ops (QN fun _ _ => False) j K (a.put oi.dst v) w) :
    wpOp P ops (QN fun _ _ => False) j (fun a' w' => (∃ u, a'.tmps = (a.put oj.dst u).tmps) ∧ K (a'.put oi.dst v) w') a w := by
  obtain ⟨h1, h2, h3⟩ := Oper.apart_spec hap
  unfold wpOp at *
  simp only [hj] at *
  rw [wanted_put oj a oi.dst v h1] at h
  split
  · rename_i hw
    simp only [hw, if_true] at h
    rcases h with h | ⟨_, hl⟩
    · refine .inl ?_
      unfold Oper.wp at *
      rw [execOp_put oj hsj a oi.dst v h1] at h
      generalize (execOp a.eval oj).run P w = r at *
      cases r with
      | ok n w' =>
        cases n <;> simp only [Oper.upon] at h ⊢
        case value u => exact ⟨⟨u, rfl⟩, by rw [← Act.put_comm a v u h2]; exact h⟩
        case skip => exact ⟨⟨undef, rfl⟩, by rw [← Act.put_comm a v undef h2]; exact h⟩
        case defer d =>
          refine ⟨⟨undef, by cases oj.dst <;> rfl⟩, ?_⟩
          rw [← Act.put_comm _ v undef h2, ← Act.put_defers]
          exact h
        case enter f args =>
          refine Calls.mono h fun e w'' he => ?_
          cases e with
          | returned u => exact ⟨⟨u, rfl⟩, by rw [← Act.put_comm a v u h2]; exact he⟩
          | panicked c => exact he
          | outgrown => exact he
        case row row args => exact Rows.mono h fun u w'' he => ⟨⟨u, rfl⟩, by rw [← Act.put_comm a v u h2]; exact he⟩
      | halt x w' =>
        cases x <;> simp only [Oper.upon] at h ⊢
        case panic u => exact h
    · obtain ⟨_, _, h⟩ := hl; exact h.elim
  · rename_i hw
    simp only [hw] at h
    exact ⟨⟨undef, rfl⟩, by rw [← Act.put_comm a v undef h2]; exact h⟩

/-- A step of oj behind oi's value, seen ahead of it. -/
theorem stepU_swap (htrans : ∀ a b c, le a b → le b c → le a c) {ki kj j : Nat} {oi oj : Oper} {v : Value} (hj : ops[j]? = some oj) (hap : oi.apart ops oj = true) (hk : ki = 0 ∨ kj ≤ 2)
    (hsi : ∀ cs b, oi.op ≠ .select cs b) (hsj : ∀ cs b, oj.op ≠ .select cs b) {K : Act → ι → Prop} {a : Act} {κ : ι}
    (hy : ∀ κ', (ki = 1 → le κ κ') → YieldsIn P ops (cls κ') oi v a) (h : stepU P ops cls le kj j K (a.put oi.dst v) κ) :
    stepU P ops cls le kj j (fun a' κ' => (∀ κ'', (ki = 1 → le κ' κ'') → YieldsIn P ops (cls κ'') oi v a') ∧ K (a'.put oi.dst v) κ') a κ := by
  obtain ⟨h1, h2, h3⟩ := Oper.apart_spec hap
  have keep : ∀ (a' : Act) u, a'.tmps = (a.put oj.dst u).tmps → ∀ κ', (ki = 1 → le κ κ') → YieldsIn P ops (cls κ') oi v a' := fun a' u ht κ' hκ =>
    same_tmps ((hy κ' hκ).of_same (execOp_put oi hsi a oj.dst u h3) (wanted_put oi a oj.dst u h3)) ht
  unfold stepU at *
  simp only [hj] at h ⊢
  split
  · rename_i hkd
    simp only [hkd, if_true] at h
    obtain ⟨u, hu, hK⟩ := h
    refine ⟨u, fun κ' hκ => ?_, keep _ u rfl, by rw [← Act.put_comm a v u h2]; exact hK⟩
    have := hu κ' hκ
    exact this.of_same (execOp_put oj hsj a oi.dst v h1).symm (wanted_put oj a oi.dst v h1).symm
  · rename_i hkd
    simp only [hkd, if_false] at h
    intro w hw
    refine wpOp_mono (fun a' w' ⟨⟨u, hu⟩, κ', hle, hc, hK⟩ => ⟨κ', hle, hc, fun κ'' hκ => ?_, hK⟩) (wpOp_swap hj hap hsj (h w hw))
    refine keep a' u hu κ'' (fun hki => ?_)
    have hj2 : kj = 2 := by omega
    exact htrans _ _ _ (hle hj2) (hκ hki)

theorem wpAnyU_first (htrans : ∀ a b c, le a b → le b c → le a c) {kd : Nat → Nat} {Post : Act → ι → Prop} {i F : Nat} {oi : Oper} {v : Value} (hi : ops[i]? = some oi) (hki : kd i ≤ 1)
    (hsel : ∀ (j : Nat) (o : Oper) cs b, ops[j]? = some o → o.op ≠ .select cs b) :
    ∀ (f : Nat) (listed : Array Bool) (a : Act) (κ : ι), Closed md ops listed →
      (∀ j oj, ops[j]? = some oj → j ≠ i → listed.getD j true = false → waitsT md ops F j i = true ∨ (oi.apart ops oj = true ∧ (kd i = 0 ∨ kd j ≤ 2))) →
      i ∈ Region.ready md ops listed → (∀ κ', (kd i = 1 → le κ κ') → YieldsIn P ops (cls κ') oi v a) →
      wpAnyU P md ops cls le kd Post f (listed.setIfInBounds i true) (a.put oi.dst v) κ → wpAnyU P md ops cls le kd Post (f + 1) listed a κ := by
  intro f
  have self : ∀ (K : Act → ι → Prop) (a : Act) (κ : ι), (∀ κ', (kd i = 1 → le κ κ') → YieldsIn P ops (cls κ') oi v a) → K (a.put oi.dst v) κ → stepU P ops cls le (kd i) i K a κ := fun K a κ hy hK => by
    unfold stepU
    simp only [hi, hki, if_true]
    exact ⟨v, hy, hK⟩
  induction f with
  | zero =>
    intro listed a κ _ _ hr hy H
    refine ⟨fun h => (by rw [h] at hr; cases hr), fun j hj => ?_⟩
    by_cases hji : j = i
    · subst hji; exact self _ _ _ hy H
    · have := ready_mono hj hji
      rw [H.1] at this
      cases this
  | succ f ih =>
    intro listed a κ hcl hfree hr hy H
    refine ⟨fun h => (by rw [h] at hr; cases hr), fun j hj => ?_⟩
    by_cases hji : j = i
    · subst hji; exact self _ _ _ hy H
    · have h1 := H.2 j (ready_mono hj hji)
      obtain ⟨hjun, oj, hoj, hall⟩ := mem_ready.1 hj
      have hiun := (mem_ready.1 hr).1
      have hap : oi.apart ops oj = true ∧ (kd i = 0 ∨ kd j ≤ 2) := by
        rcases hfree j oj hoj hji hjun with h | h
        · have := listed_of_waitsT hcl F j oj hoj hall h
          rw [getD_tf hiun] at this
          cases this
        · exact h
      have h2 := stepU_swap htrans hoj hap.1 hap.2 (fun cs b => hsel i oi cs b hi) (fun cs b => hsel j oj cs b hoj) hy h1
      refine stepU_mono (fun a' κ' h3 => ih (listed.setIfInBounds j true) a' κ' (hcl.set hj) (fun k ok hk hne hun => ?_) (ready_mono hr (Ne.symm hji)) h3.1 ?_) h2
      · refine hfree k ok hk hne ?_
        by_cases hjk : j = k
        · subst hjk; exact hjun
        · rw [getD_set_ne true hjk] at hun; exact hun
      · rw [Array.setIfInBounds_comm _ _ hji]
        exact h3.2

/-- The derivation along a canonical order. -/
def DU (P : Program) (ops : Array Oper) (cls : ι → World → Prop) (le : ι → ι → Prop) (kd : Nat → Nat) (Post : Act → ι → Prop) : List Nat → Act → ι → Prop
  | [], a, κ => Post a κ
  | i :: π, a, κ => stepU P ops cls le (kd i) i (DU P ops cls le kd Post π) a κ

def freeT (md : Region.Mode) (ops : Array Oper) (kd : Nat → Nat) (listed : Array Bool) (i : Nat) : Bool :=
  match ops[i]? with
  | none => false
  | some oi => (List.range ops.size).all fun j => j == i || listed.getD j true || match ops[j]? with
      | some oj => (oi.apart ops oj && (kd i == 0 || Nat.ble (kd j) 2)) || waitsT md ops ops.size j i
      | none => true

def simB (md : Region.Mode) (ops : Array Oper) (kd : Nat → Nat) : List Nat → Array Bool → Bool
  | [], listed => (Region.ready md ops listed).isEmpty
  | i :: π, listed => (bif Nat.ble (kd i) 1 then (Region.ready md ops listed).contains i && freeT md ops kd listed i else (Region.ready md ops listed == [i])) && simB md ops kd π (listed.setIfInBounds i true)

theorem wpAnyU_of_DU (htrans : ∀ a b c, le a b → le b c → le a c) {kd : Nat → Nat} {Post : Act → ι → Prop} (hsel : Region.noSelect ops = true) :
    ∀ (π : List Nat) (listed : Array Bool) (a : Act) (κ : ι), Closed md ops listed → simB md ops kd π listed = true → DU P ops cls le kd Post π a κ → wpAnyU P md ops cls le kd Post π.length listed a κ
  | [], listed, a, κ, _, hB, h => ⟨by simpa [simB] using hB, h⟩
  | i :: π, listed, a, κ, hcl, hB, h => by
    simp only [simB, Bool.and_eq_true] at hB
    obtain ⟨hB1, hB2⟩ := hB
    by_cases hk : kd i ≤ 1
    · have hb : Nat.ble (kd i) 1 = true := by rw [Nat.ble_eq]; exact hk
      rw [hb] at hB1
      simp only [cond_true, Bool.and_eq_true, List.contains_iff_mem] at hB1
      obtain ⟨hr, hf⟩ := hB1
      simp only [DU] at h
      unfold stepU at h
      cases ho : ops[i]? with
      | none => simp only [ho] at h
      | some o =>
        simp only [ho, hk, if_true] at h
        obtain ⟨v, hy, hK⟩ := h
        refine wpAnyU_first (F := ops.size) htrans ho hk (fun j o cs b => Region.noSelect_spec hsel j o cs b) π.length listed a κ hcl (fun j oj hj hne hun => ?_) hr hy
          (wpAnyU_of_DU htrans hsel π _ _ κ (hcl.set hr) hB2 hK)
        simp only [freeT, ho, List.all_eq_true, List.mem_range] at hf
        have := hf j (Array.getElem?_eq_some_iff.1 hj).1
        simp only [hj, Bool.or_eq_true, beq_iff_eq, hne, false_or, hun, Bool.false_eq_true, Bool.and_eq_true, Nat.ble_eq] at this
        rcases this with h1 | h1
        · exact .inr h1
        · exact .inl h1
    · have hb : Nat.ble (kd i) 1 = false := by
        cases hx : Nat.ble (kd i) 1 with
        | false => rfl
        | true => exact absurd (by rw [Nat.ble_eq] at hx; exact hx) hk
      rw [hb] at hB1
      simp only [cond_false, beq_iff_eq] at hB1
      have hmem : i ∈ Region.ready md ops listed := by rw [hB1]; simp
      refine ⟨fun h0 => (by rw [h0] at hB1; cases hB1), fun j hj => ?_⟩
      rw [hB1] at hj
      obtain rfl : j = i := by simpa using hj
      exact stepU_mono (fun a' κ' h' => wpAnyU_of_DU htrans hsel π _ a' κ' (hcl.set hmem) hB2 h') h

/-- A region that draws its order. -/
theorem wp_region_sim (hrefl : ∀ κ, le κ κ) (htrans : ∀ a b c, le a b → le b c → le a c) {kd : Nat → Nat} {Post : Act → ι → Prop} {id : Nat} {Q : Exit → Act → World → Prop} {a : Act} {w : World} {κ : ι}
    (hm : P.follows .mixedOrders = true) (hw : cls κ { w with drawn := w.drawn + 1 }) (π : List Nat)
    (hB : (Region.noSelect ops && (π.length == ops.size) && simB .any ops kd π (Array.replicate ops.size false)) = true) (h : DU P ops cls le kd Post π a κ)
    (hN : ∀ a κ w, Post a κ → cls κ w → Q .normal a w) : (Code.region id ops true).wp P Q a w := by
  simp only [Bool.and_eq_true, beq_iff_eq] at hB
  obtain ⟨⟨hs, hl⟩, hsim⟩ := hB
  refine wp_region_any hm (wpAny_Q (N := fun a w => Q .normal a w) (fun _ _ h => h) _ _ _ _ ?_)
  have h0 : Closed .any ops (Array.replicate ops.size false) := fun j oj _ hl => by
    rcases Nat.lt_or_ge j ops.size with h | h <;> simp [h] at hl
  have := wpAnyU_of_DU htrans hs π _ a κ h0 hsim h
  rw [hl] at this
  exact wpAny_of_U hrefl hN _ _ _ _ _ hw this

/-- A region in the text's order. -/
theorem wpOps_of_DU (hrefl : ∀ κ, le κ κ) {kd : Nat → Nat} {Post : Act → ι → Prop} {N : Act → World → Prop} (hN : ∀ a κ w, Post a κ → cls κ w → N a w) :
    ∀ (π : List Nat) (a : Act) (κ : ι) (w : World), cls κ w → DU P ops cls le kd Post π a κ → wpOps P ops (QN N) π a w
  | [], _, _, _, hw, h => hN _ _ _ h hw
  | i :: π, a, κ, w, hw, h => by
    rw [wpOps_cons]
    exact wpOp_of_stepU hrefl hw (fun a' κ' w' h' hw' => wpOps_of_DU hrefl hN π a' κ' w' hw' h') h

theorem wp_region_seq (hrefl : ∀ κ, le κ κ) {kd : Nat → Nat} {Post : Act → ι → Prop} {id : Nat} {Q : Exit → Act → World → Prop} {a : Act} {w : World} {κ : ι}
    (hw : cls κ w) (h : DU P ops cls le kd Post (List.range ops.size) a κ) (hN : ∀ a κ w, Post a κ → cls κ w → Q .normal a w) : (Code.region id ops false).wp P Q a w :=
  wp_region (wpOps_Q (N := fun a w => Q .normal a w) (fun _ _ h => h) _ _ _ (wpOps_of_DU hrefl hN _ _ _ _ hw h))
end
end Go.Jog
