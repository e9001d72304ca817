/- Regions that draw their order, where more than one effect can be next: a tree of orders. Program-independent. -/
import Derived.Test.YtjmfjobfmdhbfaaDoorJogK
namespace Go.Jog
open Go

/-- A tree of orders: lists of operations, and forks. -/
inductive OT where
  | fin (π : List Nat)
  | cut (π : List Nat) (t : OT)
  | alt (i : Nat) (t : OT) (r : OT)
  | stop

section
variable {P : Program} {ops : Array Oper} {ι : Type} {cls : ι → World → Prop} {le : ι → ι → Prop} {md : Region.Mode}

def DT (P : Program) (ops : Array Oper) (cls : ι → World → Prop) (le : ι → ι → Prop) (kd : Nat → Nat) (Post : Act → ι → Prop) : OT → Act → ι → Prop
  | .fin π => DU P ops cls le kd Post π
  | .cut π t => DU P ops cls le kd (DT P ops cls le kd Post t) π
  | .alt i t r => fun a κ => stepU P ops cls le (kd i) i (DT P ops cls le kd Post t) a κ ∧ DT P ops cls le kd Post r a κ
  | .stop => fun _ _ => True

def headsT : OT → List Nat
  | .alt i _ r => i :: headsT r
  | _ => []

def nodeT : OT → Bool
  | .fin _ | .cut _ _ => true
  | _ => false

def listAll : List Nat → Array Bool → Array Bool
  | [], listed => listed
  | i :: π, listed => listAll π (listed.setIfInBounds i true)

def simP (md : Region.Mode) (ops : Array Oper) (kd : Nat → Nat) : List Nat → Array Bool → Bool
  | [], _ => true
  | i :: π, listed => (bif Nat.ble (kd i) 1 then (Region.ready md ops listed).contains i && freeT md ops kd listed i else (Region.ready md ops listed == [i])) && simP md ops kd π (listed.setIfInBounds i true)

def simT (md : Region.Mode) (ops : Array Oper) (kd : Nat → Nat) : OT → Nat → Array Bool → Bool
  | .fin π, f, listed => Nat.beq π.length f && (simP md ops kd π listed && (Region.ready md ops (listAll π listed)).isEmpty)
  | .cut π t, f, listed => Nat.blt π.length f && (simP md ops kd π listed && ((Region.ready md ops (listAll π listed)).all (fun i => (headsT t).contains i) && (!(Region.ready md ops (listAll π listed)).isEmpty && simT md ops kd t (f - π.length) (listAll π listed))))
  | .alt i t r, f, listed => (Nat.blt 0 f && (nodeT t && simT md ops kd t (f - 1) (listed.setIfInBounds i true))) && simT md ops kd r f listed
  | .stop, _, _ => true

/-- A derivation along a list, and then on. -/
theorem wpAnyU_of_DUP (htrans : ∀ a b c, le a b → le b c → le a c) {kd : Nat → Nat} {Post K : Act → ι → Prop} (hsel : Region.noSelect ops = true) {f : Nat} :
    ∀ (π : List Nat) (listed : Array Bool) (a : Act) (κ : ι), Closed md ops listed → simP md ops kd π listed = true → (∀ a κ, Closed md ops (listAll π listed) → K a κ → wpAnyU P md ops cls le kd Post f (listAll π listed) a κ) →
      DU P ops cls le kd K π a κ → wpAnyU P md ops cls le kd Post (π.length + f) listed a κ
  | [], listed, a, κ, hcl, _, hK, h => by
    rw [List.length_nil, Nat.zero_add]
    exact hK a κ hcl h
  | i :: π, listed, a, κ, hcl, hB, hK, h => by
    simp only [simP, Bool.and_eq_true] at hB
    obtain ⟨hB1, hB2⟩ := hB
    rw [List.length_cons, Nat.add_right_comm]
    by_cases hk : kd i ≤ 1
    · have hb : Nat.ble (kd i) 1 = true := by rw [Nat.ble_eq]; exact hk
      rw [hb] at hB1
      simp only [cond_true, Bool.and_eq_true, List.contains_iff_mem] at hB1
      obtain ⟨hr, hf⟩ := hB1
      simp only [DU] at h
      unfold stepU at h
      cases ho : ops[i]? with
      | none => simp only [ho] at h
      | some o =>
        simp only [ho, hk, if_true] at h
        obtain ⟨v, hy, hK'⟩ := h
        refine wpAnyU_first (F := ops.size) htrans ho hk (fun j o cs b => Region.noSelect_spec hsel j o cs b) (π.length + f) listed a κ hcl (fun j oj hj hne hun => ?_) hr hy
          (wpAnyU_of_DUP htrans hsel π _ _ κ (hcl.set hr) hB2 hK hK')
        simp only [freeT, ho, List.all_eq_true, List.mem_range] at hf
        have := hf j (Array.getElem?_eq_some_iff.1 hj).1
        simp only [hj, Bool.or_eq_true, beq_iff_eq, hne, false_or, hun, Bool.false_eq_true, Bool.and_eq_true, Nat.ble_eq] at this
        rcases this with h1 | h1
        · exact .inr h1
        · exact .inl h1
    · have hb : Nat.ble (kd i) 1 = false := by
        cases hx : Nat.ble (kd i) 1 with
        | false => rfl
        | true => exact absurd (by rw [Nat.ble_eq] at hx; exact hx) hk
      rw [hb] at hB1
      simp only [cond_false, beq_iff_eq] at hB1
      have hmem : i ∈ Region.ready md ops listed := by rw [hB1]; simp
      refine ⟨fun h0 => (by rw [h0] at hB1; cases hB1), fun j hj => ?_⟩
      rw [hB1] at hj
      obtain rfl : j = i := by simpa using hj
      exact stepU_mono (fun a' κ' h' => wpAnyU_of_DUP htrans hsel π _ a' κ' (hcl.set hmem) hB2 hK h') h

theorem wpAnyU_of_DT (htrans : ∀ a b c, le a b → le b c → le a c) {kd : Nat → Nat} {Post : Act → ι → Prop} (hsel : Region.noSelect ops = true) :
    ∀ (t : OT) (f : Nat) (listed : Array Bool) (a : Act) (κ : ι), Closed md ops listed → simT md ops kd t f listed = true → DT P ops cls le kd Post t a κ →
      (match t with
        | .fin _ | .cut _ _ => wpAnyU P md ops cls le kd Post f listed a κ
        | _ => ∀ i ∈ headsT t, i ∈ Region.ready md ops listed → (∃ f', f = f' + 1 ∧ stepU P ops cls le (kd i) i (wpAnyU P md ops cls le kd Post f' (listed.setIfInBounds i true)) a κ))
  | .fin π, f, listed, a, κ, hcl, hB, h => by
    simp only [simT, Bool.and_eq_true, List.isEmpty_iff] at hB
    obtain ⟨hl, hB1, hB2⟩ := hB
    have := Nat.eq_of_beq_eq_true hl
    have h2 := wpAnyU_of_DUP (f := 0) htrans hsel π listed a κ hcl hB1 (fun a κ _ hK => ⟨hB2, hK⟩) h
    rw [Nat.add_zero, this] at h2
    exact h2
  | .cut π t, f, listed, a, κ, hcl, hB, h => by
    simp only [simT, Bool.and_eq_true, List.all_eq_true] at hB
    obtain ⟨hl, hB1, hB2, hB3, hB4⟩ := hB
    rw [Nat.blt_eq] at hl
    have hne : Region.ready md ops (listAll π listed) ≠ [] := fun e => by rw [e] at hB3; cases hB3
    have h2 := wpAnyU_of_DUP (f := f - π.length) htrans hsel π listed a κ hcl hB1 (fun a κ hcl' hK => by
      have ih := wpAnyU_of_DT htrans hsel t (f - π.length) (listAll π listed) a κ hcl' hB4 hK
      obtain ⟨f', hf'⟩ : ∃ f', f - π.length = f' + 1 := ⟨f - π.length - 1, by omega⟩
      rw [hf'] at ih ⊢
      refine ⟨fun h0 => absurd h0 hne, fun i hi => ?_⟩
      have hc := hB2 i hi
      rw [List.contains_iff_mem] at hc
      cases t with
      | fin π' => simp [headsT] at hc
      | cut π' t' => simp [headsT] at hc
      | stop => simp [headsT] at hc
      | alt j t' r' =>
        obtain ⟨f2, hf2, hs⟩ := ih i hc hi
        obtain rfl : f' = f2 := by omega
        exact hs) h
    rw [show π.length + (f - π.length) = f by omega] at h2
    exact h2
  | .alt j t r, f, listed, a, κ, hcl, hB, h => by
    simp only [simT, Bool.and_eq_true] at hB
    obtain ⟨⟨hf, hnd, hB1⟩, hB2⟩ := hB
    rw [Nat.blt_eq] at hf
    intro i hi hr
    simp only [headsT, List.mem_cons] at hi
    by_cases hij : i = j
    · subst hij
      refine ⟨f - 1, by omega, stepU_mono (fun a' κ' h' => ?_) h.1⟩
      have ih := wpAnyU_of_DT htrans hsel t (f - 1) _ a' κ' (hcl.set hr) hB1 h'
      cases t with
      | fin π' => exact ih
      | cut π' t' => exact ih
      | stop => cases hnd
      | alt j' t' r' => cases hnd
    · have h2 := hi.resolve_left hij
      have ih := wpAnyU_of_DT htrans hsel r f listed a κ hcl hB2 h.2
      cases r with
      | fin π' => simp [headsT] at h2
      | cut π' t' => simp [headsT] at h2
      | stop => simp [headsT] at h2
      | alt j' t' r' => exact ih i h2 hr
  | .stop, _, _, _, _, _, _, _ => by
    intro i hi
    simp [headsT] at hi

/-- A region that draws its order. -/
theorem wp_region_simT (hrefl : ∀ κ, le κ κ) (htrans : ∀ a b c, le a b → le b c → le a c) {kd : Nat → Nat} {Post : Act → ι → Prop} {id : Nat} {Q : Exit → Act → World → Prop} {a : Act} {w : World} {κ : ι}
    (hm : P.follows .mixedOrders = true) (hw : cls κ { w with drawn := w.drawn + 1 }) (t : OT) (hnd : nodeT t = true)
    (hB : (Region.noSelect ops && simT .any ops kd t ops.size (Array.replicate ops.size false)) = true) (h : DT P ops cls le kd Post t a κ)
    (hN : ∀ a κ w, Post a κ → cls κ w → Q .normal a w) : (Code.region id ops true).wp P Q a w := by
  simp only [Bool.and_eq_true] at hB
  obtain ⟨hs, hsim⟩ := hB
  refine wp_region_any hm (wpAny_Q (N := fun a w => Q .normal a w) (fun _ _ h => h) _ _ _ _ ?_)
  have h0 : Closed .any ops (Array.replicate ops.size false) := fun j oj _ hl => by
    rcases Nat.lt_or_ge j ops.size with h | h <;> simp [h] at hl
  have := wpAnyU_of_DT htrans hs t ops.size _ a κ h0 hsim h
  cases t with
  | fin π => exact wpAny_of_U hrefl hN _ _ _ _ _ hw this
  | cut π t => exact wpAny_of_U hrefl hN _ _ _ _ _ hw this
  | stop => cases hnd
  | alt i t r => cases hnd
end

/-! ### In the logic -/
section
variable {cx : Cx} {n : Nat} {ds : List (Option Nat)} {fr : Fr} {C : Mem} {L : List Ent}
/-- The same region, ending in a tree. -/
def RgT (P : Program) (R : Rg n ds) (t : OT) : Rg n ds := ⟨R.b, R.ops, R.kd, DT P R.ops R.b.cls kle R.kd R.Post t, R.hy⟩

/-- What a node comes to. -/
def DN (cx : Cx) (R : Rg n ds) (l : List Oper) (ov : List (Nat × Nat)) : OT → Fr → Mem → List Ent → Prop
  | .fin π => D cx R (mkIts l ov π)
  | .cut π t => D cx (RgT cx.P R t) (mkIts l ov π)
  | _ => fun _ _ _ => True
/-- What a fork comes to. -/
def DA (cx : Cx) (R : Rg n ds) (l : List Oper) (ov : List (Nat × Nat)) : OT → Fr → Mem → List Ent → Prop
  | .alt i (.fin π) r => fun fr C L => D cx R (mkIts l ov (i :: π)) fr C L ∧ DA cx R l ov r fr C L
  | .alt i (.cut π t) r => fun fr C L => D cx (RgT cx.P R t) (mkIts l ov (i :: π)) fr C L ∧ DA cx R l ov r fr C L
  | .stop => fun _ _ _ => True
  | _ => fun _ _ _ => False

def idsT (m : Nat) : OT → Bool
  | .fin π => π.all (fun i => Nat.blt i m)
  | .cut π t => π.all (fun i => Nat.blt i m) && idsT m t
  | .alt i t r => Nat.blt i m && (idsT m t && idsT m r)
  | .stop => true

theorem hits_mk {R : Rg n ds} {l : List Oper} {ov : List (Nat × Nat)} (hH : ∀ i, i < l.length → R.kd i = ovr ov i (kindOf (opAt l i)) ∧ R.ops[i]? = some (opAt l i)) {π : List Nat} (h : π.all (fun i => Nat.blt i l.length) = true) :
    ∀ x ∈ mkIts l ov π, R.kd x.1 = x.2.1 ∧ R.ops[x.1]? = some x.2.2 := fun x hx => by
  obtain ⟨h1, h2, h3⟩ := mkIts_mem hx
  have hlt := List.all_eq_true.1 h x.1 h1
  rw [Nat.blt_eq] at hlt
  have := hH x.1 hlt
  exact ⟨this.1.trans h2.symm, by rw [this.2, h3]⟩

theorem DT_of_DA {R : Rg n ds} {l : List Oper} {ov : List (Nat × Nat)} (hH : ∀ i, i < l.length → R.kd i = ovr ov i (kindOf (opAt l i)) ∧ R.ops[i]? = some (opAt l i)) (h0 : R.b.C0.le C) {a : Act} (ha : FrOk n ds fr a) :
    ∀ (t : OT), idsT l.length t = true → DA cx R l ov t fr C L → DT cx.P R.ops R.b.cls kle R.kd R.Post t a (C, L)
  | .alt i (.fin π) r, hi, h => by
    simp only [idsT, Bool.and_eq_true] at hi
    have h1 := h.1 h0 (hits_mk hH (by simp only [List.all_cons, Bool.and_eq_true]; exact ⟨hi.1, hi.2.1⟩)) a ha
    rw [mkIts_fst] at h1
    exact ⟨h1, DT_of_DA hH h0 ha r hi.2.2 h.2⟩
  | .alt i (.cut π t) r, hi, h => by
    simp only [idsT, Bool.and_eq_true] at hi
    have h1 := h.1 h0 (hits_mk (R := RgT cx.P R t) hH (by simp only [List.all_cons, Bool.and_eq_true]; exact ⟨hi.1, hi.2.1.1⟩)) a ha
    rw [mkIts_fst] at h1
    exact ⟨h1, DT_of_DA hH h0 ha r hi.2.2 h.2⟩
  | .stop, _, _ => trivial
  | .fin _, _, h => h.elim
  | .cut _ _, _, h => h.elim
  | .alt _ (.alt _ _ _) _, _, h => h.elim
  | .alt _ .stop _, _, h => h.elim

theorem D.fork {R : Rg n ds} {l : List Oper} {ov : List (Nat × Nat)} {t : OT} (hH : ∀ i, i < l.length → R.kd i = ovr ov i (kindOf (opAt l i)) ∧ R.ops[i]? = some (opAt l i)) (hi : idsT l.length t = true) (h : DA cx R l ov t fr C L) : D cx (RgT cx.P R t) [] fr C L :=
  fun h0 _ _ ha => DT_of_DA hH h0 ha t hi h
end

section
variable {F : Fx} {k : List KI} {fr : Fr} {C : Mem} {L : List Ent}
theorem G.drawT {id : Nat} {l : List Oper} (t : OT) (ov : List (Nat × Nat)) (hp : fr.all (fun x => x.2.1.isEmpty) = true) (hnd : nodeT t = true)
    (hB : ((Region.noSelect l.toArray && simT .any l.toArray (fun i => ovr ov i (kindOf (opAt l i))) t l.toArray.size (Array.replicate l.toArray.size false)) && idsT l.length t) = true)
    (h : ∀ R : Rg F.n (l.map (·.dst)), C.le R.b.C0 → (∀ fr C L, fr.all (fun x => x.2.1.isEmpty) = true → G F (norm 64 k) .normal fr C L → D F.cx R [] fr C L) →
      (∀ i, i < l.length → R.kd i = ovr ov i (kindOf (opAt l i)) ∧ R.ops[i]? = some (opAt l i)) → DN F.cx R l ov t fr C L) :
    G F (.code (.region id l.toArray true) :: k) .normal fr C L := fun h0 a w ha hw => by
  simp only [Kq]
  rw [Bool.and_eq_true] at hB
  let kd := fun i => ovr ov i (kindOf (opAt l i))
  let b : Bs := ⟨F.b.w0, C, F.b.L0⟩
  let Post : Act → Mem × List Ent → Prop := fun a κ => ∀ w, b.cls κ w → Kq F k .normal a w
  let R : Rg F.n (l.map (·.dst)) := ⟨b, l.toArray, kd, Post, fun tmps => yielded_eq l tmps⟩
  have un : ∀ κ w, b.cls κ w → F.b.cls κ w := fun κ w hc => St.unbase h0 hw.cn hc
  have hH : ∀ i, i < l.length → R.kd i = ovr ov i (kindOf (opAt l i)) ∧ R.ops[i]? = some (opAt l i) := fun i hi => ⟨rfl, by
    show (l.toArray)[i]? = _
    rw [List.getElem?_toArray, opAt_spec hi]⟩
  have hD := h R (Mem.le.refl _) (fun fr C' L hp hG h0' _ a ha w hw => G.norm_ 64 hG (h0.trans h0') a w ⟨ha.size, ha.defers, fun s g v hg => by
    have hm := List.all_eq_true.1 hp _ (Fr.get_mem hg)
    simp only [List.isEmpty_iff] at hm
    subst hm
    exact ⟨fun _ => (ha.ent s [] v hg).1 (fun p hp => by cases hp), fun hn => absurd (fun p hp => by cases hp) hn⟩⟩ (un _ _ hw)) hH
  have hT : DT F.cx.P l.toArray b.cls kle kd Post t a (C, L) := by
    cases t with
    | fin π =>
      have h1 := hD (Mem.le.refl _) (hits_mk hH hB.2) a (ha.enter _ hp)
      rw [mkIts_fst] at h1
      exact h1
    | cut π t =>
      have hi := hB.2
      simp only [idsT, Bool.and_eq_true] at hi
      have h1 := hD (Mem.le.refl _) (hits_mk (R := RgT F.cx.P R t) hH hi.1) a (ha.enter _ hp)
      rw [mkIts_fst] at h1
      exact h1
    | stop => cases hnd
    | alt i t r => cases hnd
  exact wp_region_simT (cls := b.cls) (le := kle) kle.refl kle.trans F.cx.mixed (St.rebase (St.drew hw)) t hnd hB.1 hT (fun a κ w hP hw => hP w hw)

/-- What comes behind a fork's ends is said once. -/
theorem G.share1 {ds : List (Option Nat)} {R : Rg F.n ds} {l : List Oper} {ov : List (Nat × Nat)} {t : OT} {fr0 : Fr} {C0 : Mem} {L0 : List Ent} (_ : ∀ fr C L, fr.all (fun x => x.2.1.isEmpty) = true → G F k .normal fr C L → D F.cx R [] fr C L) (fr : Nat → Fr) (L : Nat → List Ent)
    (body : (∀ b1, G F k .normal (fr b1) C0 (L b1)) → DN F.cx R l ov t fr0 C0 L0) (h : ∀ b1, G F k .normal (fr b1) C0 (L b1)) : DN F.cx R l ov t fr0 C0 L0 := body h
theorem G.share2 {ds : List (Option Nat)} {R : Rg F.n ds} {l : List Oper} {ov : List (Nat × Nat)} {t : OT} {fr0 : Fr} {C0 : Mem} {L0 : List Ent} (_ : ∀ fr C L, fr.all (fun x => x.2.1.isEmpty) = true → G F k .normal fr C L → D F.cx R [] fr C L) (fr : Nat → Nat → Fr) (L : Nat → Nat → List Ent)
    (body : (∀ b1 b2, G F k .normal (fr b1 b2) C0 (L b1 b2)) → DN F.cx R l ov t fr0 C0 L0) (h : ∀ b1 b2, G F k .normal (fr b1 b2) C0 (L b1 b2)) : DN F.cx R l ov t fr0 C0 L0 := body h
theorem G.share3 {ds : List (Option Nat)} {R : Rg F.n ds} {l : List Oper} {ov : List (Nat × Nat)} {t : OT} {fr0 : Fr} {C0 : Mem} {L0 : List Ent} (_ : ∀ fr C L, fr.all (fun x => x.2.1.isEmpty) = true → G F k .normal fr C L → D F.cx R [] fr C L) (fr : Nat → Nat → Nat → Fr) (L : Nat → Nat → Nat → List Ent)
    (body : (∀ b1 b2 b3, G F k .normal (fr b1 b2 b3) C0 (L b1 b2 b3)) → DN F.cx R l ov t fr0 C0 L0) (h : ∀ b1 b2 b3, G F k .normal (fr b1 b2 b3) C0 (L b1 b2 b3)) : DN F.cx R l ov t fr0 C0 L0 := body h
end
end Go.Jog
