/- Rules: literals of structs and arrays, equality of structs, slices of slices, strings, own rows. Program-independent. -/
import Derived.Test.YtjmfjobfmdhbfaaDoorJogH
import Derived.Laws.StructEq
import Derived.Laws.Tables
import Derived.Laws.BytesString
import Derived.Laws.Cover3
namespace Go.Jog
open Go

/-! ### Literals -/
def fillL (place : Nat → Option (Nat × Nat)) (cs : List Value) : List (Nat × Value) → Option (List Value)
  | [] => some cs
  | (i, v) :: r => match place i with
    | some (off, size) => bif Nat.beq (rowOf v).length size && Nat.ble (off + size) cs.length then fillL place (storeInto cs (rowOf v) off) r else none
    | none => none

theorem storeInto_length {cs vs : List Value} {off : Nat} (h : off + vs.length ≤ cs.length) : (storeInto cs vs off).length = cs.length := by unfold storeInto; simp; omega

theorem fill_eq {place : Nat → Option (Nat × Nat)} : ∀ {ps : List (Nat × Value)} {cs cs' : List Value}, fillL place cs ps = some cs' → Instr.fill place ⟨cs⟩ ps = some ⟨cs'⟩
  | [], cs, cs', h => by simp [fillL] at h; subst h; simp [Instr.fill]
  | (i, v) :: r, cs, cs', h => by
    simp only [fillL] at h
    split at h
    · rename_i off size hp
      cases hb : Nat.beq (rowOf v).length size && Nat.ble (off + size) cs.length with
      | false => rw [hb] at h; cases h
      | true =>
        rw [hb] at h
        simp only [cond_true] at h
        rw [Bool.and_eq_true] at hb
        have h1 := Nat.eq_of_beq_eq_true hb.1
        have h2 : off + size ≤ cs.length := by have := hb.2; rwa [Nat.ble_eq] at this
        have hc : v.cells.toList = rowOf v := rowOf_cells v
        have hs : v.cells.size = size := by rw [← h1, ← hc]; simp
        simp only [Instr.fill, hp]
        have hno : ¬ (v.cells.size ≠ size || decide (off + v.cells.size > (⟨cs⟩ : Array Value).size)) = true := by simp [hs]; omega
        rw [if_neg (by simpa using hno)]
        have hf := foldl_set [] off v.cells.toList 0 ⟨cs⟩ (by simp [hs]; omega)
        simp only [Nat.add_zero, Array.length_toList] at hf
        have hz : (v.cells.zipIdx.foldl (fun (cs : Array Value) (c, j_1) => cs.setIfInBounds (off + j_1) c) (⟨cs⟩ : Array Value)) = (⟨storeInto cs (rowOf v) off⟩ : Array Value) := by
          apply Array.ext'
          rw [← Array.foldl_toList, Array.toList_zipIdx]
          rw [hf]
          unfold storeInto
          rw [← hc]; simp
        rw [hz]
        exact fill_eq h
    · cases h

def placesO (T : Tab) : List (Nat × Nat) → Option (List (Nat × Nat))
  | [] => some []
  | (ty, off) :: r => match T.get ty, placesO T r with
    | some i, some ps => some ((off, i.size) :: ps)
    | _, _ => none

theorem placesO_spec {T : Tab} {P : Program} (hT : tabB P T = true) : ∀ {fs : List Field} {ps : List (Nat × Nat)}, placesO T (fs.map fun f => (f.type, f.offset)) = some ps → fs.mapM (fun f => (P.info? f.type).map fun i => (f.offset, i.size)) = some ps
  | [], ps, h => by simp [placesO] at h; subst h; rfl
  | f :: fs, ps, h => by
    simp only [List.map_cons, placesO] at h
    split at h
    · rename_i i ps' hi hps
      cases h
      obtain ⟨inf, h1, h2, _⟩ := (tab_ok hT hi).info
      have := placesO_spec hT hps
      simp [List.mapM_cons, h1, this, h2]
    · cases h

/-- The cells of a literal of this type. -/
def litO (T : Tab) (t : Nat) (parts : List (Nat × Value)) : Option (List Value) := match T.get t with
  | some ⟨.struct fs, _, _, z, _⟩ => match placesO T fs with
    | some ps => fillL (ps[·]?) (z.map Zv.val) parts
    | none => none
  | some ⟨.arr _ e, _, _, z, _⟩ => match T.get e with
    | some i => fillL (fun j => some (j * i.size, i.size)) (z.map Zv.val) parts
    | none => none
  | _ => none

theorem litO_spec {T : Tab} {P : Program} (hT : tabB P T = true) {t : Nat} {parts : List (Nat × Value)} {cs : List Value} (h : litO T t parts = some cs) : P.built t parts = some ⟨cs⟩ := by
  unfold litO at h
  split at h
  · rename_i fs s b z g ht
    obtain ⟨fields, hu, hfs⟩ := und_struct hT ht
    obtain ⟨inf, h1, h2, _, h4, h5⟩ := (tab_ok hT ht).info
    split at h
    · rename_i ps hps
      subst hfs
      have hp := placesO_spec hT hps
      unfold Program.built
      simp only [h1, hu, h4, hp]
      have := fill_eq h
      have e : (fun x : Nat => (ps.toArray[x]? : Option (Nat × Nat))) = (fun x : Nat => ps[x]?) := by funext x; simp
      simp only at h5
      rw [e, h5]; exact this
    · cases h
  · rename_i m e s b z g ht
    have hu := und_arr hT ht
    obtain ⟨inf, h1, h2, _, h4, h5⟩ := (tab_ok hT ht).info
    split at h
    · rename_i i hi
      obtain ⟨ife, h6, h7, _⟩ := (tab_ok hT hi).info
      unfold Program.built
      simp only [h1, hu, h4, h6, h7]
      have := fill_eq h
      simp only at h5
      rw [h5]; exact this
    · cases h
  · cases h

def partsV (ρ : Operand → Option Value) : List (Nat × Operand) → Option (List (Nat × Value))
  | [] => some []
  | (j, x) :: r => match ρ x, partsV ρ r with
    | some v, some vs => some ((j, v) :: vs)
    | _, _ => none

theorem partsV_spec {ρ : Operand → Option Value} {ρ' : Operand → Value} (hρ : ∀ x v, ρ x = some v → ρ' x = v) : ∀ {ps : List (Nat × Operand)} {vs : List (Nat × Value)}, partsV ρ ps = some vs → ps.map (fun (i, x) => (i, ρ' x)) = vs
  | [], vs, h => by simp [partsV] at h; subst h; rfl
  | (j, x) :: r, vs, h => by
    simp only [partsV] at h
    split at h
    · rename_i v vs' h1 h2
      cases h
      simp only [List.map_cons, hρ x v h1, partsV_spec hρ h2]
    · cases h

/-! ### Equality of structs of plain fields -/
def scal : Value → Value → Option Bool
  | .int k a, .int k' b => bif k == k' then some (a == b) else none
  | .string a, .string b => some (a.data.toList == b.data.toList)
  | .bool a, .bool b => some (a == b)
  | _, _ => none

def eqRow : List Value → List Value → Option Bool
  | [], [] => some true
  | x :: xs, y :: ys => match scal x y, eqRow xs ys with
    | some a, some b => some (a && b)
    | _, _ => none
  | _, _ => none

def plainD : TypeDesc → Bool
  | .int _ | .bool | .string => true
  | _ => false

def flatF (P : Program) : List Field → Nat → Bool
  | [], _ => true
  | f :: fs, i => Nat.beq f.offset i && (f.name != "_") && (match P.underlying f.type with | some d => plainD d | none => false) && flatF P fs (i + 1)

def flatEq (P : Program) (t : Nat) : Bool := match P.underlying t with
  | some (.struct fs) => flatF P fs.toList 0 && !(P.stoodInHeld t) && !(P.eqGuardType P.depth t)
  | _ => false

theorem run_isAgg_plain {P : Program} {t : TypeId} {d : TypeDesc} (h : P.underlying t = some d) (hd : plainD d = true) (w : World) : (isAgg t).run P w = .ok false w := by
  unfold isAgg
  simp only [Sem.run_bind, run_underlying h, Result.andThen_ok]
  cases d <;> first | rfl | cases hd

theorem run_part1 {P : Program} {t : TypeId} {d : TypeDesc} (h : P.underlying t = some d) (hd : plainD d = true) {cs : List Value} {off : Nat} {v : Value} (hv : cs[off]? = some v) (w : World) : (part t ⟨cs⟩ off).run P w = .ok v w := by
  unfold part
  simp only [Sem.run_bind, run_isAgg_plain h hd w, Result.andThen_ok]
  simp [hv]

def fitOne : Option TypeDesc → Value → Bool
  | some (.int _), .int _ _ => true
  | some .string, .string _ => true
  | some .bool, .bool _ => true
  | _, _ => false

theorem run_scal {P : Program} {t : TypeId} {x y : Value} {b : Bool} (hs : scal x y = some b) (m : Nat) (w : World) (hm : fitOne (P.underlying t) x = true) : (Op.equalIn (m + 1) t x y).run P w = .ok b w := by
  unfold fitOne at hm
  split at hm
  · rename_i q k a hu
    unfold scal at hs
    cases y <;> try (simp at hs; done)
    rename_i k' c
    simp only at hs
    by_cases hk : k = k'
    · subst hk
      simp only [beq_self_eq_true, cond_true, Option.some.injEq] at hs
      subst hs
      exact run_equalIn_int w m t k q a c hu
    · rw [beq_eq_false_iff_ne.2 hk] at hs; cases hs
  · rename_i a hu
    unfold scal at hs
    cases y <;> try (simp at hs; done)
    rename_i c
    simp only [Option.some.injEq] at hs
    subst hs
    have := run_equalIn_string (P := P) w m t a c hu
    simpa [toList_eq] using this
  · rename_i a hu
    unfold scal at hs
    cases y <;> try (simp at hs; done)
    simp only [Option.some.injEq] at hs
    subst hs
    exact run_equalIn_bool w m t _ _ hu
  · cases hm

/-- The cells fit the fields. -/
def fitF (P : Program) : List Field → List Value → Bool
  | [], [] => true
  | f :: fs, x :: xs => fitOne (P.underlying f.type) x && fitF P fs xs
  | _, _ => false
def fitB (P : Program) (t : Nat) (xs : List Value) : Bool := match P.underlying t with
  | some (.struct fs) => fitF P fs.toList xs
  | _ => false

theorem run_eqFields_flat {P : Program} (m : Nat) (w : World) : ∀ {fs : List Field} {i : Nat} {xs ys X Y : List Value} {b : Bool}, flatF P fs i = true → fitF P fs xs = true → eqRow xs ys = some b → X.drop i = xs → Y.drop i = ys →
    (Op.eqFields (m + 1) ⟨X⟩ ⟨Y⟩ fs).run P w = .ok b w
  | [], i, xs, ys, X, Y, b, _, hf, he, _, _ => by
    cases xs with
    | nil =>
      cases ys with
      | nil => simp [eqRow] at he; subst he; simp [Op.eqFields]
      | cons => simp [eqRow] at he
    | cons => simp [fitF] at hf
  | f :: fs, i, xs, ys, X, Y, b, hfl, hf, he, hX, hY => by
    cases xs with
    | nil => simp [fitF] at hf
    | cons x xs =>
      cases ys with
      | nil => simp [eqRow] at he
      | cons y ys =>
        simp only [flatF, Bool.and_eq_true] at hfl
        obtain ⟨⟨⟨h1, h2⟩, h3⟩, h4⟩ := hfl
        obtain rfl := Nat.eq_of_beq_eq_true h1
        simp only [fitF, Bool.and_eq_true] at hf
        simp only [eqRow] at he
        split at he
        · rename_i p q hp hq
          cases he
          have hx : X[f.offset]? = some x := by
            have := congrArg (·[0]?) hX
            simpa using this
          have hy : Y[f.offset]? = some y := by
            have := congrArg (·[0]?) hY
            simpa using this
          have hX' : X.drop (f.offset + 1) = xs := by
            have := congrArg (List.drop 1) hX
            simpa using this
          have hY' : Y.drop (f.offset + 1) = ys := by
            have := congrArg (List.drop 1) hY
            simpa using this
          cases hu : P.underlying f.type with
          | none => rw [hu] at h3; cases h3
          | some d =>
            rw [hu] at h3
            have hn : f.name ≠ "_" := by simpa using h2
            have hr := run_scal hp m w hf.1
            have ih := run_eqFields_flat m w h4 hf.2 hq hX' hY'
            simp only [Op.eqFields, hn, ne_eq, not_false_eq_true, if_true, Sem.run_bind, run_part1 hu h3 hx w, run_part1 hu h3 hy w, hr, Result.andThen_ok]
            cases p
            · simp
            · simpa using ih
        · cases he

theorem run_eq_flat {P : Program} {t : Nat} (ht : flatEq P t = true) {xs ys : List Value} (hf : fitB P t xs = true) {b : Bool} (he : eqRow xs ys = some b) (w : World) : (Op.equalIn 10000 t (.agg ⟨xs⟩) (.agg ⟨ys⟩)).run P w = .ok b w := by
  unfold flatEq at ht
  split at ht
  · rename_i fs hu
    simp only [Bool.and_eq_true, Bool.not_eq_true'] at ht
    have hfs : P.fieldsOf t = fs := by simp [Program.fieldsOf, hu]
    rw [run_equalIn_struct w 9999 t _ _ (by rw [hfs]; exact hu) ht.1.2, hfs]
    unfold fitB at hf
    rw [hu] at hf
    exact run_eqFields_flat 9998 w ht.1.1 hf he rfl rfl
  · cases ht

section
variable {cx : Cx} {n : Nat} {ds : List (Option Nat)} {R : Rg n ds} {its : List It} {fr : Fr} {C : Mem} {L : List Ent} {i k d : Nat} {o : Oper} {g : GL} {v : Value}

theorem exec_binOp' {a : Act} {o : Oper} {op : BinOp} {t ty : Nat} {x y : Operand} (hop : o.op = .binOp op t x y ty) :
    execOp a.eval o = ((eqGuard op t x y (a.eval x) (a.eval y) >>= fun _ => binOp op t (a.eval x) (a.eval y)) >>= fun r => Pure.pure (.value r)) := by
  obtain ⟨dst, op', ty', pos, after, guard⟩ := o
  simp only at hop
  subst hop
  rfl

theorem flatEq_guard {P : Program} {t : Nat} (ht : flatEq P t = true) : P.eqGuardType P.depth t = false := by
  unfold flatEq at ht
  split at ht
  · simp only [Bool.and_eq_true, Bool.not_eq_true'] at ht
    exact ht.2
  · cases ht

/-- A literal of a struct or an array. -/
theorem D.build {t : Nat} {parts : Array (Nat × Operand)} {vs : List (Nat × Value)} (cs : List Value) (hk : Nat.ble k 1 = true) (hd : o.dst = some d) (hop : o.op = .build t parts) (hg : gOf ds fr o.guard = some g)
    (hvs : partsV (ev fr g) parts.toList = some vs) (hc : litO cx.T t vs = some cs)
    (hp : okPut n ds ((d, g, .agg ⟨cs⟩) :: fr) d = true) (hwf : wfG ds fr g = true)
    (h : D cx R its ((d, g, .agg ⟨cs⟩) :: fr) C L) : D cx R ((i, k, o) :: its) fr C L :=
  D.run _ hk hd hg (fun _ a hs w => by
    have e1 : execOp a.eval o = (do Pure.pure (.value (← Instr.build t (parts.map fun (i, x) => (i, a.eval x)))) : Sem Next) := by unfold execOp; rw [hop]
    have e2 : (parts.map fun (i, x) => (i, a.eval x)).toList = vs := by rw [Array.toList_map]; exact partsV_spec (fun x v hx => hs x v hx) hvs
    rw [e1]
    simp only [Sem.run_bind, run_build w t _ _ (by rw [e2]; exact litO_spec cx.hT hc), Result.andThen_ok, Sem.run_pure]) hp hwf h

/-- Two structs of plain fields are compared. -/
theorem D.eqAgg (b : Bool) {t ty : Nat} {x y : Operand} {xs ys : List Value} {b' : Bool} (ht : flatEq cx.P t = true) (hk : Nat.ble k 1 = true) (hd : o.dst = some d) (hop : o.op = .binOp .eql t x y ty) (hg : gOf ds fr o.guard = some g)
    (hx : ev fr g x = some (.agg ⟨xs⟩)) (hy : ev fr g y = some (.agg ⟨ys⟩)) (hf : fitB cx.P t xs = true) (he : eqRow xs ys = some b') (hb : GT ds fr g → b' = b)
    (hp : okPut n ds ((d, g, .bool b) :: fr) d = true) (hwf : wfG ds fr g = true)
    (h : D cx R its ((d, g, .bool b) :: fr) C L) : D cx R ((i, k, o) :: its) fr C L :=
  D.run _ hk hd hg (fun hG a hs w => by
    rw [exec_binOp' hop, hs _ _ hx, hs _ _ hy, ← hb hG]
    simp only [Sem.run_bind, run_eqGuard_agg w .eql t x y _ _ (flatEq_guard ht), Result.andThen_ok, run_eql_struct, run_eq_flat ht hf he w, Sem.run_pure]) hp hwf h
theorem D.neAgg (b : Bool) {t ty : Nat} {x y : Operand} {xs ys : List Value} {b' : Bool} (ht : flatEq cx.P t = true) (hk : Nat.ble k 1 = true) (hd : o.dst = some d) (hop : o.op = .binOp .neq t x y ty) (hg : gOf ds fr o.guard = some g)
    (hx : ev fr g x = some (.agg ⟨xs⟩)) (hy : ev fr g y = some (.agg ⟨ys⟩)) (hf : fitB cx.P t xs = true) (he : eqRow xs ys = some b') (hb : GT ds fr g → (!b') = b)
    (hp : okPut n ds ((d, g, .bool b) :: fr) d = true) (hwf : wfG ds fr g = true)
    (h : D cx R its ((d, g, .bool b) :: fr) C L) : D cx R ((i, k, o) :: its) fr C L :=
  D.run _ hk hd hg (fun hG a hs w => by
    rw [exec_binOp' hop, hs _ _ hx, hs _ _ hy, ← hb hG]
    simp only [Sem.run_bind, run_eqGuard_agg w .neq t x y _ _ (flatEq_guard ht), Result.andThen_ok, run_neq_struct, run_eq_flat ht hf he w, Sem.run_pure]) hp hwf h

/-- A slice, a map or a function against nil. -/
theorem D.nilEq {t e ty : Nat} {x : Operand} {A : Option Addr} {m c : Nat} {ti : TI} (hk : Nat.ble k 1 = true) (hd : o.dst = some d) (hop : o.op = .binOp .eql t x (.const (.slice none 0 0)) ty) (hg : gOf ds fr o.guard = some g)
    (hx : ev fr g x = some (.slice A m c)) (ht : cx.T.get t = some ti) (hte : ti.k = .slice e)
    (hp : okPut n ds ((d, g, .bool A.isNone) :: fr) d = true) (hwf : wfG ds fr g = true)
    (h : D cx R its ((d, g, .bool A.isNone) :: fr) C L) : D cx R ((i, k, o) :: its) fr C L := by
  have hu : cx.P.underlying t = some (.slice e) := by
    obtain ⟨kk, s1, b1, z1, g1⟩ := ti
    simp only at hte
    subst hte
    exact und_slice cx.hT ht
  refine D.run _ hk hd hg (fun _ a hs w => ?_) hp hwf h
  rw [exec_binOp hop (hs _ _ hx) rfl (fun _ _ => .inl (by simp)) (.inl (by simp)) w]
  simp only [binOp]
  simp only [Act.eval, Sem.run_bind, run_equal_slice_nil w t e A m c hu, Result.andThen_ok, Sem.run_pure]
theorem D.nilNe {t e ty : Nat} {x : Operand} {A : Option Addr} {m c : Nat} {ti : TI} (hk : Nat.ble k 1 = true) (hd : o.dst = some d) (hop : o.op = .binOp .neq t x (.const (.slice none 0 0)) ty) (hg : gOf ds fr o.guard = some g)
    (hx : ev fr g x = some (.slice A m c)) (ht : cx.T.get t = some ti) (hte : ti.k = .slice e)
    (hp : okPut n ds ((d, g, .bool (!A.isNone)) :: fr) d = true) (hwf : wfG ds fr g = true)
    (h : D cx R its ((d, g, .bool (!A.isNone)) :: fr) C L) : D cx R ((i, k, o) :: its) fr C L := by
  have hu : cx.P.underlying t = some (.slice e) := by
    obtain ⟨kk, s1, b1, z1, g1⟩ := ti
    simp only at hte
    subst hte
    exact und_slice cx.hT ht
  refine D.run _ hk hd hg (fun _ a hs w => ?_) hp hwf h
  rw [exec_binOp hop (hs _ _ hx) rfl (fun _ _ => .inl (by simp)) (.inl (by simp)) w]
  simp only [binOp]
  simp only [Act.eval, Sem.run_bind, run_equal_slice_nil w t e A m c hu, Result.andThen_ok, Sem.run_pure]

/-- Integer operations of any kind, with the wrapping settled. -/
theorem D.int {ki : IntKind} (c : Int) {e : Int} (hk : Nat.ble k 1 = true) (hd : o.dst = some d) (hg : gOf ds fr o.guard = some g) (hv : po cx.T (ev fr g) o.op = some (.int ki (ki.wrap e))) (he : ki.wrap e = c)
    (hp : okPut n ds ((d, g, .int ki c) :: fr) d = true) (hwf : wfG ds fr g = true)
    (h : D cx R its ((d, g, .int ki c) :: fr) C L) : D cx R ((i, k, o) :: its) fr C L := by
  subst he
  exact D.pure hk hd hg hv hp hwf h

theorem mk_append (a b : List UInt8) : (⟨a.toArray⟩ : ByteArray) ++ ⟨b.toArray⟩ = ⟨(a ++ b).toArray⟩ := by
  apply ByteArray.ext
  simp [ByteArray.data_append]

/-- Strings put together. -/
theorem D.concat {t ty : Nat} {x y : Operand} {a b : List UInt8} (hk : Nat.ble k 1 = true) (hd : o.dst = some d) (hop : o.op = .binOp .add t x y ty) (hg : gOf ds fr o.guard = some g)
    (hx : ev fr g x = some (.string ⟨a.toArray⟩)) (hy : ev fr g y = some (.string ⟨b.toArray⟩)) (hl : GT ds fr g → a.length + b.length ≤ 9223372036854775807)
    (hp : okPut n ds ((d, g, .string ⟨(a ++ b).toArray⟩) :: fr) d = true) (hwf : wfG ds fr g = true)
    (h : D cx R its ((d, g, .string ⟨(a ++ b).toArray⟩) :: fr) C L) : D cx R ((i, k, o) :: its) fr C L :=
  D.run _ hk hd hg (fun hG c hs w => by
    rw [exec_binOp hop (hs _ _ hx) (hs _ _ hy) (fun _ _ => .inl (by simp)) (.inl (by simp)) w]
    have h1 := hl hG
    have h2 : ¬ (((⟨a.toArray⟩ : ByteArray).size + (⟨b.toArray⟩ : ByteArray).size : Nat) : Int) > IntKind.i64.max := by
      have e : IntKind.i64.max = 9223372036854775807 := by decide
      rw [e]; simp [ByteArray.size]; omega
    simp only [binOp, Op.stringOp]
    rw [if_neg h2, mk_append]
    rfl) hp hwf h

theorem run_sliceBound {P : Program} {ki : IntKind} {m : Int} {y : Nat} {code : BoundsCode} (h0 : 0 ≤ m) (h1 : m ≤ y) (w : World) : (Instr.sliceBound (.int ki m) y code).run P w = .ok m.toNat w := by
  simp [Instr.sliceBound, asIntOf, h0, h1]

/-- The bounds of a slice expression, of a slice of this length and capacity. -/
def boundO (cap : Nat) : Option Value → Option Nat
  | none => some cap
  | some (.int _ m) => some m.toNat
  | _ => none
structure SlB (len cap : Nat) (lo hi mx : Option Value) (l h m : Nat) : Prop where
  plo : (lo = none ∧ l = 0) ∨ ∃ k, lo = some (.int k l)
  phi : (hi = none ∧ h = len) ∨ ∃ k, hi = some (.int k h)
  pmx : (mx = none ∧ m = cap) ∨ (∃ k, mx = some (.int k m)) ∧ hi ≠ none
  lh : l ≤ h
  hm : h ≤ m
  mc : m ≤ cap

theorem run_sliceBounds {P : Program} {b : Bool} {len cap : Nat} {lo hi mx : Option Value} {l h m : Nat} (q : SlB len cap lo hi mx l h m) (w : World) : (Instr.sliceBounds b len cap lo hi mx).run P w = .ok (l, h, m) w := by
  obtain ⟨q1, q2, q3, q4, q5, q6⟩ := q
  unfold Instr.sliceBounds
  have hb : ∀ (k : IntKind) (x y : Nat) (code : BoundsCode), x ≤ y → (Instr.sliceBound (.int k x) y code).run P w = .ok x w := fun k x y code hxy => by
    have := run_sliceBound (P := P) (ki := k) (m := (x : Int)) (y := y) (code := code) (by omega) (by omega) w
    simpa using this
  rcases q3 with ⟨rfl, rfl⟩ | ⟨⟨k3, rfl⟩, hne⟩
  · rcases q2 with ⟨rfl, rfl⟩ | ⟨k2, rfl⟩
    · rcases q1 with ⟨rfl, rfl⟩ | ⟨k1, rfl⟩
      · simp
      · simp [hb _ _ _ _ q4]
    · rcases q1 with ⟨rfl, rfl⟩ | ⟨k1, rfl⟩
      · simp [hb _ _ _ _ q5]
      · simp [hb _ _ _ _ q4, hb _ _ _ _ q5]
  · rcases q2 with ⟨rfl, rfl⟩ | ⟨k2, rfl⟩
    · exact absurd rfl hne
    · rcases q1 with ⟨rfl, rfl⟩ | ⟨k1, rfl⟩
      · simp [hb _ _ _ _ q5, hb _ _ _ _ q6]
      · simp [hb _ _ _ _ q4, hb _ _ _ _ q5, hb _ _ _ _ q6]

def optO (ρ : Operand → Option Value) : Option Operand → Option (Option Value)
  | none => some none
  | some x => match ρ x with | some v => some (some v) | none => none
theorem optO_spec {ρ : Operand → Option Value} {ρ' : Operand → Value} (hρ : ∀ x v, ρ x = some v → ρ' x = v) : ∀ {x : Option Operand} {v : Option Value}, optO ρ x = some v → x.map ρ' = v
  | none, v, h => by simp [optO] at h; subst h; rfl
  | some x, v, h => by
    simp only [optO] at h
    split at h
    · rename_i u hu; cases h; simp [hρ x u hu]
    · cases h

/-- A slice expression over a slice. -/
theorem D.sliceV (l h m : Nat) {t e len cap size : Nat} {x : Operand} {lo hi mx : Option Operand} {lv hv mv : Option Value} {A : Option Addr} {ti te : TI} (hk : Nat.ble k 1 = true) (hd : o.dst = some d) (hop : o.op = .slice t x lo hi mx)
    (hg : gOf ds fr o.guard = some g) (hx : ev fr g x = some (.slice A len cap)) (hlo : optO (ev fr g) lo = some lv) (hhi : optO (ev fr g) hi = some hv) (hmx : optO (ev fr g) mx = some mv)
    (ht : cx.T.get t = some ti) (hte : ti.k = .slice e) (he : cx.T.get e = some te) (hsz : te.size = size) (hq : GT ds fr g → SlB len cap lv hv mv l h m)
    (hp : okPut n ds ((d, g, .slice (if m = l then A else A.map (·.add (l * size))) (h - l) (m - l)) :: fr) d = true) (hwf : wfG ds fr g = true)
    (hh : D cx R its ((d, g, .slice (if m = l then A else A.map (·.add (l * size))) (h - l) (m - l)) :: fr) C L) : D cx R ((i, k, o) :: its) fr C L := by
  have hu : cx.P.underlying t = some (.slice e) := by
    obtain ⟨kk, s1, b1, z1, g1⟩ := ti
    simp only at hte
    subst hte
    exact und_slice cx.hT ht
  refine D.run _ hk hd hg (fun hG a hs w => ?_) hp hwf hh
  have e1 : execOp a.eval o = (do Pure.pure (.value (← Instr.sliceAt t (a.eval x) (lo.map a.eval) (hi.map a.eval) (mx.map a.eval))) : Sem Next) := by unfold execOp; rw [hop]
  rw [e1, hs _ _ hx, optO_spec (fun x v hx => hs x v hx) hlo, optO_spec (fun x v hx => hs x v hx) hhi, optO_spec (fun x v hx => hs x v hx) hmx]
  have h2 := size_of cx.hT he w
  rw [hsz] at h2
  simp [Instr.sliceAt, Instr.slice, run_underlying hu, run_sliceBounds (hq hG), h2]

/-- A slice expression over a slice that nobody writes. -/
theorem Sl.sub {C : Mem} {k : Nat} {A : Option Addr} {len cap : Nat} {xs : List (List Value)} (hs : Sl C k (.slice A len cap) xs) {l h m : Nat} (hl : l ≤ h) (hh : h ≤ xs.length) (hm : h ≤ m) (hc : m ≤ cap) :
    Sl C k (.slice (if m = l then A else A.map (·.add (l * k))) (h - l) (m - l)) ((xs.take h).drop l) := by
  obtain ⟨A', c, h1, h2, h3, h4, h5⟩ := hs
  cases h1
  refine ⟨if m = l then A else A.map (·.add (l * k)), m - l, ?_, by simp; omega, by omega, fun x hx => h4 x (List.mem_of_mem_take (List.mem_of_mem_drop hx)), fun i x hi => ?_⟩
  · congr 1
    simp; omega
  · rw [List.getElem?_drop, List.getElem?_take] at hi
    split at hi
    · rename_i hlt
      obtain ⟨a, e1, e2, e3⟩ := h5 _ _ hi
      subst e1
      by_cases hml : m = l
      · omega
      · rw [if_neg hml]
        refine ⟨a.add (l * k), rfl, spot_add a _ e2, fun j v hj => ?_⟩
        rw [add_add a _ _ e2]
        have := e3 j v hj
        have e : l * k + (i * k + j) = (l + i) * k + j := by rw [Nat.add_mul]; omega
        rw [e]; exact this
    · cases hi

/-- An element of an array value. -/
theorem D.indexArr {t e len : Nat} {x y : Operand} {ki : IntKind} {m : Int} {cs : List Value} {d' : TypeDesc} {ti : TI} (hk : Nat.ble k 1 = true) (hd : o.dst = some d) (hop : o.op = .index t x y)
    (hg : gOf ds fr o.guard = some g) (hx : ev fr g x = some (.agg ⟨cs⟩)) (hy : ev fr g y = some (.int ki m)) (ht : cx.T.get t = some ti) (hte : ti.k = .arr len e) (he : cx.P.underlying e = some d') (hpl : plainD d' = true) (hs1 : (cx.P.info? e).map (·.size) = some 1)
    (h0 : GT ds fr g → 0 ≤ m ∧ m < len ∧ cs[m.toNat]? = some v) (hp : okPut n ds ((d, g, v) :: fr) d = true) (hwf : wfG ds fr g = true)
    (h : D cx R its ((d, g, v) :: fr) C L) : D cx R ((i, k, o) :: its) fr C L := by
  have hu : cx.P.underlying t = some (.array len e) := by
    obtain ⟨kk, s1, b1, z1, g1⟩ := ti
    simp only at hte
    subst hte
    exact und_arr cx.hT ht
  refine D.run _ hk hd hg (fun hG a hs w => ?_) hp hwf h
  obtain ⟨h1, h2, h3⟩ := h0 hG
  have e1 : execOp a.eval o = (do Pure.pure (.value (← Instr.index t (a.eval x) (a.eval y))) : Sem Next) := by unfold execOp; rw [hop]
  rw [e1, hs _ _ hx, hs _ _ hy]
  have hsz : (sizeOf e).run cx.P w = .ok 1 w := by
    cases hi : cx.P.info? e with
    | none => rw [hi] at hs1; cases hs1
    | some inf => rw [hi] at hs1; simp at hs1; simp [sizeOf, typeInfo, hi, hs1]
  simp [Instr.index, asIntOf, run_underlying hu, h1, h2, hsz, run_part1 he hpl h3]

/-- A byte of a string. -/
theorem D.indexStr {t : Nat} {x y : Operand} {ki : IntKind} {m : Int} {s : List UInt8} {b : UInt8} {ti : TI} (hk : Nat.ble k 1 = true) (hd : o.dst = some d) (hop : o.op = .index t x y)
    (hg : gOf ds fr o.guard = some g) (hx : ev fr g x = some (.string ⟨s.toArray⟩)) (hy : ev fr g y = some (.int ki m)) (ht : cx.T.get t = some ti) (hte : ti.k = .str)
    (h0 : GT ds fr g → 0 ≤ m ∧ s[m.toNat]? = some b) (hp : okPut n ds ((d, g, .int .u8 b.toNat) :: fr) d = true) (hwf : wfG ds fr g = true)
    (h : D cx R its ((d, g, .int .u8 b.toNat) :: fr) C L) : D cx R ((i, k, o) :: its) fr C L := by
  have hu : cx.P.underlying t = some .string := by
    obtain ⟨kk, s1, b1, z1, g1⟩ := ti
    simp only at hte
    subst hte
    exact und_str cx.hT ht
  refine D.run _ hk hd hg (fun hG a hs w => ?_) hp hwf h
  obtain ⟨h1, h2⟩ := h0 hG
  have e1 : execOp a.eval o = (do Pure.pure (.value (← Instr.index t (a.eval x) (a.eval y))) : Sem Next) := by unfold execOp; rw [hop]
  rw [e1, hs _ _ hx, hs _ _ hy]
  have hlt : m.toNat < s.length := (List.getElem?_eq_some_iff.1 h2).1
  have h3 : (⟨s.toArray⟩ : ByteArray)[m.toNat]? = some b := by
    rw [getElem?_pos _ _ (by simpa [ByteArray.size] using hlt)]
    have := (List.getElem?_eq_some_iff.1 h2).2
    exact congrArg some this
  simp [Instr.index, asIntOf, run_underlying hu, h1, h3]

/-- A slice expression over a string. -/
theorem D.sliceStr (l h : Nat) {t : Nat} {x : Operand} {lo hi : Option Operand} {lv hv : Option Value} {s : List UInt8} {ti : TI} (hk : Nat.ble k 1 = true) (hd : o.dst = some d) (hop : o.op = .slice t x lo hi none)
    (hg : gOf ds fr o.guard = some g) (hx : ev fr g x = some (.string ⟨s.toArray⟩)) (hlo : optO (ev fr g) lo = some lv) (hhi : optO (ev fr g) hi = some hv)
    (ht : cx.T.get t = some ti) (hte : ti.k = .str) (hq : GT ds fr g → SlB s.length s.length lv hv none l h s.length)
    (hp : okPut n ds ((d, g, .string ⟨((s.take h).drop l).toArray⟩) :: fr) d = true) (hwf : wfG ds fr g = true)
    (hh : D cx R its ((d, g, .string ⟨((s.take h).drop l).toArray⟩) :: fr) C L) : D cx R ((i, k, o) :: its) fr C L := by
  have hu : cx.P.underlying t = some .string := by
    obtain ⟨kk, s1, b1, z1, g1⟩ := ti
    simp only at hte
    subst hte
    exact und_str cx.hT ht
  refine D.run _ hk hd hg (fun hG a hs w => ?_) hp hwf hh
  have e1 : execOp a.eval o = (do Pure.pure (.value (← Instr.sliceAt t (a.eval x) (lo.map a.eval) (hi.map a.eval) none)) : Sem Next) := by unfold execOp; rw [hop]; rfl
  rw [e1, hs _ _ hx, optO_spec (fun x v hx => hs x v hx) hlo, optO_spec (fun x v hx => hs x v hx) hhi]
  have hb := run_sliceBounds (P := cx.P) (b := false) (hq hG) w
  have hsz : (⟨s.toArray⟩ : ByteArray).size = s.length := by simp [ByteArray.size]
  have hex : (⟨s.toArray⟩ : ByteArray).extract l h = ⟨((s.take h).drop l).toArray⟩ := by
    apply ByteArray.ext
    simp [ByteArray.data_extract, List.drop_take]
  simp [Instr.sliceAt, Instr.slice, run_underlying hu, hsz, hb, hex]
end
end Go.Jog
