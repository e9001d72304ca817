/- Arrays compared. Program-independent. -/
import Derived.Test.YtjmfjobfmdhbfaaDoorJogK
import Derived.ChangeKeysEq
namespace Go.Jog
open Go
def flatArr (P : Program) (t : Nat) : Bool := match P.underlying t with
  | some (.array _ e) => (match P.underlying e with | some d => plainD d | none => false) && Nat.beq (P.cellsOf e) 1 && !(P.eqGuardType P.depth t) && (P.info? e).isSome
  | _ => false
def fitE (P : Program) (t : Nat) (xs : List Value) : Bool := match P.underlying t with
  | some (.array m e) => Nat.beq xs.length m && xs.all (fun x => fitOne (P.underlying e) x)
  | _ => false

theorem run_eqItems_flat {P : Program} {e : TypeId} {d : TypeDesc} (m : Nat) (w : World) (he : P.underlying e = some d) (hd : plainD d = true) : ∀ {xs ys X Y : List Value} {i : Nat} {b : Bool}, xs.all (fun x => fitOne (P.underlying e) x) = true → eqRow xs ys = some b → X.drop i = xs → Y.drop i = ys →
    (Op.eqItems (m + 1) e 1 ⟨X⟩ ⟨Y⟩ (List.range' i xs.length)).run P w = .ok b w
  | [], ys, X, Y, i, b, _, hb, _, _ => by
    cases ys with
    | nil => simp [eqRow] at hb; subst hb; simp [Op.eqItems]
    | cons => simp [eqRow] at hb
  | x :: xs, ys, X, Y, i, b, hf, hb, hX, hY => by
    cases ys with
    | nil => simp [eqRow] at hb
    | cons y ys =>
      simp only [List.all_cons, Bool.and_eq_true] at hf
      simp only [eqRow] at hb
      split at hb
      · rename_i p q hp hq
        cases hb
        have hx : X[i]? = some x := by
          have := congrArg (·[0]?) hX
          simpa using this
        have hy : Y[i]? = some y := by
          have := congrArg (·[0]?) hY
          simpa using this
        have hX' : X.drop (i + 1) = xs := by
          have := congrArg (List.drop 1) hX
          simpa using this
        have hY' : Y.drop (i + 1) = ys := by
          have := congrArg (List.drop 1) hY
          simpa using this
        have hr := run_scal hp m w hf.1
        have ih := run_eqItems_flat m w he hd hf.2 hq hX' hY'
        simp only [List.length_cons, List.range'_succ, Op.eqItems, Nat.mul_one, Sem.run_bind, run_part1 he hd hx w, run_part1 he hd hy w, hr, Result.andThen_ok]
        cases p
        · simp
        · simpa using ih
      · cases hb

theorem run_eq_arr {P : Program} {t : Nat} (ht : flatArr P t = true) {xs ys : List Value} (hf : fitE P t xs = true) {b : Bool} (hb : eqRow xs ys = some b) (w : World) : (Op.equalIn 10000 t (.agg ⟨xs⟩) (.agg ⟨ys⟩)).run P w = .ok b w := by
  unfold flatArr at ht
  unfold fitE at hf
  cases hu : P.underlying t with
  | none => rw [hu] at ht; cases ht
  | some D =>
    rw [hu] at ht hf
    cases D <;> try (cases ht)
    rename_i n e
    simp only [Bool.and_eq_true] at ht hf
    obtain ⟨⟨⟨h1, h2⟩, h3⟩, h4⟩ := ht
    have h2' := Nat.eq_of_beq_eq_true h2
    have hn := Nat.eq_of_beq_eq_true hf.1
    cases hi : P.info? e with
    | none => rw [hi] at h4; cases h4
    | some inf =>
      cases he : P.underlying e with
      | none => rw [he] at h1; cases h1
      | some d =>
        rw [he] at h1
        rw [run_equalIn_array w 9999 ⟨xs⟩ ⟨ys⟩ hu hi, h2', ← hn, List.range_eq_range']
        exact run_eqItems_flat 9998 w he h1 hf.2 hb rfl rfl

theorem flatArr_guard {P : Program} {t : Nat} (ht : flatArr P t = true) : P.eqGuardType P.depth t = false := by
  unfold flatArr at ht
  split at ht
  · simp only [Bool.and_eq_true, Bool.not_eq_true'] at ht
    exact ht.1.2
  · cases ht

section
variable {cx : Cx} {n : Nat} {ds : List (Option Nat)} {R : Rg n ds} {its : List It} {fr : Fr} {C : Mem} {L : List Ent} {i k d : Nat} {o : Oper} {g : GL} {v : Value}
/-- Two arrays of plain elements are compared. -/
theorem D.eqArr (b : Bool) {t ty : Nat} {x y : Operand} {xs ys : List Value} {b' : Bool} (ht : flatArr cx.P t = true) (hk : Nat.ble k 1 = true) (hd : o.dst = some d) (hop : o.op = .binOp .eql t x y ty) (hg : gOf ds fr o.guard = some g)
    (hx : ev fr g x = some (.agg ⟨xs⟩)) (hy : ev fr g y = some (.agg ⟨ys⟩)) (hf : fitE cx.P t xs = true) (he : eqRow xs ys = some b') (hb : GT ds fr g → b' = b)
    (hp : okPut n ds ((d, g, .bool b) :: fr) d = true) (hwf : wfG ds fr g = true)
    (h : D cx R its ((d, g, .bool b) :: fr) C L) : D cx R ((i, k, o) :: its) fr C L :=
  D.run _ hk hd hg (fun hG a hs w => by
    rw [exec_binOp' hop, hs _ _ hx, hs _ _ hy, ← hb hG]
    simp only [Sem.run_bind, run_eqGuard_agg w .eql t x y _ _ (flatArr_guard ht), Result.andThen_ok, run_eql_struct, run_eq_arr ht hf he w, Sem.run_pure]) hp hwf h
theorem D.neArr (b : Bool) {t ty : Nat} {x y : Operand} {xs ys : List Value} {b' : Bool} (ht : flatArr cx.P t = true) (hk : Nat.ble k 1 = true) (hd : o.dst = some d) (hop : o.op = .binOp .neq t x y ty) (hg : gOf ds fr o.guard = some g)
    (hx : ev fr g x = some (.agg ⟨xs⟩)) (hy : ev fr g y = some (.agg ⟨ys⟩)) (hf : fitE cx.P t xs = true) (he : eqRow xs ys = some b') (hb : GT ds fr g → (!b') = b)
    (hp : okPut n ds ((d, g, .bool b) :: fr) d = true) (hwf : wfG ds fr g = true)
    (h : D cx R its ((d, g, .bool b) :: fr) C L) : D cx R ((i, k, o) :: its) fr C L :=
  D.run _ hk hd hg (fun hG a hs w => by
    rw [exec_binOp' hop, hs _ _ hx, hs _ _ hy, ← hb hG]
    simp only [Sem.run_bind, run_eqGuard_agg w .neq t x y _ _ (flatArr_guard ht), Result.andThen_ok, run_neq_struct, run_eq_arr ht hf he w, Sem.run_pure]) hp hwf h
end
end Go.Jog
