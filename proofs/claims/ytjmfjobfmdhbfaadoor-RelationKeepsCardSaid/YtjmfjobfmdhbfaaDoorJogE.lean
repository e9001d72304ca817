/- Rules for operations that make or write memory, for calls, and the judgement G on code. Program-independent. -/
import Derived.Test.YtjmfjobfmdhbfaaDoorJogD
namespace Go.Jog
open Go

section
variable {cx : Cx} {n : Nat} {ds : List (Option Nat)} {R : Rg n ds} {its : List It} {fr : Fr} {C : Mem} {L : List Ent} {i k d : Nat} {o : Oper} {g : GL} {v : Value}

/-- A new object of the function's own: the operation lays it and yields a value that names it. -/
theorem D.newObj {f : Nat → Value} {ob : Obj} (hk : Nat.ble k 1 = false) (hd : o.dst = some d) (hg : gOn ds fr o.guard = true) (hp : ∀ v, okPut n ds ((d, [], v) :: fr) d = true)
    (hrun : ∀ a, Sees (ev fr []) a → ∀ w, (execOp a.eval o).run cx.P w = .ok (.value (f w.heap.size)) (w.alloc ob))
    (h : ∀ b, D cx R its ((d, [], f b) :: fr) C (.obj b ob :: L)) : D cx R ((i, k, o) :: its) fr C L :=
  D.eff (S := fun v C' L' => C' = C ∧ ∃ b, v = f b ∧ L' = .obj b ob :: L) hk hd hg hp (fun a hs w _ hw => by
    unfold Oper.wp
    rw [hrun a hs w]
    exact ⟨_, C, .obj w.heap.size ob :: L, rfl, Mem.le.refl _, fun _ x hx => by simp [hx], St.alloc hw ob, rfl, _, rfl, rfl⟩)
    (fun v C' L' _ ⟨e1, b, e2, e3⟩ => by subst e1; subst e2; subst e3; exact h b)

/-- A new object that nobody writes. -/
theorem D.newConst {f : Nat → Value} {ob : Obj} (hk : Nat.ble k 1 = false) (hd : o.dst = some d) (hg : gOn ds fr o.guard = true) (hp : ∀ v, okPut n ds ((d, [], v) :: fr) d = true)
    (hrun : ∀ a, Sees (ev fr []) a → ∀ w, (execOp a.eval o).run cx.P w = .ok (.value (f w.heap.size)) (w.alloc ob))
    (h : ∀ b C', C.le C' → C' b = some ob → D cx R its ((d, [], f b) :: fr) C' L) : D cx R ((i, k, o) :: its) fr C L :=
  D.eff (S := fun v C' L' => L' = L ∧ ∃ b, v = f b ∧ C' b = some ob) hk hd hg hp (fun a hs w hC0 hw => by
    unfold Oper.wp
    rw [hrun a hs w]
    have h1 := St.alloc hw ob
    have h2 := h1.freeze
    exact ⟨_, C.set w.heap.size ob, L, rfl, h2.1, fun _ x hx => hx, h2.2, rfl, _, rfl, Mem.set_self _ _ _⟩)
    (fun v C' L' hle ⟨e1, b, e2, e3⟩ => by subst e1; subst e2; exact h b C' hle e3)

theorem run_newVar {P : Program} (t : TypeId) (v : Value) (w : World) : (newVar t v).run P w = .ok ⟨w.heap.size, 0, none⟩ (w.alloc (.cells v.cells t)) := rfl

theorem D.alloc {t : Nat} {ti : TI} (hk : Nat.ble k 1 = false) (hd : o.dst = some d) (hg : gOn ds fr o.guard = true) (hop : o.op = .alloc t) (ht : cx.T.get t = some ti) (hp : ∀ v, okPut n ds ((d, [], v) :: fr) d = true)
    (h : ∀ b, D cx R its ((d, [], .pointer (some ⟨b, 0, none⟩)) :: fr) C (.obj b (.cells ⟨ti.zero.map Zv.val⟩ t (0, 0)) :: L)) : D cx R ((i, k, o) :: its) fr C L :=
  D.newObj (f := fun b => .pointer (some ⟨b, 0, none⟩)) hk hd hg hp (fun a _ w => by
    have e1 : execOp a.eval o = (do Pure.pure (.value (← Instr.alloc t true (.tuple #[]))) : Sem Next) := by unfold execOp; rw [hop]
    obtain ⟨f, _, _, _, _, hz⟩ := (tab_ok cx.hT ht).info
    rw [e1]
    simp only [Instr.alloc, Sem.run_bind, zero_of cx.hT ht w, Result.andThen_ok, run_newVar, Sem.run_pure, hz]) h

theorem D.box {t : Nat} {x : Operand} {cs : List Value} (hk : Nat.ble k 1 = false) (hd : o.dst = some d) (hg : gOn ds fr o.guard = true) (hop : o.op = .box t x) (hx : ev fr [] x = some v) (hv : v.cells = ⟨cs⟩) (hp : ∀ v, okPut n ds ((d, [], v) :: fr) d = true)
    (h : ∀ b, D cx R its ((d, [], .pointer (some ⟨b, 0, none⟩)) :: fr) C (.obj b (.cells ⟨cs⟩ t (0, 0)) :: L)) : D cx R ((i, k, o) :: its) fr C L :=
  D.newObj (f := fun b => .pointer (some ⟨b, 0, none⟩)) hk hd hg hp (fun a hs w => by
    have e1 : execOp a.eval o = (do Pure.pure (.value (← Instr.box t (a.eval x))) : Sem Next) := by unfold execOp; rw [hop]
    rw [e1, hs _ _ hx]
    simp only [Instr.box, Sem.run_bind, run_newVar, Result.andThen_ok, Sem.run_pure, hv]) h

/-- A variable that nobody writes once it is laid (a captured parameter). -/
theorem D.boxConst {t : Nat} {x : Operand} {cs : List Value} (hk : Nat.ble k 1 = false) (hd : o.dst = some d) (hg : gOn ds fr o.guard = true) (hop : o.op = .box t x) (hx : ev fr [] x = some v) (hv : v.cells = ⟨cs⟩) (hp : ∀ v, okPut n ds ((d, [], v) :: fr) d = true)
    (h : ∀ b C', C.le C' → C' b = some (.cells ⟨cs⟩ t (0, 0)) → D cx R its ((d, [], .pointer (some ⟨b, 0, none⟩)) :: fr) C' L) : D cx R ((i, k, o) :: its) fr C L :=
  D.newConst (f := fun b => .pointer (some ⟨b, 0, none⟩)) hk hd hg hp (fun a hs w => by
    have e1 : execOp a.eval o = (do Pure.pure (.value (← Instr.box t (a.eval x))) : Sem Next) := by unfold execOp; rw [hop]
    rw [e1, hs _ _ hx]
    simp only [Instr.box, Sem.run_bind, run_newVar, Result.andThen_ok, Sem.run_pure, hv]) h

/-! ### Stores -/
def oneB : Value → Bool
  | .agg _ | .tuple _ => false
  | _ => true
theorem oneB_spec {v : Value} (h : oneB v = true) : v.oneCell' = true := by cases v <;> simp_all [oneB, Value.oneCell']

def storeInto (cs vs : List Value) (off : Nat) : List Value := cs.take off ++ vs ++ cs.drop (off + vs.length)

theorem ent_perm : ∀ {L : List Ent} {j : Nat} {x : Ent}, L[j]? = some x → L.Perm (x :: L.eraseIdx j)
  | y :: L, 0, x, h => by simp at h; subst h; simp
  | y :: L, j + 1, x, h => by
    have h' : L[j]? = some x := by simpa using h
    have := ent_perm h'
    exact (this.cons y).trans (List.Perm.swap x y _)
  | [], _, _, h => by simp at h

theorem St.setRow {w0 : World} {C0 : Mem} {L0 : List Ent} {C : Mem} {L : List Ent} {w : World} {b : Nat} {cs : List Value} {tb : TypeId} (h : St w0 C0 L0 C (.obj b (.cells ⟨cs⟩ tb (0, 0)) :: L) w) (cs' : List Value) :
    St w0 C0 L0 C (.obj b (.cells ⟨cs'⟩ tb (0, 0)) :: L) (w.setRow b cs'.toArray) := by
  have hb : w.heap[b]? = some (.cells ⟨cs⟩ tb (0, 0)) := h.sep.e _ (List.mem_cons_self ..)
  refine St.put h (setRow_heap w b _ _ tb _ hb) (fun k hk => setRow_other w b k _ hk) (by simp) rfl rfl rfl (Nat.le_refl _)

theorem run_storeVar {T : Tab} {P : Program} (hT : tabB P T = true) {t : Nat} {ti : TI} (ht : T.get t = some ti) {w : World} {b off : Nat} {cs : List Value} {tb : TypeId} {v : Value} {vs : List Value}
    (hb : w.heap[b]? = some (.cells ⟨cs⟩ tb (0, 0))) (hv : v.cells = ⟨vs⟩) (hl : vs.length = ti.size) (hfit : off + vs.length ≤ cs.length) (h1 : ∀ u ∈ vs, u.oneCell' = true) :
    (storeVar t ⟨b, off, none⟩ v).run P w = .ok () (w.setRow b (storeInto cs vs off).toArray) := by
  unfold storeVar
  have hsz : v.cells.size = ti.size := by rw [hv]; simpa using hl
  simp only [Sem.run_bind, size_of hT ht w, Result.andThen_ok, hsz, ne_eq, not_true, if_false]
  have := run_storeCells_at P b off tb vs 0 ⟨cs⟩ w hb (by simpa using hfit) h1
  simp only [Nat.add_zero] at this
  rw [hv]
  exact this

/-- A store into an object of the function's own, the j-th of the list; it comes to the head. -/
theorem D.store {t b off j : Nat} {x y : Operand} {cs vs : List Value} {tb : TypeId} {ti : TI} (hk : k = 3) (hg : gOn ds fr o.guard = true) (hd : o.dst = none) (hop : o.op = .store t x y)
    (hx : ev fr [] x = some (.pointer (some ⟨b, off, none⟩))) (hy : ev fr [] y = some v) (hm : L[j]? = some (.obj b (.cells ⟨cs⟩ tb (0, 0))))
    (ht : cx.T.get t = some ti) (hv : v.cells = ⟨vs⟩) (hl : Nat.beq vs.length ti.size = true) (hfit : Nat.ble (off + vs.length) cs.length = true) (h1 : vs.all oneB = true)
    (h : D cx R its fr C (.obj b (.cells ⟨storeInto cs vs off⟩ tb (0, 0)) :: L.eraseIdx j)) : D cx R ((i, k, o) :: its) fr C L :=
  D.eff0 (S := fun C' L' => C' = C ∧ L' = .obj b (.cells ⟨storeInto cs vs off⟩ tb (0, 0)) :: L.eraseIdx j) (by subst hk; rfl) hg (fun a hs w _ hw => by
    have hw' := St.perm hw (ent_perm hm)
    have hb : w.heap[b]? = some (.cells ⟨cs⟩ tb (0, 0)) := hw'.sep.e _ (List.mem_cons_self ..)
    have hex : (execOp a.eval o).run cx.P w = .ok .skip (w.setRow b (storeInto cs vs off).toArray) := by
      have e1 : execOp a.eval o = (do Instr.storeAt t (a.eval x) (a.eval y); Pure.pure .skip : Sem Next) := by unfold execOp; rw [hop]
      rw [e1, hs _ _ hx, hs _ _ hy]
      simp only [Instr.storeAt, Instr.sureAddr, Sem.run_bind, Sem.run_pure, Result.andThen_ok]
      rw [run_storeVar cx.hT ht hb hv (Nat.eq_of_beq_eq_true hl) (by rw [Nat.ble_eq] at hfit; exact hfit) (fun u hu => oneB_spec (List.all_eq_true.1 h1 u hu))]
      rfl
    unfold Oper.wp
    rw [hex]
    refine ⟨C, .obj b (.cells ⟨storeInto cs vs off⟩ tb (0, 0)) :: L.eraseIdx j, ?_, Mem.le.refl _, fun h2 => by omega, St.setRow hw' _, rfl, rfl⟩
    rw [hd]; rfl)
    (fun C' L' _ ⟨e1, e2⟩ => by subst e1; subst e2; exact h)

/-! ### Slices that are written out -/
/-- The cells of a literal whose parts come in order, each of the size s. -/
def partsO (ρ : Operand → Option Value) (s : Nat) : List (Nat × Operand) → Nat → Option (List Value)
  | [], _ => some []
  | (j, x) :: r, m => bif Nat.beq j m then (match ρ x with
    | some v => bif Nat.beq v.cells.toList.length s then (match partsO ρ s r (m + 1) with
      | some vs => some (v.cells.toList ++ vs)
      | none => none) else none
    | none => none) else none

theorem foldl_set (cs : List Value) (off : Nat) : ∀ (vs : List Value) (j : Nat) (acc : Array Value), off + j + vs.length ≤ acc.size →
    ((vs.zipIdx j).foldl (fun cs (c, j) => cs.setIfInBounds (off + j) c) acc).toList = acc.toList.take (off + j) ++ vs ++ acc.toList.drop (off + j + vs.length)
  | [], j, acc, h => by simp
  | v :: vs, j, acc, h => by
    simp only [List.zipIdx_cons, List.foldl_cons]
    simp only [List.length_cons] at h
    rw [foldl_set cs off vs (j + 1) _ (by simp; omega)]
    have hl : off + j < acc.toList.length := by simp; omega
    simp only [Array.toList_setIfInBounds, List.length_cons]
    rw [show off + (j + 1) = (off + j) + 1 by omega, List.take_succ_eq_append_getElem (by simpa using hl), List.take_set_of_le (Nat.le_refl _)]
    rw [List.drop_set_of_lt (by omega)]
    simp only [List.getElem_set_self, List.append_assoc, List.singleton_append]
    rw [show off + j + 1 + vs.length = off + j + (vs.length + 1) by omega]

theorem fill_parts {ρ : Operand → Option Value} {ρ' : Operand → Value} (hρ : ∀ x v, ρ x = some v → ρ' x = v) {s : Nat} : ∀ {ps : List (Nat × Operand)} {m : Nat} {vs : List Value} (acc : Array Value), partsO ρ s ps m = some vs → m * s + vs.length ≤ acc.size →
    Instr.fill (fun i => some (i * s, s)) acc (ps.map fun (i, x) => (i, ρ' x)) = some (acc.toList.take (m * s) ++ vs ++ acc.toList.drop (m * s + vs.length)).toArray
  | [], m, vs, acc, h, hl => by
    simp only [partsO, Option.some.injEq] at h
    subst h
    simp [Instr.fill]
  | (j, x) :: r, m, vs, acc, h, hl => by
    simp only [partsO] at h
    cases hb : Nat.beq j m with
    | false => rw [hb] at h; cases h
    | true =>
      rw [hb] at h
      obtain rfl := Nat.eq_of_beq_eq_true hb
      simp only [cond_true] at h
      split at h
      · rename_i v hv
        cases hb2 : Nat.beq v.cells.toList.length s with
        | false => rw [hb2] at h; cases h
        | true =>
          rw [hb2] at h
          simp only [cond_true] at h
          split at h
          · rename_i vs' hvs
            cases h
            have hs := Nat.eq_of_beq_eq_true hb2
            simp only [Array.length_toList] at hs
            simp only [List.length_append, Array.length_toList, hs] at hl
            simp only [List.map_cons, Instr.fill, hρ x v hv, hs]
            have hno : ¬ (v.cells.size ≠ s || decide (j * s + v.cells.size > acc.size)) = true := by simp [hs]; omega
            rw [hs] at hno
            rw [if_neg (by simpa using hno)]
            have hf := foldl_set [] (j * s) v.cells.toList 0 acc (by simp [hs]; omega)
            simp only [Nat.add_zero, Array.length_toList, hs] at hf
            have hz : (v.cells.zipIdx.foldl (fun cs (c, j_1) => cs.setIfInBounds (j * s + j_1) c) acc) = (acc.toList.take (j * s) ++ v.cells.toList ++ acc.toList.drop (j * s + s)).toArray := by
              apply Array.ext'
              rw [← Array.foldl_toList, Array.toList_zipIdx]
              exact hf
            rw [hz, fill_parts hρ _ hvs (by simp [hs]; rw [Nat.add_mul]; omega)]
            congr 1
            have hlen : (acc.toList.take (j * s) ++ v.cells.toList).length = (j + 1) * s := by simp [hs, Nat.add_mul]; omega
            rw [← hlen, List.take_left]
            have e2 : ((acc.toList.take (j * s) ++ v.cells.toList) ++ acc.toList.drop (j * s + s)).drop ((acc.toList.take (j * s) ++ v.cells.toList).length + vs'.length) = acc.toList.drop (j * s + s + vs'.length) := by
              rw [List.drop_append, List.drop_eq_nil_of_le (by omega), List.nil_append, Nat.add_sub_cancel_left, List.drop_drop]
            rw [e2]
            have e3 : j * s + (v.cells.toList ++ vs').length = j * s + s + vs'.length := by simp [hs]; omega
            rw [e3]
            simp only [List.append_assoc]
          · cases h
      · cases h
end
end Go.Jog
