/- Rules for slice literals, append, owned rows and calls. Program-independent. -/
import Derived.Test.YtjmfjobfmdhbfaaDoorJogE
namespace Go.Jog
open Go

/-- The rows of a literal whose parts come in order. -/
def rowOf : Value → List Value
  | .agg ⟨cs⟩ => cs
  | v => [v]
theorem rowOf_cells (v : Value) : v.cells.toList = rowOf v := by cases v <;> rfl

def rowsO (ρ : Operand → Option Value) : List (Nat × Operand) → Nat → Option (List (List Value))
  | [], _ => some []
  | (j, x) :: r, m => bif Nat.beq j m then (match ρ x with
    | some v => (match rowsO ρ r (m + 1) with
      | some vs => some (rowOf v :: vs)
      | none => none)
    | none => none) else none

theorem partsO_of_rows {ρ : Operand → Option Value} {s : Nat} : ∀ {ps : List (Nat × Operand)} {m : Nat} {rows : List (List Value)}, rowsO ρ ps m = some rows → (∀ r ∈ rows, r.length = s) → partsO ρ s ps m = some rows.flatten ∧ rows.length = ps.length
  | [], m, rows, h, _ => by simp [rowsO] at h; subst h; exact ⟨rfl, rfl⟩
  | (j, x) :: r, m, rows, h, hl => by
    simp only [rowsO] at h
    cases hb : Nat.beq j m with
    | false => rw [hb] at h; cases h
    | true =>
      rw [hb] at h
      simp only [cond_true] at h
      split at h
      · rename_i v hv
        split at h
        · rename_i vs hvs
          cases h
          have h1 := partsO_of_rows hvs (fun r hr => hl r (by simp [hr]))
          have h2 : Nat.beq v.cells.toList.length s = true := by rw [rowOf_cells, hl (rowOf v) (by simp)]; exact Nat.beq_refl s
          refine ⟨?_, by simp [h1.2]⟩
          simp only [partsO, hb, cond_true, hv, h2, h1.1, List.flatten_cons]
          rw [rowOf_cells]
        · cases h
      · cases h

theorem length_flatten_rows {s : Nat} : ∀ {rows : List (List Value)}, (∀ r ∈ rows, r.length = s) → rows.flatten.length = rows.length * s
  | [], _ => by simp
  | r :: rows, h => by
    rw [List.flatten_cons, List.length_append, h r (by simp), length_flatten_rows (fun x hx => h x (by simp [hx])), List.length_cons, Nat.add_mul]
    omega

theorem getElem?_flatten_rows {s : Nat} : ∀ {rows : List (List Value)}, (∀ r ∈ rows, r.length = s) → ∀ {i : Nat} {x : List Value}, rows[i]? = some x → ∀ {j : Nat} {v : Value}, x[j]? = some v → rows.flatten[i * s + j]? = some v
  | r :: rows, h, 0, x, hi, j, v, hj => by
    simp at hi
    subst hi
    have hlt : j < r.length := (List.getElem?_eq_some_iff.1 hj).1
    rw [List.flatten_cons, Nat.zero_mul, Nat.zero_add, List.getElem?_append_left hlt]
    exact hj
  | r :: rows, h, i + 1, x, hi, j, v, hj => by
    have hr := h r (by simp)
    rw [List.flatten_cons, List.getElem?_append_right (by rw [hr, Nat.add_mul]; omega), hr]
    rw [show (i + 1) * s + j - s = i * s + j by rw [Nat.add_mul]; omega]
    exact getElem?_flatten_rows (fun x hx => h x (by simp [hx])) (by simpa using hi) hj
  | [], _, i, x, hi, _, _, _ => by simp at hi

/-- A block that holds these rows, read as a slice. -/
theorem Sl.ofBlock {C : Mem} {b s c : Nat} {blk : Array Value} {t : TypeId} {fz : Nat × Nat} {rows : List (List Value)} (hb : C b = some (.cells blk t fz)) (hr : ∀ r ∈ rows, r.length = s)
    (hblk : ∀ (j : Nat) (v : Value), rows.flatten[j]? = some v → blk[j]? = some v) (hc : rows.length ≤ c) (hm : c ≤ maxLen) : Sl C s (.slice (some ⟨b, 0, none⟩) rows.length c) rows :=
  ⟨some ⟨b, 0, none⟩, c, rfl, hc, hm, hr, fun i x hi => ⟨⟨b, 0, none⟩, rfl, rfl, fun j v hj => by
    rw [Addr.add_lit]
    exact ⟨rfl, blk, t, fz, hb, by simpa using hblk _ _ (getElem?_flatten_rows hr hi hj)⟩⟩⟩

section
variable {cx : Cx} {n : Nat} {ds : List (Option Nat)} {R : Rg n ds} {its : List It} {fr : Fr} {C : Mem} {L : List Ent} {i k d : Nat} {o : Oper} {g : GL} {v : Value}

theorem run_buildSlice {T : Tab} {P : Program} (hT : tabB P T = true) {t e len : Nat} {ti te : TI} (ht : T.get t = some ti) (hte : ti.k = .slice e) (he : T.get e = some te) {ρ : Operand → Option Value} {ρ' : Operand → Value} (hρ : ∀ x v, ρ x = some v → ρ' x = v)
    {ps : List (Nat × Operand)} {rows : List (List Value)} (hrows : rowsO ρ ps 0 = some rows) (hl : ∀ r ∈ rows, r.length = te.size) (hlen : ps.length = len) (hbig : len * te.size ≤ 16777216) (w : World) :
    (Instr.buildSlice t len (ps.map fun (i, x) => (i, ρ' x)).toArray).run P w = .ok (.slice (some ⟨w.heap.size, 0, none⟩) rows.length rows.length) (w.alloc (.cells ⟨rows.flatten⟩ e)) := by
  have hu : P.underlying t = some (.slice e) := by
    obtain ⟨kk, s1, b1, z1, g1⟩ := ti
    simp only at hte
    subst hte
    exact und_slice hT ht
  obtain ⟨h1, h2⟩ := partsO_of_rows hrows hl
  have hfl := length_flatten_rows hl
  have hln : len = rows.length := by rw [h2]; exact hlen.symm
  subst hln
  have fillit : ∀ acc : Array Value, acc.size = rows.length * te.size → Instr.fill (fun i => some (i * te.size, te.size)) acc (ps.map fun (i, x) => (i, ρ' x)) = some ⟨rows.flatten⟩ := fun acc hacc => by
    rw [fill_parts hρ acc h1 (by rw [hfl]; omega)]
    congr 1
    apply Array.ext'
    have : acc.toList.drop (rows.length * te.size) = [] := List.drop_eq_nil_of_le (by simp [hacc])
    simp [hfl, this]
  have hbig' : ¬ (16777216 < rows.length * te.size) := by omega
  unfold Instr.buildSlice
  by_cases hz : rows.length * te.size = 0
  · have hf := fillit #[] (by simp [hz])
    simp [run_underlying hu, size_of hT he w, hz, Array.range_zero', hf, newRow]
  · have hf := fillit ((Array.range (rows.length * te.size)).map (te.zv.cells[· % te.zv.cells.size]!)) (by simp)
    simp [run_underlying hu, size_of hT he w, hz, hbig', zero_of hT he w, hf, newRow]

/-- A slice literal that nobody writes. -/
theorem D.buildSlice {t e len : Nat} {parts : Array (Nat × Operand)} {ti te : TI} (rows : List (List Value)) (hk : Nat.ble k 1 = false) (hd : o.dst = some d) (hg : gOn ds fr o.guard = true) (hop : o.op = .buildSlice t len parts)
    (ht : cx.T.get t = some ti) (hte : ti.k = .slice e) (he : cx.T.get e = some te) (hrows : rowsO (ev fr []) parts.toList 0 = some rows) (hl : (rows.all fun r => Nat.beq r.length te.size) = true) (hlen : Nat.beq parts.toList.length len = true)
    (hbig : Nat.ble (len * te.size) 16777216 = true) (hs0 : Nat.beq te.size 0 = false) (hp : ∀ v, okPut n ds ((d, [], v) :: fr) d = true)
    (h : ∀ p C', C.le C' → Sl C' te.size p rows → D cx R its ((d, [], p) :: fr) C' L) : D cx R ((i, k, o) :: its) fr C L := by
  have hl' : ∀ r ∈ rows, r.length = te.size := fun r hr => Nat.eq_of_beq_eq_true (List.all_eq_true.1 hl r hr)
  have hlen' := Nat.eq_of_beq_eq_true hlen
  rw [Nat.ble_eq] at hbig
  have hpl := (partsO_of_rows hrows hl').2
  refine D.newConst (f := fun b => .slice (some ⟨b, 0, none⟩) rows.length rows.length) (ob := .cells ⟨rows.flatten⟩ e) hk hd hg hp (fun a hs w => ?_) (fun b C' hle hb => ?_)
  · have e1 : execOp a.eval o = (do Pure.pure (.value (← Instr.buildSlice t len (parts.map fun (i, x) => (i, a.eval x)))) : Sem Next) := by unfold execOp; rw [hop]
    rw [e1]
    have e2 : (parts.map fun (i, x) => (i, a.eval x)) = (parts.toList.map fun (i, x) => (i, a.eval x)).toArray := by apply Array.ext'; simp
    rw [e2]
    simp only [Sem.run_bind, run_buildSlice cx.hT ht hte he (fun x v hx => hs x v hx) hrows hl' hlen' hbig w, Result.andThen_ok, Sem.run_pure]
  · refine h _ C' hle (Sl.ofBlock hb hl' (fun j v hj => by simpa using hj) (Nat.le_refl _) ?_)
    rw [hpl, hlen']
    have h0 : 0 < te.size := Nat.pos_of_ne_zero (fun e => by rw [e] at hs0; cases hs0)
    have : len ≤ len * te.size := Nat.le_mul_of_pos_right _ h0
    simp only [maxLen]; omega

/-- append of a slice that nobody writes onto a row of the function's own. -/
theorem D.append {t e j m : Nat} {x y : Operand} {ti te : TI} {p v0 : Value} {xs : List Value} {rows : List (List Value)} (hk : k = 3) (hd : o.dst = some d) (hg : gOn ds fr o.guard = true)
    (hop : o.op = .call ⟨.builtin .append, #[x, y], #[t, t]⟩) (ht : cx.T.get t = some ti) (hte : ti.k = .slice e) (he : cx.T.get e = some te) (hs0 : Nat.beq te.size 0 = false)
    (hx : ev fr [] x = some v0) (hy : ev fr [] y = some p) (hm : L[j]? = some (.arr v0 e te.size m xs)) (hsl : Sl C te.size p rows) (h1 : rows.all (fun r => r.all oneB) = true)
    (h63 : m + rows.length ≤ maxLen) (hbytes : (m + rows.length) * te.bytes ≤ 140737488355328) (hp : ∀ v, okPut n ds ((d, [], v) :: fr) d = true)
    (h : ∀ v', D cx R its ((d, [], v') :: fr) C (.arr v' e te.size (m + rows.length) (xs ++ rows.flatten) :: L.eraseIdx j)) : D cx R ((i, k, o) :: its) fr C L := by
  have hu : cx.P.underlying t = some (.slice e) := by
    obtain ⟨kk, s1, b1, z1, g1⟩ := ti
    simp only at hte
    subst hte
    exact und_slice cx.hT ht
  obtain ⟨inf, hi, hsize, hby, hz, hzc⟩ := (tab_ok cx.hT he).info
  have hpos : 0 < te.size := Nat.pos_of_ne_zero (fun e => by rw [e] at hs0; cases hs0)
  obtain ⟨A, c, hpv, hlc, hcm, hrl, hcells⟩ := hsl
  -- the zero's size is the type's
  refine D.eff (S := fun v' C' L' => C' = C ∧ L' = .arr v' e te.size (m + rows.length) (xs ++ rows.flatten) :: L.eraseIdx j) (by subst hk; rfl) hd hg hp (fun a hs w _ hw => ?_) (fun v' C' L' _ ⟨e1, e2⟩ => by subst e1; subst e2; exact h v')
  have hw' := St.perm hw (ent_perm hm)
  have hown : w.ownsRow 0 e te.size v0 m xs := hw'.sep.e _ (List.mem_cons_self ..)
  have hone : ∀ u ∈ rows.flatten, u.oneCell' = true := fun u hu => by
    obtain ⟨r, hr, hur⟩ := List.mem_flatten.1 hu
    exact oneB_spec (List.all_eq_true.1 (List.all_eq_true.1 h1 r hr) u hur)
  have hex : ∃ v' w', (Builtin.append_ #[t, t] o.type #[v0, p]).run cx.P w = .ok v' w' ∧ w'.ownsRow 0 e te.size v' (m + rows.length) (xs ++ rows.flatten) ∧ w.grownBy w' v0.ownBlock ∧ (v'.ownBlock = v0.ownBlock ∨ v'.ownBlock = some w.heap.size) := by
    cases rows with
    | nil =>
      refine ⟨v0, w, ?_, by simpa using hown, ⟨rfl, rfl, rfl, Nat.le_refl _, fun _ _ _ => rfl⟩, .inl rfl⟩
      have hlen0 : p = .slice A 0 c := hpv
      rw [hlen0]
      have hfc : ∀ (W : World), (Builtin.firstCells te.size 0 (.slice A 0 c)).run cx.P W = .ok #[] W := fun W => by
        cases A <;> simp [Builtin.firstCells, loadCells, loadCellsFrom]
      rcases hown.2 with ⟨rfl, rfl⟩ | ⟨g0, cap, cur, rfl, _, _, hnc, _⟩
      · simp [Builtin.append_, run_underlying hu, sizeOf, typeInfo, hi, hsize, Builtin.lenOf, hfc]
      · simp [Builtin.append_, run_underlying hu, sizeOf, typeInfo, hi, hsize, Builtin.lenOf, hfc, hnc, storeCells]
    | cons r rs =>
      obtain ⟨ad, hA, hsp, _⟩ := hcells 0 r (by simp)
      subst hA
      have hnews : ∀ (q : Nat) (u : Value), (r :: rs).flatten[q]? = some u → w.cell? (ad.add q) = some u := fun q u hq => by
        have hqlt : q < (r :: rs).length * te.size := by rw [← length_flatten_rows hrl]; exact (List.getElem?_eq_some_iff.1 hq).1
        have hdiv : q / te.size < (r :: rs).length := Nat.div_lt_of_lt_mul (by rw [Nat.mul_comm]; exact hqlt)
        have hgi : (r :: rs)[q / te.size]? = some (r :: rs)[q / te.size] := List.getElem?_eq_getElem hdiv
        have hmod : q % te.size < ((r :: rs)[q / te.size]).length := by rw [hrl _ (List.getElem_mem hdiv)]; exact Nat.mod_lt _ hpos
        have hgj := List.getElem?_eq_getElem hmod
        have heq := getElem?_flatten_rows hrl hgi hgj
        have hq' : q / te.size * te.size + q % te.size = q := by rw [Nat.mul_comm]; exact Nat.div_add_mod q te.size
        rw [hq', hq] at heq
        obtain ⟨ad', h3, h4, h5⟩ := hcells _ _ hgi
        cases h3
        have := h5 _ _ hgj
        rw [hq'] at this
        rw [heq]
        exact this.cell hw.sep
      have hzs : te.zv.cells.size = te.size := (tab_ok cx.hT he).zsize
      obtain ⟨v', w', hr1, hr2, hr3, _, hr5⟩ := run_append_own_at (P := cx.P) w 0 t o.type e inf te.zv te.size te.bytes hu hi hz hsize hby hzs hpos v0 m xs hown ad (r :: rs).length c (r :: rs).flatten (length_flatten_rows hrl) hnews hone h63 hbytes (Nat.zero_le _)
      exact ⟨v', w', by rw [hpv]; exact hr1, hr2, hr3, hr5⟩
  obtain ⟨v', w', hr1, hr2, hr3, hr5⟩ := hex
  have hrun : (execOp a.eval o).run cx.P w = .ok (.value v') w' := by
    have e1 : execOp a.eval o = (do let dd ← resolve a.eval ⟨.builtin .append, #[x, y], #[t, t]⟩ o.type; invoke dd.target dd.args : Sem Next) := by unfold execOp; rw [hop]
    rw [e1]
    simp only [resolve, invoke, builtin, Sem.run_bind, Sem.run_pure, Result.andThen_ok, List.map_toArray, List.map_cons, List.map_nil, hs _ _ hx, hs _ _ hy, hr1]
  unfold Oper.wp
  rw [hrun]
  exact ⟨v', C, _, rfl, Mem.le.refl _, fun h2 => by omega, St.turn hw' hr2 hr3 (run_drawn _ hr1) (hr5.elim .inl (fun h => .inr (.inl h))), rfl, rfl⟩
end
end Go.Jog
