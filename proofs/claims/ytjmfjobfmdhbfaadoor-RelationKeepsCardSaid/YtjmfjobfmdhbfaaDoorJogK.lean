/- Rules: append into a new block, rows of the function's own that are made, clear, arrays behind pointers, bytes to string, results in cells. Program-independent. -/
import Derived.Test.YtjmfjobfmdhbfaaDoorJogI
namespace Go.Jog
open Go

section
variable {cx : Cx} {n : Nat} {ds : List (Option Nat)} {R : Rg n ds} {its : List It} {fr : Fr} {C : Mem} {L : List Ent} {i k d : Nat} {o : Oper} {g : GL} {v : Value}

/-- The cells of a slice that nobody writes, in a row. -/
theorem Sl.flat {C : Mem} {s : Nat} {A : Option Addr} {len c : Nat} {rows : List (List Value)} (hs : Sl C s (.slice A len c) rows) (hpos : 0 < s) (hne : rows ≠ []) :
    len = rows.length ∧ ∃ a, A = some a ∧ a.spot = none ∧ ∀ (q : Nat) (u : Value), rows.flatten[q]? = some u → CCell C (a.add q) u := by
  obtain ⟨A', c', h1, h2, h3, h4, h5⟩ := hs
  cases h1
  refine ⟨rfl, ?_⟩
  cases rows with
  | nil => exact absurd rfl hne
  | cons r rs =>
    obtain ⟨ad, hA, hsp, _⟩ := h5 0 r (by simp)
    subst hA
    refine ⟨ad, rfl, hsp, fun q u hq => ?_⟩
    have hqlt : q < (r :: rs).length * s := by rw [← length_flatten_rows h4]; exact (List.getElem?_eq_some_iff.1 hq).1
    have hdiv : q / s < (r :: rs).length := Nat.div_lt_of_lt_mul (by rw [Nat.mul_comm]; exact hqlt)
    have hgi : (r :: rs)[q / s]? = some (r :: rs)[q / s] := List.getElem?_eq_getElem hdiv
    have hmod : q % s < ((r :: rs)[q / s]).length := by rw [h4 _ (List.getElem_mem hdiv)]; exact Nat.mod_lt _ hpos
    have hgj := List.getElem?_eq_getElem hmod
    have heq := getElem?_flatten_rows h4 hgi hgj
    have hq' : q / s * s + q % s = q := by rw [Nat.mul_comm]; exact Nat.div_add_mod q s
    rw [hq', hq] at heq
    obtain ⟨ad', e3, e4, e5⟩ := h5 _ _ hgi
    cases e3
    have := e5 _ _ hgj
    rw [hq'] at this
    rw [Option.some.inj heq]
    exact this

theorem append_wrap {P : Program} {a : Act} {o : Oper} {t : Nat} {x y : Operand} (hop : o.op = .call ⟨.builtin .append, #[x, y], #[t, t]⟩) {r : Value} {w w' : World} (h : (Builtin.append_ #[t, t] o.type #[a.eval x, a.eval y]).run P w = .ok r w') :
    (execOp a.eval o).run P w = .ok (.value r) w' := by
  have e1 : execOp a.eval o = (do let dd ← resolve a.eval ⟨.builtin .append, #[x, y], #[t, t]⟩ o.type; invoke dd.target dd.args : Sem Next) := by unfold execOp; rw [hop]
  rw [e1]
  simp only [resolve, invoke, builtin, Sem.run_bind, Sem.run_pure, Result.andThen_ok, List.map_toArray, List.map_cons, List.map_nil, h]

/-- append that lays a new block (the capacity does not do), or adds nothing; both operands are only read. -/
theorem D.appendC {t e n0 c0 : Nat} {x y : Operand} {ti te : TI} {p : Value} {A : Option Addr} {rows0 rows : List (List Value)} (hk : k = 3) (hd : o.dst = some d) (hg : gOn ds fr o.guard = true)
    (hop : o.op = .call ⟨.builtin .append, #[x, y], #[t, t]⟩) (ht : cx.T.get t = some ti) (hte : ti.k = .slice e) (he : cx.T.get e = some te) (hs0 : Nat.beq te.size 0 = false)
    (hx : ev fr [] x = some (.slice A n0 c0)) (hy : ev fr [] y = some p) (hs : Sl C te.size (.slice A n0 c0) rows0) (hsl : Sl C te.size p rows) (hgrow : rows = [] ∨ c0 < rows0.length + rows.length)
    (h63 : rows0.length + rows.length ≤ maxLen) (hbytes : (rows0.length + rows.length) * te.bytes ≤ 140737488355328) (hp : ∀ v, okPut n ds ((d, [], v) :: fr) d = true)
    (h : ∀ v' C', C.le C' → Sl C' te.size v' (rows0 ++ rows) → D cx R its ((d, [], v') :: fr) C' L) : D cx R ((i, k, o) :: its) fr C L := by
  have hu : cx.P.underlying t = some (.slice e) := by
    obtain ⟨kk, s1, b1, z1, g1⟩ := ti
    simp only at hte
    subst hte
    exact und_slice cx.hT ht
  obtain ⟨inf, hi, hsize, hby, hz, hzc⟩ := (tab_ok cx.hT he).info
  have hpos : 0 < te.size := Nat.pos_of_ne_zero (fun e => by rw [e] at hs0; cases hs0)
  have hs00 := hs
  obtain ⟨A1, c1, h1v, h2v, h3v, h4v, h5v⟩ := hs00
  cases h1v
  have hsl0 := hsl
  obtain ⟨B, c, hpv, hlc, hcm, hrl, hcells⟩ := hsl0
  have hk1 : Nat.ble k 1 = false := by subst hk; rfl
  by_cases hr0 : rows = []
  · subst hr0
    refine D.eff (S := fun v' C' L' => v' = .slice A rows0.length c0 ∧ C' = C ∧ L' = L) hk1 hd hg hp (fun a hss w _ hw => ?_) (fun v' C' L' hle ⟨e1, e2, e3⟩ => ?_)
    · have hr : (Builtin.append_ #[t, t] o.type #[a.eval x, a.eval y]).run cx.P w = .ok (.slice A rows0.length c0) w := by
        rw [hss _ _ hx, hss _ _ hy, hpv]
        have hfc : (Builtin.firstCells te.size 0 (.slice B 0 c)).run cx.P w = .ok #[] w := by
          cases B <;> simp [Builtin.firstCells, loadCells, loadCellsFrom]
        simp only [List.length_nil]
        cases A with
        | none => simp [Builtin.append_, run_underlying hu, sizeOf, typeInfo, hi, hsize, Builtin.lenOf, hfc, h2v]
        | some a0 => simp [Builtin.append_, run_underlying hu, sizeOf, typeInfo, hi, hsize, Builtin.lenOf, hfc, h2v, storeCells]
      unfold Oper.wp
      rw [append_wrap hop hr]
      exact ⟨_, C, L, rfl, Mem.le.refl _, fun h2 => by omega, hw, rfl, rfl, rfl⟩
    · subst e1; subst e2; subst e3
      exact h _ C' hle (by simpa using hs)
  · have hgrow' : c0 < rows0.length + rows.length := hgrow.resolve_left hr0
    obtain ⟨-, b0, hB, -, hbc⟩ := Sl.flat (hpv ▸ hsl) hpos hr0
    subst hB
    have hm0 : 0 < rows.length := List.length_pos_iff.2 hr0
    have hfl := length_flatten_rows hrl
    have hfl0 := length_flatten_rows h4v
    refine D.freshC (S := fun v' b ob => ∃ (cc : Nat) (rest : Array Value), v' = .slice (some ⟨b, 0, none⟩) (rows0.length + rows.length) cc ∧ ob = .cells (rows0.flatten.toArray ++ rows.flatten.toArray ++ rest) e (0, 0) ∧ rows0.length + rows.length ≤ cc ∧ cc ≤ maxLen) hk1 hd hg hp
      (fun a hss w C1 L1 w1 hw => ?_) (fun v' b ob C' hle hb ⟨cc, rest, e1, e2, e3, e4⟩ => ?_)
    · have hnews : ∀ (j : Nat) (u : Value), rows.flatten[j]? = some u → w.cell? (b0.add j) = some u := fun j u hj => (hbc j u hj).cell hw.sep
      have hsz1 : rows.flatten.length = rows.length * inf.size := by rw [hfl, hsize]
      have hsz0 : rows0.flatten.length = rows0.length * inf.size := by rw [hfl0, hsize]
      refine ⟨.slice (some ⟨w.heap.size, 0, none⟩) (rows0.length + rows.length) (grownCap w (rows0.length + rows.length) c0 e), _, w.drew.alloc (.cells (rows0.flatten.toArray ++ rows.flatten.toArray ++ Builtin.zeroCells te.zv.cells (grownCap w (rows0.length + rows.length) c0 e - (rows0.length + rows.length))) e), ?_, ?_, grownCap w (rows0.length + rows.length) c0 e, Builtin.zeroCells te.zv.cells (grownCap w (rows0.length + rows.length) c0 e - (rows0.length + rows.length)), rfl, rfl, grownCap_ge w _ _ e, grownCap_le_maxLen w _ _ e h63⟩
      · refine append_wrap hop ?_
        rw [hss _ _ hx, hss _ _ hy, hpv]
        cases hA : A with
        | none =>
          subst hA
          have hr00 : rows0 = [] := by
            cases rows0 with
            | nil => rfl
            | cons r rs => obtain ⟨ad, hA, _⟩ := h5v 0 r (by simp); cases hA
          subst hr00
          have hc0 : c0 < rows.length := by simpa using hgrow'
          have hf := run_firstCells_some (P := cx.P) w.drew inf.size rows.length b0 rows.length c rows.flatten hsz1 (by simpa using hnews)
          have hn : rows.length ≠ 0 := by omega
          have h63' : ¬ (9223372036854775807 < (rows.length : Int)) := by simp only [maxLen, List.length_nil] at h63; omega
          have hfits : ¬ (281474976710656 < Builtin.nextslicecap rows.length c0 * inf.bytes) := by
            have hb := hbytes
            simp only [List.length_nil, Nat.zero_add, ← hby] at hb
            have := growslice_fits (need := rows.length) (bytes := inf.bytes) (old := c0) hc0 hb
            omega
          have hroom : ¬ (rows.length ≤ c0) := by omega
          simp [Builtin.append_, run_underlying hu, sizeOf, typeInfo, zeroValue, hi, hz, Builtin.lenOf, hroom, h63', hfits, Question.forced, run_firstCells_none, hf, newRow, grownCap]
        | some a0 =>
          subst hA
          have hold : ∀ (j : Nat) (u : Value), rows0.flatten[j]? = some u → w.cell? (a0.add j) = some u := fun j u hj => by
            cases hr : rows0 with
            | nil => subst hr; simp at hj
            | cons r rs =>
              obtain ⟨-, a1, hA1, -, hac⟩ := Sl.flat hs hpos (by rw [hr]; simp)
              cases hA1
              exact (hac j u hj).cell hw.sep
          exact run_append_grow (P := cx.P) w t o.type e inf te.zv hu hi hz a0 rows0.length c0 rows0.flatten hsz0 hold b0 rows.length c rows.flatten hsz1 hnews (by omega) (by simp only [maxLen] at h63; omega) (by rw [hby]; exact growslice_fits (by omega) hbytes)
      · exact ⟨rfl, rfl, rfl, by simp, fun q hq => heap_alloc_old w.drew _ hq, heap_alloc_new w.drew _, Nat.le_succ _⟩
    · subst e1; subst e2
      have := Sl.ofBlock (rows := rows0 ++ rows) (s := te.size) (c := cc) hb (fun r hr => (List.mem_append.1 hr).elim (h4v r) (hrl r)) (fun j u hj => by
        have hlt := (List.getElem?_eq_some_iff.1 hj).1
        rw [List.flatten_append] at hj hlt
        have e5 : (rows0.flatten.toArray ++ rows.flatten.toArray : Array Value) = (rows0.flatten ++ rows.flatten).toArray := by simp
        rw [e5]
        rw [Array.getElem?_append_left (by simpa using hlt)]
        simpa using hj) (by simpa using e3) e4
      simp only [List.length_append] at this
      exact h _ C' hle this

/-! ### Rows of the function's own that are made -/
theorem St.objArr {w0 : World} {C0 : Mem} {L0 : List Ent} {C : Mem} {L : List Ent} {w : World} {b e s m cap : Nat} {cs xs : List Value} (h : St w0 C0 L0 C (.obj b (.cells ⟨cs⟩ e (0, 0)) :: L) w) (hx : cs.take (m * s) = xs) (hcs : cs.length = cap * s) (hm : m ≤ cap) (hc : cap ≤ maxLen) :
    St w0 C0 L0 C (.arr (.slice (some ⟨b, 0, none⟩) m cap) e s m xs :: L) w := by
  have hb : w.heap[b]? = some (.cells ⟨cs⟩ e (0, 0)) := h.sep.e _ (List.mem_cons_self ..)
  have hd := List.pairwise_cons.1 h.sep.d
  have hown : ∀ k, (Ent.arr (.slice (some ⟨b, 0, none⟩) m cap) e s m xs).own k → k = b := fun k hk => by simp only [Ent.own, Value.ownBlock, Option.some.injEq] at hk; exact hk.symm
  have hle : m * s ≤ cap * s := Nat.mul_le_mul_right _ hm
  refine ⟨⟨h.sep.c, fun x hx' => ?_, List.pairwise_cons.2 ⟨fun y hy k hk => hd.1 y hy k (hown k hk), hd.2⟩, fun k ⟨x, hx', hk⟩ => ?_⟩, h.ev, h.c0, h.cn, fun k ⟨x, hx', hk⟩ => ?_⟩
  · rcases List.mem_cons.1 hx' with rfl | hx'
    · exact ⟨by rw [← hx, List.length_take]; omega, .inr ⟨b, cap, ⟨cs⟩, rfl, Nat.zero_le _, hb, hm, hc, by simpa using hcs, by simpa using hx⟩⟩
    · exact h.sep.e x (by simp [hx'])
  · rcases List.mem_cons.1 hx' with rfl | hx'
    · exact h.sep.n k ⟨_, List.mem_cons_self .., hown k hk⟩
    · exact h.sep.n k ⟨x, by simp [hx'], hk⟩
  · rcases List.mem_cons.1 hx' with rfl | hx'
    · exact h.ln k ⟨_, List.mem_cons_self .., hown k hk⟩
    · exact h.ln k ⟨x, by simp [hx'], hk⟩

theorem D.newArr {e s m cap : Nat} {cs xs : List Value} (hk : Nat.ble k 1 = false) (hd : o.dst = some d) (hg : gOn ds fr o.guard = true) (hp : ∀ v, okPut n ds ((d, [], v) :: fr) d = true)
    (hrun : ∀ a, Sees (ev fr []) a → ∀ w, (execOp a.eval o).run cx.P w = .ok (.value (.slice (some ⟨w.heap.size, 0, none⟩) m cap)) (w.alloc (.cells ⟨cs⟩ e))) (hx : cs.take (m * s) = xs) (hcs : cs.length = cap * s) (hm : m ≤ cap) (hc : cap ≤ maxLen)
    (h : ∀ b, D cx R its ((d, [], .slice (some ⟨b, 0, none⟩) m cap) :: fr) C (.arr (.slice (some ⟨b, 0, none⟩) m cap) e s m xs :: L)) : D cx R ((i, k, o) :: its) fr C L :=
  D.eff (S := fun v C' L' => C' = C ∧ ∃ b, v = .slice (some ⟨b, 0, none⟩) m cap ∧ L' = .arr (.slice (some ⟨b, 0, none⟩) m cap) e s m xs :: L) hk hd hg hp (fun a hs w _ hw => by
    unfold Oper.wp
    rw [hrun a hs w]
    exact ⟨_, C, .arr (.slice (some ⟨w.heap.size, 0, none⟩) m cap) e s m xs :: L, rfl, Mem.le.refl _, fun _ x hx => by simp [hx], St.objArr (St.alloc hw _) hx hcs hm hc, rfl, _, rfl, rfl⟩)
    (fun v C' L' _ ⟨e1, b, e2, e3⟩ => by subst e1; subst e2; subst e3; exact h b)

/-- A slice literal that the function goes on to write. -/
theorem D.buildArr {t e len : Nat} {parts : Array (Nat × Operand)} {ti te : TI} (rows : List (List Value)) (hk : Nat.ble k 1 = false) (hd : o.dst = some d) (hg : gOn ds fr o.guard = true) (hop : o.op = .buildSlice t len parts)
    (ht : cx.T.get t = some ti) (hte : ti.k = .slice e) (he : cx.T.get e = some te) (hrows : rowsO (ev fr []) parts.toList 0 = some rows) (hl : (rows.all fun r => Nat.beq r.length te.size) = true) (hlen : Nat.beq parts.toList.length len = true)
    (hbig : Nat.ble (len * te.size) 16777216 = true) (hs0 : Nat.beq te.size 0 = false) (hp : ∀ v, okPut n ds ((d, [], v) :: fr) d = true)
    (h : ∀ b, D cx R its ((d, [], .slice (some ⟨b, 0, none⟩) rows.length rows.length) :: fr) C (.arr (.slice (some ⟨b, 0, none⟩) rows.length rows.length) e te.size rows.length rows.flatten :: L)) : D cx R ((i, k, o) :: its) fr C L := by
  have hl' : ∀ r ∈ rows, r.length = te.size := fun r hr => Nat.eq_of_beq_eq_true (List.all_eq_true.1 hl r hr)
  have hlen' := Nat.eq_of_beq_eq_true hlen
  rw [Nat.ble_eq] at hbig
  have hpl := (partsO_of_rows hrows hl').2
  have hfl := length_flatten_rows hl'
  have h0 : 0 < te.size := Nat.pos_of_ne_zero (fun e => by rw [e] at hs0; cases hs0)
  refine D.newArr (cs := rows.flatten) hk hd hg hp (fun a hs w => ?_) (List.take_of_length_le (by omega)) hfl (Nat.le_refl _) ?_ h
  · have e1 : execOp a.eval o = (do Pure.pure (.value (← Instr.buildSlice t len (parts.map fun (i, x) => (i, a.eval x)))) : Sem Next) := by unfold execOp; rw [hop]
    rw [e1]
    have e2 : (parts.map fun (i, x) => (i, a.eval x)) = (parts.toList.map fun (i, x) => (i, a.eval x)).toArray := by apply Array.ext'; simp
    rw [e2]
    simp only [Sem.run_bind, run_buildSlice cx.hT ht hte he (fun x v hx => hs x v hx) hrows hl' hlen' hbig w, Result.andThen_ok, Sem.run_pure]
  · rw [hpl, hlen']
    have : len ≤ len * te.size := Nat.le_mul_of_pos_right _ h0
    simp only [maxLen]; omega

def zrow (z : List Value) : Nat → List Value
  | 0 => []
  | m + 1 => z ++ zrow z m
theorem zrow_length (z : List Value) : ∀ m, (zrow z m).length = m * z.length
  | 0 => by simp [zrow]
  | m + 1 => by simp [zrow, zrow_length z m, Nat.add_mul]; omega
theorem zrow_flatten (z : List Value) : ∀ m, zrow z m = (List.replicate m z).flatten
  | 0 => rfl
  | m + 1 => by simp [zrow, zrow_flatten z m, List.replicate_succ]
theorem zrow_get (z : List Value) : ∀ (m q : Nat), q < m * z.length → (zrow z m)[q]? = z[q % z.length]?
  | 0, q, h => by simp at h
  | m + 1, q, h => by
    simp only [zrow]
    by_cases hq : q < z.length
    · rw [List.getElem?_append_left hq, Nat.mod_eq_of_lt hq]
    · rw [List.getElem?_append_right (by omega), zrow_get z m _ (by rw [Nat.add_mul] at h; omega)]
      congr 1
      rw [Nat.mod_eq_sub_mod (by omega : z.length ≤ q)]

theorem made_eq (z : List Value) (m : Nat) : madeCells ⟨z⟩ (m * z.length) = ⟨zrow z m⟩ := by
  apply Array.ext'
  apply List.ext_getElem?
  intro q
  simp only [madeCells, Array.toList_map, Array.toList_range, List.getElem?_map, List.size_toArray]
  by_cases hq : q < m * z.length
  · rw [zrow_get z m q hq, List.getElem?_range hq]
    have hz : 0 < z.length := by
      rcases Nat.eq_zero_or_pos z.length with h | h
      · rw [h] at hq; simp at hq
      · exact h
    have hlt : q % z.length < z.length := Nat.mod_lt _ hz
    simp only [Option.map_some]
    rw [List.getElem?_eq_getElem hlt]
    simp [hlt]
  · rw [List.getElem?_eq_none (by simp; omega), List.getElem?_eq_none (by rw [zrow_length]; omega)]
    rfl

/-- make([]T, l, c) that the function goes on to write. -/
theorem D.makeArr {t e : Nat} {x y : Operand} {kx ky : IntKind} {l c : Nat} {ti te : TI} (hk : Nat.ble k 1 = false) (hd : o.dst = some d) (hg : gOn ds fr o.guard = true) (hop : o.op = .makeSlice t x y)
    (ht : cx.T.get t = some ti) (hte : ti.k = .slice e) (he : cx.T.get e = some te) (hx : ev fr [] x = some (.int kx l)) (hy : ev fr [] y = some (.int ky c)) (hlc : l ≤ c) (hb : te.bytes * c ≤ 281474976710656) (hc : c ≤ maxLen) (hp : ∀ v, okPut n ds ((d, [], v) :: fr) d = true)
    (h : ∀ b, D cx R its ((d, [], .slice (some ⟨b, 0, none⟩) l c) :: fr) C (.arr (.slice (some ⟨b, 0, none⟩) l c) e te.size l (zrow (te.zero.map Zv.val) l) :: L)) : D cx R ((i, k, o) :: its) fr C L := by
  have hu : cx.P.underlying t = some (.slice e) := by
    obtain ⟨kk, s1, b1, z1, g1⟩ := ti
    simp only at hte
    subst hte
    exact und_slice cx.hT ht
  obtain ⟨inf, hi, hsize, hby, hz, hzc⟩ := (tab_ok cx.hT he).info
  have hzl : (te.zero.map Zv.val).length = te.size := by
    have := (tab_ok cx.hT he).zsize
    rw [hzc] at this; simpa using this
  have hsplit : ∀ m q, zrow (te.zero.map Zv.val) (m + q) = zrow (te.zero.map Zv.val) m ++ zrow (te.zero.map Zv.val) q := by
    intro m q
    induction m with
    | zero => simp [zrow]
    | succ m ih => rw [show m + 1 + q = (m + q) + 1 by omega]; simp [zrow, ih]
  refine D.newArr (cs := zrow (te.zero.map Zv.val) c) hk hd hg hp (fun a hs w => ?_) ?_ (by rw [zrow_length, hzl]) hlc hc h
  · have e1 : execOp a.eval o = (do Pure.pure (.value (← Instr.makeSlice t (a.eval x) (a.eval y))) : Sem Next) := by unfold execOp; rw [hop]
    rw [e1, hs _ _ hx, hs _ _ hy]
    have hr := run_make (P := cx.P) w t e inf te.zv hu hi hz kx ky (l : Int) (c : Int) (by omega) (by omega) (by rw [hby, ← Int.natCast_mul]; omega) (by simp only [maxLen] at hc; omega)
    simp only [Int.toNat_natCast] at hr
    rw [hsize, ← hzl, hzc, made_eq] at hr
    simp only [Sem.run_bind, hr, Result.andThen_ok, Sem.run_pure]
  · obtain ⟨q, rfl⟩ : ∃ q, c = l + q := ⟨c - l, by omega⟩
    rw [hsplit]
    exact List.take_left' (by rw [zrow_length, hzl])

/-! ### Arrays behind pointers -/
theorem run_indexA {P : Program} {t e len size : Nat} (hu : P.underlying t = some (.array len e)) {ki : IntKind} {m : Int} (h0 : 0 ≤ m) (h1 : m < len) (a : Addr) {w : World} (hsz : (sizeOf e).run P w = .ok size w) :
    (Instr.indexAt t (.pointer (some a)) (.int ki m)).run P w = .ok (.pointer (some (a.add (m.toNat * size)))) w := by
  simp [Instr.indexAt, asIntOf, run_underlying hu, Instr.sureAddr, hsz, h0, h1]

/-- An element's address in an array at a known place. -/
theorem D.indexP (off : Nat) {t e len b off0 : Nat} {x y : Operand} {ki : IntKind} {m : Int} {ti te : TI} (hk : Nat.ble k 1 = true) (hd : o.dst = some d) (hop : o.op = .indexAddr t x y)
    (hg : gOf ds fr o.guard = some g) (hx : ev fr g x = some (.pointer (some ⟨b, off0, none⟩))) (hy : ev fr g y = some (.int ki m)) (ht : cx.T.get t = some ti) (hte : ti.k = .arr len e) (he : cx.T.get e = some te)
    (h0 : GT ds fr g → 0 ≤ m ∧ m < len ∧ off = off0 + m.toNat * te.size) (hp : okPut n ds ((d, g, .pointer (some ⟨b, off, none⟩)) :: fr) d = true) (hwf : wfG ds fr g = true)
    (h : D cx R its ((d, g, .pointer (some ⟨b, off, none⟩)) :: fr) C L) : D cx R ((i, k, o) :: its) fr C L := by
  have hu : cx.P.underlying t = some (.array len e) := by
    obtain ⟨kk, s1, b1, z1, g1⟩ := ti
    simp only at hte
    subst hte
    exact und_arr cx.hT ht
  refine D.run _ hk hd hg (fun hGT a hs w => ?_) hp hwf h
  obtain ⟨hm0, hml, rfl⟩ := h0 hGT
  have e1 : execOp a.eval o = (do Pure.pure (.value (← Instr.indexAt t (a.eval x) (a.eval y))) : Sem Next) := by unfold execOp; rw [hop]
  rw [e1, hs _ _ hx, hs _ _ hy]
  simp only [Sem.run_bind, run_indexA hu hm0 hml _ (size_of cx.hT he w), Result.andThen_ok, Sem.run_pure, Addr.add_lit]

/-- An element's address in an array that nobody writes. -/
theorem D.indexA {t e len : Nat} {x y : Operand} {ki : IntKind} {m : Int} {p : Value} {cs : List Value} {ti te : TI} (hk : Nat.ble k 1 = true) (hd : o.dst = some d) (hop : o.op = .indexAddr t x y)
    (hg : gOf ds fr o.guard = some g) (hx : ev fr g x = some p) (hy : ev fr g y = some (.int ki m)) (ht : cx.T.get t = some ti) (hte : ti.k = .arr len e) (he : cx.T.get e = some te)
    (hc : GT ds fr g → PtrTo C p cs) (h0 : GT ds fr g → 0 ≤ m ∧ m < len) (hp : ∀ v, okPut n ds ((d, g, v) :: fr) d = true) (hwf : wfG ds fr g = true)
    (h : ∀ p', (GT ds fr g → PtrTo C p' ((cs.drop (m.toNat * te.size)).take te.size)) → D cx R its ((d, g, p') :: fr) C L) : D cx R ((i, k, o) :: its) fr C L := by
  have hu : cx.P.underlying t = some (.array len e) := by
    obtain ⟨kk, s1, b1, z1, g1⟩ := ti
    simp only at hte
    subst hte
    exact und_arr cx.hT ht
  by_cases hG : GT ds fr g
  · obtain ⟨ad, hpe, hpt⟩ := (hc hG).part (m.toNat * te.size) te.size
    refine D.det hk hd hg (hp (.pointer (some (ad.add (m.toNat * te.size))))) hwf (fun _ a hsee κ' hκ w hw => ?_) (h _ (fun _ => hpt))
    have e1 : execOp a.eval o = (do Pure.pure (.value (← Instr.indexAt t (a.eval x) (a.eval y))) : Sem Next) := by unfold execOp; rw [hop]
    unfold Oper.quietAt
    rw [e1, hsee _ _ hx, hsee _ _ hy, hpe]
    simp only [Sem.run_bind, run_indexA hu (h0 hG).1 (h0 hG).2 _ (size_of cx.hT he w), Result.andThen_ok, Sem.run_pure]
    exact ⟨rfl, rfl⟩
  · exact D.det hk hd hg (hp undef) hwf (fun hGT => absurd hGT hG) (h _ (fun hGT => absurd hGT hG))

/-! ### Bytes to a string -/
theorem foldl_push (s : List UInt8) : ∀ acc : ByteArray, (s.map fun b => (b.toNat : Int)).foldl (fun r n => r.push (UInt8.ofNat n.toNat)) acc = acc ++ ⟨s.toArray⟩ := by
  induction s with
  | nil =>
    intro acc
    apply ByteArray.ext
    simp [ByteArray.data_append]
  | cons b s ih =>
    intro acc
    simp only [List.map_cons, List.foldl_cons]
    rw [ih]
    have e : UInt8.ofNat ((b.toNat : Int)).toNat = b := by simp
    rw [e]
    apply ByteArray.ext
    simp [ByteArray.data_append, ByteArray.data_push]

theorem D.strOf {src dst e : Nat} {x : Operand} {p : Value} {s : List UInt8} {ts td te : TI} (hs : Sl C 1 p (s.map fun b => [.int .u8 b.toNat])) (hk : k = 2) (hd : o.dst = some d) (hop : o.op = .convert src dst x) (hg : gOn ds fr o.guard = true) (hx : ev fr [] x = some p)
    (hts : cx.T.get src = some ts) (hks : ts.k = .slice e) (htd : cx.T.get dst = some td) (hkd : td.k = .str) (hte : cx.T.get e = some te) (hke : te.k = .int .u8) (hp : ∀ v, okPut n ds ((d, [], v) :: fr) d = true)
    (h : D cx R its ((d, [], .string ⟨s.toArray⟩) :: fr) C L) : D cx R ((i, k, o) :: its) fr C L :=
  D.eff (S := fun v C' L' => v = .string ⟨s.toArray⟩ ∧ C' = C ∧ L' = L) (by subst hk; rfl) hd hg hp (fun a hss w _ hw => by
    have hus : cx.P.underlying src = some (.slice e) := by
      obtain ⟨kk, s1, b1, z1, g1⟩ := ts
      simp only at hks
      subst hks
      exact und_slice cx.hT hts
    have hud : cx.P.underlying dst = some .string := by
      obtain ⟨kk, s1, b1, z1, g1⟩ := td
      simp only at hkd
      subst hkd
      exact und_str cx.hT htd
    have hue : cx.P.underlying e = some (.int .u8) := by
      obtain ⟨kk, s1, b1, z1, g1⟩ := te
      simp only at hke
      subst hke
      exact und_int cx.hT hte
    have hsl := hs
    obtain ⟨A, c, rfl, hlc, hcm, hrl, hcells⟩ := hsl
    have hex : (execOp a.eval o).run cx.P w = .ok (.value (.string ⟨s.toArray⟩)) w := by
      have e1 : execOp a.eval o = (do Pure.pure (.value (← convert src dst (a.eval x))) : Sem Next) := by unfold execOp; rw [hop]
      rw [e1, hss _ _ hx]
      simp only [Sem.run_bind, run_convert_bytes_string w src dst e _ _ _ hus hue hud]
      cases hse : s with
      | nil =>
        subst hse
        cases A with
        | none => simp [Conv.bytesToString]; rfl
        | some a0 =>
          have hl0 : (loadCells a0 0).run cx.P w = .ok (([] : List Int).map (Value.int .u8)).toArray w := by simp [loadCells, loadCellsFrom]
          have hb := run_bytesToString (P := cx.P) w a0 0 c [] hl0
          simp only [List.map_nil, List.length_nil, hb, Result.andThen_ok]
          rfl
      | cons b bs =>
        obtain ⟨hlen, a0, rfl, -, hac⟩ := Sl.flat hs (by omega) (by rw [hse]; simp)
        rw [flatten_single] at hac
        have hl0 : (loadCells a0 (s.map fun b => [Value.int .u8 b.toNat]).length).run cx.P w = .ok ((s.map fun b => (b.toNat : Int)).map (Value.int .u8)).toArray w := by
          have := run_load_cells (P := cx.P) (w := w) (a := a0) (cs := s.map fun b => Value.int .u8 b.toNat) (fun j v hj => (hac j v hj).cell hw.sep)
          simpa [Function.comp_def] using this
        have hb := run_bytesToString (P := cx.P) w a0 _ c _ hl0
        rw [← hse]
        simp only [hb, Result.andThen_ok, foldl_push, Sem.run_pure]
        congr 3
    unfold Oper.wp
    rw [hex]
    exact ⟨_, C, L, rfl, Mem.le.refl _, fun _ _ h => h, hw, rfl, rfl, rfl⟩)
    (fun v C' L' _ ⟨e1, e2, e3⟩ => by subst e1; subst e2; subst e3; exact h)
end

/-! ### Results that lie in a cell -/
section
variable {F : Fx} {k : List KI} {fr : Fr} {C : Mem} {L : List Ent}
theorem run_cell {w : World} {b t : Nat} {cs : List Value} {tb : TypeId} {fz : Nat × Nat} {ti : TI} {v : Value} (ht : F.cx.T.get t = some ti) (hb : w.heap[b]? = some (.cells ⟨cs⟩ tb fz)) (hv : ofCells ti (cs.take ti.size) = some v) : (loadVar t ⟨b, 0, none⟩).run F.cx.P w = .ok v w := by
  refine run_loadVar F.cx.hT ht (cs := cs.take ti.size) (fun j u hj => ?_) hv
  rw [Addr.add_lit, cell_of_row w b (0 + j) _ tb fz hb]
  rw [List.getElem?_take] at hj
  split at hj
  · simpa using hj
  · cases hj

theorem G.finC {r b t : Nat} {cs : List Value} {tb : TypeId} {fz : Nat × Nat} {ti : TI} {v : Value} (hm : Ent.obj b (.cells ⟨cs⟩ tb fz) ∈ L) (hres : F.fn.results = #[.cell r t]) (hr : ev fr [] (.tmp r) = some (.pointer (some ⟨b, 0, none⟩)))
    (ht : F.cx.T.get t = some ti) (hv : ofCells ti (cs.take ti.size) = some v) (h : F.post v C []) : G F [] .ret fr C L := fun _ a w ha hw => by
  have hr' := ev_spec ha (fun p hp => by cases hp) hr
  simp only [Act.eval] at hr'
  refine bodyPost_ret (v := v) ?_ ha.defers ⟨v, C, [], rfl, St.dropAll hw, h⟩
  have hl := run_cell (F := F) ht (hw.sep.e _ hm) hv
  simp only [Array.getD_eq_getD_getElem?] at hr'
  simp [results, hres, hr', asAddr, hl]

theorem G.finC2 {r s b t : Nat} {cs : List Value} {tb : TypeId} {fz : Nat × Nat} {ti : TI} {u v : Value} (hm : Ent.obj b (.cells ⟨cs⟩ tb fz) ∈ L) (hres : F.fn.results = #[.cell r t, .tmp s]) (hr : ev fr [] (.tmp r) = some (.pointer (some ⟨b, 0, none⟩))) (hs : ev fr [] (.tmp s) = some u)
    (ht : F.cx.T.get t = some ti) (hv : ofCells ti (cs.take ti.size) = some v) (h : F.post (.tuple #[v, u]) C []) : G F [] .ret fr C L := fun _ a w ha hw => by
  have hr' := ev_spec ha (fun p hp => by cases hp) hr
  have hs' := ev_spec ha (fun p hp => by cases hp) hs
  simp only [Act.eval] at hr' hs'
  refine bodyPost_ret (v := .tuple #[v, u]) ?_ ha.defers ⟨_, C, [], rfl, St.dropAll hw, h⟩
  have hl := run_cell (F := F) ht (hw.sep.e _ hm) hv
  simp only [Array.getD_eq_getD_getElem?] at hr' hs'
  simp [results, hres, hr', hs', asAddr, hl]
end
end Go.Jog
