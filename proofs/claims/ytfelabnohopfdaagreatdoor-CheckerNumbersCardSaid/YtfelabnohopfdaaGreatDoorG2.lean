/- Laws that the proofs of this seat share, part 2. -/
import Derived.Test.YtfelabnohopfdaaGreatDoorG1
import Derived.Test.YtfelabnohopfdaaGreatDoorShelf
import Derived.Shelf.SlSortCmp.NoneTotal
import Derived.Shelf.Sort.Plain
import Derived.Shelf.Slices.In.SortNone
import Derived.Shelf.Strings.Split
import Derived.OpenShut
import Derived.ChangeSame
import Derived.ChangeVars
import Derived.Deep.Slices
import Derived.Deep.DeepHandedRow
import Derived.LaidLaws
import Derived.WalkKit
import Derived.ProofKit
import Derived.Shelf.Vars
import Derived.ChangeKeysEq
import Derived.MapKept
import Derived.Test.YtfelabnohopfdaaGreatDoorProg
namespace Go.Jog
open Go

section
variable {cx : Cx} {n : Nat} {ds : List (Option Nat)} {R : Rg n ds} {its : List It} {fr : Fr} {C : Mem} {L : List Ent} {i k d : Nat} {o : Oper} {g : GL} {v : Value}

/-- The cells of a slice that nobody writes, in a row. -/
theorem Sl.flat {C : Mem} {s : Nat} {A : Option Addr} {len c : Nat} {rows : List (List Value)} (hs : Sl C s (.slice A len c) rows) (hpos : 0 < s) (hne : rows ≠ []) :
    len = rows.length ∧ ∃ a, A = some a ∧ a.spot = none ∧ ∀ (q : Nat) (u : Value), rows.flatten[q]? = some u → CCell C (a.add q) u := by
  obtain ⟨A', c', h1, h2, h3, h4, h5⟩ := hs
  cases h1
  refine ⟨rfl, ?_⟩
  cases rows with
  | nil => exact absurd rfl hne
  | cons r rs =>
    obtain ⟨ad, hA, hsp, _⟩ := h5 0 r (by simp)
    subst hA
    refine ⟨ad, rfl, hsp, fun q u hq => ?_⟩
    have hqlt : q < (r :: rs).length * s := by rw [← length_flatten_rows h4]; exact (List.getElem?_eq_some_iff.1 hq).1
    have hdiv : q / s < (r :: rs).length := Nat.div_lt_of_lt_mul (by rw [Nat.mul_comm]; exact hqlt)
    have hgi : (r :: rs)[q / s]? = some (r :: rs)[q / s] := List.getElem?_eq_getElem hdiv
    have hmod : q % s < ((r :: rs)[q / s]).length := by rw [h4 _ (List.getElem_mem hdiv)]; exact Nat.mod_lt _ hpos
    have hgj := List.getElem?_eq_getElem hmod
    have heq := getElem?_flatten_rows h4 hgi hgj
    have hq' : q / s * s + q % s = q := by rw [Nat.mul_comm]; exact Nat.div_add_mod q s
    rw [hq', hq] at heq
    obtain ⟨ad', e3, e4, e5⟩ := h5 _ _ hgi
    cases e3
    have := e5 _ _ hgj
    rw [hq'] at this
    rw [Option.some.inj heq]
    exact this

/-! ### Rows of the function's own that are made -/
theorem St.objArr {w0 : World} {C0 : Mem} {L0 : List Ent} {C : Mem} {L : List Ent} {w : World} {b e s m cap : Nat} {cs xs : List Value} (h : St w0 C0 L0 C (.obj b (.cells ⟨cs⟩ e (0, 0)) :: L) w) (hx : cs.take (m * s) = xs) (hcs : cs.length = cap * s) (hm : m ≤ cap) (hc : cap ≤ maxLen) :
    St w0 C0 L0 C (.arr (.slice (some ⟨b, 0, none⟩) m cap) e s m xs :: L) w := by
  have hb : w.heap[b]? = some (.cells ⟨cs⟩ e (0, 0)) := h.sep.e _ (List.mem_cons_self ..)
  have hd := List.pairwise_cons.1 h.sep.d
  have hown : ∀ k, (Ent.arr (.slice (some ⟨b, 0, none⟩) m cap) e s m xs).own k → k = b := fun k hk => by simp only [Ent.own, Value.ownBlock, Option.some.injEq] at hk; exact hk.symm
  have hle : m * s ≤ cap * s := Nat.mul_le_mul_right _ hm
  refine ⟨⟨h.sep.c, fun x hx' => ?_, List.pairwise_cons.2 ⟨fun y hy k hk => hd.1 y hy k (hown k hk), hd.2⟩, fun k ⟨x, hx', hk⟩ => ?_⟩, h.ev, h.c0, h.cn, fun k ⟨x, hx', hk⟩ => ?_⟩
  · rcases List.mem_cons.1 hx' with rfl | hx'
    · exact ⟨by rw [← hx, List.length_take]; omega, .inr ⟨b, cap, ⟨cs⟩, rfl, Nat.zero_le _, hb, hm, hc, by simpa using hcs, by simpa using hx⟩⟩
    · exact h.sep.e x (by simp [hx'])
  · rcases List.mem_cons.1 hx' with rfl | hx'
    · exact h.sep.n k ⟨_, List.mem_cons_self .., hown k hk⟩
    · exact h.sep.n k ⟨x, by simp [hx'], hk⟩
  · rcases List.mem_cons.1 hx' with rfl | hx'
    · exact h.ln k ⟨_, List.mem_cons_self .., hown k hk⟩
    · exact h.ln k ⟨x, by simp [hx'], hk⟩

theorem D.newArr {e s m cap : Nat} {cs xs : List Value} (hk : Nat.ble k 1 = false) (hd : o.dst = some d) (hg : gOn ds fr o.guard = true) (hp : ∀ v, okPut n ds ((d, [], v) :: fr) d = true)
    (hrun : ∀ a, Sees (ev fr []) a → ∀ w, (execOp a.eval o).run cx.P w = .ok (.value (.slice (some ⟨w.heap.size, 0, none⟩) m cap)) (w.alloc (.cells ⟨cs⟩ e))) (hx : cs.take (m * s) = xs) (hcs : cs.length = cap * s) (hm : m ≤ cap) (hc : cap ≤ maxLen)
    (h : ∀ b, D cx R its ((d, [], .slice (some ⟨b, 0, none⟩) m cap) :: fr) C (.arr (.slice (some ⟨b, 0, none⟩) m cap) e s m xs :: L)) : D cx R ((i, k, o) :: its) fr C L :=
  D.eff (S := fun v C' L' => C' = C ∧ ∃ b, v = .slice (some ⟨b, 0, none⟩) m cap ∧ L' = .arr (.slice (some ⟨b, 0, none⟩) m cap) e s m xs :: L) hk hd hg hp (fun a hs w _ hw => by
    unfold Oper.wp
    rw [hrun a hs w]
    exact ⟨_, C, .arr (.slice (some ⟨w.heap.size, 0, none⟩) m cap) e s m xs :: L, rfl, Mem.le.refl _, fun _ x hx => by simp [hx], St.objArr (St.alloc hw _) hx hcs hm hc, rfl, _, rfl, rfl⟩)
    (fun v C' L' _ ⟨e1, b, e2, e3⟩ => by subst e1; subst e2; subst e3; exact h b)

/-- A slice literal that the function goes on to write. -/
theorem D.buildArr {t e len : Nat} {parts : Array (Nat × Operand)} {ti te : TI} (rows : List (List Value)) (hk : Nat.ble k 1 = false) (hd : o.dst = some d) (hg : gOn ds fr o.guard = true) (hop : o.op = .buildSlice t len parts)
    (ht : cx.T.get t = some ti) (hte : ti.k = .slice e) (he : cx.T.get e = some te) (hrows : rowsO (ev fr []) parts.toList 0 = some rows) (hl : (rows.all fun r => Nat.beq r.length te.size) = true) (hlen : Nat.beq parts.toList.length len = true)
    (hbig : Nat.ble (len * te.size) 16777216 = true) (hs0 : Nat.beq te.size 0 = false) (hp : ∀ v, okPut n ds ((d, [], v) :: fr) d = true)
    (h : ∀ b, D cx R its ((d, [], .slice (some ⟨b, 0, none⟩) rows.length rows.length) :: fr) C (.arr (.slice (some ⟨b, 0, none⟩) rows.length rows.length) e te.size rows.length rows.flatten :: L)) : D cx R ((i, k, o) :: its) fr C L := by
  have hl' : ∀ r ∈ rows, r.length = te.size := fun r hr => Nat.eq_of_beq_eq_true (List.all_eq_true.1 hl r hr)
  have hlen' := Nat.eq_of_beq_eq_true hlen
  rw [Nat.ble_eq] at hbig
  have hpl := (partsO_of_rows hrows hl').2
  have hfl := length_flatten_rows hl'
  have h0 : 0 < te.size := Nat.pos_of_ne_zero (fun e => by rw [e] at hs0; cases hs0)
  refine D.newArr (cs := rows.flatten) hk hd hg hp (fun a hs w => ?_) (List.take_of_length_le (by omega)) hfl (Nat.le_refl _) ?_ h
  · have e1 : execOp a.eval o = (do Pure.pure (.value (← Instr.buildSlice t len (parts.map fun (i, x) => (i, a.eval x)))) : Sem Next) := by unfold execOp; rw [hop]
    rw [e1]
    have e2 : (parts.map fun (i, x) => (i, a.eval x)) = (parts.toList.map fun (i, x) => (i, a.eval x)).toArray := by apply Array.ext'; simp
    rw [e2]
    simp only [Sem.run_bind, run_buildSlice cx.hT ht hte he (fun x v hx => hs x v hx) hrows hl' hlen' hbig w, Result.andThen_ok, Sem.run_pure]
  · rw [hpl, hlen']
    have : len ≤ len * te.size := Nat.le_mul_of_pos_right _ h0
    simp only [maxLen]; omega

def zrow (z : List Value) : Nat → List Value
  | 0 => []
  | m + 1 => z ++ zrow z m
theorem zrow_length (z : List Value) : ∀ m, (zrow z m).length = m * z.length
  | 0 => by simp [zrow]
  | m + 1 => by simp [zrow, zrow_length z m, Nat.add_mul]; omega
theorem zrow_flatten (z : List Value) : ∀ m, zrow z m = (List.replicate m z).flatten
  | 0 => rfl
  | m + 1 => by simp [zrow, zrow_flatten z m, List.replicate_succ]
theorem zrow_get (z : List Value) : ∀ (m q : Nat), q < m * z.length → (zrow z m)[q]? = z[q % z.length]?
  | 0, q, h => by simp at h
  | m + 1, q, h => by
    simp only [zrow]
    by_cases hq : q < z.length
    · rw [List.getElem?_append_left hq, Nat.mod_eq_of_lt hq]
    · rw [List.getElem?_append_right (by omega), zrow_get z m _ (by rw [Nat.add_mul] at h; omega)]
      congr 1
      rw [Nat.mod_eq_sub_mod (by omega : z.length ≤ q)]

theorem made_eq (z : List Value) (m : Nat) : madeCells ⟨z⟩ (m * z.length) = ⟨zrow z m⟩ := by
  apply Array.ext'
  apply List.ext_getElem?
  intro q
  simp only [madeCells, Array.toList_map, Array.toList_range, List.getElem?_map, List.size_toArray]
  by_cases hq : q < m * z.length
  · rw [zrow_get z m q hq, List.getElem?_range hq]
    have hz : 0 < z.length := by
      rcases Nat.eq_zero_or_pos z.length with h | h
      · rw [h] at hq; simp at hq
      · exact h
    have hlt : q % z.length < z.length := Nat.mod_lt _ hz
    simp only [Option.map_some]
    rw [List.getElem?_eq_getElem hlt]
    simp [hlt]
  · rw [List.getElem?_eq_none (by simp; omega), List.getElem?_eq_none (by rw [zrow_length]; omega)]
    rfl

/-- make([]T, l, c) that the function goes on to write. -/
theorem D.makeArr {t e : Nat} {x y : Operand} {kx ky : IntKind} {l c : Nat} {ti te : TI} (hk : Nat.ble k 1 = false) (hd : o.dst = some d) (hg : gOn ds fr o.guard = true) (hop : o.op = .makeSlice t x y)
    (ht : cx.T.get t = some ti) (hte : ti.k = .slice e) (he : cx.T.get e = some te) (hx : ev fr [] x = some (.int kx l)) (hy : ev fr [] y = some (.int ky c)) (hlc : l ≤ c) (hb : te.bytes * c ≤ 281474976710656) (hc : c ≤ maxLen) (hp : ∀ v, okPut n ds ((d, [], v) :: fr) d = true)
    (h : ∀ b, D cx R its ((d, [], .slice (some ⟨b, 0, none⟩) l c) :: fr) C (.arr (.slice (some ⟨b, 0, none⟩) l c) e te.size l (zrow (te.zero.map Zv.val) l) :: L)) : D cx R ((i, k, o) :: its) fr C L := by
  have hu : cx.P.underlying t = some (.slice e) := by
    obtain ⟨kk, s1, b1, z1, g1⟩ := ti
    simp only at hte
    subst hte
    exact und_slice cx.hT ht
  obtain ⟨inf, hi, hsize, hby, hz, hzc⟩ := (tab_ok cx.hT he).info
  have hzl : (te.zero.map Zv.val).length = te.size := by
    have := (tab_ok cx.hT he).zsize
    rw [hzc] at this; simpa using this
  have hsplit : ∀ m q, zrow (te.zero.map Zv.val) (m + q) = zrow (te.zero.map Zv.val) m ++ zrow (te.zero.map Zv.val) q := by
    intro m q
    induction m with
    | zero => simp [zrow]
    | succ m ih => rw [show m + 1 + q = (m + q) + 1 by omega]; simp [zrow, ih]
  refine D.newArr (cs := zrow (te.zero.map Zv.val) c) hk hd hg hp (fun a hs w => ?_) ?_ (by rw [zrow_length, hzl]) hlc hc h
  · have e1 : execOp a.eval o = (do Pure.pure (.value (← Instr.makeSlice t (a.eval x) (a.eval y))) : Sem Next) := by unfold execOp; rw [hop]
    rw [e1, hs _ _ hx, hs _ _ hy]
    have hr := run_make (P := cx.P) w t e inf te.zv hu hi hz kx ky (l : Int) (c : Int) (by omega) (by omega) (by rw [hby, ← Int.natCast_mul]; omega) (by simp only [maxLen] at hc; omega)
    simp only [Int.toNat_natCast] at hr
    rw [hsize, ← hzl, hzc, made_eq] at hr
    simp only [Sem.run_bind, hr, Result.andThen_ok, Sem.run_pure]
  · obtain ⟨q, rfl⟩ : ∃ q, c = l + q := ⟨c - l, by omega⟩
    rw [hsplit]
    exact List.take_left' (by rw [zrow_length, hzl])

/-! ### Bytes to a string -/
theorem foldl_push (s : List UInt8) : ∀ acc : ByteArray, (s.map fun b => (b.toNat : Int)).foldl (fun r n => r.push (UInt8.ofNat n.toNat)) acc = acc ++ ⟨s.toArray⟩ := by
  induction s with
  | nil =>
    intro acc
    apply ByteArray.ext
    simp [ByteArray.data_append]
  | cons b s ih =>
    intro acc
    simp only [List.map_cons, List.foldl_cons]
    rw [ih]
    have e : UInt8.ofNat ((b.toNat : Int)).toNat = b := by simp
    rw [e]
    apply ByteArray.ext
    simp [ByteArray.data_append, ByteArray.data_push]

theorem D.strOf {src dst e : Nat} {x : Operand} {p : Value} {s : List UInt8} {ts td te : TI} (hs : Sl C 1 p (s.map fun b => [.int .u8 b.toNat])) (hk : k = 2) (hd : o.dst = some d) (hop : o.op = .convert src dst x) (hg : gOn ds fr o.guard = true) (hx : ev fr [] x = some p)
    (hts : cx.T.get src = some ts) (hks : ts.k = .slice e) (htd : cx.T.get dst = some td) (hkd : td.k = .str) (hte : cx.T.get e = some te) (hke : te.k = .int .u8) (hp : ∀ v, okPut n ds ((d, [], v) :: fr) d = true)
    (h : D cx R its ((d, [], .string ⟨s.toArray⟩) :: fr) C L) : D cx R ((i, k, o) :: its) fr C L :=
  D.eff (S := fun v C' L' => v = .string ⟨s.toArray⟩ ∧ C' = C ∧ L' = L) (by subst hk; rfl) hd hg hp (fun a hss w _ hw => by
    have hus : cx.P.underlying src = some (.slice e) := by
      obtain ⟨kk, s1, b1, z1, g1⟩ := ts
      simp only at hks
      subst hks
      exact und_slice cx.hT hts
    have hud : cx.P.underlying dst = some .string := by
      obtain ⟨kk, s1, b1, z1, g1⟩ := td
      simp only at hkd
      subst hkd
      exact und_str cx.hT htd
    have hue : cx.P.underlying e = some (.int .u8) := by
      obtain ⟨kk, s1, b1, z1, g1⟩ := te
      simp only at hke
      subst hke
      exact und_int cx.hT hte
    have hsl := hs
    obtain ⟨A, c, rfl, hlc, hcm, hrl, hcells⟩ := hsl
    have hex : (execOp a.eval o).run cx.P w = .ok (.value (.string ⟨s.toArray⟩)) w := by
      have e1 : execOp a.eval o = (do Pure.pure (.value (← convert src dst (a.eval x))) : Sem Next) := by unfold execOp; rw [hop]
      rw [e1, hss _ _ hx]
      simp only [Sem.run_bind, run_convert_bytes_string w src dst e _ _ _ hus hue hud]
      cases hse : s with
      | nil =>
        subst hse
        cases A with
        | none => simp [Conv.bytesToString]; rfl
        | some a0 =>
          have hl0 : (loadCells a0 0).run cx.P w = .ok (([] : List Int).map (Value.int .u8)).toArray w := by simp [loadCells, loadCellsFrom]
          have hb := run_bytesToString (P := cx.P) w a0 0 c [] hl0
          simp only [List.map_nil, List.length_nil, hb, Result.andThen_ok]
          rfl
      | cons b bs =>
        obtain ⟨hlen, a0, rfl, -, hac⟩ := Sl.flat hs (by omega) (by rw [hse]; simp)
        rw [flatten_single] at hac
        have hl0 : (loadCells a0 (s.map fun b => [Value.int .u8 b.toNat]).length).run cx.P w = .ok ((s.map fun b => (b.toNat : Int)).map (Value.int .u8)).toArray w := by
          have := run_load_cells (P := cx.P) (w := w) (a := a0) (cs := s.map fun b => Value.int .u8 b.toNat) (fun j v hj => (hac j v hj).cell hw.sep)
          simpa [Function.comp_def] using this
        have hb := run_bytesToString (P := cx.P) w a0 _ c _ hl0
        rw [← hse]
        simp only [hb, Result.andThen_ok, foldl_push, Sem.run_pure]
        congr 3
    unfold Oper.wp
    rw [hex]
    exact ⟨_, C, L, rfl, Mem.le.refl _, fun _ _ h => h, hw, rfl, rfl, rfl⟩)
    (fun v C' L' _ ⟨e1, e2, e3⟩ => by subst e1; subst e2; subst e3; exact h)
end

/-! ### Results that lie in a cell -/
section
variable {F : Fx} {k : List KI} {fr : Fr} {C : Mem} {L : List Ent}
theorem run_cell {w : World} {b t : Nat} {cs : List Value} {tb : TypeId} {fz : Nat × Nat} {ti : TI} {v : Value} (ht : F.cx.T.get t = some ti) (hb : w.heap[b]? = some (.cells ⟨cs⟩ tb fz)) (hv : ofCells ti (cs.take ti.size) = some v) : (loadVar t ⟨b, 0, none⟩).run F.cx.P w = .ok v w := by
  refine run_loadVar F.cx.hT ht (cs := cs.take ti.size) (fun j u hj => ?_) hv
  rw [Addr.add_lit, cell_of_row w b (0 + j) _ tb fz hb]
  rw [List.getElem?_take] at hj
  split at hj
  · simpa using hj
  · cases hj

theorem G.finC {r b t : Nat} {cs : List Value} {tb : TypeId} {fz : Nat × Nat} {ti : TI} {v : Value} (hm : Ent.obj b (.cells ⟨cs⟩ tb fz) ∈ L) (hres : F.fn.results = #[.cell r t]) (hr : ev fr [] (.tmp r) = some (.pointer (some ⟨b, 0, none⟩)))
    (ht : F.cx.T.get t = some ti) (hv : ofCells ti (cs.take ti.size) = some v) (h : F.post v C []) (he : F.ends := by exact ⟨fun _ _ _ h => h, rfl⟩) : G F [] .ret fr C L := fun _ a w ha hw => by
  refine he.kq ?_
  have hr' := ev_spec ha (fun p hp => by cases hp) hr
  simp only [Act.eval] at hr'
  refine bodyPost_ret (v := v) ?_ (ha.defers.trans he.2) ⟨v, C, [], rfl, St.dropAll hw, h⟩
  have hl := run_cell (F := F) ht (hw.sep.e _ hm) hv
  simp only [Array.getD_eq_getD_getElem?] at hr'
  simp [results, hres, hr', asAddr, hl]

theorem G.finC2 {r s b t : Nat} {cs : List Value} {tb : TypeId} {fz : Nat × Nat} {ti : TI} {u v : Value} (hm : Ent.obj b (.cells ⟨cs⟩ tb fz) ∈ L) (hres : F.fn.results = #[.cell r t, .tmp s]) (hr : ev fr [] (.tmp r) = some (.pointer (some ⟨b, 0, none⟩))) (hs : ev fr [] (.tmp s) = some u)
    (ht : F.cx.T.get t = some ti) (hv : ofCells ti (cs.take ti.size) = some v) (h : F.post (.tuple #[v, u]) C []) (he : F.ends := by exact ⟨fun _ _ _ h => h, rfl⟩) : G F [] .ret fr C L := fun _ a w ha hw => by
  refine he.kq ?_
  have hr' := ev_spec ha (fun p hp => by cases hp) hr
  have hs' := ev_spec ha (fun p hp => by cases hp) hs
  simp only [Act.eval] at hr' hs'
  refine bodyPost_ret (v := .tuple #[v, u]) ?_ (ha.defers.trans he.2) ⟨_, C, [], rfl, St.dropAll hw, h⟩
  have hl := run_cell (F := F) ht (hw.sep.e _ hm) hv
  simp only [Array.getD_eq_getD_getElem?] at hr' hs'
  simp [results, hres, hr', hs', asAddr, hl]
end
end Go.Jog
namespace Go.Jog
open Go Go.Proofs Go.Shelf

section
variable {α : Type} [Inhabited α]

theorem heap_put {β : Type} [Inhabited β] (enc : β → Value) (w : World) (m blk : Nat) (F : Array β) (os : Array Obj) {cur : Array Value} {e : TypeId} {fz : Nat × Nat} (hb : w.heap[blk]? = some (.cells cur e fz)) :
    (Sort.grow (Sort.putRow enc (Sort.ahead w m) blk 0 F) os).heap[blk]? = some (.cells (Sort.putCells enc 0 F cur) e fz) := by
  have hlt := lt_of_heap hb
  rw [Sort.heap_grow_old _ _ (by simpa [Sort.ahead] using hlt)]
  simp [Sort.putRow, Sort.mapBlock, Sort.ahead, Array.getElem?_modify, hb, Sort.onCells]

theorem heap_put_other {β : Type} [Inhabited β] (enc : β → Value) (w : World) (m blk : Nat) (F : Array β) (os : Array Obj) {q : Nat} (hq : q < w.heap.size) (hne : q ≠ blk) :
    (Sort.grow (Sort.putRow enc (Sort.ahead w m) blk 0 F) os).heap[q]? = w.heap[q]? := by
  rw [Sort.heap_grow_old _ _ (by simpa [Sort.ahead] using hq)]
  simp [Sort.putRow, Sort.mapBlock, Sort.ahead, Array.getElem?_modify, Ne.symm hne]

theorem putCells_take {β : Type} [Inhabited β] (enc : β → Value) (F : Array β) (cur : Array Value) (h : F.size ≤ cur.size) : (Sort.putCells enc 0 F cur).toList.take F.size = F.toList.map enc := by
  apply List.ext_getElem?
  intro q
  rw [List.getElem?_take]
  split
  · rename_i hq
    simp only [Sort.putCells, Array.getElem?_toList, Array.getElem?_mapIdx, List.getElem?_map, Nat.zero_le, Nat.zero_add, true_and, hq, if_true, Nat.sub_zero]
    rw [Array.getElem?_eq_getElem (by omega : q < cur.size), Array.getElem?_eq_getElem hq]
    simp [hq]
  · rename_i hq
    rw [List.getElem?_eq_none (by simp; omega)]

/-- What a sort of an owned row leaves. -/
theorem St.sorted {β : Type} [Inhabited β] (enc : β → Value) {C : Mem} {w : World} {e s n g cap m : Nat} {xs : List Value} (hw : Sep C [.arr (.slice (some ⟨g, 0, none⟩) n cap) e s n xs] w) (F : Array β) (hF : F.size = n * s) (os : Array Obj) :
    St w C [.arr (.slice (some ⟨g, 0, none⟩) n cap) e s n xs] C [.arr (.slice (some ⟨g, 0, none⟩) n cap) e s n (F.toList.map enc)] (Sort.grow (Sort.putRow enc (Sort.ahead w m) g 0 F) os) := by
  have hown : w.ownsRow 0 e s (.slice (some ⟨g, 0, none⟩) n cap) n xs := hw.e _ (List.mem_cons_self ..)
  obtain ⟨_, h1, h2, cur, hb, hcs, _⟩ := ownsRow_block hown
  have hle : n * s ≤ cap * s := Nat.mul_le_mul_right _ h1
  refine St.turn (St.start hw) ⟨by simpa using hF, .inr ⟨g, cap, _, rfl, Nat.zero_le _, heap_put enc w m g F os hb, h1, h2, by simpa [Sort.putCells] using hcs, ?_⟩⟩ ⟨rfl, rfl, rfl, by simp [Sort.ahead], fun q hq hne => heap_put_other enc w m g F os hq (fun h => hne (by simp [Value.ownBlock, h]))⟩ ?_ (.inl rfl)
  · rw [← hF]; exact putCells_take enc F cur (by rw [hF, hcs]; exact hle)
  · show w.drawn ≤ w.drawn + m
    omega

end


section
variable {P : Program} {ρ : Ren}

theorem flatten_map1 {β : Type} (f : β → Value) : ∀ l : List β, (l.map fun x => [f x]).flatten = l.map f
  | [] => rfl
  | x :: l => by simp [flatten_map1 f l]

def strV (s : List UInt8) : Value := .string ⟨s.toArray⟩

/-- slices.Sort at strings. -/
theorem sortStr_fn (L190 : Lays.n190 P ρ) (C : Mem) (v : Value) (e : TypeId) (l : List (List UInt8)) (hsz : l.length < 4611686018427387904) (hen : Enters P (ρ.f 190) = true) :
    Fn P (ρ.f 190) [v] C [.arr v e 1 l.length (l.map strV)] fun u C' L' => u = .tuple #[] ∧ L' = [.arr v e 1 l.length ((l.mergeSort fun x y => decide (x ≤ y)).map strV)] := by
  refine ⟨hen, fun w hw => ?_⟩
  have hown : w.ownsRow 0 e 1 v l.length (l.map strV) := hw.e _ (List.mem_cons_self ..)
  rcases hown.2 with ⟨rfl, hz⟩ | ⟨b, cap, cur, rfl, _, hb, h2, h3, h4, h5⟩
  · have hl : l = [] := List.eq_nil_of_length_eq_zero hz
    subst hl
    refine (Any.slices_Sort_string_none L190 none 0 w).mono fun e' w' ⟨h1, h2⟩ => ?_
    subst h2
    exact ⟨_, C, _, h1, St.start hw, rfl, by simp⟩
  · have hblk : b < w.heap.size := lt_of_heap hb
    have hH : Sort.Holds encStr w b 0 l.toArray := by
      intro j hj
      simp only [List.size_toArray] at hj
      have hj2 : j < cur.size := by omega
      have hc : (l.map strV)[j]? = some cur[j] := by
        rw [← h5, List.getElem?_take, if_pos (by omega), Array.getElem?_toList, Array.getElem?_eq_getElem hj2]
      rw [List.getElem?_map, List.getElem?_eq_getElem hj] at hc
      simp only [Option.map_some, Option.some.injEq] at hc
      refine ⟨?_, ?_⟩
      · rw [Nat.zero_add, cell_of_row w b j cur e (0, 0) hb, getElem!_pos l.toArray j (by simpa using hj)]
        rw [Array.getElem?_eq_getElem hj2, ← hc]
        simp [strV]
      · simp [World.frozen?, hb]
    refine (Any.slices_Sort_string L190 b 0 cap l w hH hblk hsz).mono fun e' w' ⟨h1, m, os, hw'⟩ => ?_
    subst hw'
    have hS := St.sorted (m := m) encStr hw (l.mergeSort fun x y => decide (x ≤ y)).toArray (by simp) os
    exact ⟨_, C, _, h1, hS, rfl, rfl⟩

/-- A text, cut at each byte c. -/
def splitOn (c : UInt8) : List UInt8 → List (List UInt8)
  | [] => [[]]
  | b :: s => if b = c then [] :: splitOn c s else match splitOn c s with
    | [] => [[b]]
    | p :: ps => (b :: p) :: ps

theorem splitOn_ne (c : UInt8) : ∀ s, splitOn c s ≠ []
  | [] => by simp [splitOn]
  | b :: s => by
    simp only [splitOn]
    split
    · simp
    · split <;> simp

theorem splitOn_miss (c : UInt8) : ∀ s, c ∉ s → splitOn c s = [s]
  | [], _ => rfl
  | b :: s, h => by
    have h1 : b ≠ c := fun e => h (by simp [e])
    have h2 := splitOn_miss c s (fun e => h (by simp [e]))
    simp [splitOn, h1, h2]

theorem splitOn_hit (c : UInt8) : ∀ (pre post : List UInt8), c ∉ pre → splitOn c (pre ++ c :: post) = pre :: splitOn c post
  | [], post, _ => by simp [splitOn]
  | b :: pre, post, h => by
    have h1 : b ≠ c := fun e => h (by simp [e])
    have h2 := splitOn_hit c pre post (fun e => h (by simp [e]))
    simp [splitOn, h1, h2]

theorem index_one (c : UInt8) : ∀ s : List UInt8, (c ∉ s ∧ Lib.index s [c] = -1) ∨ ∃ pre post, s = pre ++ c :: post ∧ c ∉ pre ∧ Lib.index s [c] = pre.length
  | [] => .inl ⟨by simp, by simp [Lib.index]⟩
  | b :: s => by
    by_cases hb : b = c
    · subst hb
      exact .inr ⟨[], s, rfl, by simp, by simp [Lib.index]⟩
    · have hp : ([c] : List UInt8).isPrefixOf (b :: s) = false := by simp [List.isPrefixOf, Ne.symm hb]
      have hix : Lib.index (b :: s) [c] = if Lib.index s [c] == -1 then -1 else Lib.index s [c] + 1 := by rw [Lib.index, hp]; simp
      rcases index_one c s with ⟨h1, h2⟩ | ⟨pre, post, h1, h2, h3⟩
      · exact .inl ⟨by simp [Ne.symm hb, h1], by rw [hix, h2]; rfl⟩
      · refine .inr ⟨b :: pre, post, by simp [h1], by simp [Ne.symm hb, h2], ?_⟩
        rw [hix, h3]
        have : ¬ ((pre.length : Int) == -1) = true := by simp
        rw [if_neg this]; simp

theorem splitK_one (c : UInt8) : ∀ (k : Nat) (s : List UInt8), s.count c = k → Lib.splitK [c] 0 k s = splitOn c s
  | 0, s, h => by
    rw [splitOn_miss c s (List.count_eq_zero.1 h)]; rfl
  | k + 1, s, h => by
    rcases index_one c s with ⟨h1, _⟩ | ⟨pre, post, h1, h2, h3⟩
    · rw [List.count_eq_zero.2 h1] at h; omega
    · have hk : post.count c = k := by
        rw [h1, List.count_append, List.count_eq_zero.2 h2, List.count_cons_self] at h
        omega
      unfold Lib.splitK
      rw [h3]
      have hne : ¬ ((pre.length : Int) == -1) = true := by simp
      rw [if_neg hne]
      subst h1
      have e1 : ((pre.length : Int).toNat + 0) = pre.length := by simp
      have e2 : (pre ++ c :: post).drop ((pre.length : Int).toNat + [c].length) = post := by simp
      rw [e1, e2, splitK_one c k post hk, splitOn_hit c pre post h2]
      simp

theorem splitOn_length (c : UInt8) : ∀ s : List UInt8, (splitOn c s).length = s.count c + 1
  | [] => by simp [splitOn]
  | b :: s => by
    have ih := splitOn_length c s
    simp only [splitOn]
    by_cases hb : b = c
    · subst hb; simp [ih]
    · rw [if_neg hb]
      have hb' : ¬ (b == c) = true := by simpa using hb
      rw [List.count_cons_of_ne hb]
      cases h : splitOn c s with
      | nil => exact absurd h (splitOn_ne c s)
      | cons p ps => rw [h] at ih; simpa using ih

/-- strings.Split at one byte. -/
theorem split_fn (L146 : Lays.n146 P ρ) (hi9 : (P.info? (ρ.t 9)).map (fun i => (i.zero, i.size, i.bytes)) = some (some (.string ByteArray.empty), 1, 16)) (C : Mem) (s : List UInt8) (c : UInt8) {m : Int} (hs : s.length < 4294967281) (hm : CCell C ⟨ρ.g 1, 0, none⟩ (.int .i64 m)) (hen : Enters P (ρ.f 146) = true) :
    Pur P (ρ.f 146) [strV s, strV [c]] C fun v C' => Sl C' 1 v ((splitOn c s).map fun p => [strV p]) := by
  refine ⟨hen, fun w hw => ?_⟩
  have h := Any.strings_Split L146 hi9 ⟨s.toArray⟩ ⟨#[c]⟩ m w (by simpa [ByteArray.size] using hs) (hm.cell hw) (by simp [ByteArray.size])
  have hcnt : Lib.countB ⟨s.toArray⟩ ⟨#[c]⟩ = s.count c := by
    show Lib.count s [c] = _
    exact Lib.count_one c s
  have hsp : (Lib.splitB ⟨#[c]⟩ 0 (s.count c) ⟨s.toArray⟩).map (fun b => b.data.toList) = splitOn c s := by
    rw [Lib.splitB_data]
    exact splitK_one c _ s rfl
  have hcells : (Lib.splitB ⟨#[c]⟩ 0 (s.count c) ⟨s.toArray⟩).map Value.string = (splitOn c s).map strV := by
    rw [← hsp, List.map_map]
    apply List.map_congr_left
    intro b _
    obtain ⟨⟨b⟩⟩ := b
    rfl
  rw [hcnt, hcells] at h
  refine h.mono fun e' w' ⟨h1, hw'⟩ => ?_
  subst hw'
  have h2 := (St.alloc (St.start hw) (.cells ((splitOn c s).map strV).toArray (ρ.t 9))).freeze
  refine ⟨_, _, _, h1, h2.2, rfl, ?_⟩
  have hlen := splitOn_length c s
  have hc : s.count c ≤ s.length := List.count_le_length
  have hsl := Sl.ofBlock (C := C.set w.heap.size (.cells ((splitOn c s).map strV).toArray (ρ.t 9))) (c := s.count c + 1) (Mem.set_self C w.heap.size _) (rows := (splitOn c s).map fun p => [strV p]) (s := 1) (by simp) (fun j u hj => by rw [flatten_map1] at hj; simpa using hj) (by simp [hlen]) (by simp only [maxLen]; omega)
  simpa [hlen] using hsl
end
end Go.Jog
namespace Go.Jog
open Go

section
variable {α : Type} {enc : α → List Value} {s : Nat}

theorem rows_len (hk : ∀ x, (enc x).length = s) (l : List α) : (l.map enc).flatten.length = l.length * s := by
  have := length_flatten_rows (s := s) (rows := l.map enc) (fun r hr => by obtain ⟨x, _, rfl⟩ := List.mem_map.1 hr; exact hk x)
  simpa using this

theorem flatten_take_drop (hk : ∀ x, (enc x).length = s) : ∀ (l : List α) (i : Nat), (l.map enc).flatten.take (i * s) = ((l.take i).map enc).flatten ∧ (l.map enc).flatten.drop (i * s) = ((l.drop i).map enc).flatten
  | [], i => by simp
  | x :: l, 0 => by simp
  | x :: l, i + 1 => by
    obtain ⟨h1, h2⟩ := flatten_take_drop hk l i
    have e : (i + 1) * s = s + i * s := by rw [Nat.add_mul]; omega
    have hx := hk x
    constructor
    · rw [e, List.map_cons, List.flatten_cons, List.take_append, hx, List.take_of_length_le (by omega), show s + i * s - s = i * s by omega, h1]
      simp
    · rw [e, List.map_cons, List.flatten_cons, List.drop_append, hx, List.drop_eq_nil_of_le (by omega), show s + i * s - s = i * s by omega, h2]
      simp

/-- Element i, read. -/
theorem row_read (hk : ∀ x, (enc x).length = s) {l : List α} {i : Nat} {x : α} (h : l[i]? = some x) : ((l.map enc).flatten.drop (i * s)).take s = enc x := by
  rw [(flatten_take_drop hk l i).2]
  obtain ⟨h1, h2⟩ := List.getElem?_eq_some_iff.1 h
  rw [List.drop_eq_getElem_cons h1, h2, List.map_cons, List.flatten_cons]
  rw [List.take_append, hk, List.take_of_length_le (by rw [hk]; omega)]
  simp

/-- Element i, written. -/
theorem row_write (hk : ∀ x, (enc x).length = s) {l : List α} {i : Nat} (x : α) (h : i < l.length) : storeInto (l.map enc).flatten (enc x) (i * s) = ((l.set i x).map enc).flatten := by
  unfold storeInto
  rw [hk, (flatten_take_drop hk l i).1, show i * s + s = (i + 1) * s by rw [Nat.add_mul]; omega, (flatten_take_drop hk l (i + 1)).2]
  rw [List.set_eq_take_append_cons_drop, if_pos h]
  simp

end

section
variable {cx : Cx} {n : Nat} {ds : List (Option Nat)} {R : Rg n ds} {its : List It} {fr : Fr} {C : Mem} {L : List Ent} {i k d : Nat} {o : Oper} {g : GL} {v : Value}

theorem zero_cells (z : List Value) (m : Nat) : (Builtin.zeroCells ⟨z⟩ m).toList = zrow z m := by
  have := made_eq z m
  unfold madeCells at this
  simp only [Builtin.zeroCells, List.size_toArray] at this ⊢
  rw [this]

/-- clear over the end of a row of the function's own. -/
theorem D.clear (j : Nat) {t e g0 off ln lc size len m cap : Nat} {x : Operand} {A : Option Addr} {xs : List Value} {ti te : TI} (hk : k = 3) (hg : gOn ds fr o.guard = true) (hd : o.dst = none)
    (hop : o.op = .call ⟨.builtin .clear, #[x], #[t]⟩) (hx : ev fr [] x = some (.slice A ln lc)) (hm : L[j]? = some (.arr (.slice (some ⟨g0, 0, none⟩) m cap) e size len xs))
    (ht : cx.T.get t = some ti) (hte : ti.k = .slice e) (he : cx.T.get e = some te) (hsz : te.size = size) (h1 : (te.zero.map Zv.val).all oneB = true) (hA : ln = 0 ∨ A = some ⟨g0, off, none⟩) (hfit : off + ln * size ≤ xs.length)
    (h : D cx R its fr C (.arr (.slice (some ⟨g0, 0, none⟩) m cap) e size len (storeInto xs (zrow (te.zero.map Zv.val) ln) off) :: L.eraseIdx j)) : D cx R ((i, k, o) :: its) fr C L := by
  have hu : cx.P.underlying t = some (.slice e) := by
    obtain ⟨kk, s1, b1, z1, g1⟩ := ti
    simp only at hte
    subst hte
    exact und_slice cx.hT ht
  have hzl : (te.zero.map Zv.val).length = te.size := by
    have := (tab_ok cx.hT he).zsize
    rw [(tab_ok cx.hT he).info.choose_spec.2.2.2.2] at this; simpa using this
  have hzc : te.zv.cells = (te.zero.map Zv.val).toArray := (tab_ok cx.hT he).info.choose_spec.2.2.2.2
  refine D.eff0 (S := fun C' L' => C' = C ∧ L' = .arr (.slice (some ⟨g0, 0, none⟩) m cap) e size len (storeInto xs (zrow (te.zero.map Zv.val) ln) off) :: L.eraseIdx j) (by subst hk; rfl) hg (fun a hs w _ hw => ?_) (fun C' L' _ ⟨e1, e2⟩ => by subst e1; subst e2; exact h)
  have hw' := St.perm hw (ent_perm hm)
  have hown : w.ownsRow 0 e size (.slice (some ⟨g0, 0, none⟩) m cap) len xs := hw'.sep.e _ (List.mem_cons_self ..)
  have e1 : execOp a.eval o = (do let dd ← resolve a.eval ⟨.builtin .clear, #[x], #[t]⟩ o.type; invoke dd.target dd.args : Sem Next) := by unfold execOp; rw [hop]
  by_cases hl0 : ln = 0
  · subst hl0
    have hex : (execOp a.eval o).run cx.P w = .ok (.value (.tuple #[])) w := by
      rw [e1]
      have hc : (Builtin.clear_ #[t] o.type #[.slice A 0 lc]).run cx.P w = .ok (.tuple #[]) w := by
        cases A <;> simp [Builtin.clear_, run_underlying hu]
      simp only [resolve, invoke, builtin, Sem.run_bind, Sem.run_pure, Result.andThen_ok, List.map_toArray, List.map_cons, List.map_nil, hs _ _ hx, hc]
    have e3 : storeInto xs (zrow (te.zero.map Zv.val) 0) off = xs := by simp [storeInto, zrow]
    unfold Oper.wp
    rw [hex, e3]
    exact ⟨C, .arr (.slice (some ⟨g0, 0, none⟩) m cap) e size len xs :: L.eraseIdx j, by rw [hd]; rfl, Mem.le.refl _, fun h2 => by omega, hw', rfl, rfl⟩
  · obtain rfl := hA.resolve_left hl0
    obtain ⟨rfl, hlc, hcm, cur, hb, hcs, htake⟩ := ownsRow_block hown
    obtain ⟨cur⟩ := cur
    simp only [List.size_toArray] at hcs
    simp only at htake
    have hxl : xs.length = m * size := hown.1
    have hcl : m * size ≤ cur.length := by rw [hcs]; exact Nat.mul_le_mul_right _ hlc
    have hzr : (zrow (te.zero.map Zv.val) ln).length = ln * size := by rw [zrow_length, hzl, hsz]
    have h1' : ∀ u ∈ zrow (te.zero.map Zv.val) ln, u.oneCell' = true := fun u hu => by
      rw [zrow_flatten] at hu
      obtain ⟨r, hr, hur⟩ := List.mem_flatten.1 hu
      rw [List.eq_of_mem_replicate hr] at hur
      exact oneB_spec (List.all_eq_true.1 h1 u hur)
    have hst := run_storeCells_at cx.P g0 off e (zrow (te.zero.map Zv.val) ln) 0 ⟨cur⟩ w hb (by simp [hzr]; omega) h1'
    simp only [Nat.add_zero] at hst
    have hc : (Builtin.clear_ #[t] o.type #[.slice (some ⟨g0, off, none⟩) ln lc]).run cx.P w = .ok (.tuple #[]) (w.setRow g0 (storeInto cur (zrow (te.zero.map Zv.val) ln) off).toArray) := by
      have hz : (Builtin.zeroCells te.zv.cells ln).toList = zrow (te.zero.map Zv.val) ln := by rw [hzc]; exact zero_cells _ _
      cases hln : ln with
      | zero => exact absurd hln hl0
      | succ q =>
        rw [hln] at hz hst
        simp [Builtin.clear_, run_underlying hu, zero_of cx.hT he w, hz, hst, storeInto]
    have hex : (execOp a.eval o).run cx.P w = .ok (.value (.tuple #[])) (w.setRow g0 (storeInto cur (zrow (te.zero.map Zv.val) ln) off).toArray) := by
      rw [e1]
      simp only [resolve, invoke, builtin, Sem.run_bind, Sem.run_pure, Result.andThen_ok, List.map_toArray, List.map_cons, List.map_nil, hs _ _ hx, hc]
    have hlen : (storeInto cur (zrow (te.zero.map Zv.val) ln) off).length = cur.length := storeInto_length (by rw [hzr]; omega)
    have hnew : (w.setRow g0 (storeInto cur (zrow (te.zero.map Zv.val) ln) off).toArray).ownsRow 0 e size (.slice (some ⟨g0, 0, none⟩) m cap) m (storeInto xs (zrow (te.zero.map Zv.val) ln) off) :=
      ⟨by rw [storeInto_length (by rw [hzr]; omega)]; exact hxl, .inr ⟨g0, cap, _, rfl, Nat.zero_le _, setRow_heap w g0 _ _ e _ hb, hlc, hcm, by simp [hlen, hcs], by
            rw [← htake]; exact storeInto_take cur _ off (m * size) (by rw [hzr]; omega) hcl⟩⟩
    unfold Oper.wp
    rw [hex]
    refine ⟨C, .arr (.slice (some ⟨g0, 0, none⟩) m cap) e size m (storeInto xs (zrow (te.zero.map Zv.val) ln) off) :: L.eraseIdx j, by rw [hd]; rfl, Mem.le.refl _, fun h2 => by omega,
      St.turn hw' hnew ⟨rfl, rfl, rfl, by simp, fun k _ hk => setRow_other w g0 k _ (fun e => hk (by simp [Value.ownBlock, e]))⟩ (Nat.le_refl _) (.inl rfl), rfl, rfl⟩
end

/- An element's address in a slice that begins at a known place. -/
section
variable {cx : Cx} {n : Nat} {ds : List (Option Nat)} {R : Rg n ds} {its : List It} {fr : Fr} {C : Mem} {L : List Ent} {i k d : Nat} {o : Oper} {g : GL} {v : Value}
theorem D.indexSo (off : Nat) {t e g0 o0 len cap size : Nat} {x y : Operand} {ki : IntKind} {m : Int} {ti te : TI} (hk : Nat.ble k 1 = true) (hd : o.dst = some d) (hop : o.op = .indexAddr t x y)
    (hg : gOf ds fr o.guard = some g) (hx : ev fr g x = some (.slice (some ⟨g0, o0, none⟩) len cap)) (hy : ev fr g y = some (.int ki m)) (ht : cx.T.get t = some ti) (hte : ti.k = .slice e) (he : cx.T.get e = some te) (hsz : te.size = size)
    (h0 : GT ds fr g → 0 ≤ m ∧ m < len ∧ off = o0 + m.toNat * size) (hp : okPut n ds ((d, g, .pointer (some ⟨g0, off, none⟩)) :: fr) d = true) (hwf : wfG ds fr g = true)
    (h : D cx R its ((d, g, .pointer (some ⟨g0, off, none⟩)) :: fr) C L) : D cx R ((i, k, o) :: its) fr C L := by
  have hu : cx.P.underlying t = some (.slice e) := by
    obtain ⟨kk, s1, b1, z1, g1⟩ := ti
    simp only at hte
    subst hte
    exact und_slice cx.hT ht
  refine D.run _ hk hd hg (fun hGT a hs w => ?_) hp hwf h
  obtain ⟨hm0, hml, rfl⟩ := h0 hGT
  have e1 : execOp a.eval o = (do Pure.pure (.value (← Instr.indexAt t (a.eval x) (a.eval y))) : Sem Next) := by unfold execOp; rw [hop]
  rw [e1, hs _ _ hx, hs _ _ hy]
  have h2 := size_of cx.hT he w
  rw [hsz] at h2
  simp [Instr.indexAt, asIntOf, run_underlying hu, h2, hm0, hml, Addr.add_lit]
end

/- A whole array, or a part of it, as a slice. -/
section
variable {cx : Cx} {n : Nat} {ds : List (Option Nat)} {R : Rg n ds} {its : List It} {fr : Fr} {C : Mem} {L : List Ent} {i k d : Nat} {o : Oper} {g : GL} {v : Value}
end

section
variable {α : Type}
end

section
variable {cx : Cx} {n : Nat} {ds : List (Option Nat)} {R : Rg n ds} {its : List It} {fr : Fr} {C : Mem} {L : List Ent} {i k d : Nat} {o : Oper} {g : GL} {v : Value}
/-- A slice literal that nobody writes, with its capacity. -/
theorem D.buildSliceV {t e len : Nat} {parts : Array (Nat × Operand)} {ti te : TI} (rows : List (List Value)) (hk : Nat.ble k 1 = false) (hd : o.dst = some d) (hg : gOn ds fr o.guard = true) (hop : o.op = .buildSlice t len parts)
    (ht : cx.T.get t = some ti) (hte : ti.k = .slice e) (he : cx.T.get e = some te) (hrows : rowsO (ev fr []) parts.toList 0 = some rows) (hl : (rows.all fun r => Nat.beq r.length te.size) = true) (hlen : Nat.beq parts.toList.length len = true)
    (hbig : Nat.ble (len * te.size) 16777216 = true) (hs0 : Nat.beq te.size 0 = false) (hp : ∀ v, okPut n ds ((d, [], v) :: fr) d = true)
    (h : ∀ b C', C.le C' → Sl C' te.size (.slice (some ⟨b, 0, none⟩) rows.length rows.length) rows → D cx R its ((d, [], .slice (some ⟨b, 0, none⟩) rows.length rows.length) :: fr) C' L) : D cx R ((i, k, o) :: its) fr C L := by
  have hl' : ∀ r ∈ rows, r.length = te.size := fun r hr => Nat.eq_of_beq_eq_true (List.all_eq_true.1 hl r hr)
  have hlen' := Nat.eq_of_beq_eq_true hlen
  rw [Nat.ble_eq] at hbig
  have hpl := (partsO_of_rows hrows hl').2
  refine D.newConst (f := fun b => .slice (some ⟨b, 0, none⟩) rows.length rows.length) (ob := .cells ⟨rows.flatten⟩ e) hk hd hg hp (fun a hs w => ?_) (fun b C' hle hb => ?_)
  · have e1 : execOp a.eval o = (do Pure.pure (.value (← Instr.buildSlice t len (parts.map fun (i, x) => (i, a.eval x)))) : Sem Next) := by unfold execOp; rw [hop]
    rw [e1]
    have e2 : (parts.map fun (i, x) => (i, a.eval x)) = (parts.toList.map fun (i, x) => (i, a.eval x)).toArray := by apply Array.ext'; simp
    rw [e2]
    simp only [Sem.run_bind, run_buildSlice cx.hT ht hte he (fun x v hx => hs x v hx) hrows hl' hlen' hbig w, Result.andThen_ok, Sem.run_pure]
  · refine h b C' hle (Sl.ofBlock hb hl' (fun j v hj => by simpa using hj) (Nat.le_refl _) ?_)
    rw [hpl, hlen']
    have h0 : 0 < te.size := Nat.pos_of_ne_zero (fun e => by rw [e] at hs0; cases hs0)
    have : len ≤ len * te.size := Nat.le_mul_of_pos_right _ h0
    simp only [maxLen]; omega
/-- A conversion between integer kinds, in whatever class. -/
theorem D.convQ {src dst : Nat} {x : Operand} {ki kj : IntKind} {p c : Int} {ts td : TI} (hk : Nat.ble k 1 = true) (hd : o.dst = some d) (hop : o.op = .convert src dst x) (hg : gOf ds fr o.guard = some g) (hx : ev fr g x = some (.int ki p))
    (hts : cx.T.get src = some ts) (htd : cx.T.get dst = some td) (hkd : td.k = .int kj) (hc : kj.wrap p = c) (hp : okPut n ds ((d, g, .int kj c) :: fr) d = true) (hwf : wfG ds fr g = true)
    (h : D cx R its ((d, g, .int kj c) :: fr) C L) : D cx R ((i, k, o) :: its) fr C L :=
  D.run _ hk hd hg (fun _ a hs w => by
    have e1 : execOp a.eval o = (do Pure.pure (.value (← convert src dst (a.eval x))) : Sem Next) := by unfold execOp; rw [hop]
    rw [e1, hs _ _ hx]
    obtain ⟨du, h1, h2⟩ := (tab_ok cx.hT hts).und
    obtain ⟨kk, s1, b1, z1, g1⟩ := td
    simp only at hkd
    subst hkd
    subst hc
    simp [convert, run_underlying h1, run_underlying (und_int cx.hT htd), Conv.intToInt]) hp hwf h
end

theorem Sl.cap {C : Mem} {k : Nat} {A : Option Addr} {m c : Nat} {xs : List (List Value)} (h : Sl C k (.slice A m c) xs) : m = xs.length ∧ m ≤ c ∧ c ≤ maxLen := by
  obtain ⟨_, _, hv, h1, h2, _⟩ := h
  simp only [Value.slice.injEq] at hv
  obtain ⟨_, rfl, rfl⟩ := hv
  exact ⟨rfl, h1, h2⟩

theorem G.eqL {F : Fx} {k : List KI} {fr : Fr} {C : Mem} {L L' : List Ent} {e : Exit} (hL : L = L') (h : G F k e fr C L') : G F k e fr C L := hL ▸ h

/-! ### Equal neighbours -/
section
variable {α : Type} [DecidableEq α]
def dedup (x : α) : List α → List α
  | [] => []
  | y :: l => if y = x then dedup x l else y :: dedup y l
def compact : List α → List α
  | [] => []
  | x :: l => x :: dedup x l

theorem dedup_snoc : ∀ (l : List α) (x y : α), dedup x (l ++ [y]) = if (x :: l).getLast (by simp) = y then dedup x l else dedup x l ++ [y]
  | [], x, y => by
    by_cases h : y = x
    · subst h; simp [dedup]
    · simp [dedup, h, Ne.symm h]
  | z :: l, x, y => by
    simp only [List.cons_append, dedup]
    by_cases h : z = x
    · subst h
      simp only [if_true, dedup_snoc l z y, List.getLast_cons_cons]
    · simp only [if_neg h, dedup_snoc l z y, List.getLast_cons_cons]
      split <;> simp
theorem compact_snoc {l : List α} {y z : α} {i : Nat} (hz : l[i]? = some z) (hi : i + 1 = l.length) : compact (l ++ [y]) = if z = y then compact l else compact l ++ [y] := by
  cases l with
  | nil => simp at hz
  | cons x l =>
    have hl : (x :: l).getLast (by simp) = z := by
      rw [List.getLast_eq_getElem]
      obtain ⟨h1, h2⟩ := List.getElem?_eq_some_iff.1 hz
      rw [← h2]
      congr 1
      simp only [List.length_cons] at hi ⊢
      omega
    simp only [List.cons_append, compact, dedup_snoc, hl]
    split <;> simp
theorem compact_length_le : ∀ (l : List α), (compact l).length ≤ l.length := by
  have hd : ∀ (l : List α) (x : α), (dedup x l).length ≤ l.length := by
    intro l
    induction l with
    | nil => intro x; simp [dedup]
    | cons y l ih =>
      intro x
      simp only [dedup]
      split
      · have := ih x; simp; omega
      · have := ih y; simp; omega
  intro l
  cases l with
  | nil => simp [compact]
  | cons x l => have := hd l x; simp [compact]; omega
theorem dedup_mem : ∀ {l : List α} {x y : α}, y ∈ dedup x l → y ∈ l
  | [], x, y, h => by simp [dedup] at h
  | z :: l, x, y, h => by
    simp only [dedup] at h
    split at h
    · exact List.mem_cons_of_mem _ (dedup_mem h)
    · rcases List.mem_cons.1 h with rfl | h
      · exact List.mem_cons_self ..
      · exact List.mem_cons_of_mem _ (dedup_mem h)
theorem compact_mem {l : List α} {y : α} (h : y ∈ compact l) : y ∈ l := by
  cases l with
  | nil => exact h
  | cons x l =>
    simp only [compact, List.mem_cons] at h
    rcases h with rfl | h
    · exact List.mem_cons_self ..
    · exact List.mem_cons_of_mem _ (dedup_mem h)
/-- While no two neighbours are equal nothing is left out. -/
theorem compact_id : ∀ {l : List α}, (∀ i x y, l[i]? = some x → l[i + 1]? = some y → x ≠ y) → compact l = l := by
  have hd : ∀ (l : List α) (x : α), (∀ i a b, (x :: l)[i]? = some a → (x :: l)[i + 1]? = some b → a ≠ b) → dedup x l = l := by
    intro l
    induction l with
    | nil => intro x _; rfl
    | cons y l ih =>
      intro x h
      have h0 := h 0 x y (by simp) (by simp)
      simp only [dedup, if_neg (Ne.symm h0)]
      rw [ih y (fun i a b ha hb => h (i + 1) a b (by simpa using ha) (by simpa using hb))]
  intro l h
  cases l with
  | nil => rfl
  | cons x l => simp only [compact]; rw [hd l x h]
end
end Go.Jog
namespace Go.Jog
open Go Go.RowKit Go.WideShapes Go.ChangeShapes Go.Deep

/-- All that lies in a world, as memory that nobody writes. -/
def memOf (W : World) : Mem := fun k => W.heap[k]?
theorem sep_memOf (W : World) : Sep (memOf W) [] W := ⟨fun _ _ h => h, fun x hx => (by cases hx), List.Pairwise.nil, fun k ⟨x, hx, _⟩ => (by cases hx)⟩
theorem ccell_of {W : World} {a : Addr} {v : Value} (h : W.cell? a = some v) : CCell (memOf W) a v := by
  unfold World.cell? at h
  split at h
  · rename_i c t fz hb
    split at h
    · cases h
    · rename_i hs
      exact ⟨by simpa using hs, c, t, fz, hb, h⟩
  · cases h

theorem gives_below {P : Program} {f : FuncId} {args : List Value} {W : World} {v : Value} (h : Gives P f args (memOf W) v) : Calls P f args.toArray W fun e W' => e = .returned v ∧ RowKit.Below W.heap.size W W' :=
  (h.2 W (sep_memOf W)).mono fun e W' ⟨u, C', L', he, hst, hu, hl⟩ => ⟨by rw [he, hu], hst.ev.below (fun k ⟨x, hx, _⟩ => by cases hx)⟩

theorem list_of {α : Type} {p : Nat → α → Prop} : ∀ {n : Nat}, (∀ i, i < n → ∃ x, p i x) → ∃ l : List α, l.length = n ∧ ∀ i x, l[i]? = some x → p i x
  | 0, _ => ⟨[], rfl, fun i x h => by simp at h⟩
  | n + 1, h => by
    obtain ⟨l, h1, h2⟩ := list_of (n := n) (fun i hi => h i (by omega))
    obtain ⟨x, hx⟩ := h n (by omega)
    refine ⟨l ++ [x], by simp [h1], fun i y hy => ?_⟩
    by_cases hi : i < n
    · rw [List.getElem?_append_left (by omega)] at hy
      exact h2 i y hy
    · rw [List.getElem?_append_right (by omega)] at hy
      have : i - l.length = 0 := by
        rcases Nat.eq_zero_or_pos (i - l.length) with h0 | h0
        · exact h0
        · rw [List.getElem?_eq_none (by simp; omega)] at hy; cases hy
      rw [this] at hy
      simp only [List.getElem?_cons_zero, Option.some.injEq] at hy
      subst hy
      have hin : i = n := by omega
      subst hin; exact hx

section
variable {H : Type} {enc : TypeId × Value → H} {P : Program} {W : World} {spare : Nat → Bool} {held : Bool}
/-- An argument that is a slice, its elements read as what they are. -/
theorem sl_of_arg {α : Type} {t e : TypeId} {k : Nat} {fuel : Nat} {v : Value} {x : DataW H × List MemPlace} (en : α → List Value) (ht : P.underlying t = some (.slice e)) (hc : P.cellsOf e = k) (hk0 : k ≠ 0)
    (hel : ∀ (n : Nat) (cs : List Value) (y : DataW H × List MemPlace), cs.length = k → DataW.trod enc P W 0 spare held n e cs = some y → ∃ z : α, cs = en z)
    (h : DataW.trod enc P W 0 spare held fuel t [v] = some x) : ∃ l : List α, Sl (memOf W) k v (l.map en) := by
  rcases open_slice ht h with ⟨h1, _⟩ | ⟨a, len, cap, m, n, D, Pl, hcs, _, hl, hm, hmm, _, hx⟩
  · simp only [List.cons.injEq, and_true] at h1
    subst h1
    exact ⟨[], Sl.nil _ _⟩
  · simp only [List.cons.injEq, and_true] at hcs
    subst hcs
    have hlm : len ≤ m := by rw [hmm]; split <;> omega
    rw [hc] at hx
    obtain ⟨l, hlen, hl2⟩ := list_of (α := α) (n := len) (p := fun i z => W.cells? 0 (a.add (i * k)) k = some (en z)) (fun i hi => by
      obtain ⟨cs', h1, h2⟩ := hx i (by omega)
      obtain ⟨_, h3, _⟩ := World.cells?_some h1
      obtain ⟨z, rfl⟩ := hel n cs' _ h3 h2
      exact ⟨z, h1⟩)
    refine ⟨l, some a, cap, by simp [hlen], by simp [hlen]; exact hl, hm, fun r hr => ?_, fun i r hi => ?_⟩
    · obtain ⟨z, hz, rfl⟩ := List.mem_map.1 hr
      obtain ⟨i, hi⟩ := List.getElem?_of_mem hz
      exact (World.cells?_some (hl2 i z hi)).2.1
    · rw [List.getElem?_map] at hi
      cases hz : l[i]? with
      | none => rw [hz] at hi; cases hi
      | some z =>
        rw [hz] at hi
        simp only [Option.map_some, Option.some.injEq] at hi
        subst hi
        obtain ⟨_, h4, h5⟩ := World.cells?_some (hl2 i z hz)
        have key : ∀ j u, (en z)[j]? = some u → W.cell? ((a.add (i * k)).add j) = some u := fun j u hj => by
          have hjk : j < k := by rw [← h4]; exact (List.getElem?_eq_some_iff.1 hj).1
          rw [h5 j hjk]; exact hj
        have hs : a.spot = none := by
          have h0 : 0 < l.length := by have := (List.getElem?_eq_some_iff.1 hz).1; omega
          obtain ⟨z0, hz0⟩ : ∃ z0, l[0]? = some z0 := ⟨l[0], List.getElem?_eq_getElem h0⟩
          obtain ⟨_, h6, h7⟩ := World.cells?_some (hl2 0 z0 hz0)
          have h8 := h7 0 (by omega)
          rw [List.getElem?_eq_getElem (by omega)] at h8
          have h9 := (ccell_of h8).1
          simpa [Addr.add] using h9
        exact ⟨a, rfl, hs, fun j u hj => by
          have := ccell_of (key j u hj)
          rwa [add_add a _ _ hs] at this⟩

theorem post_of_below {f : Func} {s : ChangeSpec} {apart fresh handsOn again : Bool} {W W' : World} {args : Array Value} {v : Value} {ds gs : List (DataW H)} {before pa pv : List MemPlace}
    (hW : DataW.Whole enc P f.params.toList s.vars apart W args.toList ds gs before)
    (hres : ∀ (b : Nat) (sp : Nat → Bool) (hd : Bool), DataW.TrodAll enc P W' b sp hd f.resultTypes.toList (v.resultList f.resultTypes.size) (s.fn H (ds ++ gs)).results [])
    (hargs : ∀ sp : Nat → Bool, (∀ p ∈ before, sp p.block = true) → DataW.TrodAll enc P W' 0 sp true f.params.toList args.toList (s.fn H (ds ++ gs)).args pa)
    (hvars : ∀ sp : Nat → Bool, (∀ p ∈ before, sp p.block = true) → DataW.TrodVars enc P W' sp s.vars (s.fn H (ds ++ gs)).vars pv)
    (hps : before = pa ++ pv) (hb : RowKit.Below W.heap.size W W')
    (hok : ∀ (j : Nat) (t : TypeId) (r : Value), f.resultTypes[j]? = some t → (v.resultList f.resultTypes.size)[j]? = some r → Value.okWide P W' .any 0 t r) :
    s.post enc P f apart fresh handsOn again W args v W' := by
  have hlt : ∀ p ∈ before, p.block < W.heap.size := fun p hp => hW.lt p hp
  have hold : ∀ p ∈ before, (fun b => decide (b < W.heap.size)) p.block = true := fun p hp => by simpa using hlt p hp
  refine ⟨ds, gs, before, [], pa, pv, hW, hres _ _ _, hargs _ hold, hvars _ hold, World.keptBut_mono (fun p hp => ⟨hp, ?_⟩) (hb.frame (· ∈ before)), fun _ => ?_⟩
  · rw [hps, List.mem_append] at hp
    exact Or.inr hp
  · obtain ⟨_, _, _, _, _, hz, hn⟩ := hW
    refine ⟨hok, _, _, ([] ++ pa) ++ pv, ⟨[] ++ pa, pv, trodAll_append (hargs _ (fun _ _ => rfl)) (hres _ _ _), hvars _ (fun _ _ => rfl), rfl, ?_, ?_⟩, ?_⟩
    · intro b off hp
      have hin : MemPlace.cell b off ∈ before := by rw [hps]; simpa using hp
      rw [hb.frozen (hlt _ hin)]
      exact hz b off hin
    · intro ha
      have := hn ha
      rw [hps] at this
      simpa using this
    · intro p hp _
      rw [hps]
      simpa using hp
end
end Go.Jog
namespace Go.Jog
section
variable {α : Type}
def cat (f : Nat → List α) : Nat → List α
  | 0 => []
  | n + 1 => cat f n ++ f n
theorem cat_succ (f : Nat → List α) (n : Nat) : cat f (n + 1) = cat f n ++ f n := rfl
theorem cat_length_mul {f : Nat → List α} {m : Nat} (hf : ∀ i, (f i).length ≤ m) : ∀ n, (cat f n).length ≤ n * m
  | 0 => by simp [cat]
  | n + 1 => by
    have := cat_length_mul hf n
    have := hf n
    rw [cat_succ, List.length_append, Nat.add_mul]; omega
theorem mem_cat {f : Nat → List α} {x : α} : ∀ {n : Nat}, x ∈ cat f n ↔ ∃ i, i < n ∧ x ∈ f i
  | 0 => by simp [cat]
  | n + 1 => by
    rw [cat_succ, List.mem_append, mem_cat]
    constructor
    · rintro (⟨i, h1, h2⟩ | h)
      · exact ⟨i, by omega, h2⟩
      · exact ⟨n, by omega, h⟩
    · rintro ⟨i, h1, h2⟩
      by_cases e : i = n
      · subst e; exact .inr h2
      · exact .inl ⟨i, by omega, h2⟩
theorem cat_pairwise {f : Nat → List α} {r : α → α → Prop} : ∀ {n : Nat}, (∀ i, i < n → (f i).Pairwise r) → (∀ i j, i < j → j < n → ∀ x ∈ f i, ∀ y ∈ f j, r x y) → (cat f n).Pairwise r
  | 0, _, _ => List.Pairwise.nil
  | n + 1, h1, h2 => by
    rw [cat_succ, List.pairwise_append]
    refine ⟨cat_pairwise (fun i hi => h1 i (by omega)) (fun i j hi hj => h2 i j hi (by omega)), h1 n (by omega), fun x hx y hy => ?_⟩
    obtain ⟨i, hi, hx⟩ := mem_cat.1 hx
    exact h2 i n hi (by omega) x hx y hy
def oneIf (b : Bool) (x : α) : List α := if b = true then [x] else []
theorem oneIf_true {b : Bool} {x : α} (h : b = true) : oneIf b x = [x] := if_pos h
theorem oneIf_false {b : Bool} {x : α} (h : b = false) : oneIf b x = [] := if_neg (by rw [h]; decide)
theorem oneIf_len (b : Bool) (x : α) : (oneIf b x).length ≤ 1 := by unfold oneIf; split <;> simp
theorem mem_oneIf {b : Bool} {x y : α} : y ∈ oneIf b x ↔ b = true ∧ y = x := by unfold oneIf; split <;> simp_all
end
end Go.Jog
namespace Go.Jog
open Go
section
variable {cx : Cx} {n : Nat} {ds : List (Option Nat)} {R : Rg n ds} {its : List It} {fr : Fr} {C : Mem} {L : List Ent} {i k d : Nat} {o : Oper} {g : GL} {v : Value}
end
end Go.Jog
namespace Go.Jog
open Go

/-- A tree of orders: lists of operations, and forks. -/
inductive OT where
  | fin (π : List Nat)
  | cut (π : List Nat) (t : OT)
  | alt (i : Nat) (t : OT) (r : OT)
  | stop

section
variable {P : Program} {ops : Array Oper} {ι : Type} {cls : ι → World → Prop} {le : ι → ι → Prop} {md : Region.Mode}

def DT (P : Program) (ops : Array Oper) (cls : ι → World → Prop) (le : ι → ι → Prop) (kd : Nat → Nat) (Post : Act → ι → Prop) : OT → Act → ι → Prop
  | .fin π => DU P ops cls le kd Post π
  | .cut π t => DU P ops cls le kd (DT P ops cls le kd Post t) π
  | .alt i t r => fun a κ => stepU P ops cls le (kd i) i (DT P ops cls le kd Post t) a κ ∧ DT P ops cls le kd Post r a κ
  | .stop => fun _ _ => True

def headsT : OT → List Nat
  | .alt i _ r => i :: headsT r
  | _ => []

def nodeT : OT → Bool
  | .fin _ | .cut _ _ => true
  | _ => false

def listAll : List Nat → Array Bool → Array Bool
  | [], listed => listed
  | i :: π, listed => listAll π (listed.setIfInBounds i true)

def simP (md : Region.Mode) (ops : Array Oper) (kd : Nat → Nat) : List Nat → Array Bool → Bool
  | [], _ => true
  | i :: π, listed => (bif Nat.ble (kd i) 1 then (Region.ready md ops listed).contains i && freeT md ops kd listed i else (Region.ready md ops listed == [i])) && simP md ops kd π (listed.setIfInBounds i true)

def simT (md : Region.Mode) (ops : Array Oper) (kd : Nat → Nat) : OT → Nat → Array Bool → Bool
  | .fin π, f, listed => Nat.beq π.length f && (simP md ops kd π listed && (Region.ready md ops (listAll π listed)).isEmpty)
  | .cut π t, f, listed => Nat.blt π.length f && (simP md ops kd π listed && ((Region.ready md ops (listAll π listed)).all (fun i => (headsT t).contains i) && (!(Region.ready md ops (listAll π listed)).isEmpty && simT md ops kd t (f - π.length) (listAll π listed))))
  | .alt i t r, f, listed => (Nat.blt 0 f && (nodeT t && simT md ops kd t (f - 1) (listed.setIfInBounds i true))) && simT md ops kd r f listed
  | .stop, _, _ => true

/-- A derivation along a list, and then on. -/
theorem wpAnyU_of_DUP (htrans : ∀ a b c, le a b → le b c → le a c) {kd : Nat → Nat} {Post K : Act → ι → Prop} (hsel : Region.noSelect ops = true) {f : Nat} :
    ∀ (π : List Nat) (listed : Array Bool) (a : Act) (κ : ι), Closed md ops listed → simP md ops kd π listed = true → (∀ a κ, Closed md ops (listAll π listed) → K a κ → wpAnyU P md ops cls le kd Post f (listAll π listed) a κ) →
      DU P ops cls le kd K π a κ → wpAnyU P md ops cls le kd Post (π.length + f) listed a κ
  | [], listed, a, κ, hcl, _, hK, h => by
    rw [List.length_nil, Nat.zero_add]
    exact hK a κ hcl h
  | i :: π, listed, a, κ, hcl, hB, hK, h => by
    simp only [simP, Bool.and_eq_true] at hB
    obtain ⟨hB1, hB2⟩ := hB
    rw [List.length_cons, Nat.add_right_comm]
    by_cases hk : kd i ≤ 1
    · have hb : Nat.ble (kd i) 1 = true := by rw [Nat.ble_eq]; exact hk
      rw [hb] at hB1
      simp only [cond_true, Bool.and_eq_true, List.contains_iff_mem] at hB1
      obtain ⟨hr, hf⟩ := hB1
      simp only [DU] at h
      unfold stepU at h
      cases ho : ops[i]? with
      | none => simp only [ho] at h
      | some o =>
        simp only [ho, hk, if_true] at h
        obtain ⟨v, hy, hK'⟩ := h
        refine wpAnyU_first (F := ops.size) htrans ho hk (fun j o cs b => Region.noSelect_spec hsel j o cs b) (π.length + f) listed a κ hcl (fun j oj hj hne hun => ?_) hr hy
          (wpAnyU_of_DUP htrans hsel π _ _ κ (hcl.set hr) hB2 hK hK')
        simp only [freeT, ho, List.all_eq_true, List.mem_range] at hf
        have := hf j (Array.getElem?_eq_some_iff.1 hj).1
        simp only [hj, Bool.or_eq_true, beq_iff_eq, hne, false_or, hun, Bool.false_eq_true, Bool.and_eq_true, Nat.ble_eq] at this
        rcases this with h1 | h1
        · exact .inr h1
        · exact .inl h1
    · have hb : Nat.ble (kd i) 1 = false := by
        cases hx : Nat.ble (kd i) 1 with
        | false => rfl
        | true => exact absurd (by rw [Nat.ble_eq] at hx; exact hx) hk
      rw [hb] at hB1
      simp only [cond_false, beq_iff_eq] at hB1
      have hmem : i ∈ Region.ready md ops listed := by rw [hB1]; simp
      refine ⟨fun h0 => (by rw [h0] at hB1; cases hB1), fun j hj => ?_⟩
      rw [hB1] at hj
      obtain rfl : j = i := by simpa using hj
      exact stepU_mono (fun a' κ' h' => wpAnyU_of_DUP htrans hsel π _ a' κ' (hcl.set hmem) hB2 hK h') h

theorem wpAnyU_of_DT (htrans : ∀ a b c, le a b → le b c → le a c) {kd : Nat → Nat} {Post : Act → ι → Prop} (hsel : Region.noSelect ops = true) :
    ∀ (t : OT) (f : Nat) (listed : Array Bool) (a : Act) (κ : ι), Closed md ops listed → simT md ops kd t f listed = true → DT P ops cls le kd Post t a κ →
      (match t with
        | .fin _ | .cut _ _ => wpAnyU P md ops cls le kd Post f listed a κ
        | _ => ∀ i ∈ headsT t, i ∈ Region.ready md ops listed → (∃ f', f = f' + 1 ∧ stepU P ops cls le (kd i) i (wpAnyU P md ops cls le kd Post f' (listed.setIfInBounds i true)) a κ))
  | .fin π, f, listed, a, κ, hcl, hB, h => by
    simp only [simT, Bool.and_eq_true, List.isEmpty_iff] at hB
    obtain ⟨hl, hB1, hB2⟩ := hB
    have := Nat.eq_of_beq_eq_true hl
    have h2 := wpAnyU_of_DUP (f := 0) htrans hsel π listed a κ hcl hB1 (fun a κ _ hK => ⟨hB2, hK⟩) h
    rw [Nat.add_zero, this] at h2
    exact h2
  | .cut π t, f, listed, a, κ, hcl, hB, h => by
    simp only [simT, Bool.and_eq_true, List.all_eq_true] at hB
    obtain ⟨hl, hB1, hB2, hB3, hB4⟩ := hB
    rw [Nat.blt_eq] at hl
    have hne : Region.ready md ops (listAll π listed) ≠ [] := fun e => by rw [e] at hB3; cases hB3
    have h2 := wpAnyU_of_DUP (f := f - π.length) htrans hsel π listed a κ hcl hB1 (fun a κ hcl' hK => by
      have ih := wpAnyU_of_DT htrans hsel t (f - π.length) (listAll π listed) a κ hcl' hB4 hK
      obtain ⟨f', hf'⟩ : ∃ f', f - π.length = f' + 1 := ⟨f - π.length - 1, by omega⟩
      rw [hf'] at ih ⊢
      refine ⟨fun h0 => absurd h0 hne, fun i hi => ?_⟩
      have hc := hB2 i hi
      rw [List.contains_iff_mem] at hc
      cases t with
      | fin π' => simp [headsT] at hc
      | cut π' t' => simp [headsT] at hc
      | stop => simp [headsT] at hc
      | alt j t' r' =>
        obtain ⟨f2, hf2, hs⟩ := ih i hc hi
        obtain rfl : f' = f2 := by omega
        exact hs) h
    rw [show π.length + (f - π.length) = f by omega] at h2
    exact h2
  | .alt j t r, f, listed, a, κ, hcl, hB, h => by
    simp only [simT, Bool.and_eq_true] at hB
    obtain ⟨⟨hf, hnd, hB1⟩, hB2⟩ := hB
    rw [Nat.blt_eq] at hf
    intro i hi hr
    simp only [headsT, List.mem_cons] at hi
    by_cases hij : i = j
    · subst hij
      refine ⟨f - 1, by omega, stepU_mono (fun a' κ' h' => ?_) h.1⟩
      have ih := wpAnyU_of_DT htrans hsel t (f - 1) _ a' κ' (hcl.set hr) hB1 h'
      cases t with
      | fin π' => exact ih
      | cut π' t' => exact ih
      | stop => cases hnd
      | alt j' t' r' => cases hnd
    · have h2 := hi.resolve_left hij
      have ih := wpAnyU_of_DT htrans hsel r f listed a κ hcl hB2 h.2
      cases r with
      | fin π' => simp [headsT] at h2
      | cut π' t' => simp [headsT] at h2
      | stop => simp [headsT] at h2
      | alt j' t' r' => exact ih i h2 hr
  | .stop, _, _, _, _, _, _, _ => by
    intro i hi
    simp [headsT] at hi

/-- A region that draws its order. -/
theorem wp_region_simT (W : Cw P) (hnd' : W.nd ops) (hrefl : ∀ κ, le κ κ) (htrans : ∀ a b c, le a b → le b c → le a c) {kd : Nat → Nat} {Post : Act → ι → Prop} {id : Nat} {Q : Exit → Act → World → Prop} {a : Act} {w : World} {κ : ι}
    (hm : P.follows .mixedOrders = true) (hw : cls κ { w with drawn := w.drawn + 1 }) (t : OT) (hnd : nodeT t = true)
    (hB : (Region.noSelect ops && simT .any ops kd t ops.size (Array.replicate ops.size false)) = true) (h : DT P ops cls le kd Post t a κ)
    (hN : ∀ a κ w, Post a κ → cls κ w → Q .normal a w) : W.wp (Code.region id ops true) Q a w := by
  simp only [Bool.and_eq_true] at hB
  obtain ⟨hs, hsim⟩ := hB
  refine W.any hm hnd' ?_
  have h0 : Closed .any ops (Array.replicate ops.size false) := fun j oj _ hl => by
    rcases Nat.lt_or_ge j ops.size with h | h <;> simp [h] at hl
  have := wpAnyU_of_DT htrans hs t ops.size _ a κ h0 hsim h
  cases t with
  | fin π => exact wpAny_of_U hrefl hN _ _ _ _ _ hw this
  | cut π t => exact wpAny_of_U hrefl hN _ _ _ _ _ hw this
  | stop => cases hnd
  | alt i t r => cases hnd
end

/-! ### In the logic -/
section
variable {cx : Cx} {n : Nat} {ds : List (Option Nat)} {fr : Fr} {C : Mem} {L : List Ent}
/-- The same region, ending in a tree. -/
def RgT (P : Program) (R : Rg n ds) (t : OT) : Rg n ds := ⟨R.b, R.ops, R.kd, DT P R.ops R.b.cls kle R.kd R.Post t, R.hy, R.dd⟩

/-- What a node comes to. -/
def DN (cx : Cx) (R : Rg n ds) (l : List Oper) (ov : List (Nat × Nat)) : OT → Fr → Mem → List Ent → Prop
  | .fin π => D cx R (mkIts l ov π)
  | .cut π t => D cx (RgT cx.P R t) (mkIts l ov π)
  | _ => fun _ _ _ => True
/-- What a fork comes to. -/
def DA (cx : Cx) (R : Rg n ds) (l : List Oper) (ov : List (Nat × Nat)) : OT → Fr → Mem → List Ent → Prop
  | .alt i (.fin π) r => fun fr C L => D cx R (mkIts l ov (i :: π)) fr C L ∧ DA cx R l ov r fr C L
  | .alt i (.cut π t) r => fun fr C L => D cx (RgT cx.P R t) (mkIts l ov (i :: π)) fr C L ∧ DA cx R l ov r fr C L
  | .stop => fun _ _ _ => True
  | _ => fun _ _ _ => False

def idsT (m : Nat) : OT → Bool
  | .fin π => π.all (fun i => Nat.blt i m)
  | .cut π t => π.all (fun i => Nat.blt i m) && idsT m t
  | .alt i t r => Nat.blt i m && (idsT m t && idsT m r)
  | .stop => true

theorem hits_mk {R : Rg n ds} {l : List Oper} {ov : List (Nat × Nat)} (hH : ∀ i, i < l.length → R.kd i = ovr ov i (kindOf (opAt l i)) ∧ R.ops[i]? = some (opAt l i)) {π : List Nat} (h : π.all (fun i => Nat.blt i l.length) = true) :
    ∀ x ∈ mkIts l ov π, R.kd x.1 = x.2.1 ∧ R.ops[x.1]? = some x.2.2 := fun x hx => by
  obtain ⟨h1, h2, h3⟩ := mkIts_mem hx
  have hlt := List.all_eq_true.1 h x.1 h1
  rw [Nat.blt_eq] at hlt
  have := hH x.1 hlt
  exact ⟨this.1.trans h2.symm, by rw [this.2, h3]⟩

theorem DT_of_DA {R : Rg n ds} {l : List Oper} {ov : List (Nat × Nat)} (hH : ∀ i, i < l.length → R.kd i = ovr ov i (kindOf (opAt l i)) ∧ R.ops[i]? = some (opAt l i)) (h0 : R.b.C0.le C) {a : Act} (ha : FrOk n ds R.dd fr a) :
    ∀ (t : OT), idsT l.length t = true → DA cx R l ov t fr C L → DT cx.P R.ops R.b.cls kle R.kd R.Post t a (C, L)
  | .alt i (.fin π) r, hi, h => by
    simp only [idsT, Bool.and_eq_true] at hi
    have h1 := h.1 h0 (hits_mk hH (by simp only [List.all_cons, Bool.and_eq_true]; exact ⟨hi.1, hi.2.1⟩)) a ha
    rw [mkIts_fst] at h1
    exact ⟨h1, DT_of_DA hH h0 ha r hi.2.2 h.2⟩
  | .alt i (.cut π t) r, hi, h => by
    simp only [idsT, Bool.and_eq_true] at hi
    have h1 := h.1 h0 (hits_mk (R := RgT cx.P R t) hH (by simp only [List.all_cons, Bool.and_eq_true]; exact ⟨hi.1, hi.2.1.1⟩)) a ha
    rw [mkIts_fst] at h1
    exact ⟨h1, DT_of_DA hH h0 ha r hi.2.2 h.2⟩
  | .stop, _, _ => trivial
  | .fin _, _, h => h.elim
  | .cut _ _, _, h => h.elim
  | .alt _ (.alt _ _ _) _, _, h => h.elim
  | .alt _ .stop _, _, h => h.elim

theorem D.fork {R : Rg n ds} {l : List Oper} {ov : List (Nat × Nat)} {t : OT} (hH : ∀ i, i < l.length → R.kd i = ovr ov i (kindOf (opAt l i)) ∧ R.ops[i]? = some (opAt l i)) (hi : idsT l.length t = true) (h : DA cx R l ov t fr C L) : D cx (RgT cx.P R t) [] fr C L :=
  fun h0 _ _ ha => DT_of_DA hH h0 ha t hi h
end

section
variable {F : Fx} {k : List KI} {fr : Fr} {C : Mem} {L : List Ent}
theorem G.drawT {id : Nat} {l : List Oper} (t : OT) (ov : List (Nat × Nat)) (hp : fr.all (fun x => x.2.1.isEmpty) = true) (hnd : nodeT t = true)
    (hB : ((Region.noSelect l.toArray && simT .any l.toArray (fun i => ovr ov i (kindOf (opAt l i))) t l.toArray.size (Array.replicate l.toArray.size false)) && idsT l.length t) = true)
    (h : ∀ R : Rg F.n (l.map (·.dst)), C.le R.b.C0 → (∀ fr C L, fr.all (fun x => x.2.1.isEmpty) = true → G F (norm 64 k) .normal fr C L → D F.cx R [] fr C L) →
      (∀ i, i < l.length → R.kd i = ovr ov i (kindOf (opAt l i)) ∧ R.ops[i]? = some (opAt l i)) → DN F.cx R l ov t fr C L) (hnd' : F.W.nd l.toArray := by first | exact trivial | exact rfl) :
    G F (.code (.region id l.toArray true) :: k) .normal fr C L := fun h0 a w ha hw => by
  simp only [Kq]
  rw [Bool.and_eq_true] at hB
  let kd := fun i => ovr ov i (kindOf (opAt l i))
  let b : Bs := ⟨F.b.w0, C, F.b.L0⟩
  let Post : Act → Mem × List Ent → Prop := fun a κ => ∀ w, b.cls κ w → Kq F k .normal a w
  let R : Rg F.n (l.map (·.dst)) := ⟨b, l.toArray, kd, Post, fun tmps => yielded_eq l tmps, F.dd⟩
  have un : ∀ κ w, b.cls κ w → F.b.cls κ w := fun κ w hc => St.unbase h0 hw.cn hc
  have hH : ∀ i, i < l.length → R.kd i = ovr ov i (kindOf (opAt l i)) ∧ R.ops[i]? = some (opAt l i) := fun i hi => ⟨rfl, by
    show (l.toArray)[i]? = _
    rw [List.getElem?_toArray, opAt_spec hi]⟩
  have hD := h R (Mem.le.refl _) (fun fr C' L hp hG h0' _ a ha w hw => G.norm_ 64 hG (h0.trans h0') a w ⟨ha.size, ha.defers, fun s g v hg => by
    have hm := List.all_eq_true.1 hp _ (Fr.get_mem hg)
    simp only [List.isEmpty_iff] at hm
    subst hm
    exact ⟨fun _ => (ha.ent s [] v hg).1 (fun p hp => by cases hp), fun hn => absurd (fun p hp => by cases hp) hn⟩⟩ (un _ _ hw)) hH
  have hT : DT F.cx.P l.toArray b.cls kle kd Post t a (C, L) := by
    cases t with
    | fin π =>
      have h1 := hD (Mem.le.refl _) (hits_mk hH hB.2) a (ha.enter _ hp)
      rw [mkIts_fst] at h1
      exact h1
    | cut π t =>
      have hi := hB.2
      simp only [idsT, Bool.and_eq_true] at hi
      have h1 := hD (Mem.le.refl _) (hits_mk (R := RgT F.cx.P R t) hH hi.1) a (ha.enter _ hp)
      rw [mkIts_fst] at h1
      exact h1
    | stop => cases hnd
    | alt i t r => cases hnd
  exact wp_region_simT F.W hnd' (cls := b.cls) (le := kle) kle.refl kle.trans F.cx.mixed (St.rebase (St.drew hw)) t hnd hB.1 hT (fun a κ w hP hw => hP w hw)

end
end Go.Jog
namespace Go.Jog
open Go Go.MapKept

section
variable {κ β : Type} [DecidableEq κ]
def mget : List (κ × β) → κ → Option β
  | [], _ => none
  | (k', v) :: m, k => if k' = k then some v else mget m k
def mset : List (κ × β) → κ → β → List (κ × β)
  | [], k, v => [(k, v)]
  | (k', v') :: m, k, v => if k' = k then (k, v) :: m else (k', v') :: mset m k v
def midx : List (κ × β) → κ → Option (Nat × β)
  | [], _ => none
  | (k', v) :: m, k => if k' = k then some (0, v) else (midx m k).map fun p => (p.1 + 1, p.2)
theorem midx_mget : ∀ (m : List (κ × β)) (k : κ), (midx m k).map (·.2) = mget m k
  | [], _ => rfl
  | (k', v) :: m, k => by
    simp only [midx, mget]
    split
    · rfl
    · rw [← midx_mget m k]; cases midx m k <;> rfl
end

/-- A kind of keys. -/
structure KeyT (d : TypeDesc) (κ : Type) [DecidableEq κ] where
  enc : κ → Value
  isKey : ∀ a, IsKey d (enc a)
  same : ∀ a b, Instr.sameNow d (enc a) (enc b) = some (decide (a = b))

def mapEs {κ : Type} (enc : κ → Value) : List (κ × Value) → Nat → List MapEntry
  | [], _ => []
  | (k, v) :: m, i => ⟨enc k, v, i⟩ :: mapEs enc m (i + 1)
def mapOf {κ : Type} (enc : κ → Value) (m : List (κ × Value)) : Obj := .map ⟨mapEs enc m 0⟩ m.length

section
variable {d : TypeDesc} {κ : Type} [DecidableEq κ] (K : KeyT d κ)
theorem findNow_mapEs (k : κ) : ∀ (m : List (κ × Value)) (i j : Nat), Instr.findNow d (K.enc k) (mapEs K.enc m i) j = some ((midx m k).map fun p => (j + p.1, p.2))
  | [], i, j => rfl
  | (k', v) :: m, i, j => by
    simp only [mapEs, Instr.findNow, K.same]
    by_cases h : k = k'
    · subst h
      simp [midx]
    · have h' : ¬ k' = k := fun e => h e.symm
      simp only [h, decide_false, findNow_mapEs k m (i + 1) (j + 1), midx, if_neg h']
      cases midx m k with
      | none => rfl
      | some p => simp; omega
theorem mapEs_none {k : κ} {v : Value} : ∀ {m : List (κ × Value)} {i : Nat}, midx m k = none → mapEs K.enc m i ++ [⟨K.enc k, v, i + m.length⟩] = mapEs K.enc (mset m k v) i ∧ (mset m k v).length = m.length + 1
  | [], i, _ => ⟨rfl, rfl⟩
  | (k', v') :: m, i, h => by
    simp only [midx] at h
    split at h
    · cases h
    · rename_i hne
      have h' : midx m k = none := by
        cases hx : midx m k with
        | none => rfl
        | some p => rw [hx] at h; cases h
      obtain ⟨h1, h2⟩ := mapEs_none (i := i + 1) (v := v) h'
      simp only [mset, if_neg hne, mapEs, List.cons_append, List.length_cons, h2]
      refine ⟨?_, trivial⟩
      rw [← h1]
      congr 3
      congr 1
      omega
theorem mapEs_some {k : κ} {v : Value} : ∀ {m : List (κ × Value)} {i q : Nat} {u : Value}, midx m k = some (q, u) → (mapEs K.enc m i).modify q (fun e => { e with key := K.enc k, val := v }) = mapEs K.enc (mset m k v) i ∧ (mset m k v).length = m.length ∧ ((mapEs K.enc m i)[q]?).map (·.key) = some (K.enc k)
  | [], _, _, _, h => by cases h
  | (k', v') :: m, i, q, u, h => by
    simp only [midx] at h
    split at h
    · rename_i e
      subst e
      cases h
      simp [mapEs, mset]
    · rename_i hne
      cases hx : midx m k with
      | none => rw [hx] at h; cases h
      | some p =>
        obtain ⟨q', u'⟩ := p
        rw [hx] at h
        cases h
        obtain ⟨h1, h2, h3⟩ := mapEs_some (i := i + 1) (v := v) hx
        simp only [mset, if_neg hne, mapEs, List.length_cons, h2, List.modify_succ_cons, h1]
        exact ⟨trivial, trivial, by simpa using h3⟩
end

theorem und_mapK {T : Tab} {P : Program} (hT : tabB P T = true) {t k e : Nat} {ti : TI} (h : T.get t = some ti) (hk : ti.k = .map k e) : P.underlying t = some (.map k e) := by
  obtain ⟨kk, s, b, z, g⟩ := ti
  simp only at hk
  subst hk
  obtain ⟨d, h1, h2⟩ := kget hT h
  cases d <;> simp [tkB] at h2
  rw [h1, h2.1, h2.2]

section
variable {cx : Cx} {n : Nat} {ds : List (Option Nat)} {R : Rg n ds} {its : List It} {fr : Fr} {C : Mem} {L : List Ent} {i k d : Nat} {o : Oper} {g : GL} {v : Value}
variable {kd : TypeDesc} {κ : Type} [DecidableEq κ] (K : KeyT kd κ)

theorem D.makeMap {t : Nat} (hk : Nat.ble k 1 = false) (hd : o.dst = some d) (hg : gOn ds fr o.guard = true) (hop : o.op = .makeMap t none) (hp : ∀ v, okPut n ds ((d, [], v) :: fr) d = true)
    (h : ∀ b, D cx R its ((d, [], .map (some b)) :: fr) C (.obj b (mapOf K.enc []) :: L)) : D cx R ((i, k, o) :: its) fr C L :=
  D.newObj (f := fun b => .map (some b)) (ob := mapOf K.enc []) hk hd hg hp (fun a _ w => by
    have e1 : execOp a.eval o = (do Pure.pure (.value (← Instr.makeMap t none)) : Sem Next) := by unfold execOp; rw [hop]; rfl
    rw [e1]
    rfl) h

/-- What a look yields. -/
def lookV (z : Value) (ok : Bool) : Option Value → Value
  | some u => bif ok then .tuple #[u, .bool true] else u
  | none => bif ok then .tuple #[z, .bool false] else z

theorem run_lookup {P : Program} {T : Tab} (hT : tabB P T = true) {t kt et : Nat} {ti te : TI} {ok : Bool} (ht : T.get t = some ti) (htk : ti.k = .map kt et) (hkt : P.underlying kt = some kd) (hte : T.get et = some te) {w : World} {b : Nat} {m : List (κ × Value)} (hb : w.heap[b]? = some (mapOf K.enc m)) (y : κ) :
    (Instr.lookup t (.map (some b)) (K.enc y) ok).run P w = .ok (lookV te.zv ok (mget m y)) w := by
  have hu := und_mapK hT ht htk
  have hf := findNow_mapEs K y m 0 0
  have h1 : (getObj b).run P w = .ok (.map ⟨mapEs K.enc m 0⟩ m.length) w := Go.MapKept.run_getObj_map hb
  have h2 := run_findKey (P := P) (w := w) hkt hf
  rw [← midx_mget]
  unfold Instr.lookup
  simp only [Sem.run_bind, run_underlying hu, Result.andThen_ok, h1, Sem.run_pure, run_checkKey hkt (K.isKey y)]
  rw [h2]
  cases midx m y with
  | none => cases ok <;> simp [lookV, zero_of hT hte w]
  | some p => cases ok <;> simp [lookV]

theorem D.lookupL {b t kt et : Nat} {x y : Operand} {ok : Bool} {m : List (κ × Value)} {key : κ} {ti te : TI} (hm : Ent.obj b (mapOf K.enc m) ∈ L) (hk : k = 1) (hd : o.dst = some d) (hop : o.op = .lookup t x y ok) (hg : gOf ds fr o.guard = some g) (hx : ev fr g x = some (.map (some b))) (hy : ev fr g y = some (K.enc key))
    (ht : cx.T.get t = some ti) (htk : ti.k = .map kt et) (hkt : cx.P.underlying kt = some kd) (hte : cx.T.get et = some te) (hv : lookV te.zv ok (mget m key) = v) (hp : okPut n ds ((d, g, v) :: fr) d = true) (hwf : wfG ds fr g = true)
    (h : D cx R its ((d, g, v) :: fr) C L) : D cx R ((i, k, o) :: its) fr C L :=
  D.det (by subst hk; rfl) hd hg hp hwf (fun _ a hs κ' hκ w hw => by
    have hb : w.heap[b]? = some (mapOf K.enc m) := hw.sep.e _ ((hκ hk).2 _ hm)
    have hex : (execOp a.eval o).run cx.P w = .ok (.value v) w := by
      have e1 : execOp a.eval o = (do Pure.pure (.value (← Instr.lookup t (a.eval x) (a.eval y) ok)) : Sem Next) := by unfold execOp; rw [hop]
      rw [e1, hs _ _ hx, hs _ _ hy, ← hv]
      simp only [Sem.run_bind, run_lookup K cx.hT ht htk hkt hte hb key, Result.andThen_ok, Sem.run_pure]
    unfold Oper.quietAt
    rw [hex]
    exact ⟨rfl, rfl⟩) h

theorem D.lookupC {b t kt et : Nat} {x y : Operand} {ok : Bool} {m : List (κ × Value)} {key : κ} {ti te : TI} (hm : GT ds fr g → C b = some (mapOf K.enc m)) (hk : k = 1) (hd : o.dst = some d) (hop : o.op = .lookup t x y ok) (hg : gOf ds fr o.guard = some g) (hx : ev fr g x = some (.map (some b))) (hy : ev fr g y = some (K.enc key))
    (ht : cx.T.get t = some ti) (htk : ti.k = .map kt et) (hkt : cx.P.underlying kt = some kd) (hte : cx.T.get et = some te) (hv : lookV te.zv ok (mget m key) = v) (hp : okPut n ds ((d, g, v) :: fr) d = true) (hwf : wfG ds fr g = true)
    (h : D cx R its ((d, g, v) :: fr) C L) : D cx R ((i, k, o) :: its) fr C L :=
  D.det (by subst hk; rfl) hd hg hp hwf (fun hGT a hs κ' hκ w hw => by
    have hb : w.heap[b]? = some (mapOf K.enc m) := hw.sep.c _ _ ((hκ hk).1 _ _ (hm hGT))
    have hex : (execOp a.eval o).run cx.P w = .ok (.value v) w := by
      have e1 : execOp a.eval o = (do Pure.pure (.value (← Instr.lookup t (a.eval x) (a.eval y) ok)) : Sem Next) := by unfold execOp; rw [hop]
      rw [e1, hs _ _ hx, hs _ _ hy, ← hv]
      simp only [Sem.run_bind, run_lookup K cx.hT ht htk hkt hte hb key, Result.andThen_ok, Sem.run_pure]
    unfold Oper.quietAt
    rw [hex]
    exact ⟨rfl, rfl⟩) h

theorem D.mapUpdate {t kt et j b : Nat} {x y z : Operand} {m : List (κ × Value)} {key : κ} {ti : TI} (hk : k = 3) (hg : gOn ds fr o.guard = true) (hd : o.dst = none) (hop : o.op = .mapUpdate t x y z)
    (hx : ev fr [] x = some (.map (some b))) (hy : ev fr [] y = some (K.enc key)) (hz : ev fr [] z = some v) (hm : L[j]? = some (.obj b (mapOf K.enc m)))
    (ht : cx.T.get t = some ti) (htk : ti.k = .map kt et) (hkt : cx.P.underlying kt = some kd)
    (h : D cx R its fr C (.obj b (mapOf K.enc (mset m key v)) :: L.eraseIdx j)) : D cx R ((i, k, o) :: its) fr C L :=
  D.eff0 (S := fun C' L' => C' = C ∧ L' = .obj b (mapOf K.enc (mset m key v)) :: L.eraseIdx j) (by subst hk; rfl) hg (fun a hs w _ hw => by
    have hw' := St.perm hw (ent_perm hm)
    have hb : w.heap[b]? = some (mapOf K.enc m) := hw'.sep.e _ (List.mem_cons_self ..)
    have hu := und_mapK cx.hT ht htk
    have hf := findNow_mapEs K key m 0 0
    have h1 : (getObj b).run cx.P w = .ok (.map ⟨mapEs K.enc m 0⟩ m.length) w := Go.MapKept.run_getObj_map hb
    have h2 := run_findKey (P := cx.P) (w := w) hkt hf
    have hrun : (Instr.mapUpdate t (.map (some b)) (K.enc key) v).run cx.P w = .ok () { w with heap := w.heap.setIfInBounds b (mapOf K.enc (mset m key v)) } := by
      unfold Instr.mapUpdate
      simp only [Sem.run_bind, run_underlying hu, Result.andThen_ok, h1, run_checkKey hkt (K.isKey key)]
      rw [h2]
      cases hi : midx m key with
      | none =>
        obtain ⟨h3, h4⟩ := mapEs_none K (v := v) (i := 0) hi
        simp only [Option.map_none, Result.andThen_ok]
        rw [Go.MapKept.run_setObj_map (P := cx.P) _ hb]
        congr 2
        simp only [mapOf, h4, ← h3, Nat.zero_add]
        congr 2
        apply Array.ext'
        simp
      | some p =>
        obtain ⟨q, u⟩ := p
        obtain ⟨h3, h4, h5⟩ := mapEs_some K (v := v) (i := 0) hi
        have hq : (((⟨mapEs K.enc m 0⟩ : Array MapEntry)[0 + q]?).map (·.key)).getD (K.enc key) = K.enc key := by
          rw [Nat.zero_add]
          show (((mapEs K.enc m 0).toArray[q]?).map (·.key)).getD (K.enc key) = K.enc key
          rw [List.getElem?_toArray, h5]; rfl
        simp only [Option.map_some, Result.andThen_ok, Sem.run_bind]
        rw [hq, run_keyThatStays (d := kd) (K.isKey key)]
        simp only [Result.andThen_ok]
        rw [Go.MapKept.run_setObj_map (P := cx.P) _ hb]
        congr 2
        simp only [mapOf, h4, ← h3, Nat.zero_add]
        congr 2
        apply Array.ext'
        simp
    have hex : (execOp a.eval o).run cx.P w = .ok .skip { w with heap := w.heap.setIfInBounds b (mapOf K.enc (mset m key v)) } := by
      have e1 : execOp a.eval o = (do Instr.mapUpdate t (a.eval x) (a.eval y) (a.eval z); Pure.pure .skip : Sem Next) := by unfold execOp; rw [hop]
      rw [e1, hs _ _ hx, hs _ _ hy, hs _ _ hz]
      simp only [Sem.run_bind, hrun, Result.andThen_ok, Sem.run_pure]
    unfold Oper.wp
    rw [hex]
    have hset := heap_set (o' := mapOf K.enc (mset m key v)) hb
    refine ⟨C, .obj b (mapOf K.enc (mset m key v)) :: L.eraseIdx j, ?_, Mem.le.refl _, fun h2 => by omega, St.put hw' hset.1 hset.2 (by simp) rfl rfl rfl (Nat.le_refl _), rfl, rfl⟩
    rw [hd]; rfl)
    (fun C' L' _ ⟨e1, e2⟩ => by subst e1; subst e2; exact h)
end

/-- Strings as keys. -/
theorem str_beq (a b : List UInt8) : ((⟨a.toArray⟩ : ByteArray) == ⟨b.toArray⟩) = decide (a = b) := by
  by_cases h : a = b
  · subst h
    simp [(bytes_beq _ _).2 rfl]
  · have : ¬ ((⟨a.toArray⟩ : ByteArray) == ⟨b.toArray⟩) = true := fun e => h (by
      have := (bytes_beq _ _).1 e
      have h2 := congrArg (fun x : ByteArray => x.data.toList) this
      simpa using h2)
    simp [h, Bool.eq_false_iff.2 this]
def keyS : KeyT .string (List UInt8) where
  enc s := .string ⟨s.toArray⟩
  isKey _ := trivial
  same a b := by simp only [Instr.sameNow, str_beq]
end Go.Jog
namespace Go.Jog
open Go

/-- The function of a method that stands in the type itself. -/
def methB (P : Program) (t : Nat) (name : String) : Option (FuncId × Bool) := match P.info? t with
  | some i => match i.methods.find? (·.name == name) with
    | some m => bif m.path.isEmpty then m.func else none
    | none => none
  | none => none

theorem methB_spec {P : Program} {t : Nat} {name : String} {f : FuncId} {p : Bool} (h : methB P t name = some (f, p)) : ∃ i m, P.info? t = some i ∧ i.methods.find? (·.name == name) = some m ∧ m.path.isEmpty = true ∧ m.func = some (f, p) := by
  unfold methB at h
  split at h
  · rename_i i hi
    split at h
    · rename_i m hm
      cases hp : m.path.isEmpty with
      | false => rw [hp] at h; cases h
      | true => rw [hp] at h; exact ⟨i, m, hi, hm, hp, h⟩
    · cases h
  · cases h

theorem run_typeInfo' {P : Program} {t : Nat} {i : TypeInfo} (h : P.info? t = some i) (w : World) : (typeInfo t).run P w = .ok i w := by simp [typeInfo, h]

theorem und_ptr {T : Tab} {P : Program} (hT : tabB P T = true) {t e : Nat} {s b : Nat} {z : List Zv} {g : Bool} (h : T.get t = some ⟨.ptr e, s, b, z, g⟩) : P.underlying t = some (.pointer e) := by
  obtain ⟨d, h1, h2⟩ := kget hT h
  cases d <;> simp [tkB] at h2
  rw [h1, h2]

theorem run_nilchk {P : Program} (ats : Array TypeId) (t : TypeId) (a : Addr) (s1 s2 : ByteArray) (w : World) : (Builtin.ssaWrapNilChk_ ats t #[.pointer (some a), .string s1, .string s2]).run P w = .ok (.pointer (some a)) w := rfl

theorem isEmpty_arr {α : Type} {a : Array α} (h : a.isEmpty = true) : a = #[] := by simpa using h

theorem run_methodP {P : Program} {t e : Nat} {name : String} {f : FuncId} {v : Value} (hm : methB P t name = some (f, true)) (hu : P.underlying t = some (.pointer e)) (n : Nat) (w : World) :
    (method (n + 1) t v name).run P w = .ok (f, v) w := by
  obtain ⟨i, m, h1, h2, h3, h4⟩ := methB_spec hm
  have hp := isEmpty_arr h3
  unfold method
  simp only [Sem.run_bind, run_typeInfo' h1, Result.andThen_ok, h2]
  rw [hp]
  simp only [follow, Sem.run_bind, Sem.run_pure, Result.andThen_ok, h4, receiverAt, run_underlying hu, Place.get]

theorem run_methodV {P : Program} {t e : Nat} {name : String} {f : FuncId} {a : Addr} {u : Value} (hm : methB P t name = some (f, false)) (hu : P.underlying t = some (.pointer e)) {w : World} (hl : (loadVar e a).run P w = .ok u w) (n : Nat) :
    (method (n + 1) t (.pointer (some a)) name).run P w = .ok (f, u) w := by
  obtain ⟨i, m, h1, h2, h3, h4⟩ := methB_spec hm
  have hp := isEmpty_arr h3
  unfold method
  simp only [Sem.run_bind, run_typeInfo' h1, Result.andThen_ok, h2]
  rw [hp]
  simp only [follow, Sem.run_bind, Sem.run_pure, Result.andThen_ok, h4, receiverAt, run_underlying hu, Place.get, Array.isEmpty_empty, if_true, strVal, run_nilchk, asAddr, hl]

theorem run_invoke {P : Program} {a : Act} {o : Oper} {recv : Operand} {name : String} {args : Array Operand} {ts : Array TypeId} {t : Nat} {v u : Value} {fid : FuncId} {vs : List Value}
    (hop : o.op = .call ⟨.invoke recv name, args, ts⟩) (hr : a.eval recv = .iface t v) (hargs : args.toList.map a.eval = vs) {w : World} (hm : ∀ n, (method (n + 1) t v name).run P w = .ok (fid, u) w) (hen : Enters P fid = true) :
    (execOp a.eval o).run P w = .ok (.enter fid (u :: vs).toArray) w := by
  have e1 : execOp a.eval o = (do let dd ← resolve a.eval ⟨.invoke recv name, args, ts⟩ o.type; invoke dd.target dd.args : Sem Next) := by unfold execOp; rw [hop]
  have e2 : args.map a.eval = vs.toArray := by apply Array.ext'; rw [← hargs]; simp
  obtain ⟨n, hn⟩ : ∃ n, P.types.size + Made.depth = n + 1 := ⟨P.types.size + Made.depth - 1, by unfold Made.depth; omega⟩
  rw [e1]
  simp only [resolve, Sem.run_bind, Sem.run_pure, Result.andThen_ok, invoke, e2, hr]
  have h0 : (#[Value.iface t v] ++ vs.toArray)[0]? = some (.iface t v) := by simp
  have h1 : (#[Value.iface t v] ++ vs.toArray).extract 1 (#[Value.iface t v] ++ vs.toArray).size = vs.toArray := by
    apply Array.ext'
    simp
  rw [h0, h1]
  simp only [callMethod, Sem.run_bind, run_program, Result.andThen_ok, hn, hm n]
  have h2 : #[u] ++ vs.toArray = (u :: vs).toArray := by apply Array.ext'; simp
  rw [h2]
  exact run_callFunc hen _ w

section
variable {cx : Cx} {n : Nat} {ds : List (Option Nat)} {R : Rg n ds} {its : List It} {fr : Fr} {C : Mem} {L : List Ent} {i k d : Nat} {o : Oper} {g : GL} {v : Value}

/-- A call of a method with a pointer receiver. -/
theorem D.invokeP {recv : Operand} {name : String} {args : Array Operand} {ts : Array TypeId} {fid : FuncId} {t e : Nat} {u : Value} {vs : List Value} {Lp Lr : List Ent} {ti : TI} {post : Value → Mem → List Ent → Prop}
    (c : Fn cx.P fid (u :: vs) C Lp post) (hL : L.Perm (Lp ++ Lr)) (hk : k = 3) (hd : o.dst = some d) (hg : gOn ds fr o.guard = true) (hop : o.op = .call ⟨.invoke recv name, args, ts⟩) (hr : ev fr [] recv = some (.iface t u))
    (hm : methB cx.P t name = some (fid, true)) (ht : cx.T.get t = some ti) (hte : ti.k = .ptr e) (hargs : listO (ev fr []) args.toList = some vs) (hp : ∀ v, okPut n ds ((d, [], v) :: fr) d = true)
    (h : ∀ v C' L', C.le C' → post v C' L' → D cx R its ((d, [], v) :: fr) C' (L' ++ Lr)) : D cx R ((i, k, o) :: its) fr C L :=
  D.eff (S := fun v C' L' => ∃ L1, L' = L1 ++ Lr ∧ post v C' L1) (by subst hk; rfl) hd hg hp (fun a hs w _ hw => by
    have hu : cx.P.underlying t = some (.pointer e) := by
      obtain ⟨kk, s1, b1, z1, g1⟩ := ti
      simp only at hte
      subst hte
      exact und_ptr cx.hT ht
    unfold Oper.wp
    rw [run_invoke hop (hs _ _ hr) (listO_spec (fun x y => hs x y) hargs) (fun n => run_methodP hm hu n w) c.1]
    simp only [Oper.upon]
    refine (c.callAt (St.perm hw hL)).mono fun e w' ⟨v, C', L', e1, h1, h2, h3⟩ => ?_
    subst e1
    exact ⟨v, C', L' ++ Lr, rfl, h1, fun hk' => by omega, h2, L', rfl, h3⟩)
    (fun v C' L' hle ⟨L1, e1, e2⟩ => by subst e1; exact h v C' L1 hle e2)

/-- A call of a method with a value receiver, behind a pointer to an object of the function's own. -/
theorem D.invokeV {recv : Operand} {name : String} {args : Array Operand} {ts : Array TypeId} {fid : FuncId} {t e b : Nat} {u : Value} {cs : List Value} {tb : TypeId} {fz : Nat × Nat} {vs : List Value} {Lp Lr : List Ent} {ti te : TI} {post : Value → Mem → List Ent → Prop}
    (hmem : Ent.obj b (.cells ⟨cs⟩ tb fz) ∈ L) (c : Fn cx.P fid (u :: vs) C Lp post) (hL : L.Perm (Lp ++ Lr)) (hk : k = 3) (hd : o.dst = some d) (hg : gOn ds fr o.guard = true) (hop : o.op = .call ⟨.invoke recv name, args, ts⟩) (hr : ev fr [] recv = some (.iface t (.pointer (some ⟨b, 0, none⟩))))
    (hm : methB cx.P t name = some (fid, false)) (ht : cx.T.get t = some ti) (hte : ti.k = .ptr e) (he : cx.T.get e = some te) (hv : ofCells te (cs.take te.size) = some u) (hargs : listO (ev fr []) args.toList = some vs) (hp : ∀ v, okPut n ds ((d, [], v) :: fr) d = true)
    (h : ∀ v C' L', C.le C' → post v C' L' → D cx R its ((d, [], v) :: fr) C' (L' ++ Lr)) : D cx R ((i, k, o) :: its) fr C L :=
  D.eff (S := fun v C' L' => ∃ L1, L' = L1 ++ Lr ∧ post v C' L1) (by subst hk; rfl) hd hg hp (fun a hs w _ hw => by
    have hu : cx.P.underlying t = some (.pointer e) := by
      obtain ⟨kk, s1, b1, z1, g1⟩ := ti
      simp only at hte
      subst hte
      exact und_ptr cx.hT ht
    have hb : w.heap[b]? = some (.cells ⟨cs⟩ tb fz) := hw.sep.e _ hmem
    have hl : (loadVar e ⟨b, 0, none⟩).run cx.P w = .ok u w := by
      refine run_loadVar cx.hT he (cs := cs.take te.size) (fun j x hj => ?_) hv
      rw [Addr.add_lit, cell_of_row w b (0 + j) _ tb fz hb]
      rw [List.getElem?_take] at hj
      split at hj
      · simpa using hj
      · cases hj
    unfold Oper.wp
    rw [run_invoke hop (hs _ _ hr) (listO_spec (fun x y => hs x y) hargs) (fun n => run_methodV hm hu hl n) c.1]
    simp only [Oper.upon]
    refine (c.callAt (St.perm hw hL)).mono fun e w' ⟨v, C', L', e1, h1, h2, h3⟩ => ?_
    subst e1
    exact ⟨v, C', L' ++ Lr, rfl, h1, fun hk' => by omega, h2, L', rfl, h3⟩)
    (fun v C' L' hle ⟨L1, e1, e2⟩ => by subst e1; exact h v C' L1 hle e2)

/-- A type assertion to a type that is no interface, where it holds. -/
def plainK : TK → Bool
  | .int _ | .bool | .str | .ptr _ | .slice _ | .struct _ | .arr _ _ | .map _ _ => true
  | _ => false
theorem D.assert {xt t : Nat} {x : Operand} {ti : TI} (hk : Nat.ble k 1 = true) (hd : o.dst = some d) (hop : o.op = .typeAssert x xt t false) (hg : gOf ds fr o.guard = some g) (hx : ev fr g x = some (.iface t v)) (ht : cx.T.get t = some ti) (hpk : plainK ti.k = true)
    (hp : okPut n ds ((d, g, v) :: fr) d = true) (hwf : wfG ds fr g = true) (h : D cx R its ((d, g, v) :: fr) C L) : D cx R ((i, k, o) :: its) fr C L :=
  D.run v hk hd hg (fun _ a hs w => by
    obtain ⟨du, h1, h2, _⟩ := (tab_ok cx.hT ht).und
    have e1 : execOp a.eval o = (do Pure.pure (.value (← Instr.typeAssert (a.eval x) xt t false)) : Sem Next) := by unfold execOp; rw [hop]
    have hr : (Instr.typeAssert (.iface t v) xt t false).run cx.P w = .ok v w := by
      unfold Instr.typeAssert
      simp only [Sem.run_bind, run_underlying h1, Result.andThen_ok]
      revert h2 hpk
      cases ti.k <;> cases du <;> simp [tkB, plainK]
    rw [e1, hs _ _ hx]
    simp only [Sem.run_bind, hr, Result.andThen_ok, Sem.run_pure]) hp hwf h
end
end Go.Jog
namespace Go.Jog
open Go

def Mem.unset (C : Mem) (b : Nat) : Mem := fun k => if k = b then none else C k
theorem Mem.unset_le (C : Mem) (b : Nat) : (C.unset b).le C := fun k o h => by
  unfold Mem.unset at h
  split at h
  · cases h
  · exact h
theorem Mem.le_unset {C D : Mem} {b : Nat} (h : C.le D) (hb : C b = none) : C.le (D.unset b) := fun k o hk => by
  unfold Mem.unset
  split
  · rename_i e; subst e; rw [hb] at hk; cases hk
  · exact h k o hk

/-- The object is set aside: nobody writes it. -/
theorem St.aside {w0 : World} {C0 : Mem} {L0 : List Ent} {C : Mem} {L : List Ent} {w : World} {b : Nat} {ob : Obj} (h : St w0 C0 L0 C (.obj b ob :: L) w) : St w (C.set b ob) L (C.set b ob) L w :=
  (St.freeze h).2 |> fun s => St.start s.sep

/-- It is taken back. -/
theorem St.back {w0 : World} {C0 : Mem} {L0 : List Ent} {C C' : Mem} {L L' : List Ent} {w w' : World} {b : Nat} {ob : Obj} (h : St w0 C0 L0 C (.obj b ob :: L) w) (k : St w (C.set b ob) L C' L' w') : St w0 C0 L0 (C'.unset b) (.obj b ob :: L') w' := by
  have hb : C b = none := h.sep.n b ⟨_, List.mem_cons_self .., rfl⟩
  have hle : C.le C' := (Mem.le_set hb).trans k.c0
  have k2 : St w C L (C'.unset b) L' w' := ⟨⟨fun q o hq => k.sep.c q o (Mem.unset_le _ _ q o hq), k.sep.e, k.sep.d, fun q hq => by
      have := k.sep.n q hq
      unfold Mem.unset
      split
      · rfl
      · exact this⟩, k.ev, Mem.le_unset hle hb, fun q o hq => by
      have hne : q ≠ b := fun e => by subst e; simp [Mem.unset] at hq
      rcases k.cn q o (Mem.unset_le _ _ q o hq) with h1 | h1
      · unfold Mem.set at h1
        rw [if_neg hne] at h1
        exact .inl h1
      · exact .inr h1, k.ln⟩
  have h2 : St w0 C0 L0 C (L ++ [.obj b ob]) w := St.perm h (List.perm_append_comm (l₁ := [Ent.obj b ob]) (l₂ := L))
  exact St.perm (St.call h2 k2) (List.perm_append_comm (l₁ := L') (l₂ := [Ent.obj b ob]))

section
variable {F : Fx} {k : List KI} {fr : Fr} {C : Mem} {L : List Ent}
theorem G.drawP {id : Nat} {l : List Oper} (j : Nat) {b : Nat} {ob : Obj} (hj : L[j]? = some (.obj b ob)) (π : List Nat) (ov : List (Nat × Nat)) (hp : fr.all (fun x => x.2.1.isEmpty) = true)
    (hB : (Region.noSelect l.toArray && (π.length == l.toArray.size) && simB .any l.toArray (fun i => ovr ov i (kindOf (opAt l i))) π (Array.replicate l.toArray.size false) && π.all (fun i => Nat.blt i l.length)) = true)
    (h : ∀ (Ce : Mem) (R : Rg F.n (l.map (·.dst))), C.le Ce → Ce b = some ob → Ce.le R.b.C0 → (∀ fr C' L', fr.all (fun x => x.2.1.isEmpty) = true → (∀ C2, C.le C2 → G F (norm 64 k) .normal fr C2 (.obj b ob :: L')) → D F.cx R [] fr C' L') → D F.cx R (mkIts l ov π) fr Ce (L.eraseIdx j)) (hnd : F.W.nd l.toArray := by first | exact trivial | exact rfl) :
    G F (.code (.region id l.toArray true) :: k) .normal fr C L := fun h0 a w ha hw0 => by
  simp only [Kq]
  have hw : St F.b.w0 F.b.C0 F.b.L0 C (.obj b ob :: L.eraseIdx j) w := St.perm hw0 (ent_perm hj)
  rw [Bool.and_eq_true] at hB
  have hbn : C b = none := hw.sep.n b ⟨_, List.mem_cons_self .., rfl⟩
  let kd := fun i => ovr ov i (kindOf (opAt l i))
  let bs : Bs := ⟨w, C.set b ob, L.eraseIdx j⟩
  let Post : Act → Mem × List Ent → Prop := fun a κ => ∀ w, bs.cls κ w → Kq F k .normal a w
  let R : Rg F.n (l.map (·.dst)) := ⟨bs, l.toArray, kd, Post, fun tmps => yielded_eq l tmps, F.dd⟩
  have hD := h (C.set b ob) R (Mem.le_set hbn) (Mem.set_self _ _ _) (Mem.le.refl _) (fun fr C' L' hp hG h0' _ a ha w' hw' => by
    have hb2 := St.back hw hw'
    have hle2 : C.le (C'.unset b) := Mem.le_unset ((Mem.le_set hbn).trans hw'.c0) hbn
    exact G.norm_ 64 (hG _ hle2) (h0.trans hle2) a w' ⟨ha.size, ha.defers, fun s g v hg => by
      have hm := List.all_eq_true.1 hp _ (Fr.get_mem hg)
      simp only [List.isEmpty_iff] at hm
      subst hm
      exact ⟨fun _ => (ha.ent s [] v hg).1 (fun p hp => by cases hp), fun hn => absurd (fun p hp => by cases hp) hn⟩⟩ hb2) (Mem.le.refl _) (fun x hx => by
      obtain ⟨h1, h2, h3⟩ := mkIts_mem hx
      refine ⟨h2.symm, ?_⟩
      have hlt := List.all_eq_true.1 hB.2 x.1 h1
      rw [Nat.blt_eq] at hlt
      show (l.toArray)[x.1]? = _
      rw [List.getElem?_toArray, opAt_spec hlt, h3]) a (ha.enter _ hp)
  rw [mkIts_fst] at hD
  exact wp_region_sim F.W hnd (cls := bs.cls) (le := kle) kle.refl kle.trans F.cx.mixed (St.drew (St.aside hw)) π hB.1 hD (fun a κ w hP hw => hP w hw)
end
end Go.Jog
namespace Go.Jog

/-- An arc: its number, and the two places it leads between. -/
structure Arc3 where
  i : Nat
  lo : Nat
  up : Nat
  deriving DecidableEq, Inhabited

/-- A list of arcs that leads from one place to another. -/
def Chain : Nat → List Arc3 → Nat → Prop
  | u, [], v => u = v
  | u, a :: p, v => a.lo = u ∧ Chain a.up p v
def In (A p : List Arc3) : Prop := ∀ a ∈ p, a ∈ A
def Walk (A : List Arc3) (k u v : Nat) : Prop := ∃ p, In A p ∧ p.length = k ∧ Chain u p v

theorem In.cons {A p : List Arc3} {a : Arc3} : In A (a :: p) ↔ a ∈ A ∧ In A p := by simp [In]
theorem In.append {A p q : List Arc3} : In A (p ++ q) ↔ In A p ∧ In A q := by
  simp only [In, List.mem_append]
  exact ⟨fun h => ⟨fun a ha => h a (.inl ha), fun a ha => h a (.inr ha)⟩, fun h a ha => ha.elim (h.1 a) (h.2 a)⟩
theorem In.nil {A : List Arc3} : In A [] := fun _ h => by cases h
theorem In.mono {A B p : List Arc3} (h : In A p) (hs : ∀ a ∈ A, a ∈ B) : In B p := fun a ha => hs a (h a ha)

theorem Chain.append : ∀ {p q : List Arc3} {u v : Nat}, Chain u (p ++ q) v ↔ ∃ w, Chain u p w ∧ Chain w q v
  | [], q, u, v => by simp [Chain]
  | a :: p, q, u, v => by
    simp only [List.cons_append, Chain, Chain.append]
    constructor
    · rintro ⟨h, w, h1, h2⟩; exact ⟨w, ⟨h, h1⟩, h2⟩
    · rintro ⟨w, ⟨h, h1⟩, h2⟩; exact ⟨h, w, h1, h2⟩
theorem Chain.ends {p : List Arc3} {u v w : Nat} (h : Chain u p v) (k : Chain u p w) : v = w := by
  induction p generalizing u with
  | nil => exact (h.symm.trans k)
  | cons a p ih => exact ih h.2 k.2

theorem Walk.zero {A : List Arc3} {u v : Nat} : Walk A 0 u v ↔ u = v := by
  constructor
  · rintro ⟨p, _, hl, hc⟩
    rw [List.eq_nil_of_length_eq_zero hl] at hc
    exact hc
  · rintro rfl; exact ⟨[], In.nil, rfl, rfl⟩
theorem Walk.succ {A : List Arc3} {k u v : Nat} : Walk A (k + 1) u v ↔ ∃ a ∈ A, a.lo = u ∧ Walk A k a.up v := by
  constructor
  · rintro ⟨p, hi, hl, hc⟩
    cases p with
    | nil => simp at hl
    | cons a p =>
      rw [In.cons] at hi
      exact ⟨a, hi.1, hc.1, p, hi.2, by simpa using hl, hc.2⟩
  · rintro ⟨a, ha, hu, p, hi, hl, hc⟩
    exact ⟨a :: p, In.cons.2 ⟨ha, hi⟩, by simp [hl], hu, hc⟩
theorem Walk.add {A : List Arc3} {j k u v w : Nat} (h : Walk A j u v) (h2 : Walk A k v w) : Walk A (j + k) u w := by
  obtain ⟨p, h3, h4, h5⟩ := h
  obtain ⟨q, h6, h7, h8⟩ := h2
  exact ⟨p ++ q, In.append.2 ⟨h3, h6⟩, by simp [h4, h7], Chain.append.2 ⟨v, h5, h8⟩⟩
theorem Walk.one {A : List Arc3} {a : Arc3} (h : a ∈ A) : Walk A 1 a.lo a.up := Walk.succ.2 ⟨a, h, rfl, Walk.zero.2 rfl⟩
theorem Walk.snoc {A : List Arc3} {k u v : Nat} : Walk A (k + 1) u v ↔ ∃ a ∈ A, a.up = v ∧ Walk A k u a.lo := by
  constructor
  · rintro ⟨p, hi, hl, hc⟩
    have hne : p ≠ [] := fun e => by rw [e] at hl; simp at hl
    rw [← List.dropLast_concat_getLast hne] at hc hi
    obtain ⟨w, h1, h2⟩ := Chain.append.1 hc
    rw [In.append] at hi
    refine ⟨p.getLast hne, hi.2 _ (by simp), h2.2, p.dropLast, hi.1, by simp [hl], ?_⟩
    rw [h2.1]; exact h1
  · rintro ⟨a, ha, hv, hw⟩
    subst hv
    exact hw.add (Walk.one ha)
theorem Walk.mono {A B : List Arc3} {k u v : Nat} (h : Walk A k u v) (hs : ∀ a ∈ A, a ∈ B) : Walk B k u v :=
  let ⟨p, h1, h2, h3⟩ := h
  ⟨p, h1.mono hs, h2, h3⟩

/-- All places of the arcs are below n. -/
def Below (n : Nat) (A : List Arc3) : Prop := ∀ a ∈ A, a.lo < n ∧ a.up < n

/-- The places on the way, without the last. -/
def lows (p : List Arc3) : List Nat := p.map (·.lo)

theorem Chain.split {p : List Arc3} {u v : Nat} (h : Chain u p v) {k : Nat} {a : Arc3} (hk : p[k]? = some a) : Chain u (p.take k) a.lo ∧ Chain a.lo (p.drop k) v := by
  have hlt := (List.getElem?_eq_some_iff.1 hk).1
  rw [← List.take_append_drop k p] at h
  obtain ⟨w, h1, h2⟩ := Chain.append.1 h
  rw [List.drop_eq_getElem_cons hlt, (List.getElem?_eq_some_iff.1 hk).2] at h2 ⊢
  obtain rfl := h2.1
  exact ⟨h1, h2⟩

/-- Ways back of a list that is no list of numbers below n are long: pigeons. -/
theorem nodup_len {n : Nat} {l : List Nat} (hn : l.Nodup) (hb : ∀ x ∈ l, x < n) : l.length ≤ n := by
  have h : l.length ≤ (List.range n).length := by
    refine List.Nodup.length_le_of_subset hn (fun x hx => List.mem_range.2 (hb x hx))
  simpa using h

/-- A way back whose first arc has the least number. -/
def Cyc (A p : List Arc3) : Prop := ∃ a q, p = a :: q ∧ In A p ∧ Chain a.lo p a.lo ∧ ∀ b ∈ q, a.i < b.i

theorem Cyc.walk {A p : List Arc3} (h : Cyc A p) : ∃ u, 0 < p.length ∧ Walk A p.length u u := by
  obtain ⟨a, q, rfl, hi, hc, _⟩ := h
  exact ⟨a.lo, by simp, a :: q, hi, rfl, hc⟩

end Go.Jog
namespace Go.Jog

def dAt (d : List Int) (u : Nat) : Int := d.getD u (-1)
theorem dAt_get {d : List Int} {u : Nat} {x : Int} (h : d[u]? = some x) : dAt d u = x := by simp [dAt, List.getD_eq_getElem?_getD, h]

def IsDist (A : List Arc3) (to n : Nat) (d : List Int) : Prop :=
  d.length = n ∧ ∀ u, u < n → (dAt d u = -1 ∧ ∀ k, ¬ Walk A k u to) ∨ ∃ k : Nat, dAt d u = k ∧ Walk A k u to ∧ ∀ j, Walk A j u to → k ≤ j

theorem IsDist.unique {A : List Arc3} {to n : Nat} {d e : List Int} (h : IsDist A to n d) (k : IsDist A to n e) : d = e := by
  refine List.ext_getElem (h.1.trans k.1.symm) (fun u h1 h2 => ?_)
  have e1 : dAt d u = d[u] := dAt_get (List.getElem?_eq_getElem h1)
  have e2 : dAt e u = e[u] := dAt_get (List.getElem?_eq_getElem h2)
  rw [← e1, ← e2]
  have hu : u < n := by rw [← h.1]; exact h1
  rcases h.2 u hu with ⟨a1, a2⟩ | ⟨j, a1, a2, a3⟩
  · rcases k.2 u hu with ⟨b1, b2⟩ | ⟨q, b1, b2, b3⟩
    · rw [a1, b1]
    · exact absurd b2 (a2 _)
  · rcases k.2 u hu with ⟨b1, b2⟩ | ⟨q, b1, b2, b3⟩
    · exact absurd a2 (b2 _)
    · rw [a1, b1]
      have := a3 _ b2
      have := b3 _ a2
      omega

/-! ### Relaxing -/
def fin (d : List Int) : Nat := d.countP (fun x => decide (0 ≤ x))
/-- What holds while distances are relaxed. -/
structure Rel0 (A : List Arc3) (to n : Nat) (d : List Int) : Prop where
  len : d.length = n
  neg : ∀ u, u < n → -1 ≤ dAt d u
  small : ∀ u, u < n → dAt d u < fin d
  walk : ∀ u, u < n → 0 ≤ dAt d u → Walk A (dAt d u).toNat u to
  zero : dAt d to = 0

/-! ### The first smallest cycle -/
def nums (p : List Arc3) : List Nat := p.map (·.i)
/-- One list comes ahead of the other whatever comes behind. -/
def Beats (x y : List Nat) : Prop := ∃ c b b' s s', x = c ++ b :: s ∧ y = c ++ b' :: s' ∧ b < b'
theorem Beats.append {x y z : List Nat} (h : Beats x y) : Beats (x ++ z) y := by
  obtain ⟨c, b, b', s, s', rfl, rfl, hlt⟩ := h
  exact ⟨c, b, b', s ++ z, s', by simp, rfl, hlt⟩
theorem Beats.cons {x y : List Nat} (a : Nat) (h : Beats x y) : Beats (a :: x) (a :: y) := by
  obtain ⟨c, b, b', s, s', rfl, rfl, hlt⟩ := h
  exact ⟨a :: c, b, b', s, s', rfl, rfl, hlt⟩
theorem Beats.head {x y : List Nat} {a b : Nat} (h : a < b) : Beats (a :: x) (b :: y) := ⟨[], a, b, x, y, rfl, rfl, h⟩
theorem Beats.asymm : ∀ {x y : List Nat}, Beats x y → ¬ Beats y x := by
  rintro x y ⟨c, b, b', s, s', rfl, rfl, hlt⟩ ⟨c2, b2, b2', s2, s2', h1, h2, hlt2⟩
  induction c generalizing c2 with
  | nil =>
    cases c2 with
    | nil => simp only [List.nil_append, List.cons.injEq] at h1 h2; omega
    | cons e c2 => simp only [List.nil_append, List.cons_append, List.cons.injEq] at h1 h2; omega
  | cons e c ih =>
    cases c2 with
    | nil => simp only [List.nil_append, List.cons_append, List.cons.injEq] at h1 h2; omega
    | cons f c2 =>
      simp only [List.cons_append, List.cons.injEq] at h1 h2
      exact ih c2 h1.2 h2.2
/-- Ahead of, or the same as. -/
def LeL (x y : List Nat) : Prop := x = y ∨ Beats x y
theorem LeL.antisymm {x y : List Nat} (h : LeL x y) (k : LeL y x) : x = y := by
  rcases h with h | h
  · exact h
  · rcases k with k | k
    · exact k.symm
    · exact absurd k h.asymm
theorem LeL.cons {x y : List Nat} (a : Nat) (h : LeL x y) : LeL (a :: x) (a :: y) := h.elim (fun e => .inl (by rw [e])) (fun b => .inr (b.cons a))

/-- The first smallest cycle. -/
def LeastCyc (A p : List Arc3) : Prop := Cyc A p ∧ (∀ k w, 0 < k → Walk A k w w → p.length ≤ k) ∧ ∀ q, Cyc A q → q.length = p.length → LeL (nums p) (nums q)
theorem LeastCyc.unique {A p q : List Arc3} (hp : LeastCyc A p) (hq : LeastCyc A q) : nums p = nums q := by
  obtain ⟨u, h1, h2⟩ := hp.1.walk
  obtain ⟨v, h3, h4⟩ := hq.1.walk
  have h5 := hp.2.1 _ _ h3 h4
  have h6 := hq.2.1 _ _ h1 h2
  have hl : p.length = q.length := by omega
  exact (hp.2.2 q hq.1 hl.symm).antisymm (hq.2.2 p hp.1 hl)

/-- The arcs behind a number. -/
def above (A : List Arc3) (i : Nat) : List Arc3 := A.filter fun a => decide (i < a.i)
/-- What the greedy way has come to. -/
structure Greedy (A : List Arc3) (from_ to m : Nat) (p : List Arc3) (at_ : Nat) : Prop where
  inA : In A p
  chain : Chain from_ p at_
  ahead : ∀ r, In A r → Chain from_ r to → r.length = m → (∃ s, r = p ++ s) ∨ Beats (nums p) (nums r)

theorem Greedy.start {A : List Arc3} {f to m : Nat} : Greedy A f to m [] f := ⟨In.nil, rfl, fun r _ _ _ => .inl ⟨r, rfl⟩⟩
theorem Greedy.step {A : List Arc3} {f to m n at_ : Nat} {p : List Arc3} {d : List Int} (h : Greedy A f to m p at_) (hb : Below n A) (hd : IsDist A to n d) {b : Arc3} (hbA : b ∈ A) (hlo : b.lo = at_) (hm : (p.length : Int) + dAt d at_ = m) (hn : at_ < n)
    (hup : dAt d b.up = dAt d at_ - 1) (h0 : 0 ≤ dAt d b.up) (hleast : ∀ b' ∈ A, b'.lo = at_ → dAt d b'.up = dAt d at_ - 1 → b.i ≤ b'.i) (hinj : ∀ a ∈ A, ∀ b ∈ A, a.i = b.i → a = b) : Greedy A f to m (p ++ [b]) b.up := by
  refine ⟨In.append.2 ⟨h.inA, In.cons.2 ⟨hbA, In.nil⟩⟩, Chain.append.2 ⟨at_, h.chain, hlo, rfl⟩, fun r hr hc hl => ?_⟩
  rcases h.ahead r hr hc hl with ⟨s, rfl⟩ | hbt
  · obtain ⟨w, h1, h2⟩ := Chain.append.1 hc
    have := h.chain.ends h1
    subst this
    rw [In.append] at hr
    rw [List.length_append] at hl
    cases s with
    | nil => simp at hl; omega
    | cons b' s =>
      have hb'A := hr.2 b' (by simp)
      have hw : Walk A s.length b'.up to := ⟨s, fun x hx => hr.2 x (by simp [hx]), rfl, h2.2⟩
      simp only [List.length_cons] at hl
      have hd' : dAt d b'.up = dAt d at_ - 1 := by
        rcases hd.2 b'.up (hb b' hb'A).2 with ⟨_, hno⟩ | ⟨k, hk, hkw, hkm⟩
        · exact absurd hw (hno _)
        · have h3 := hkm _ hw
          have h4 : Walk A (k + 1) at_ to := Walk.succ.2 ⟨b', hb'A, h2.1, hkw⟩
          rcases hd.2 at_ hn with ⟨_, hno⟩ | ⟨q, hq, _, hqm⟩
          · exact absurd h4 (hno _)
          · have := hqm _ h4
            omega
      have hle := hleast b' hb'A h2.1 hd'
      rcases Nat.lt_or_ge b.i b'.i with hlt | hge
      · exact .inr ⟨nums p, b.i, b'.i, [], nums s, by simp [nums], by simp [nums], hlt⟩
      · have : b = b' := hinj b hbA b' hb'A (by omega)
        subst this
        exact .inl ⟨s, by simp⟩
  · exact .inr (by rw [nums, List.map_append]; exact hbt.append)

theorem Greedy.done {A : List Arc3} {f to m : Nat} {p : List Arc3} (h : Greedy A f to m p to) (hm : p.length = m) : ∀ r, In A r → Chain f r to → r.length = m → LeL (nums p) (nums r) := fun r hr hc hl => by
  rcases h.ahead r hr hc hl with ⟨s, rfl⟩ | hb
  · rw [List.length_append] at hl
    have : s = [] := List.eq_nil_of_length_eq_zero (by omega)
    subst this
    exact .inl (by simp)
  · exact .inr hb

end Go.Jog
namespace Go.Jog

/-- Each arc's lower place stands ahead of its upper one. -/
def Ord (A : List Arc3) (o : List Nat) : Prop := ∀ pre u post, o = pre ++ u :: post → ∀ a ∈ A, a.up = u → a.lo ∈ pre
def Topo (A : List Arc3) (n : Nat) (o : List Nat) : Prop := o.length = n ∧ o.Nodup ∧ (∀ u ∈ o, u < n) ∧ Ord A o
def TopoLeast (A : List Arc3) (n : Nat) (o : List Nat) : Prop := Topo A n o ∧ ∀ o', Topo A n o' → LeL o o'
theorem TopoLeast.unique {A : List Arc3} {n : Nat} {o o' : List Nat} (h : TopoLeast A n o) (k : TopoLeast A n o') : o = o' := (h.2 _ k.1).antisymm (k.2 _ h.1)

theorem Topo.mem {A : List Arc3} {n : Nat} {o : List Nat} (h : Topo A n o) {u : Nat} (hu : u < n) : u ∈ o := by
  refine Classical.byContradiction fun hn => ?_
  have h1 : (u :: o).Nodup := List.nodup_cons.2 ⟨hn, h.2.1⟩
  have := nodup_len h1 (n := n) (fun x hx => by
    rcases List.mem_cons.1 hx with rfl | hx
    · exact hu
    · exact h.2.2.1 x hx)
  simp only [List.length_cons, h.1] at this
  omega

def posIn : List Nat → Nat → Nat
  | [], _ => 0
  | x :: l, u => if x = u then 0 else posIn l u + 1
theorem posIn_mem : ∀ {p q : List Nat} {u : Nat}, u ∈ p → posIn (p ++ q) u = posIn p u ∧ posIn p u < p.length
  | [], _, _, h => by cases h
  | x :: p, q, u, h => by
    simp only [List.cons_append, posIn]
    by_cases e : x = u
    · rw [if_pos e, if_pos e]; exact ⟨rfl, by simp⟩
    · rw [if_neg e, if_neg e]
      obtain ⟨h1, h2⟩ := posIn_mem (q := q) ((List.mem_cons.1 h).resolve_left (fun e2 => e e2.symm))
      rw [h1]; exact ⟨rfl, by simp; omega⟩
theorem posIn_not : ∀ {p q : List Nat} {u : Nat}, u ∉ p → posIn (p ++ q) u = p.length + posIn q u
  | [], _, _, _ => by simp
  | x :: p, q, u, h => by
    simp only [List.mem_cons, not_or] at h
    simp only [List.cons_append, posIn, if_neg (Ne.symm h.1), posIn_not h.2, List.length_cons]
    omega
theorem ord_idx {A : List Arc3} {o : List Nat} (h : Ord A o) {a : Arc3} (ha : a ∈ A) (hu : a.up ∈ o) (hnd : o.Nodup) : posIn o a.lo < posIn o a.up ∧ a.lo ∈ o := by
  obtain ⟨pre, post, rfl⟩ := List.append_of_mem hu
  have hlo := h pre a.up post rfl a ha rfl
  have hni : a.up ∉ pre := by
    have := List.nodup_append.1 hnd
    intro hm
    exact this.2.2 _ hm _ (by simp) rfl
  refine ⟨?_, List.mem_append_left _ hlo⟩
  obtain ⟨h1, h2⟩ := posIn_mem (q := a.up :: post) hlo
  rw [h1, posIn_not hni]
  omega

/-- Where each place of a set has an arc from within the set, a way leads back. -/
theorem back_of_preds {A : List Arc3} {n : Nat} {S : Nat → Prop} (hS : ∀ u, S u → u < n) {u : Nat} (hu : S u) (hp : ∀ u, S u → ∃ a ∈ A, a.up = u ∧ S a.lo) : ∃ k w, 0 < k ∧ Walk A k w w := by
  have long : ∀ k, ∃ p v, In A p ∧ p.length = k ∧ Chain v p u ∧ S v ∧ ∀ x ∈ lows p, S x := by
    intro k
    induction k with
    | zero => exact ⟨[], u, In.nil, rfl, rfl, hu, fun x hx => by cases hx⟩
    | succ k ih =>
      obtain ⟨p, v, h1, h2, h3, h4, h5⟩ := ih
      obtain ⟨a, ha, hv, hs⟩ := hp v h4
      refine ⟨a :: p, a.lo, In.cons.2 ⟨ha, h1⟩, by simp [h2], ⟨rfl, by rw [hv]; exact h3⟩, hs, fun x hx => ?_⟩
      rcases List.mem_cons.1 hx with rfl | hx
      · exact hs
      · exact h5 x hx
  obtain ⟨p, v, h1, h2, h3, _, h5⟩ := long (n + 1)
  have hnd : ¬ (lows p).Nodup := fun hnd => by
    have := nodup_len hnd (n := n) (fun x hx => hS x (h5 x hx))
    simp only [lows, List.length_map, h2] at this
    omega
  rw [List.nodup_iff_pairwise_ne, List.pairwise_iff_getElem] at hnd
  simp only [Classical.not_forall, Classical.not_not] at hnd
  obtain ⟨i, j, hi, hj, hij, he⟩ := hnd
  simp only [lows, List.length_map, List.getElem_map] at hi hj he
  have k1 := h3.split (List.getElem?_eq_getElem hj)
  have hti : (p.take j)[i]? = some p[i] := by rw [List.getElem?_take, if_pos hij]; exact List.getElem?_eq_getElem hi
  have k2 := k1.1.split hti
  rw [← he] at k2
  refine ⟨j - i, p[i].lo, by omega, (p.take j).drop i, fun a ha => h1 a (List.mem_of_mem_take (List.mem_of_mem_drop ha)), by simp; omega, k2.2⟩

/-! ### Taking the least free place, again and again -/
/-- How many arcs lead to a place from places that are not done. -/
def cnt (A : List Arc3) (dn : List Nat) (u : Nat) : Nat := A.countP fun a => decide (a.up = u) && !(dn.contains a.lo)
theorem cnt_zero {A : List Arc3} {dn : List Nat} {u : Nat} : cnt A dn u = 0 ↔ ∀ a ∈ A, a.up = u → a.lo ∈ dn := by
  unfold cnt
  rw [List.countP_eq_zero]
  constructor
  · intro h a ha hu
    have := h a ha
    simp only [hu, decide_true, Bool.true_and, Bool.not_eq_true, Bool.not_eq_false', List.contains_iff_mem] at this
    exact this
  · intro h a ha
    by_cases hu : a.up = u
    · have := h a ha hu
      simp [hu, this]
    · simp [hu]
/-- The arcs from a place, to a place. -/
def nexts (A : List Arc3) (i : Nat) : List Arc3 := A.filter fun a => decide (a.lo = i)
theorem cnt_snoc {A : List Arc3} {dn : List Nat} {i u : Nat} (hi : i ∉ dn) : cnt A dn u = cnt A (dn ++ [i]) u + (nexts A i).countP (fun a => decide (a.up = u)) := by
  induction A with
  | nil => rfl
  | cons a A ih =>
    have e1 : cnt (a :: A) dn u = cnt A dn u + (if (decide (a.up = u) && !(dn.contains a.lo)) = true then 1 else 0) := List.countP_cons ..
    have e2 : cnt (a :: A) (dn ++ [i]) u = cnt A (dn ++ [i]) u + (if (decide (a.up = u) && !((dn ++ [i]).contains a.lo)) = true then 1 else 0) := List.countP_cons ..
    have e3 : (nexts (a :: A) i).countP (fun a => decide (a.up = u)) = (nexts A i).countP (fun a => decide (a.up = u)) + (if a.lo = i ∧ a.up = u then 1 else 0) := by
      unfold nexts
      rw [List.filter_cons]
      by_cases h1 : a.lo = i
      · rw [if_pos (decide_eq_true h1), List.countP_cons]
        by_cases h2 : a.up = u <;> simp [h1, h2]
      · rw [if_neg (by simp [h1])]
        simp [h1]
    rw [e1, e2, e3, ih]
    have hm : (dn ++ [i]).contains a.lo = (dn.contains a.lo || decide (a.lo = i)) := by
      by_cases h1 : a.lo = i <;> simp [h1]
    rw [hm]
    by_cases h1 : a.lo = i
    · have h2 : dn.contains a.lo = false := by rw [h1]; simpa using hi
      rw [h2]
      by_cases h3 : a.up = u <;> simp [h1, h3] <;> omega
    · by_cases h3 : a.up = u
      · cases h4 : dn.contains a.lo <;> simp [h1, h3] <;> omega
      · simp [h1, h3]

/-- What holds between two steps. -/
structure Kahn (A : List Arc3) (n : Nat) (dn av : List Nat) : Prop where
  nodup : dn.Nodup
  below : ∀ u ∈ dn, u < n
  ord : Ord A dn
  avnd : av.Nodup
  av : ∀ u, u ∈ av ↔ u < n ∧ u ∉ dn ∧ cnt A dn u = 0
  least : ∀ o, Topo A n o → (∃ s, o = dn ++ s) ∨ Beats dn o

theorem ord_nil {A : List Arc3} : Ord A [] := fun pre u post h => by simp at h
theorem ord_snoc {A : List Arc3} {dn : List Nat} {i : Nat} (h : Ord A dn) (hc : cnt A dn i = 0) : Ord A (dn ++ [i]) := fun pre u post he a ha hu => by
  rcases List.eq_nil_or_concat post with rfl | ⟨post', x, rfl⟩
  · have h1 := List.append_inj' he (by simp)
    obtain ⟨rfl, h2⟩ := h1
    simp only [List.cons.injEq, and_true] at h2
    subst h2
    exact cnt_zero.1 hc a ha hu
  · rw [List.concat_eq_append, ← List.cons_append, ← List.append_assoc] at he
    obtain ⟨h1, _⟩ := List.append_inj' he (by simp)
    exact h pre u post' h1 a ha hu

theorem Kahn.step {A : List Arc3} {n : Nat} {dn av av' : List Nat} {i : Nat} (h : Kahn A n dn av) (hi : i ∈ av) (hmin : ∀ u ∈ av, i ≤ u) (hnd : av'.Nodup) (hav : ∀ u, u ∈ av' ↔ u < n ∧ u ∉ dn ++ [i] ∧ cnt A (dn ++ [i]) u = 0) : Kahn A n (dn ++ [i]) av' := by
  obtain ⟨hin, hid, hic⟩ := (h.av i).1 hi
  refine ⟨?_, fun u hu => ?_, ord_snoc h.ord hic, hnd, hav, fun o ho => ?_⟩
  · rw [List.nodup_append]
    exact ⟨h.nodup, by simp, fun a ha b hb e => by simp only [List.mem_singleton] at hb; subst hb; subst e; exact hid ha⟩
  · rcases List.mem_append.1 hu with hu | hu
    · exact h.below u hu
    · simp only [List.mem_singleton] at hu; subst hu; exact hin
  · rcases h.least o ho with ⟨s, rfl⟩ | hb
    · cases s with
      | nil =>
        exact absurd (ho.mem hin) (by simpa using hid)
      | cons u s =>
        have hu : u ∈ av := (h.av u).2 ⟨ho.2.2.1 u (by simp), fun hm => by
          have := List.nodup_append.1 ho.2.1
          exact this.2.2 u hm u (by simp) rfl, cnt_zero.2 (fun a ha hau => ho.2.2.2 dn u s rfl a ha hau)⟩
        have hle := hmin u hu
        rcases Nat.lt_or_ge i u with hlt | hge
        · exact .inr ⟨dn, i, u, [], s, by simp, rfl, hlt⟩
        · have : i = u := by omega
          subst this
          exact .inl ⟨s, by simp⟩
    · exact .inr hb.append

theorem Kahn.finish {A : List Arc3} {n : Nat} {dn : List Nat} (h : Kahn A n dn []) (hb : Below n A) : (dn.length = n ∧ TopoLeast A n dn) ∨ (dn.length ≠ n ∧ ∃ k w, 0 < k ∧ Walk A k w w) := by
  by_cases hl : dn.length = n
  · have ht : Topo A n dn := ⟨hl, h.nodup, h.below, h.ord⟩
    refine .inl ⟨hl, ht, fun o ho => ?_⟩
    rcases h.least o ho with ⟨s, rfl⟩ | hbt
    · have := ho.1
      rw [List.length_append, hl] at this
      have : s = [] := List.eq_nil_of_length_eq_zero (by omega)
      subst this
      exact .inl (by simp)
    · exact .inr hbt
  · refine .inr ⟨hl, ?_⟩
    have hle := nodup_len h.nodup h.below
    obtain ⟨u, hu, hud⟩ : ∃ u, u < n ∧ u ∉ dn := by
      refine Classical.byContradiction fun hno => ?_
      simp only [not_exists, not_and, Classical.not_not] at hno
      have : (List.range n).length ≤ dn.length := List.Nodup.length_le_of_subset List.nodup_range (fun x hx => hno x (List.mem_range.1 hx))
      simp only [List.length_range] at this
      omega
    refine back_of_preds (n := n) (S := fun u => u < n ∧ u ∉ dn) (fun u h => h.1) ⟨hu, hud⟩ (fun v ⟨hv, hvd⟩ => ?_)
    have hc : cnt A dn v ≠ 0 := fun hc => by
      have := (h.av v).2 ⟨hv, hvd, hc⟩
      cases this
    have : ¬ ∀ a ∈ A, a.up = v → a.lo ∈ dn := fun h2 => hc (cnt_zero.2 h2)
    simp only [Classical.not_forall] at this
    obtain ⟨a, ha, hau, hal⟩ := this
    refine ⟨a, ha, hau, ?_, hal⟩
    exact (hb a ha).1
end Go.Jog
namespace Go.Jog

/-- The greatest length of a way to a place, or from it. -/
def LongTo (A : List Arc3) (u m : Nat) : Prop := (∃ v, Walk A m v u) ∧ ∀ k v, Walk A k v u → k ≤ m
def LongFrom (A : List Arc3) (u m : Nat) : Prop := (∃ v, Walk A m u v) ∧ ∀ k v, Walk A k u v → k ≤ m
theorem LongTo.unique {A : List Arc3} {u m m' : Nat} (h : LongTo A u m) (k : LongTo A u m') : m = m' := by
  obtain ⟨v, hv⟩ := h.1
  obtain ⟨w, hw⟩ := k.1
  have := h.2 _ _ hw
  have := k.2 _ _ hv
  omega
theorem LongFrom.unique {A : List Arc3} {u m m' : Nat} (h : LongFrom A u m) (k : LongFrom A u m') : m = m' := by
  obtain ⟨v, hv⟩ := h.1
  obtain ⟨w, hw⟩ := k.1
  have := h.2 _ _ hw
  have := k.2 _ _ hv
  omega

/-! ### The table of the longest ways of at most k arcs -/
/-- The greatest length of a way of 1 to k arcs from u to v; 0 if there is none. -/
def LongK (A : List Arc3) (k u v m : Nat) : Prop := (m = 0 ∧ ∀ j, 1 ≤ j → j ≤ k → ¬ Walk A j u v) ∨ (1 ≤ m ∧ m ≤ k ∧ Walk A m u v ∧ ∀ j, j ≤ k → Walk A j u v → j ≤ m)
theorem LongK.unique {A : List Arc3} {k u v m m' : Nat} (h : LongK A k u v m) (h' : LongK A k u v m') : m = m' := by
  rcases h with ⟨h1, h2⟩ | ⟨h1, h2, h3, h4⟩
  · rcases h' with ⟨k1, k2⟩ | ⟨k1, k2, k3, k4⟩
    · omega
    · exact absurd k3 (h2 _ k1 k2)
  · rcases h' with ⟨k1, k2⟩ | ⟨k1, k2, k3, k4⟩
    · exact absurd h3 (k2 _ h1 h2)
    · have := h4 _ k2 k3
      have := k4 _ h2 h3
      omega
/-- What one arc adds. -/
def addW (o : Nat) (self : Bool) (x : Nat) : Nat := max (if self = true then max x 1 else x) (if 0 < o then min 8 (o + 1) else 0)
/-- The table at (c, v) after the arcs of a list, from the table f of one arc less. -/
def rowT (f : Nat → Nat → Nat) (c v : Nat) : List Arc3 → Nat → Nat
  | [], x => x
  | a :: l, x => rowT f c v l (if a.up = v then addW (f c a.lo) (decide (c = a.lo)) x else x)
/-- The table of at most k arcs. -/
def tab (A : List Arc3) : Nat → Nat → Nat → Nat
  | 0, _, _ => 0
  | k + 1, c, v => rowT (tab A k) c v A (tab A k c v)
end Go.Jog
namespace Go.Proofs.YtfelabnohopfdaaGreatDoor
open Go Go.Jog
def tab : Tab := [(2, ⟨.int .i64, 1, 8, [.int .i64], false⟩),
  (3, ⟨.int .i64, 1, 8, [.int .i64], false⟩),
  (4, ⟨.bool, 1, 1, [.bool], false⟩),
  (5, ⟨.int .u8, 1, 1, [.int .u8], false⟩),
  (9, ⟨.str, 1, 16, [.str], false⟩),
  (12, ⟨.int .u64, 1, 8, [.int .u64], false⟩),
  (21, ⟨.int .i32, 1, 4, [.int .i32], false⟩),
  (22, ⟨.str, 1, 16, [.str], false⟩),
  (25, ⟨.slice 61, 1, 24, [.slice], false⟩),
  (26, ⟨.slice 9, 1, 24, [.slice], false⟩),
  (27, ⟨.slice 3, 1, 24, [.slice], false⟩),
  (29, ⟨.slice 33, 1, 24, [.slice], false⟩),
  (33, ⟨.struct [(3, 0), (9, 1), (9, 2)], 3, 40, [.int .i64, .str, .str], true⟩),
  (35, ⟨.int .i64, 1, 8, [.int .i64], false⟩),
  (42, ⟨.slice 22, 1, 24, [.slice], false⟩),
  (44, ⟨.struct [(42, 0), (22, 1)], 2, 40, [.slice, .str], true⟩),
  (45, ⟨.slice 44, 1, 24, [.slice], false⟩),
  (47, ⟨.struct [(42, 0)], 1, 24, [.slice], true⟩),
  (50, ⟨.slice 141, 1, 24, [.slice], false⟩),
  (51, ⟨.slice 146, 1, 24, [.slice], false⟩),
  (53, ⟨.struct [(50, 0), (51, 1), (26, 2)], 3, 72, [.slice, .slice, .slice], true⟩),
  (54, ⟨.slice 112, 1, 24, [.slice], false⟩),
  (55, ⟨.slice 112, 1, 24, [.slice], false⟩),
  (57, ⟨.struct [(4, 0), (55, 1), (55, 2)], 3, 56, [.bool, .slice, .slice], true⟩),
  (61, ⟨.struct [(5, 0), (5, 1), (5, 2)], 3, 3, [.int .u8, .int .u8, .int .u8], true⟩),
  (64, ⟨.ptr 128, 1, 8, [.ptr], false⟩),
  (69, ⟨.map 9 3, 1, 8, [.map], false⟩),
  (71, ⟨.slice 57, 1, 24, [.slice], false⟩),
  (74, ⟨.slice 71, 1, 24, [.slice], false⟩),
  (76, ⟨.struct [(74, 0), (71, 1), (71, 2)], 3, 72, [.slice, .slice, .slice], true⟩),
  (85, ⟨.ptr 104, 1, 8, [.ptr], false⟩),
  (88, ⟨.slice 27, 1, 24, [.slice], false⟩),
  (91, ⟨.func, 1, 8, [.func], false⟩),
  (93, ⟨.struct [(57, 0), (57, 3)], 6, 112, [.bool, .slice, .slice, .bool, .slice, .slice], true⟩),
  (97, ⟨.map 3 3, 1, 8, [.map], false⟩),
  (98, ⟨.slice 4, 1, 24, [.slice], false⟩),
  (100, ⟨.struct [(3, 0), (3, 1), (3, 2)], 3, 24, [.int .i64, .int .i64, .int .i64], true⟩),
  (101, ⟨.slice 93, 1, 24, [.slice], false⟩),
  (102, ⟨.slice 100, 1, 24, [.slice], false⟩),
  (104, ⟨.struct [(101, 0), (102, 1), (88, 2)], 3, 72, [.slice, .slice, .slice], true⟩),
  (112, ⟨.int .u32, 1, 4, [.int .u32], false⟩),
  (115, ⟨.str, 1, 16, [.str], false⟩),
  (122, ⟨.slice 5, 1, 24, [.slice], false⟩),
  (125, ⟨.slice 130, 1, 24, [.slice], false⟩),
  (126, ⟨.slice 125, 1, 24, [.slice], false⟩),
  (128, ⟨.struct [(26, 0), (69, 1), (125, 2), (126, 3)], 4, 80, [.slice, .map, .slice, .slice], true⟩),
  (130, ⟨.struct [(3, 0), (3, 1), (3, 2)], 3, 24, [.int .i64, .int .i64, .int .i64], true⟩),
  (132, ⟨.ptr 133, 1, 8, [.ptr], false⟩),
  (133, ⟨.slice 3, 1, 24, [.slice], false⟩),
  (141, ⟨.struct [(22, 0), (22, 1)], 2, 32, [.str, .str], true⟩),
  (144, ⟨.map 147 4, 1, 8, [.map], false⟩),
  (146, ⟨.struct [(3, 0), (3, 1), (3, 2), (3, 3)], 4, 32, [.int .i64, .int .i64, .int .i64, .int .i64], true⟩),
  (147, ⟨.arr 2 3, 2, 16, [.int .i64, .int .i64], true⟩),
  (170, ⟨.iface, 1, 16, [.iface], false⟩),
  (178, ⟨.int .u64, 1, 8, [.int .u64], false⟩),
  (179, ⟨.int .u64, 1, 8, [.int .u64], false⟩),
  (225, ⟨.ptr 3, 1, 8, [.ptr], false⟩),
  (230, ⟨.arr 24 5, 24, 24, [.int .u8, .int .u8, .int .u8, .int .u8, .int .u8, .int .u8, .int .u8, .int .u8, .int .u8, .int .u8, .int .u8, .int .u8, .int .u8, .int .u8, .int .u8, .int .u8, .int .u8, .int .u8, .int .u8, .int .u8, .int .u8, .int .u8, .int .u8, .int .u8], true⟩),
  (239, ⟨.arr 20 178, 20, 160, [.int .u64, .int .u64, .int .u64, .int .u64, .int .u64, .int .u64, .int .u64, .int .u64, .int .u64, .int .u64, .int .u64, .int .u64, .int .u64, .int .u64, .int .u64, .int .u64, .int .u64, .int .u64, .int .u64, .int .u64], true⟩),
  (242, ⟨.arr 32 5, 32, 32, [.int .u8, .int .u8, .int .u8, .int .u8, .int .u8, .int .u8, .int .u8, .int .u8, .int .u8, .int .u8, .int .u8, .int .u8, .int .u8, .int .u8, .int .u8, .int .u8, .int .u8, .int .u8, .int .u8, .int .u8, .int .u8, .int .u8, .int .u8, .int .u8, .int .u8, .int .u8, .int .u8, .int .u8, .int .u8, .int .u8, .int .u8, .int .u8], true⟩),
  (247, ⟨.arr 0 16, 0, 0, [], true⟩),
  (253, ⟨.ptr 5, 1, 8, [.ptr], false⟩)]
noncomputable def cx : Cx := { P := Tryz.prog, T := tab, mixed := by kernel_rfl, hT := by kernel_rfl }

abbrev Str := List UInt8

/-! ### The model -/
structure Rel where
  kind : Int
  upper : Str
  lower : Str
  deriving DecidableEq, Inhabited
def Rel.enc (x : Rel) : List Value := [.int .i64 x.kind, strV x.upper, strV x.lower]

def letterB (b : UInt8) : Bool := (decide (97 ≤ (b.toNat : Int)) && decide ((b.toNat : Int) ≤ 122)) || (decide (65 ≤ (b.toNat : Int)) && decide ((b.toNat : Int) ≤ 90))
def digitB (b : UInt8) : Bool := (decide (48 ≤ (b.toNat : Int)) && decide ((b.toNat : Int) ≤ 57)) || ((b.toNat : Int) == 95)
def nameByte (k : Nat) (b : UInt8) : Bool := letterB b || (!(k == 0) && digitB b)
def nameFrom : Nat → Str → Bool
  | _, [] => true
  | k, b :: s => nameByte k b && nameFrom (k + 1) s
def isNameB (s : Str) : Bool := !(s == []) && decide (s.length ≤ 32) && nameFrom 0 s

theorem nameFrom_at : ∀ {s : Str} {k i : Nat} {b : UInt8}, s[i]? = some b → nameByte (k + i) b = false → nameFrom k s = false
  | [], k, i, b, h, _ => by simp at h
  | c :: s, k, 0, b, h, hn => by
    simp at h
    subst h
    simp only [Nat.add_zero] at hn
    simp [nameFrom, hn]
  | c :: s, k, i + 1, b, h, hn => by
    have := nameFrom_at (k := k + 1) (by simpa using h) (by rw [show k + 1 + i = k + (i + 1) by omega]; exact hn)
    simp [nameFrom, this]
theorem nameFrom_all : ∀ {s : Str} {k : Nat}, (∀ i b, s[i]? = some b → nameByte (k + i) b = true) → nameFrom k s = true
  | [], k, _ => rfl
  | c :: s, k, h => by
    have h0 := h 0 c (by simp)
    simp only [Nat.add_zero] at h0
    have h1 := nameFrom_all (s := s) (k := k + 1) (fun i b hb => by
      have := h (i + 1) b (by simpa using hb)
      rwa [show k + (i + 1) = k + 1 + i by omega] at this)
    simp [nameFrom, h0, h1]

/-! ### IsName -/
set_option maxRecDepth 100000 in
theorem isName_spec (C : Mem) (s : Str) (hl : s.length < 1000000) : Gives cx.P 93 [strV s] C (.bool (isNameB s)) := by
  refine Fn.intro (by kernel_rfl) Tryz.func93 rfl 57 rfl rfl (fun w0 => ?_)
  refine G.region rfl (fun R hR => ?_)
  refine D.pure rfl rfl rfl rfl rfl rfl ?_
  refine D.done [(0, [], _), (2, [], _)] ⟨rfl, rfl, trivial⟩ (hR _ _ _ rfl ?_); clear hR R
  refine G.region rfl (fun R hR => ?_)
  iterate 6 refine D.pure rfl rfl rfl rfl rfl rfl ?_
  refine D.pickOr rfl rfl rfl rfl rfl rfl rfl rfl ?_
  refine D.done [(0, [], _), (13, [], _)] ⟨rfl, rfl, trivial⟩ (hR _ _ _ rfl ?_); clear hR R
  refine G.cond rfl (fun h => ?_) (fun h => ?_)
  · skip
    refine G.region rfl (fun R hR => ?_)
    refine D.pure rfl rfl rfl rfl rfl rfl ?_
    refine D.done [(2, [], _)] ⟨rfl, trivial⟩ (hR _ _ _ rfl ?_); clear hR R
    refine G.retN (G.dropAll (G.fin1 rfl rfl ?_))
    refine ⟨?_, rfl⟩
    congr 1
    simp only [Bool.or_eq_true, beq_iff_eq, decide_eq_true_eq] at h
    unfold isNameB
    rcases h with h | h
    · have : s = [] := h
      simp [this]
    · have h2 : ¬ s.length ≤ 32 := by omega
      simp [h2]
  · skip
    simp only [Bool.or_eq_false_iff, beq_eq_false_iff_ne, decide_eq_false_iff_not] at h
    have hne : s ≠ [] := h.1
    have h32 : s.length ≤ 32 := by have := h.2; omega
    refine G.region rfl (fun R hR => ?_)
    refine D.pure rfl rfl rfl rfl rfl rfl ?_
    refine D.strBytes rfl rfl rfl rfl rfl rfl rfl rfl rfl rfl (by simp only [maxLen]; omega) (fun _ => rfl) (fun p15 C1 hle1 hs1 => ?_)
    have hsl := hs1
    obtain ⟨A, c, rfl, _⟩ := hsl
    iterate 2 refine D.pure rfl rfl rfl rfl rfl rfl ?_
    refine D.done [(15, [], _), (16, [], _), (17, [], _)] ⟨rfl, rfl, rfl, trivial⟩ (hR _ _ _ rfl ?_); clear hR R
    refine G.loop (fun fr C' L' m => ∃ k : Nat, k ≤ s.length ∧ (∀ i b, i < k → s[i]? = some b → nameByte (0 + i) b = true) ∧ fr = [(15, [], .slice A (s.map fun b => [Value.int .u8 b.toNat]).length c), (16, [], .int .i64 (s.map fun b => [Value.int .u8 b.toNat]).length), (17, [], .int .i64 k)] ∧ L' = [] ∧ m = s.length - k) (m := s.length) (fr' := [(15, [], _), (16, [], _), (17, [], _)]) ⟨rfl, rfl, rfl, trivial⟩ ⟨0, Nat.zero_le _, fun i b hi => by omega, rfl, rfl, rfl⟩ (fun fr C' L' m hle hI => ?_)
    obtain ⟨k, hk, hall, rfl, rfl, rfl⟩ := hI
    refine G.region rfl (fun R hR => ?_)
    refine D.pure rfl rfl rfl rfl rfl rfl ?_
    refine D.done [(15, [], _), (16, [], _), (17, [], _), (18, [], _)] ⟨rfl, rfl, rfl, rfl, trivial⟩ (hR _ _ _ rfl ?_); clear hR R
    refine G.cond rfl (fun h => ?_) (fun h => ?_)
    · skip
      simp only [List.length_map, decide_eq_true_eq] at h
      have hk1 : k < s.length := by omega
      obtain ⟨b, hb⟩ : ∃ b, s[k]? = some b := ⟨s[k], List.getElem?_eq_getElem hk1⟩
      have hs2 := hs1.mono hle
      refine G.region rfl (fun R hR => ?_)
      refine D.pure rfl rfl rfl rfl rfl rfl ?_
      refine D.index0 hs2 rfl rfl rfl rfl rfl rfl rfl rfl rfl rfl (by omega) (row := [.int .u8 b.toNat]) (by simp [hb]) (fun _ => rfl) (fun p20 hp20 => ?_)
      refine D.loadP0 hp20 rfl rfl rfl rfl rfl rfl rfl rfl ?_
      iterate 2 refine D.pure rfl rfl rfl rfl rfl rfl ?_
      refine D.done [(3, [], _), (4, [], _), (15, [], _), (16, [], _), (17, [], _)] ⟨rfl, rfl, rfl, rfl, rfl, trivial⟩ (hR _ _ _ rfl ?_); clear hR R
      refine G.region rfl (fun R hR => ?_)
      iterate 5 refine D.pure rfl rfl rfl rfl rfl rfl ?_
      refine D.pickAnd rfl rfl rfl rfl rfl rfl rfl rfl ?_
      iterate 6 refine D.pure rfl rfl rfl rfl rfl rfl ?_
      refine D.pickAnd rfl rfl rfl rfl rfl rfl rfl rfl ?_
      refine D.pickOr rfl rfl rfl rfl rfl rfl rfl rfl ?_
      refine D.pure rfl rfl rfl rfl rfl rfl ?_
      refine D.done [(3, [], _), (4, [], _), (5, [], .bool (letterB b)), (15, [], _), (16, [], _), (17, [], _)] ⟨rfl, rfl, rfl, rfl, rfl, rfl, trivial⟩ (hR _ _ _ rfl ?_); clear hR R
      refine G.region rfl (fun R hR => ?_)
      iterate 5 refine D.pure rfl rfl rfl rfl rfl rfl ?_
      refine D.pickAnd rfl rfl rfl rfl rfl rfl rfl rfl ?_
      iterate 3 refine D.pure rfl rfl rfl rfl rfl rfl ?_
      refine D.pickOr rfl rfl rfl rfl rfl rfl rfl rfl ?_
      refine D.pure rfl rfl rfl rfl rfl rfl ?_
      refine D.done [(3, [], _), (5, [], _), (6, [], .bool (digitB b)), (15, [], _), (16, [], _), (17, [], _)] ⟨rfl, rfl, rfl, rfl, rfl, rfl, trivial⟩ (hR _ _ _ rfl ?_); clear hR R
      refine G.region rfl (fun R hR => ?_)
      iterate 8 refine D.pure rfl rfl rfl rfl rfl rfl ?_
      refine D.pickOr rfl rfl rfl rfl rfl rfl rfl rfl ?_
      refine D.pickAnd rfl rfl rfl rfl rfl rfl rfl rfl ?_
      refine D.done [(15, [], _), (16, [], _), (17, [], _), (55, [], .bool (!(letterB b) && (((k : Int) == 0) || !(digitB b))))] ⟨rfl, rfl, rfl, rfl, trivial⟩ (hR _ _ _ rfl ?_); clear hR R
      have hbyte : (!(letterB b) && (((k : Int) == 0) || !(digitB b))) = !(nameByte (0 + k) b) := by
        have e : ((k : Int) == 0) = (0 + k == 0) := by
          rw [Nat.zero_add]
          by_cases hk0 : k = 0
          · subst hk0; rfl
          · have : ¬ (k : Int) = 0 := by omega
            rw [beq_eq_false_iff_ne.2 this, beq_eq_false_iff_ne.2 hk0]
        unfold nameByte
        rw [e]
        cases letterB b <;> cases digitB b <;> cases (0 + k == 0) <;> rfl
      refine G.cond rfl (fun h => ?_) (fun h => ?_)
      · skip
        rw [hbyte] at h
        refine G.region rfl (fun R hR => ?_)
        refine D.pure rfl rfl rfl rfl rfl rfl ?_
        refine D.done [(2, [], _)] ⟨rfl, trivial⟩ (hR _ _ _ rfl ?_); clear hR R
        refine G.retN (G.dropAll (G.fin1 rfl rfl ?_))
        refine ⟨?_, rfl⟩
        have := nameFrom_at (k := 0) hb (by simpa using h)
        simp [isNameB, this]
      · skip
        rw [hbyte] at h
        refine G.region rfl (fun R hR => ?_)
        refine D.i64 ((k + 1 : Nat) : Int) rfl rfl rfl rfl (by omega) (by omega) (by omega) rfl rfl ?_
        refine D.pure rfl rfl rfl rfl rfl rfl ?_
        refine D.done [(15, [], _), (16, [], _), (17, [], _)] ⟨rfl, rfl, rfl, trivial⟩ (hR _ _ _ rfl ?_); clear hR R
        refine G.again (m' := s.length - (k + 1)) (by omega) hle (fr' := [(15, [], _), (16, [], _), (17, [], _)]) ⟨rfl, rfl, rfl, trivial⟩ ⟨k + 1, by omega, ?_, rfl, rfl, rfl⟩
        intro i b' hi hb'
        rcases Nat.lt_or_ge i k with h1 | h1
        · exact hall i b' h1 hb'
        · have : i = k := by omega
          subst this
          rw [hb] at hb'
          cases hb'
          simpa using h
    · skip
      simp only [List.length_map, decide_eq_false_iff_not] at h
      refine G.region rfl (fun R hR => ?_)
      refine D.pure rfl rfl rfl rfl rfl rfl ?_
      refine D.done [(2, [], _)] ⟨rfl, trivial⟩ (hR _ _ _ rfl ?_); clear hR R
      refine G.retN (G.dropAll (G.fin1 rfl rfl ?_))
      refine ⟨?_, rfl⟩
      have := nameFrom_all (s := s) (k := 0) (fun i b hb => hall i b (by have := (List.getElem?_eq_some_iff.1 hb).1; omega) hb)
      simp [isNameB, this, hne, h32]

/-! ### Check, CheckAll -/
def Rel.short (x : Rel) : Prop := x.upper.length < 1000000 ∧ x.lower.length < 1000000
def errOf (x : Rel) : Int := if x.kind < 1 ∨ 4 < x.kind then 12 else if isNameB x.upper = false ∨ isNameB x.lower = false then 8 else if x.upper = x.lower then 14 else 0
def errs : List Rel → Int
  | [] => 0
  | x :: l => if errOf x = 0 then errs l else errOf x
theorem errs_at : ∀ {l : List Rel} {k : Nat} {x : Rel}, l[k]? = some x → (∀ y ∈ l.take k, errOf y = 0) → errOf x ≠ 0 → errs l = errOf x
  | [], k, x, h, _, _ => by simp at h
  | y :: l, 0, x, h, _, hn => by
    simp at h
    subst h
    simp [errs, hn]
  | y :: l, k + 1, x, h, ha, hn => by
    have := errs_at (l := l) (k := k) (by simpa using h) (fun z hz => ha z (by simp [hz])) hn
    simp [errs, ha y (by simp), this]
theorem errs_zero : ∀ {l : List Rel}, (∀ y ∈ l, errOf y = 0) → errs l = 0
  | [], _ => rfl
  | y :: l, h => by simp [errs, h y (by simp), errs_zero (l := l) (fun z hz => h z (by simp [hz]))]

set_option maxRecDepth 100000 in
theorem check_spec (C : Mem) (x : Rel) (h1 : x.upper.length < 1000000) (h2 : x.lower.length < 1000000) : Gives cx.P 50 [.agg ⟨x.enc⟩] C (.int .i64 (errOf x)) := by
  refine Fn.intro (by kernel_rfl) Tryz.func50 rfl 29 rfl rfl (fun w0 => ?_)
  refine G.region rfl (fun R hR => ?_)
  refine D.box rfl rfl rfl rfl rfl rfl (fun _ => rfl) (fun b1 => ?_)
  refine D.pure rfl rfl rfl rfl rfl rfl ?_
  refine D.done [(1, [], _)] ⟨rfl, trivial⟩ (hR _ _ _ rfl ?_); clear hR R
  refine G.region rfl (fun R hR => ?_)
  refine D.pure rfl rfl rfl rfl rfl rfl ?_
  refine D.loadL (.head _) rfl rfl rfl rfl rfl rfl rfl rfl rfl ?_
  iterate 3 refine D.pure rfl rfl rfl rfl rfl rfl ?_
  refine D.loadL (.head _) rfl rfl rfl rfl rfl rfl rfl rfl rfl ?_
  refine D.pure rfl rfl rfl rfl rfl rfl ?_
  refine D.pickOr rfl rfl rfl rfl rfl rfl rfl rfl ?_
  refine D.pure rfl rfl rfl rfl rfl rfl ?_
  refine D.done [(1, [], _), (3, [], _)] ⟨rfl, rfl, trivial⟩ (hR _ _ _ rfl ?_); clear hR R
  refine G.cond rfl (fun h => ?_) (fun h => ?_)
  · skip
    refine G.region rfl (fun R hR => ?_)
    refine D.pure rfl rfl rfl rfl rfl rfl ?_
    refine D.done [(2, [], _)] ⟨rfl, trivial⟩ (hR _ _ _ rfl ?_); clear hR R
    refine G.retN (G.dropAll (G.fin1 rfl rfl ?_))
    simp at h
    exact ⟨by rw [errOf, if_pos (by omega)], rfl⟩
  · skip
    simp at h
    have h1 : ¬ (x.kind < 1 ∨ 4 < x.kind) := by omega
    refine G.region rfl (fun R hR => ?_)
    refine D.pure rfl rfl rfl rfl rfl rfl ?_
    refine D.loadL (.head _) rfl rfl rfl rfl rfl rfl rfl rfl rfl ?_
    refine D.gives2 (isName_spec _ _ (by assumption)) rfl rfl rfl rfl rfl rfl rfl (fun _ => rfl) ?_
    iterate 3 refine D.pure rfl rfl rfl rfl rfl rfl ?_
    refine D.loadL (.head _) rfl rfl rfl rfl rfl rfl rfl rfl rfl ?_
    refine D.gives (fun _ => isName_spec _ _ (by assumption)) rfl rfl rfl rfl rfl rfl rfl rfl rfl ?_
    refine D.pure rfl rfl rfl rfl rfl rfl ?_
    refine D.pickOr rfl rfl rfl rfl rfl rfl rfl rfl ?_
    refine D.pure rfl rfl rfl rfl rfl rfl ?_
    refine D.done [(1, [], _), (12, [], _)] ⟨rfl, rfl, trivial⟩ (hR _ _ _ rfl ?_); clear hR R
    refine G.cond rfl (fun h => ?_) (fun h => ?_)
    · skip
      refine G.region rfl (fun R hR => ?_)
      refine D.pure rfl rfl rfl rfl rfl rfl ?_
      refine D.done [(2, [], _)] ⟨rfl, trivial⟩ (hR _ _ _ rfl ?_); clear hR R
      refine G.retN (G.dropAll (G.fin1 rfl rfl ?_))
      simp at h
      exact ⟨by rw [errOf, if_neg h1, if_pos h], rfl⟩
    · skip
      simp at h
      refine G.region rfl (fun R hR => ?_)
      refine D.pure rfl rfl rfl rfl rfl rfl ?_
      refine D.loadL (.head _) rfl rfl rfl rfl rfl rfl rfl rfl rfl ?_
      refine D.pure rfl rfl rfl rfl rfl rfl ?_
      refine D.loadL (.head _) rfl rfl rfl rfl rfl rfl rfl rfl rfl ?_
      iterate 2 refine D.pure rfl rfl rfl rfl rfl rfl ?_
      refine D.done [(23, [], _)] ⟨rfl, trivial⟩ (hR _ _ _ rfl ?_); clear hR R
      refine G.cond rfl (fun h => ?_) (fun h => ?_)
      · skip
        refine G.region rfl (fun R hR => ?_)
        refine D.pure rfl rfl rfl rfl rfl rfl ?_
        refine D.done [(2, [], _)] ⟨rfl, trivial⟩ (hR _ _ _ rfl ?_); clear hR R
        refine G.retN (G.dropAll (G.fin1 rfl rfl ?_))
        simp at h
        exact ⟨by rw [errOf, if_neg h1, if_neg (by simp [*]), if_pos h], rfl⟩
      · skip
        refine G.region rfl (fun R hR => ?_)
        refine D.pure rfl rfl rfl rfl rfl rfl ?_
        refine D.done [(2, [], _)] ⟨rfl, trivial⟩ (hR _ _ _ rfl ?_); clear hR R
        refine G.retN (G.dropAll (G.fin1 rfl rfl ?_))
        have h5 : ¬ x.upper = x.lower := fun e => by rw [e] at h; simp at h
        exact ⟨by rw [errOf, if_neg h1, if_neg (by simp [*]), if_neg h5], rfl⟩

set_option maxRecDepth 100000
structure ArcE where
  lower : Str
  upper : Str
  deriving DecidableEq, Inhabited
def ArcE.enc (x : ArcE) : List Value := [strV x.lower, strV x.upper]
def encS (s : Str) : List Value := [strV s]
theorem rel_len (x : Rel) : x.enc.length = 3 := rfl
theorem str_len (x : Str) : (encS x).length = 1 := rfl
theorem eqStr (a b : Str) : (a == b) = decide (a = b) := by by_cases h : a = b <;> simp [h]
set_option maxRecDepth 100000

set_option maxHeartbeats 1000000 in
theorem compact_str (C : Mem) (v : Value) (l : List Str) (hl : l.length ≤ 1000000) :
    Jog.Fn cx.P 95 [v] C [.arr v 9 1 l.length (l.map encS).flatten] fun u C' L' => L' = [] ∧ Sl C' 1 u ((compact l).map encS) := by
  refine Fn.intro (by kernel_rfl) Tryz.func95 rfl 61 rfl rfl (fun w0 => ?_)
  refine G.form (.head _) (fun hform hxl => ?_)
  have hlt : l.length < 2 ∨ ∃ g c, v = .slice (some ⟨g, 0, none⟩) l.length c ∧ l.length ≤ c ∧ c ≤ maxLen := by
    rcases hform with ⟨h1, h2⟩ | h1
    · exact .inl (by omega)
    · exact .inr h1
  obtain ⟨A, c0, hv⟩ : ∃ A c0, v = .slice A l.length c0 := by
    rcases hform with ⟨h1, h2⟩ | ⟨g, c, h1, _⟩
    · exact ⟨none, 0, by rw [h1, h2]⟩
    · exact ⟨_, c, h1⟩
  refine G.region rfl (fun R hR => ?_)
  refine D.pure rfl rfl rfl rfl rfl rfl ?_
  refine D.done [(0, [], _)] ⟨rfl, trivial⟩ (hR _ _ _ rfl ?_); clear hR R
  subst hv
  refine G.region rfl (fun R hR => ?_)
  iterate 3 refine D.pure rfl rfl rfl rfl rfl rfl ?_
  refine D.done [(0, [], _), (8, [], _)] ⟨rfl, rfl, trivial⟩ (hR _ _ _ rfl ?_); clear hR R
  refine G.cond rfl (fun h8 => ?_) (fun h8 => ?_)
  · skip
    simp only [decide_eq_true_eq] at h8
    have hid : compact l = l := compact_id (fun i x y _ h2 => by have := (List.getElem?_eq_some_iff.1 h2).1; omega)
    refine G.region rfl (fun R hR => ?_)
    iterate 2 refine D.pure rfl rfl rfl rfl rfl rfl ?_
    refine D.done [(2, [], _)] ⟨rfl, trivial⟩ (hR _ _ _ rfl ?_); clear hR R
    refine G.freezeArr 0 (l.map encS) rfl rfl (by intro r hr; obtain ⟨x, _, rfl⟩ := List.mem_map.1 hr; exact str_len x) (by simp) (fun Cf hlef hsf => G.retN (G.fin1 rfl rfl ?_))
    exact ⟨rfl, by rw [hid]; exact hsf⟩
  · skip
    simp only [decide_eq_false_iff_not] at h8
    obtain ⟨g, c, hv, hlc, hcm⟩ := hlt.resolve_left (by omega)
    obtain ⟨rfl, rfl⟩ : some (⟨g, 0, none⟩ : Addr) = A ∧ c = c0 := by cases hv; exact ⟨rfl, rfl⟩
    refine G.region rfl (fun R hR => ?_)
    refine D.pure rfl rfl rfl rfl rfl rfl ?_
    refine D.done [(0, [], _), (3, [], _)] ⟨rfl, rfl, trivial⟩ (hR _ _ _ rfl ?_); clear hR R
    refine G.loop (fun fr C' L' μ => ∃ (k : Nat), (1 ≤ k ∧ k ≤ l.length ∧ ∀ i x y, i + 1 < k → l[i]? = some x → l[i + 1]? = some y → x ≠ y) ∧ fr = [(0, [], .slice (some ⟨g, 0, none⟩) l.length c), (3, [], .int .i64 k)] ∧ L' = [.arr (.slice (some ⟨g, 0, none⟩) l.length c) 9 1 l.length (l.map encS).flatten] ∧ μ = l.length - k) (fr' := [(0, [], _), (3, [], _)]) ⟨rfl, rfl, trivial⟩ ⟨1, ⟨Nat.le_refl _, by omega, fun i x y hi => by omega⟩, rfl, rfl, rfl⟩ (fun fr C0' L0' m hle0 hI => ?_)
    obtain ⟨k, ⟨hk1, hkl, hne⟩, rfl, rfl, rfl⟩ := hI
    refine G.region rfl (fun R hR => ?_)
    iterate 4 refine D.pure rfl rfl rfl rfl rfl rfl ?_
    refine D.done [(0, [], _), (3, [], _), (13, [], _)] ⟨rfl, rfl, rfl, trivial⟩ (hR _ _ _ rfl ?_); clear hR R
    refine G.cond rfl (fun h13 => ?_) (fun h13 => ?_)
    · skip
      simp only [decide_eq_true_eq] at h13
      obtain ⟨z, hz⟩ : ∃ z, l[k]? = some z := ⟨l[k]'(by omega), List.getElem?_eq_getElem (by omega)⟩
      obtain ⟨y, hy⟩ : ∃ y, l[k - 1]? = some y := ⟨l[k - 1]'(by omega), List.getElem?_eq_getElem (by omega)⟩
      refine G.draw [0, 1, 2, 3, 4, 5, 6, 7, 8, 9] [] rfl (by kernel_rfl) (fun R hB hR => ?_)
      iterate 2 refine D.pure rfl rfl rfl rfl rfl rfl ?_
      refine D.indexS (k * 1) rfl rfl rfl rfl rfl rfl rfl rfl rfl rfl (fun _ => ⟨by omega, by omega, rfl⟩) rfl rfl ?_
      refine D.loadArr (.head _) rfl rfl rfl rfl rfl rfl (fun _ => (by rw [row_read str_len hz]; rfl)) rfl rfl ?_
      iterate 2 refine D.pure rfl rfl rfl rfl rfl rfl ?_
      refine D.i64 (((k - 1 : Nat) : Int)) rfl rfl rfl rfl (by omega) (by omega) (by omega) rfl rfl ?_
      refine D.indexS ((k - 1) * 1) rfl rfl rfl rfl rfl rfl rfl rfl rfl rfl (fun _ => ⟨by omega, by omega, rfl⟩) rfl rfl ?_
      refine D.loadArr (.head _) rfl rfl rfl rfl rfl rfl (fun _ => (by rw [row_read str_len hy]; rfl)) rfl rfl ?_
      refine D.as (.bool (decide (z = y))) rfl rfl rfl rfl (congrArg Value.bool (eqStr _ _)) rfl rfl ?_
      refine D.done [(0, [], _), (3, [], _), (25, [], _)] ⟨rfl, rfl, rfl, trivial⟩ (hR _ _ _ rfl ?_); clear hR hB R
      refine G.cond rfl (fun h25 => ?_) (fun h25 => ?_)
      · skip
        simp only [decide_eq_true_eq] at h25
        subst h25
        refine G.region rfl (fun R hR => ?_)
        iterate 2 refine D.pure rfl rfl rfl rfl rfl rfl ?_
        have hA : (if c = k then (some ⟨g, 0, none⟩ : Option Addr) else (some (⟨g, 0, none⟩ : Addr)).map (·.add (k * 1))) = some ⟨g, k * 1, none⟩ := by
          rw [if_neg (by omega)]
          simp only [Option.map_some, Addr.add_lit, Nat.zero_add]
        refine D.sliceV k l.length c rfl rfl rfl rfl rfl rfl rfl rfl rfl rfl rfl rfl (fun _ => ⟨.inr ⟨_, rfl⟩, .inl ⟨rfl, rfl⟩, .inl ⟨rfl, rfl⟩, by omega, hlc, Nat.le_refl _⟩) rfl rfl ?_
        rw [hA]
        refine D.pure rfl rfl rfl rfl rfl rfl ?_
        refine D.done [(0, [], _), (3, [], _), (4, [], (.slice (some ⟨g, k * 1, none⟩) (l.length - k) (c - k)))] ⟨rfl, rfl, rfl, trivial⟩ (hR _ _ _ rfl ?_); clear hR R
        refine G.region rfl (fun R hR => ?_)
        refine D.pure rfl rfl rfl rfl rfl rfl ?_
        refine D.done [(0, [], _), (3, [], _), (4, [], _), (5, [], _)] ⟨rfl, rfl, rfl, rfl, trivial⟩ (hR _ _ _ rfl ?_); clear hR R
        have hck : compact (l.take k) = l.take k := compact_id (fun i x y h1 h2 => by
          have hb := (List.getElem?_eq_some_iff.1 h2).1
          simp only [List.length_take] at hb
          rw [List.getElem?_take] at h1 h2
          rw [if_pos (by omega)] at h1 h2
          exact hne i x y (by omega) h1 h2)
        have hk1' : l.take (k + 1) = l.take k ++ [z] := by rw [List.take_add_one, hz]; rfl
        have hcs : compact (l.take (k + 1)) = l.take k := by
          rw [hk1', compact_snoc (z := z) (i := k - 1) (by rw [List.getElem?_take, if_pos (by omega)]; exact hy) (by simp only [List.length_take]; omega), if_pos rfl, hck]
        refine G.loop (fun fr C' L' μ => ∃ (q : Nat) (i : Nat) (r : List Str), (1 ≤ q ∧ k + q ≤ l.length ∧ r.length = l.length ∧ i = (compact (l.take (k + q))).length ∧ i ≤ k + q - 1 ∧ r.take i = compact (l.take (k + q)) ∧ (∀ j, k + q - 1 ≤ j → r[j]? = l[j]?)) ∧ fr = [(0, [], .slice (some ⟨g, 0, none⟩) l.length c), (3, [], .int .i64 i), (4, [], .slice (some ⟨g, k * 1, none⟩) (l.length - k) (c - k)), (5, [], .int .i64 q)] ∧ L' = [.arr (.slice (some ⟨g, 0, none⟩) l.length c) 9 1 l.length (r.map encS).flatten] ∧ μ = l.length - (k + q)) (fr' := [(0, [], _), (3, [], _), (4, [], _), (5, [], _)]) ⟨rfl, rfl, rfl, rfl, trivial⟩ ⟨1, k, l, ⟨Nat.le_refl _, by omega, rfl, by rw [hcs]; simp only [List.length_take]; omega, by omega, by rw [hcs], fun _ _ => rfl⟩, rfl, rfl, rfl⟩ (fun fr C1' L1' m hle1 hI => ?_)
        obtain ⟨q, i, r, ⟨hq1, hql, hrl, hi, hik, hrt, hrs⟩, rfl, rfl, rfl⟩ := hI
        refine G.region rfl (fun R hR => ?_)
        iterate 4 refine D.pure rfl rfl rfl rfl rfl rfl ?_
        refine D.done [(0, [], _), (3, [], _), (4, [], _), (5, [], _), (32, [], _)] ⟨rfl, rfl, rfl, rfl, rfl, trivial⟩ (hR _ _ _ rfl ?_); clear hR R
        refine G.cond rfl (fun h32 => ?_) (fun h32 => ?_)
        · skip
          simp only [decide_eq_true_eq] at h32
          obtain ⟨b2, hb2⟩ : ∃ z, r[k + q]? = some z := ⟨r[k + q]'(by omega), List.getElem?_eq_getElem (by omega)⟩
          obtain ⟨a2, ha2⟩ : ∃ y, r[k + q - 1]? = some y := ⟨r[k + q - 1]'(by omega), List.getElem?_eq_getElem (by omega)⟩
          have hb2l : l[k + q]? = some b2 := by rw [← hrs _ (by omega)]; exact hb2
          have ha2l : l[k + q - 1]? = some a2 := by rw [← hrs _ (by omega)]; exact ha2
          have hnext : compact (l.take (k + (q + 1))) = if a2 = b2 then compact (l.take (k + q)) else compact (l.take (k + q)) ++ [b2] := by
            have e : l.take (k + (q + 1)) = l.take (k + q) ++ [b2] := by rw [show k + (q + 1) = k + q + 1 by omega, List.take_add_one, hb2l]; rfl
            rw [e, compact_snoc (z := a2) (i := k + q - 1) (by rw [List.getElem?_take, if_pos (by omega)]; exact ha2l) (by simp only [List.length_take]; omega)]
          refine G.draw [0, 1, 2, 3, 4, 5, 6, 7, 8, 9] [] rfl (by kernel_rfl) (fun R hB hR => ?_)
          iterate 2 refine D.pure rfl rfl rfl rfl rfl rfl ?_
          refine D.indexSo ((k + q) * 1) rfl rfl rfl rfl rfl rfl rfl rfl rfl rfl (fun _ => ⟨by omega, by omega, Nat.add_mul k q 1⟩) rfl rfl ?_
          refine D.loadArr (.head _) rfl rfl rfl rfl rfl rfl (fun _ => (by rw [row_read str_len hb2]; rfl)) rfl rfl ?_
          iterate 2 refine D.pure rfl rfl rfl rfl rfl rfl ?_
          refine D.i64 (((q - 1 : Nat) : Int)) rfl rfl rfl rfl (by omega) (by omega) (by omega) rfl rfl ?_
          refine D.indexSo ((k + q - 1) * 1) rfl rfl rfl rfl rfl rfl rfl rfl rfl rfl (fun _ => ⟨by omega, by omega, (by rw [Nat.add_sub_assoc hq1]; exact Nat.add_mul k (q - 1) 1)⟩) rfl rfl ?_
          refine D.loadArr (.head _) rfl rfl rfl rfl rfl rfl (fun _ => (by rw [row_read str_len ha2]; rfl)) rfl rfl ?_
          refine D.as (.bool (!decide (b2 = a2))) rfl rfl rfl rfl (congrArg (fun q => Value.bool (!q)) (eqStr _ _)) rfl rfl ?_
          refine D.done [(0, [], _), (3, [], _), (4, [], _), (5, [], _), (44, [], _)] ⟨rfl, rfl, rfl, rfl, rfl, trivial⟩ (hR _ _ _ rfl ?_); clear hR hB R
          refine G.cond rfl (fun h44 => ?_) (fun h44 => ?_)
          · skip
            simp only [Bool.not_eq_true', decide_eq_false_iff_not] at h44
            refine G.region rfl (fun R hR => ?_)
            iterate 4 refine D.pure rfl rfl rfl rfl rfl rfl ?_
            refine D.indexSo ((k + q) * 1) rfl rfl rfl rfl rfl rfl rfl rfl rfl rfl (fun _ => ⟨by omega, by omega, Nat.add_mul k q 1⟩) rfl rfl ?_
            refine D.loadArr (.head _) rfl rfl rfl rfl rfl rfl (fun _ => (by rw [row_read str_len hb2]; rfl)) rfl rfl ?_
            refine D.indexS (i * 1) rfl rfl rfl rfl rfl rfl rfl rfl rfl rfl (fun _ => ⟨by omega, by omega, rfl⟩) rfl rfl ?_
            refine D.storeArr (j := 0) rfl rfl rfl rfl rfl rfl rfl rfl rfl rfl rfl (by rw [rows_len str_len, hrl]; have h9 : (i + 1) * 1 ≤ l.length * 1 := Nat.mul_le_mul_right _ (by omega); rw [Nat.add_mul] at h9; simpa [encS] using h9) ?_
            refine D.done [(0, [], _), (3, [], _), (4, [], _), (5, [], _)] ⟨rfl, rfl, rfl, rfl, trivial⟩ (hR _ _ _ rfl ?_); clear hR R
            refine G.region rfl (fun R hR => ?_)
            refine D.pure rfl rfl rfl rfl rfl rfl ?_
            refine D.i64 (((i + 1 : Nat) : Int)) rfl rfl rfl rfl (by omega) (by omega) (by omega) rfl rfl ?_
            refine D.pure rfl rfl rfl rfl rfl rfl ?_
            refine D.done [(0, [], _), (3, [], _), (4, [], _), (5, [], _)] ⟨rfl, rfl, rfl, rfl, trivial⟩ (hR _ _ _ rfl ?_); clear hR R
            refine G.region rfl (fun R hR => ?_)
            refine D.pure rfl rfl rfl rfl rfl rfl ?_
            refine D.i64 (((q + 1 : Nat) : Int)) rfl rfl rfl rfl (by omega) (by omega) (by omega) rfl rfl ?_
            refine D.pure rfl rfl rfl rfl rfl rfl ?_
            refine D.done [(0, [], _), (3, [], _), (4, [], _), (5, [], _)] ⟨rfl, rfl, rfl, rfl, trivial⟩ (hR _ _ _ rfl ?_); clear hR R
            have hw : storeInto (r.map encS).flatten (encS b2) (i * 1) = ((r.set i b2).map encS).flatten := row_write str_len b2 (by omega)
            have hw' : ∀ L0, (Ent.arr (.slice (some ⟨g, 0, none⟩) l.length c) 9 1 l.length (storeInto (r.map encS).flatten (encS b2) (i * 1)) :: L0) = Ent.arr (.slice (some ⟨g, 0, none⟩) l.length c) 9 1 l.length ((r.set i b2).map encS).flatten :: L0 := fun L0 => by rw [hw]
            refine G.eqL (hw' []) ?_
            refine G.again (m' := l.length - (k + (q + 1))) (by omega) hle1 (fr' := [(0, [], _), (3, [], _), (4, [], _), (5, [], _)]) ⟨rfl, rfl, rfl, rfl, trivial⟩ ⟨q + 1, i + 1, r.set i b2, ⟨by omega, by omega, by simpa using hrl, by rw [hnext, if_neg (Ne.symm h44), List.length_append, ← hi]; rfl, by omega, by
              rw [hnext, if_neg (Ne.symm h44), ← hrt, List.take_add_one, List.take_set_of_le (Nat.le_refl _), List.getElem?_set_self (by omega)]
              rfl, fun j hj => by rw [List.getElem?_set_ne (by omega)]; exact hrs j (by omega)⟩, rfl, rfl, rfl⟩
          · skip
            simp only [Bool.not_eq_false', decide_eq_true_eq] at h44
            subst h44
            refine G.region rfl (fun R hR => ?_)
            refine D.pure rfl rfl rfl rfl rfl rfl ?_
            refine D.i64 (((q + 1 : Nat) : Int)) rfl rfl rfl rfl (by omega) (by omega) (by omega) rfl rfl ?_
            refine D.pure rfl rfl rfl rfl rfl rfl ?_
            refine D.done [(0, [], _), (3, [], _), (4, [], _), (5, [], _)] ⟨rfl, rfl, rfl, rfl, trivial⟩ (hR _ _ _ rfl ?_); clear hR R
            refine G.again (m' := l.length - (k + (q + 1))) (by omega) hle1 (fr' := [(0, [], _), (3, [], _), (4, [], _), (5, [], _)]) ⟨rfl, rfl, rfl, rfl, trivial⟩ ⟨q + 1, i, r, ⟨by omega, by omega, hrl, by rw [hnext, if_pos rfl]; exact hi, by omega, by rw [hnext, if_pos rfl]; exact hrt, fun j hj => hrs j (by omega)⟩, rfl, rfl, rfl⟩
        · skip
          simp only [decide_eq_false_iff_not] at h32
          have hkq : k + q = l.length := by omega
          rw [hkq, List.take_length] at hrt hi
          have hil : i ≤ l.length := by rw [hi]; exact compact_length_le l
          refine G.region rfl (fun R hR => ?_)
          iterate 2 refine D.pure rfl rfl rfl rfl rfl rfl ?_
          refine D.sliceV i l.length c rfl rfl rfl rfl rfl rfl rfl rfl rfl rfl rfl rfl (fun _ => ⟨.inr ⟨_, rfl⟩, .inl ⟨rfl, rfl⟩, .inl ⟨rfl, rfl⟩, by omega, hlc, Nat.le_refl _⟩) rfl rfl ?_
          refine D.clear 0 (off := i * 1) rfl rfl rfl rfl rfl rfl rfl rfl rfl rfl rfl (by
            by_cases hci : c = i
            · exact .inl (by omega)
            · refine .inr ?_
              rw [if_neg hci]
              simp only [Option.map_some, Addr.add_lit, Nat.zero_add]) (by rw [rows_len str_len, hrl, ← Nat.add_mul]; exact Nat.mul_le_mul_right _ (by omega)) ?_
          refine D.done [(0, [], _), (3, [], _)] ⟨rfl, rfl, trivial⟩ (hR _ _ _ rfl ?_); clear hR R
          refine G.region rfl (fun R hR => ?_)
          iterate 2 refine D.pure rfl rfl rfl rfl rfl rfl ?_
          refine D.sliceV 0 i c rfl rfl rfl rfl rfl rfl rfl rfl rfl rfl rfl rfl (fun _ => ⟨.inl ⟨rfl, rfl⟩, .inr ⟨_, rfl⟩, .inl ⟨rfl, rfl⟩, by omega, by omega, Nat.le_refl _⟩) rfl rfl ?_
          refine D.pure rfl rfl rfl rfl rfl rfl ?_
          refine D.done [(2, [], _)] ⟨rfl, trivial⟩ (hR _ _ _ rfl ?_); clear hR R
          refine G.freezeArr 0 ((r.take i).map encS ++ List.replicate (l.length - i) ([.string ⟨#[]⟩] : List Value)) rfl ?_ ?_ (by simp; omega) (fun Cf hlef hsf => G.retN (G.fin1 rfl rfl ?_))
          · unfold storeInto
            have e1 : (zrow ([.string ⟨#[]⟩] : List Value) (l.length - i)).length = (l.length - i) * 1 := zrow_length _ _
            refine Eq.trans (congrArg (· ++ _) (congrArg (· ++ _) (flatten_take_drop str_len r i).1)) ?_
            rw [List.flatten_append, List.append_assoc]
            congr 1
            rw [← zrow_flatten]
            refine Eq.trans (congrArg (_ ++ ·) (List.drop_eq_nil_of_le ?_)) (List.append_nil _)
            rw [rows_len str_len, hrl]
            refine Nat.le_trans (Nat.le_of_eq ?_) (Nat.le_of_eq (congrArg (i * 1 + ·) e1.symm))
            rw [← Nat.add_mul]; congr 1; omega
          · intro x hx
            rcases List.mem_append.1 hx with hx | hx
            · obtain ⟨y, _, rfl⟩ := List.mem_map.1 hx; exact str_len y
            · rw [List.eq_of_mem_replicate hx]; rfl
          refine ⟨rfl, ?_⟩
          have hsub := Sl.sub hsf (l := 0) (h := i) (m := c) (Nat.zero_le _) (by simp; omega) (by omega) (Nat.le_refl _)
          have hti : (((r.take i).map encS ++ List.replicate (l.length - i) ([.string ⟨#[]⟩] : List Value)).take i).drop 0 = (compact l).map encS := by
            rw [List.drop_zero, List.take_append_of_le_length (by simp; omega), List.take_of_length_le (by simp; omega), hrt]
          rw [hti] at hsub
          exact hsub
      · skip
        simp only [decide_eq_false_iff_not] at h25
        refine G.region rfl (fun R hR => ?_)
        refine D.pure rfl rfl rfl rfl rfl rfl ?_
        refine D.i64 (((k + 1 : Nat) : Int)) rfl rfl rfl rfl (by omega) (by omega) (by omega) rfl rfl ?_
        refine D.pure rfl rfl rfl rfl rfl rfl ?_
        refine D.done [(0, [], _), (3, [], _)] ⟨rfl, rfl, trivial⟩ (hR _ _ _ rfl ?_); clear hR R
        refine G.again (m' := l.length - (k + 1)) (by omega) hle0 (fr' := [(0, [], _), (3, [], _)]) ⟨rfl, rfl, trivial⟩ ⟨k + 1, ⟨by omega, by omega, fun i x y' hi h1 h2 => by
          by_cases hi' : i + 1 < k
          · exact hne i x y' hi' h1 h2
          · have e : i = k - 1 := by omega
            subst e
            rw [show k - 1 + 1 = k by omega, hz] at h2
            rw [hy] at h1
            cases h1; cases h2
            exact fun e => h25 e.symm⟩, rfl, rfl, rfl⟩
    · skip
      simp only [decide_eq_false_iff_not] at h13
      have hkl' : k = l.length := by omega
      have hid : compact l = l := compact_id (fun i x y h1 h2 => hne i x y (by have := (List.getElem?_eq_some_iff.1 h2).1; omega) h1 h2)
      refine G.region rfl (fun R hR => ?_)
      iterate 2 refine D.pure rfl rfl rfl rfl rfl rfl ?_
      refine D.done [(2, [], _)] ⟨rfl, trivial⟩ (hR _ _ _ rfl ?_); clear hR R
      refine G.freezeArr 0 (l.map encS) rfl rfl (by intro r hr; obtain ⟨x, _, rfl⟩ := List.mem_map.1 hr; exact str_len x) (by simp) (fun Cf hlef hsf => G.retN (G.fin1 rfl rfl ?_))
      exact ⟨rfl, by rw [hid]; exact hsf⟩

def cmpS (a b : Str) : Int := if Op.bytesLess a b = true then -1 else if a = b then 0 else 1
/-! ### Comparisons -/
structure TotC {α : Type} (f : α → α → Int) : Prop where
  eq : ∀ x y, f x y = 0 ↔ x = y
  sym : ∀ x y, f x y < 0 ↔ 0 < f y x
  trans : ∀ x y z, f x y < 0 → f y z < 0 → f x z < 0

theorem bl_irrefl (x : Str) : Op.bytesLess x x = false := by rw [bytesLess_eq]; simp
theorem bl_trans (x y z : Str) (h1 : Op.bytesLess x y = true) (h2 : Op.bytesLess y z = true) : Op.bytesLess x z = true := by
  rw [bytesLess_eq] at *
  simp only [decide_eq_true_eq] at *
  exact List.lt_trans h1 h2
theorem bl_total (x y : Str) (h : x ≠ y) : Op.bytesLess x y = true ∨ Op.bytesLess y x = true := by
  simp only [bytesLess_eq, decide_eq_true_eq]
  by_cases h1 : x < y
  · exact .inl h1
  · rcases List.le_total x y with h2 | h2
    · by_cases h3 : y < x
      · exact .inr h3
      · exact absurd (List.le_antisymm (List.not_lt.1 h3) (List.not_lt.1 h1)) h
    · by_cases h3 : y < x
      · exact .inr h3
      · exact absurd (List.le_antisymm (List.not_lt.1 h3) (List.not_lt.1 h1)) h

theorem cmpS_neg (x y : Str) : cmpS x y < 0 ↔ Op.bytesLess x y = true := by
  unfold cmpS
  split
  · simp [*]
  · split <;> simp_all
theorem tot_cmpS : TotC cmpS where
  eq x y := by
    unfold cmpS
    split
    · rename_i h
      constructor
      · intro h2; omega
      · intro h2; subst h2; rw [bl_irrefl] at h; cases h
    · split <;> simp_all
  sym x y := by
    rw [cmpS_neg]
    unfold cmpS
    constructor
    · intro h
      have h2 : ¬ Op.bytesLess y x = true := fun h3 => by have := bl_trans _ _ _ h h3; rw [bl_irrefl] at this; cases this
      have h3 : ¬ y = x := fun e => by subst e; rw [bl_irrefl] at h; cases h
      rw [if_neg h2, if_neg h3]; decide
    · intro h
      by_cases h2 : Op.bytesLess y x = true
      · rw [if_pos h2] at h; omega
      · rw [if_neg h2] at h
        by_cases h3 : y = x
        · rw [if_pos h3] at h; omega
        · exact (bl_total y x h3).resolve_left h2
  trans x y z := by
    rw [cmpS_neg, cmpS_neg, cmpS_neg]
    exact bl_trans x y z

section
variable {α : Type} {f : α → α → Int}
theorem TotC.refl (T : TotC f) (x : α) : f x x = 0 := (T.eq x x).2 rfl
theorem TotC.asymm (T : TotC f) {x y : α} (h : f x y < 0) : ¬ f y x < 0 := fun h2 => by have := (T.sym x y).1 h; omega
theorem TotC.tri (T : TotC f) (x y : α) : f x y < 0 ∨ x = y ∨ f y x < 0 := by
  by_cases h : f x y = 0
  · exact .inr (.inl ((T.eq x y).1 h))
  · by_cases h2 : f x y < 0
    · exact .inl h2
    · exact .inr (.inr ((T.sym y x).2 (by omega)))
/-- Two strictly ascending lists of the same elements are one. -/
theorem TotC.unique (T : TotC f) : ∀ {a b : List α}, a.Pairwise (fun x y => f x y < 0) → b.Pairwise (fun x y => f x y < 0) → (∀ x, x ∈ a ↔ x ∈ b) → a = b
  | [], [], _, _, _ => rfl
  | [], y :: b, _, _, h => absurd ((h y).2 (by simp)) (by simp)
  | x :: a, [], _, _, h => absurd ((h x).1 (by simp)) (by simp)
  | x :: a, y :: b, ha, hb, h => by
    rw [List.pairwise_cons] at ha hb
    have hxy : x = y := by
      have h1 := (h x).1 (by simp)
      have h2 := (h y).2 (by simp)
      rcases List.mem_cons.1 h1 with e | h1
      · exact e
      · rcases List.mem_cons.1 h2 with e | h2
        · exact e.symm
        · exact absurd (hb.1 x h1) (T.asymm (ha.1 y h2))
    subst hxy
    congr 1
    refine TotC.unique T ha.2 hb.2 (fun z => ⟨fun hz => ?_, fun hz => ?_⟩)
    · rcases List.mem_cons.1 ((h z).1 (by simp [hz])) with e | h1
      · subst e; have := ha.1 z hz; rw [T.refl] at this; omega
      · exact h1
    · rcases List.mem_cons.1 ((h z).2 (by simp [hz])) with e | h1
      · subst e; have := hb.1 z hz; rw [T.refl] at this; omega
      · exact h1

variable [DecidableEq α]
/-- An ascending list without its repetitions. -/
theorem TotC.compact_strict (T : TotC f) {l : List α} (h : l.Pairwise fun x y => ltOf f y x = false) : (compact l).Pairwise (fun x y => f x y < 0) := by
  have hd : ∀ (l : List α) (x : α), (x :: l).Pairwise (fun x y => ltOf f y x = false) → (x :: dedup x l).Pairwise (fun x y => f x y < 0) := by
    intro l
    induction l with
    | nil => intro x _; simp [dedup]
    | cons y l ih =>
      intro x h
      rw [List.pairwise_cons] at h
      have hy := h.1 y (by simp)
      simp only [ltOf, decide_eq_false_iff_not] at hy
      simp only [dedup]
      by_cases e : y = x
      · subst e
        rw [if_pos rfl]
        exact ih y h.2
      · rw [if_neg e]
        have ihy := ih y h.2
        have hxy : f x y < 0 := by
          rcases T.tri x y with h1 | h1 | h1
          · exact h1
          · exact absurd h1.symm e
          · exact absurd h1 hy
        refine List.pairwise_cons.2 ⟨fun z hz => ?_, ihy⟩
        rcases List.mem_cons.1 hz with e2 | hz
        · subst e2; exact hxy
        · exact T.trans _ _ _ hxy ((List.pairwise_cons.1 ihy).1 z hz)
  cases l with
  | nil => exact List.Pairwise.nil
  | cons x l => exact hd l x h
theorem mem_dedup : ∀ {l : List α} {x y : α}, y ∈ l → y = x ∨ y ∈ dedup x l
  | z :: l, x, y, h => by
    simp only [dedup]
    rcases List.mem_cons.1 h with e | h
    · subst e
      split
      · rename_i e; exact .inl e
      · exact .inr (by simp)
    · split
      · exact mem_dedup h
      · rcases mem_dedup (x := z) h with e | h1
        · exact .inr (by simp [e])
        · exact .inr (by simp [h1])
theorem mem_compact {l : List α} {y : α} : y ∈ compact l ↔ y ∈ l := by
  refine ⟨compact_mem, fun h => ?_⟩
  cases l with
  | nil => exact h
  | cons x l =>
    simp only [compact]
    rcases List.mem_cons.1 h with e | h
    · simp [e]
    · rcases mem_dedup (x := x) h with e | h1 <;> simp [*]

/-- Inserted where it belongs, if it is not there. -/
def ins (f : α → α → Int) (x : α) : List α → List α
  | [] => [x]
  | y :: l => if f y x < 0 then y :: ins f x l else if y = x then y :: l else x :: y :: l
theorem mem_ins {x z : α} : ∀ {l : List α}, z ∈ ins f x l ↔ z = x ∨ z ∈ l
  | [] => by simp [ins]
  | y :: l => by
    simp only [ins]
    split
    · simp only [List.mem_cons, mem_ins (l := l)]
      constructor
      · rintro (h | h | h) <;> simp [h]
      · rintro (h | h | h) <;> simp [h]
    · split
      · rename_i e
        subst e
        simp
      · simp
theorem TotC.ins_strict (T : TotC f) {x : α} : ∀ {l : List α}, l.Pairwise (fun x y => f x y < 0) → (ins f x l).Pairwise (fun x y => f x y < 0)
  | [], _ => by simp [ins]
  | y :: l, h => by
    have h' := List.pairwise_cons.1 h
    simp only [ins]
    split
    · rename_i hyx
      refine List.pairwise_cons.2 ⟨fun z hz => ?_, TotC.ins_strict T h'.2⟩
      rcases mem_ins.1 hz with e | hz
      · subst e; exact hyx
      · exact h'.1 z hz
    · split
      · exact h
      · rename_i h1 h2
        have hxy : f x y < 0 := by
          rcases T.tri x y with h3 | h3 | h3
          · exact h3
          · exact absurd h3.symm h2
          · exact absurd h3 h1
        refine List.pairwise_cons.2 ⟨fun z hz => ?_, h⟩
        rcases List.mem_cons.1 hz with e | hz
        · subst e; exact hxy
        · exact T.trans _ _ _ hxy (h'.1 z hz)
/-- The ascending list of the elements, each once. -/
def setL (f : α → α → Int) (l : List α) : List α := l.foldl (fun a x => ins f x a) []
theorem mem_setL_aux {z : α} : ∀ {l a : List α}, z ∈ l.foldl (fun a x => ins f x a) a ↔ z ∈ l ∨ z ∈ a
  | [], a => by simp
  | x :: l, a => by
    simp only [List.foldl_cons, mem_setL_aux (l := l), mem_ins, List.mem_cons]
    constructor
    · rintro (h | h | h) <;> simp [h]
    · rintro ((h | h) | h) <;> simp [h]
theorem mem_setL {l : List α} {z : α} : z ∈ setL f l ↔ z ∈ l := by simp [setL, mem_setL_aux]
theorem TotC.setL_strict (T : TotC f) (l : List α) : (setL f l).Pairwise (fun x y => f x y < 0) := by
  have : ∀ (l a : List α), a.Pairwise (fun x y => f x y < 0) → (l.foldl (fun a x => ins f x a) a).Pairwise (fun x y => f x y < 0) := by
    intro l
    induction l with
    | nil => intro a h; exact h
    | cons x l ih => intro a h; exact ih _ (T.ins_strict h)
  exact this l [] List.Pairwise.nil
/-- Sorted and without its repetitions. -/
theorem TotC.compact_eq (T : TotC f) {l l' : List α} (hp : l'.Perm l) (hs : l'.Pairwise fun x y => ltOf f y x = false) : compact l' = setL f l :=
  T.unique (T.compact_strict hs) (T.setL_strict l) (fun x => by rw [mem_compact, mem_setL, hp.mem_iff])
end
def namesOf (l : List Rel) : List Str := (l.map fun x => [x.upper, x.lower]).flatten
def unitsL (l : List Rel) : List Str := setL cmpS (namesOf l)
theorem namesOf_len (l : List Rel) : (namesOf l).length = 2 * l.length := by
  induction l with
  | nil => rfl
  | cons x l ih => simp only [namesOf, List.map_cons, List.flatten_cons, List.length_append, List.length_cons, List.length_nil] at ih ⊢; omega
theorem mem_namesOf {l : List Rel} {s : Str} : s ∈ namesOf l ↔ ∃ x ∈ l, s = x.upper ∨ s = x.lower := by
  simp only [namesOf, List.mem_flatten, List.mem_map]
  constructor
  · rintro ⟨_, ⟨x, hx, rfl⟩, h⟩
    exact ⟨x, hx, by simpa using h⟩
  · rintro ⟨x, hx, h⟩
    exact ⟨_, ⟨x, hx, rfl⟩, by simpa using h⟩
theorem ms_sorted (l : List Str) : (l.mergeSort fun x y => decide (x ≤ y)).Pairwise (fun x y => ltOf cmpS y x = false) := by
  refine (List.pairwise_mergeSort (le := fun x y : Str => decide (x ≤ y)) (fun a b c h1 h2 => ?_) (fun a b => ?_) l).imp (fun {a b} h => ?_)
  · simp only [decide_eq_true_eq] at *
    exact List.le_trans h1 h2
  · simp only [Bool.or_eq_true, decide_eq_true_eq]
    exact List.le_total a b
  · simp only [decide_eq_true_eq] at h
    show decide (cmpS b a < 0) = false
    refine decide_eq_false (fun h2 => ?_)
    have h3 := (cmpS_neg b a).1 h2
    rw [bytesLess_eq] at h3
    simp only [decide_eq_true_eq] at h3
    exact List.not_lt.2 h h3
theorem flat_enc (l : List Str) : (l.map encS).flatten = l.map strV := flatten_map1 strV l

end Go.Proofs.YtfelabnohopfdaaGreatDoor
