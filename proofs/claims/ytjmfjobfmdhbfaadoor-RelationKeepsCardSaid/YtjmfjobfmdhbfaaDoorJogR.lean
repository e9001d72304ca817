/- Rows of a list of elements, written and read; clear. Program-independent. -/
import Derived.Test.YtjmfjobfmdhbfaaDoorJogS
namespace Go.Jog
open Go

section
variable {α : Type} {enc : α → List Value} {s : Nat}

theorem rows_len (hk : ∀ x, (enc x).length = s) (l : List α) : (l.map enc).flatten.length = l.length * s := by
  have := length_flatten_rows (s := s) (rows := l.map enc) (fun r hr => by obtain ⟨x, _, rfl⟩ := List.mem_map.1 hr; exact hk x)
  simpa using this

theorem flatten_take_drop (hk : ∀ x, (enc x).length = s) : ∀ (l : List α) (i : Nat), (l.map enc).flatten.take (i * s) = ((l.take i).map enc).flatten ∧ (l.map enc).flatten.drop (i * s) = ((l.drop i).map enc).flatten
  | [], i => by simp
  | x :: l, 0 => by simp
  | x :: l, i + 1 => by
    obtain ⟨h1, h2⟩ := flatten_take_drop hk l i
    have e : (i + 1) * s = s + i * s := by rw [Nat.add_mul]; omega
    have hx := hk x
    constructor
    · rw [e, List.map_cons, List.flatten_cons, List.take_append, hx, List.take_of_length_le (by omega), show s + i * s - s = i * s by omega, h1]
      simp
    · rw [e, List.map_cons, List.flatten_cons, List.drop_append, hx, List.drop_eq_nil_of_le (by omega), show s + i * s - s = i * s by omega, h2]
      simp

/-- Element i, read. -/
theorem row_read (hk : ∀ x, (enc x).length = s) {l : List α} {i : Nat} {x : α} (h : l[i]? = some x) : ((l.map enc).flatten.drop (i * s)).take s = enc x := by
  rw [(flatten_take_drop hk l i).2]
  obtain ⟨h1, h2⟩ := List.getElem?_eq_some_iff.1 h
  rw [List.drop_eq_getElem_cons h1, h2, List.map_cons, List.flatten_cons]
  rw [List.take_append, hk, List.take_of_length_le (by rw [hk]; omega)]
  simp

/-- Element i, written. -/
theorem row_write (hk : ∀ x, (enc x).length = s) {l : List α} {i : Nat} (x : α) (h : i < l.length) : storeInto (l.map enc).flatten (enc x) (i * s) = ((l.set i x).map enc).flatten := by
  unfold storeInto
  rw [hk, (flatten_take_drop hk l i).1, show i * s + s = (i + 1) * s by rw [Nat.add_mul]; omega, (flatten_take_drop hk l (i + 1)).2]
  rw [List.set_eq_take_append_cons_drop, if_pos h]
  simp

/-- A part of element i, written. -/
theorem row_part (hk : ∀ x, (enc x).length = s) {l : List α} {i off : Nat} {x y : α} {vs : List Value} (h : l[i]? = some x) (he : storeInto (enc x) vs off = enc y) (ho : off + vs.length ≤ s) :
    storeInto (l.map enc).flatten vs (i * s + off) = ((l.set i y).map enc).flatten := by
  obtain ⟨h1, h2⟩ := List.getElem?_eq_some_iff.1 h
  rw [← row_write hk y h1, ← he]
  have hr := row_read hk h
  have hlen := rows_len hk l
  have hle : i * s + s ≤ (l.map enc).flatten.length := by rw [hlen]; have := Nat.mul_le_mul_right s (show i + 1 ≤ l.length from h1); rw [Nat.add_mul] at this; omega
  generalize (l.map enc).flatten = X at *
  unfold storeInto
  have hx : (enc x).length = s := hk x
  apply List.ext_getElem?
  intro q
  have hxq : ∀ q', (enc x)[q']? = if q' < s then X[i * s + q']? else none := fun q' => by
    rw [← hr, List.getElem?_take]
    split
    · rw [List.getElem?_drop]
    · rfl
  simp only [List.getElem?_append, List.length_append, List.length_take, List.getElem?_take, List.getElem?_drop, List.length_drop, hx]
  have m1 : min (i * s + off) X.length = i * s + off := by omega
  have m2 : min (i * s) X.length = i * s := by omega
  have m3 : min off s = off := by omega
  rw [m1, m2, m3]
  by_cases a1 : q < i * s
  · simp [a1, show q < i * s + off by omega, show q < i * s + off + vs.length by omega, show q < i * s + (off + vs.length + (s - (off + vs.length))) by omega]
  · by_cases a2 : q < i * s + off
    · have : q - i * s < off := by omega
      simp only [a1, a2, this, show q < i * s + off + vs.length by omega, show q < i * s + (off + vs.length + (s - (off + vs.length))) by omega, show q - i * s < off + vs.length by omega, if_true, if_false]
      rw [hxq, if_pos (by omega)]
      congr 1; omega
    · by_cases a3 : q < i * s + off + vs.length
      · have e1 : q - i * s - off = q - (i * s + off) := by omega
        simp only [a1, a2, a3, show ¬ q - i * s < off by omega, show q - i * s < off + vs.length by omega, show q < i * s + (off + vs.length + (s - (off + vs.length))) by omega, if_true, if_false, e1]
      · by_cases a4 : q < i * s + s
        · simp only [a1, a2, a3, show ¬ q - i * s < off by omega, show ¬ q - i * s < off + vs.length by omega, show q < i * s + (off + vs.length + (s - (off + vs.length))) by omega, if_true, if_false]
          rw [hxq, if_pos (by omega)]
          congr 1; omega
        · simp only [a1, a2, a3, show ¬ q < i * s + (off + vs.length + (s - (off + vs.length))) by omega, if_false]
          congr 1; omega
end

section
variable {cx : Cx} {n : Nat} {ds : List (Option Nat)} {R : Rg n ds} {its : List It} {fr : Fr} {C : Mem} {L : List Ent} {i k d : Nat} {o : Oper} {g : GL} {v : Value}

theorem zero_cells (z : List Value) (m : Nat) : (Builtin.zeroCells ⟨z⟩ m).toList = zrow z m := by
  have := made_eq z m
  unfold madeCells at this
  simp only [Builtin.zeroCells, List.size_toArray] at this ⊢
  rw [this]

/-- clear over the end of a row of the function's own. -/
theorem D.clear (j : Nat) {t e g0 off ln lc size len m cap : Nat} {x : Operand} {A : Option Addr} {xs : List Value} {ti te : TI} (hk : k = 3) (hg : gOn ds fr o.guard = true) (hd : o.dst = none)
    (hop : o.op = .call ⟨.builtin .clear, #[x], #[t]⟩) (hx : ev fr [] x = some (.slice A ln lc)) (hm : L[j]? = some (.arr (.slice (some ⟨g0, 0, none⟩) m cap) e size len xs))
    (ht : cx.T.get t = some ti) (hte : ti.k = .slice e) (he : cx.T.get e = some te) (hsz : te.size = size) (h1 : (te.zero.map Zv.val).all oneB = true) (hA : ln = 0 ∨ A = some ⟨g0, off, none⟩) (hfit : off + ln * size ≤ xs.length)
    (h : D cx R its fr C (.arr (.slice (some ⟨g0, 0, none⟩) m cap) e size len (storeInto xs (zrow (te.zero.map Zv.val) ln) off) :: L.eraseIdx j)) : D cx R ((i, k, o) :: its) fr C L := by
  have hu : cx.P.underlying t = some (.slice e) := by
    obtain ⟨kk, s1, b1, z1, g1⟩ := ti
    simp only at hte
    subst hte
    exact und_slice cx.hT ht
  have hzl : (te.zero.map Zv.val).length = te.size := by
    have := (tab_ok cx.hT he).zsize
    rw [(tab_ok cx.hT he).info.choose_spec.2.2.2.2] at this; simpa using this
  have hzc : te.zv.cells = (te.zero.map Zv.val).toArray := (tab_ok cx.hT he).info.choose_spec.2.2.2.2
  refine D.eff0 (S := fun C' L' => C' = C ∧ L' = .arr (.slice (some ⟨g0, 0, none⟩) m cap) e size len (storeInto xs (zrow (te.zero.map Zv.val) ln) off) :: L.eraseIdx j) (by subst hk; rfl) hg (fun a hs w _ hw => ?_) (fun C' L' _ ⟨e1, e2⟩ => by subst e1; subst e2; exact h)
  have hw' := St.perm hw (ent_perm hm)
  have hown : w.ownsRow 0 e size (.slice (some ⟨g0, 0, none⟩) m cap) len xs := hw'.sep.e _ (List.mem_cons_self ..)
  have e1 : execOp a.eval o = (do let dd ← resolve a.eval ⟨.builtin .clear, #[x], #[t]⟩ o.type; invoke dd.target dd.args : Sem Next) := by unfold execOp; rw [hop]
  by_cases hl0 : ln = 0
  · subst hl0
    have hex : (execOp a.eval o).run cx.P w = .ok (.value (.tuple #[])) w := by
      rw [e1]
      have hc : (Builtin.clear_ #[t] o.type #[.slice A 0 lc]).run cx.P w = .ok (.tuple #[]) w := by
        cases A <;> simp [Builtin.clear_, run_underlying hu]
      simp only [resolve, invoke, builtin, Sem.run_bind, Sem.run_pure, Result.andThen_ok, List.map_toArray, List.map_cons, List.map_nil, hs _ _ hx, hc]
    have e3 : storeInto xs (zrow (te.zero.map Zv.val) 0) off = xs := by simp [storeInto, zrow]
    unfold Oper.wp
    rw [hex, e3]
    exact ⟨C, .arr (.slice (some ⟨g0, 0, none⟩) m cap) e size len xs :: L.eraseIdx j, by rw [hd]; rfl, Mem.le.refl _, fun h2 => by omega, hw', rfl, rfl⟩
  · obtain rfl := hA.resolve_left hl0
    obtain ⟨rfl, hlc, hcm, cur, hb, hcs, htake⟩ := ownsRow_block hown
    obtain ⟨cur⟩ := cur
    simp only [List.size_toArray] at hcs
    simp only at htake
    have hxl : xs.length = m * size := hown.1
    have hcl : m * size ≤ cur.length := by rw [hcs]; exact Nat.mul_le_mul_right _ hlc
    have hzr : (zrow (te.zero.map Zv.val) ln).length = ln * size := by rw [zrow_length, hzl, hsz]
    have h1' : ∀ u ∈ zrow (te.zero.map Zv.val) ln, u.oneCell' = true := fun u hu => by
      rw [zrow_flatten] at hu
      obtain ⟨r, hr, hur⟩ := List.mem_flatten.1 hu
      rw [List.eq_of_mem_replicate hr] at hur
      exact oneB_spec (List.all_eq_true.1 h1 u hur)
    have hst := run_storeCells_at cx.P g0 off e (zrow (te.zero.map Zv.val) ln) 0 ⟨cur⟩ w hb (by simp [hzr]; omega) h1'
    simp only [Nat.add_zero] at hst
    have hc : (Builtin.clear_ #[t] o.type #[.slice (some ⟨g0, off, none⟩) ln lc]).run cx.P w = .ok (.tuple #[]) (w.setRow g0 (storeInto cur (zrow (te.zero.map Zv.val) ln) off).toArray) := by
      have hz : (Builtin.zeroCells te.zv.cells ln).toList = zrow (te.zero.map Zv.val) ln := by rw [hzc]; exact zero_cells _ _
      cases hln : ln with
      | zero => exact absurd hln hl0
      | succ q =>
        rw [hln] at hz hst
        simp [Builtin.clear_, run_underlying hu, zero_of cx.hT he w, hz, hst, storeInto]
    have hex : (execOp a.eval o).run cx.P w = .ok (.value (.tuple #[])) (w.setRow g0 (storeInto cur (zrow (te.zero.map Zv.val) ln) off).toArray) := by
      rw [e1]
      simp only [resolve, invoke, builtin, Sem.run_bind, Sem.run_pure, Result.andThen_ok, List.map_toArray, List.map_cons, List.map_nil, hs _ _ hx, hc]
    have hlen : (storeInto cur (zrow (te.zero.map Zv.val) ln) off).length = cur.length := storeInto_length (by rw [hzr]; omega)
    have hnew : (w.setRow g0 (storeInto cur (zrow (te.zero.map Zv.val) ln) off).toArray).ownsRow 0 e size (.slice (some ⟨g0, 0, none⟩) m cap) m (storeInto xs (zrow (te.zero.map Zv.val) ln) off) :=
      ⟨by rw [storeInto_length (by rw [hzr]; omega)]; exact hxl, .inr ⟨g0, cap, _, rfl, Nat.zero_le _, setRow_heap w g0 _ _ e _ hb, hlc, hcm, by simp [hlen, hcs], by
            rw [← htake]; exact storeInto_take cur _ off (m * size) (by rw [hzr]; omega) hcl⟩⟩
    unfold Oper.wp
    rw [hex]
    refine ⟨C, .arr (.slice (some ⟨g0, 0, none⟩) m cap) e size m (storeInto xs (zrow (te.zero.map Zv.val) ln) off) :: L.eraseIdx j, by rw [hd]; rfl, Mem.le.refl _, fun h2 => by omega,
      St.turn hw' hnew ⟨rfl, rfl, rfl, by simp, fun k _ hk => setRow_other w g0 k _ (fun e => hk (by simp [Value.ownBlock, e]))⟩ (Nat.le_refl _) (.inl rfl), rfl, rfl⟩
end

/- An element's address in a slice that begins at a known place. -/
section
variable {cx : Cx} {n : Nat} {ds : List (Option Nat)} {R : Rg n ds} {its : List It} {fr : Fr} {C : Mem} {L : List Ent} {i k d : Nat} {o : Oper} {g : GL} {v : Value}
theorem D.indexSo (off : Nat) {t e g0 o0 len cap size : Nat} {x y : Operand} {ki : IntKind} {m : Int} {ti te : TI} (hk : Nat.ble k 1 = true) (hd : o.dst = some d) (hop : o.op = .indexAddr t x y)
    (hg : gOf ds fr o.guard = some g) (hx : ev fr g x = some (.slice (some ⟨g0, o0, none⟩) len cap)) (hy : ev fr g y = some (.int ki m)) (ht : cx.T.get t = some ti) (hte : ti.k = .slice e) (he : cx.T.get e = some te) (hsz : te.size = size)
    (h0 : GT ds fr g → 0 ≤ m ∧ m < len ∧ off = o0 + m.toNat * size) (hp : okPut n ds ((d, g, .pointer (some ⟨g0, off, none⟩)) :: fr) d = true) (hwf : wfG ds fr g = true)
    (h : D cx R its ((d, g, .pointer (some ⟨g0, off, none⟩)) :: fr) C L) : D cx R ((i, k, o) :: its) fr C L := by
  have hu : cx.P.underlying t = some (.slice e) := by
    obtain ⟨kk, s1, b1, z1, g1⟩ := ti
    simp only at hte
    subst hte
    exact und_slice cx.hT ht
  refine D.run _ hk hd hg (fun hGT a hs w => ?_) hp hwf h
  obtain ⟨hm0, hml, rfl⟩ := h0 hGT
  have e1 : execOp a.eval o = (do Pure.pure (.value (← Instr.indexAt t (a.eval x) (a.eval y))) : Sem Next) := by unfold execOp; rw [hop]
  rw [e1, hs _ _ hx, hs _ _ hy]
  have h2 := size_of cx.hT he w
  rw [hsz] at h2
  simp [Instr.indexAt, asIntOf, run_underlying hu, h2, hm0, hml, Addr.add_lit]
end

/- A whole array, or a part of it, as a slice. -/
section
variable {cx : Cx} {n : Nat} {ds : List (Option Nat)} {R : Rg n ds} {its : List It} {fr : Fr} {C : Mem} {L : List Ent} {i k d : Nat} {o : Oper} {g : GL} {v : Value}
theorem D.sliceA (l h m : Nat) {t e len size : Nat} {a : Addr} {x : Operand} {lo hi mx : Option Operand} {lv hv mv : Option Value} {ti te : TI} (hk : Nat.ble k 1 = true) (hd : o.dst = some d) (hop : o.op = .slice t x lo hi mx)
    (hg : gOf ds fr o.guard = some g) (hx : ev fr g x = some (.pointer (some a))) (hlo : optO (ev fr g) lo = some lv) (hhi : optO (ev fr g) hi = some hv) (hmx : optO (ev fr g) mx = some mv)
    (ht : cx.T.get t = some ti) (hte : ti.k = .arr len e) (he : cx.T.get e = some te) (hsz : te.size = size) (hq : GT ds fr g → SlB len len lv hv mv l h m)
    (hp : okPut n ds ((d, g, .slice (some (if m = l then a else a.add (l * size))) (h - l) (m - l)) :: fr) d = true) (hwf : wfG ds fr g = true)
    (hh : D cx R its ((d, g, .slice (some (if m = l then a else a.add (l * size))) (h - l) (m - l)) :: fr) C L) : D cx R ((i, k, o) :: its) fr C L := by
  have hu : cx.P.underlying t = some (.array len e) := by
    obtain ⟨kk, s1, b1, z1, g1⟩ := ti
    simp only at hte
    subst hte
    exact und_arr cx.hT ht
  refine D.run _ hk hd hg (fun hG a hs w => ?_) hp hwf hh
  have e1 : execOp a.eval o = (do Pure.pure (.value (← Instr.sliceAt t (a.eval x) (lo.map a.eval) (hi.map a.eval) (mx.map a.eval))) : Sem Next) := by unfold execOp; rw [hop]
  rw [e1, hs _ _ hx, optO_spec (fun x v hx => hs x v hx) hlo, optO_spec (fun x v hx => hs x v hx) hhi, optO_spec (fun x v hx => hs x v hx) hmx]
  have h2 := size_of cx.hT he w
  rw [hsz] at h2
  simp [Instr.sliceAt, Instr.sureAddr, run_underlying hu, run_sliceBounds (hq hG), h2]
end

section
variable {α : Type}
theorem map_at {f : α → α} {l : List α} {k : Nat} {x : α} (h : l[k]? = some x) : ((l.take k).map f ++ l.drop k)[k]? = some x := by
  have hk := (List.getElem?_eq_some_iff.1 h).1
  rw [List.getElem?_append_right (by simp; omega)]
  simp only [List.length_map, List.length_take, List.getElem?_drop]
  rw [show k + (k - min k l.length) = k by omega]; exact h
theorem map_step {f : α → α} {l : List α} {k : Nat} {x : α} (h : l[k]? = some x) : ((l.take k).map f ++ l.drop k).set k (f x) = (l.take (k + 1)).map f ++ l.drop (k + 1) := by
  obtain ⟨hk, hx⟩ := List.getElem?_eq_some_iff.1 h
  rw [List.set_append_right _ _ (by simp; omega)]
  simp only [List.length_map, List.length_take]
  rw [show k - min k l.length = 0 by omega, List.drop_eq_getElem_cons hk, List.set_cons_zero, List.take_succ_eq_append_getElem hk, hx]
  simp
theorem map_len {f : α → α} (l : List α) (k : Nat) : ((l.take k).map f ++ l.drop k).length = l.length := by simp; omega
end

section
variable {cx : Cx} {n : Nat} {ds : List (Option Nat)} {R : Rg n ds} {its : List It} {fr : Fr} {C : Mem} {L : List Ent} {i k d : Nat} {o : Oper} {g : GL} {v : Value}
/-- A slice literal that nobody writes, with its capacity. -/
theorem D.buildSliceV {t e len : Nat} {parts : Array (Nat × Operand)} {ti te : TI} (rows : List (List Value)) (hk : Nat.ble k 1 = false) (hd : o.dst = some d) (hg : gOn ds fr o.guard = true) (hop : o.op = .buildSlice t len parts)
    (ht : cx.T.get t = some ti) (hte : ti.k = .slice e) (he : cx.T.get e = some te) (hrows : rowsO (ev fr []) parts.toList 0 = some rows) (hl : (rows.all fun r => Nat.beq r.length te.size) = true) (hlen : Nat.beq parts.toList.length len = true)
    (hbig : Nat.ble (len * te.size) 16777216 = true) (hs0 : Nat.beq te.size 0 = false) (hp : ∀ v, okPut n ds ((d, [], v) :: fr) d = true)
    (h : ∀ b C', C.le C' → Sl C' te.size (.slice (some ⟨b, 0, none⟩) rows.length rows.length) rows → D cx R its ((d, [], .slice (some ⟨b, 0, none⟩) rows.length rows.length) :: fr) C' L) : D cx R ((i, k, o) :: its) fr C L := by
  have hl' : ∀ r ∈ rows, r.length = te.size := fun r hr => Nat.eq_of_beq_eq_true (List.all_eq_true.1 hl r hr)
  have hlen' := Nat.eq_of_beq_eq_true hlen
  rw [Nat.ble_eq] at hbig
  have hpl := (partsO_of_rows hrows hl').2
  refine D.newConst (f := fun b => .slice (some ⟨b, 0, none⟩) rows.length rows.length) (ob := .cells ⟨rows.flatten⟩ e) hk hd hg hp (fun a hs w => ?_) (fun b C' hle hb => ?_)
  · have e1 : execOp a.eval o = (do Pure.pure (.value (← Instr.buildSlice t len (parts.map fun (i, x) => (i, a.eval x)))) : Sem Next) := by unfold execOp; rw [hop]
    rw [e1]
    have e2 : (parts.map fun (i, x) => (i, a.eval x)) = (parts.toList.map fun (i, x) => (i, a.eval x)).toArray := by apply Array.ext'; simp
    rw [e2]
    simp only [Sem.run_bind, run_buildSlice cx.hT ht hte he (fun x v hx => hs x v hx) hrows hl' hlen' hbig w, Result.andThen_ok, Sem.run_pure]
  · refine h b C' hle (Sl.ofBlock hb hl' (fun j v hj => by simpa using hj) (Nat.le_refl _) ?_)
    rw [hpl, hlen']
    have h0 : 0 < te.size := Nat.pos_of_ne_zero (fun e => by rw [e] at hs0; cases hs0)
    have : len ≤ len * te.size := Nat.le_mul_of_pos_right _ h0
    simp only [maxLen]; omega
/-- A conversion between integer kinds, in whatever class. -/
theorem D.convQ {src dst : Nat} {x : Operand} {ki kj : IntKind} {p c : Int} {ts td : TI} (hk : Nat.ble k 1 = true) (hd : o.dst = some d) (hop : o.op = .convert src dst x) (hg : gOf ds fr o.guard = some g) (hx : ev fr g x = some (.int ki p))
    (hts : cx.T.get src = some ts) (htd : cx.T.get dst = some td) (hkd : td.k = .int kj) (hc : kj.wrap p = c) (hp : okPut n ds ((d, g, .int kj c) :: fr) d = true) (hwf : wfG ds fr g = true)
    (h : D cx R its ((d, g, .int kj c) :: fr) C L) : D cx R ((i, k, o) :: its) fr C L :=
  D.run _ hk hd hg (fun _ a hs w => by
    have e1 : execOp a.eval o = (do Pure.pure (.value (← convert src dst (a.eval x))) : Sem Next) := by unfold execOp; rw [hop]
    rw [e1, hs _ _ hx]
    obtain ⟨du, h1, h2⟩ := (tab_ok cx.hT hts).und
    obtain ⟨kk, s1, b1, z1, g1⟩ := td
    simp only at hkd
    subst hkd
    subst hc
    simp [convert, run_underlying h1, run_underlying (und_int cx.hT htd), Conv.intToInt]) hp hwf h
end

theorem Sl.cap {C : Mem} {k : Nat} {A : Option Addr} {m c : Nat} {xs : List (List Value)} (h : Sl C k (.slice A m c) xs) : m = xs.length ∧ m ≤ c ∧ c ≤ maxLen := by
  obtain ⟨_, _, hv, h1, h2, _⟩ := h
  simp only [Value.slice.injEq] at hv
  obtain ⟨_, rfl, rfl⟩ := hv
  exact ⟨rfl, h1, h2⟩

theorem G.eqL {F : Fx} {k : List KI} {fr : Fr} {C : Mem} {L L' : List Ent} {e : Exit} (hL : L = L') (h : G F k e fr C L') : G F k e fr C L := hL ▸ h

/-! ### Equal neighbours -/
section
variable {α : Type} [DecidableEq α]
def dedup (x : α) : List α → List α
  | [] => []
  | y :: l => if y = x then dedup x l else y :: dedup y l
def compact : List α → List α
  | [] => []
  | x :: l => x :: dedup x l

theorem dedup_snoc : ∀ (l : List α) (x y : α), dedup x (l ++ [y]) = if (x :: l).getLast (by simp) = y then dedup x l else dedup x l ++ [y]
  | [], x, y => by
    by_cases h : y = x
    · subst h; simp [dedup]
    · simp [dedup, h, Ne.symm h]
  | z :: l, x, y => by
    simp only [List.cons_append, dedup]
    by_cases h : z = x
    · subst h
      simp only [if_true, dedup_snoc l z y, List.getLast_cons_cons]
    · simp only [if_neg h, dedup_snoc l z y, List.getLast_cons_cons]
      split <;> simp
theorem compact_snoc {l : List α} {y z : α} {i : Nat} (hz : l[i]? = some z) (hi : i + 1 = l.length) : compact (l ++ [y]) = if z = y then compact l else compact l ++ [y] := by
  cases l with
  | nil => simp at hz
  | cons x l =>
    have hl : (x :: l).getLast (by simp) = z := by
      rw [List.getLast_eq_getElem]
      obtain ⟨h1, h2⟩ := List.getElem?_eq_some_iff.1 hz
      rw [← h2]
      congr 1
      simp only [List.length_cons] at hi ⊢
      omega
    simp only [List.cons_append, compact, dedup_snoc, hl]
    split <;> simp
theorem compact_length_le : ∀ (l : List α), (compact l).length ≤ l.length := by
  have hd : ∀ (l : List α) (x : α), (dedup x l).length ≤ l.length := by
    intro l
    induction l with
    | nil => intro x; simp [dedup]
    | cons y l ih =>
      intro x
      simp only [dedup]
      split
      · have := ih x; simp; omega
      · have := ih y; simp; omega
  intro l
  cases l with
  | nil => simp [compact]
  | cons x l => have := hd l x; simp [compact]; omega
theorem compact_pos {l : List α} (h : l ≠ []) : 0 < (compact l).length := by
  cases l with
  | nil => exact absurd rfl h
  | cons x l => simp [compact]
theorem dedup_mem : ∀ {l : List α} {x y : α}, y ∈ dedup x l → y ∈ l
  | [], x, y, h => by simp [dedup] at h
  | z :: l, x, y, h => by
    simp only [dedup] at h
    split at h
    · exact List.mem_cons_of_mem _ (dedup_mem h)
    · rcases List.mem_cons.1 h with rfl | h
      · exact List.mem_cons_self ..
      · exact List.mem_cons_of_mem _ (dedup_mem h)
theorem compact_mem {l : List α} {y : α} (h : y ∈ compact l) : y ∈ l := by
  cases l with
  | nil => exact h
  | cons x l =>
    simp only [compact, List.mem_cons] at h
    rcases h with rfl | h
    · exact List.mem_cons_self ..
    · exact List.mem_cons_of_mem _ (dedup_mem h)
/-- While no two neighbours are equal nothing is left out. -/
theorem compact_id : ∀ {l : List α}, (∀ i x y, l[i]? = some x → l[i + 1]? = some y → x ≠ y) → compact l = l := by
  have hd : ∀ (l : List α) (x : α), (∀ i a b, (x :: l)[i]? = some a → (x :: l)[i + 1]? = some b → a ≠ b) → dedup x l = l := by
    intro l
    induction l with
    | nil => intro x _; rfl
    | cons y l ih =>
      intro x h
      have h0 := h 0 x y (by simp) (by simp)
      simp only [dedup, if_neg (Ne.symm h0)]
      rw [ih y (fun i a b ha hb => h (i + 1) a b (by simpa using ha) (by simpa using hb))]
  intro l h
  cases l with
  | nil => rfl
  | cons x l => simp only [compact]; rw [hd l x h]
end
end Go.Jog
