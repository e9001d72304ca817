/- More rules: integer arithmetic, strings and bytes, literals, owned rows. Program-independent. -/
import Derived.Test.YtjmfjobfmdhbfaaDoorJogG
import Derived.Lib.ConvBytes
namespace Go.Jog
open Go

/-! ### Integers -/
theorem wrap_i64 {n : Int} (h1 : -9223372036854775808 ≤ n) (h2 : n ≤ 9223372036854775807) : IntKind.i64.wrap n = n := by
  rw [IntKind.wrap_i64]; omega

section
variable {cx : Cx} {n : Nat} {ds : List (Option Nat)} {R : Rg n ds} {its : List It} {fr : Fr} {C : Mem} {L : List Ent} {i k d : Nat} {o : Oper} {g : GL} {v : Value}

/-- A sum, difference or product of ints that is in range. -/
theorem D.i64 (c : Int) {e : Int} (hk : Nat.ble k 1 = true) (hd : o.dst = some d) (hg : gOf ds fr o.guard = some g) (hv : po cx.T (ev fr g) o.op = some (.int .i64 (IntKind.i64.wrap e))) (he : e = c) (h1 : -9223372036854775808 ≤ c) (h2 : c ≤ 9223372036854775807)
    (hp : okPut n ds ((d, g, .int .i64 c) :: fr) d = true) (hwf : wfG ds fr g = true)
    (h : D cx R its ((d, g, .int .i64 c) :: fr) C L) : D cx R ((i, k, o) :: its) fr C L := by
  subst he
  exact D.pure hk hd hg (by rw [hv, wrap_i64 h1 h2]) hp hwf h

/-- A value that another rule of equations gives. -/
theorem D.as {u : Value} (v : Value) (hk : Nat.ble k 1 = true) (hd : o.dst = some d) (hg : gOf ds fr o.guard = some g) (hv : po cx.T (ev fr g) o.op = some u) (he : u = v)
    (hp : okPut n ds ((d, g, v) :: fr) d = true) (hwf : wfG ds fr g = true)
    (h : D cx R its ((d, g, v) :: fr) C L) : D cx R ((i, k, o) :: its) fr C L := by
  subst he
  exact D.pure hk hd hg hv hp hwf h

/-- Any operation that yields a value and leaves the world alone. -/
theorem D.run (v : Value) (hk : Nat.ble k 1 = true) (hd : o.dst = some d) (hg : gOf ds fr o.guard = some g) (hrun : GT ds fr g → ∀ a, Sees (ev fr g) a → ∀ w, (execOp a.eval o).run cx.P w = .ok (.value v) w)
    (hp : okPut n ds ((d, g, v) :: fr) d = true) (hwf : wfG ds fr g = true)
    (h : D cx R its ((d, g, v) :: fr) C L) : D cx R ((i, k, o) :: its) fr C L :=
  D.det hk hd hg hp hwf (fun hG a hs κ' _ w _ => by
    unfold Oper.quietAt
    rw [hrun hG a hs w]
    exact ⟨rfl, rfl⟩) h

theorem exec_binOp {P : Program} {a : Act} {o : Oper} {op : BinOp} {t ty : Nat} {x y : Operand} {u v : Value} (hop : o.op = .binOp op t x y ty) (hx : a.eval x = u) (hy : a.eval y = v) (h1 : ∀ a b, u ≠ .agg a ∨ v ≠ .agg b) (h2 : u ≠ .nilIface ∨ v ≠ .nilIface) (w : World) :
    (execOp a.eval o).run P w = ((binOp op t u v).run P w).andThen fun r w' => .ok (.value r) w' := by
  have e1 : execOp a.eval o = ((eqGuard op t x y (a.eval x) (a.eval y) >>= fun _ => binOp op t (a.eval x) (a.eval y)) >>= fun r => Pure.pure (.value r)) := by
    obtain ⟨dst, op', ty', pos, after, guard⟩ := o
    simp only at hop
    subst hop
    rfl
  rw [e1, hx, hy]
  simp only [Sem.run_bind, run_eqGuard_scalar (P := P) (op := op) (t := t) (x := x) (y := y) w h1 h2, Result.andThen_ok, Sem.run_pure]

/-- Division and remainder of what is not negative. -/
theorem D.quo {t ty : Nat} {x y : Operand} {ki : IntKind} {p q : Int} (hk : Nat.ble k 1 = true) (hd : o.dst = some d) (hop : o.op = .binOp .quo t x y ty) (hg : gOf ds fr o.guard = some g) (hx : ev fr g x = some (.int ki p)) (hy : ev fr g y = some (.int ki q))
    (hq : 0 < q) (h0 : 0 ≤ p) (hr : ki.wrap (p / q) = p / q) (hp : okPut n ds ((d, g, .int ki (p / q)) :: fr) d = true) (hwf : wfG ds fr g = true)
    (h : D cx R its ((d, g, .int ki (p / q)) :: fr) C L) : D cx R ((i, k, o) :: its) fr C L :=
  D.run _ hk hd hg (fun _ a hs w => by
    rw [exec_binOp hop (hs _ _ hx) (hs _ _ hy) (fun _ _ => .inl (by simp)) (.inl (by simp)) w]
    have hq0 : q ≠ 0 := by omega
    simp [binOp, Op.intDiv, hq0, Int.tdiv_eq_ediv_of_nonneg h0, hr]) hp hwf h

theorem D.rem {t ty : Nat} {x y : Operand} {ki : IntKind} {p q : Int} (hk : Nat.ble k 1 = true) (hd : o.dst = some d) (hop : o.op = .binOp .rem t x y ty) (hg : gOf ds fr o.guard = some g) (hx : ev fr g x = some (.int ki p)) (hy : ev fr g y = some (.int ki q))
    (hq : 0 < q) (h0 : 0 ≤ p) (hp : okPut n ds ((d, g, .int ki (p % q)) :: fr) d = true) (hwf : wfG ds fr g = true)
    (h : D cx R its ((d, g, .int ki (p % q)) :: fr) C L) : D cx R ((i, k, o) :: its) fr C L :=
  D.run _ hk hd hg (fun _ a hs w => by
    rw [exec_binOp hop (hs _ _ hx) (hs _ _ hy) (fun _ _ => .inl (by simp)) (.inl (by simp)) w]
    have hq0 : q ≠ 0 := by omega
    simp [binOp, Op.intDiv, hq0, Int.tmod_eq_emod_of_nonneg h0]) hp hwf h

/-- A conversion between integer kinds. -/
theorem D.conv {src dst : Nat} {x : Operand} {ki kj : IntKind} {p c : Int} {ts td : TI} (hk : k = 2) (hd : o.dst = some d) (hop : o.op = .convert src dst x) (hg : gOn ds fr o.guard = true) (hx : ev fr [] x = some (.int ki p))
    (hts : cx.T.get src = some ts) (htd : cx.T.get dst = some td) (hkd : td.k = .int kj) (hc : kj.wrap p = c) (hp : ∀ v, okPut n ds ((d, [], v) :: fr) d = true)
    (h : D cx R its ((d, [], .int kj c) :: fr) C L) : D cx R ((i, k, o) :: its) fr C L :=
  D.eff (S := fun v C' L' => v = .int kj c ∧ C' = C ∧ L' = L) (by subst hk; rfl) hd hg hp (fun a hs w _ hw => by
    have hex : (execOp a.eval o).run cx.P w = .ok (.value (.int kj c)) w := by
      have e1 : execOp a.eval o = (do Pure.pure (.value (← convert src dst (a.eval x))) : Sem Next) := by unfold execOp; rw [hop]
      rw [e1, hs _ _ hx]
      obtain ⟨du, h1, h2⟩ := (tab_ok cx.hT hts).und
      obtain ⟨kk, s1, b1, z1, g1⟩ := td
      simp only at hkd
      subst hkd
      subst hc
      simp [convert, run_underlying h1, run_underlying (und_int cx.hT htd), Conv.intToInt]
    unfold Oper.wp
    rw [hex]
    exact ⟨_, C, L, rfl, Mem.le.refl _, fun _ _ h => h, hw, rfl, rfl, rfl⟩)
    (fun v C' L' _ ⟨e1, e2, e3⟩ => by subst e1; subst e2; subst e3; exact h)
end

/-! ### New blocks whose content the tape settles -/
structure Fresh (w w' : World) (ob : Obj) : Prop where
  os : w'.os = w.os
  tape : w'.tape = w.tape
  output : w'.output = w.output
  size : w'.heap.size = w.heap.size + 1
  old : ∀ k, k < w.heap.size → w'.heap[k]? = w.heap[k]?
  new : w'.heap[w.heap.size]? = some ob
  drawn : w.drawn ≤ w'.drawn

theorem Fresh.alloc (w : World) (ob : Obj) : Fresh w (w.alloc ob) ob := ⟨rfl, rfl, rfl, by simp, fun k hk => RowKit.Below.heap_alloc w ob k hk, heap_alloc_new w ob, Nat.le_refl _⟩

theorem St.fresh {w0 : World} {C0 : Mem} {L0 : List Ent} {C : Mem} {L : List Ent} {w w' : World} (h : St w0 C0 L0 C L w) {ob : Obj} (hf : Fresh w w' ob) : St w0 C0 L0 C (.obj w.heap.size ob :: L) w' := by
  have h1 := St.alloc h ob
  have hh : w'.heap = (w.alloc ob).heap := by
    apply Array.ext_getElem?
    intro k
    rcases Nat.lt_trichotomy k w.heap.size with hk | hk | hk
    · rw [hf.old k hk, RowKit.Below.heap_alloc w ob k hk]
    · subst hk; rw [hf.new, heap_alloc_new]
    · rw [Array.getElem?_eq_none (by rw [hf.size]; omega), Array.getElem?_eq_none (by simp; omega)]
  exact h1.same hf.os hf.tape hf.output hh hf.drawn

section
variable {cx : Cx} {n : Nat} {ds : List (Option Nat)} {R : Rg n ds} {its : List It} {fr : Fr} {C : Mem} {L : List Ent} {i k d : Nat} {o : Oper} {g : GL} {v : Value}

theorem D.freshC {S : Value → Nat → Obj → Prop} (hk : Nat.ble k 1 = false) (hd : o.dst = some d) (hg : gOn ds fr o.guard = true) (hp : ∀ v, okPut n ds ((d, [], v) :: fr) d = true)
    (hrun : ∀ a, Sees (ev fr []) a → ∀ w C0 L0 w0, St w0 C0 L0 C L w → ∃ v ob w', (execOp a.eval o).run cx.P w = .ok (.value v) w' ∧ Fresh w w' ob ∧ S v w.heap.size ob)
    (h : ∀ v b ob C', C.le C' → C' b = some ob → S v b ob → D cx R its ((d, [], v) :: fr) C' L) : D cx R ((i, k, o) :: its) fr C L :=
  D.eff (S := fun v C' L' => L' = L ∧ ∃ b ob, C' b = some ob ∧ S v b ob) hk hd hg hp (fun a hs w _ hw => by
    obtain ⟨v, ob, w', hr, hf, hS⟩ := hrun a hs w _ _ _ hw
    unfold Oper.wp
    rw [hr]
    have h1 := St.fresh hw hf
    have h2 := h1.freeze
    exact ⟨v, C.set w.heap.size ob, L, rfl, h2.1, fun _ x hx => hx, h2.2, rfl, w.heap.size, ob, Mem.set_self _ _ _, hS⟩)
    (fun v C' L' hle ⟨e1, b, ob, e2, e3⟩ => by subst e1; exact h v b ob C' hle e2 e3)

theorem D.freshL {S : Value → Nat → Obj → Prop} (hk : Nat.ble k 1 = false) (hd : o.dst = some d) (hg : gOn ds fr o.guard = true) (hp : ∀ v, okPut n ds ((d, [], v) :: fr) d = true)
    (hrun : ∀ a, Sees (ev fr []) a → ∀ w C0 L0 w0, St w0 C0 L0 C L w → ∃ v ob w', (execOp a.eval o).run cx.P w = .ok (.value v) w' ∧ Fresh w w' ob ∧ S v w.heap.size ob)
    (h : ∀ v b ob, S v b ob → D cx R its ((d, [], v) :: fr) C (.obj b ob :: L)) : D cx R ((i, k, o) :: its) fr C L :=
  D.eff (S := fun v C' L' => C' = C ∧ ∃ b ob, L' = .obj b ob :: L ∧ S v b ob) hk hd hg hp (fun a hs w _ hw => by
    obtain ⟨v, ob, w', hr, hf, hS⟩ := hrun a hs w _ _ _ hw
    unfold Oper.wp
    rw [hr]
    exact ⟨v, C, .obj w.heap.size ob :: L, rfl, Mem.le.refl _, fun _ x hx => by simp [hx], St.fresh hw hf, rfl, w.heap.size, ob, rfl, hS⟩)
    (fun v C' L' _ ⟨e1, b, ob, e2, e3⟩ => by subst e1; subst e2; exact h v b ob e3)

theorem flatten_single (s : List UInt8) : (s.map fun b => [Value.int .u8 b.toNat]).flatten = s.map fun b => Value.int .u8 b.toNat := by
  induction s with
  | nil => rfl
  | cons b s ih => simp [ih]

/-- []byte(s) that is only read. -/
theorem D.strBytes {src dst e : Nat} {x : Operand} {s : List UInt8} {ts td te : TI} (hk : k = 2) (hd : o.dst = some d) (hop : o.op = .convert src dst x) (hg : gOn ds fr o.guard = true) (hx : ev fr [] x = some (.string ⟨s.toArray⟩))
    (hts : cx.T.get src = some ts) (htd : cx.T.get dst = some td) (hkd : td.k = .slice e) (hte : cx.T.get e = some te) (hke : te.k = .int .u8) (hlen : s.length ≤ maxLen) (hp : ∀ v, okPut n ds ((d, [], v) :: fr) d = true)
    (h : ∀ p C', C.le C' → Sl C' 1 p (s.map fun b => [.int .u8 b.toNat]) → D cx R its ((d, [], p) :: fr) C' L) : D cx R ((i, k, o) :: its) fr C L := by
  refine D.freshC (S := fun v b ob => ∃ (blk : Array Value) (fz : Nat × Nat) (c : Nat), v = .slice (some ⟨b, 0, none⟩) s.length c ∧ ob = .cells blk e fz ∧ s.length ≤ c ∧ c ≤ maxLen ∧ ∀ (j : Nat) (u : Value), (s.map fun b => Value.int .u8 b.toNat)[j]? = some u → blk[j]? = some u)
    (by subst hk; rfl) hd hg hp (fun a hs w _ _ _ _ => ?_) (fun v b ob C' hle hb ⟨blk, fz, c, e1, e2, e3, e4, e5⟩ => ?_)
  · obtain ⟨du, h1, _⟩ := (tab_ok cx.hT hts).und
    obtain ⟨kk, s1, b1, z1, g1⟩ := td
    simp only at hkd
    subst hkd
    obtain ⟨kk2, s2, b2, z2, g2⟩ := te
    simp only at hke
    subst hke
    have hr := Lib.run_convert_string_bytes (P := cx.P) w src dst e ⟨s.toArray⟩ h1 (und_slice cx.hT htd) (und_int cx.hT hte)
    refine ⟨.slice (some ⟨w.heap.size, 0, none⟩) s.length (grownCap w s.length 0 e), _, Lib.bytesWorld w e ⟨s.toArray⟩, ?_, ⟨?_, ?_, ?_, Lib.bytesWorld_size w e ⟨s.toArray⟩, fun k hk => Lib.bytesWorld_at_old w e ⟨s.toArray⟩ k hk, Lib.bytesWorld_at_new w e ⟨s.toArray⟩, run_drawn _ hr⟩, ?_⟩
    · have e1 : execOp a.eval o = (do Pure.pure (.value (← convert src dst (a.eval x))) : Sem Next) := by unfold execOp; rw [hop]
      rw [e1, hs _ _ hx]
      simp only [Sem.run_bind, hr, Result.andThen_ok, Sem.run_pure]
      rfl
    · unfold Lib.bytesWorld World.freeze; split <;> rfl
    · unfold Lib.bytesWorld World.freeze; split <;> rfl
    · unfold Lib.bytesWorld World.freeze; split <;> rfl
    · refine ⟨_, _, _, rfl, rfl, by have := grownCap_ge w s.length 0 e; simpa [ByteArray.size] using this, by have := grownCap_le_maxLen w s.length 0 e hlen; simpa [ByteArray.size] using this, fun j u hj => ?_⟩
      have hj' : j < s.length := by have := (List.getElem?_eq_some_iff.1 hj).1; simpa using this
      rw [List.getElem?_map] at hj
      simp only [Lib.bytesCells]
      rw [Array.getElem?_append_left (by simp; exact hj')]
      simp only [Array.getElem?_map, List.getElem?_toArray]
      exact hj
  · subst e1; subst e2
    have := Sl.ofBlock (rows := s.map fun b => [Value.int .u8 b.toNat]) (s := 1) (c := c) hb (by simp) (fun j v hj => e5 j v (by
      have hf : (s.map fun b => [Value.int .u8 b.toNat]).flatten = s.map fun b => Value.int .u8 b.toNat := by
        exact flatten_single s
      rw [hf] at hj; exact hj)) (by simpa using e3) e4
    simp only [List.length_map] at this
    exact h _ C' hle this

/-! ### Rows of the function's own: reading and writing elements -/
theorem D.indexS (off : Nat) {t e g0 len cap size : Nat} {x y : Operand} {ki : IntKind} {m : Int} {ti te : TI} (hk : Nat.ble k 1 = true) (hd : o.dst = some d) (hop : o.op = .indexAddr t x y)
    (hg : gOf ds fr o.guard = some g) (hx : ev fr g x = some (.slice (some ⟨g0, 0, none⟩) len cap)) (hy : ev fr g y = some (.int ki m)) (ht : cx.T.get t = some ti) (hte : ti.k = .slice e) (he : cx.T.get e = some te) (hsz : te.size = size)
    (h0 : GT ds fr g → 0 ≤ m ∧ m < len ∧ off = m.toNat * size) (hp : okPut n ds ((d, g, .pointer (some ⟨g0, off, none⟩)) :: fr) d = true) (hwf : wfG ds fr g = true)
    (h : D cx R its ((d, g, .pointer (some ⟨g0, off, none⟩)) :: fr) C L) : D cx R ((i, k, o) :: its) fr C L := by
  have hu : cx.P.underlying t = some (.slice e) := by
    obtain ⟨kk, s1, b1, z1, g1⟩ := ti
    simp only at hte
    subst hte
    exact und_slice cx.hT ht
  refine D.run _ hk hd hg (fun hGT a hs w => ?_) hp hwf h
  obtain ⟨hm0, hml, rfl⟩ := h0 hGT
  have e1 : execOp a.eval o = (do Pure.pure (.value (← Instr.indexAt t (a.eval x) (a.eval y))) : Sem Next) := by unfold execOp; rw [hop]
  rw [e1, hs _ _ hx, hs _ _ hy]
  have h2 := size_of cx.hT he w
  rw [hsz] at h2
  simp [Instr.indexAt, asIntOf, run_underlying hu, h2, hm0, hml, Addr.add_lit]

/-- What an owned row is made of. -/
theorem ownsRow_block {w : World} {e size len g0 m cap : Nat} {xs : List Value} (h : w.ownsRow 0 e size (.slice (some ⟨g0, 0, none⟩) m cap) len xs) :
    m = len ∧ len ≤ cap ∧ cap ≤ maxLen ∧ ∃ cur : Array Value, w.heap[g0]? = some (.cells cur e (0, 0)) ∧ cur.size = cap * size ∧ cur.toList.take (len * size) = xs := by
  rcases h.2 with ⟨h1, _⟩ | ⟨g, c, cur, hv, _, hh, h3, h4, h5, h6⟩
  · cases h1
  · cases hv
    exact ⟨rfl, h3, h4, cur, hh, h5, h6⟩

theorem D.loadArr {t g0 off e size len m cap : Nat} {x : Operand} {xs : List Value} {ti : TI} (hm : Ent.arr (.slice (some ⟨g0, 0, none⟩) m cap) e size len xs ∈ L) (hk : k = 1) (hd : o.dst = some d) (hop : o.op = .load t x) (hg : gOf ds fr o.guard = some g) (hx : ev fr g x = some (.pointer (some ⟨g0, off, none⟩)))
    (ht : cx.T.get t = some ti) (hv : GT ds fr g → ofCells ti ((xs.drop off).take ti.size) = some v) (hp : okPut n ds ((d, g, v) :: fr) d = true) (hwf : wfG ds fr g = true)
    (h : D cx R its ((d, g, v) :: fr) C L) : D cx R ((i, k, o) :: its) fr C L :=
  D.det (by subst hk; rfl) hd hg hp hwf (fun hGT a hs κ' hκ w hw => by
    have hown : w.ownsRow 0 e size (.slice (some ⟨g0, 0, none⟩) m cap) len xs := hw.sep.e _ ((hκ hk).2 _ hm)
    obtain ⟨_, _, _, cur, hb, _, htake⟩ := ownsRow_block hown
    have hcell : ∀ j u, ((xs.drop off).take ti.size)[j]? = some u → w.cell? ((⟨g0, off, none⟩ : Addr).add j) = some u := fun j u hj => by
      rw [Addr.add_lit, cell_of_row w g0 (off + j) _ e (0, 0) hb]
      rw [List.getElem?_take] at hj
      split at hj
      · rw [List.getElem?_drop, ← htake, List.getElem?_take] at hj
        split at hj
        · simpa using hj
        · cases hj
      · cases hj
    have hex : (execOp a.eval o).run cx.P w = .ok (.value v) w := by
      have e1 : execOp a.eval o = (do Pure.pure (.value (← Instr.loadAt t (a.eval x))) : Sem Next) := by unfold execOp; rw [hop]
      rw [e1, hs _ _ hx]
      simp only [Instr.loadAt, Instr.sureAddr, Sem.run_bind, Sem.run_pure, Result.andThen_ok]
      rw [run_loadVar cx.hT ht hcell (hv hGT)]
      rfl
    unfold Oper.quietAt
    rw [hex]
    exact ⟨rfl, rfl⟩) h

theorem storeInto_take (cs vs : List Value) (off n : Nat) (h : off + vs.length ≤ n) (hn : n ≤ cs.length) : (storeInto cs vs off).take n = storeInto (cs.take n) vs off := by
  unfold storeInto
  apply List.ext_getElem?
  intro i
  simp only [List.getElem?_take, List.getElem?_append, List.length_append, List.length_take, List.getElem?_drop]
  have e1 : min off cs.length = off := by omega
  have e2 : min off (min n cs.length) = off := by omega
  rw [e1, e2]
  by_cases h1 : i < off
  · simp [h1, show i < off + vs.length by omega, show i < n by omega]
  · by_cases h2 : i < off + vs.length
    · simp [h1, h2, show i < n by omega]
    · simp only [h1, h2, if_false]
      have e3 : off + vs.length + (i - (off + vs.length)) = i := by omega
      rw [e3]

theorem D.storeArr {t g0 off j e size len m cap : Nat} {x y : Operand} {xs vs : List Value} {ti : TI} (hk : k = 3) (hg : gOn ds fr o.guard = true) (hd : o.dst = none) (hop : o.op = .store t x y)
    (hx : ev fr [] x = some (.pointer (some ⟨g0, off, none⟩))) (hy : ev fr [] y = some v) (hm : L[j]? = some (.arr (.slice (some ⟨g0, 0, none⟩) m cap) e size len xs))
    (ht : cx.T.get t = some ti) (hv : v.cells = ⟨vs⟩) (hl : Nat.beq vs.length ti.size = true) (h1 : vs.all oneB = true) (hfit : off + vs.length ≤ xs.length)
    (h : D cx R its fr C (.arr (.slice (some ⟨g0, 0, none⟩) m cap) e size len (storeInto xs vs off) :: L.eraseIdx j)) : D cx R ((i, k, o) :: its) fr C L :=
  D.eff0 (S := fun C' L' => C' = C ∧ L' = .arr (.slice (some ⟨g0, 0, none⟩) m cap) e size len (storeInto xs vs off) :: L.eraseIdx j) (by subst hk; rfl) hg (fun a hs w _ hw => by
    have hw' := St.perm hw (ent_perm hm)
    have hown : w.ownsRow 0 e size (.slice (some ⟨g0, 0, none⟩) m cap) len xs := hw'.sep.e _ (List.mem_cons_self ..)
    obtain ⟨rfl, hlc, hcm, cur, hb, hcs, htake⟩ := ownsRow_block hown
    obtain ⟨cur⟩ := cur
    simp only [List.size_toArray] at hcs
    simp only at htake
    have hxl : xs.length = m * size := hown.1
    have hcl : m * size ≤ cur.length := by rw [hcs]; exact Nat.mul_le_mul_right _ hlc
    have hex : (execOp a.eval o).run cx.P w = .ok .skip (w.setRow g0 (storeInto cur vs off).toArray) := by
      have e1 : execOp a.eval o = (do Instr.storeAt t (a.eval x) (a.eval y); Pure.pure .skip : Sem Next) := by unfold execOp; rw [hop]
      rw [e1, hs _ _ hx, hs _ _ hy]
      simp only [Instr.storeAt, Instr.sureAddr, Sem.run_bind, Sem.run_pure, Result.andThen_ok]
      rw [run_storeVar cx.hT ht hb hv (Nat.eq_of_beq_eq_true hl) (by omega) (fun u hu => oneB_spec (List.all_eq_true.1 h1 u hu))]
      rfl
    have hlen : (storeInto cur vs off).length = cur.length := by unfold storeInto; simp; omega
    have hnew : (w.setRow g0 (storeInto cur vs off).toArray).ownsRow 0 e size (.slice (some ⟨g0, 0, none⟩) m cap) m (storeInto xs vs off) :=
      ⟨by have : (storeInto xs vs off).length = xs.length := by unfold storeInto; simp; omega
          omega, .inr ⟨g0, cap, _, rfl, Nat.zero_le _, setRow_heap w g0 _ _ e _ hb, hlc, hcm, by simp [hlen, hcs], by
            rw [← htake]; exact storeInto_take cur vs off (m * size) (by omega) hcl⟩⟩
    unfold Oper.wp
    rw [hex]
    refine ⟨C, .arr (.slice (some ⟨g0, 0, none⟩) m cap) e size m (storeInto xs vs off) :: L.eraseIdx j, ?_, Mem.le.refl _, fun h2 => by omega,
      St.turn hw' hnew ⟨rfl, rfl, rfl, by simp, fun k _ hk => setRow_other w g0 k _ (fun e => hk (by simp [Value.ownBlock, e]))⟩ (Nat.le_refl _) (.inl rfl), rfl, rfl⟩
    rw [hd]; rfl)
    (fun C' L' _ ⟨e1, e2⟩ => by subst e1; subst e2; exact h)
end

section
variable {F : Fx} {k : List KI} {fr : Fr} {C : Mem} {L : List Ent}
/-- An owned row is nil or lies at the head of its block. -/
def ArrForm (v : Value) (n : Nat) : Prop := (v = .slice none 0 0 ∧ n = 0) ∨ ∃ g c, v = .slice (some ⟨g, 0, none⟩) n c ∧ n ≤ c ∧ c ≤ maxLen
theorem G.form {e : Exit} {v : Value} {t size len : Nat} {xs : List Value} (hm : Ent.arr v t size len xs ∈ L) (h : ArrForm v len → xs.length = len * size → G F k e fr C L) : G F k e fr C L := fun h0 a w ha hw => by
  have hown : w.ownsRow 0 t size v len xs := hw.sep.e _ hm
  refine h ?_ hown.1 h0 a w ha hw
  rcases hown.2 with h1 | ⟨g, c, cur, hv, _, _, h3, h4, _⟩
  · exact .inl h1
  · exact .inr ⟨g, c, hv, h3, h4⟩

theorem chunks {size : Nat} : ∀ {rows : List (List Value)}, (∀ r ∈ rows, r.length = size) → rows.flatten.length = rows.length * size := fun h => length_flatten_rows h

/-- An owned row is written no more. -/
theorem St.freezeArr {w0 : World} {C0 : Mem} {L0 : List Ent} {w : World} {v : Value} {t size len : Nat} {rows : List (List Value)} (h : St w0 C0 L0 C (.arr v t size len rows.flatten :: L) w) (hl : ∀ r ∈ rows, r.length = size) (hn : rows.length = len) :
    ∃ C', C.le C' ∧ Sl C' size v rows ∧ St w0 C0 L0 C' L w := by
  have hown : w.ownsRow 0 t size v len rows.flatten := h.sep.e _ (List.mem_cons_self ..)
  subst hn
  rcases hown.2 with ⟨rfl, hz⟩ | ⟨g, c, cur, rfl, _, hh, h3, h4, h5, h6⟩
  · have : rows = [] := List.eq_nil_of_length_eq_zero hz
    subst this
    exact ⟨C, Mem.le.refl _, Sl.nil C size, h.drop⟩
  · have h' : St w0 C0 L0 C (.obj g (.cells cur t (0, 0)) :: L) w :=
      ⟨⟨h.sep.c, fun x hx => by
        rcases List.mem_cons.1 hx with rfl | hx
        · exact hh
        · exact h.sep.e x (by simp [hx]), by
        have := List.pairwise_cons.1 h.sep.d
        exact List.pairwise_cons.2 ⟨fun y hy k hk => this.1 y hy k (by simp only [Ent.own] at hk ⊢; simp [Value.ownBlock, hk]), this.2⟩, fun k ⟨x, hx, hk⟩ => by
        rcases List.mem_cons.1 hx with rfl | hx
        · simp only [Ent.own] at hk
          exact h.sep.n k ⟨_, List.mem_cons_self .., by simp [Ent.own, Value.ownBlock, hk]⟩
        · exact h.sep.n k ⟨x, by simp [hx], hk⟩⟩, h.ev, h.c0, h.cn, fun k ⟨x, hx, hk⟩ => by
        rcases List.mem_cons.1 hx with rfl | hx
        · simp only [Ent.own] at hk
          exact h.ln k ⟨_, List.mem_cons_self .., by simp [Ent.own, Value.ownBlock, hk]⟩
        · exact h.ln k ⟨x, by simp [hx], hk⟩⟩
    have h2 := h'.freeze
    refine ⟨_, h2.1, Sl.ofBlock (Mem.set_self C g _) hl (fun j u hj => ?_) h3 h4, h2.2⟩
    rw [← h6, List.getElem?_take] at hj
    split at hj
    · simpa using hj
    · cases hj

theorem G.freezeArr {e : Exit} (j : Nat) {v : Value} {t size len : Nat} (rows : List (List Value)) {xs : List Value} (hj : L[j]? = some (.arr v t size len xs)) (hx : xs = rows.flatten) (hl : ∀ r ∈ rows, r.length = size) (hn : rows.length = len)
    (h : ∀ C', C.le C' → Sl C' size v rows → G F k e fr C' (L.eraseIdx j)) : G F k e fr C L := fun h0 a w ha hw => by
  subst hx
  obtain ⟨C', h1, h2, h3⟩ := St.freezeArr (St.perm hw (ent_perm hj)) hl hn
  exact h C' h1 h2 (h0.trans h1) a w ha h3

/-- An owned object is written no more. -/
theorem G.freeze {e : Exit} (j : Nat) {b : Nat} {ob : Obj} (hj : L[j]? = some (.obj b ob)) (h : ∀ C', C.le C' → C' b = some ob → G F k e fr C' (L.eraseIdx j)) : G F k e fr C L := fun h0 a w ha hw => by
  have h1 := St.freeze (St.perm hw (ent_perm hj))
  exact h _ h1.1 (Mem.set_self _ _ _) (h0.trans h1.1) a w ha h1.2

/-- A nil slice as an owned row. -/
theorem G.nilArr {e : Exit} (t size : Nat) (h : G F k e fr C (.arr (.slice none 0 0) t size 0 [] :: L)) : G F k e fr C L := fun h0 a w ha hw => h h0 a w ha (St.nilArr hw t size)
end
end Go.Jog
