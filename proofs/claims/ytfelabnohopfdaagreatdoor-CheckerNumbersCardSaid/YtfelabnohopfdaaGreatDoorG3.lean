/- Laws that the proofs of this seat share, part 3. -/
import Derived.Test.YtfelabnohopfdaaGreatDoorG2
import Derived.Test.YtfelabnohopfdaaGreatDoorShelf
import Derived.Laws.Bits64b
import Derived.TacticsIn
import Derived.OrdersIn
import Derived.RangeFuncCalls
import Derived.RangeFuncSeq
namespace Go.Jog
open Go

example {A B C D E : Mem} (h3 : D.le E) (h1 : A.le B) (h2 : B.le C) (h4 : C.le D) : A.le E := by (repeat (first | exact Mem.le.refl _ | assumption | (apply Mem.le.trans; rotate_left; assumption)))
theorem Mem.get {C D : Mem} {b : Nat} {o : Obj} (h : C b = some o) (hl : C.le D) : D b = some o := hl _ _ h

theorem Gives.ofCalls {P : Program} {f : FuncId} {args : List Value} {v : Value} (hen : Enters P f = true) (h : ∀ w, Calls P f args.toArray w fun e w' => e = .returned v ∧ w' = w) (C : Mem) : Gives P f args C v :=
  ⟨hen, fun w hw => (h w).mono fun e w' ⟨h1, h2⟩ => by
    subst h2
    exact ⟨_, C, [], h1, St.start hw, rfl, rfl⟩⟩

section
variable {cx : Cx} {n : Nat} {ds : List (Option Nat)} {R : Rg n ds} {its : List It} {fr : Fr} {C : Mem} {L : List Ent} {i k d : Nat} {o : Oper} {g : GL} {v : Value}
theorem D.copyCore {t t2 e g0 off j q dl dc size len m cap sl : Nat} {x y : Operand} {src : Value} {xs vs : List Value} {ti te : TI} (hk : k = 3) (hd : o.dst = some d) (hg : gOn ds fr o.guard = true)
    (hop : o.op = .call ⟨.builtin .copy, #[x, y], #[t, t2]⟩) (ht : cx.T.get t = some ti) (hte : ti.k = .slice e) (he : cx.T.get e = some te) (hsz : te.size = size)
    (hx : ev fr [] x = some (.slice (some ⟨g0, off, none⟩) dl dc)) (hy : ev fr [] y = some src) (hm : L[j]? = some (.arr (.slice (some ⟨g0, 0, none⟩) m cap) e size len xs))
    (hsl : ∀ w, (Builtin.lenOf src).run cx.P w = .ok sl w) (hq : q = min sl dl) (hvl : vs.length = q * size)
    (hfc : ∀ w, Sep C (.arr (.slice (some ⟨g0, 0, none⟩) m cap) e size len xs :: L.eraseIdx j) w → (Builtin.firstCells size q src).run cx.P w = .ok vs.toArray w)
    (h1 : vs.all oneB = true) (hfit : off + q * size ≤ xs.length) (hp : ∀ v, okPut n ds ((d, [], v) :: fr) d = true)
    (h : D cx R its ((d, [], .int .i64 q) :: fr) C (.arr (.slice (some ⟨g0, 0, none⟩) m cap) e size len (storeInto xs vs off) :: L.eraseIdx j)) : D cx R ((i, k, o) :: its) fr C L := by
  have hu : cx.P.underlying t = some (.slice e) := by
    obtain ⟨kk, s1, b1, z1, g1⟩ := ti
    simp only at hte
    subst hte
    exact und_slice cx.hT ht
  refine D.eff (S := fun v' C' L' => v' = .int .i64 q ∧ C' = C ∧ L' = .arr (.slice (some ⟨g0, 0, none⟩) m cap) e size len (storeInto xs vs off) :: L.eraseIdx j) (by subst hk; rfl) hd hg hp (fun a hs w _ hw => ?_) (fun v' C' L' _ ⟨e0, e1, e2⟩ => by subst e0; subst e1; subst e2; exact h)
  have hw' := St.perm hw (ent_perm hm)
  have hown : w.ownsRow 0 e size (.slice (some ⟨g0, 0, none⟩) m cap) len xs := hw'.sep.e _ (List.mem_cons_self ..)
  obtain ⟨rfl, hlc, hcm, cur, hb, hcs, htake⟩ := ownsRow_block hown
  obtain ⟨cur⟩ := cur
  simp only [List.size_toArray] at hcs
  simp only at htake
  have hxl : xs.length = m * size := hown.1
  have hcl : m * size ≤ cur.length := by rw [hcs]; exact Nat.mul_le_mul_right _ hlc
  have h1' : ∀ u ∈ vs, u.oneCell' = true := fun u hu => oneB_spec (List.all_eq_true.1 h1 u hu)
  have hst := run_storeCells_at cx.P g0 off e vs 0 ⟨cur⟩ w hb (by simp [hvl]; omega) h1'
  simp only [Nat.add_zero] at hst
  have hfcw := hfc w hw'.sep
  have hsw := hsl w
  have hzw := size_of cx.hT he w
  rw [hsz] at hzw
  have hc : (Builtin.copy_ #[t, t2] o.type #[.slice (some ⟨g0, off, none⟩) dl dc, src]).run cx.P w = .ok (.int .i64 q) (w.setRow g0 (storeInto cur vs off).toArray) := by
    have hq2 : Nat.min sl dl = q := hq.symm
    simp only [Builtin.copy_]
    simp [run_underlying hu, hsw, hzw, hq2, hfcw, hst, storeInto, goInt]
  have hex : (execOp a.eval o).run cx.P w = .ok (.value (.int .i64 q)) (w.setRow g0 (storeInto cur vs off).toArray) := by
    have e1 : execOp a.eval o = (do let dd ← resolve a.eval ⟨.builtin .copy, #[x, y], #[t, t2]⟩ o.type; invoke dd.target dd.args : Sem Next) := by unfold execOp; rw [hop]
    rw [e1]
    simp only [resolve, invoke, builtin, Sem.run_bind, Sem.run_pure, Result.andThen_ok, List.map_toArray, List.map_cons, List.map_nil, hs _ _ hx, hs _ _ hy, hc]
  have hlen : (storeInto cur vs off).length = cur.length := storeInto_length (by rw [hvl]; omega)
  have hnew : (w.setRow g0 (storeInto cur vs off).toArray).ownsRow 0 e size (.slice (some ⟨g0, 0, none⟩) m cap) m (storeInto xs vs off) :=
    ⟨by rw [storeInto_length (by rw [hvl]; omega)]; exact hxl, .inr ⟨g0, cap, _, rfl, Nat.zero_le _, setRow_heap w g0 _ _ e _ hb, hlc, hcm, by simp [hlen, hcs], by
          rw [← htake]; exact storeInto_take cur _ off (m * size) (by rw [hvl]; omega) hcl⟩⟩
  unfold Oper.wp
  rw [hex]
  exact ⟨.int .i64 q, C, .arr (.slice (some ⟨g0, 0, none⟩) m cap) e size m (storeInto xs vs off) :: L.eraseIdx j, rfl, Mem.le.refl _, fun h2 => by omega,
    St.turn hw' hnew ⟨rfl, rfl, rfl, by simp, fun k _ hk => setRow_other w g0 k _ (fun e => hk (by simp [Value.ownBlock, e]))⟩ (Nat.le_refl _) (.inl rfl), rfl, rfl, rfl⟩

/-- copy of the row's own first cells to a later place of it. -/
theorem D.copyS {t t2 e g0 off j q dl dc len m cap sl sc : Nat} {x y : Operand} {xs : List Value} {ti te : TI} (hk : k = 3) (hd : o.dst = some d) (hg : gOn ds fr o.guard = true)
    (hop : o.op = .call ⟨.builtin .copy, #[x, y], #[t, t2]⟩) (ht : cx.T.get t = some ti) (hte : ti.k = .slice e) (he : cx.T.get e = some te) (hsz : te.size = 1)
    (hx : ev fr [] x = some (.slice (some ⟨g0, off, none⟩) dl dc)) (hy : ev fr [] y = some (.slice (some ⟨g0, 0, none⟩) sl sc)) (hm : L[j]? = some (.arr (.slice (some ⟨g0, 0, none⟩) m cap) e 1 len xs))
    (hq : q = min sl dl) (h1 : xs.all oneB = true) (hfit : off + q ≤ xs.length) (hp : ∀ v, okPut n ds ((d, [], v) :: fr) d = true)
    (h : D cx R its ((d, [], .int .i64 q) :: fr) C (.arr (.slice (some ⟨g0, 0, none⟩) m cap) e 1 len (storeInto xs (xs.take q) off) :: L.eraseIdx j)) : D cx R ((i, k, o) :: its) fr C L := by
  refine D.copyCore (vs := xs.take q) hk hd hg hop ht hte he hsz hx hy hm (sl := sl) (fun w => by simp [Builtin.lenOf]) hq (by rw [List.length_take]; omega) (fun w hw => ?_)
    (by rw [List.all_eq_true] at h1 ⊢; exact fun u hu => h1 u (List.mem_of_mem_take hu)) (by omega) hp h
  have hown : w.ownsRow 0 e 1 (.slice (some ⟨g0, 0, none⟩) m cap) len xs := hw.e _ (List.mem_cons_self ..)
  obtain ⟨rfl, hlc, hcm, cur, hb, hcs, htake⟩ := ownsRow_block hown
  refine run_firstCells_some (P := cx.P) w 1 q ⟨g0, 0, none⟩ sl sc (xs.take q) (by rw [List.length_take]; omega) (fun jj u hu => ?_)
  rw [← htake, List.take_take, List.getElem?_take] at hu
  split at hu
  · rw [Addr.add_lit, cell_of_row w g0 _ cur e (0, 0) hb]; simpa using hu
  · cases hu

/-- copy of a slice that nobody writes, of which all is read. -/
theorem D.copyC {t t2 e g0 off j q dl dc size len m cap : Nat} {x y : Operand} {p : Value} {rows : List (List Value)} {xs : List Value} {ti te : TI} (hk : k = 3) (hd : o.dst = some d) (hg : gOn ds fr o.guard = true)
    (hop : o.op = .call ⟨.builtin .copy, #[x, y], #[t, t2]⟩) (ht : cx.T.get t = some ti) (hte : ti.k = .slice e) (he : cx.T.get e = some te) (hsz : te.size = size) (hs0 : Nat.beq te.size 0 = false)
    (hx : ev fr [] x = some (.slice (some ⟨g0, off, none⟩) dl dc)) (hy : ev fr [] y = some p) (hm : L[j]? = some (.arr (.slice (some ⟨g0, 0, none⟩) m cap) e size len xs))
    (hsl : Sl C size p rows) (hq : q = min rows.length dl) (h1 : rows.all (fun r => r.all oneB) = true) (hfit : off + q * size ≤ xs.length) (hp : ∀ v, okPut n ds ((d, [], v) :: fr) d = true)
    (h : D cx R its ((d, [], .int .i64 q) :: fr) C (.arr (.slice (some ⟨g0, 0, none⟩) m cap) e size len (storeInto xs (rows.take q).flatten off) :: L.eraseIdx j)) : D cx R ((i, k, o) :: its) fr C L := by
  obtain ⟨A, c, hpv, hlc, hcm, hrl, hcells⟩ := hsl
  have hpos : 0 < size := by rw [← hsz]; exact Nat.pos_of_ne_zero (fun e => by rw [e] at hs0; cases hs0)
  have hrl' : ∀ r ∈ rows.take q, r.length = size := fun r hr => hrl r (List.mem_of_mem_take hr)
  have hfl := length_flatten_rows hrl'
  have hql : (rows.take q).length = q := by rw [List.length_take]; omega
  refine D.copyCore (vs := (rows.take q).flatten) hk hd hg hop ht hte he hsz hx hy hm (sl := rows.length) (fun w => by subst hpv; simp [Builtin.lenOf]) hq (by rw [hfl, hql]) (fun w hw => ?_)
    (by
      rw [List.all_eq_true]; intro u hu
      obtain ⟨r, hr, hur⟩ := List.mem_flatten.1 hu
      exact List.all_eq_true.1 (List.all_eq_true.1 h1 r (List.mem_of_mem_take hr)) u hur) hfit hp h
  cases rows with
  | nil =>
    subst hpv
    have hq0 : q = 0 := by rw [hq]; simp
    subst hq0
    cases A <;> simp [Builtin.firstCells, loadCells, loadCellsFrom]
  | cons r rs =>
    obtain ⟨ad, hA, hsp, _⟩ := hcells 0 r (by simp)
    subst hA
    rw [hpv]
    refine run_firstCells_some (P := cx.P) w size q ad _ c _ (by rw [hfl, hql]) (fun jj u hu => ?_)
    have hqlt : jj < q * size := by rw [← hql, ← hfl]; exact (List.getElem?_eq_some_iff.1 hu).1
    have hdiv : jj / size < q := Nat.div_lt_of_lt_mul (by rw [Nat.mul_comm]; exact hqlt)
    have hdl : jj / size < (r :: rs).length := by omega
    have hgi : (r :: rs)[jj / size]? = some (r :: rs)[jj / size] := List.getElem?_eq_getElem hdl
    have hmod : jj % size < ((r :: rs)[jj / size]).length := by rw [hrl _ (List.getElem_mem hdl)]; exact Nat.mod_lt _ hpos
    have hgj := List.getElem?_eq_getElem hmod
    have hgt : ((r :: rs).take q)[jj / size]? = some (r :: rs)[jj / size] := by rw [List.getElem?_take, if_pos hdiv]; exact hgi
    have heq := getElem?_flatten_rows hrl' hgt hgj
    have hq' : jj / size * size + jj % size = jj := by rw [Nat.mul_comm]; exact Nat.div_add_mod jj size
    rw [hq', hu] at heq
    obtain ⟨ad', h3, h4, h5⟩ := hcells _ _ hgi
    cases h3
    have := h5 _ _ hgj
    rw [hq'] at this
    rw [heq]
    exact this.cell hw
end
end Go.Jog
namespace Go.Jog
open Go

section
variable {cx : Cx} {n : Nat} {ds : List (Option Nat)} {R : Rg n ds} {its : List It} {fr : Fr} {C : Mem} {L : List Ent} {i k d : Nat} {o : Oper} {g : GL}
end

end Go.Jog
namespace Go.Jog
open Go
section
variable {cx : Cx} {n : Nat} {ds : List (Option Nat)} {R : Rg n ds} {its : List It} {fr : Fr} {C : Mem} {L : List Ent} {i k d : Nat} {o : Oper} {g : GL}
end
end Go.Jog
namespace Go.Jog

abbrev B32 : Nat := 4294967296
def valD : List Nat → Nat
  | [] => 0
  | x :: l => x + B32 * valD l
def DigD (l : List Nat) : Prop := ∀ x ∈ l, x < B32
def CanD (l : List Nat) : Prop := DigD l ∧ l.getLast? ≠ some 0
theorem valD_append : ∀ (a b : List Nat), valD (a ++ b) = valD a + B32 ^ a.length * valD b
  | [], b => by simp [valD]
  | x :: a, b => by
    simp only [List.cons_append, valD, valD_append a b, List.length_cons, Nat.pow_succ]
    rw [Nat.mul_add, ← Nat.mul_assoc, Nat.mul_comm (B32 ^ a.length) B32, Nat.add_assoc]
theorem valD_snoc (a : List Nat) (x : Nat) : valD (a ++ [x]) = valD a + B32 ^ a.length * x := by
  rw [valD_append]; simp [valD]
theorem valD_lt : ∀ {l : List Nat}, DigD l → valD l < B32 ^ l.length
  | [], _ => by simp [valD]
  | x :: l, h => by
    have h1 := h x (by simp)
    have h2 := valD_lt (l := l) (fun y hy => h y (by simp [hy]))
    simp only [valD, List.length_cons, Nat.pow_succ]
    have h3 : B32 * (valD l + 1) ≤ B32 * B32 ^ l.length := Nat.mul_le_mul_left _ h2
    rw [Nat.mul_comm (B32 ^ l.length) B32]
    rw [Nat.mul_add] at h3
    omega
theorem valD_take {l : List Nat} {i x : Nat} (h : l[i]? = some x) : valD (l.take (i + 1)) = valD (l.take i) + B32 ^ i * x := by
  have hi := (List.getElem?_eq_some_iff.1 h).1
  rw [List.take_add_one, h]
  simp only [Option.toList_some]
  rw [valD_snoc, List.length_take, Nat.min_eq_left (by omega)]
theorem DigD.take {l : List Nat} (h : DigD l) (i : Nat) : DigD (l.take i) := fun x hx => h x (List.mem_of_mem_take hx)
theorem DigD.snoc {l : List Nat} (h : DigD l) {x : Nat} (hx : x < B32) : DigD (l ++ [x]) := fun y hy => by
  rcases List.mem_append.1 hy with hy | hy
  · exact h y hy
  · rw [List.mem_singleton.1 hy]; exact hx
theorem valD_zeros : ∀ {l : List Nat}, (∀ x ∈ l, x = 0) → valD l = 0
  | [], _ => rfl
  | x :: l, h => by
    rw [valD, h x (by simp), valD_zeros (fun y hy => h y (by simp [hy]))]; rfl
/-- How many parts stand in front of the zeros at the end. -/
def trimN (l : List Nat) : Nat → Nat
  | 0 => 0
  | k + 1 => if l[k]? = some 0 then trimN l k else k + 1
def trimD (l : List Nat) : List Nat := l.take (trimN l l.length)
theorem trimN_last (l : List Nat) : ∀ k, k ≤ l.length → (l.take (trimN l k)).getLast? ≠ some 0 ∧ valD (l.take (trimN l k)) = valD (l.take k)
  | 0, _ => by simp [trimN]
  | k + 1, hk => by
    rw [trimN]
    obtain ⟨x, hx⟩ : ∃ x, l[k]? = some x := ⟨l[k], List.getElem?_eq_getElem (by omega)⟩
    split
    · rename_i h
      obtain ⟨h1, h2⟩ := trimN_last l k (by omega)
      refine ⟨h1, ?_⟩
      rw [h2, valD_take h]; simp
    · rename_i h
      refine ⟨?_, rfl⟩
      rw [List.take_add_one, hx]
      simp only [Option.toList_some, List.getLast?_append, List.getLast?_singleton]
      intro e
      rw [hx] at h
      simp at e
      exact h (by rw [e])
theorem trimD_val (l : List Nat) : valD (trimD l) = valD l := by
  have := (trimN_last l l.length (Nat.le_refl _)).2
  rw [List.take_length] at this; exact this
theorem trimD_can {l : List Nat} (h : DigD l) : CanD (trimD l) := ⟨h.take _, (trimN_last l l.length (Nat.le_refl _)).1⟩
theorem can_low {l : List Nat} (h : CanD l) (hl : 0 < l.length) : B32 ^ (l.length - 1) ≤ valD l := by
  obtain ⟨x, hx⟩ : ∃ x, l[l.length - 1]? = some x := ⟨l[l.length - 1]'(by omega), List.getElem?_eq_getElem (by omega)⟩
  have h1 := valD_take hx
  rw [show l.length - 1 + 1 = l.length by omega, List.take_length] at h1
  have hx0 : x ≠ 0 := fun e => h.2 (by rw [List.getLast?_eq_getElem?, hx, e])
  rw [h1]
  have : B32 ^ (l.length - 1) * 1 ≤ B32 ^ (l.length - 1) * x := Nat.mul_le_mul_left _ (by omega)
  omega
theorem can_nil {l : List Nat} (h : CanD l) : valD l = 0 ↔ l = [] := by
  constructor
  · intro e
    apply Classical.byContradiction
    intro hn
    have := can_low h (List.length_pos_iff.2 hn)
    rw [e] at this
    have hp : 0 < B32 ^ (l.length - 1) := Nat.pow_pos (by decide)
    omega
  · rintro rfl; rfl
theorem len_lt {a b : List Nat} (ha : DigD a) (hb : CanD b) (h : a.length < b.length) : valD a < valD b := by
  have h1 := valD_lt ha
  have h2 := can_low hb (by omega)
  have h3 : B32 ^ a.length ≤ B32 ^ (b.length - 1) := Nat.pow_le_pow_right (by decide) (by omega)
  omega
/-- Lists of one length, alike from i + 1 on, told by their parts at i. -/
theorem at_lt {a b : List Nat} {i x y : Nat} (ha : DigD a) (hl : a.length = b.length) (hx : a[i]? = some x) (hy : b[i]? = some y) (hxy : x < y) (he : a.drop (i + 1) = b.drop (i + 1)) : valD a < valD b := by
  have e1 : valD a = valD (a.take (i + 1)) + B32 ^ (i + 1) * valD (a.drop (i + 1)) := by
    have hi := (List.getElem?_eq_some_iff.1 hx).1
    conv => lhs; rw [← List.take_append_drop (i + 1) a]
    rw [valD_append, List.length_take, Nat.min_eq_left (by omega)]
  have e2 : valD b = valD (b.take (i + 1)) + B32 ^ (i + 1) * valD (b.drop (i + 1)) := by
    have hi := (List.getElem?_eq_some_iff.1 hy).1
    conv => lhs; rw [← List.take_append_drop (i + 1) b]
    rw [valD_append, List.length_take, Nat.min_eq_left (by omega)]
  rw [e1, e2, he, valD_take hx, valD_take hy]
  have h1 := valD_lt (ha.take i)
  have h2 : (a.take i).length ≤ i := by rw [List.length_take]; omega
  have h3 : B32 ^ (a.take i).length ≤ B32 ^ i := Nat.pow_le_pow_right (by decide) h2
  have h4 : B32 ^ i * (x + 1) ≤ B32 ^ i * y := Nat.mul_le_mul_left _ hxy
  rw [Nat.mul_add] at h4
  omega
end Go.Jog
namespace Go.Jog

def gD (l : List Nat) (i : Nat) : Nat := l.getD i 0
theorem gD_lt {l : List Nat} (h : DigD l) (i : Nat) : gD l i < B32 := by
  unfold gD
  rw [List.getD_eq_getElem?_getD]
  cases hx : l[i]? with
  | none => decide
  | some x => exact h x (List.mem_of_getElem? hx)
theorem gD_some {l : List Nat} {i x : Nat} (h : l[i]? = some x) : gD l i = x := by unfold gD; rw [List.getD_eq_getElem?_getD, h]; rfl
theorem valD_tk (l : List Nat) (i : Nat) : valD (l.take (i + 1)) = valD (l.take i) + B32 ^ i * gD l i := by
  cases hx : l[i]? with
  | none =>
    have hi : l.length ≤ i := List.getElem?_eq_none_iff.1 hx
    have : gD l i = 0 := by unfold gD; rw [List.getD_eq_getElem?_getD, hx]; rfl
    rw [this, List.take_of_length_le (by omega), List.take_of_length_le hi]; simp
  | some x => rw [valD_take hx, gD_some hx]
theorem mul_dm (P s c B t : Nat) (h : s + B * c = t) : P * s + P * B * c = P * t := by
  rw [← h, Nat.mul_add, Nat.mul_assoc]
theorem add_step {a b out : List Nat} {c i : Nat} (hl : out.length = i) (h : valD out + B32 ^ i * c = valD (a.take i) + valD (b.take i)) :
    valD (out ++ [(gD a i + gD b i + c) % B32]) + B32 ^ (i + 1) * ((gD a i + gD b i + c) / B32) = valD (a.take (i + 1)) + valD (b.take (i + 1)) := by
  rw [valD_snoc, hl, valD_tk, valD_tk, Nat.pow_succ]
  have h1 := mul_dm (B32 ^ i) _ _ B32 _ (Nat.mod_add_div (gD a i + gD b i + c) B32)
  rw [Nat.mul_add, Nat.mul_add] at h1
  omega
/-- The borrow of a difference of parts. -/
def borD (x y c : Nat) : Nat := if x < y + c then 1 else 0
def difD (x y c : Nat) : Nat := x + B32 * borD x y c - y - c
theorem sub_step {a b out : List Nat} {c i : Nat} (hb : DigD b) (hc : c ≤ 1) (hl : out.length = i) (h : valD out + valD (b.take i) = valD (a.take i) + B32 ^ i * c) :
    valD (out ++ [difD (gD a i) (gD b i) c]) + valD (b.take (i + 1)) = valD (a.take (i + 1)) + B32 ^ (i + 1) * borD (gD a i) (gD b i) c := by
  have hy := gD_lt hb i
  have h0 : difD (gD a i) (gD b i) c + (gD b i + c) = gD a i + B32 * borD (gD a i) (gD b i) c := by
    unfold difD borD
    split <;> omega
  rw [valD_snoc, hl, valD_tk, valD_tk, Nat.pow_succ]
  have h1 : B32 ^ i * difD (gD a i) (gD b i) c + (B32 ^ i * gD b i + B32 ^ i * c) = B32 ^ i * gD a i + B32 ^ i * B32 * borD (gD a i) (gD b i) c := by
    rw [← Nat.mul_add, ← Nat.mul_add, h0, Nat.mul_add, Nat.mul_assoc]
  omega
theorem borD_le (x y c : Nat) : borD x y c ≤ 1 := by unfold borD; split <;> omega
theorem difD_lt {x y c : Nat} (hx : x < B32) (hy : y < B32) (hc : c ≤ 1) : difD x y c < B32 := by unfold difD borD; split <;> omega
theorem carry_le {x y c : Nat} (hx : x < B32) (hy : y < B32) (hc : c ≤ 1) : (x + y + c) / B32 ≤ 1 := by
  have : x + y + c < 2 * B32 := by omega
  exact Nat.le_of_lt_succ ((Nat.div_lt_iff_lt_mul (by decide)).2 this)
theorem valD_set : ∀ {l : List Nat} {i x z : Nat}, l[i]? = some x → valD (l.set i z) + B32 ^ i * x = valD l + B32 ^ i * z
  | [], _, _, _, h => by simp at h
  | y :: l, 0, x, z, h => by
    simp at h; subst h
    simp only [List.set_cons_zero, valD, Nat.pow_zero, Nat.one_mul]; omega
  | y :: l, i + 1, x, z, h => by
    have ih := valD_set (l := l) (i := i) (x := x) (z := z) (by simpa using h)
    simp only [List.set_cons_succ, valD, Nat.pow_succ]
    have h1 : B32 * valD (l.set i z) + B32 * (B32 ^ i * x) = B32 * valD l + B32 * (B32 ^ i * z) := by rw [← Nat.mul_add, ih, Nat.mul_add]
    rw [Nat.mul_comm (B32 ^ i) B32, Nat.mul_assoc, Nat.mul_assoc]
    omega
theorem DigD.set {l : List Nat} (h : DigD l) {i z : Nat} (hz : z < B32) : DigD (l.set i z) := fun x hx => by
  rcases List.mem_or_eq_of_mem_set hx with h1 | h1
  · exact h x h1
  · rw [h1]; exact hz
/-- One part of a product: V is the number before the row, T what of b is taken. -/
theorem mul_step {out b : List Nat} {V T c x i k : Nat} {o : Nat} (ho : out[i + k]? = some o) (hT : T = valD (b.take k)) (h : valD out + B32 ^ (i + k) * c = V + B32 ^ i * (x * T)) :
    valD (out.set (i + k) ((c + x * gD b k + o) % B32)) + B32 ^ (i + (k + 1)) * ((c + x * gD b k + o) / B32) = V + B32 ^ i * (x * valD (b.take (k + 1))) := by
  have h1 := valD_set (z := (c + x * gD b k + o) % B32) ho
  rw [valD_tk, ← hT, show i + (k + 1) = i + k + 1 by omega, Nat.pow_succ]
  have h2 := mul_dm (B32 ^ (i + k)) _ _ B32 _ (Nat.mod_add_div (c + x * gD b k + o) B32)
  rw [Nat.mul_add, Nat.mul_add] at h2
  have h3 : B32 ^ i * (x * (T + B32 ^ k * gD b k)) = B32 ^ i * (x * T) + B32 ^ (i + k) * (x * gD b k) := by
    rw [Nat.mul_add, Nat.mul_add, Nat.pow_add]
    congr 1
    rw [Nat.mul_left_comm x, Nat.mul_assoc]
  omega
theorem mul_bound {c x y o : Nat} (hc : c < B32) (hx : x < B32) (hy : y < B32) (ho : o < B32) : c + x * y + o < B32 * B32 := by
  have h1 : x * y ≤ (B32 - 1) * (B32 - 1) := Nat.mul_le_mul (by omega) (by omega)
  have h2 : (B32 - 1) * (B32 - 1) = 18446744065119617025 := by decide
  have h3 : B32 * B32 = 18446744073709551616 := by decide
  have hB : B32 = 4294967296 := rfl
  omega
theorem carry_lt {c x y o : Nat} (hc : c < B32) (hx : x < B32) (hy : y < B32) (ho : o < B32) : (c + x * y + o) / B32 < B32 := (Nat.div_lt_iff_lt_mul (by decide)).2 (mul_bound hc hx hy ho)
/-- Halves. -/
theorem half_step {a out : List Nat} {i : Nat} (hl : out.length = i) (h : 2 * valD out + gD a 0 % 2 = valD (a.take i) + B32 ^ i * (gD a i % 2)) :
    2 * valD (out ++ [gD a i / 2 + gD a (i + 1) % 2 * 2147483648]) + gD a 0 % 2 = valD (a.take (i + 1)) + B32 ^ (i + 1) * (gD a (i + 1) % 2) := by
  rw [valD_snoc, hl, valD_tk, Nat.pow_succ]
  have h0 : 2 * (gD a i / 2 + gD a (i + 1) % 2 * 2147483648) + gD a i % 2 = gD a i + B32 * (gD a (i + 1) % 2) := by
    show _ = gD a i + 4294967296 * (gD a (i + 1) % 2)
    omega
  have h1 : B32 ^ i * (2 * (gD a i / 2 + gD a (i + 1) % 2 * 2147483648)) + B32 ^ i * (gD a i % 2) = B32 ^ i * gD a i + B32 ^ i * B32 * (gD a (i + 1) % 2) := by
    rw [← Nat.mul_add, h0, Nat.mul_add, Nat.mul_assoc]
  have h2 : 2 * (B32 ^ i * (gD a i / 2 + gD a (i + 1) % 2 * 2147483648)) = B32 ^ i * (2 * (gD a i / 2 + gD a (i + 1) % 2 * 2147483648)) := Nat.mul_left_comm _ _ _
  omega
end Go.Jog
namespace Go.Jog

theorem gcd_half {a b g : Nat} (h : Nat.gcd a b = g) (hg : g % 2 = 1) (ha : a % 2 = 0) : Nat.gcd (a / 2) b = g := by
  have ha2 : a = 2 * (a / 2) := by omega
  refine Nat.dvd_antisymm ?_ ?_
  · rw [← h]
    refine Nat.dvd_gcd ?_ (Nat.gcd_dvd_right _ _)
    have h1 : Nat.gcd (a / 2) b ∣ 2 * (a / 2) := Nat.dvd_trans (Nat.gcd_dvd_left (a / 2) b) (Nat.dvd_mul_left _ _)
    rw [← ha2] at h1; exact h1
  · have h1 : g ∣ 2 * (a / 2) := by rw [← ha2, ← h]; exact Nat.gcd_dvd_left a b
    have hc : Nat.Coprime g 2 := by
      have h2 := Nat.gcd_dvd_right g 2
      have h3 := Nat.le_of_dvd (by decide) h2
      have h4 : Nat.gcd g 2 ≠ 2 := fun e => by
        have := Nat.gcd_dvd_left g 2
        rw [e] at this
        omega
      have h5 : 0 < Nat.gcd g 2 := Nat.gcd_pos_of_pos_right _ (by decide)
      show Nat.gcd g 2 = 1
      omega
    exact Nat.dvd_gcd (hc.dvd_of_dvd_mul_left h1) (by rw [← h]; exact Nat.gcd_dvd_right a b)
theorem gcd_sub {a b g : Nat} (h : Nat.gcd a b = g) (hl : b ≤ a) : Nat.gcd (a - b) b = g := by
  rw [← h]
  conv => rhs; rw [show a = (a - b) + b by omega]
  rw [Nat.gcd_add_self_left]
/-- Both even: the common divisor is twice that of the halves. -/
theorem gcd_even {a b : Nat} (ha : a % 2 = 0) (hb : b % 2 = 0) : Nat.gcd a b = 2 * Nat.gcd (a / 2) (b / 2) := by
  rw [← Nat.gcd_mul_left]
  congr 1 <;> omega
theorem gcd_odd {a b : Nat} (h : a % 2 = 1 ∨ b % 2 = 1) : Nat.gcd a b % 2 = 1 := by
  apply Classical.byContradiction
  intro hn
  have h2 : 2 ∣ Nat.gcd a b := Nat.dvd_of_mod_eq_zero (by omega)
  have ha := Nat.dvd_trans h2 (Nat.gcd_dvd_left a b)
  have hb := Nat.dvd_trans h2 (Nat.gcd_dvd_right a b)
  omega
/-- One bit of a division: t is what of the dividend was taken, q and r its quotient and rest. -/
theorem div_bit {t b β : Nat} (hb : 0 < b) (hβ : β ≤ 1) : (2 * t + β) / b = 2 * (t / b) + (if b ≤ 2 * (t % b) + β then 1 else 0) ∧ (2 * t + β) % b = (if b ≤ 2 * (t % b) + β then 2 * (t % b) + β - b else 2 * (t % b) + β) := by
  have h1 := Nat.div_add_mod t b
  have h2 := Nat.mod_lt t hb
  obtain ⟨q, hq⟩ : ∃ q, t / b = q := ⟨_, rfl⟩
  obtain ⟨r, hr⟩ : ∃ r, t % b = r := ⟨_, rfl⟩
  rw [hq, hr] at h1 ⊢
  rw [hr] at h2
  have e : 2 * t + β = b * (2 * q) + (2 * r + β) := by rw [← h1, Nat.mul_add, Nat.mul_left_comm]; omega
  rw [e, Nat.mul_add_div hb, Nat.mul_add_mod]
  split
  · rename_i h
    have h3 : (2 * r + β) / b = 1 := by
      rw [Nat.div_eq_sub_div hb h, Nat.div_eq_of_lt (by omega)]
    have h4 : (2 * r + β) % b = 2 * r + β - b := by
      rw [Nat.mod_eq_sub_mod h, Nat.mod_eq_of_lt (by omega)]
    rw [h3, h4]; exact ⟨rfl, rfl⟩
  · rename_i h
    rw [Nat.div_eq_of_lt (by omega), Nat.mod_eq_of_lt (by omega)]; exact ⟨rfl, rfl⟩
/-- The bits of a number, from its parts. -/
theorem bit_part {l : List Nat} {i : Nat} (hd : DigD l) : valD l / B32 ^ i % B32 = gD l i := by
  have e : valD l = valD (l.take i) + B32 ^ i * valD (l.drop i) := by
    conv => lhs; rw [← List.take_append_drop i l]
    rw [valD_append]
    rcases Nat.lt_or_ge l.length i with h | h
    · rw [List.drop_eq_nil_of_le (by omega)]; simp [valD]
    · rw [List.length_take, Nat.min_eq_left h]
  have h1 : valD (l.take i) < B32 ^ i := by
    have h2 := valD_lt (hd.take i)
    have h3 : B32 ^ (l.take i).length ≤ B32 ^ i := Nat.pow_le_pow_right (by decide) (by rw [List.length_take]; omega)
    omega
  have hp : 0 < B32 ^ i := Nat.pow_pos (by decide)
  rw [e, Nat.add_mul_div_left _ _ hp, Nat.div_eq_of_lt h1, Nat.zero_add]
  unfold gD
  rw [List.getD_eq_getElem?_getD]
  cases hx : l[i]? with
  | none => rw [List.drop_eq_nil_of_le (List.getElem?_eq_none_iff.1 hx)]; rfl
  | some x =>
    have hi := (List.getElem?_eq_some_iff.1 hx)
    rw [List.drop_eq_getElem_cons hi.1, hi.2]
    show (x + B32 * valD (l.drop (i + 1))) % B32 = x
    rw [Nat.add_mul_mod_self_left, Nat.mod_eq_of_lt (hd x (List.mem_of_getElem? hx))]
end Go.Jog
namespace Go.Jog

abbrev BP : Nat := 10000
def valP : List Nat → Nat
  | [] => 0
  | x :: l => x + BP * valP l
def DigP (l : List Nat) : Prop := ∀ x ∈ l, x < BP
def CanP (l : List Nat) : Prop := DigP l ∧ l.getLast? ≠ some 0
theorem valP_append : ∀ (a b : List Nat), valP (a ++ b) = valP a + BP ^ a.length * valP b
  | [], b => by simp [valP]
  | x :: a, b => by
    simp only [List.cons_append, valP, valP_append a b, List.length_cons, Nat.pow_succ]
    rw [Nat.mul_add, ← Nat.mul_assoc, Nat.mul_comm (BP ^ a.length) BP, Nat.add_assoc]
theorem valP_snoc (a : List Nat) (x : Nat) : valP (a ++ [x]) = valP a + BP ^ a.length * x := by
  rw [valP_append]; simp [valP]
theorem valP_lt : ∀ {l : List Nat}, DigP l → valP l < BP ^ l.length
  | [], _ => by simp [valP]
  | x :: l, h => by
    have h1 := h x (by simp)
    have h2 := valP_lt (l := l) (fun y hy => h y (by simp [hy]))
    simp only [valP, List.length_cons, Nat.pow_succ]
    have h3 : BP * (valP l + 1) ≤ BP * BP ^ l.length := Nat.mul_le_mul_left _ h2
    rw [Nat.mul_comm (BP ^ l.length) BP]
    rw [Nat.mul_add] at h3
    omega
theorem valP_take {l : List Nat} {i x : Nat} (h : l[i]? = some x) : valP (l.take (i + 1)) = valP (l.take i) + BP ^ i * x := by
  have hi := (List.getElem?_eq_some_iff.1 h).1
  rw [List.take_add_one, h]
  simp only [Option.toList_some]
  rw [valP_snoc, List.length_take, Nat.min_eq_left (by omega)]
theorem DigP.take {l : List Nat} (h : DigP l) (i : Nat) : DigP (l.take i) := fun x hx => h x (List.mem_of_mem_take hx)
theorem DigP.snoc {l : List Nat} (h : DigP l) {x : Nat} (hx : x < BP) : DigP (l ++ [x]) := fun y hy => by
  rcases List.mem_append.1 hy with hy | hy
  · exact h y hy
  · rw [List.mem_singleton.1 hy]; exact hx
/-- How many parts stand in front of the zeros at the end. -/
def cutN (l : List Nat) : Nat → Nat
  | 0 => 0
  | k + 1 => if l[k]? = some 0 then cutN l k else k + 1
def cutP (l : List Nat) : List Nat := l.take (cutN l l.length)
theorem cutN_last (l : List Nat) : ∀ k, k ≤ l.length → (l.take (cutN l k)).getLast? ≠ some 0 ∧ valP (l.take (cutN l k)) = valP (l.take k)
  | 0, _ => by simp [cutN]
  | k + 1, hk => by
    rw [cutN]
    obtain ⟨x, hx⟩ : ∃ x, l[k]? = some x := ⟨l[k], List.getElem?_eq_getElem (by omega)⟩
    split
    · rename_i h
      obtain ⟨h1, h2⟩ := cutN_last l k (by omega)
      refine ⟨h1, ?_⟩
      rw [h2, valP_take h]; simp
    · rename_i h
      refine ⟨?_, rfl⟩
      rw [List.take_add_one, hx]
      simp only [Option.toList_some, List.getLast?_append, List.getLast?_singleton]
      intro e
      rw [hx] at h
      simp at e
      exact h (by rw [e])
theorem cutP_val (l : List Nat) : valP (cutP l) = valP l := by
  have := (cutN_last l l.length (Nat.le_refl _)).2
  rw [List.take_length] at this; exact this
theorem cutP_can {l : List Nat} (h : DigP l) : CanP (cutP l) := ⟨h.take _, (cutN_last l l.length (Nat.le_refl _)).1⟩
theorem canP_low {l : List Nat} (h : CanP l) (hl : 0 < l.length) : BP ^ (l.length - 1) ≤ valP l := by
  obtain ⟨x, hx⟩ : ∃ x, l[l.length - 1]? = some x := ⟨l[l.length - 1]'(by omega), List.getElem?_eq_getElem (by omega)⟩
  have h1 := valP_take hx
  rw [show l.length - 1 + 1 = l.length by omega, List.take_length] at h1
  have hx0 : x ≠ 0 := fun e => h.2 (by rw [List.getLast?_eq_getElem?, hx, e])
  rw [h1]
  have : BP ^ (l.length - 1) * 1 ≤ BP ^ (l.length - 1) * x := Nat.mul_le_mul_left _ (by omega)
  omega
theorem canP_nil {l : List Nat} (h : CanP l) : valP l = 0 ↔ l = [] := by
  constructor
  · intro e
    apply Classical.byContradiction
    intro hn
    have := canP_low h (List.length_pos_iff.2 hn)
    rw [e] at this
    have hp : 0 < BP ^ (l.length - 1) := Nat.pow_pos (by decide)
    omega
  · rintro rfl; rfl
theorem lenP_lt {a b : List Nat} (ha : DigP a) (hb : CanP b) (h : a.length < b.length) : valP a < valP b := by
  have h1 := valP_lt ha
  have h2 := canP_low hb (by omega)
  have h3 : BP ^ a.length ≤ BP ^ (b.length - 1) := Nat.pow_le_pow_right (by decide) (by omega)
  omega
/-- Lists of one length, alike from i + 1 on, told by their parts at i. -/
theorem atP_lt {a b : List Nat} {i x y : Nat} (ha : DigP a) (hl : a.length = b.length) (hx : a[i]? = some x) (hy : b[i]? = some y) (hxy : x < y) (he : a.drop (i + 1) = b.drop (i + 1)) : valP a < valP b := by
  have e1 : valP a = valP (a.take (i + 1)) + BP ^ (i + 1) * valP (a.drop (i + 1)) := by
    have hi := (List.getElem?_eq_some_iff.1 hx).1
    conv => lhs; rw [← List.take_append_drop (i + 1) a]
    rw [valP_append, List.length_take, Nat.min_eq_left (by omega)]
  have e2 : valP b = valP (b.take (i + 1)) + BP ^ (i + 1) * valP (b.drop (i + 1)) := by
    have hi := (List.getElem?_eq_some_iff.1 hy).1
    conv => lhs; rw [← List.take_append_drop (i + 1) b]
    rw [valP_append, List.length_take, Nat.min_eq_left (by omega)]
  rw [e1, e2, he, valP_take hx, valP_take hy]
  have h1 := valP_lt (ha.take i)
  have h2 : (a.take i).length ≤ i := by rw [List.length_take]; omega
  have h3 : BP ^ (a.take i).length ≤ BP ^ i := Nat.pow_le_pow_right (by decide) h2
  have h4 : BP ^ i * (x + 1) ≤ BP ^ i * y := Nat.mul_le_mul_left _ hxy
  rw [Nat.mul_add] at h4
  omega
/-! ### Decimal texts -/
def digB (c : UInt8) : Bool := decide (48 ≤ c.toNat ∧ c.toNat ≤ 57)
def decF (a : Nat) (c : UInt8) : Nat := 10 * a + (c.toNat - 48)
def decV (s : List UInt8) : Nat := s.foldl decF 0
def CanS (s : List UInt8) : Prop := (∀ c ∈ s, digB c = true) ∧ s ≠ [] ∧ (s.head? = some 48 → s.length = 1)
theorem decF_split : ∀ (s : List UInt8) (a : Nat), s.foldl decF a = a * 10 ^ s.length + decV s
  | [], a => by simp [decV]
  | c :: s, a => by
    have h1 := decF_split s (decF a c)
    have h2 := decF_split s (decF 0 c)
    simp only [decV, List.foldl_cons] at h1 h2 ⊢
    rw [h1, h2]
    simp only [decF, List.length_cons, Nat.pow_succ, Nat.add_mul]
    simp only [Nat.mul_zero, Nat.zero_mul, Nat.zero_add]
    rw [Nat.mul_comm 10 a, Nat.mul_assoc, Nat.mul_comm 10, Nat.add_assoc]
theorem decV_cons (c : UInt8) (s : List UInt8) : decV (c :: s) = (c.toNat - 48) * 10 ^ s.length + decV s := by
  show s.foldl decF (decF 0 c) = _
  rw [decF_split]; simp [decF]
theorem decV_append (a b : List UInt8) : decV (a ++ b) = decV a * 10 ^ b.length + decV b := by
  show (a ++ b).foldl decF 0 = _
  rw [List.foldl_append, decF_split]; rfl
theorem decV_lt : ∀ {s : List UInt8}, (∀ c ∈ s, digB c = true) → decV s < 10 ^ s.length
  | [], _ => by simp [decV]
  | c :: s, h => by
    have h1 := decV_lt (s := s) (fun d hd => h d (by simp [hd]))
    have h2 := h c (by simp)
    simp only [digB, decide_eq_true_eq] at h2
    rw [decV_cons, List.length_cons, Nat.pow_succ]
    have h3 : (c.toNat - 48) * 10 ^ s.length ≤ 9 * 10 ^ s.length := Nat.mul_le_mul_right _ (by omega)
    omega
theorem canS_low {s : List UInt8} (h : CanS s) (hl : 1 < s.length) : 10 ^ (s.length - 1) ≤ decV s := by
  obtain ⟨h1, h2, h3⟩ := h
  match s, h2 with
  | c :: s, _ =>
    have h4 := h1 c (by simp)
    simp only [digB, decide_eq_true_eq] at h4
    have h5 : c ≠ 48 := fun e => by
      have := h3 (by simp [e])
      omega
    have h6 : c.toNat ≠ 48 := fun e => h5 (UInt8.toNat_inj.1 (by rw [e]; rfl))
    rw [decV_cons]
    simp only [List.length_cons, Nat.add_sub_cancel]
    have : 1 * 10 ^ s.length ≤ (c.toNat - 48) * 10 ^ s.length := Nat.mul_le_mul_right _ (by omega)
    omega
theorem dec_inj : ∀ {a b : List UInt8}, (∀ c ∈ a, digB c = true) → (∀ c ∈ b, digB c = true) → a.length = b.length → decV a = decV b → a = b
  | [], [], _, _, _, _ => rfl
  | [], _ :: _, _, _, h, _ => by simp at h
  | _ :: _, [], _, _, h, _ => by simp at h
  | c :: a, d :: b, ha, hb, hl, hv => by
    have hl2 : a.length = b.length := by simpa using hl
    have h1 := decV_lt (s := a) (fun x hx => ha x (by simp [hx]))
    have h2 := decV_lt (s := b) (fun x hx => hb x (by simp [hx]))
    have hc := ha c (by simp)
    have hd := hb d (by simp)
    simp only [digB, decide_eq_true_eq] at hc hd
    rw [decV_cons, decV_cons, hl2] at hv
    rw [hl2] at h1
    have hq : c.toNat - 48 = d.toNat - 48 := by
      have e1 : (decV a + 10 ^ b.length * (c.toNat - 48)) / 10 ^ b.length = c.toNat - 48 := by
        rw [Nat.add_mul_div_left _ _ (Nat.pow_pos (by decide)), Nat.div_eq_of_lt h1, Nat.zero_add]
      have e2 : (decV b + 10 ^ b.length * (d.toNat - 48)) / 10 ^ b.length = d.toNat - 48 := by
        rw [Nat.add_mul_div_left _ _ (Nat.pow_pos (by decide)), Nat.div_eq_of_lt h2, Nat.zero_add]
      rw [← e1, ← e2, Nat.mul_comm, Nat.add_comm, hv, Nat.mul_comm (10 ^ b.length), Nat.add_comm (decV b)]
    rw [hq] at hv
    have hcd : c = d := UInt8.toNat_inj.1 (by omega)
    rw [hcd, dec_inj (fun x hx => ha x (by simp [hx])) (fun x hx => hb x (by simp [hx])) hl2 (by omega)]
theorem canS_unique {a b : List UInt8} (ha : CanS a) (hb : CanS b) (h : decV a = decV b) : a = b := by
  refine dec_inj ha.1 hb.1 ?_ h
  have hpa := List.length_pos_iff.2 ha.2.1
  have hpb := List.length_pos_iff.2 hb.2.1
  rcases Nat.lt_trichotomy a.length b.length with h1 | h1 | h1
  · have h2 := canS_low hb (by omega)
    have h3 := decV_lt ha.1
    have h4 : 10 ^ a.length ≤ 10 ^ (b.length - 1) := Nat.pow_le_pow_right (by decide) (by omega)
    omega
  · exact h1
  · have h2 := canS_low ha (by omega)
    have h3 := decV_lt hb.1
    have h4 : 10 ^ b.length ≤ 10 ^ (a.length - 1) := Nat.pow_le_pow_right (by decide) (by omega)
    omega
end Go.Jog
namespace Go.Jog

theorem head_app {a b : List UInt8} (h : a ≠ []) : (a ++ b).head? = a.head? := by
  cases a with
  | nil => exact absurd rfl h
  | cons => rfl
def gP (l : List Nat) (i : Nat) : Nat := l.getD i 0
theorem gP_lt {l : List Nat} (h : DigP l) (i : Nat) : gP l i < BP := by
  unfold gP
  rw [List.getD_eq_getElem?_getD]
  cases hx : l[i]? with
  | none => decide
  | some x => exact h x (List.mem_of_getElem? hx)
theorem pow_BP (j : Nat) : 10 ^ (4 * j) = BP ^ j := by rw [Nat.pow_mul]
/-- The text from lo to hi. -/
def cutS (s : List UInt8) (lo hi : Nat) : List UInt8 := (s.take hi).drop lo
theorem take_step {s : List UInt8} {out : List Nat} {e lo j : Nat} (he : e + 4 * j = s.length) (hl : out.length = j) (hlo : lo ≤ e) (h : valP out = decV (s.drop e)) :
    valP (out ++ [decV (cutS s lo e)]) = decV (s.drop lo) := by
  rw [valP_snoc, hl, h]
  have e1 : s.drop lo = cutS s lo e ++ s.drop e := by
    unfold cutS
    have : s.drop lo = (s.take e ++ s.drop e).drop lo := by rw [List.take_append_drop]
    rw [this, List.drop_append_of_le_length (by rw [List.length_take]; omega)]
  rw [e1, decV_append, List.length_drop, show s.length - e = 4 * j by omega, pow_BP, Nat.mul_comm, Nat.add_comm]
theorem cutS_lt {s : List UInt8} {lo e : Nat} (hs : ∀ c ∈ s, digB c = true) (h : e ≤ lo + 4) : decV (cutS s lo e) < BP := by
  have h1 : ∀ c ∈ cutS s lo e, digB c = true := fun c hc => hs c (List.mem_of_mem_take (List.mem_of_mem_drop hc))
  have h2 := decV_lt h1
  have h3 : (cutS s lo e).length ≤ 4 := by
    unfold cutS
    rw [List.length_drop, List.length_take]; omega
  have h4 : 10 ^ (cutS s lo e).length ≤ 10 ^ 4 := Nat.pow_le_pow_right (by decide) h3
  have h5 : (10 : Nat) ^ 4 = BP := rfl
  omega
/-- A text of a number's digits, of a given length. -/
def padS : Nat → Nat → List UInt8
  | 0, _ => []
  | k + 1, n => padS k (n / 10) ++ [UInt8.ofNat (48 + n % 10)]
theorem dig_byte {d : Nat} (h : d < 10) : (UInt8.ofNat (48 + d)).toNat = 48 + d := by rw [UInt8.toNat_ofNat']; omega
theorem padS_ok : ∀ (k n : Nat), n < 10 ^ k → (padS k n).length = k ∧ (∀ c ∈ padS k n, digB c = true) ∧ decV (padS k n) = n
  | 0, n, h => by
    have : n = 0 := by simpa using h
    subst this
    exact ⟨rfl, by simp [padS], rfl⟩
  | k + 1, n, h => by
    obtain ⟨h1, h2, h3⟩ := padS_ok k (n / 10) (by rw [Nat.pow_succ] at h; exact (Nat.div_lt_iff_lt_mul (by decide)).2 h)
    have hd := dig_byte (Nat.mod_lt n (show 0 < 10 by decide))
    refine ⟨by simp [padS, h1], fun c hc => ?_, ?_⟩
    · simp only [padS, List.mem_append, List.mem_singleton] at hc
      rcases hc with hc | rfl
      · exact h2 c hc
      · have := Nat.mod_lt n (show 0 < 10 by decide)
        simp only [digB, hd, decide_eq_true_eq]; omega
    · simp only [padS]
      rw [decV_append, h3, decV_cons, hd]
      simp [decV]
      omega
/-- The decimal text of a number. -/
def decS (n : Nat) : List UInt8 := if n < 10 then [UInt8.ofNat (48 + n)] else decS (n / 10) ++ [UInt8.ofNat (48 + n % 10)]
  termination_by n
  decreasing_by omega
theorem decS_ok (n : Nat) : CanS (decS n) ∧ decV (decS n) = n := by
  induction n using Nat.strongRecOn with
  | ind n ih =>
    rw [decS]
    split
    · rename_i h
      have hd := dig_byte h
      refine ⟨⟨fun c hc => ?_, by simp, fun _ => rfl⟩, ?_⟩
      · rw [List.mem_singleton.1 hc]; simp only [digB, hd, decide_eq_true_eq]; omega
      · rw [decV_cons, hd]; simp [decV]
    · rename_i h
      obtain ⟨⟨h1, h2, h3⟩, h4⟩ := ih (n / 10) (by omega)
      have hd := dig_byte (Nat.mod_lt n (show 0 < 10 by decide))
      refine ⟨⟨fun c hc => ?_, by simp, fun he => ?_⟩, ?_⟩
      · rcases List.mem_append.1 hc with hc | hc
        · exact h1 c hc
        · rw [List.mem_singleton.1 hc]
          have := Nat.mod_lt n (show 0 < 10 by decide)
          simp only [digB, hd, decide_eq_true_eq]; omega
      · exfalso
        rw [head_app h2] at he
        have h5 := h3 he
        match hs : decS (n / 10), h2 with
        | [c], _ =>
          rw [hs] at he h4
          simp at he
          subst he
          have : n / 10 = 0 := by rw [← h4]; rfl
          omega
        | c :: d :: s, _ => rw [hs] at h5; simp at h5
      · rw [decV_append, h4, decV_cons, hd]
        simp [decV]
        omega
theorem canS_dec {s : List UInt8} (h : CanS s) : s = decS (decV s) := canS_unique h (decS_ok _).1 (decS_ok _).2.symm
/-- The text of pieces: the last piece as it is, each other one with four digits. -/
theorem give_step {p : List Nat} {s : List UInt8} {i x : Nat} (hd : DigP p) (hx : p[i]? = some x) (h : CanS s) (hv : decV s = valP (p.drop (i + 1))) (h0 : 0 < decV s) :
    CanS (s ++ padS 4 x) ∧ decV (s ++ padS 4 x) = valP (p.drop i) ∧ 0 < decV (s ++ padS 4 x) := by
  have hxl := hd x (List.mem_of_getElem? hx)
  obtain ⟨h1, h2, h3⟩ := padS_ok 4 x hxl
  have hi := List.getElem?_eq_some_iff.1 hx
  have e : valP (p.drop i) = x + BP * valP (p.drop (i + 1)) := by rw [List.drop_eq_getElem_cons hi.1, hi.2]; rfl
  have hv2 : decV (s ++ padS 4 x) = valP (p.drop i) := by
    rw [decV_append, h1, h3, hv, e, Nat.add_comm, Nat.mul_comm]
  refine ⟨⟨fun c hc => ?_, ?_, fun he => ?_⟩, hv2, ?_⟩
  · rcases List.mem_append.1 hc with hc | hc
    · exact h.1 c hc
    · exact h2 c hc
  · intro e; exact h.2.1 (List.append_eq_nil_iff.1 e).1
  · exfalso
    rw [head_app h.2.1] at he
    have h5 := h.2.2 he
    match hs : s, h.2.1 with
    | [c], _ =>
      simp at he
      subst he
      have : decV ([48] : List UInt8) = 0 := rfl
      omega
    | c :: d :: s, _ => simp at h5
  · rw [decV_append]
    have : 0 < decV s * 10 ^ (padS 4 x).length := Nat.mul_pos h0 (Nat.pow_pos (by decide))
    omega
end Go.Jog
namespace Go.Jog

def valI : List Int → Int
  | [] => 0
  | x :: l => x + 10000 * valI l
theorem valI_nat : ∀ l : List Nat, valI (l.map fun (x : Nat) => (x : Int)) = (valP l : Nat)
  | [] => rfl
  | x :: l => by
    simp only [List.map_cons, valI, valP, valI_nat l]
    show (x : Int) + 10000 * (valP l : Nat) = ((x + 10000 * valP l : Nat) : Int)
    omega
theorem valI_append : ∀ (a b : List Int), valI (a ++ b) = valI a + (10000 : Int) ^ a.length * valI b
  | [], b => by simp [valI]
  | x :: a, b => by
    simp only [List.cons_append, valI, valI_append a b, List.length_cons, Int.pow_succ]
    rw [Int.mul_add, ← Int.mul_assoc, Int.mul_comm ((10000 : Int) ^ a.length) 10000, Int.add_assoc]
theorem valI_snoc (a : List Int) (x : Int) : valI (a ++ [x]) = valI a + (10000 : Int) ^ a.length * x := by
  rw [valI_append]; simp [valI]
theorem valI_take {l : List Int} {i : Nat} {x : Int} (h : l[i]? = some x) : valI (l.take (i + 1)) = valI (l.take i) + (10000 : Int) ^ i * x := by
  have hi := (List.getElem?_eq_some_iff.1 h).1
  rw [List.take_add_one, h]
  simp only [Option.toList_some]
  rw [valI_snoc, List.length_take, Nat.min_eq_left (by omega)]
/-- One piece carried: over is what is carried, with the piece; n what stays. -/
theorem carry_piece (o : Int) : 0 ≤ o % 10000 ∧ o % 10000 < 10000 ∧ o = o % 10000 + 10000 * ((o - o % 10000) / 10000) := by
  refine ⟨Int.emod_nonneg _ (by decide), Int.emod_lt_of_pos _ (by decide), ?_⟩
  omega
/-- Go's rest, made not negative, is this one. -/
theorem rest_pos (o : Int) : (if Int.tmod o 10000 < 0 then Int.tmod o 10000 + 10000 else Int.tmod o 10000) = o % 10000 := by
  have h1 := Int.emod_nonneg o (show (10000 : Int) ≠ 0 by decide)
  have h2 := Int.emod_lt_of_pos o (show (0 : Int) < 10000 by decide)
  rcases Int.le_total 0 o with h | h
  · rw [Int.tmod_eq_emod_of_nonneg h, if_neg (by omega)]
  · rw [Int.tmod_eq_emod]
    split <;> rename_i hh <;> omega
end Go.Jog
namespace Go.Jog

theorem div_piece {t Q x : Nat} (hQ : 0 < Q) : (x + BP * t) / Q = BP * (t / Q) + (x + BP * (t % Q)) / Q ∧ (x + BP * t) % Q = (x + BP * (t % Q)) % Q := by
  have h1 := Nat.div_add_mod t Q
  have e : x + BP * t = Q * (BP * (t / Q)) + (x + BP * (t % Q)) := by
    conv => lhs; rw [← h1, Nat.mul_add]
    rw [Nat.mul_left_comm]; omega
  rw [e, Nat.mul_add_div hQ, Nat.mul_add_mod]
  exact ⟨rfl, rfl⟩
theorem div_piece_lt {t Q x : Nat} (hQ : 0 < Q) (hx : x < BP) : (x + BP * (t % Q)) / Q < BP := by
  rw [Nat.div_lt_iff_lt_mul hQ]
  have h1 := Nat.mod_lt t hQ
  have h2 : BP * (t % Q + 1) ≤ BP * Q := Nat.mul_le_mul_left _ h1
  rw [Nat.mul_add] at h2
  omega
/-- One halving: the quotient stays between low and high. -/
theorem halving {r Q low high : Nat} (hQ : 0 < Q) (h1 : low ≤ r / Q) (h2 : r / Q ≤ high) (h : low < high) :
    (r < Q * ((low + high + 1) / 2) → low ≤ r / Q ∧ r / Q ≤ (low + high + 1) / 2 - 1) ∧ (¬ r < Q * ((low + high + 1) / 2) → (low + high + 1) / 2 ≤ r / Q ∧ r / Q ≤ high) := by
  constructor
  · intro hr
    have := (Nat.div_lt_iff_lt_mul hQ).2 (by rw [Nat.mul_comm]; exact hr)
    omega
  · intro hr
    have := (Nat.le_div_iff_mul_le hQ).2 (by rw [Nat.mul_comm]; exact Nat.le_of_not_lt hr)
    omega
theorem euclid (a b : Nat) (_hb : 0 < b) : Nat.gcd a b = Nat.gcd b (a % b) := by
  rw [Nat.gcd_comm a b, Nat.gcd_rec b a, Nat.gcd_comm]
end Go.Jog
namespace Go.Jog

theorem pow_B32 (p : Nat) : B32 ^ (p / 32) * 2 ^ (p % 32) = 2 ^ p := by
  have e : B32 ^ (p / 32) = 2 ^ (32 * (p / 32)) := by rw [Nat.pow_mul]
  rw [e, ← Nat.pow_add, Nat.div_add_mod]
theorem bitD {l : List Nat} {p : Nat} (hd : DigD l) : gD l (p / 32) / 2 ^ (p % 32) % 2 = valD l / 2 ^ p % 2 := by
  have hr := Nat.mod_lt p (show 0 < 32 by decide)
  obtain ⟨r, hr0⟩ : ∃ r, p % 32 = r := ⟨_, rfl⟩
  rw [← bit_part hd, ← pow_B32 p, ← Nat.div_div_eq_div_mul]
  obtain ⟨X, hX⟩ : ∃ X, valD l / B32 ^ (p / 32) = X := ⟨_, rfl⟩
  rw [hX, hr0]
  rw [hr0] at hr
  have e : B32 = 2 ^ r * 2 ^ (32 - r) := by rw [← Nat.pow_add, show r + (32 - r) = 32 by omega]
  rw [e, Nat.mod_mul_right_div_self]
  have h2 : 2 ∣ 2 ^ (32 - r) := by
    rw [show 32 - r = (31 - r) + 1 by omega, Nat.pow_succ]
    exact Nat.dvd_mul_left _ _
  exact Nat.mod_mod_of_dvd _ h2
theorem half_pow (A p : Nat) : A / 2 ^ p = 2 * (A / 2 ^ (p + 1)) + A / 2 ^ p % 2 := by
  rw [Nat.pow_succ, ← Nat.div_div_eq_div_mul]
  have := Nat.div_add_mod (A / 2 ^ p) 2
  omega
theorem or_bit {x r : Nat} (h : x % 2 ^ (r + 1) = 0) : x ||| 2 ^ r = x + 2 ^ r := by
  have h1 := Nat.div_add_mod x (2 ^ (r + 1))
  rw [h, Nat.add_zero] at h1
  have h2 : 2 ^ r < 2 ^ (r + 1) := Nat.pow_lt_pow_right (by decide) (by omega)
  rw [← h1, ← Nat.two_pow_add_eq_or_of_lt h2]
/-- One bit of a division of A by b. -/
theorem over_bit {A b p V r : Nat} (hb : 0 < b) (hV : V = 2 ^ (p + 1) * (A / 2 ^ (p + 1) / b)) (hr : r = A / 2 ^ (p + 1) % b) :
    (b ≤ 2 * r + A / 2 ^ p % 2 → V + 2 ^ p = 2 ^ p * (A / 2 ^ p / b) ∧ 2 * r + A / 2 ^ p % 2 - b = A / 2 ^ p % b) ∧
    (¬ b ≤ 2 * r + A / 2 ^ p % 2 → V = 2 ^ p * (A / 2 ^ p / b) ∧ 2 * r + A / 2 ^ p % 2 = A / 2 ^ p % b) := by
  obtain ⟨h1, h2⟩ := div_bit (t := A / 2 ^ (p + 1)) (β := A / 2 ^ p % 2) hb (by omega)
  rw [← half_pow, ← hr] at h1 h2
  have e : ∀ q, 2 ^ (p + 1) * q = 2 ^ p * (2 * q) := fun q => by rw [Nat.pow_succ, Nat.mul_assoc]
  constructor
  · intro h
    rw [if_pos h] at h1 h2
    rw [h1, h2, hV, e, Nat.mul_add, Nat.mul_one]
    exact ⟨rfl, rfl⟩
  · intro h
    rw [if_neg h] at h1 h2
    rw [h1, h2, hV, e, Nat.add_zero]
    exact ⟨rfl, rfl⟩
/-- The part at which a bit is set has no bit there or below yet. -/
theorem part_free {l : List Nat} {p : Nat} (hd : DigD l) (h : 2 ^ (p + 1) ∣ valD l) : gD l (p / 32) % 2 ^ (p % 32 + 1) = 0 := by
  have hr := Nat.mod_lt p (show 0 < 32 by decide)
  obtain ⟨k, hk⟩ := h
  rw [← bit_part hd, hk, Nat.pow_succ, ← pow_B32 p]
  have e : B32 ^ (p / 32) * 2 ^ (p % 32) * 2 * k = B32 ^ (p / 32) * (2 ^ (p % 32 + 1) * k) := by
    rw [Nat.pow_succ, Nat.mul_assoc, Nat.mul_assoc, Nat.mul_assoc]
  rw [e, Nat.mul_div_cancel_left _ (Nat.pow_pos (by decide))]
  have h2 : 2 ^ (p % 32 + 1) ∣ B32 := by
    rw [show B32 = 2 ^ 32 from rfl]
    exact Nat.pow_dvd_pow 2 (by omega)
  rw [Nat.mod_mod_of_dvd _ h2, Nat.mul_mod_right]
end Go.Jog
namespace Go.Proofs.YtfelabnohopfdaaGreatDoor
open Go Go.Jog
set_option maxRecDepth 100000

def encW (x : Nat) : List Value := [.int .u32 x]
theorem encW_len (x : Nat) : (encW x).length = 1 := rfl
/-- A natural number in memory. -/
def NatC (C : Mem) (v : Value) (n : Nat) : Prop := ∃ l, CanD l ∧ valD l = n ∧ Sl C 1 v (l.map encW)
theorem NatC.mono {C D : Mem} {v : Value} {n : Nat} (h : NatC C v n) (hl : C.le D) : NatC D v n := by
  obtain ⟨l, h1, h2, h3⟩ := h
  exact ⟨l, h1, h2, h3.mono hl⟩
theorem trim_fn (C : Mem) (v : Value) (l : List Nat) (hv : Sl C 1 v (l.map encW)) : Pur cx.P 83 [v] C fun u C' => Sl C' 1 u ((trimD l).map encW) := by
  obtain ⟨A0, c0, rfl, hlc, _⟩ := id hv
  simp only [List.length_map] at hv hlc ⊢
  refine Fn.intro (by kernel_rfl) Tryz.func83 rfl 21 rfl rfl (fun w0 => ?_)
  refine G.region rfl (fun R hR => ?_)
  refine D.pure rfl rfl rfl rfl rfl rfl ?_
  refine D.done [(0, [], _)] ⟨rfl, trivial⟩ (hR _ _ _ rfl ?_); clear hR R
  refine G.loop (fun fr C' L' μ => ∃ (k : Nat) (A : Option Addr) (c : Nat), (k ≤ l.length ∧ Sl C' 1 (.slice A k c) ((l.take k).map encW) ∧ trimN l l.length = trimN l k) ∧ fr = [(0, [], .slice A k c)] ∧ L' = [] ∧ μ = k + 1) (fr' := [(0, [], _)]) ⟨rfl, trivial⟩ ⟨l.length, A0, c0, ⟨Nat.le_refl _, by rw [List.take_length]; exact hv, rfl⟩, rfl, rfl, rfl⟩ (fun fr C0' L0' m hle0 hI => ?_)
  obtain ⟨k, A, c, ⟨hk, hs, ht⟩, rfl, rfl, rfl⟩ := hI
  obtain ⟨_, c9, hqe, hkc, _⟩ := id hs
  have hmx : maxLen ≤ 9223372036854775807 := by simp [maxLen]
  have hkc2 : k ≤ c := by
    rw [List.length_map, List.length_take] at hkc
    injection hqe with h1 h2 h3
    omega
  have hrow : 0 < k → ((l.take k).map encW)[((k : Int) - 1).toNat]? = some (encW (gD l (k - 1))) := fun h => by
    rw [show ((k : Int) - 1).toNat = k - 1 by omega, List.getElem?_map, List.getElem?_take, if_pos (by omega), List.getElem?_eq_getElem (by omega : k - 1 < l.length)]
    unfold gD
    rw [List.getD_eq_getElem?_getD, List.getElem?_eq_getElem (by omega : k - 1 < l.length)]; rfl
  refine G.region rfl (fun R hR => ?_)
  iterate 7 refine D.pure rfl rfl rfl rfl rfl rfl ?_
  refine D.i64 _ rfl rfl rfl rfl rfl (by omega) (by omega) rfl rfl ?_
  refine D.index rfl rfl rfl rfl rfl rfl rfl rfl rfl rfl (fun hg => ⟨hs, (by have h : decide ((0 : Int) < (k : Int)) = true := hg.1; simp at h; omega), hrow (by have h : decide ((0 : Int) < (k : Int)) = true := hg.1; simp at h; omega)⟩) (fun _ => rfl) rfl (fun p11 hp11 => ?_)
  refine D.loadP rfl rfl rfl rfl rfl rfl hp11 rfl rfl rfl ?_
  refine D.pure rfl rfl rfl rfl rfl rfl ?_
  refine D.pickAnd rfl rfl rfl rfl rfl rfl rfl rfl ?_
  refine D.done [(0, [], _), (14, [], _)] ⟨rfl, rfl, trivial⟩ (hR _ _ _ rfl ?_); clear hR R
  refine G.cond rfl (fun h14 => ?_) (fun h14 => ?_)
  · skip
    have hk0 : 0 < k ∧ gD l (k - 1) = 0 := by
      have : (0 : Int) < (k : Int) ∧ ((gD l (k - 1) : Nat) : Int) = 0 := by simpa using h14
      omega
    refine G.region rfl (fun R hR => ?_)
    iterate 3 refine D.pure rfl rfl rfl rfl rfl rfl ?_
    refine D.i64 (((k - 1 : Nat) : Int)) rfl rfl rfl rfl (by omega) (by omega) (by omega) rfl rfl ?_
    refine D.sliceV 0 (k - 1) c rfl rfl rfl rfl rfl rfl rfl rfl rfl rfl rfl rfl (fun _ => ⟨.inl ⟨rfl, rfl⟩, .inr ⟨_, rfl⟩, .inl ⟨rfl, rfl⟩, by omega, by omega, Nat.le_refl _⟩) rfl rfl ?_
    refine D.pure rfl rfl rfl rfl rfl rfl ?_
    refine D.done [(0, [], _)] ⟨rfl, trivial⟩ (hR _ _ _ rfl ?_); clear hR R
    have hsub := Sl.sub hs (l := 0) (h := k - 1) (m := c) (Nat.zero_le _) (by simp; omega) (by omega) (Nat.le_refl _)
    have esub : (((l.take k).map encW).take (k - 1)).drop 0 = (l.take (k - 1)).map encW := by
      rw [List.drop_zero, ← List.map_take, List.take_take, Nat.min_eq_left (by omega)]
    rw [esub] at hsub
    have etr : trimN l l.length = trimN l (k - 1) := by
      rw [ht]
      obtain ⟨j, rfl⟩ : ∃ j, k = j + 1 := ⟨k - 1, by omega⟩
      simp only [Nat.add_sub_cancel] at hk0 ⊢
      rw [trimN, if_pos]
      unfold gD at hk0
      rw [List.getD_eq_getElem?_getD, List.getElem?_eq_getElem (by omega)] at hk0
      rw [List.getElem?_eq_getElem (by omega)]
      exact congrArg some hk0.2
    refine G.again (m' := k - 1 + 1) (by omega) (by (repeat (first | exact Mem.le.refl _ | assumption | (apply Mem.le.trans; rotate_left; assumption)))) (fr' := [(0, [], _)]) ⟨rfl, trivial⟩ ⟨k - 1, _, c, ⟨by omega, hsub.mono (by (repeat (first | exact Mem.le.refl _ | assumption | (apply Mem.le.trans; rotate_left; assumption)))), etr⟩, rfl, rfl, rfl⟩
  · skip
    have hk0 : ¬ (0 < k ∧ gD l (k - 1) = 0) := fun hh => by
      have h1 : (decide ((0 : Int) < (k : Int)) && (((gD l (k - 1) : Nat) : Int) == 0)) = true := by
        rw [hh.2]; simp; omega
      rw [h1] at h14
      cases h14
    refine G.region rfl (fun R hR => ?_)
    iterate 2 refine D.pure rfl rfl rfl rfl rfl rfl ?_
    refine D.done [(2, [], _)] ⟨rfl, trivial⟩ (hR _ _ _ rfl ?_); clear hR R
    refine G.retN (G.dropAll (G.fin1 rfl rfl ?_))
    refine ⟨rfl, ?_⟩
    have e : trimN l k = k := by
      cases k with
      | zero => rfl
      | succ j =>
        simp only [Nat.add_sub_cancel] at hk0
        rw [trimN, if_neg]
        intro h
        refine hk0 ⟨by omega, ?_⟩
        unfold gD
        rw [List.getD_eq_getElem?_getD, h]; rfl
    unfold trimD
    rw [ht, e]
    exact hs
/-- What compare returns: its sign tells the order. -/
def CmpRes (m n : Nat) (z : Int) : Prop := (z < 0 ↔ m < n) ∧ (0 < z ↔ n < m) ∧ -9223372036854775808 ≤ z ∧ z ≤ 9223372036854775807
theorem compare_fn (C : Mem) (va vb : Value) (a b : List Nat) (ha : Sl C 1 va (a.map encW)) (hb : Sl C 1 vb (b.map encW)) (hca : CanD a) (hcb : CanD b) : Pur cx.P 43 [va, vb] C fun u _ => ∃ z : Int, u = .int .i64 z ∧ CmpRes (valD a) (valD b) z := by
  have hmx : maxLen ≤ 9223372036854775807 := by simp [maxLen]
  obtain ⟨A0, c0, rfl, hla, hla2, _⟩ := id ha
  obtain ⟨B0, d0, rfl, hlb, hlb2, _⟩ := id hb
  simp only [List.length_map] at ha hb hla hlb ⊢
  refine Fn.intro (by kernel_rfl) Tryz.func43 rfl 43 rfl rfl (fun w0 => ?_)
  refine G.region rfl (fun R hR => ?_)
  refine D.pure rfl rfl rfl rfl rfl rfl ?_
  refine D.done [(0, [], _), (1, [], _)] ⟨rfl, rfl, trivial⟩ (hR _ _ _ rfl ?_); clear hR R
  refine G.region rfl (fun R hR => ?_)
  iterate 5 refine D.pure rfl rfl rfl rfl rfl rfl ?_
  refine D.done [(0, [], _), (1, [], _), (10, [], _)] ⟨rfl, rfl, rfl, trivial⟩ (hR _ _ _ rfl ?_); clear hR R
  refine G.cond rfl (fun h10 => ?_) (fun h10 => ?_)
  · skip
    have hne : a.length ≠ b.length := fun e => by
      rw [e] at h10; simp at h10
    refine G.region rfl (fun R hR => ?_)
    iterate 4 refine D.pure rfl rfl rfl rfl rfl rfl ?_
    refine D.i64 _ rfl rfl rfl rfl rfl (by omega) (by omega) rfl rfl ?_
    refine D.pure rfl rfl rfl rfl rfl rfl ?_
    refine D.done [(4, [], _)] ⟨rfl, trivial⟩ (hR _ _ _ rfl ?_); clear hR R
    refine G.retN (G.dropAll (G.fin1 rfl rfl ?_))
    refine ⟨rfl, _, rfl, ?_⟩
    rcases Nat.lt_or_ge a.length b.length with h | h
    · have := len_lt hca.1 hcb h
      refine ⟨?_, ?_, ?_, ?_⟩ <;> omega
    · have := len_lt hcb.1 hca (by omega)
      refine ⟨?_, ?_, ?_, ?_⟩ <;> omega
  · skip
    have hlen : a.length = b.length := by
      have : (a.length : Int) = b.length := by simpa using h10
      omega
    refine G.region rfl (fun R hR => ?_)
    iterate 2 refine D.pure rfl rfl rfl rfl rfl rfl ?_
    refine D.i64 _ rfl rfl rfl rfl rfl (by omega) (by omega) rfl rfl ?_
    refine D.pure rfl rfl rfl rfl rfl rfl ?_
    refine D.done [(0, [], _), (1, [], _), (5, [], _)] ⟨rfl, rfl, rfl, trivial⟩ (hR _ _ _ rfl ?_); clear hR R
    refine G.loop (fun fr C' L' μ => ∃ (k : Nat), (k ≤ a.length ∧ a.drop k = b.drop k) ∧ fr = [(0, [], .slice A0 a.length c0), (1, [], .slice B0 b.length d0), (5, [], .int .i64 ((k : Int) - 1))] ∧ L' = [] ∧ μ = k + 1) (fr' := [(0, [], _), (1, [], _), (5, [], _)]) ⟨rfl, rfl, rfl, trivial⟩ ⟨a.length, ⟨Nat.le_refl _, by rw [List.drop_length, hlen, List.drop_length]⟩, rfl, rfl, rfl⟩ (fun fr C0' L0' m hle0 hI => ?_)
    obtain ⟨k, ⟨hk, he⟩, rfl, rfl, rfl⟩ := hI
    refine G.region rfl (fun R hR => ?_)
    iterate 2 refine D.pure rfl rfl rfl rfl rfl rfl ?_
    refine D.done [(0, [], _), (1, [], _), (5, [], _), (20, [], _)] ⟨rfl, rfl, rfl, rfl, trivial⟩ (hR _ _ _ rfl ?_); clear hR R
    refine G.cond rfl (fun h20 => ?_) (fun h20 => ?_)
    · skip
      have hk0 : 0 < k := by
        have : (0 : Int) ≤ (k : Int) - 1 := by simpa using h20
        omega
      obtain ⟨j, rfl⟩ : ∃ j, k = j + 1 := ⟨k - 1, by omega⟩
      obtain ⟨x, hx⟩ : ∃ x, a[j]? = some x := ⟨a[j], List.getElem?_eq_getElem (by omega)⟩
      obtain ⟨y, hy⟩ : ∃ y, b[j]? = some y := ⟨b[j], List.getElem?_eq_getElem (by omega)⟩
      have hrx : (a.map encW)[(((j + 1 : Nat) : Int) - 1).toNat]? = some (encW x) := by
        rw [show (((j + 1 : Nat) : Int) - 1).toNat = j by omega, List.getElem?_map, hx]; rfl
      have hry : (b.map encW)[(((j + 1 : Nat) : Int) - 1).toNat]? = some (encW y) := by
        rw [show (((j + 1 : Nat) : Int) - 1).toNat = j by omega, List.getElem?_map, hy]; rfl
      refine G.draw [0, 1, 2, 3, 4, 5, 6, 7, 8, 9] [] rfl (by kernel_rfl) (fun R hB hR => ?_)
      iterate 2 refine D.pure rfl rfl rfl rfl rfl rfl ?_
      refine D.index0 (ha.mono (by (repeat (first | exact Mem.le.refl _ | assumption | (apply Mem.le.trans; rotate_left; assumption))))) rfl rfl rfl rfl rfl rfl rfl rfl rfl rfl (by omega) hrx (fun _ => rfl) (fun p26 hp26 => ?_)
      refine D.loadP0 hp26 rfl rfl rfl rfl rfl rfl rfl rfl ?_
      iterate 2 refine D.pure rfl rfl rfl rfl rfl rfl ?_
      refine D.index0 (hb.mono (by (repeat (first | exact Mem.le.refl _ | assumption | (apply Mem.le.trans; rotate_left; assumption))))) rfl rfl rfl rfl rfl rfl rfl rfl rfl rfl (by omega) hry (fun _ => rfl) (fun p30 hp30 => ?_)
      refine D.loadP0 hp30 rfl rfl rfl rfl rfl rfl rfl rfl ?_
      iterate 2 refine D.pure rfl rfl rfl rfl rfl rfl ?_
      refine D.done [(0, [], _), (1, [], _), (5, [], _), (23, [], _)] ⟨rfl, rfl, rfl, rfl, trivial⟩ (hR _ _ _ rfl ?_); clear hR hB R
      refine G.cond rfl (fun h23 => ?_) (fun h23 => ?_)
      · skip
        have hxy : x < y := by
          have : (x : Int) < y := by simpa using h23
          omega
        refine G.region rfl (fun R hR => ?_)
        refine D.pure rfl rfl rfl rfl rfl rfl ?_
        refine D.done [(4, [], _)] ⟨rfl, trivial⟩ (hR _ _ _ rfl ?_); clear hR R
        refine G.retN (G.dropAll (G.fin1 rfl rfl ?_))
        refine ⟨rfl, _, rfl, ?_⟩
        have := at_lt hca.1 hlen hx hy hxy he
        refine ⟨?_, ?_, ?_, ?_⟩ <;> omega
      · skip
        have hxy : ¬ x < y := fun h => by
          have : (x : Int) < y := by omega
          simp [this] at h23
        refine G.draw [0, 1, 2, 3, 4, 5, 6, 7, 8, 9] [] rfl (by kernel_rfl) (fun R hB hR => ?_)
        iterate 2 refine D.pure rfl rfl rfl rfl rfl rfl ?_
        refine D.index0 (ha.mono (by (repeat (first | exact Mem.le.refl _ | assumption | (apply Mem.le.trans; rotate_left; assumption))))) rfl rfl rfl rfl rfl rfl rfl rfl rfl rfl (by omega) hrx (fun _ => rfl) (fun p36 hp36 => ?_)
        refine D.loadP0 hp36 rfl rfl rfl rfl rfl rfl rfl rfl ?_
        iterate 2 refine D.pure rfl rfl rfl rfl rfl rfl ?_
        refine D.index0 (hb.mono (by (repeat (first | exact Mem.le.refl _ | assumption | (apply Mem.le.trans; rotate_left; assumption))))) rfl rfl rfl rfl rfl rfl rfl rfl rfl rfl (by omega) hry (fun _ => rfl) (fun p40 hp40 => ?_)
        refine D.loadP0 hp40 rfl rfl rfl rfl rfl rfl rfl rfl ?_
        iterate 2 refine D.pure rfl rfl rfl rfl rfl rfl ?_
        refine D.done [(0, [], _), (1, [], _), (5, [], _), (33, [], _)] ⟨rfl, rfl, rfl, rfl, trivial⟩ (hR _ _ _ rfl ?_); clear hR hB R
        refine G.cond rfl (fun h33 => ?_) (fun h33 => ?_)
        · skip
          have hyx : y < x := by
            have : (y : Int) < x := by simpa using h33
            omega
          refine G.region rfl (fun R hR => ?_)
          refine D.pure rfl rfl rfl rfl rfl rfl ?_
          refine D.done [(4, [], _)] ⟨rfl, trivial⟩ (hR _ _ _ rfl ?_); clear hR R
          refine G.retN (G.dropAll (G.fin1 rfl rfl ?_))
          refine ⟨rfl, _, rfl, ?_⟩
          have := at_lt hcb.1 hlen.symm hy hx hyx he.symm
          refine ⟨?_, ?_, ?_, ?_⟩ <;> omega
        · skip
          have hyx : ¬ y < x := fun h => by
            have : (y : Int) < x := by omega
            simp [this] at h33
          refine G.region rfl (fun R hR => ?_)
          refine D.pure rfl rfl rfl rfl rfl rfl ?_
          refine D.i64 _ rfl rfl rfl rfl rfl (by omega) (by omega) rfl rfl ?_
          refine D.pure rfl rfl rfl rfl rfl rfl ?_
          refine D.done [(0, [], _), (1, [], _), (5, [], _)] ⟨rfl, rfl, rfl, trivial⟩ (hR _ _ _ rfl ?_); clear hR R
          rw [show ((j + 1 : Nat) : Int) - 1 - 1 = (j : Int) - 1 by omega]
          refine G.again (m' := j + 1) (by omega) (by (repeat (first | exact Mem.le.refl _ | assumption | (apply Mem.le.trans; rotate_left; assumption)))) (fr' := [(0, [], _), (1, [], _), (5, [], _)]) ⟨rfl, rfl, rfl, trivial⟩ ⟨j, ⟨by omega, by
            have hxy2 : x = y := by omega
            rw [List.drop_eq_getElem_cons (by omega : j < a.length), List.drop_eq_getElem_cons (by omega : j < b.length), he, (List.getElem?_eq_some_iff.1 hx).2, (List.getElem?_eq_some_iff.1 hy).2, hxy2]⟩, rfl, rfl, rfl⟩
    · skip
      have hk0 : k = 0 := by
        have : ¬ (0 : Int) ≤ (k : Int) - 1 := by simpa using h20
        omega
      subst hk0
      refine G.region rfl (fun R hR => ?_)
      refine D.pure rfl rfl rfl rfl rfl rfl ?_
      refine D.done [(4, [], _)] ⟨rfl, trivial⟩ (hR _ _ _ rfl ?_); clear hR R
      refine G.retN (G.dropAll (G.fin1 rfl rfl ?_))
      refine ⟨rfl, _, rfl, ?_⟩
      have : a = b := by simpa using he
      subst this
      refine ⟨?_, ?_, ?_, ?_⟩ <;> omega
end Go.Proofs.YtfelabnohopfdaaGreatDoor
namespace Go.Jog
open Go
section
variable {cx : Cx} {n : Nat} {ds : List (Option Nat)} {R : Rg n ds} {its : List It} {fr : Fr} {C : Mem} {L : List Ent} {i k d : Nat} {o : Oper} {g : GL}
theorem D.shrU (a m : Nat) {kj : IntKind} {t ty : Nat} {x y : Operand} {p q : Int} (hk : Nat.ble k 1 = true) (hd : o.dst = some d) (hop : o.op = .binOp .shr t x y ty) (hg : gOf ds fr o.guard = some g) (hx : ev fr g x = some (.int .u64 p)) (hy : ev fr g y = some (.int kj q))
    (hpa : p = a) (hq : q = m) (hm : m ≤ 63) (hp : okPut n ds ((d, g, .int .u64 ((a / 2 ^ m : Nat) : Int)) :: fr) d = true) (hwf : wfG ds fr g = true)
    (h : D cx R its ((d, g, .int .u64 ((a / 2 ^ m : Nat) : Int)) :: fr) C L) : D cx R ((i, k, o) :: its) fr C L :=
  D.run _ hk hd hg (fun _ A hs w => by
    subst hpa hq
    rw [exec_binOp hop (hs _ _ hx) (hs _ _ hy) (fun _ _ => .inl (by simp)) (.inl (by simp)) w]
    have h0 : ¬ ((m : Int) < 0) := by omega
    have hmin : Min.min m 64 = m := by omega
    have e : (a : Int).fdiv (2 ^ m) = ((a / 2 ^ m : Nat) : Int) := by
      have e1 : (2 : Int) ^ m = ((2 ^ m : Nat) : Int) := by norm_cast
      rw [e1, Int.fdiv_eq_ediv_of_nonneg _ (Int.natCast_nonneg _)]
      exact (Int.natCast_ediv _ _).symm
    simp only [binOp, Op.shift, h0, if_false, Int.toNat_natCast, IntKind.bits, hmin, Sem.run_pure, Result.andThen_ok]
    rw [e]) hp hwf h
theorem D.shrW (a m : Nat) {kj : IntKind} {t ty : Nat} {x y : Operand} {p q : Int} (hk : Nat.ble k 1 = true) (hd : o.dst = some d) (hop : o.op = .binOp .shr t x y ty) (hg : gOf ds fr o.guard = some g) (hx : ev fr g x = some (.int .u32 p)) (hy : ev fr g y = some (.int kj q))
    (hpa : p = a) (hq : q = m) (hm : m ≤ 31) (hp : okPut n ds ((d, g, .int .u32 ((a / 2 ^ m : Nat) : Int)) :: fr) d = true) (hwf : wfG ds fr g = true)
    (h : D cx R its ((d, g, .int .u32 ((a / 2 ^ m : Nat) : Int)) :: fr) C L) : D cx R ((i, k, o) :: its) fr C L :=
  D.run _ hk hd hg (fun _ A hs w => by
    subst hpa hq
    rw [exec_binOp hop (hs _ _ hx) (hs _ _ hy) (fun _ _ => .inl (by simp)) (.inl (by simp)) w]
    have h0 : ¬ ((m : Int) < 0) := by omega
    have hmin : Min.min m 32 = m := by omega
    have e : (a : Int).fdiv (2 ^ m) = ((a / 2 ^ m : Nat) : Int) := by
      have e1 : (2 : Int) ^ m = ((2 ^ m : Nat) : Int) := by norm_cast
      rw [e1, Int.fdiv_eq_ediv_of_nonneg _ (Int.natCast_nonneg _)]
      exact (Int.natCast_ediv _ _).symm
    simp only [binOp, Op.shift, h0, if_false, Int.toNat_natCast, IntKind.bits, hmin, Sem.run_pure, Result.andThen_ok]
    rw [e]) hp hwf h
end
end Go.Jog
namespace Go.Jog
open Go

def hAt (l : List Nat) (k : Nat) : Nat := l.getD k 0
theorem hAt_get {l : List Nat} {k x : Nat} (h : l[k]? = some x) : hAt l k = x := by simp [hAt, List.getD_eq_getElem?_getD, h]
theorem get_hAt {l : List Nat} {k : Nat} (h : k < l.length) : l[k]? = some (hAt l k) := by
  rw [List.getElem?_eq_getElem h, hAt_get (List.getElem?_eq_getElem h)]
def swapL (l : List Nat) (i j : Nat) : List Nat := (l.set i (hAt l j)).set j (hAt l i)
theorem swapL_length {l : List Nat} {i j : Nat} : (swapL l i j).length = l.length := by simp [swapL]
theorem hAt_swap {l : List Nat} {i j k : Nat} (hi : i < l.length) (hj : j < l.length) : hAt (swapL l i j) k = if k = j then hAt l i else if k = i then hAt l j else hAt l k := by
  unfold swapL hAt
  simp only [List.getD_eq_getElem?_getD, List.getElem?_set]
  by_cases h1 : j = k
  · subst h1; simp [hj]
  · by_cases h2 : i = k
    · subst h2; simp [h1, Ne.symm h1, hi]
    · simp [h1, h2, Ne.symm h1, Ne.symm h2]
theorem swapL_perm {l : List Nat} {i j : Nat} (hi : i < l.length) (hj : j < l.length) : (swapL l i j).Perm l := by
  rw [List.perm_iff_count]
  intro a
  unfold swapL
  have e1 : hAt l i = l[i] := hAt_get (List.getElem?_eq_getElem hi)
  have e2 : hAt l j = l[j] := hAt_get (List.getElem?_eq_getElem hj)
  rw [List.count_set (by simpa using hj), List.count_set hi, e1, e2, List.getElem_set]
  have c1 : l[i] = a → 0 < l.count a := fun h => List.count_pos_iff.2 (h ▸ List.getElem_mem hi)
  have c2 : l[j] = a → 0 < l.count a := fun h => List.count_pos_iff.2 (h ▸ List.getElem_mem hj)
  by_cases hij : i = j
  · subst hij
    by_cases h1 : l[i] = a
    · have := c1 h1; simp [h1]; omega
    · simp [h1]
  · by_cases h1 : l[i] = a <;> by_cases h2 : l[j] = a
    · have := c1 h1; simp [h1, h2, hij]; omega
    · have := c1 h1; simp [h1, h2, hij]; omega
    · have := c2 h2; simp [h1, h2, hij]
    · simp [h1, h2, hij]

/-- The first n are a heap but for what is above j. -/
def UpH (l : List Nat) (j : Nat) : Prop :=
  (∀ k, 1 ≤ k → k < l.length → k ≠ j → hAt l ((k - 1) / 2) ≤ hAt l k) ∧ (1 ≤ j → ∀ k, 1 ≤ k → k < l.length → (k - 1) / 2 = j → hAt l ((j - 1) / 2) ≤ hAt l k)
def HeapN (n : Nat) (l : List Nat) : Prop := ∀ k, 1 ≤ k → k < n → hAt l ((k - 1) / 2) ≤ hAt l k
theorem UpH.snoc {l : List Nat} {x : Nat} (h : HeapN l.length l) : UpH (l ++ [x]) l.length := by
  have e : ∀ k, k < l.length → hAt (l ++ [x]) k = hAt l k := fun k hk => by
    simp [hAt, List.getD_eq_getElem?_getD, List.getElem?_append_left hk]
  refine ⟨fun k h1 h2 h3 => ?_, fun h0 k h1 h2 h3 => ?_⟩
  · simp only [List.length_append, List.length_singleton] at h2
    rw [e k (by omega), e _ (by omega)]
    exact h k h1 (by omega)
  · simp only [List.length_append, List.length_singleton] at h2
    omega
theorem UpH.done0 {l : List Nat} (h : UpH l 0) : HeapN l.length l := fun k h1 h2 => h.1 k h1 h2 (by omega)
theorem UpH.done {l : List Nat} {j : Nat} (h : UpH l j) (hle : hAt l ((j - 1) / 2) ≤ hAt l j) : HeapN l.length l := fun k h1 h2 => by
  by_cases e : k = j
  · subst e; exact hle
  · exact h.1 k h1 h2 e
theorem UpH.step {l : List Nat} {j : Nat} (h : UpH l j) (hj0 : 1 ≤ j) (hj : j < l.length) (hlt : hAt l j < hAt l ((j - 1) / 2)) : UpH (swapL l ((j - 1) / 2) j) ((j - 1) / 2) := by
  have hi : (j - 1) / 2 < l.length := by omega
  refine ⟨fun k h1 h2 h3 => ?_, fun h0 k h1 h2 h3 => ?_⟩
  · rw [swapL_length] at h2
    rw [hAt_swap hi hj, hAt_swap hi hj]
    by_cases e : k = j
    · subst e
      rw [if_pos rfl]
      by_cases e2 : (k - 1) / 2 = k
      · omega
      · rw [if_neg e2, if_pos rfl]; omega
    · rw [if_neg e, if_neg h3]
      by_cases e2 : (k - 1) / 2 = j
      · rw [if_pos e2]; exact h.2 hj0 k h1 h2 e2
      · rw [if_neg e2]
        by_cases e3 : (k - 1) / 2 = (j - 1) / 2
        · rw [if_pos e3]
          have := h.1 k h1 h2 e
          rw [e3] at this; omega
        · rw [if_neg e3]; exact h.1 k h1 h2 e
  · rw [swapL_length] at h2
    have hp := h.1 ((j - 1) / 2) h0 hi (by omega)
    rw [hAt_swap hi hj, hAt_swap hi hj, if_neg (by omega : ¬ ((j - 1) / 2 - 1) / 2 = j), if_neg (by omega : ¬ ((j - 1) / 2 - 1) / 2 = (j - 1) / 2)]
    by_cases e : k = j
    · subst e; rw [if_pos rfl]; exact hp
    · rw [if_neg e, if_neg (by omega : ¬ k = (j - 1) / 2)]
      have := h.1 k h1 h2 e
      rw [h3] at this; omega

/-- The first n are a heap but for what is below i. -/
def DownH (n : Nat) (l : List Nat) (i : Nat) : Prop :=
  (∀ k, 1 ≤ k → k < n → (k - 1) / 2 ≠ i → hAt l ((k - 1) / 2) ≤ hAt l k) ∧ (1 ≤ i → ∀ k, 1 ≤ k → k < n → (k - 1) / 2 = i → hAt l ((i - 1) / 2) ≤ hAt l k)
theorem DownH.done {n : Nat} {l : List Nat} {i : Nat} (h : DownH n l i) (hle : ∀ k, 1 ≤ k → k < n → (k - 1) / 2 = i → hAt l i ≤ hAt l k) : HeapN n l := fun k h1 h2 => by
  by_cases e : (k - 1) / 2 = i
  · rw [e]; exact hle k h1 h2 e
  · exact h.1 k h1 h2 e
theorem DownH.step {n : Nat} {l : List Nat} {i j : Nat} (h : DownH n l i) (hn : n ≤ l.length) (hj1 : 1 ≤ j) (hj : j < n) (hij : (j - 1) / 2 = i) (hlt : hAt l j < hAt l i) (hmin : ∀ k, 1 ≤ k → k < n → (k - 1) / 2 = i → hAt l j ≤ hAt l k) : DownH n (swapL l i j) j := by
  have hi : i < l.length := by omega
  have hjl : j < l.length := by omega
  refine ⟨fun k h1 h2 h3 => ?_, fun h0 k h1 h2 h3 => ?_⟩
  · rw [hAt_swap hi hjl, hAt_swap hi hjl, if_neg h3]
    by_cases e : k = j
    · subst e
      rw [if_pos rfl, hij, if_pos rfl]; omega
    · rw [if_neg e]
      by_cases e2 : (k - 1) / 2 = i
      · rw [if_pos e2, if_neg (by omega : ¬ k = i)]; exact hmin k h1 h2 e2
      · rw [if_neg e2]
        by_cases e3 : k = i
        · rw [if_pos e3]; subst e3; exact h.2 h1 j hj1 hj hij
        · rw [if_neg e3]; exact h.1 k h1 h2 e2
  · rw [hAt_swap hi hjl, hAt_swap hi hjl, hij, if_neg (by omega : ¬ i = j), if_pos rfl, if_neg (by omega : ¬ k = j), if_neg (by omega : ¬ k = i)]
    have := h.1 k h1 h2 (by omega)
    rw [h3] at this; exact this

/-- Least on top. -/
theorem HeapN.top {n : Nat} {l : List Nat} (h : HeapN n l) : ∀ k, k < n → hAt l 0 ≤ hAt l k := by
  intro k
  induction k using Nat.strongRecOn with
  | _ k ih =>
    intro hk
    rcases Nat.eq_zero_or_pos k with e | e
    · subst e; exact Nat.le_refl _
    · exact Nat.le_trans (ih ((k - 1) / 2) (by omega) (by omega)) (h k e hk)

/-- What comes to the end of the list when the top is swapped there. -/
theorem DownH.swap0 {l : List Nat} (h : HeapN l.length l) (hl : 0 < l.length) : DownH (l.length - 1) (swapL l 0 (l.length - 1)) 0 := by
  refine ⟨fun k h1 h2 h3 => ?_, fun h0 => absurd h0 (by omega)⟩
  rw [hAt_swap hl (by omega), hAt_swap hl (by omega), if_neg (by omega : ¬ (k - 1) / 2 = l.length - 1), if_neg h3, if_neg (by omega : ¬ k = l.length - 1), if_neg (by omega : ¬ k = 0)]
  exact h k h1 (by omega)
end Go.Jog
namespace Go.Jog
open Go


theorem Fn.quiet1 {P : Program} {f : FuncId} {args : List Value} {C : Mem} {x : Ent} {v : Value} (h : Fn P f args C [x] fun u _ L' => u = v ∧ L' = [x]) {w0 : World} {C0 : Mem} {L0 : List Ent} {κ : Mem × List Ent} {w : World}
    (hC : C.le κ.1) (hx : x ∈ κ.2) (hw : cls w0 C0 L0 κ w) : Calls P f args.toArray w fun e w' => e = .returned v ∧ cls w0 C0 L0 κ w' := by
  obtain ⟨j, hj⟩ := List.getElem?_of_mem hx
  have hp := ent_perm hj
  have hw' : St w0 C0 L0 κ.1 ([x] ++ κ.2.eraseIdx j) w := St.perm hw hp
  have hno : ∀ k, owns [x] k → κ.1 k = none := fun k hk => hw'.sep.n k (by obtain ⟨y, hy, hyk⟩ := hk; exact ⟨y, List.mem_append_left _ hy, hyk⟩)
  have h2 : Sep κ.1 [x] w := ⟨hw'.sep.c, fun y hy => hw'.sep.e y (List.mem_append_left _ hy), List.pairwise_singleton _ _, hno⟩
  have hsep : Sep C [x] w := ⟨fun b o hb => h2.c b o (hC _ _ hb), h2.e, h2.d, fun k hk => by
    cases hc : C k with
    | none => rfl
    | some o => have := hC _ _ hc; rw [hno k hk] at this; cases this⟩
  refine (h.2 w hsep).mono fun e w' ⟨u, C', L', he, hst, hu, hl⟩ => ?_
  subst hu; subst hl
  have hst' : St w κ.1 [x] κ.1 [x] w' := ⟨⟨fun b o hb => by
      have := h2.c b o hb
      rw [hst.ev.block b (lt_of_heap this) (fun hk => by rw [hno b hk] at hb; cases hb)]; exact this, hst.sep.e, hst.sep.d, hno⟩, hst.ev, Mem.le.refl _, fun _ _ hk => .inl hk, hst.ln⟩
  exact ⟨he, St.perm (St.call (Lp := [x]) hw' hst') hp.symm⟩

section
variable {cx : Cx} {n : Nat} {ds : List (Option Nat)} {R : Rg n ds} {its : List It} {fr : Fr} {C : Mem} {L : List Ent} {i k d : Nat} {o : Oper} {g : GL} {v : Value}
/-- A method with a value receiver that only reads an owned row. -/
theorem D.invokeVQ {recv : Operand} {name : String} {args : Array Operand} {ts : Array TypeId} {fid : FuncId} {t e b : Nat} {u : Value} {cs : List Value} {tb : TypeId} {fz : Nat × Nat} {vs : List Value} {x : Ent} {ti te : TI}
    (hmem : Ent.obj b (.cells ⟨cs⟩ tb fz) ∈ L) (hxm : x ∈ L) (c : GT ds fr g → Fn cx.P fid (u :: vs) C [x] fun u _ L' => u = v ∧ L' = [x]) (hen : Enters cx.P fid = true) (hk : k = 1) (hd : o.dst = some d) (hg : gOf ds fr o.guard = some g) (hop : o.op = .call ⟨.invoke recv name, args, ts⟩)
    (hr : ev fr g recv = some (.iface t (.pointer (some ⟨b, 0, none⟩)))) (hm : methB cx.P t name = some (fid, false)) (ht : cx.T.get t = some ti) (hte : ti.k = .ptr e) (he : cx.T.get e = some te) (hv : ofCells te (cs.take te.size) = some u) (hargs : listO (ev fr g) args.toList = some vs)
    (hp : okPut n ds ((d, g, v) :: fr) d = true) (hwf : wfG ds fr g = true)
    (h : D cx R its ((d, g, v) :: fr) C L) : D cx R ((i, k, o) :: its) fr C L :=
  D.det (by subst hk; rfl) hd hg hp hwf (fun hGT a hs κ' hκ w hw => by
    have hu : cx.P.underlying t = some (.pointer e) := by
      obtain ⟨kk, s1, b1, z1, g1⟩ := ti
      simp only at hte
      subst hte
      exact und_ptr cx.hT ht
    have hb : w.heap[b]? = some (.cells ⟨cs⟩ tb fz) := hw.sep.e _ ((hκ hk).2 _ hmem)
    have hl : (loadVar e ⟨b, 0, none⟩).run cx.P w = .ok u w := by
      refine run_loadVar cx.hT he (cs := cs.take te.size) (fun j x hj => ?_) hv
      rw [Addr.add_lit, cell_of_row w b (0 + j) _ tb fz hb]
      rw [List.getElem?_take] at hj
      split at hj
      · simpa using hj
      · cases hj
    unfold Oper.quietAt
    rw [run_invoke hop (hs _ _ hr) (listO_spec (fun x y => hs x y) hargs) (fun n => run_methodV hm hu hl n) hen]
    exact ⟨rfl, (c hGT).quiet1 (hκ hk).1 ((hκ hk).2 _ hxm) hw⟩) h
end

section
variable {cx : Cx} {n : Nat} {ds : List (Option Nat)} {R : Rg n ds} {its : List It} {fr : Fr} {C : Mem} {L : List Ent} {i k d : Nat} {o : Oper} {g : GL} {v : Value}
theorem D.quoT {t ty : Nat} {x y : Operand} {ki : IntKind} {p q : Int} (c : Int) (hk : Nat.ble k 1 = true) (hd : o.dst = some d) (hop : o.op = .binOp .quo t x y ty) (hg : gOf ds fr o.guard = some g) (hx : ev fr g x = some (.int ki p)) (hy : ev fr g y = some (.int ki q))
    (hq : 0 < q) (hc : p.tdiv q = c) (hr : ki.wrap c = c) (hp : okPut n ds ((d, g, .int ki c) :: fr) d = true) (hwf : wfG ds fr g = true)
    (h : D cx R its ((d, g, .int ki c) :: fr) C L) : D cx R ((i, k, o) :: its) fr C L :=
  D.run _ hk hd hg (fun _ a hs w => by
    rw [exec_binOp hop (hs _ _ hx) (hs _ _ hy) (fun _ _ => .inl (by simp)) (.inl (by simp)) w]
    have hq0 : q ≠ 0 := by omega
    simp [binOp, Op.intDiv, hq0, hc, hr]) hp hwf h
end

section
variable {F : Fx} {k : List KI} {fr : Fr} {C : Mem} {L : List Ent}
/-- A row of the function's own is cut shorter. -/
theorem G.shrink {e : Exit} (j m : Nat) {t s len g0 n c : Nat} {xs : List Value} (hj : L[j]? = some (.arr (.slice (some ⟨g0, 0, none⟩) n c) t s len xs)) (hm : m ≤ len)
    (h : G F k e fr C (.arr (.slice (some ⟨g0, 0, none⟩) m c) t s m (xs.take (m * s)) :: L.eraseIdx j)) : G F k e fr C L := fun h0 a w ha hw => by
  refine h h0 a w ha ?_
  have hw' := St.perm hw (ent_perm hj)
  have hown : w.ownsRow 0 t s (.slice (some ⟨g0, 0, none⟩) n c) len xs := hw'.sep.e _ (List.mem_cons_self ..)
  obtain ⟨rfl, hlc, hcm, cur, hb, hcs, htake⟩ := ownsRow_block hown
  have hxl : xs.length = n * s := hown.1
  have hms : m * s ≤ n * s := Nat.mul_le_mul_right _ hm
  have hnew : w.ownsRow 0 t s (.slice (some ⟨g0, 0, none⟩) m c) m (xs.take (m * s)) :=
    ⟨by rw [List.length_take]; omega, .inr ⟨g0, c, cur, rfl, Nat.zero_le _, hb, Nat.le_trans hm hlc, hcm, hcs, by rw [← htake, List.take_take, Nat.min_eq_left hms]⟩⟩
  exact St.turn hw' hnew ⟨rfl, rfl, rfl, Nat.le_refl _, fun _ _ _ => rfl⟩ (Nat.le_refl _) (.inl rfl)
/-- A row that is not empty has its own block. -/
theorem G.rowForm {e : Exit} (j : Nat) {v : Value} {t s m : Nat} {xs : List Value} (hj : L[j]? = some (.arr v t s (m + 1) xs)) (h : ∀ g c, v = .slice (some ⟨g, 0, none⟩) (m + 1) c → G F k e fr C L) : G F k e fr C L := fun h0 a w ha hw => by
  have hw' := St.perm hw (ent_perm hj)
  have hown : w.ownsRow 0 t s v (m + 1) xs := hw'.sep.e _ (List.mem_cons_self ..)
  rcases hown.2 with ⟨_, h1⟩ | ⟨g, cap, cur, h1, _⟩
  · omega
  · exact h g cap h1 h0 a w ha hw
theorem G.rowSlice {e : Exit} (j : Nat) {v : Value} {t s m : Nat} {xs : List Value} (hj : L[j]? = some (.arr v t s m xs)) (h : ∀ A c, v = .slice A m c → G F k e fr C L) : G F k e fr C L := fun h0 a w ha hw => by
  have hw' := St.perm hw (ent_perm hj)
  have hown : w.ownsRow 0 t s v m xs := hw'.sep.e _ (List.mem_cons_self ..)
  rcases hown.2 with ⟨h1, h2⟩ | ⟨g, cap, cur, h1, _⟩
  · subst h2; exact h _ _ h1 h0 a w ha hw
  · exact h _ _ h1 h0 a w ha hw
/-- What room a row has. -/
theorem G.rowCap {e : Exit} (j : Nat) {g0 n c t s m : Nat} {xs : List Value} (hj : L[j]? = some (.arr (.slice (some ⟨g0, 0, none⟩) n c) t s m xs)) (h : n ≤ c → c ≤ maxLen → G F k e fr C L) : G F k e fr C L := fun h0 a w ha hw => by
  have hw' := St.perm hw (ent_perm hj)
  have hown : w.ownsRow 0 t s (.slice (some ⟨g0, 0, none⟩) n c) m xs := hw'.sep.e _ (List.mem_cons_self ..)
  obtain ⟨rfl, hlc, hcm, _⟩ := ownsRow_block hown
  exact h hlc hcm h0 a w ha hw
end
end Go.Jog
namespace Go.Jog
open Go
section
variable {cx : Cx} {n : Nat} {ds : List (Option Nat)} {R : Rg n ds} {its : List It} {fr : Fr} {C : Mem} {L : List Ent} {i k d : Nat} {o : Oper} {g : GL} {v : Value}
end
end Go.Jog
namespace Go.Jog
open Go

end Go.Jog
namespace Go.Jog
open Go
structure RankTo (A : List Arc3) (n : Nat) (pre e : List Nat) : Prop where
  len : e.length = n
  sound : ∀ v, v < n → ∃ u, Walk A (hAt e v) u v
  up : ∀ a ∈ A, a.lo ∈ pre → hAt e a.lo + 1 ≤ hAt e a.up
theorem hAt_setB {l : List Nat} {u v x : Nat} (h : u < l.length) : hAt (l.set u x) v = if v = u then x else hAt l v := by
  unfold hAt
  simp only [List.getD_eq_getElem?_getD, List.getElem?_set]
  by_cases e : u = v
  · subst e; simp [h]
  · rw [if_neg e, if_neg (Ne.symm e)]
theorem RankTo.start {A : List Arc3} {n : Nat} : RankTo A n [] (List.replicate n 0) := by
  refine ⟨by simp, fun v hv => ⟨v, ?_⟩, fun a _ h => by cases h⟩
  have : hAt (List.replicate n 0) v = 0 := by simp [hAt, List.getD_eq_getElem?_getD, hv]
  rw [this]; exact Walk.zero.2 rfl
theorem RankTo.step {A : List Arc3} {n : Nat} {pre e : List Nat} {a : Arc3} (h : RankTo A n pre e) (ha : a ∈ A) (hlo : a.lo < n) (hup : a.up < n) (hne : a.up ≠ a.lo) (hnp : a.up ∉ pre) :
    RankTo A n pre (e.set a.up (max (hAt e a.up) (hAt e a.lo + 1))) ∧ hAt (e.set a.up (max (hAt e a.up) (hAt e a.lo + 1))) a.lo = hAt e a.lo ∧
      hAt e a.lo + 1 ≤ hAt (e.set a.up (max (hAt e a.up) (hAt e a.lo + 1))) a.up ∧ ∀ v, hAt e v ≤ hAt (e.set a.up (max (hAt e a.up) (hAt e a.lo + 1))) v := by
  have hl := h.len
  have hs : ∀ v, hAt (e.set a.up (max (hAt e a.up) (hAt e a.lo + 1))) v = if v = a.up then max (hAt e a.up) (hAt e a.lo + 1) else hAt e v := fun v => hAt_setB (by omega)
  have hge : ∀ v, hAt e v ≤ hAt (e.set a.up (max (hAt e a.up) (hAt e a.lo + 1))) v := fun v => by
    rw [hs]; split
    · rename_i e1; subst e1; exact Nat.le_max_left _ _
    · exact Nat.le_refl _
  refine ⟨⟨by simp [hl], fun v hv => ?_, fun b hb hbp => ?_⟩, by rw [hs, if_neg (Ne.symm hne)], by rw [hs, if_pos rfl]; exact Nat.le_max_right _ _, hge⟩
  · rw [hs]
    by_cases e1 : v = a.up
    · subst e1
      rw [if_pos rfl]
      rcases Nat.le_total (hAt e a.up) (hAt e a.lo + 1) with h1 | h1
      · rw [Nat.max_eq_right h1]
        obtain ⟨u, hu⟩ := h.sound a.lo hlo
        exact ⟨u, Walk.snoc.2 ⟨a, ha, rfl, hu⟩⟩
      · rw [Nat.max_eq_left h1]; exact h.sound _ hv
    · rw [if_neg e1]; exact h.sound v hv
  · have h1 := h.up b hb hbp
    have h2 : b.lo ≠ a.up := fun e1 => hnp (e1 ▸ hbp)
    rw [hs b.lo, if_neg h2]
    exact Nat.le_trans h1 (hge _)
theorem RankTo.snoc {A : List Arc3} {n i : Nat} {pre e : List Nat} (h : RankTo A n pre e) (hi : ∀ a ∈ nexts A i, hAt e i + 1 ≤ hAt e a.up) : RankTo A n (pre ++ [i]) e :=
  ⟨h.len, h.sound, fun a ha hp => by
    rcases List.mem_append.1 hp with h1 | h1
    · exact h.up a ha h1
    · have e1 := List.mem_singleton.1 h1
      have := hi a (by unfold nexts; rw [List.mem_filter]; exact ⟨ha, by simp [e1]⟩)
      rw [e1]; exact this⟩
theorem RankTo.done {A : List Arc3} {n : Nat} {pre e : List Nat} (h : RankTo A n pre e) (hb : Below n A) (hall : ∀ a ∈ A, a.lo ∈ pre) {v : Nat} (hv : v < n) : LongTo A v (hAt e v) := by
  refine ⟨h.sound v hv, ?_⟩
  intro k
  induction k generalizing v with
  | zero => intro u _; omega
  | succ k ih =>
    intro u hw
    obtain ⟨a, ha, hu, hw2⟩ := Walk.snoc.1 hw
    subst hu
    have h1 := h.up a ha (hall a ha)
    have h2 := ih (hb a ha).1 _ hw2
    omega

end Go.Jog
namespace Go.Jog
open Go
section
variable {cx : Cx} {n : Nat} {ds : List (Option Nat)} {R : Rg n ds} {its : List It} {fr : Fr} {C : Mem} {L : List Ent} {i k d : Nat} {o : Oper} {g : GL} {v : Value}
theorem D.max {x y : Operand} {ts : Array TypeId} {p q : Int} {ki kj : IntKind} (c : Int) (hk : Nat.ble k 1 = true) (hd : o.dst = some d) (hop : o.op = .call ⟨.builtin .max, #[x, y], ts⟩) (hg : gOf ds fr o.guard = some g) (hx : ev fr g x = some (.int ki p)) (hy : ev fr g y = some (.int kj q))
    (hc : Max.max p q = c) (hp : okPut n ds ((d, g, .int ki c) :: fr) d = true) (hwf : wfG ds fr g = true)
    (h : D cx R its ((d, g, .int ki c) :: fr) C L) : D cx R ((i, k, o) :: its) fr C L :=
  D.run _ hk hd hg (fun _ a hs w => by
    have e1 : execOp a.eval o = (do let dd ← resolve a.eval ⟨.builtin .max, #[x, y], ts⟩ o.type; invoke dd.target dd.args : Sem Next) := by unfold execOp; rw [hop]
    rw [e1]
    have hm : (if q > p then q else p) = c := by rw [← hc]; by_cases hh : q > p <;> simp [hh] <;> omega
    simp [resolve, invoke, builtin, hs _ _ hx, hs _ _ hy, Builtin.max_, Builtin.max2, hm]) hp hwf h
theorem D.min {x y : Operand} {ts : Array TypeId} {p q : Int} {ki kj : IntKind} (c : Int) (hk : Nat.ble k 1 = true) (hd : o.dst = some d) (hop : o.op = .call ⟨.builtin .min, #[x, y], ts⟩) (hg : gOf ds fr o.guard = some g) (hx : ev fr g x = some (.int ki p)) (hy : ev fr g y = some (.int kj q))
    (hc : Min.min p q = c) (hp : okPut n ds ((d, g, .int ki c) :: fr) d = true) (hwf : wfG ds fr g = true)
    (h : D cx R its ((d, g, .int ki c) :: fr) C L) : D cx R ((i, k, o) :: its) fr C L :=
  D.run _ hk hd hg (fun _ a hs w => by
    have e1 : execOp a.eval o = (do let dd ← resolve a.eval ⟨.builtin .min, #[x, y], ts⟩ o.type; invoke dd.target dd.args : Sem Next) := by unfold execOp; rw [hop]
    rw [e1]
    have hm : (if q < p then q else p) = c := by rw [← hc]; by_cases hh : q < p <;> simp [hh] <;> omega
    simp [resolve, invoke, builtin, hs _ _ hx, hs _ _ hy, Builtin.min_, Builtin.min2, hm]) hp hwf h
end
end Go.Jog
namespace Go.Jog
open Go

section
variable {F : Fx} {k : List KI} {fr : Fr} {C : Mem} {L : List Ent}
end
end Go.Jog
namespace Go.Jog
open Go

end Go.Jog
namespace Go.Jog
open Go Go.Proofs Go.Shelf

section
variable {P : Program} {ρ : Ren}
end
end Go.Jog
namespace Go.Jog
open Go

section
variable {F : Fx} {k : List KI} {fr : Fr} {C : Mem} {L : List Ent}
end
/-- A row of one's own, handed to a call that keeps it. -/
theorem Fn.give {P : Program} {f : FuncId} {args : List Value} {C : Mem} {L : List Ent} {v : Value} {t size len : Nat} (rows : List (List Value)) {post : Value → Mem → List Ent → Prop} (hen : Enters P f = true) (hl : ∀ r ∈ rows, r.length = size) (hn : rows.length = len)
    (h : ∀ C', C.le C' → Sl C' size v rows → Fn P f args C' L post) : Fn P f args C (.arr v t size len rows.flatten :: L) post :=
  ⟨hen, fun w hw => by
    obtain ⟨C1, h1, h2, h3⟩ := St.freezeArr (St.start hw) hl hn
    refine ((h C1 h1 h2).2 w h3.sep).mono fun e w' ⟨u, C', L', e1, hs, hq⟩ => ⟨u, C', L', e1, ?_, hq⟩
    have := St.call (Lp := L) (Lr := []) (by rw [List.append_nil]; exact h3) hs
    rwa [List.append_nil] at this⟩
end Go.Jog
namespace Go.Proofs.YtfelabnohopfdaaGreatDoor
open Go Go.Jog
set_option maxRecDepth 100000

theorem add32_fn (C : Mem) (x y c : Nat) (hx : x < B32) (hy : y < B32) (hc : c ≤ 1) : Gives cx.P 102 [.int .u32 x, .int .u32 y, .int .u32 c] C (.tuple #[.int .u32 ((x + y + c) % B32 : Nat), .int .u32 ((x + y + c) / B32 : Nat)]) := by
  have hB : B32 = 4294967296 := rfl
  refine Fn.intro (by kernel_rfl) Tryz.func102 rfl 22 rfl rfl (fun w0 => ?_)
  refine G.region rfl (fun R hR => ?_)
  iterate 2 refine D.pure rfl rfl rfl rfl rfl rfl ?_
  refine D.done [(0, [], _), (1, [], _), (2, [], _)] ⟨rfl, rfl, rfl, trivial⟩ (hR _ _ _ rfl ?_); clear hR R
  refine G.region rfl (fun R hR => ?_)
  refine D.pure rfl rfl rfl rfl rfl rfl ?_
  refine D.conv (c := (x : Int)) rfl rfl rfl rfl rfl rfl rfl rfl (by rw [IntKind.wrap_u64]; omega) (fun _ => rfl) ?_
  refine D.pure rfl rfl rfl rfl rfl rfl ?_
  refine D.conv (c := (y : Int)) rfl rfl rfl rfl rfl rfl rfl rfl (by rw [IntKind.wrap_u64]; omega) (fun _ => rfl) ?_
  refine D.int (((x + y : Nat) : Int)) rfl rfl rfl rfl (by rw [IntKind.wrap_u64]; omega) rfl rfl ?_
  refine D.pure rfl rfl rfl rfl rfl rfl ?_
  refine D.conv (c := (c : Int)) rfl rfl rfl rfl rfl rfl rfl rfl (by rw [IntKind.wrap_u64]; omega) (fun _ => rfl) ?_
  refine D.int (((x + y + c : Nat) : Int)) rfl rfl rfl rfl (by rw [IntKind.wrap_u64]; omega) rfl rfl ?_
  refine D.pure rfl rfl rfl rfl rfl rfl ?_
  refine D.done [(8, [], _)] ⟨rfl, trivial⟩ (hR _ _ _ rfl ?_); clear hR R
  refine G.region rfl (fun R hR => ?_)
  refine D.pure rfl rfl rfl rfl rfl rfl ?_
  refine D.conv (c := (((x + y + c) % B32 : Nat) : Int)) rfl rfl rfl rfl rfl rfl rfl rfl (by rw [IntKind.wrap_u32]; show _ = (((x + y + c) % 4294967296 : Nat) : Int); omega) (fun _ => rfl) ?_
  refine D.pure rfl rfl rfl rfl rfl rfl ?_
  refine D.done [(6, [], _), (8, [], _)] ⟨rfl, rfl, trivial⟩ (hR _ _ _ rfl ?_); clear hR R
  refine G.region rfl (fun R hR => ?_)
  refine D.pure rfl rfl rfl rfl rfl rfl ?_
  refine D.shrU ((x + y + c)) (32) rfl rfl rfl rfl rfl rfl rfl rfl (by omega) rfl rfl ?_
  refine D.conv (c := (((x + y + c) / B32 : Nat) : Int)) rfl rfl rfl rfl rfl rfl rfl rfl (by rw [IntKind.wrap_u32, show (2 : Nat) ^ 32 = 4294967296 from rfl]; show _ = (((x + y + c) / 4294967296 : Nat) : Int); omega) (fun _ => rfl) ?_
  refine D.pure rfl rfl rfl rfl rfl rfl ?_
  refine D.done [(6, [], _), (7, [], _)] ⟨rfl, rfl, trivial⟩ (hR _ _ _ rfl ?_); clear hR R
  refine G.retN (G.dropAll (G.fin2 rfl rfl rfl ?_))
  exact ⟨rfl, rfl⟩
theorem trimO_fn (C : Mem) (v : Value) (l : List Nat) {n : Nat} (hn : l.length = n) : Jog.Fn cx.P 83 [v] C [.arr v 112 1 n (l.map encW).flatten] fun u C' L' => L' = [] ∧ Sl C' 1 u ((trimD l).map encW) :=
  Jog.Fn.give (l.map encW) (by kernel_rfl) (by intro r hr; obtain ⟨y, _, rfl⟩ := List.mem_map.1 hr; rfl) (by rw [List.length_map, hn]) (fun C' _ hs => trim_fn C' v l hs)
set_option maxHeartbeats 1000000 in
theorem nadd_fn (C : Mem) (va vb : Value) (a b : List Nat) (ha : Sl C 1 va (a.map encW)) (hb : Sl C 1 vb (b.map encW)) (hda : DigD a) (hdb : DigD b) (hla : a.length ≤ 100000000) (hlb : b.length ≤ 100000000) :
    Pur cx.P 63 [va, vb] C fun u C' => NatC C' u (valD a + valD b) := by
  obtain ⟨A0, c0, rfl, _⟩ := id ha
  obtain ⟨B0, d0, rfl, _⟩ := id hb
  simp only [List.length_map] at ha hb ⊢
  refine Fn.intro (by kernel_rfl) Tryz.func63 rfl 54 rfl rfl (fun w0 => ?_)
  refine G.region rfl (fun R hR => ?_)
  refine D.pure rfl rfl rfl rfl rfl rfl ?_
  refine D.done [(0, [], _), (1, [], _)] ⟨rfl, rfl, trivial⟩ (hR _ _ _ rfl ?_); clear hR R
  refine G.region rfl (fun R hR => ?_)
  iterate 5 refine D.pure rfl rfl rfl rfl rfl rfl ?_
  refine D.done [(0, [], _), (1, [], _), (15, [], _)] ⟨rfl, rfl, rfl, trivial⟩ (hR _ _ _ rfl ?_); clear hR R
  refine G.cut (fun fr C' L' μ => ∃ (la lb : List Nat) (A : Option Addr) (c : Nat) (B : Option Addr) (d : Nat), (Sl C' 1 (.slice A la.length c) (la.map encW) ∧ Sl C' 1 (.slice B lb.length d) (lb.map encW) ∧ lb.length ≤ la.length ∧ valD la + valD lb = valD a + valD b ∧ DigD la ∧ DigD lb ∧ la.length ≤ 100000000) ∧ fr = [(0, [], .slice A la.length c), (1, [], .slice B lb.length d)] ∧ L' = []) ?_ (fun fr C15 L15 μ hle15 hI => ?_)
  · skip
    refine G.cond rfl (fun h15 => ?_) (fun h15 => ?_)
    · skip
      have h15' : a.length < b.length := by
        have : (a.length : Int) < b.length := by simpa using h15
        omega
      refine G.region rfl (fun R hR => ?_)
      iterate 4 refine D.pure rfl rfl rfl rfl rfl rfl ?_
      refine D.done [(0, [], _), (1, [], _)] ⟨rfl, rfl, trivial⟩ (hR _ _ _ rfl ?_); clear hR R
      refine G.meet 0 (Mem.le.refl _) (fr' := [(0, [], _), (1, [], _)]) ⟨rfl, rfl, trivial⟩ ⟨b, a, _, _, _, _, ⟨hb.mono (by (repeat (first | exact Mem.le.refl _ | assumption | (apply Mem.le.trans; rotate_left; assumption)))), ha.mono (by (repeat (first | exact Mem.le.refl _ | assumption | (apply Mem.le.trans; rotate_left; assumption)))), by omega, by omega, hdb, hda, hlb⟩, rfl, rfl⟩
    · skip
      have h15' : ¬ a.length < b.length := fun h => by
        have : (a.length : Int) < b.length := by omega
        simp [this] at h15
      refine G.meet 0 (Mem.le.refl _) (fr' := [(0, [], _), (1, [], _)]) ⟨rfl, rfl, trivial⟩ ⟨a, b, _, _, _, _, ⟨ha.mono (by (repeat (first | exact Mem.le.refl _ | assumption | (apply Mem.le.trans; rotate_left; assumption)))), hb.mono (by (repeat (first | exact Mem.le.refl _ | assumption | (apply Mem.le.trans; rotate_left; assumption)))), by omega, rfl, hda, hdb, hla⟩, rfl, rfl⟩
  · skip
    obtain ⟨la , lb , A , c , B , d, ⟨hsa, hsb, hll, hvv, hdla, hdlb, hla8⟩, rfl, rfl⟩ := hI
    refine G.region rfl (fun R hR => ?_)
    iterate 2 refine D.pure rfl rfl rfl rfl rfl rfl ?_
    refine D.i64 _ rfl rfl rfl rfl rfl (by omega) (by omega) rfl rfl ?_
    refine D.makeArr rfl rfl rfl rfl rfl rfl rfl rfl rfl (Nat.zero_le _) (by show 4 * (la.length + 1) ≤ 281474976710656; omega) (by simp only [maxLen]; omega) (fun _ => rfl) (fun b21 => ?_)
    refine D.pure rfl rfl rfl rfl rfl rfl ?_
    refine D.done [(0, [], _), (1, [], _), (5, [], _)] ⟨rfl, rfl, rfl, trivial⟩ (hR _ _ _ rfl ?_); clear hR R
    refine G.region rfl (fun R hR => ?_)
    refine D.pure rfl rfl rfl rfl rfl rfl ?_
    refine D.done [(0, [], _), (1, [], _), (5, [], _), (6, [], _)] ⟨rfl, rfl, rfl, rfl, trivial⟩ (hR _ _ _ rfl ?_); clear hR R
    refine G.region rfl (fun R hR => ?_)
    iterate 3 refine D.pure rfl rfl rfl rfl rfl rfl ?_
    refine D.done [(1, [], _), (5, [], _), (6, [], _), (22, [], _), (23, [], _), (24, [], _)] ⟨rfl, rfl, rfl, rfl, rfl, rfl, trivial⟩ (hR _ _ _ rfl ?_); clear hR R
    refine G.loop (fun fr C' L' μ => ∃ (i : Nat) (out : List Nat) (cy : Nat) (w : Value), (i ≤ la.length ∧ out.length = i ∧ DigD out ∧ cy ≤ 1 ∧ valD out + B32 ^ i * cy = valD (la.take i) + valD (lb.take i)) ∧ fr = [(1, [], .slice B lb.length d), (5, [], w), (6, [], .int .u32 cy), (22, [], .slice A la.length c), (23, [], .int .i64 la.length), (24, [], .int .i64 i)] ∧ L' = [.arr w 112 1 i (out.map encW).flatten] ∧ μ = la.length - i) (fr' := [(1, [], _), (5, [], _), (6, [], _), (22, [], _), (23, [], _), (24, [], _)]) ⟨rfl, rfl, rfl, rfl, rfl, rfl, trivial⟩ ⟨0, [], 0, _, ⟨Nat.zero_le _, rfl, (fun x hx => (by cases hx)), by omega, rfl⟩, rfl, rfl, rfl⟩ (fun fr C0' L0' m hle0 hI => ?_)
    obtain ⟨i, out, cy, w, ⟨hi, hol, hod, hcy, hval⟩, rfl, rfl, rfl⟩ := hI
    refine G.region rfl (fun R hR => ?_)
    refine D.pure rfl rfl rfl rfl rfl rfl ?_
    refine D.done [(1, [], _), (5, [], _), (6, [], _), (22, [], _), (23, [], _), (24, [], _), (25, [], _)] ⟨rfl, rfl, rfl, rfl, rfl, rfl, rfl, trivial⟩ (hR _ _ _ rfl ?_); clear hR R
    refine G.cond rfl (fun h25 => ?_) (fun h25 => ?_)
    · skip
      have hil : i < la.length := by simpa using h25
      have hra : (la.map encW)[i]? = some (encW (gD la i)) := by rw [List.getElem?_map, List.getElem?_eq_getElem hil, gD_some (List.getElem?_eq_getElem hil)]; rfl
      refine G.region rfl (fun R hR => ?_)
      refine D.pure rfl rfl rfl rfl rfl rfl ?_
      refine D.index0 (hsa.mono (by (repeat (first | exact Mem.le.refl _ | assumption | (apply Mem.le.trans; rotate_left; assumption))))) rfl rfl rfl rfl rfl rfl rfl rfl rfl rfl (by omega) hra (fun _ => rfl) (fun p27 hp27 => ?_)
      refine D.loadP0 hp27 rfl rfl rfl rfl rfl rfl rfl rfl ?_
      iterate 2 refine D.pure rfl rfl rfl rfl rfl rfl ?_
      refine D.done [(1, [], _), (5, [], _), (6, [], _), (7, [], _), (8, [], _), (22, [], _), (23, [], _), (24, [], _)] ⟨rfl, rfl, rfl, rfl, rfl, rfl, rfl, rfl, trivial⟩ (hR _ _ _ rfl ?_); clear hR R
      refine G.region rfl (fun R hR => ?_)
      refine D.pure rfl rfl rfl rfl rfl rfl ?_
      refine D.done [(1, [], _), (5, [], _), (6, [], _), (7, [], _), (8, [], _), (9, [], _), (22, [], _), (23, [], _), (24, [], _)] ⟨rfl, rfl, rfl, rfl, rfl, rfl, rfl, rfl, rfl, trivial⟩ (hR _ _ _ rfl ?_); clear hR R
      refine G.region rfl (fun R hR => ?_)
      iterate 4 refine D.pure rfl rfl rfl rfl rfl rfl ?_
      refine D.done [(1, [], _), (5, [], _), (6, [], _), (7, [], _), (8, [], _), (9, [], _), (22, [], _), (23, [], _), (24, [], _), (32, [], _)] ⟨rfl, rfl, rfl, rfl, rfl, rfl, rfl, rfl, rfl, rfl, trivial⟩ (hR _ _ _ rfl ?_); clear hR R
      refine G.cut (fun fr C' L' μ => (True) ∧ fr = [(1, [], .slice B lb.length d), (5, [], w), (6, [], .int .u32 cy), (8, [], .int .u32 (gD la i)), (9, [], .int .u32 (gD lb i)), (22, [], .slice A la.length c), (23, [], .int .i64 la.length), (24, [], .int .i64 i)] ∧ L' = [.arr w 112 1 i (out.map encW).flatten]) ?_ (fun fr C32 L32 μ hle32 hI => ?_)
      · skip
        refine G.cond rfl (fun h32 => ?_) (fun h32 => ?_)
        · skip
          have hib : i < lb.length := by simpa using h32
          have hrb : (lb.map encW)[i]? = some (encW (gD lb i)) := by rw [List.getElem?_map, List.getElem?_eq_getElem hib, gD_some (List.getElem?_eq_getElem hib)]; rfl
          refine G.region rfl (fun R hR => ?_)
          iterate 2 refine D.pure rfl rfl rfl rfl rfl rfl ?_
          refine D.index0 (hsb.mono (by (repeat (first | exact Mem.le.refl _ | assumption | (apply Mem.le.trans; rotate_left; assumption))))) rfl rfl rfl rfl rfl rfl rfl rfl rfl rfl (by omega) hrb (fun _ => rfl) (fun p35 hp35 => ?_)
          refine D.loadP0 hp35 rfl rfl rfl rfl rfl rfl rfl rfl ?_
          refine D.pure rfl rfl rfl rfl rfl rfl ?_
          refine D.done [(1, [], _), (5, [], _), (6, [], _), (8, [], _), (9, [], _), (22, [], _), (23, [], _), (24, [], _)] ⟨rfl, rfl, rfl, rfl, rfl, rfl, rfl, rfl, trivial⟩ (hR _ _ _ rfl ?_); clear hR R
          refine G.meet 0 (Mem.le.refl _) (fr' := [(1, [], _), (5, [], _), (6, [], _), (8, [], _), (9, [], _), (22, [], _), (23, [], _), (24, [], _)]) ⟨rfl, rfl, rfl, rfl, rfl, rfl, rfl, rfl, trivial⟩ ⟨trivial, rfl, rfl⟩
        · skip
          have hz : gD lb i = 0 := by
            have h : ¬ i < lb.length := by simpa using h32
            unfold gD
            rw [List.getD_eq_getElem?_getD, List.getElem?_eq_none (by omega)]; rfl
          refine G.meet 0 (Mem.le.refl _) (fr' := [(1, [], _), (5, [], _), (6, [], _), (8, [], _), (9, [], _), (22, [], _), (23, [], _), (24, [], _)]) ⟨rfl, rfl, rfl, rfl, rfl, rfl, rfl, rfl, trivial⟩ ⟨trivial, by rw [hz]; rfl, rfl⟩
      · skip
        obtain ⟨htr, rfl, rfl⟩ := hI
        refine G.region rfl (fun R hR => ?_)
        refine D.pure rfl rfl rfl rfl rfl rfl ?_
        refine D.done [(1, [], _), (5, [], _), (6, [], _), (8, [], _), (9, [], _), (22, [], _), (23, [], _), (24, [], _)] ⟨rfl, rfl, rfl, rfl, rfl, rfl, rfl, rfl, trivial⟩ (hR _ _ _ rfl ?_); clear hR R
        refine G.region rfl (fun R hR => ?_)
        iterate 3 refine D.pure rfl rfl rfl rfl rfl rfl ?_
        refine D.gives2 (add32_fn _ (gD la i) (gD lb i) cy (gD_lt hdla i) (gD_lt hdlb i) hcy) rfl rfl rfl rfl rfl rfl rfl (fun _ => rfl) ?_
        iterate 5 refine D.pure rfl rfl rfl rfl rfl rfl ?_
        refine D.done [(1, [], _), (5, [], _), (6, [], _), (10, [], _), (22, [], _), (23, [], _), (24, [], _)] ⟨rfl, rfl, rfl, rfl, rfl, rfl, rfl, trivial⟩ (hR _ _ _ rfl ?_); clear hR R
        refine G.region rfl (fun R hR => ?_)
        iterate 2 refine D.pure rfl rfl rfl rfl rfl rfl ?_
        refine D.buildSlice [encW ((gD la i + gD lb i + cy) % B32)] rfl rfl rfl rfl rfl rfl rfl rfl rfl rfl rfl rfl (fun _ => rfl) (fun p46 C46 hle46 hs46 => ?_)
        refine D.append (j := 0) rfl rfl rfl rfl rfl rfl rfl rfl rfl rfl rfl hs46 rfl (by simp only [List.length_singleton, maxLen]; omega) (by show (i + 1) * 4 ≤ _; omega) (fun _ => rfl) (fun v47 => ?_)
        refine D.pure rfl rfl rfl rfl rfl rfl ?_
        refine D.done [(1, [], _), (5, [], _), (6, [], _), (22, [], _), (23, [], _), (24, [], _)] ⟨rfl, rfl, rfl, rfl, rfl, rfl, trivial⟩ (hR _ _ _ rfl ?_); clear hR R
        refine G.region rfl (fun R hR => ?_)
        refine D.i64 _ rfl rfl rfl rfl rfl (by omega) (by omega) rfl rfl ?_
        refine D.pure rfl rfl rfl rfl rfl rfl ?_
        refine D.done [(1, [], _), (5, [], _), (6, [], _), (22, [], _), (23, [], _), (24, [], _)] ⟨rfl, rfl, rfl, rfl, rfl, rfl, trivial⟩ (hR _ _ _ rfl ?_); clear hR R
        refine G.eqL (L' := [.arr v47 112 1 (i + 1) ((out ++ [(gD la i + gD lb i + cy) % B32]).map encW).flatten]) (by simp [encW]) ?_
        refine G.again (m' := la.length - (i + 1)) (by omega) (by (repeat (first | exact Mem.le.refl _ | assumption | (apply Mem.le.trans; rotate_left; assumption)))) (fr' := [(1, [], _), (5, [], _), (6, [], _), (22, [], _), (23, [], _), (24, [], _)]) ⟨rfl, rfl, rfl, rfl, rfl, rfl, trivial⟩ ⟨i + 1, out ++ [(gD la i + gD lb i + cy) % B32], (gD la i + gD lb i + cy) / B32, v47, ⟨by omega, by simp [hol], hod.snoc (Nat.mod_lt _ (by decide)), carry_le (gD_lt hdla i) (gD_lt hdlb i) hcy, add_step hol hval⟩, rfl, rfl, rfl⟩
    · skip
      have hil : i = la.length := by
        have : ¬ i < la.length := by simpa using h25
        omega
      refine G.regionO [(4, 3)] rfl (fun R hR => ?_)
      iterate 2 refine D.pure rfl rfl rfl rfl rfl rfl ?_
      refine D.buildSlice [encW cy] rfl rfl rfl rfl rfl rfl rfl rfl rfl rfl rfl rfl (fun _ => rfl) (fun p51 C51 hle51 hs51 => ?_)
      refine D.append (j := 0) rfl rfl rfl rfl rfl rfl rfl rfl rfl rfl rfl hs51 rfl (by simp only [List.length_singleton, maxLen]; omega) (by show (i + 1) * 4 ≤ _; omega) (fun _ => rfl) (fun v52 => ?_)
      refine D.call (trimO_fn _ _ (out ++ [cy]) (n := i + 1) (by simp [hol])) rfl (.inr (by decide)) rfl rfl rfl rfl rfl rfl (by rw [List.map_append, List.flatten_append]; exact List.Perm.refl _) (fun _ => rfl) (fun v53 C53 L53 hle53 hq53 => ?_)
      obtain ⟨rfl, hu⟩ := hq53
      refine D.pure rfl rfl rfl rfl rfl rfl ?_
      refine D.done [(4, [], _)] ⟨rfl, trivial⟩ (hR _ _ _ rfl ?_); clear hR R
      refine G.retN (G.dropAll (G.fin1 rfl rfl ?_))
      refine ⟨rfl, trimD (out ++ [cy]), trimD_can (hod.snoc (Nat.lt_of_le_of_lt hcy (by decide))), ?_, hu⟩
      rw [trimD_val, valD_snoc, hol, hval, hil, List.take_length, List.take_of_length_le hll, hvv]
end Go.Proofs.YtfelabnohopfdaaGreatDoor
namespace Go.Jog
open Go
theorem ofInt_W {a : Nat} (ha : a < 4294967296) : (BitVec.ofInt 32 (a : Int)).toNat = a := by
  rw [BitVec.ofInt_natCast, BitVec.toNat_ofNat]; exact Nat.mod_eq_of_lt (by omega)
theorem bits_and_W (a b : Nat) (ha : a < 4294967296) (hb : b < 4294967296) : IntKind.u32.wrap ((BitVec.ofInt 32 (a : Int) &&& BitVec.ofInt 32 (b : Int)).toNat : Int) = ((a &&& b : Nat) : Int) := by
  have hx : a &&& b < 2 ^ 32 := Nat.and_lt_two_pow _ (by omega)
  rw [BitVec.toNat_and, ofInt_W ha, ofInt_W hb, IntKind.wrap_u32]
  omega
theorem bits_or_W (a b : Nat) (ha : a < 4294967296) (hb : b < 4294967296) : IntKind.u32.wrap ((BitVec.ofInt 32 (a : Int) ||| BitVec.ofInt 32 (b : Int)).toNat : Int) = ((a ||| b : Nat) : Int) := by
  have hx : a ||| b < 2 ^ 32 := Nat.or_lt_two_pow (by omega) (by omega)
  rw [BitVec.toNat_or, ofInt_W ha, ofInt_W hb, IntKind.wrap_u32]
  omega
theorem bits_xor_W (a b : Nat) (ha : a < 4294967296) (hb : b < 4294967296) : IntKind.u32.wrap ((BitVec.ofInt 32 (a : Int) ^^^ BitVec.ofInt 32 (b : Int)).toNat : Int) = ((a ^^^ b : Nat) : Int) := by
  have hx : a ^^^ b < 2 ^ 32 := Nat.xor_lt_two_pow (by omega) (by omega)
  rw [BitVec.toNat_xor, ofInt_W ha, ofInt_W hb, IntKind.wrap_u32]
  omega
section
variable {cx : Cx} {n : Nat} {ds : List (Option Nat)} {R : Rg n ds} {its : List It} {fr : Fr} {C : Mem} {L : List Ent} {i k d : Nat} {o : Oper} {g : GL}
theorem D.andW (a b : Nat) {t ty : Nat} {x y : Operand} {p q : Int} (hk : Nat.ble k 1 = true) (hd : o.dst = some d) (hop : o.op = .binOp .and t x y ty) (hg : gOf ds fr o.guard = some g) (hx : ev fr g x = some (.int .u32 p)) (hy : ev fr g y = some (.int .u32 q))
    (hpa : p = a) (hqb : q = b) (ha : a < 4294967296) (hb : b < 4294967296) (hp : okPut n ds ((d, g, .int .u32 ((a &&& b : Nat) : Int)) :: fr) d = true) (hwf : wfG ds fr g = true)
    (h : D cx R its ((d, g, .int .u32 ((a &&& b : Nat) : Int)) :: fr) C L) : D cx R ((i, k, o) :: its) fr C L :=
  D.run _ hk hd hg (fun _ A hs w => by
    subst hpa hqb
    rw [exec_binOp hop (hs _ _ hx) (hs _ _ hy) (fun _ _ => .inl (by simp)) (.inl (by simp)) w]
    have e : IntKind.u32.wrap ((BitVec.ofInt 32 (a : Int) &&& BitVec.ofInt 32 (b : Int)).toNat : Int) = ((a &&& b : Nat) : Int) := bits_and_W a b ha hb
    simp [binOp, Op.intBits, IntKind.bits]
    exact e) hp hwf h
theorem D.orW (a b : Nat) {t ty : Nat} {x y : Operand} {p q : Int} (hk : Nat.ble k 1 = true) (hd : o.dst = some d) (hop : o.op = .binOp .or t x y ty) (hg : gOf ds fr o.guard = some g) (hx : ev fr g x = some (.int .u32 p)) (hy : ev fr g y = some (.int .u32 q))
    (hpa : p = a) (hqb : q = b) (ha : a < 4294967296) (hb : b < 4294967296) (hp : okPut n ds ((d, g, .int .u32 ((a ||| b : Nat) : Int)) :: fr) d = true) (hwf : wfG ds fr g = true)
    (h : D cx R its ((d, g, .int .u32 ((a ||| b : Nat) : Int)) :: fr) C L) : D cx R ((i, k, o) :: its) fr C L :=
  D.run _ hk hd hg (fun _ A hs w => by
    subst hpa hqb
    rw [exec_binOp hop (hs _ _ hx) (hs _ _ hy) (fun _ _ => .inl (by simp)) (.inl (by simp)) w]
    have e : IntKind.u32.wrap ((BitVec.ofInt 32 (a : Int) ||| BitVec.ofInt 32 (b : Int)).toNat : Int) = ((a ||| b : Nat) : Int) := bits_or_W a b ha hb
    simp [binOp, Op.intBits, IntKind.bits]
    exact e) hp hwf h
theorem D.xorW (a b : Nat) {t ty : Nat} {x y : Operand} {p q : Int} (hk : Nat.ble k 1 = true) (hd : o.dst = some d) (hop : o.op = .binOp .xor t x y ty) (hg : gOf ds fr o.guard = some g) (hx : ev fr g x = some (.int .u32 p)) (hy : ev fr g y = some (.int .u32 q))
    (hpa : p = a) (hqb : q = b) (ha : a < 4294967296) (hb : b < 4294967296) (hp : okPut n ds ((d, g, .int .u32 ((a ^^^ b : Nat) : Int)) :: fr) d = true) (hwf : wfG ds fr g = true)
    (h : D cx R its ((d, g, .int .u32 ((a ^^^ b : Nat) : Int)) :: fr) C L) : D cx R ((i, k, o) :: its) fr C L :=
  D.run _ hk hd hg (fun _ A hs w => by
    subst hpa hqb
    rw [exec_binOp hop (hs _ _ hx) (hs _ _ hy) (fun _ _ => .inl (by simp)) (.inl (by simp)) w]
    have e : IntKind.u32.wrap ((BitVec.ofInt 32 (a : Int) ^^^ BitVec.ofInt 32 (b : Int)).toNat : Int) = ((a ^^^ b : Nat) : Int) := bits_xor_W a b ha hb
    simp [binOp, Op.intBits, IntKind.bits]
    exact e) hp hwf h
end
end Go.Jog
namespace Go.Proofs.YtfelabnohopfdaaGreatDoor
open Go Go.Jog
set_option maxRecDepth 100000

theorem valD_odd (l : List Nat) : valD l % 2 = gD l 0 % 2 := by
  cases l with
  | nil => rfl
  | cons x l =>
    show (x + 4294967296 * valD l) % 2 = x % 2
    omega
theorem odd_fn (C : Mem) (v : Value) (l : List Nat) (hv : Sl C 1 v (l.map encW)) (hd : DigD l) : Gives cx.P 84 [v] C (.bool (decide (valD l % 2 = 1))) := by
  obtain ⟨A0, c0, rfl, _⟩ := id hv
  simp only [List.length_map] at hv ⊢
  have hg0 := gD_lt hd 0
  have hB : B32 = 4294967296 := rfl
  have hrow : 0 < l.length → (l.map encW)[(0 : Int).toNat]? = some (encW (gD l 0)) := fun h => by
    rw [show (0 : Int).toNat = 0 from rfl, List.getElem?_map, List.getElem?_eq_getElem h, gD_some (List.getElem?_eq_getElem h)]; rfl
  refine Fn.intro (by kernel_rfl) Tryz.func84 rfl 13 rfl rfl (fun w0 => ?_)
  refine G.region rfl (fun R hR => ?_)
  refine D.pure rfl rfl rfl rfl rfl rfl ?_
  refine D.done [(0, [], _)] ⟨rfl, trivial⟩ (hR _ _ _ rfl ?_); clear hR R
  refine G.region rfl (fun R hR => ?_)
  iterate 5 refine D.pure rfl rfl rfl rfl rfl rfl ?_
  refine D.index rfl rfl rfl rfl rfl rfl rfl rfl rfl rfl (fun hg => ⟨hv, (by have h : decide ((0 : Int) < (l.length : Int)) = true := hg.1; simp at h; omega), hrow (by have h : decide ((0 : Int) < (l.length : Int)) = true := hg.1; simp at h; omega)⟩) (fun _ => rfl) rfl (fun p8 hp8 => ?_)
  refine D.loadP rfl rfl rfl rfl rfl rfl hp8 rfl rfl rfl ?_
  refine D.andW ((gD l 0)) (1) rfl rfl rfl rfl rfl rfl rfl rfl (by omega) (by omega) rfl rfl ?_
  refine D.pure rfl rfl rfl rfl rfl rfl ?_
  refine D.pickAnd rfl rfl rfl rfl rfl rfl rfl rfl ?_
  refine D.pure rfl rfl rfl rfl rfl rfl ?_
  refine D.done [(2, [], _)] ⟨rfl, trivial⟩ (hR _ _ _ rfl ?_); clear hR R
  refine G.retN (G.dropAll (G.fin1 rfl rfl ?_))
  refine ⟨?_, rfl⟩
  rw [valD_odd, Nat.and_one_is_mod]
  cases l with
  | nil => rfl
  | cons x l =>
    have h1 : decide ((0 : Int) < ((x :: l).length : Nat)) = true := by simp
    rw [h1, Bool.true_and]
    congr 1
    rw [Bool.eq_iff_iff, beq_iff_eq, decide_eq_true_eq]
    omega
end Go.Proofs.YtfelabnohopfdaaGreatDoor
namespace Go.Jog
open Go
section
variable {cx : Cx} {n : Nat} {ds : List (Option Nat)} {R : Rg n ds} {its : List It} {fr : Fr} {C : Mem} {L : List Ent} {i k d : Nat} {o : Oper} {g : GL}
theorem D.shlW (a m : Nat) {kj : IntKind} {t ty : Nat} {x y : Operand} {p q : Int} (hk : Nat.ble k 1 = true) (hd : o.dst = some d) (hop : o.op = .binOp .shl t x y ty) (hg : gOf ds fr o.guard = some g) (hx : ev fr g x = some (.int .u32 p)) (hy : ev fr g y = some (.int kj q))
    (hpa : p = a) (hq : q = m) (hm : m ≤ 31) (hp : okPut n ds ((d, g, .int .u32 ((a * 2 ^ m % 4294967296 : Nat) : Int)) :: fr) d = true) (hwf : wfG ds fr g = true)
    (h : D cx R its ((d, g, .int .u32 ((a * 2 ^ m % 4294967296 : Nat) : Int)) :: fr) C L) : D cx R ((i, k, o) :: its) fr C L :=
  D.run _ hk hd hg (fun _ A hs w => by
    subst hpa hq
    rw [exec_binOp hop (hs _ _ hx) (hs _ _ hy) (fun _ _ => .inl (by simp)) (.inl (by simp)) w]
    have h0 : ¬ ((m : Int) < 0) := by omega
    have hmin : Min.min m 32 = m := by omega
    have e : IntKind.u32.wrap ((a : Int) * 2 ^ m) = ((a * 2 ^ m % 4294967296 : Nat) : Int) := by
      have e1 : (a : Int) * 2 ^ m = ((a * 2 ^ m : Nat) : Int) := by norm_cast
      rw [e1, IntKind.wrap_u32]
      omega
    simp only [binOp, Op.shift, h0, if_false, Int.toNat_natCast, IntKind.bits, hmin, Sem.run_pure, Result.andThen_ok]
    rw [e]) hp hwf h
end
end Go.Jog
namespace Go.Proofs.YtfelabnohopfdaaGreatDoor
open Go Go.Jog
set_option maxRecDepth 100000

abbrev qW (b n c : Nat) : Value := .slice (some ⟨b, 0, none⟩) n c
theorem half_or {x y : Nat} (hx : x < 4294967296) : x / 2 ^ 1 ||| y * 2 ^ 31 % 4294967296 = x / 2 + y % 2 * 2147483648 := by
  have e : y * 2 ^ 31 % 4294967296 = 2 ^ 31 * (y % 2) := by omega
  rw [e, Nat.or_comm, ← Nat.two_pow_add_eq_or_of_lt (by omega)]
  omega
theorem zrow_W (n : Nat) : zrow [Value.int .u32 0] n = ((List.replicate n 0).map encW).flatten := by
  rw [zrow_flatten, List.map_replicate]; rfl
theorem set_take {l : List Nat} {i z : Nat} (h : i < l.length) : (l.set i z).take (i + 1) = l.take i ++ [z] := by
  rw [List.take_add_one, List.take_set_of_le (Nat.le_refl _), List.getElem?_set_self h]; rfl
set_option maxHeartbeats 1000000 in
theorem half_fn (C : Mem) (v : Value) (l : List Nat) (hv : Sl C 1 v (l.map encW)) (hd : DigD l) (hl : l.length ≤ 100000000) : Pur cx.P 85 [v] C fun u C' => NatC C' u (valD l / 2) := by
  obtain ⟨A0, c0, rfl, _⟩ := id hv
  simp only [List.length_map] at hv ⊢
  have hB : B32 = 4294967296 := rfl
  refine Fn.intro (by kernel_rfl) Tryz.func85 rfl 41 rfl rfl (fun w0 => ?_)
  refine G.region rfl (fun R hR => ?_)
  refine D.pure rfl rfl rfl rfl rfl rfl ?_
  refine D.done [(0, [], _)] ⟨rfl, trivial⟩ (hR _ _ _ rfl ?_); clear hR R
  refine G.region rfl (fun R hR => ?_)
  iterate 2 refine D.pure rfl rfl rfl rfl rfl rfl ?_
  refine D.makeArr rfl rfl rfl rfl rfl rfl rfl rfl rfl (Nat.le_refl _) (by show 4 * l.length ≤ 281474976710656; omega) (by simp only [maxLen]; omega) (fun _ => rfl) (fun b8 => ?_)
  refine D.pure rfl rfl rfl rfl rfl rfl ?_
  refine D.done [(0, [], _), (3, [], _)] ⟨rfl, rfl, trivial⟩ (hR _ _ _ rfl ?_); clear hR R
  refine G.region rfl (fun R hR => ?_)
  iterate 3 refine D.pure rfl rfl rfl rfl rfl rfl ?_
  refine D.done [(0, [], _), (3, [], _), (9, [], _), (10, [], _), (11, [], _)] ⟨rfl, rfl, rfl, rfl, rfl, trivial⟩ (hR _ _ _ rfl ?_); clear hR R
  refine G.eqL (L' := [.arr (qW b8 l.length l.length) 112 1 l.length ((List.replicate l.length 0).map encW).flatten]) (by rw [← zrow_W]; rfl) ?_
  refine G.loop (fun fr C' L' μ => ∃ (i : Nat) (o : List Nat), (i ≤ l.length ∧ o.length = l.length ∧ DigD o ∧ 2 * valD (o.take i) + gD l 0 % 2 = valD (l.take i) + B32 ^ i * (gD l i % 2)) ∧ fr = [(0, [], .slice A0 l.length c0), (3, [], qW b8 l.length l.length), (9, [], .slice A0 l.length c0), (10, [], .int .i64 l.length), (11, [], .int .i64 i)] ∧ L' = [.arr (qW b8 l.length l.length) 112 1 l.length (o.map encW).flatten] ∧ μ = l.length - i) (fr' := [(0, [], _), (3, [], _), (9, [], _), (10, [], _), (11, [], _)]) ⟨rfl, rfl, rfl, rfl, rfl, trivial⟩ ⟨0, List.replicate l.length 0, ⟨Nat.zero_le _, List.length_replicate, (fun x hx => by rw [List.eq_of_mem_replicate hx]; decide), by simp [valD]⟩, rfl, rfl, rfl⟩ (fun fr C0' L0' m hle0 hI => ?_)
  obtain ⟨i, o, ⟨hi, hol, hod, hval⟩, rfl, rfl, rfl⟩ := hI
  refine G.region rfl (fun R hR => ?_)
  refine D.pure rfl rfl rfl rfl rfl rfl ?_
  refine D.done [(0, [], _), (3, [], _), (9, [], _), (10, [], _), (11, [], _), (12, [], _)] ⟨rfl, rfl, rfl, rfl, rfl, rfl, trivial⟩ (hR _ _ _ rfl ?_); clear hR R
  refine G.cond rfl (fun h12 => ?_) (fun h12 => ?_)
  · skip
    have hil : i < l.length := by simpa using h12
    have hra : (l.map encW)[i]? = some (encW (gD l i)) := by rw [List.getElem?_map, List.getElem?_eq_getElem hil, gD_some (List.getElem?_eq_getElem hil)]; rfl
    have hx := gD_lt hd i
    have hy := gD_lt hd (i + 1)
    refine G.region rfl (fun R hR => ?_)
    refine D.pure rfl rfl rfl rfl rfl rfl ?_
    refine D.index0 (hv.mono (by (repeat (first | exact Mem.le.refl _ | assumption | (apply Mem.le.trans; rotate_left; assumption))))) rfl rfl rfl rfl rfl rfl rfl rfl rfl rfl (by omega) hra (fun _ => rfl) (fun p14 hp14 => ?_)
    refine D.loadP0 hp14 rfl rfl rfl rfl rfl rfl rfl rfl ?_
    iterate 2 refine D.pure rfl rfl rfl rfl rfl rfl ?_
    refine D.done [(0, [], _), (3, [], _), (4, [], _), (5, [], _), (9, [], _), (10, [], _), (11, [], _)] ⟨rfl, rfl, rfl, rfl, rfl, rfl, rfl, trivial⟩ (hR _ _ _ rfl ?_); clear hR R
    refine G.region rfl (fun R hR => ?_)
    iterate 3 refine D.pure rfl rfl rfl rfl rfl rfl ?_
    refine D.shrW ((gD l i)) (1) rfl rfl rfl rfl rfl rfl rfl rfl (by omega) rfl rfl ?_
    refine D.indexS (i * 1) rfl rfl rfl rfl rfl rfl rfl rfl rfl rfl (fun _ => ⟨by omega, by omega, rfl⟩) rfl rfl ?_
    refine D.storeArr (j := 0) rfl rfl rfl rfl rfl rfl rfl rfl rfl rfl rfl (by show i * 1 + 1 ≤ _; rw [rows_len encW_len, hol]; omega) ?_
    refine D.done [(0, [], _), (3, [], _), (4, [], _), (9, [], _), (10, [], _), (11, [], _)] ⟨rfl, rfl, rfl, rfl, rfl, rfl, trivial⟩ (hR _ _ _ rfl ?_); clear hR R
    refine G.eqL (L' := [.arr (qW b8 l.length l.length) 112 1 l.length ((o.set i (gD l i / 2 ^ 1)).map encW).flatten]) (by rw [← row_write encW_len _ (by omega : i < o.length)]; rfl) ?_
    refine G.region rfl (fun R hR => ?_)
    refine D.pure rfl rfl rfl rfl rfl rfl ?_
    refine D.i64 _ rfl rfl rfl rfl rfl (by omega) (by omega) rfl rfl ?_
    iterate 3 refine D.pure rfl rfl rfl rfl rfl rfl ?_
    refine D.done [(0, [], _), (3, [], _), (4, [], _), (9, [], _), (10, [], _), (11, [], _), (25, [], _)] ⟨rfl, rfl, rfl, rfl, rfl, rfl, rfl, trivial⟩ (hR _ _ _ rfl ?_); clear hR R
    refine G.cond rfl (fun h25 => ?_) (fun h25 => ?_)
    · skip
      have hil2 : i + 1 < l.length := by
        have : (i : Int) + 1 < l.length := by simpa using h25
        omega
      have hrb : (l.map encW)[((i : Int) + 1).toNat]? = some (encW (gD l (i + 1))) := by
        rw [show ((i : Int) + 1).toNat = i + 1 by omega, List.getElem?_map, List.getElem?_eq_getElem hil2, gD_some (List.getElem?_eq_getElem hil2)]; rfl
      have hz : (o.set i (gD l i / 2 ^ 1))[i]? = some (gD l i / 2 ^ 1) := List.getElem?_set_self (by omega)
      refine G.draw [0, 1, 2, 3, 4, 5, 6, 7, 8, 9, 10, 11, 12] [] rfl (by kernel_rfl) (fun R hB hR => ?_)
      iterate 2 refine D.pure rfl rfl rfl rfl rfl rfl ?_
      refine D.indexS (i * 1) rfl rfl rfl rfl rfl rfl rfl rfl rfl rfl (fun _ => ⟨by omega, by omega, rfl⟩) rfl rfl ?_
      refine D.loadArr (.head _) rfl rfl rfl rfl rfl rfl (fun _ => (by rw [row_read encW_len hz]; rfl)) rfl rfl ?_
      iterate 2 refine D.pure rfl rfl rfl rfl rfl rfl ?_
      refine D.i64 _ rfl rfl rfl rfl rfl (by omega) (by omega) rfl rfl ?_
      refine D.index0 (hv.mono (by (repeat (first | exact Mem.le.refl _ | assumption | (apply Mem.le.trans; rotate_left; assumption))))) rfl rfl rfl rfl rfl rfl rfl rfl rfl rfl (by omega) hrb (fun _ => rfl) (fun p33 hp33 => ?_)
      refine D.loadP0 hp33 rfl rfl rfl rfl rfl rfl rfl rfl ?_
      refine D.shlW ((gD l (i + 1))) (31) rfl rfl rfl rfl rfl rfl rfl rfl (by omega) rfl rfl ?_
      refine D.orW ((gD l i / 2 ^ 1)) ((gD l (i + 1) * 2 ^ 31 % 4294967296)) rfl rfl rfl rfl rfl rfl rfl rfl (by omega) (by omega) rfl rfl ?_
      refine D.indexS (i * 1) rfl rfl rfl rfl rfl rfl rfl rfl rfl rfl (fun _ => ⟨by omega, by omega, rfl⟩) rfl rfl ?_
      refine D.storeArr (j := 0) rfl rfl rfl rfl rfl rfl rfl rfl rfl rfl rfl (by show i * 1 + 1 ≤ _; rw [rows_len encW_len, List.length_set, hol]; omega) ?_
      refine D.done [(0, [], _), (3, [], _), (9, [], _), (10, [], _), (11, [], _)] ⟨rfl, rfl, rfl, rfl, rfl, trivial⟩ (hR _ _ _ rfl ?_); clear hR hB R
      refine G.region rfl (fun R hR => ?_)
      refine D.i64 _ rfl rfl rfl rfl rfl (by omega) (by omega) rfl rfl ?_
      refine D.pure rfl rfl rfl rfl rfl rfl ?_
      refine D.done [(0, [], _), (3, [], _), (9, [], _), (10, [], _), (11, [], _)] ⟨rfl, rfl, rfl, rfl, rfl, trivial⟩ (hR _ _ _ rfl ?_); clear hR R
      rw [half_or hx]
      refine G.eqL (L' := [.arr (qW b8 l.length l.length) 112 1 l.length (((o.set i (gD l i / 2 ^ 1)).set i (gD l i / 2 + gD l (i + 1) % 2 * 2147483648)).map encW).flatten]) (by rw [← row_write encW_len (l := o.set i (gD l i / 2 ^ 1)) (i := i) (gD l i / 2 + gD l (i + 1) % 2 * 2147483648) (by simp; omega)]; rfl) ?_
      rw [List.set_set]
      refine G.again (m' := l.length - (i + 1)) (by omega) (by (repeat (first | exact Mem.le.refl _ | assumption | (apply Mem.le.trans; rotate_left; assumption)))) (fr' := [(0, [], _), (3, [], _), (9, [], _), (10, [], _), (11, [], _)]) ⟨rfl, rfl, rfl, rfl, rfl, trivial⟩ ⟨i + 1, o.set i (gD l i / 2 + gD l (i + 1) % 2 * 2147483648), ⟨by omega, by simp [hol], hod.set (by omega), by rw [set_take (by omega)]; exact half_step (by rw [List.length_take]; omega) hval⟩, rfl, rfl, rfl⟩
    · skip
      have hz : gD l (i + 1) = 0 := by
        have h : ¬ (i : Int) + 1 < l.length := by simpa using h25
        unfold gD
        rw [List.getD_eq_getElem?_getD, List.getElem?_eq_none (by omega)]; rfl
      refine G.region rfl (fun R hR => ?_)
      refine D.i64 _ rfl rfl rfl rfl rfl (by omega) (by omega) rfl rfl ?_
      refine D.pure rfl rfl rfl rfl rfl rfl ?_
      refine D.done [(0, [], _), (3, [], _), (9, [], _), (10, [], _), (11, [], _)] ⟨rfl, rfl, rfl, rfl, rfl, trivial⟩ (hR _ _ _ rfl ?_); clear hR R
      rw [show gD l i / 2 ^ 1 = gD l i / 2 + gD l (i + 1) % 2 * 2147483648 by rw [hz]; simp]
      refine G.again (m' := l.length - (i + 1)) (by omega) (by (repeat (first | exact Mem.le.refl _ | assumption | (apply Mem.le.trans; rotate_left; assumption)))) (fr' := [(0, [], _), (3, [], _), (9, [], _), (10, [], _), (11, [], _)]) ⟨rfl, rfl, rfl, rfl, rfl, trivial⟩ ⟨i + 1, o.set i (gD l i / 2 + gD l (i + 1) % 2 * 2147483648), ⟨by omega, by simp [hol], hod.set (by omega), by rw [set_take (by omega)]; exact half_step (by rw [List.length_take]; omega) hval⟩, rfl, rfl, rfl⟩
  · skip
    have hil : i = l.length := by
      have : ¬ i < l.length := by simpa using h12
      omega
    refine G.regionO [(1, 3)] rfl (fun R hR => ?_)
    refine D.pure rfl rfl rfl rfl rfl rfl ?_
    refine D.call (trimO_fn _ _ o hol) rfl (.inr (by decide)) rfl rfl rfl rfl rfl rfl (List.Perm.refl _) (fun _ => rfl) (fun v40 C40 L40 hle40 hq40 => ?_)
    obtain ⟨rfl, hu⟩ := hq40
    refine D.pure rfl rfl rfl rfl rfl rfl ?_
    refine D.done [(2, [], _)] ⟨rfl, trivial⟩ (hR _ _ _ rfl ?_); clear hR R
    refine G.retN (G.dropAll (G.fin1 rfl rfl ?_))
    refine ⟨rfl, trimD o, trimD_can hod, ?_, hu⟩
    have hg : gD l l.length = 0 := by
      unfold gD
      rw [List.getD_eq_getElem?_getD, List.getElem?_eq_none (Nat.le_refl _)]; rfl
    rw [hil, List.take_length, List.take_of_length_le (by omega), hg] at hval
    rw [trimD_val]
    simp at hval
    omega
end Go.Proofs.YtfelabnohopfdaaGreatDoor
namespace Go.Jog
open Go
theorem bits_not_W (a : Nat) (ha : a < 4294967296) : IntKind.u32.wrap ((BitVec.ofInt 32 (4294967295 : Int) ^^^ BitVec.ofInt 32 (a : Int)).toNat : Int) = ((4294967295 - a : Nat) : Int) := by
  have e : (BitVec.ofInt 32 (4294967295 : Int) ^^^ BitVec.ofInt 32 (a : Int)) = ~~~ (BitVec.ofInt 32 (a : Int)) := by
    have h1 : BitVec.ofInt 32 (4294967295 : Int) = BitVec.allOnes 32 := by decide
    rw [h1, BitVec.allOnes_xor]
  rw [e, BitVec.toNat_not, ofInt_W ha, IntKind.wrap_u32]
  omega
section
variable {cx : Cx} {n : Nat} {ds : List (Option Nat)} {R : Rg n ds} {its : List It} {fr : Fr} {C : Mem} {L : List Ent} {i k d : Nat} {o : Oper} {g : GL}
theorem exec_unOp {P : Program} {a : Act} {o : Oper} {op : UnOp} {t : Nat} {x : Operand} {u : Value} (hop : o.op = .unOp op t x) (hx : a.eval x = u) (w : World) :
    (execOp a.eval o).run P w = ((Op.unary op u).run P w).andThen fun r w' => .ok (.value r) w' := by
  have e1 : execOp a.eval o = (Op.unary op (a.eval x) >>= fun r => Pure.pure (.value r)) := by
    obtain ⟨dst, op', ty', pos, after, guard⟩ := o
    simp only at hop
    subst hop
    rfl
  rw [e1, hx]
  simp only [Sem.run_bind, Sem.run_pure]
theorem D.notW (a : Nat) {t : Nat} {x : Operand} {p : Int} (hk : Nat.ble k 1 = true) (hd : o.dst = some d) (hop : o.op = .unOp .xor t x) (hg : gOf ds fr o.guard = some g) (hx : ev fr g x = some (.int .u32 p))
    (hpa : p = a) (ha : a < 4294967296) (hp : okPut n ds ((d, g, .int .u32 ((4294967295 - a : Nat) : Int)) :: fr) d = true) (hwf : wfG ds fr g = true)
    (h : D cx R its ((d, g, .int .u32 ((4294967295 - a : Nat) : Int)) :: fr) C L) : D cx R ((i, k, o) :: its) fr C L :=
  D.run _ hk hd hg (fun _ A hs w => by
    subst hpa
    rw [exec_unOp hop (hs _ _ hx) w]
    have e := bits_not_W a ha
    simp [Op.unary, Op.intBits, IntKind.bits, IntKind.signed, IntKind.max]
    exact e) hp hwf h
end
theorem top_and (a b : Nat) : (a &&& b) / 2 ^ 31 = (a / 2 ^ 31) &&& (b / 2 ^ 31) := by
  rw [← Nat.shiftRight_eq_div_pow, ← Nat.shiftRight_eq_div_pow, ← Nat.shiftRight_eq_div_pow, Nat.shiftRight_and_distrib]
theorem top_or (a b : Nat) : (a ||| b) / 2 ^ 31 = (a / 2 ^ 31) ||| (b / 2 ^ 31) := by
  rw [← Nat.shiftRight_eq_div_pow, ← Nat.shiftRight_eq_div_pow, ← Nat.shiftRight_eq_div_pow, Nat.shiftRight_or_distrib]
theorem top_xor (a b : Nat) : (a ^^^ b) / 2 ^ 31 = (a / 2 ^ 31) ^^^ (b / 2 ^ 31) := by
  rw [← Nat.shiftRight_eq_div_pow, ← Nat.shiftRight_eq_div_pow, ← Nat.shiftRight_eq_div_pow, Nat.shiftRight_xor_distrib]
theorem borrow_bit {x y c : Nat} (hx : x < B32) (hy : y < B32) (hc : c ≤ 1) :
    (((4294967295 - x) &&& y) ||| ((4294967295 - (x ^^^ y)) &&& difD x y c)) / 2 ^ 31 = borD x y c := by
  have hxy : x ^^^ y < 2 ^ 32 := Nat.xor_lt_two_pow (show x < 2 ^ 32 from hx) (show y < 2 ^ 32 from hy)
  have hd := difD_lt hx hy hc
  rw [top_or, top_and, top_and]
  have e1 : (4294967295 - (x ^^^ y)) / 2 ^ 31 = 1 - (x / 2 ^ 31 ^^^ y / 2 ^ 31) := by
    rw [← top_xor]; omega
  have e2 : (4294967295 - x) / 2 ^ 31 = 1 - x / 2 ^ 31 := by
    have : x < 4294967296 := hx
    omega
  rw [e1, e2]
  have hX : x / 2 ^ 31 ≤ 1 := by have : x < 4294967296 := hx; omega
  have hY : y / 2 ^ 31 ≤ 1 := by have : y < 4294967296 := hy; omega
  have hD : difD x y c / 2 ^ 31 ≤ 1 := by have : difD x y c < 4294967296 := hd; omega
  have hb : borD x y c = if x < y + c then 1 else 0 := rfl
  have hdv : difD x y c = x + 4294967296 * borD x y c - y - c := rfl
  generalize difD x y c = d at *
  have hx' : x < 4294967296 := hx
  have hy' : y < 4294967296 := hy
  rcases Nat.le_one_iff_eq_zero_or_eq_one.1 hX with h1 | h1 <;> rcases Nat.le_one_iff_eq_zero_or_eq_one.1 hY with h2 | h2 <;> rcases Nat.le_one_iff_eq_zero_or_eq_one.1 hD with h3 | h3 <;> rw [h1, h2, h3] <;> simp only [Nat.reducePow, Nat.reduceSub, Nat.reduceXor, Nat.reduceAnd, Nat.reduceOr] <;> split at hb <;> omega
/-- At most k parts of 32 bits. -/
def Sm (k n : Nat) : Prop := n < B32 ^ k
theorem Sm.mono {k n m : Nat} (h : Sm k n) (hm : m ≤ n) : Sm k m := Nat.lt_of_le_of_lt hm h
theorem Sm.le {k j n : Nat} (h : Sm k n) (hk : k ≤ j) : Sm j n := Nat.lt_of_lt_of_le h (Nat.pow_le_pow_right (by decide) hk)
theorem Sm.mul {j k m n : Nat} (hm : Sm j m) (hn : Sm k n) : Sm (j + k) (m * n) := by
  unfold Sm at *
  rw [Nat.pow_add]
  exact Nat.mul_lt_mul'' hm hn
theorem Sm.add {k m n : Nat} (hm : Sm k m) (hn : Sm k n) : Sm (k + 1) (m + n) := by
  unfold Sm at *
  rw [Nat.pow_succ]
  have : B32 ^ k * 2 ≤ B32 ^ k * B32 := Nat.mul_le_mul_left _ (by decide)
  omega
theorem Sm.len {k : Nat} {l : List Nat} (h : Sm k (valD l)) (hl : CanD l) : l.length ≤ k := by
  apply Classical.byContradiction
  intro hh
  have h1 := can_low hl (by omega)
  have h2 : B32 ^ k ≤ B32 ^ (l.length - 1) := Nat.pow_le_pow_right (by decide) (by omega)
  unfold Sm at h
  omega
theorem Sm.one {n : Nat} (h : n < B32) : Sm 1 n := by unfold Sm; rw [Nat.pow_one]; exact h
theorem Sm.pos {k n : Nat} (h : Sm k n) (hn : 0 < n) : 0 < k := by
  cases k with
  | zero => unfold Sm at h; rw [Nat.pow_zero] at h; omega
  | succ k => omega
end Go.Jog
namespace Go.Jog
/-- The number of a sign and two parts. -/
def ratB (b : Bool) (n d : Nat) : Rat := mkRat (if b then -(n : Int) else n) d
theorem sgn_abs (b : Bool) (n : Nat) : (if b then -(n : Int) else n).natAbs = n := by cases b <;> simp
theorem ratB_num {b : Bool} {n d : Nat} (hd : d ≠ 0) : (ratB b n d).num = if b then -((n / Nat.gcd n d : Nat) : Int) else ((n / Nat.gcd n d : Nat) : Int) := by
  unfold ratB
  rw [Rat.num_mkRat, if_neg hd, sgn_abs, Nat.gcd_comm]
  cases b with
  | false => simp
  | true =>
    simp only [if_true]
    rw [Int.neg_ediv_of_dvd (Int.natCast_dvd_natCast.2 (Nat.gcd_dvd_left n d)), Int.natCast_ediv]
theorem ratB_abs {b : Bool} {n d : Nat} (hd : d ≠ 0) : (ratB b n d).num.natAbs = n / Nat.gcd n d := by
  rw [ratB_num hd, sgn_abs]
theorem ratB_den {b : Bool} {n d : Nat} (hd : d ≠ 0) : (ratB b n d).den = d / Nat.gcd n d := by
  unfold ratB
  rw [Rat.den_mkRat, if_neg hd, sgn_abs, Nat.gcd_comm]
theorem ratB_neg {b : Bool} {n d : Nat} (hd : d ≠ 0) (hn : n ≠ 0) : decide ((ratB b n d).num < 0) = b := by
  have h1 : 0 < n / Nat.gcd n d := Nat.div_pos (Nat.le_of_dvd (by omega) (Nat.gcd_dvd_left n d)) (Nat.gcd_pos_of_pos_left _ (by omega))
  rw [ratB_num hd]
  cases b <;> simp <;> omega
theorem ratB_zero (b : Bool) (d : Nat) : ratB b 0 d = 0 := by unfold ratB; cases b <;> simp
def sgI (b : Bool) (n : Nat) : Int := if b then -(n : Int) else n
theorem num_sg (q : Rat) : q.num = sgI (decide (q.num < 0)) q.num.natAbs := by
  unfold sgI
  by_cases h : q.num < 0
  · simp only [h, decide_true, if_true]; omega
  · simp only [h, decide_false]; simp; omega
theorem sgI_mul (b : Bool) (n m : Nat) : sgI b n * m = sgI b (n * m) := by unfold sgI; cases b <;> simp [Int.neg_mul]
theorem sgI_mul2 (a b : Bool) (n m : Nat) : sgI a n * sgI b m = sgI (a != b) (n * m) := by
  unfold sgI; cases a <;> cases b <;> simp [Int.neg_mul, Int.mul_neg]
theorem add_same {p q : Rat} (h : decide (p.num < 0) = decide (q.num < 0)) : ratB (decide (p.num < 0)) (p.num.natAbs * q.den + q.num.natAbs * p.den) (p.den * q.den) = p + q := by
  rw [Rat.add_def']
  unfold ratB
  congr 1
  rw [num_sg p, num_sg q, sgI_mul, sgI_mul]
  simp only [← num_sg]
  rw [← h]
  unfold sgI
  cases decide (p.num < 0) <;> simp <;> omega
theorem bne_not {a b : Bool} (h : ¬ a = b) : b = !a := by cases a <;> cases b <;> simp_all
theorem add_up {p q : Rat} (h : ¬ decide (p.num < 0) = decide (q.num < 0)) (hl : q.num.natAbs * p.den ≤ p.num.natAbs * q.den) : ratB (decide (p.num < 0)) (p.num.natAbs * q.den - q.num.natAbs * p.den) (p.den * q.den) = p + q := by
  rw [Rat.add_def']
  unfold ratB
  congr 1
  rw [num_sg p, num_sg q, sgI_mul, sgI_mul]
  simp only [← num_sg]
  rw [bne_not h]
  unfold sgI
  cases decide (p.num < 0) <;> simp <;> omega
theorem add_down {p q : Rat} (h : ¬ decide (p.num < 0) = decide (q.num < 0)) (hl : p.num.natAbs * q.den ≤ q.num.natAbs * p.den) : ratB (decide (q.num < 0)) (q.num.natAbs * p.den - p.num.natAbs * q.den) (p.den * q.den) = p + q := by
  rw [Rat.add_def']
  unfold ratB
  congr 1
  rw [num_sg p, num_sg q, sgI_mul, sgI_mul]
  simp only [← num_sg]
  rw [bne_not h]
  unfold sgI
  cases decide (p.num < 0) <;> simp <;> omega
theorem mul_parts (p q : Rat) : ratB (decide (p.num < 0) != decide (q.num < 0)) (p.num.natAbs * q.num.natAbs) (p.den * q.den) = p * q := by
  rw [Rat.mul_def']
  unfold ratB
  congr 1
  conv => rhs; rw [num_sg p, num_sg q, sgI_mul2]
  rfl
theorem num_nil {q : Rat} : q.num.natAbs = 0 ↔ q = 0 := by rw [Int.natAbs_eq_zero, Rat.num_eq_zero]
/-- Both parts have at most k parts of 32 bits. -/
def SmQ (k : Nat) (q : Rat) : Prop := Sm k q.num.natAbs ∧ Sm k q.den
theorem SmQ.le {k j : Nat} {q : Rat} (h : SmQ k q) (hk : k ≤ j) : SmQ j q := ⟨h.1.le hk, h.2.le hk⟩
theorem SmQ.ratB {k n d : Nat} (b : Bool) (hd : d ≠ 0) (hn : Sm k n) (hm : Sm k d) : SmQ k (ratB b n d) := by
  refine ⟨?_, ?_⟩
  · rw [ratB_abs hd]; exact hn.mono (Nat.div_le_self _ _)
  · rw [ratB_den hd]; exact hm.mono (Nat.div_le_self _ _)
theorem SmQ.neg {k : Nat} {q : Rat} (h : SmQ k q) : SmQ k (-q) := by
  refine ⟨?_, h.2⟩
  rw [Rat.neg_num, Int.natAbs_neg]; exact h.1
theorem den_ne (p q : Rat) : p.den * q.den ≠ 0 := Nat.mul_ne_zero p.den_nz q.den_nz
theorem Sm.mulAdd {j k a b c d : Nat} (ha : Sm j a) (hb : Sm k b) (hc : Sm k c) (hd : Sm j d) : Sm (j + k + 1) (a * b + c * d) := (ha.mul hb).add (by rw [Nat.mul_comm]; exact hd.mul hc)
theorem SmQ.add {j k : Nat} {p q : Rat} (hp : SmQ j p) (hq : SmQ k q) : SmQ (j + k + 1) (p + q) := by
  have hD : Sm (j + k + 1) (p.den * q.den) := (hp.2.mul hq.2).le (by omega)
  have h1 : Sm (j + k + 1) (p.num.natAbs * q.den + q.num.natAbs * p.den) := Sm.mulAdd hp.1 hq.2 hq.1 hp.2
  by_cases h : decide (p.num < 0) = decide (q.num < 0)
  · rw [← add_same h]; exact SmQ.ratB _ (den_ne p q) h1 hD
  · rcases Nat.le_total (q.num.natAbs * p.den) (p.num.natAbs * q.den) with hl | hl
    · rw [← add_up h hl]; exact SmQ.ratB _ (den_ne p q) (h1.mono (by omega)) hD
    · rw [← add_down h hl]; exact SmQ.ratB _ (den_ne p q) (h1.mono (by omega)) hD
theorem SmQ.mul {j k : Nat} {p q : Rat} (hp : SmQ j p) (hq : SmQ k q) : SmQ (j + k) (p * q) := by
  rw [← mul_parts]
  exact SmQ.ratB _ (den_ne p q) (hp.1.mul hq.1) (hp.2.mul hq.2)
theorem SmQ.sub {j k : Nat} {p q : Rat} (hp : SmQ j p) (hq : SmQ k q) : SmQ (j + k + 1) (p - q) := by
  rw [Rat.sub_eq_add_neg]; exact hp.add hq.neg
end Go.Jog
namespace Go.Proofs.YtfelabnohopfdaaGreatDoor
open Go Go.Jog
set_option maxRecDepth 100000

theorem sub32_fn (C : Mem) (x y c : Nat) (hx : x < B32) (hy : y < B32) (hc : c ≤ 1) : Gives cx.P 103 [.int .u32 x, .int .u32 y, .int .u32 c] C (.tuple #[.int .u32 (difD x y c : Nat), .int .u32 (borD x y c : Nat)]) := by
  have hB : B32 = 4294967296 := rfl
  have hd := difD_lt hx hy hc
  have hxy : x ^^^ y < 2 ^ 32 := Nat.xor_lt_two_pow (show x < 2 ^ 32 from hx) (show y < 2 ^ 32 from hy)
  have hx1 : 4294967295 - x < 2 ^ 32 := by omega
  have hx2 : 4294967295 - (x ^^^ y) < 2 ^ 32 := by omega
  have ha1 : (4294967295 - x) &&& y < 2 ^ 32 := Nat.and_lt_two_pow _ (show y < 2 ^ 32 from hy)
  have ha2 : (4294967295 - (x ^^^ y)) &&& difD x y c < 2 ^ 32 := Nat.and_lt_two_pow _ (show difD x y c < 2 ^ 32 from hd)
  refine Fn.intro (by kernel_rfl) Tryz.func103 rfl 25 rfl rfl (fun w0 => ?_)
  refine G.region rfl (fun R hR => ?_)
  iterate 2 refine D.pure rfl rfl rfl rfl rfl rfl ?_
  refine D.done [(0, [], _), (1, [], _), (2, [], _)] ⟨rfl, rfl, rfl, trivial⟩ (hR _ _ _ rfl ?_); clear hR R
  refine G.region rfl (fun R hR => ?_)
  iterate 2 refine D.pure rfl rfl rfl rfl rfl rfl ?_
  refine D.int ((((x + 4294967296 - y) % 4294967296 : Nat) : Int)) rfl rfl rfl rfl (by rw [IntKind.wrap_u32]; omega) rfl rfl ?_
  refine D.pure rfl rfl rfl rfl rfl rfl ?_
  refine D.int (((difD x y c : Nat) : Int)) rfl rfl rfl rfl (by rw [IntKind.wrap_u32]; unfold difD borD; split <;> omega) rfl rfl ?_
  refine D.pure rfl rfl rfl rfl rfl rfl ?_
  refine D.done [(0, [], _), (1, [], _), (6, [], _)] ⟨rfl, rfl, rfl, trivial⟩ (hR _ _ _ rfl ?_); clear hR R
  refine G.region rfl (fun R hR => ?_)
  refine D.pure rfl rfl rfl rfl rfl rfl ?_
  refine D.notW (x) rfl rfl rfl rfl rfl rfl (by omega) rfl rfl ?_
  refine D.pure rfl rfl rfl rfl rfl rfl ?_
  refine D.andW ((4294967295 - x)) (y) rfl rfl rfl rfl rfl rfl rfl rfl (by omega) (by omega) rfl rfl ?_
  iterate 2 refine D.pure rfl rfl rfl rfl rfl rfl ?_
  refine D.xorW (x) (y) rfl rfl rfl rfl rfl rfl rfl rfl (by omega) (by omega) rfl rfl ?_
  refine D.notW ((x ^^^ y)) rfl rfl rfl rfl rfl rfl (by omega) rfl rfl ?_
  refine D.pure rfl rfl rfl rfl rfl rfl ?_
  refine D.andW ((4294967295 - (x ^^^ y))) ((difD x y c)) rfl rfl rfl rfl rfl rfl rfl rfl (by omega) (by omega) rfl rfl ?_
  refine D.orW (((4294967295 - x) &&& y)) (((4294967295 - (x ^^^ y)) &&& difD x y c)) rfl rfl rfl rfl rfl rfl rfl rfl (by omega) (by omega) rfl rfl ?_
  refine D.shrW ((((4294967295 - x) &&& y) ||| ((4294967295 - (x ^^^ y)) &&& difD x y c))) (31) rfl rfl rfl rfl rfl rfl rfl rfl (by omega) rfl rfl ?_
  refine D.pure rfl rfl rfl rfl rfl rfl ?_
  refine D.done [(6, [], _), (7, [], _)] ⟨rfl, rfl, trivial⟩ (hR _ _ _ rfl ?_); clear hR R
  refine G.retN (G.dropAll (G.fin2 rfl rfl rfl ?_))
  exact ⟨by rw [borrow_bit hx hy hc], rfl⟩
set_option maxHeartbeats 1000000 in
theorem nsub_fn (C : Mem) (va vb : Value) (a b : List Nat) (ha : Sl C 1 va (a.map encW)) (hb : Sl C 1 vb (b.map encW)) (hda : DigD a) (hdb : DigD b) (hla : a.length ≤ 100000000) (hlb : b.length ≤ a.length) (hle : valD b ≤ valD a) :
    Pur cx.P 64 [va, vb] C fun u C' => NatC C' u (valD a - valD b) := by
  obtain ⟨A0, c0, rfl, _⟩ := id ha
  obtain ⟨B0, d0, rfl, _⟩ := id hb
  simp only [List.length_map] at ha hb ⊢
  refine Fn.intro (by kernel_rfl) Tryz.func64 rfl 43 rfl rfl (fun w0 => ?_)
  refine G.region rfl (fun R hR => ?_)
  refine D.pure rfl rfl rfl rfl rfl rfl ?_
  refine D.done [(0, [], _), (1, [], _)] ⟨rfl, rfl, trivial⟩ (hR _ _ _ rfl ?_); clear hR R
  refine G.region rfl (fun R hR => ?_)
  iterate 2 refine D.pure rfl rfl rfl rfl rfl rfl ?_
  refine D.makeArr rfl rfl rfl rfl rfl rfl rfl rfl rfl (Nat.zero_le _) (by show 4 * a.length ≤ 281474976710656; omega) (by simp only [maxLen]; omega) (fun _ => rfl) (fun b13 => ?_)
  refine D.pure rfl rfl rfl rfl rfl rfl ?_
  refine D.done [(0, [], _), (1, [], _), (5, [], _)] ⟨rfl, rfl, rfl, trivial⟩ (hR _ _ _ rfl ?_); clear hR R
  refine G.region rfl (fun R hR => ?_)
  refine D.pure rfl rfl rfl rfl rfl rfl ?_
  refine D.done [(0, [], _), (1, [], _), (5, [], _), (6, [], _)] ⟨rfl, rfl, rfl, rfl, trivial⟩ (hR _ _ _ rfl ?_); clear hR R
  refine G.region rfl (fun R hR => ?_)
  iterate 3 refine D.pure rfl rfl rfl rfl rfl rfl ?_
  refine D.done [(1, [], _), (5, [], _), (6, [], _), (14, [], _), (15, [], _), (16, [], _)] ⟨rfl, rfl, rfl, rfl, rfl, rfl, trivial⟩ (hR _ _ _ rfl ?_); clear hR R
  refine G.loop (fun fr C' L' μ => ∃ (i : Nat) (out : List Nat) (cy : Nat) (w : Value), (i ≤ a.length ∧ out.length = i ∧ DigD out ∧ cy ≤ 1 ∧ valD out + valD (b.take i) = valD (a.take i) + B32 ^ i * cy) ∧ fr = [(1, [], .slice B0 b.length d0), (5, [], w), (6, [], .int .u32 cy), (14, [], .slice A0 a.length c0), (15, [], .int .i64 a.length), (16, [], .int .i64 i)] ∧ L' = [.arr w 112 1 i (out.map encW).flatten] ∧ μ = a.length - i) (fr' := [(1, [], _), (5, [], _), (6, [], _), (14, [], _), (15, [], _), (16, [], _)]) ⟨rfl, rfl, rfl, rfl, rfl, rfl, trivial⟩ ⟨0, [], 0, _, ⟨Nat.zero_le _, rfl, (fun x hx => (by cases hx)), by omega, rfl⟩, rfl, rfl, rfl⟩ (fun fr C0' L0' m hle0 hI => ?_)
  obtain ⟨i, out, cy, w, ⟨hi, hol, hod, hcy, hval⟩, rfl, rfl, rfl⟩ := hI
  refine G.region rfl (fun R hR => ?_)
  refine D.pure rfl rfl rfl rfl rfl rfl ?_
  refine D.done [(1, [], _), (5, [], _), (6, [], _), (14, [], _), (15, [], _), (16, [], _), (17, [], _)] ⟨rfl, rfl, rfl, rfl, rfl, rfl, rfl, trivial⟩ (hR _ _ _ rfl ?_); clear hR R
  refine G.cond rfl (fun h17 => ?_) (fun h17 => ?_)
  · skip
    have hil : i < a.length := by simpa using h17
    have hra : (a.map encW)[i]? = some (encW (gD a i)) := by rw [List.getElem?_map, List.getElem?_eq_getElem hil, gD_some (List.getElem?_eq_getElem hil)]; rfl
    refine G.region rfl (fun R hR => ?_)
    refine D.pure rfl rfl rfl rfl rfl rfl ?_
    refine D.index0 (ha.mono (by (repeat (first | exact Mem.le.refl _ | assumption | (apply Mem.le.trans; rotate_left; assumption))))) rfl rfl rfl rfl rfl rfl rfl rfl rfl rfl (by omega) hra (fun _ => rfl) (fun p19 hp19 => ?_)
    refine D.loadP0 hp19 rfl rfl rfl rfl rfl rfl rfl rfl ?_
    iterate 2 refine D.pure rfl rfl rfl rfl rfl rfl ?_
    refine D.done [(1, [], _), (5, [], _), (6, [], _), (7, [], _), (8, [], _), (14, [], _), (15, [], _), (16, [], _)] ⟨rfl, rfl, rfl, rfl, rfl, rfl, rfl, rfl, trivial⟩ (hR _ _ _ rfl ?_); clear hR R
    refine G.region rfl (fun R hR => ?_)
    refine D.pure rfl rfl rfl rfl rfl rfl ?_
    refine D.done [(1, [], _), (5, [], _), (6, [], _), (7, [], _), (8, [], _), (9, [], _), (14, [], _), (15, [], _), (16, [], _)] ⟨rfl, rfl, rfl, rfl, rfl, rfl, rfl, rfl, rfl, trivial⟩ (hR _ _ _ rfl ?_); clear hR R
    refine G.region rfl (fun R hR => ?_)
    iterate 4 refine D.pure rfl rfl rfl rfl rfl rfl ?_
    refine D.done [(1, [], _), (5, [], _), (6, [], _), (7, [], _), (8, [], _), (9, [], _), (14, [], _), (15, [], _), (16, [], _), (24, [], _)] ⟨rfl, rfl, rfl, rfl, rfl, rfl, rfl, rfl, rfl, rfl, trivial⟩ (hR _ _ _ rfl ?_); clear hR R
    refine G.cut (fun fr C' L' μ => (True) ∧ fr = [(1, [], .slice B0 b.length d0), (5, [], w), (6, [], .int .u32 cy), (8, [], .int .u32 (gD a i)), (9, [], .int .u32 (gD b i)), (14, [], .slice A0 a.length c0), (15, [], .int .i64 a.length), (16, [], .int .i64 i)] ∧ L' = [.arr w 112 1 i (out.map encW).flatten]) ?_ (fun fr C24 L24 μ hle24 hI => ?_)
    · skip
      refine G.cond rfl (fun h24 => ?_) (fun h24 => ?_)
      · skip
        have hib : i < b.length := by simpa using h24
        have hrb : (b.map encW)[i]? = some (encW (gD b i)) := by rw [List.getElem?_map, List.getElem?_eq_getElem hib, gD_some (List.getElem?_eq_getElem hib)]; rfl
        refine G.region rfl (fun R hR => ?_)
        iterate 2 refine D.pure rfl rfl rfl rfl rfl rfl ?_
        refine D.index0 (hb.mono (by (repeat (first | exact Mem.le.refl _ | assumption | (apply Mem.le.trans; rotate_left; assumption))))) rfl rfl rfl rfl rfl rfl rfl rfl rfl rfl (by omega) hrb (fun _ => rfl) (fun p27 hp27 => ?_)
        refine D.loadP0 hp27 rfl rfl rfl rfl rfl rfl rfl rfl ?_
        refine D.pure rfl rfl rfl rfl rfl rfl ?_
        refine D.done [(1, [], _), (5, [], _), (6, [], _), (8, [], _), (9, [], _), (14, [], _), (15, [], _), (16, [], _)] ⟨rfl, rfl, rfl, rfl, rfl, rfl, rfl, rfl, trivial⟩ (hR _ _ _ rfl ?_); clear hR R
        refine G.meet 0 (Mem.le.refl _) (fr' := [(1, [], _), (5, [], _), (6, [], _), (8, [], _), (9, [], _), (14, [], _), (15, [], _), (16, [], _)]) ⟨rfl, rfl, rfl, rfl, rfl, rfl, rfl, rfl, trivial⟩ ⟨trivial, rfl, rfl⟩
      · skip
        have hz : gD b i = 0 := by
          have h : ¬ i < b.length := by simpa using h24
          unfold gD
          rw [List.getD_eq_getElem?_getD, List.getElem?_eq_none (by omega)]; rfl
        refine G.meet 0 (Mem.le.refl _) (fr' := [(1, [], _), (5, [], _), (6, [], _), (8, [], _), (9, [], _), (14, [], _), (15, [], _), (16, [], _)]) ⟨rfl, rfl, rfl, rfl, rfl, rfl, rfl, rfl, trivial⟩ ⟨trivial, by rw [hz]; rfl, rfl⟩
    · skip
      obtain ⟨htr, rfl, rfl⟩ := hI
      refine G.region rfl (fun R hR => ?_)
      refine D.pure rfl rfl rfl rfl rfl rfl ?_
      refine D.done [(1, [], _), (5, [], _), (6, [], _), (8, [], _), (9, [], _), (14, [], _), (15, [], _), (16, [], _)] ⟨rfl, rfl, rfl, rfl, rfl, rfl, rfl, rfl, trivial⟩ (hR _ _ _ rfl ?_); clear hR R
      refine G.region rfl (fun R hR => ?_)
      iterate 3 refine D.pure rfl rfl rfl rfl rfl rfl ?_
      refine D.gives2 (sub32_fn _ (gD a i) (gD b i) cy (gD_lt hda i) (gD_lt hdb i) hcy) rfl rfl rfl rfl rfl rfl rfl (fun _ => rfl) ?_
      iterate 5 refine D.pure rfl rfl rfl rfl rfl rfl ?_
      refine D.done [(1, [], _), (5, [], _), (6, [], _), (10, [], _), (14, [], _), (15, [], _), (16, [], _)] ⟨rfl, rfl, rfl, rfl, rfl, rfl, rfl, trivial⟩ (hR _ _ _ rfl ?_); clear hR R
      refine G.region rfl (fun R hR => ?_)
      iterate 2 refine D.pure rfl rfl rfl rfl rfl rfl ?_
      refine D.buildSlice [encW (difD (gD a i) (gD b i) cy)] rfl rfl rfl rfl rfl rfl rfl rfl rfl rfl rfl rfl (fun _ => rfl) (fun p38 C38 hle38 hs38 => ?_)
      refine D.append (j := 0) rfl rfl rfl rfl rfl rfl rfl rfl rfl rfl rfl hs38 rfl (by simp only [List.length_singleton, maxLen]; omega) (by show (i + 1) * 4 ≤ _; omega) (fun _ => rfl) (fun v39 => ?_)
      refine D.pure rfl rfl rfl rfl rfl rfl ?_
      refine D.done [(1, [], _), (5, [], _), (6, [], _), (14, [], _), (15, [], _), (16, [], _)] ⟨rfl, rfl, rfl, rfl, rfl, rfl, trivial⟩ (hR _ _ _ rfl ?_); clear hR R
      refine G.region rfl (fun R hR => ?_)
      refine D.i64 _ rfl rfl rfl rfl rfl (by omega) (by omega) rfl rfl ?_
      refine D.pure rfl rfl rfl rfl rfl rfl ?_
      refine D.done [(1, [], _), (5, [], _), (6, [], _), (14, [], _), (15, [], _), (16, [], _)] ⟨rfl, rfl, rfl, rfl, rfl, rfl, trivial⟩ (hR _ _ _ rfl ?_); clear hR R
      refine G.eqL (L' := [.arr v39 112 1 (i + 1) ((out ++ [difD (gD a i) (gD b i) cy]).map encW).flatten]) (by simp [encW]) ?_
      refine G.again (m' := a.length - (i + 1)) (by omega) (by (repeat (first | exact Mem.le.refl _ | assumption | (apply Mem.le.trans; rotate_left; assumption)))) (fr' := [(1, [], _), (5, [], _), (6, [], _), (14, [], _), (15, [], _), (16, [], _)]) ⟨rfl, rfl, rfl, rfl, rfl, rfl, trivial⟩ ⟨i + 1, out ++ [difD (gD a i) (gD b i) cy], borD (gD a i) (gD b i) cy, v39, ⟨by omega, by simp [hol], hod.snoc (difD_lt (gD_lt hda i) (gD_lt hdb i) hcy), borD_le _ _ _, sub_step hdb hcy hol hval⟩, rfl, rfl, rfl⟩
  · skip
    have hil : i = a.length := by
      have : ¬ i < a.length := by simpa using h17
      omega
    refine G.regionO [(1, 3)] rfl (fun R hR => ?_)
    refine D.pure rfl rfl rfl rfl rfl rfl ?_
    refine D.call (trimO_fn _ _ out (n := i) hol) rfl (.inr (by decide)) rfl rfl rfl rfl rfl rfl (List.Perm.refl _) (fun _ => rfl) (fun v42 C42 L42 hle42 hq42 => ?_)
    obtain ⟨rfl, hu⟩ := hq42
    refine D.pure rfl rfl rfl rfl rfl rfl ?_
    refine D.done [(4, [], _)] ⟨rfl, trivial⟩ (hR _ _ _ rfl ?_); clear hR R
    refine G.retN (G.dropAll (G.fin1 rfl rfl ?_))
    refine ⟨rfl, trimD out, trimD_can hod, ?_, hu⟩
    rw [hil, List.take_length, List.take_of_length_le hlb] at hval
    have h0 := valD_lt hod
    rw [hol, hil] at h0
    have hc0 : cy = 0 := by
      rcases Nat.le_one_iff_eq_zero_or_eq_one.1 hcy with h | h
      · exact h
      · rw [h, Nat.mul_one] at hval; omega
    rw [hc0, Nat.mul_zero] at hval
    rw [trimD_val]
    omega
end Go.Proofs.YtfelabnohopfdaaGreatDoor
namespace Go.Proofs.YtfelabnohopfdaaGreatDoor
open Go Go.Jog
set_option maxRecDepth 100000

theorem gD_set_ne {l : List Nat} {i j z : Nat} (h : i ≠ j) : gD (l.set i z) j = gD l j := by
  unfold gD; rw [List.getD_eq_getElem?_getD, List.getD_eq_getElem?_getD, List.getElem?_set_ne h]
theorem gD_get {l : List Nat} {i : Nat} (h : i < l.length) : l[i]? = some (gD l i) := by rw [List.getElem?_eq_getElem h, gD_some (List.getElem?_eq_getElem h)]
theorem gD_zeros (n j : Nat) : gD (List.replicate n 0) j = 0 := by
  unfold gD; rw [List.getD_eq_getElem?_getD, List.getElem?_replicate]; split <;> rfl
set_option maxHeartbeats 2000000 in
theorem nmul_fn (C : Mem) (va vb : Value) (a b : List Nat) (ha : Sl C 1 va (a.map encW)) (hb : Sl C 1 vb (b.map encW)) (hda : DigD a) (hdb : DigD b) (hla : a.length ≤ 10000000) (hlb : b.length ≤ 10000000) :
    Pur cx.P 61 [va, vb] C fun u C' => NatC C' u (valD a * valD b) := by
  obtain ⟨A0, c0, rfl, _⟩ := id ha
  obtain ⟨B0, d0, rfl, _⟩ := id hb
  simp only [List.length_map] at ha hb ⊢
  have hB : B32 = 4294967296 := rfl
  refine Fn.intro (by kernel_rfl) Tryz.func61 rfl 67 rfl rfl (fun w0 => ?_)
  refine G.region rfl (fun R hR => ?_)
  refine D.pure rfl rfl rfl rfl rfl rfl ?_
  refine D.done [(0, [], _), (1, [], _)] ⟨rfl, rfl, trivial⟩ (hR _ _ _ rfl ?_); clear hR R
  refine G.region rfl (fun R hR => ?_)
  iterate 4 refine D.pure rfl rfl rfl rfl rfl rfl ?_
  refine D.i64 (((a.length + b.length : Nat) : Int)) rfl rfl rfl rfl (by omega) (by omega) (by omega) rfl rfl ?_
  refine D.makeArr rfl rfl rfl rfl rfl rfl rfl rfl rfl (Nat.le_refl _) (by show 4 * (a.length + b.length) ≤ 281474976710656; omega) (by simp only [maxLen]; omega) (fun _ => rfl) (fun b16 => ?_)
  refine D.pure rfl rfl rfl rfl rfl rfl ?_
  refine D.done [(0, [], _), (1, [], _), (5, [], _)] ⟨rfl, rfl, rfl, trivial⟩ (hR _ _ _ rfl ?_); clear hR R
  refine G.region rfl (fun R hR => ?_)
  iterate 3 refine D.pure rfl rfl rfl rfl rfl rfl ?_
  refine D.done [(1, [], _), (5, [], _), (17, [], _), (18, [], _), (19, [], _)] ⟨rfl, rfl, rfl, rfl, rfl, trivial⟩ (hR _ _ _ rfl ?_); clear hR R
  refine G.eqL (L' := [.arr (qW b16 (a.length + b.length) (a.length + b.length)) 112 1 (a.length + b.length) ((List.replicate (a.length + b.length) 0).map encW).flatten]) (by rw [← zrow_W]; rfl) ?_
  refine G.loop (fun fr C' L' μ => ∃ (i : Nat) (o : List Nat), (i ≤ a.length ∧ o.length = a.length + b.length ∧ DigD o ∧ valD o = valD (a.take i) * valD b ∧ ∀ j, i + b.length ≤ j → gD o j = 0) ∧ fr = [(1, [], .slice B0 b.length d0), (5, [], qW b16 (a.length + b.length) (a.length + b.length)), (17, [], .slice A0 a.length c0), (18, [], .int .i64 a.length), (19, [], .int .i64 i)] ∧ L' = [.arr (qW b16 (a.length + b.length) (a.length + b.length)) 112 1 (a.length + b.length) (o.map encW).flatten] ∧ μ = a.length - i) (fr' := [(1, [], _), (5, [], _), (17, [], _), (18, [], _), (19, [], _)]) ⟨rfl, rfl, rfl, rfl, rfl, trivial⟩ ⟨0, List.replicate (a.length + b.length) 0, ⟨Nat.zero_le _, List.length_replicate, (fun x hx => by rw [List.eq_of_mem_replicate hx]; decide), by rw [valD_zeros (fun x hx => List.eq_of_mem_replicate hx)]; simp [valD], fun j _ => gD_zeros _ j⟩, rfl, rfl, rfl⟩ (fun fr C0' L0' m hle0 hI => ?_)
  obtain ⟨i, o, ⟨hi, hol, hod, hval, hz⟩, rfl, rfl, rfl⟩ := hI
  refine G.region rfl (fun R hR => ?_)
  refine D.pure rfl rfl rfl rfl rfl rfl ?_
  refine D.done [(1, [], _), (5, [], _), (17, [], _), (18, [], _), (19, [], _), (20, [], _)] ⟨rfl, rfl, rfl, rfl, rfl, rfl, trivial⟩ (hR _ _ _ rfl ?_); clear hR R
  refine G.cond rfl (fun h20 => ?_) (fun h20 => ?_)
  · skip
    have hil : i < a.length := by simpa using h20
    have hra : (a.map encW)[i]? = some (encW (gD a i)) := by rw [List.getElem?_map, List.getElem?_eq_getElem hil, gD_some (List.getElem?_eq_getElem hil)]; rfl
    have hx := gD_lt hda i
    refine G.region rfl (fun R hR => ?_)
    refine D.pure rfl rfl rfl rfl rfl rfl ?_
    refine D.index0 (ha.mono (by (repeat (first | exact Mem.le.refl _ | assumption | (apply Mem.le.trans; rotate_left; assumption))))) rfl rfl rfl rfl rfl rfl rfl rfl rfl rfl (by omega) hra (fun _ => rfl) (fun p22 hp22 => ?_)
    refine D.loadP0 hp22 rfl rfl rfl rfl rfl rfl rfl rfl ?_
    iterate 2 refine D.pure rfl rfl rfl rfl rfl rfl ?_
    refine D.done [(1, [], _), (5, [], _), (6, [], _), (7, [], _), (17, [], _), (18, [], _), (19, [], _)] ⟨rfl, rfl, rfl, rfl, rfl, rfl, rfl, trivial⟩ (hR _ _ _ rfl ?_); clear hR R
    refine G.region rfl (fun R hR => ?_)
    refine D.pure rfl rfl rfl rfl rfl rfl ?_
    refine D.done [(1, [], _), (5, [], _), (6, [], _), (7, [], _), (8, [], _), (17, [], _), (18, [], _), (19, [], _)] ⟨rfl, rfl, rfl, rfl, rfl, rfl, rfl, rfl, trivial⟩ (hR _ _ _ rfl ?_); clear hR R
    refine G.region rfl (fun R hR => ?_)
    iterate 3 refine D.pure rfl rfl rfl rfl rfl rfl ?_
    refine D.done [(1, [], _), (5, [], _), (6, [], _), (7, [], _), (8, [], _), (17, [], _), (18, [], _), (19, [], _), (24, [], _), (25, [], _), (26, [], _)] ⟨rfl, rfl, rfl, rfl, rfl, rfl, rfl, rfl, rfl, rfl, rfl, trivial⟩ (hR _ _ _ rfl ?_); clear hR R
    refine G.loop (fun fr C' L' μ => ∃ (k : Nat) (q : List Nat) (c : Nat), (k ≤ b.length ∧ q.length = a.length + b.length ∧ DigD q ∧ c < B32 ∧ valD q + B32 ^ (i + k) * c = valD o + B32 ^ i * (gD a i * valD (b.take k)) ∧ ∀ j, i + b.length ≤ j → gD q j = 0) ∧ fr = [(1, [], .slice B0 b.length d0), (5, [], qW b16 (a.length + b.length) (a.length + b.length)), (6, [], .int .i64 i), (7, [], .int .u32 (gD a i)), (8, [], .int .u64 c), (17, [], .slice A0 a.length c0), (18, [], .int .i64 a.length), (19, [], .int .i64 i), (24, [], .slice B0 b.length d0), (25, [], .int .i64 b.length), (26, [], .int .i64 k)] ∧ L' = [.arr (qW b16 (a.length + b.length) (a.length + b.length)) 112 1 (a.length + b.length) (q.map encW).flatten] ∧ μ = b.length - k) (fr' := [(1, [], _), (5, [], _), (6, [], _), (7, [], _), (8, [], _), (17, [], _), (18, [], _), (19, [], _), (24, [], _), (25, [], _), (26, [], _)]) ⟨rfl, rfl, rfl, rfl, rfl, rfl, rfl, rfl, rfl, rfl, rfl, trivial⟩ ⟨0, o, 0, ⟨Nat.zero_le _, hol, hod, by decide, by simp [valD], hz⟩, rfl, rfl, rfl⟩ (fun fr C1' L1' m hle1 hI => ?_)
    obtain ⟨k, q, c, ⟨hk, hql, hqd, hc, hqv, hqz⟩, rfl, rfl, rfl⟩ := hI
    refine G.region rfl (fun R hR => ?_)
    refine D.pure rfl rfl rfl rfl rfl rfl ?_
    refine D.done [(1, [], _), (5, [], _), (6, [], _), (7, [], _), (8, [], _), (17, [], _), (18, [], _), (19, [], _), (24, [], _), (25, [], _), (26, [], _), (27, [], _)] ⟨rfl, rfl, rfl, rfl, rfl, rfl, rfl, rfl, rfl, rfl, rfl, rfl, trivial⟩ (hR _ _ _ rfl ?_); clear hR R
    refine G.cond rfl (fun h27 => ?_) (fun h27 => ?_)
    · skip
      have hkl : k < b.length := by simpa using h27
      have hrb : (b.map encW)[k]? = some (encW (gD b k)) := by rw [List.getElem?_map, List.getElem?_eq_getElem hkl, gD_some (List.getElem?_eq_getElem hkl)]; rfl
      have hy := gD_lt hdb k
      have ho := gD_lt hqd (i + k)
      have hget : q[i + k]? = some (gD q (i + k)) := gD_get (by omega)
      have hbound := mul_bound hc hx hy ho
      rw [show B32 * B32 = 18446744073709551616 from rfl] at hbound
      refine G.region rfl (fun R hR => ?_)
      refine D.pure rfl rfl rfl rfl rfl rfl ?_
      refine D.index0 (hb.mono (by (repeat (first | exact Mem.le.refl _ | assumption | (apply Mem.le.trans; rotate_left; assumption))))) rfl rfl rfl rfl rfl rfl rfl rfl rfl rfl (by omega) hrb (fun _ => rfl) (fun p29 hp29 => ?_)
      refine D.loadP0 hp29 rfl rfl rfl rfl rfl rfl rfl rfl ?_
      iterate 2 refine D.pure rfl rfl rfl rfl rfl rfl ?_
      refine D.done [(1, [], _), (5, [], _), (6, [], _), (7, [], _), (8, [], _), (9, [], _), (10, [], _), (17, [], _), (18, [], _), (19, [], _), (24, [], _), (25, [], _), (26, [], _)] ⟨rfl, rfl, rfl, rfl, rfl, rfl, rfl, rfl, rfl, rfl, rfl, rfl, rfl, trivial⟩ (hR _ _ _ rfl ?_); clear hR R
      refine G.region rfl (fun R hR => ?_)
      iterate 2 refine D.pure rfl rfl rfl rfl rfl rfl ?_
      refine D.conv (c := ((gD a i : Nat) : Int)) rfl rfl rfl rfl rfl rfl rfl rfl (by rw [IntKind.wrap_u64]; omega) (fun _ => rfl) ?_
      refine D.pure rfl rfl rfl rfl rfl rfl ?_
      refine D.conv (c := ((gD b k : Nat) : Int)) rfl rfl rfl rfl rfl rfl rfl rfl (by rw [IntKind.wrap_u64]; omega) (fun _ => rfl) ?_
      refine D.int (((gD a i * gD b k : Nat) : Int)) rfl rfl rfl rfl (by rw [← Int.natCast_mul, IntKind.wrap_u64]; omega) rfl rfl ?_
      iterate 3 refine D.pure rfl rfl rfl rfl rfl rfl ?_
      refine D.i64 (((i + k : Nat) : Int)) rfl rfl rfl rfl (by omega) (by omega) (by omega) rfl rfl ?_
      refine D.indexS ((i + k) * 1) rfl rfl rfl rfl rfl rfl rfl rfl rfl rfl (fun _ => ⟨by omega, by omega, rfl⟩) rfl rfl ?_
      refine D.loadArr (.head _) rfl rfl rfl rfl rfl rfl (fun _ => (by rw [row_read encW_len hget]; rfl)) rfl rfl ?_
      refine D.conv (c := ((gD q (i + k) : Nat) : Int)) rfl rfl rfl rfl rfl rfl rfl rfl (by rw [IntKind.wrap_u64]; omega) (fun _ => rfl) ?_
      refine D.int (((gD a i * gD b k + gD q (i + k) : Nat) : Int)) rfl rfl rfl rfl (by rw [IntKind.wrap_u64]; omega) rfl rfl ?_
      refine D.int (((c + gD a i * gD b k + gD q (i + k) : Nat) : Int)) rfl rfl rfl rfl (by rw [IntKind.wrap_u64]; omega) rfl rfl ?_
      refine D.pure rfl rfl rfl rfl rfl rfl ?_
      refine D.done [(1, [], _), (5, [], _), (6, [], _), (7, [], _), (8, [], _), (9, [], _), (17, [], _), (18, [], _), (19, [], _), (24, [], _), (25, [], _), (26, [], _)] ⟨rfl, rfl, rfl, rfl, rfl, rfl, rfl, rfl, rfl, rfl, rfl, rfl, trivial⟩ (hR _ _ _ rfl ?_); clear hR R
      refine G.region rfl (fun R hR => ?_)
      iterate 3 refine D.pure rfl rfl rfl rfl rfl rfl ?_
      refine D.i64 (((i + k : Nat) : Int)) rfl rfl rfl rfl (by omega) (by omega) (by omega) rfl rfl ?_
      refine D.pure rfl rfl rfl rfl rfl rfl ?_
      refine D.conv (c := (((c + gD a i * gD b k + gD q (i + k)) % 4294967296 : Nat) : Int)) rfl rfl rfl rfl rfl rfl rfl rfl (by rw [IntKind.wrap_u32]; omega) (fun _ => rfl) ?_
      refine D.indexS ((i + k) * 1) rfl rfl rfl rfl rfl rfl rfl rfl rfl rfl (fun _ => ⟨by omega, by omega, rfl⟩) rfl rfl ?_
      refine D.storeArr (j := 0) rfl rfl rfl rfl rfl rfl rfl rfl rfl rfl rfl (by show (i + k) * 1 + 1 ≤ _; rw [rows_len encW_len, hql]; omega) ?_
      refine D.done [(1, [], _), (5, [], _), (6, [], _), (7, [], _), (8, [], _), (17, [], _), (18, [], _), (19, [], _), (24, [], _), (25, [], _), (26, [], _)] ⟨rfl, rfl, rfl, rfl, rfl, rfl, rfl, rfl, rfl, rfl, rfl, trivial⟩ (hR _ _ _ rfl ?_); clear hR R
      refine G.region rfl (fun R hR => ?_)
      refine D.pure rfl rfl rfl rfl rfl rfl ?_
      refine D.shrU ((c + gD a i * gD b k + gD q (i + k))) (32) rfl rfl rfl rfl rfl rfl rfl rfl (by omega) rfl rfl ?_
      refine D.pure rfl rfl rfl rfl rfl rfl ?_
      refine D.done [(1, [], _), (5, [], _), (6, [], _), (7, [], _), (8, [], _), (17, [], _), (18, [], _), (19, [], _), (24, [], _), (25, [], _), (26, [], _)] ⟨rfl, rfl, rfl, rfl, rfl, rfl, rfl, rfl, rfl, rfl, rfl, trivial⟩ (hR _ _ _ rfl ?_); clear hR R
      refine G.region rfl (fun R hR => ?_)
      refine D.i64 _ rfl rfl rfl rfl rfl (by omega) (by omega) rfl rfl ?_
      refine D.pure rfl rfl rfl rfl rfl rfl ?_
      refine D.done [(1, [], _), (5, [], _), (6, [], _), (7, [], _), (8, [], _), (17, [], _), (18, [], _), (19, [], _), (24, [], _), (25, [], _), (26, [], _)] ⟨rfl, rfl, rfl, rfl, rfl, rfl, rfl, rfl, rfl, rfl, rfl, trivial⟩ (hR _ _ _ rfl ?_); clear hR R
      refine G.eqL (L' := [.arr (qW b16 (a.length + b.length) (a.length + b.length)) 112 1 (a.length + b.length) ((q.set (i + k) ((c + gD a i * gD b k + gD q (i + k)) % B32)).map encW).flatten]) (by rw [← row_write encW_len _ (by omega : i + k < q.length)]; rfl) ?_
      refine G.again (m' := b.length - (k + 1)) (by omega) (by (repeat (first | exact Mem.le.refl _ | assumption | (apply Mem.le.trans; rotate_left; assumption)))) (fr' := [(1, [], _), (5, [], _), (6, [], _), (7, [], _), (8, [], _), (17, [], _), (18, [], _), (19, [], _), (24, [], _), (25, [], _), (26, [], _)]) ⟨rfl, rfl, rfl, rfl, rfl, rfl, rfl, rfl, rfl, rfl, rfl, trivial⟩ ⟨k + 1, q.set (i + k) ((c + gD a i * gD b k + gD q (i + k)) % B32), (c + gD a i * gD b k + gD q (i + k)) / B32, ⟨by omega, by simp [hql], hqd.set (Nat.mod_lt _ (by decide)), carry_lt hc hx hy ho, mul_step hget rfl hqv, fun j hj => by rw [gD_set_ne (by omega)]; exact hqz j hj⟩, rfl, rfl, rfl⟩
    · skip
      have hkl : k = b.length := by
        have : ¬ k < b.length := by simpa using h27
        omega
      have hget : q[i + b.length]? = some 0 := by rw [← hqz _ (Nat.le_refl _)]; exact gD_get (by omega)
      refine G.region rfl (fun R hR => ?_)
      iterate 4 refine D.pure rfl rfl rfl rfl rfl rfl ?_
      refine D.i64 (((i + b.length : Nat) : Int)) rfl rfl rfl rfl (by omega) (by omega) (by omega) rfl rfl ?_
      refine D.pure rfl rfl rfl rfl rfl rfl ?_
      refine D.conv (c := ((c : Nat) : Int)) rfl rfl rfl rfl rfl rfl rfl rfl (by rw [IntKind.wrap_u32]; omega) (fun _ => rfl) ?_
      refine D.indexS ((i + b.length) * 1) rfl rfl rfl rfl rfl rfl rfl rfl rfl rfl (fun _ => ⟨by omega, by omega, rfl⟩) rfl rfl ?_
      refine D.storeArr (j := 0) rfl rfl rfl rfl rfl rfl rfl rfl rfl rfl rfl (by show (i + b.length) * 1 + 1 ≤ _; rw [rows_len encW_len, hql]; omega) ?_
      refine D.done [(1, [], _), (5, [], _), (17, [], _), (18, [], _), (19, [], _)] ⟨rfl, rfl, rfl, rfl, rfl, trivial⟩ (hR _ _ _ rfl ?_); clear hR R
      refine G.region rfl (fun R hR => ?_)
      refine D.i64 _ rfl rfl rfl rfl rfl (by omega) (by omega) rfl rfl ?_
      refine D.pure rfl rfl rfl rfl rfl rfl ?_
      refine D.done [(1, [], _), (5, [], _), (17, [], _), (18, [], _), (19, [], _)] ⟨rfl, rfl, rfl, rfl, rfl, trivial⟩ (hR _ _ _ rfl ?_); clear hR R
      refine G.eqL (L' := [.arr (qW b16 (a.length + b.length) (a.length + b.length)) 112 1 (a.length + b.length) ((q.set (i + b.length) c).map encW).flatten]) (by rw [← row_write encW_len _ (by omega : i + b.length < q.length)]; rfl) ?_
      refine G.again (m' := a.length - (i + 1)) (by omega) (by (repeat (first | exact Mem.le.refl _ | assumption | (apply Mem.le.trans; rotate_left; assumption)))) (fr' := [(1, [], _), (5, [], _), (17, [], _), (18, [], _), (19, [], _)]) ⟨rfl, rfl, rfl, rfl, rfl, trivial⟩ ⟨i + 1, q.set (i + b.length) c, ⟨by omega, by simp [hql], hqd.set hc, by
        have h1 := valD_set (z := c) hget
        rw [hkl, List.take_length] at hqv
        rw [valD_tk, Nat.add_mul, ← hval, Nat.mul_assoc]
        omega, fun j hj => by rw [gD_set_ne (by omega)]; exact hqz j (by omega)⟩, rfl, rfl, rfl⟩
  · skip
    have hil : i = a.length := by
      have : ¬ i < a.length := by simpa using h20
      omega
    refine G.regionO [(1, 3)] rfl (fun R hR => ?_)
    refine D.pure rfl rfl rfl rfl rfl rfl ?_
    refine D.call (trimO_fn _ _ o hol) rfl (.inr (by decide)) rfl rfl rfl rfl rfl rfl (List.Perm.refl _) (fun _ => rfl) (fun v66 C66 L66 hle66 hq66 => ?_)
    obtain ⟨rfl, hu⟩ := hq66
    refine D.pure rfl rfl rfl rfl rfl rfl ?_
    refine D.done [(4, [], _)] ⟨rfl, trivial⟩ (hR _ _ _ rfl ?_); clear hR R
    refine G.retN (G.dropAll (G.fin1 rfl rfl ?_))
    refine ⟨rfl, trimD o, trimD_can hod, ?_, hu⟩
    rw [trimD_val, hval, hil, List.take_length]
end Go.Proofs.YtfelabnohopfdaaGreatDoor
