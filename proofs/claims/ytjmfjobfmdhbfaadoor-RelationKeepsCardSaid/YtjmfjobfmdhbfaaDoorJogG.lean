/- Calls, and the judgement G on code. Program-independent. -/
import Derived.Test.YtjmfjobfmdhbfaaDoorJogF
namespace Go.Jog
open Go

/-- A function that makes memory but hands nothing back that its caller must own. -/
def Pur (P : Program) (f : FuncId) (args : List Value) (C : Mem) (post : Value → Mem → Prop) : Prop := Fn P f args C [] fun v C' L' => L' = [] ∧ post v C'

theorem run_callFunc {P : Program} {f : FuncId} (h : Enters P f = true) (args : Array Value) (w : World) : (callFunc f args).run P w = .ok (.enter f args) w := by
  unfold Enters at h
  split at h
  · rename_i fn hf
    simp only [Bool.and_eq_true, Bool.not_eq_true'] at h
    have h1 : ¬ (fn.name == "runtime.NumGoroutine") = true := by rw [h.1]; simp
    have h2 : ¬ fn.body.isNone = true := by
      cases hb : fn.body with
      | none => rw [hb] at h; simp at h
      | some c => simp
    simp only [callFunc, Sem.run_bind, run_program, Result.andThen_ok, hf]
    rw [if_neg h1, if_neg h2]
    rfl
  · cases h

section
variable {cx : Cx} {n : Nat} {ds : List (Option Nat)} {R : Rg n ds} {its : List It} {fr : Fr} {C : Mem} {L : List Ent} {i k d : Nat} {o : Oper} {g : GL} {v : Value}

theorem run_call {P : Program} {a : Act} {o : Oper} {f : Operand} {args : Array Operand} {ts : Array TypeId} {fid : FuncId} {fi ca : Array Value} {vs args' : List Value}
    (hop : o.op = .call ⟨.value f, args, ts⟩) (hf : a.eval f = .func (.func fid) fi ca) (hargs : args.toList.map a.eval = vs) (he : fi.toList ++ vs ++ ca.toList = args') (hen : Enters P fid = true) (w : World) :
    (execOp a.eval o).run P w = .ok (.enter fid args'.toArray) w := by
  have e1 : execOp a.eval o = (do let dd ← resolve a.eval ⟨.value f, args, ts⟩ o.type; invoke dd.target dd.args : Sem Next) := by unfold execOp; rw [hop]
  have e2 : args.map a.eval = vs.toArray := by apply Array.ext'; rw [← hargs]; simp
  have e3 : fi ++ vs.toArray ++ ca = args'.toArray := by apply Array.ext'; rw [← he]; simp
  rw [e1]
  simp only [resolve, hf, Deferred.ofValue, e2, Sem.run_bind, Sem.run_pure, Result.andThen_ok, invoke, e3]
  exact run_callFunc hen _ w

/-- A call by its contract. The first entries of L are handed to the callee. -/
theorem D.call {f : Operand} {args : Array Operand} {ts : Array TypeId} {fid : FuncId} {fi ca : Array Value} {vs args' : List Value} {Lp Lr : List Ent} {post : Value → Mem → List Ent → Prop}
    (c : Fn cx.P fid args' C Lp post) (hk : Nat.ble k 1 = false) (hk2 : Lp = [] ∨ k ≠ 2) (hd : o.dst = some d) (hg : gOn ds fr o.guard = true) (hop : o.op = .call ⟨.value f, args, ts⟩) (hf : ev fr [] f = some (.func (.func fid) fi ca))
    (hargs : listO (ev fr []) args.toList = some vs) (he : fi.toList ++ vs ++ ca.toList = args') (hL : L.Perm (Lp ++ Lr)) (hp : ∀ v, okPut n ds ((d, [], v) :: fr) d = true)
    (h : ∀ v C' L', C.le C' → post v C' L' → D cx R its ((d, [], v) :: fr) C' (L' ++ Lr)) : D cx R ((i, k, o) :: its) fr C L :=
  D.eff (S := fun v C' L' => ∃ L1, L' = L1 ++ Lr ∧ post v C' L1) hk hd hg hp (fun a hs w _ hw => by
    unfold Oper.wp
    rw [run_call hop (hs _ _ hf) (listO_spec (fun x y => hs x y) hargs) he c.1 w]
    simp only [Oper.upon]
    refine (c.callAt (St.perm hw hL)).mono fun e w' ⟨v, C', L', e1, h1, h2, h3⟩ => ?_
    subst e1
    refine ⟨v, C', L' ++ Lr, rfl, h1, fun hk' x hx => ?_, h2, L', rfl, h3⟩
    rcases hk2 with hk2 | hk2
    · subst hk2
      have := hL.mem_iff.1 hx
      simp only [List.nil_append] at this
      exact List.mem_append_right _ this
    · exact absurd hk' hk2)
    (fun v C' L' hle ⟨L1, e1, e2⟩ => by subst e1; exact h v C' L1 hle e2)

theorem D.callP {f : Operand} {args : Array Operand} {ts : Array TypeId} {fid : FuncId} {fi ca : Array Value} {vs args' : List Value} {post : Value → Mem → Prop}
    (c : Pur cx.P fid args' C post) (hk : Nat.ble k 1 = false) (hd : o.dst = some d) (hg : gOn ds fr o.guard = true) (hop : o.op = .call ⟨.value f, args, ts⟩) (hf : ev fr [] f = some (.func (.func fid) fi ca))
    (hargs : listO (ev fr []) args.toList = some vs) (he : fi.toList ++ vs ++ ca.toList = args') (hp : ∀ v, okPut n ds ((d, [], v) :: fr) d = true)
    (h : ∀ v C', C.le C' → post v C' → D cx R its ((d, [], v) :: fr) C' L) : D cx R ((i, k, o) :: its) fr C L :=
  D.call c hk (.inl rfl) hd hg hop hf hargs he (List.Perm.refl L) hp (fun v C' L' hle ⟨e1, e2⟩ => by subst e1; exact h v C' hle e2)

/-- A call that gives one value and nothing else, guarded or not. -/
theorem D.gives {f : Operand} {args : Array Operand} {ts : Array TypeId} {fid : FuncId} {fi ca : Array Value} {vs args' : List Value}
    (c : GT ds fr g → Gives cx.P fid args' C v) (hk : k = 1) (hd : o.dst = some d) (hg : gOf ds fr o.guard = some g) (hop : o.op = .call ⟨.value f, args, ts⟩) (hf : ev fr g f = some (.func (.func fid) fi ca))
    (hargs : listO (ev fr g) args.toList = some vs) (he : fi.toList ++ vs ++ ca.toList = args') (hp : okPut n ds ((d, g, v) :: fr) d = true) (hwf : wfG ds fr g = true)
    (h : D cx R its ((d, g, v) :: fr) C L) : D cx R ((i, k, o) :: its) fr C L := by
  intro hC0
  exact D.det (by subst hk; rfl) hd hg hp hwf (fun hGT a hs κ' hκ w hw => by
    unfold Oper.quietAt
    rw [run_call hop (hs _ _ hf) (listO_spec (fun x y => hs x y) hargs) he (c hGT).1 w]
    exact ⟨rfl, (c hGT).quiet (hκ hk).1 hC0 hw⟩) h hC0

/-- The same where the call's kind says that it moves on. -/
theorem D.gives2 {f : Operand} {args : Array Operand} {ts : Array TypeId} {fid : FuncId} {fi ca : Array Value} {vs args' : List Value}
    (c : Gives cx.P fid args' C v) (hk : Nat.ble k 1 = false) (hd : o.dst = some d) (hg : gOn ds fr o.guard = true) (hop : o.op = .call ⟨.value f, args, ts⟩) (hf : ev fr [] f = some (.func (.func fid) fi ca))
    (hargs : listO (ev fr []) args.toList = some vs) (he : fi.toList ++ vs ++ ca.toList = args') (hp : ∀ v, okPut n ds ((d, [], v) :: fr) d = true)
    (h : D cx R its ((d, [], v) :: fr) C L) : D cx R ((i, k, o) :: its) fr C L :=
  D.eff (S := fun u C' L' => u = v ∧ C' = C ∧ L' = L) hk hd hg hp (fun a hs w hC0 hw => by
    unfold Oper.wp
    rw [run_call hop (hs _ _ hf) (listO_spec (fun x y => hs x y) hargs) he c.1 w]
    simp only [Oper.upon]
    refine (c.quiet (κ := (C, L)) (Mem.le.refl _) hC0 hw).mono fun e w' ⟨e1, h1⟩ => ?_
    subst e1
    exact ⟨v, C, L, rfl, Mem.le.refl _, fun _ x hx => hx, h1, rfl, rfl, rfl⟩)
    (fun u C' L' _ ⟨e1, e2, e3⟩ => by subst e1; subst e2; subst e3; exact h)
end

/-! ### Reading what was known at the region's start: in whatever class -/
section
variable {cx : Cx} {n : Nat} {ds : List (Option Nat)} {R : Rg n ds} {its : List It} {fr : Fr} {C : Mem} {L : List Ent} {i k d : Nat} {o : Oper} {g : GL} {v : Value}
theorem PtrTo.block {C : Mem} {b : Nat} {cs : List Value} {t : TypeId} {fz : Nat × Nat} (h : C b = some (.cells ⟨cs⟩ t fz)) (off : Nat) : PtrTo C (.pointer (some ⟨b, off, none⟩)) (cs.drop off) :=
  ⟨⟨b, off, none⟩, rfl, rfl, fun j v hj => by
    rw [Addr.add_lit]
    exact ⟨rfl, ⟨cs⟩, t, fz, h, by simpa using hj⟩⟩
theorem D.loadB {t : Nat} {x : Operand} {p : Value} {cs : List Value} {ti : TI} (hc : GT ds fr g → PtrTo R.b.C0 p cs) (hk : Nat.ble k 1 = true) (hd : o.dst = some d) (hop : o.op = .load t x) (hg : gOf ds fr o.guard = some g) (hx : ev fr g x = some p)
    (ht : cx.T.get t = some ti) (hv : ofCells ti (cs.take ti.size) = some v) (hp : okPut n ds ((d, g, v) :: fr) d = true) (hwf : wfG ds fr g = true)
    (h : D cx R its ((d, g, v) :: fr) C L) : D cx R ((i, k, o) :: its) fr C L :=
  D.det hk hd hg hp hwf (fun hGT a hs κ' _ w hw => by
    obtain ⟨ad, rfl, _, hcell⟩ := hc hGT
    have hex : (execOp a.eval o).run cx.P w = .ok (.value v) w := by
      have e1 : execOp a.eval o = (do Pure.pure (.value (← Instr.loadAt t (a.eval x))) : Sem Next) := by unfold execOp; rw [hop]
      rw [e1, hs _ _ hx]
      simp only [Instr.loadAt, Instr.sureAddr, Sem.run_bind, Sem.run_pure, Result.andThen_ok]
      rw [run_loadVar cx.hT ht (fun j u hj => by
        rw [List.getElem?_take] at hj
        split at hj
        · exact ((hcell j u hj).mono hw.c0).cell hw.sep
        · cases hj) hv]
      rfl
    unfold Oper.quietAt
    rw [hex]
    exact ⟨rfl, rfl⟩) h
theorem D.givesB {f : Operand} {args : Array Operand} {ts : Array TypeId} {fid : FuncId} {fi ca : Array Value} {vs args' : List Value}
    (c : GT ds fr g → Gives cx.P fid args' R.b.C0 v) (hk : Nat.ble k 1 = true) (hd : o.dst = some d) (hg : gOf ds fr o.guard = some g) (hop : o.op = .call ⟨.value f, args, ts⟩) (hf : ev fr g f = some (.func (.func fid) fi ca))
    (hargs : listO (ev fr g) args.toList = some vs) (he : fi.toList ++ vs ++ ca.toList = args') (hp : okPut n ds ((d, g, v) :: fr) d = true) (hwf : wfG ds fr g = true)
    (h : D cx R its ((d, g, v) :: fr) C L) : D cx R ((i, k, o) :: its) fr C L :=
  D.det hk hd hg hp hwf (fun hGT a hs κ' hκ w hw => by
    unfold Oper.quietAt
    rw [run_call hop (hs _ _ hf) (listO_spec (fun x y => hs x y) hargs) he (c hGT).1 w]
    exact ⟨rfl, (c hGT).quiet hw.c0 (Mem.le.refl _) hw⟩) h
end

/-! ### The rules for what is not guarded -/
section
variable {cx : Cx} {n : Nat} {ds : List (Option Nat)} {R : Rg n ds} {its : List It} {fr : Fr} {C : Mem} {L : List Ent} {i k d : Nat} {o : Oper} {v : Value}

theorem gOf_none {ds : List (Option Nat)} {fr : Fr} {o : Oper} (h : o.guard = none) : gOf ds fr o.guard = some [] := by rw [h]; rfl

theorem D.index0 {t e : Nat} {x y : Operand} {ki : IntKind} {m : Int} {s : Value} {ke : Nat} {xs : List (List Value)} {row : List Value} {ti te : TI} (hs : Sl C ke s xs) (hk : Nat.ble k 1 = true) (hd : o.dst = some d) (hop : o.op = .indexAddr t x y)
    (hg : o.guard = none) (hx : ev fr [] x = some s) (hy : ev fr [] y = some (.int ki m)) (ht : cx.T.get t = some ti) (hte : ti.k = .slice e) (he : cx.T.get e = some te) (hsz : te.size = ke) (hm : 0 ≤ m) (hrow : xs[m.toNat]? = some row)
    (hp : ∀ v, okPut n ds ((d, [], v) :: fr) d = true)
    (h : ∀ p, PtrTo C p row → D cx R its ((d, [], p) :: fr) C L) : D cx R ((i, k, o) :: its) fr C L :=
  D.index hk hd hop (gOf_none hg) hx hy ht hte he hsz (fun _ => ⟨hs, hm, hrow⟩) hp rfl (fun p hp => h p (hp trivial))

theorem D.fieldP0 {t f ty off : Nat} {x : Operand} {p : Value} {cs : List Value} {ti te : TI} {fs : List (Nat × Nat)} (hc : PtrTo C p cs) (hk : Nat.ble k 1 = true) (hd : o.dst = some d) (hop : o.op = .fieldAddr t x f)
    (hg : o.guard = none) (hx : ev fr [] x = some p) (ht : cx.T.get t = some ti) (hfs : ti.k = .struct fs) (hf : fs[f]? = some (ty, off)) (hte : cx.T.get ty = some te) (hs0 : Nat.beq te.size 0 = false)
    (hp : ∀ v, okPut n ds ((d, [], v) :: fr) d = true)
    (h : ∀ p', PtrTo C p' ((cs.drop off).take te.size) → D cx R its ((d, [], p') :: fr) C L) : D cx R ((i, k, o) :: its) fr C L :=
  D.fieldP hk hd hop (gOf_none hg) hx ht hfs hf hte hs0 (fun _ => hc) hp rfl (fun p hp => h p (hp trivial))

theorem D.loadP0 {t : Nat} {x : Operand} {p : Value} {cs : List Value} {ti : TI} (hc : PtrTo C p cs) (hk : k = 1) (hd : o.dst = some d) (hop : o.op = .load t x) (hg : o.guard = none) (hx : ev fr [] x = some p)
    (ht : cx.T.get t = some ti) (hv : ofCells ti cs = some v) (hp : okPut n ds ((d, [], v) :: fr) d = true)
    (h : D cx R its ((d, [], v) :: fr) C L) : D cx R ((i, k, o) :: its) fr C L :=
  D.loadP hk hd hop (gOf_none hg) hx ht (fun _ => hc) hv hp rfl h
end

/-! ### Code -/
/-- What stands behind the code that runs now. -/
inductive KI where
  | code (c : Code)
  | blk (id : Nat)
  | inv (I : Act → World → Prop)

/-- The function: program, its results, base, and what is to be shown. -/
structure Fx where
  cx : Cx
  fn : Func
  n : Nat
  b : Bs
  post : Value → Mem → List Ent → Prop

def Fx.fin (F : Fx) (e : Ending) (w : World) : Prop := ∃ v C' L', e = .returned v ∧ St F.b.w0 F.b.C0 F.b.L0 C' L' w ∧ F.post v C' L'

def Kq (F : Fx) : List KI → Exit → Act → World → Prop
  | [] => bodyPost F.cx.P F.fn F.fin
  | .code c :: k => fun e a w => match e with
    | .normal => c.wp F.cx.P (Kq F k) a w
    | e => Kq F k e a w
  | .blk id :: k => fun e a w => match e with
    | .exit j => if j = id then Kq F k .normal a w else Kq F k (.exit j) a w
    | e => Kq F k e a w
  | .inv I :: k => fun e a w => match e with
    | .normal => I a w
    | e => Kq F k e a w

def G (F : Fx) (k : List KI) (e : Exit) (fr : Fr) (C : Mem) (L : List Ent) : Prop :=
  F.b.C0.le C → ∀ a w, FrOk F.n [] fr a → F.b.cls (C, L) w → Kq F k e a w

section
variable {F : Fx} {k : List KI} {fr : Fr} {C : Mem} {L : List Ent}

theorem G.seq {x y : Code} (h : G F (.code x :: .code y :: k) .normal fr C L) : G F (.code (.seq x y) :: k) .normal fr C L := fun h0 a w ha hw => by
  simp only [Kq]
  refine wp_seq (Code.wp_mono (fun e a w q => ?_) (h h0 a w ha hw))
  cases e <;> exact q
theorem G.block {id : Nat} {x : Code} (h : G F (.code x :: .blk id :: k) .normal fr C L) : G F (.code (.block id x) :: k) .normal fr C L := fun h0 a w ha hw => by
  simp only [Kq]
  refine wp_block (Code.wp_mono (fun e a w q => ?_) (h h0 a w ha hw))
  cases e <;> exact q
theorem G.skip (h : G F k .normal fr C L) : G F (.code .skip :: k) .normal fr C L := fun h0 a w ha hw => wp_skip (h h0 a w ha hw)
theorem G.ret (h : G F k .ret fr C L) : G F (.code .ret :: k) .normal fr C L := fun h0 a w ha hw => wp_ret (h h0 a w ha hw)
theorem G.exit {id : Nat} (h : G F k (.exit id) fr C L) : G F (.code (.exit id) :: k) .normal fr C L := fun h0 a w ha hw => wp_exit (h h0 a w ha hw)

/-- The end of a block that was not left early. -/
theorem G.blkN {id : Nat} (h : G F k .normal fr C L) : G F (.blk id :: k) .normal fr C L := fun h0 a w ha hw => h h0 a w ha hw
theorem G.blkSame {id : Nat} (h : G F k .normal fr C L) : G F (.blk id :: k) (.exit id) fr C L := fun h0 a w ha hw => by
  simp only [Kq, if_true]; exact h h0 a w ha hw
theorem G.blkOther {id j : Nat} (hne : Nat.beq j id = false) (h : G F k (.exit j) fr C L) : G F (.blk id :: k) (.exit j) fr C L := fun h0 a w ha hw => by
  have : j ≠ id := fun e => by subst e; rw [Nat.beq_refl] at hne; cases hne
  simp only [Kq, if_neg this]; exact h h0 a w ha hw
theorem G.blkRet {id : Nat} (h : G F k .ret fr C L) : G F (.blk id :: k) .ret fr C L := fun h0 a w ha hw => h h0 a w ha hw
theorem G.codeRet {c : Code} (h : G F k .ret fr C L) : G F (.code c :: k) .ret fr C L := fun h0 a w ha hw => h h0 a w ha hw
theorem G.codeExit {c : Code} {j : Nat} (h : G F k (.exit j) fr C L) : G F (.code c :: k) (.exit j) fr C L := fun h0 a w ha hw => h h0 a w ha hw
theorem G.invRet {I : Act → World → Prop} (h : G F k .ret fr C L) : G F (.inv I :: k) .ret fr C L := fun h0 a w ha hw => h h0 a w ha hw
theorem G.invExit {I : Act → World → Prop} {j : Nat} (h : G F k (.exit j) fr C L) : G F (.inv I :: k) (.exit j) fr C L := fun h0 a w ha hw => h h0 a w ha hw

/-- The code that comes next, its wrappings taken off. -/
def exK (id : Nat) : List KI → Option (List KI)
  | [] => none
  | .blk j :: k => bif Nat.beq j id then some k else exK id k
  | .code _ :: k => exK id k
  | .inv _ :: k => exK id k

def norm : Nat → List KI → List KI
  | 0, k => k
  | _, [] => []
  | f + 1, .blk _ :: k => norm f k
  | _ + 1, .inv I :: k => .inv I :: k
  | f + 1, .code c :: k => match c with
    | .seq a b => norm f (.code a :: .code b :: k)
    | .block id c => norm f (.code c :: .blk id :: k)
    | .skip => norm f k
    | .exit id => match exK id k with
      | some k' => norm f k'
      | none => .code c :: k
    | _ => .code c :: k

theorem G.exK_ {id : Nat} : ∀ {k k' : List KI}, exK id k = some k' → G F k' .normal fr C L → G F k (.exit id) fr C L
  | .blk j :: k, k', he, h => by
    simp only [exK] at he
    cases hb : Nat.beq j id with
    | true =>
      rw [hb] at he
      simp only [cond_true, Option.some.injEq] at he
      subst he
      obtain rfl := Nat.eq_of_beq_eq_true hb
      exact G.blkSame h
    | false =>
      rw [hb] at he
      refine G.blkOther (F := F) ?_ (G.exK_ he h)
      cases hx : Nat.beq id j with
      | false => rfl
      | true => rw [Nat.eq_of_beq_eq_true hx, Nat.beq_refl] at hb; cases hb
  | .code _ :: k, k', he, h => G.codeExit (G.exK_ (k := k) he h)
  | .inv _ :: k, k', he, h => G.invExit (G.exK_ (k := k) he h)

theorem G.norm_ : ∀ (f : Nat) {k : List KI}, G F (norm f k) .normal fr C L → G F k .normal fr C L
  | 0, _, h => h
  | _ + 1, [], h => h
  | f + 1, .blk _ :: k, h => G.blkN (G.norm_ f h)
  | _ + 1, .inv _ :: _, h => h
  | f + 1, .code c :: k, h => by
    cases c <;> simp only [norm] at h <;> try exact h
    case skip => exact G.skip (G.norm_ f h)
    case seq a b => exact G.seq (G.norm_ f h)
    case block id c => exact G.block (G.norm_ f h)
    case exit id =>
      split at h
      · rename_i k' he
        exact G.exit (G.exK_ he (G.norm_ f h))
      · exact h

theorem G.retK : ∀ {k : List KI}, G F [] .ret fr C L → G F k .ret fr C L
  | [], h => h
  | .code _ :: _, h => G.codeRet (G.retK h)
  | .blk _ :: _, h => G.blkRet (G.retK h)
  | .inv _ :: _, h => G.invRet (G.retK h)
theorem G.retN {k : List KI} (h : G F [] .ret fr C L) : G F (.code .ret :: k) .normal fr C L := G.ret (G.retK h)

theorem G.cond {c : Operand} {x y : Code} {b : Bool} (hc : ev fr [] c = some (.bool b)) (ht : b = true → G F (norm 64 (.code x :: k)) .normal fr C L) (hf : b = false → G F (norm 64 (.code y :: k)) .normal fr C L) :
    G F (.code (.cond c x y) :: k) .normal fr C L := fun h0 a w ha hw => by
  simp only [Kq]
  exact wp_cond_split (ev_spec ha (fun p hp => by cases hp) hc) (fun h => G.norm_ 64 (ht h) h0 a w ha hw) (fun h => G.norm_ 64 (hf h) h0 a w ha hw)

/-- The frame, weakened. -/
def subF (fr fr' : Fr) : Prop := ∀ s g v, fr'.get s = some (g, v) → fr.get s = some (g, v)
theorem FrOk.weaken {n : Nat} {ds : List (Option Nat)} {fr fr' : Fr} {a : Act} (h : FrOk n ds fr a) (hs : subF fr fr') : FrOk n ds fr' a :=
  ⟨h.size, h.defers, fun s g v hg => h.ent s g v (hs s g v hg)⟩

/-- Only these slots are kept. -/
def Has (fr : Fr) : List (Nat × GL × Value) → Prop
  | [] => True
  | (s, g, v) :: r => fr.get s = some (g, v) ∧ Has fr r
theorem Has.sub {fr : Fr} : ∀ {fr' : Fr}, Has fr fr' → subF fr fr'
  | [], _, s, g, v, h => by simp [Fr.get] at h
  | (t, g', v') :: r, hh, s, g, v, h => by
    simp only [Fr.get] at h
    cases hb : Nat.beq t s with
    | true =>
      rw [hb] at h
      simp only [cond_true, Option.some.injEq, Prod.mk.injEq] at h
      obtain ⟨rfl, rfl⟩ := h
      rw [← Nat.eq_of_beq_eq_true hb]
      exact hh.1
    | false =>
      rw [hb] at h
      exact Has.sub hh.2 s g v h

theorem G.keep {e : Exit} (fr' : Fr) (hh : Has fr fr') (h : G F k e fr' C L) : G F k e fr C L := fun h0 a w ha hw => h h0 a w (ha.weaken hh.sub) hw
theorem G.perm {e : Exit} (L' : List Ent) (hp : L.Perm L') (h : G F k e fr C L') : G F k e fr C L := fun h0 a w ha hw => h h0 a w ha (St.perm hw hp)
theorem G.dropE {e : Exit} (j : Nat) {x : Ent} (hj : L[j]? = some x) (h : G F k e fr C (L.eraseIdx j)) : G F k e fr C L := fun h0 a w ha hw => h h0 a w ha (St.drop (St.perm hw (ent_perm hj)))
theorem St.dropAll {w0 : World} {C0 : Mem} {L0 : List Ent} {C : Mem} {w : World} : ∀ {L : List Ent}, St w0 C0 L0 C L w → St w0 C0 L0 C [] w
  | [], h => h
  | _ :: _, h => St.dropAll h.drop
theorem G.dropAll {e : Exit} (h : G F k e fr C []) : G F k e fr C L := fun h0 a w ha hw => h h0 a w ha (St.dropAll hw)

/-- The loop: an invariant with a measure. -/
theorem least {p : Nat → Prop} : ∀ m, p m → ∃ m0, p m0 ∧ ∀ m', p m' → m0 ≤ m' := by
  intro m
  induction m using Nat.strongRecOn with
  | _ m ih =>
    intro hm
    by_cases h : ∃ m', m' < m ∧ p m'
    · obtain ⟨m', hlt, hp⟩ := h
      exact ih m' hlt hp
    · exact ⟨m, hm, fun m' hp => Nat.le_of_not_lt (fun hlt => h ⟨m', hlt, hp⟩)⟩

theorem wp_loop_ex {P : Program} {c : Code} {Q : Exit → Act → World → Prop} {a : Act} {w : World} (J : Nat → Act → World → Prop) {m : Nat} (h0 : J m a w)
    (hr : ∀ m a w, J m a w → c.wp P (Exit.then (fun a' w' => ∃ m', m' < m ∧ J m' a' w') Q) a w) : (Code.loop c).wp P Q a w := by
  classical
  refine wp_loop (fun a w => ∃ m, J m a w) (fun a w => if h : ∃ m, J m a w then Classical.choose (least (p := fun m => J m a w) _ (Classical.choose_spec h)) else 0) ⟨m, h0⟩ ?_
  intro a w hI
  have hs := Classical.choose_spec (least (p := fun m => J m a w) _ (Classical.choose_spec hI))
  refine Code.wp_mono (fun e a' w' q => ?_) (hr _ a w hs.1)
  cases e <;> try exact q
  obtain ⟨m', hlt, hJ⟩ := q
  have hI' : ∃ m, J m a' w' := ⟨m', hJ⟩
  refine ⟨hI', ?_⟩
  rw [dif_pos hI', dif_pos hI]
  exact Nat.lt_of_le_of_lt ((Classical.choose_spec (least (p := fun m => J m a' w') _ (Classical.choose_spec hI'))).2 m' hJ) hlt

/-- What an invariant says of frame, memory and measure, said of the machine. -/
def IA (F : Fx) (I : Fr → Mem → List Ent → Nat → Prop) (C : Mem) (m : Nat) (a : Act) (w : World) : Prop :=
  ∃ fr C' L', C.le C' ∧ I fr C' L' m ∧ FrOk F.n [] fr a ∧ F.b.cls (C', L') w

theorem G.loop {c : Code} (I : Fr → Mem → List Ent → Nat → Prop) {m : Nat} {fr' : Fr} (hs : Has fr fr') (hI : I fr' C L m)
    (hr : ∀ fr C' L' m, C.le C' → I fr C' L' m → G F (norm 64 (.code c :: .inv (fun a w => ∃ m', m' < m ∧ IA F I C m' a w) :: k)) .normal fr C' L') : G F (.code (.loop c) :: k) .normal fr C L := fun h0 a w ha hw => by
  simp only [Kq]
  refine wp_loop_ex (IA F I C) ⟨fr', C, L, Mem.le.refl _, hI, ha.weaken hs.sub, hw⟩ (fun m a w ⟨fr1, C1, L1, hle, hI1, ha1, hw1⟩ => ?_)
  refine Code.wp_mono (fun e a w q => ?_) (G.norm_ 64 (hr fr1 C1 L1 m hle hI1) (h0.trans hle) a w ha1 hw1)
  cases e <;> exact q

/-- The round's end. -/
theorem G.again {I : Fr → Mem → List Ent → Nat → Prop} {C0 : Mem} {m m' : Nat} {fr' : Fr} (hlt : m' < m) (hle : C0.le C) (hs : Has fr fr') (hI : I fr' C L m') :
    G F (.inv (fun a w => ∃ m', m' < m ∧ IA F I C0 m' a w) :: k) .normal fr C L := fun _ a w ha hw =>
  ⟨m', hlt, fr', C, L, hle, hI, ha.weaken hs.sub, hw⟩

/-- Ways that meet again: what holds there is said once. -/
theorem G.cut {c : Code} (I : Fr → Mem → List Ent → Nat → Prop) (h1 : G F (norm 64 (.code c :: .inv (fun a w => ∃ m, IA F I C m a w) :: k)) .normal fr C L)
    (h2 : ∀ fr C' L' m, C.le C' → I fr C' L' m → G F (norm 64 k) .normal fr C' L') : G F (.code c :: k) .normal fr C L := fun h0 a w ha hw => by
  simp only [Kq]
  refine Code.wp_mono (fun e a w q => ?_) (G.norm_ 64 h1 h0 a w ha hw)
  cases e <;> try exact q
  obtain ⟨m, fr1, C1, L1, hle, hI, ha1, hw1⟩ := q
  exact G.norm_ 64 (h2 fr1 C1 L1 m hle hI) (h0.trans hle) a w ha1 hw1
theorem G.meet {I : Fr → Mem → List Ent → Nat → Prop} {C0 : Mem} {fr' : Fr} (m : Nat) (hle : C0.le C) (hs : Has fr fr') (hI : I fr' C L m) :
    G F (.inv (fun a w => ∃ m, IA F I C0 m a w) :: k) .normal fr C L := fun _ a w ha hw => ⟨m, fr', C, L, hle, hI, ha.weaken hs.sub, hw⟩

/-! ### Regions -/
def kindOf (o : Oper) : Nat := match o.op with
  | .load .. | .lookup .. | .entry .. => 1
  | .alloc .. | .box .. | .buildSlice .. | .makeMap .. | .makeSlice .. | .convert .. => 2
  | .store .. | .mapUpdate .. | .mapEntry .. | .entryStore .. | .insert .. | .next .. | .range .. => 3
  | .call c => match c.callee with
    | .value _ => match o.guard with | none => 2 | some _ => 1
    | .invoke .. => 3
    | .builtin b => match b with | .len | .cap | .max | .min => 0 | _ => 3
  | _ => 0

def ovr : List (Nat × Nat) → Nat → Nat → Nat
  | [], _, d => d
  | (j, k) :: r, i, d => bif Nat.beq j i then k else ovr r i d

def opAt : List Oper → Nat → Oper
  | [], _ => default
  | o :: _, 0 => o
  | _ :: r, i + 1 => opAt r i

theorem opAt_spec : ∀ {l : List Oper} {i : Nat}, i < l.length → l[i]? = some (opAt l i)
  | [], i, h => by simp at h
  | o :: l, 0, _ => rfl
  | o :: l, i + 1, h => by simpa [opAt] using opAt_spec (l := l) (i := i) (by simpa using h)

def mkIts (l : List Oper) (ov : List (Nat × Nat)) : List Nat → List It
  | [] => []
  | i :: π => (i, ovr ov i (kindOf (opAt l i)), opAt l i) :: mkIts l ov π

theorem mkIts_fst (l : List Oper) (ov : List (Nat × Nat)) : ∀ π : List Nat, (mkIts l ov π).map (·.1) = π
  | [] => rfl
  | i :: π => by simp [mkIts, mkIts_fst l ov π]
theorem mkIts_mem {l : List Oper} {ov : List (Nat × Nat)} : ∀ {π : List Nat} {x : It}, x ∈ mkIts l ov π → x.1 ∈ π ∧ x.2.1 = ovr ov x.1 (kindOf (opAt l x.1)) ∧ x.2.2 = opAt l x.1
  | [], x, h => by simp [mkIts] at h
  | i :: π, x, h => by
    simp only [mkIts, List.mem_cons] at h
    rcases h with rfl | h
    · exact ⟨by simp, rfl, rfl⟩
    · have := mkIts_mem h
      exact ⟨by simp [this.1], this.2⟩

def natsFrom : Nat → Nat → List Nat
  | 0, _ => []
  | n + 1, i => i :: natsFrom n (i + 1)
theorem natsFrom_eq : ∀ n i, natsFrom n i = List.range' i n
  | 0, _ => rfl
  | n + 1, i => by simp [natsFrom, natsFrom_eq n, List.range'_succ]

def lenO : List Oper → Nat
  | [] => 0
  | _ :: r => lenO r + 1
theorem lenO_eq : ∀ l, lenO l = l.length
  | [] => rfl
  | _ :: r => by simp [lenO, lenO_eq r]

/-- Outside a region no entry is guarded. -/
def plainF (fr : Fr) : Fr := fr.filter fun x => x.2.1.isEmpty
theorem FrOk.enter {n : Nat} {fr : Fr} {a : Act} (h : FrOk n [] fr a) (ds : List (Option Nat)) (hp : fr.all (fun x => x.2.1.isEmpty) = true) : FrOk n ds fr a :=
  ⟨h.size, h.defers, fun s g v hg => by
    have hm := List.all_eq_true.1 hp _ (Fr.get_mem hg)
    simp only [List.isEmpty_iff] at hm
    subst hm
    exact ⟨fun _ => (h.ent s [] v hg).1 (fun p hp => by cases hp), fun hn => absurd (fun p hp => by cases hp) hn⟩⟩

theorem G.region {id : Nat} {l : List Oper} (hp : fr.all (fun x => x.2.1.isEmpty) = true)
    (h : ∀ R : Rg F.n (l.map (·.dst)), (∀ fr C L, fr.all (fun x => x.2.1.isEmpty) = true → G F (norm 64 k) .normal fr C L → D F.cx R [] fr C L) → D F.cx R (mkIts l [] (natsFrom (lenO l) 0)) fr C L) :
    G F (.code (.region id l.toArray false) :: k) .normal fr C L := fun h0 a w ha hw => by
  simp only [Kq]
  let kd := fun i => kindOf (opAt l i)
  let Post : Act → Mem × List Ent → Prop := fun a κ => ∀ w, F.b.cls κ w → Kq F k .normal a w
  let R : Rg F.n (l.map (·.dst)) := ⟨F.b, l.toArray, kd, Post, fun tmps => yielded_eq l tmps⟩
  have hD := h R (fun fr C L hp hG h0 _ a ha w hw => G.norm_ 64 hG h0 a w ⟨ha.size, ha.defers, fun s g v hg => by
    have hm := List.all_eq_true.1 hp _ (Fr.get_mem hg)
    simp only [List.isEmpty_iff] at hm
    subst hm
    exact ⟨fun _ => (ha.ent s [] v hg).1 (fun p hp => by cases hp), fun hn => absurd (fun p hp => by cases hp) hn⟩⟩ hw) h0 (fun x hx => by
      obtain ⟨h1, h2, h3⟩ := mkIts_mem hx
      refine ⟨h2.symm, ?_⟩
      rw [natsFrom_eq, List.mem_range'_1, lenO_eq] at h1
      show (l.toArray)[x.1]? = _
      rw [List.getElem?_toArray, opAt_spec (by omega), h3]) a (ha.enter _ hp)
  rw [mkIts_fst, natsFrom_eq, lenO_eq] at hD
  refine wp_region_seq (cls := F.b.cls) (le := kle) kle.refl hw (κ := (C, L)) (kd := kd) (Post := Post) ?_ (fun a κ w hP hw => hP w hw)
  rw [List.range_eq_range']
  simpa using hD

theorem St.rebase {w0 : World} {C0 : Mem} {L0 : List Ent} {C : Mem} {L : List Ent} {w : World} (h : St w0 C0 L0 C L w) : St w0 C L0 C L w := ⟨h.sep, h.ev, Mem.le.refl _, fun _ _ hk => .inl hk, h.ln⟩
theorem St.unbase {w0 : World} {C0 : Mem} {L0 : List Ent} {C C' : Mem} {L' : List Ent} {w' : World} (h0 : C0.le C) (hcn : ∀ k o, C k = some o → C0 k = some o ∨ w0.heap.size ≤ k ∨ owns L0 k) (h : St w0 C L0 C' L' w') : St w0 C0 L0 C' L' w' :=
  ⟨h.sep, h.ev, h0.trans h.c0, fun k o hk => (h.cn k o hk).elim (hcn k o) (fun h => .inr h), h.ln⟩

/-- A region that draws its order. What is known at its start is known in every class. -/
theorem G.draw {id : Nat} {l : List Oper} (π : List Nat) (ov : List (Nat × Nat)) (hp : fr.all (fun x => x.2.1.isEmpty) = true)
    (hB : (Region.noSelect l.toArray && (π.length == l.toArray.size) && simB .any l.toArray (fun i => ovr ov i (kindOf (opAt l i))) π (Array.replicate l.toArray.size false) && π.all (fun i => Nat.blt i l.length)) = true)
    (h : ∀ R : Rg F.n (l.map (·.dst)), C.le R.b.C0 → (∀ fr C L, fr.all (fun x => x.2.1.isEmpty) = true → G F (norm 64 k) .normal fr C L → D F.cx R [] fr C L) → D F.cx R (mkIts l ov π) fr C L) :
    G F (.code (.region id l.toArray true) :: k) .normal fr C L := fun h0 a w ha hw => by
  simp only [Kq]
  rw [Bool.and_eq_true] at hB
  let kd := fun i => ovr ov i (kindOf (opAt l i))
  let b : Bs := ⟨F.b.w0, C, F.b.L0⟩
  let Post : Act → Mem × List Ent → Prop := fun a κ => ∀ w, b.cls κ w → Kq F k .normal a w
  let R : Rg F.n (l.map (·.dst)) := ⟨b, l.toArray, kd, Post, fun tmps => yielded_eq l tmps⟩
  have un : ∀ κ w, b.cls κ w → F.b.cls κ w := fun κ w hc => St.unbase h0 hw.cn hc
  have hD := h R (Mem.le.refl _) (fun fr C' L hp hG h0' _ a ha w hw => G.norm_ 64 hG (h0.trans h0') a w ⟨ha.size, ha.defers, fun s g v hg => by
    have hm := List.all_eq_true.1 hp _ (Fr.get_mem hg)
    simp only [List.isEmpty_iff] at hm
    subst hm
    exact ⟨fun _ => (ha.ent s [] v hg).1 (fun p hp => by cases hp), fun hn => absurd (fun p hp => by cases hp) hn⟩⟩ (un _ _ hw)) (Mem.le.refl _) (fun x hx => by
      obtain ⟨h1, h2, h3⟩ := mkIts_mem hx
      refine ⟨h2.symm, ?_⟩
      have hlt := List.all_eq_true.1 hB.2 x.1 h1
      rw [Nat.blt_eq] at hlt
      show (l.toArray)[x.1]? = _
      rw [List.getElem?_toArray, opAt_spec hlt, h3]) a (ha.enter _ hp)
  rw [mkIts_fst] at hD
  exact wp_region_sim (cls := b.cls) (le := kle) kle.refl kle.trans F.cx.mixed (St.rebase (St.drew hw)) π hB.1 hD (fun a κ w hP hw => hP w hw)

/-- A region in the text's order, with kinds of one's own. -/
theorem G.regionO {id : Nat} {l : List Oper} (ov : List (Nat × Nat)) (hp : fr.all (fun x => x.2.1.isEmpty) = true)
    (h : ∀ R : Rg F.n (l.map (·.dst)), (∀ fr C L, fr.all (fun x => x.2.1.isEmpty) = true → G F (norm 64 k) .normal fr C L → D F.cx R [] fr C L) → D F.cx R (mkIts l ov (natsFrom (lenO l) 0)) fr C L) :
    G F (.code (.region id l.toArray false) :: k) .normal fr C L := fun h0 a w ha hw => by
  simp only [Kq]
  let kd := fun i => ovr ov i (kindOf (opAt l i))
  let Post : Act → Mem × List Ent → Prop := fun a κ => ∀ w, F.b.cls κ w → Kq F k .normal a w
  let R : Rg F.n (l.map (·.dst)) := ⟨F.b, l.toArray, kd, Post, fun tmps => yielded_eq l tmps⟩
  have hD := h R (fun fr C L hp hG h0 _ a ha w hw => G.norm_ 64 hG h0 a w ⟨ha.size, ha.defers, fun s g v hg => by
    have hm := List.all_eq_true.1 hp _ (Fr.get_mem hg)
    simp only [List.isEmpty_iff] at hm
    subst hm
    exact ⟨fun _ => (ha.ent s [] v hg).1 (fun p hp => by cases hp), fun hn => absurd (fun p hp => by cases hp) hn⟩⟩ hw) h0 (fun x hx => by
      obtain ⟨h1, h2, h3⟩ := mkIts_mem hx
      refine ⟨h2.symm, ?_⟩
      rw [natsFrom_eq, List.mem_range'_1, lenO_eq] at h1
      show (l.toArray)[x.1]? = _
      rw [List.getElem?_toArray, opAt_spec (by omega), h3]) a (ha.enter _ hp)
  rw [mkIts_fst, natsFrom_eq, lenO_eq] at hD
  refine wp_region_seq (cls := F.b.cls) (le := kle) kle.refl hw (κ := (C, L)) (kd := kd) (Post := Post) ?_ (fun a κ w hP hw => hP w hw)
  rw [List.range_eq_range']
  simpa using hD

/-- Behind a region only what is not guarded is known. -/
theorem D.done {n : Nat} {ds : List (Option Nat)} {R : Rg n ds} {cx : Cx} (fr' : Fr) (hs : Has fr fr') (h : D cx R [] fr' C L) : D cx R [] fr C L := fun h0 hits a ha => h h0 hits a (ha.weaken hs.sub)

/-! ### The function -/
theorem G.fin1 {r : Nat} {v : Value} (hres : F.fn.results = #[.tmp r]) (hv : ev fr [] (.tmp r) = some v) (h : F.post v C L) : G F [] .ret fr C L := fun _ a w ha hw => by
  have hv' := ev_spec ha (fun p hp => by cases hp) hv
  simp only [Act.eval] at hv'
  exact bodyPost_ret (v := v) (by rw [results_tmp hres, hv']) ha.defers ⟨v, C, L, rfl, hw, h⟩
theorem G.fin2 {r s : Nat} {u v : Value} (hres : F.fn.results = #[.tmp r, .tmp s]) (hu : ev fr [] (.tmp r) = some u) (hv : ev fr [] (.tmp s) = some v) (h : F.post (.tuple #[u, v]) C L) : G F [] .ret fr C L := fun _ a w ha hw => by
  have hu' := ev_spec ha (fun p hp => by cases hp) hu
  have hv' := ev_spec ha (fun p hp => by cases hp) hv
  simp only [Act.eval] at hu' hv'
  exact bodyPost_ret (v := .tuple #[u, v]) (by rw [results_tmp2 hres, hu', hv']) ha.defers ⟨_, C, L, rfl, hw, h⟩
theorem G.fin3 {r s t : Nat} {u v x : Value} (hres : F.fn.results = #[.tmp r, .tmp s, .tmp t]) (hu : ev fr [] (.tmp r) = some u) (hv : ev fr [] (.tmp s) = some v) (hx : ev fr [] (.tmp t) = some x) (h : F.post (.tuple #[u, v, x]) C L) : G F [] .ret fr C L := fun _ a w ha hw => by
  have hu' := ev_spec ha (fun p hp => by cases hp) hu
  have hv' := ev_spec ha (fun p hp => by cases hp) hv
  have hx' := ev_spec ha (fun p hp => by cases hp) hx
  simp only [Act.eval] at hu' hv' hx'
  simp only [Array.getD_eq_getD_getElem?] at hu' hv' hx'
  exact bodyPost_ret (v := .tuple #[u, v, x]) (by simp [results, hres, hu', hv', hx']) ha.defers ⟨_, C, L, rfl, hw, h⟩
theorem G.fin0 (hres : F.fn.results = #[]) (h : F.post (.tuple #[]) C L) : G F [] .ret fr C L := fun _ a w ha hw =>
  bodyPost_ret (results_none hres _ _ _) ha.defers ⟨_, C, L, rfl, hw, h⟩
theorem G.end0 (hres : F.fn.results = #[]) (h : F.post (.tuple #[]) C L) : G F [] .normal fr C L := fun _ a w ha hw =>
  bodyPost_end (results_none hres _ _ _) ha.defers ⟨_, C, L, rfl, hw, h⟩

def args0 : List Value → Nat → Fr
  | [], _ => []
  | v :: vs, i => (i, [], v) :: args0 vs (i + 1)

theorem args0_get : ∀ {vs : List Value} {i s : Nat} {g : GL} {v : Value}, (args0 vs i).get s = some (g, v) → g = [] ∧ i ≤ s ∧ vs[s - i]? = some v
  | [], i, s, g, v, h => by simp [args0, Fr.get] at h
  | u :: vs, i, s, g, v, h => by
    simp only [args0, Fr.get] at h
    cases hb : Nat.beq i s with
    | true =>
      rw [hb] at h
      simp only [cond_true, Option.some.injEq, Prod.mk.injEq] at h
      obtain ⟨rfl, rfl⟩ := h
      obtain rfl := Nat.eq_of_beq_eq_true hb
      exact ⟨rfl, Nat.le_refl _, by simp⟩
    | false =>
      rw [hb] at h
      obtain ⟨h1, h2, h3⟩ := args0_get h
      exact ⟨h1, by omega, by rw [show s - i = (s - (i + 1)) + 1 by omega]; simpa using h3⟩

theorem Fn.intro {cx : Cx} {f : FuncId} {fn : Func} {c : Code} {args : List Value} {C : Mem} {L : List Ent} {post : Value → Mem → List Ent → Prop} (hen : Enters cx.P f = true) (hf : cx.P.funcs[f]? = some fn) (hb : fn.body = some c)
    (n : Nat) (hnt : fn.ntmps = n) (hn : Nat.ble args.length n = true)
    (h : ∀ w0, G ⟨cx, fn, n, ⟨w0, C, L⟩, post⟩ (norm 64 [.code c]) .normal (args0 args 0) C L) : Fn cx.P f args C L post := by
  subst hnt
  refine ⟨hen, fun w hw => ?_⟩
  refine calls_of_wp hf hb ?_
  rw [Nat.ble_eq] at hn
  have := G.norm_ 64 (h w) (Mem.le.refl _) { tmps := args.toArray ++ Array.replicate (fn.ntmps - args.toArray.size) undef, defers := [] } w
    ⟨by simp; omega, rfl, fun s g v hg => by
      obtain ⟨rfl, _, hv⟩ := args0_get hg
      refine ⟨fun _ => ?_, fun hn => absurd (fun p hp => by cases hp) hn⟩
      simp only [Nat.sub_zero] at hv
      have hlt := (List.getElem?_eq_some_iff.1 hv).1
      simp only [Array.getElem?_append, List.size_toArray, hlt, if_true, List.getElem?_toArray]
      exact hv⟩ (St.start hw)
  simp only [Kq] at this
  refine Code.wp_mono (fun e a w q => ?_) this
  cases e <;> exact q
end
end Go.Jog
