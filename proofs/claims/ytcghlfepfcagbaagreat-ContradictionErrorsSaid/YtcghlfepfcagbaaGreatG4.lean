/- Laws that the proofs of this seat share, part 4. -/
import Derived.Test.YtcghlfepfcagbaaGreatG3
import Derived.Test.YtcghlfepfcagbaaGreatShelf
import Derived.TacticsIn
import Derived.OrdersIn
import Derived.RangeFuncCalls
import Derived.RangeFuncSeq
namespace Go.Proofs.YtcghlfepfcagbaaGreat
open Go Go.Jog
set_option maxRecDepth 100000

end Go.Proofs.YtcghlfepfcagbaaGreat
namespace Go.Jog
open Go

def noDefer (ops : Array Oper) : Bool := ops.toList.all fun o => match o.op with
  | .defer _ => false
  | _ => true
theorem noDefer_at {ops : Array Oper} (h : noDefer ops = true) {i : Nat} {o : Oper} (ho : ops[i]? = some o) : ∀ c, o.op ≠ .defer c := by
  intro c hc
  obtain ⟨h1, h2⟩ := Array.getElem?_eq_some_iff.1 ho
  have := List.all_eq_true.1 h ops[i] (Array.getElem_mem_toList h1)
  rw [h2, hc] at this
  cases this

theorem oper_in {P : Program} {o : Oper} {a : Act} {w : World} {next : Act → World → Prop} {Q : Exit → Act → World → Prop} {l n : Nat} (hd : ∀ c, o.op ≠ .defer c) (h : o.wp P a w next Q) : o.wpIn (Fence.wide.inRound l) n P a w next Q := by
  refine ⟨fun _ _ => trivial, ?_⟩
  show o.uponIn (Fence.wide.inRound l) n P a next Q ((o.semAt (some l) a.eval).run P w)
  rw [Oper.semAt_some l a.eval o hd]
  unfold Oper.wp at h
  revert h
  generalize (execOp a.eval o).run P w = r
  intro h
  cases r with
  | ok x w' =>
    cases x with
    | value v => exact h
    | skip => exact h
    | defer d => exact h
    | enter f args => exact ⟨(fun h => (by cases h)), CallsIn.inRound l (callsIn_wide.2 h)⟩
    | row row args =>
      refine ⟨(fun h => (by cases h)), fun c cs _ => ?_⟩
      obtain ⟨v, w2, h1, h2⟩ := h c cs
      exact ⟨v, w2, h1, stepsIn_wide.2 h2⟩
    | _ => exact h.elim
  | halt x w' =>
    cases x <;> exact h

theorem wpOp_in {P : Program} {ops : Array Oper} {N : Act → World → Prop} {l n : Nat} {i : Nat} {K K' : Act → World → Prop} {a : Act} {w : World} (hd : noDefer ops = true) (hk : ∀ a w, K a w → K' a w)
    (h : wpOp P ops (QN N) i K a w) : wpOpIn (Fence.wide.inRound l) n P ops (QN N) i K' a w := by
  unfold wpOp at h
  unfold wpOpIn
  cases ho : ops[i]? with
  | none => rw [ho] at h; exact hk _ _ h
  | some o =>
    rw [ho] at h
    simp only at h ⊢
    split
    · rename_i hw
      rw [if_pos hw] at h
      rcases h with h | ⟨_, a', w', h⟩
      · exact oper_in (noDefer_at hd ho) (Oper.wp_mono hk h)
      · exact h.elim
    · rename_i hw
      rw [if_neg hw] at h
      exact ⟨fun _ _ => trivial, hk _ _ h⟩
theorem wpOps_in {P : Program} {ops : Array Oper} {N : Act → World → Prop} {l n : Nat} (hd : noDefer ops = true) : ∀ (π : List Nat) (a : Act) (w : World), wpOps P ops (QN N) π a w → wpOpsIn (Fence.wide.inRound l) n P ops (QN N) π a w
  | [], _, _, h => h
  | i :: π, a, w, h => by
    rw [wpOps_cons] at h
    rw [wpOpsIn_cons]
    exact wpOp_in hd (fun a w => wpOps_in hd π a w) h
theorem wpAny_in {P : Program} {ops : Array Oper} {N : Act → World → Prop} {l n : Nat} {md : Region.Mode} (hd : noDefer ops = true) : ∀ (f : Nat) (ls : Array Bool) (a : Act) (w : World), wpAny P md ops (QN N) f ls a w → wpAnyIn (Fence.wide.inRound l) n P md ops (QN N) f ls a w
  | 0, _, _, _, h => h
  | f + 1, _ls, _a, _w, h => ⟨h.1, fun i hi => wpOp_in hd (fun a w => wpAny_in hd f _ a w) (h.2 i hi)⟩
end Go.Jog
namespace Go.Jog
open Go
structure RankTo (A : List Arc3) (n : Nat) (pre e : List Nat) : Prop where
  len : e.length = n
  sound : ∀ v, v < n → ∃ u, Walk A (hAt e v) u v
  up : ∀ a ∈ A, a.lo ∈ pre → hAt e a.lo + 1 ≤ hAt e a.up
theorem hAt_setB {l : List Nat} {u v x : Nat} (h : u < l.length) : hAt (l.set u x) v = if v = u then x else hAt l v := by
  unfold hAt
  simp only [List.getD_eq_getElem?_getD, List.getElem?_set]
  by_cases e : u = v
  · subst e; simp [h]
  · rw [if_neg e, if_neg (Ne.symm e)]
theorem RankTo.start {A : List Arc3} {n : Nat} : RankTo A n [] (List.replicate n 0) := by
  refine ⟨by simp, fun v hv => ⟨v, ?_⟩, fun a _ h => by cases h⟩
  have : hAt (List.replicate n 0) v = 0 := by simp [hAt, List.getD_eq_getElem?_getD, hv]
  rw [this]; exact Walk.zero.2 rfl
theorem RankTo.step {A : List Arc3} {n : Nat} {pre e : List Nat} {a : Arc3} (h : RankTo A n pre e) (ha : a ∈ A) (hlo : a.lo < n) (hup : a.up < n) (hne : a.up ≠ a.lo) (hnp : a.up ∉ pre) :
    RankTo A n pre (e.set a.up (max (hAt e a.up) (hAt e a.lo + 1))) ∧ hAt (e.set a.up (max (hAt e a.up) (hAt e a.lo + 1))) a.lo = hAt e a.lo ∧
      hAt e a.lo + 1 ≤ hAt (e.set a.up (max (hAt e a.up) (hAt e a.lo + 1))) a.up ∧ ∀ v, hAt e v ≤ hAt (e.set a.up (max (hAt e a.up) (hAt e a.lo + 1))) v := by
  have hl := h.len
  have hs : ∀ v, hAt (e.set a.up (max (hAt e a.up) (hAt e a.lo + 1))) v = if v = a.up then max (hAt e a.up) (hAt e a.lo + 1) else hAt e v := fun v => hAt_setB (by omega)
  have hge : ∀ v, hAt e v ≤ hAt (e.set a.up (max (hAt e a.up) (hAt e a.lo + 1))) v := fun v => by
    rw [hs]; split
    · rename_i e1; subst e1; exact Nat.le_max_left _ _
    · exact Nat.le_refl _
  refine ⟨⟨by simp [hl], fun v hv => ?_, fun b hb hbp => ?_⟩, by rw [hs, if_neg (Ne.symm hne)], by rw [hs, if_pos rfl]; exact Nat.le_max_right _ _, hge⟩
  · rw [hs]
    by_cases e1 : v = a.up
    · subst e1
      rw [if_pos rfl]
      rcases Nat.le_total (hAt e a.up) (hAt e a.lo + 1) with h1 | h1
      · rw [Nat.max_eq_right h1]
        obtain ⟨u, hu⟩ := h.sound a.lo hlo
        exact ⟨u, Walk.snoc.2 ⟨a, ha, rfl, hu⟩⟩
      · rw [Nat.max_eq_left h1]; exact h.sound _ hv
    · rw [if_neg e1]; exact h.sound v hv
  · have h1 := h.up b hb hbp
    have h2 : b.lo ≠ a.up := fun e1 => hnp (e1 ▸ hbp)
    rw [hs b.lo, if_neg h2]
    exact Nat.le_trans h1 (hge _)
theorem RankTo.snoc {A : List Arc3} {n i : Nat} {pre e : List Nat} (h : RankTo A n pre e) (hi : ∀ a ∈ nexts A i, hAt e i + 1 ≤ hAt e a.up) : RankTo A n (pre ++ [i]) e :=
  ⟨h.len, h.sound, fun a ha hp => by
    rcases List.mem_append.1 hp with h1 | h1
    · exact h.up a ha h1
    · have e1 := List.mem_singleton.1 h1
      have := hi a (by unfold nexts; rw [List.mem_filter]; exact ⟨ha, by simp [e1]⟩)
      rw [e1]; exact this⟩
theorem RankTo.done {A : List Arc3} {n : Nat} {pre e : List Nat} (h : RankTo A n pre e) (hb : Below n A) (hall : ∀ a ∈ A, a.lo ∈ pre) {v : Nat} (hv : v < n) : LongTo A v (hAt e v) := by
  refine ⟨h.sound v hv, ?_⟩
  intro k
  induction k generalizing v with
  | zero => intro u _; omega
  | succ k ih =>
    intro u hw
    obtain ⟨a, ha, hu, hw2⟩ := Walk.snoc.1 hw
    subst hu
    have h1 := h.up a ha (hall a ha)
    have h2 := ih (hb a ha).1 _ hw2
    omega

end Go.Jog
namespace Go.Jog
open Go
section
variable {cx : Cx} {n : Nat} {ds : List (Option Nat)} {R : Rg n ds} {its : List It} {fr : Fr} {C : Mem} {L : List Ent} {i k d : Nat} {o : Oper} {g : GL} {v : Value}
theorem D.max {x y : Operand} {ts : Array TypeId} {p q : Int} {ki kj : IntKind} (c : Int) (hk : Nat.ble k 1 = true) (hd : o.dst = some d) (hop : o.op = .call ⟨.builtin .max, #[x, y], ts⟩) (hg : gOf ds fr o.guard = some g) (hx : ev fr g x = some (.int ki p)) (hy : ev fr g y = some (.int kj q))
    (hc : Max.max p q = c) (hp : okPut n ds ((d, g, .int ki c) :: fr) d = true) (hwf : wfG ds fr g = true)
    (h : D cx R its ((d, g, .int ki c) :: fr) C L) : D cx R ((i, k, o) :: its) fr C L :=
  D.run _ hk hd hg (fun _ a hs w => by
    have e1 : execOp a.eval o = (do let dd ← resolve a.eval ⟨.builtin .max, #[x, y], ts⟩ o.type; invoke dd.target dd.args : Sem Next) := by unfold execOp; rw [hop]
    rw [e1]
    have hm : (if q > p then q else p) = c := by rw [← hc]; by_cases hh : q > p <;> simp [hh] <;> omega
    simp [resolve, invoke, builtin, hs _ _ hx, hs _ _ hy, Builtin.max_, Builtin.max2, hm]) hp hwf h
theorem D.min {x y : Operand} {ts : Array TypeId} {p q : Int} {ki kj : IntKind} (c : Int) (hk : Nat.ble k 1 = true) (hd : o.dst = some d) (hop : o.op = .call ⟨.builtin .min, #[x, y], ts⟩) (hg : gOf ds fr o.guard = some g) (hx : ev fr g x = some (.int ki p)) (hy : ev fr g y = some (.int kj q))
    (hc : Min.min p q = c) (hp : okPut n ds ((d, g, .int ki c) :: fr) d = true) (hwf : wfG ds fr g = true)
    (h : D cx R its ((d, g, .int ki c) :: fr) C L) : D cx R ((i, k, o) :: its) fr C L :=
  D.run _ hk hd hg (fun _ a hs w => by
    have e1 : execOp a.eval o = (do let dd ← resolve a.eval ⟨.builtin .min, #[x, y], ts⟩ o.type; invoke dd.target dd.args : Sem Next) := by unfold execOp; rw [hop]
    rw [e1]
    have hm : (if q < p then q else p) = c := by rw [← hc]; by_cases hh : q < p <;> simp [hh] <;> omega
    simp [resolve, invoke, builtin, hs _ _ hx, hs _ _ hy, Builtin.min_, Builtin.min2, hm]) hp hwf h
end
end Go.Jog
namespace Go.Jog
open Go

/-- Code of a round. -/
def Cw.round (P : Program) (l n : Nat) : Cw P where
  wp := fun c Q a w => c.wpIn (Fence.wide.inRound l) n P Q a w
  nd := fun ops => noDefer ops = true
  mono := fun h q => wpIn_mono q h
  skip := wpIn_skip
  ret := wpIn_ret
  exit := wpIn_exit
  seq := wpIn_seq
  block := wpIn_block
  cond := wpIn_cond_split
  loop := wpIn_loop
  region := fun hd h => wpIn_mono (wpIn_region (wpOps_in hd _ _ _ h)) (fun e a w q => by cases e <;> first | exact q | exact q.elim)
  any := fun hm hd h => wpIn_mono (wpIn_region_any hm (wpAny_in hd _ _ _ _ h)) (fun e a w q => by cases e <;> first | exact q | exact q.elim)

theorem Kq_dd (F : Fx) (dd : List Deferred) : ∀ k, Kq { F with dd := dd } k = Kq F k
  | [] => rfl
  | .code c :: k => by
    funext e a w
    cases e <;> simp only [Kq, Kq_dd F dd k]
  | .blk id :: k => by
    funext e a w
    cases e <;> simp only [Kq, Kq_dd F dd k]
  | .inv I :: k => by
    funext e a w
    cases e <;> simp only [Kq, Kq_dd F dd k]

/-- An iterator that hands on these values, two at a time, to a body that goes on to the end and keeps what is known. -/
def Iter (P : Program) (gf : FuncId) (lb : Array Value) (C : Mem) (vss : List (Value × Value)) : Prop :=
  ∀ (l : Nat) (J : Nat → World → Prop) (W : World),
    (∀ k W, J k W → ∀ b o, C b = some o → W.heap[b]? = some o) → (∀ k W, J k W → J k W.drew) →
    (∀ k v W1, J k W1 → vss[k]? = some v → YieldAt Fence.wide 1 P l #[v.1, v.2] W1 fun e W' => e = .returned (.bool true) ∧ J (k + 1) W') →
    J 0 W → CallsIn Fence.wide 2 P gf (#[.func (.yield l) #[] #[]] ++ lb) W fun e W' => (∃ v, e = .returned v) ∧ J vss.length W'

section
variable {F : Fx} {k : List KI} {fr : Fr} {C : Mem} {L : List Ent}
theorem St.putObj {w0 : World} {C0 : Mem} {L0 : List Ent} {C : Mem} {L : List Ent} {w : World} {b : Nat} {o o' : Obj} (h : St w0 C0 L0 C (.obj b o :: L) w) : St w0 C0 L0 C (.obj b o' :: L) (w.putObj b o') := by
  have hb : w.heap[b]? = some o := h.sep.e _ (List.mem_cons_self ..)
  exact St.put h (World.putObj_heap_same (Array.getElem?_eq_some_iff.1 hb).1) (fun k hk => World.putObj_heap_other hk) (World.putObj_size) rfl rfl rfl (Nat.le_refl _)

theorem G.asIn {cx : Cx} {fn : Func} {n l : Nat} {b : Bs} {post : Value → Mem → List Ent → Prop} {last : Exit → Act → World → Prop} {c : Code} (h : G ⟨cx, fn, n, b, post, Cw.round cx.P l 1, [], last⟩ (norm 64 [.code c]) .normal fr C L)
    (hle : b.C0.le C) {a : Act} {w : World} (ha : FrOk n [] [] fr a) (hw : b.cls (C, L) w) : c.wpIn (Fence.wide.inRound l) 1 cx.P last a w := by
  have := G.norm_ 64 h hle a w ha hw
  simp only [Kq] at this
  exact wpIn_mono this (fun e a w q => by cases e <;> exact q)

/-- 'for .. := range f': the body goes to its end in each round. -/
theorem G.rangeFunc {g : Operand} {p0 p1 : Nat} {assign body : Code} {gf : FuncId} {lb : Array Value} {vss : List (Value × Value)} (hW : F.W = Cw.plain F.cx.P) (hd0 : F.dd = [])
    (hg : ev fr [] g = some (.func (.func gf) #[] lb)) (hen : Enters F.cx.P gf = true) (hseq : Iter F.cx.P gf lb C vss) (I : Nat → List Ent → Prop) (h0 : I 0 L) (_hp : fr.all (fun x => x.2.1.isEmpty) = true)
    (hok : ∀ u v, (okPut F.n [] ((p0, [], u) :: fr) p0 && okPut F.n [] ((p1, [], v) :: (p0, [], u) :: fr) p1) = true) (frb : Value → Value → Fr)
    (hassign : ∀ l u v W1 L', G ⟨F.cx, F.fn, F.n, ⟨W1, C, L'⟩, F.post, Cw.round F.cx.P l 1, [], fun e a w' => e = .normal ∧ FrOk F.n [] [] (frb u v) a ∧ St W1 C L' C L' w'⟩ (norm 64 [.code assign]) .normal ((p1, [], v) :: (p0, [], u) :: fr) C L')
    (hbody : ∀ l j u v L' W1, I j L' → vss[j]? = some (u, v) →
      G ⟨F.cx, F.fn, F.n, ⟨W1, C, L'⟩, F.post, Cw.round F.cx.P l 1, [], fun e _ w' => e = .normal ∧ ∃ L1, I (j + 1) L1 ∧ St W1 C L' C L1 w'⟩ (norm 64 [.code body]) .normal (frb u v) C L')
    (hdone : ∀ D L', I vss.length L' → G { F with dd := [{ target := .collected D, args := #[] }] } (norm 64 k) .normal fr C (.obj D (.deferred (some [])) :: L')) :
    G F (.code (.rangeFunc g #[p0, p1] assign body) :: k) .normal fr C L := fun hle a w ha hw => by
  simp only [Kq, hW]
  show (Code.rangeFunc g #[p0, p1] assign body).wp F.cx.P (Kq F k) a w
  refine (wpIn_wide (n := 3)).1 (wpIn_rangeFunc fun fn _ => ?_)
  have hga : a.eval g = .func (.func gf) #[] lb := ev_spec ha (fun p hp => by cases hp) hg
  have hdef : a.defers = [] := ha.defers.trans hd0
  obtain ⟨rec, hrec⟩ : ∃ rec : LoopState → Loop, rec = fun st => { state := st, pending := none, fn, tmps := a.tmps, params := #[p0, p1], assign, body, defers := w.heap.size } := ⟨_, rfl⟩
  obtain ⟨W1, hW1⟩ : ∃ W1, (w.alloc (.deferred (some []))).alloc (.loop (rec .ready)) = W1 := ⟨_, rfl⟩
  have hS1 : St F.b.w0 F.b.C0 F.b.L0 C (.obj (w.heap.size + 1) (.loop (rec .ready)) :: .obj w.heap.size (.deferred (some [])) :: L) W1 := by
    have := St.alloc (St.alloc hw (.deferred (some []))) (.loop (rec .ready))
    rw [World.size_alloc] at this
    rw [← hW1]; exact this
  refine ⟨w.heap.size + 1, [{ target := .collected w.heap.size, args := #[] }], W1, { target := .fn (.func gf) lb, args := #[.func (.yield (w.heap.size + 1)) #[] #[]] }, W1, gf,
    #[.func (.yield (w.heap.size + 1)) #[] #[]] ++ lb, W1, ?_, ?_, fun _ _ => trivial, ?_, fun _ => by decide, ?_⟩
  · rw [← hW1, hrec]; exact run_enterLoop_outer _ _ _ _ _
  · simp only [resolve, hga]
    simp [go_sem]
  · simp [invoke, go_sem, run_callFunc hen]
  · refine (hseq (w.heap.size + 1) (fun j W => ∃ L', I j L' ∧ St F.b.w0 F.b.C0 F.b.L0 C (.obj (w.heap.size + 1) (.loop (rec .ready)) :: .obj w.heap.size (.deferred (some [])) :: L') W) W1
      (fun j W ⟨L', _, hs⟩ => hs.sep.c) (fun j W ⟨L', hi, hs⟩ => ⟨L', hi, hs.drew⟩) ?_ ⟨L, h0, hS1⟩).mono ?_
    · rintro j ⟨u, v⟩ W ⟨L', hi, hs⟩ hj
      have hl : W.heap[w.heap.size + 1]? = some (.loop (rec .ready)) := hs.sep.e _ (List.mem_cons_self ..)
      have hy := run_yield (P := F.cx.P) (args := #[u, v]) hl (by rw [hrec]; rfl)
      rw [hrec] at hy
      have hz : (#[p0, p1].zip #[u, v]).foldl (fun tmps (x : Nat × Value) => match x with | (t, a) => tmps.setIfInBounds t a) a.tmps = (a.tmps.setIfInBounds p0 u).setIfInBounds p1 v := by simp
      dsimp only at hy
      rw [hz] at hy
      refine ⟨fn, _, assign, body, hy, roundIn_of_wpIn trivial ?_⟩
      have hfr : FrOk F.n [] [] ((p1, [], v) :: (p0, [], u) :: fr) { tmps := (a.tmps.setIfInBounds p0 u).setIfInBounds p1 v, defers := [] } := by
        have hk := hok u v
        rw [Bool.and_eq_true] at hk
        have h1 := FrOk.put (u := u) (FrOk.mk (dd := []) ha.size hdef ha.ent : FrOk F.n [] [] fr a) hk.1 ⟨fun _ => rfl, fun hn => absurd (fun p hp => by cases hp) hn⟩
        have h2 := FrOk.put (u := v) h1 hk.2 ⟨fun _ => rfl, fun hn => absurd (fun p hp => by cases hp) hn⟩
        exact ⟨h2.size, rfl, h2.ent⟩
      have hA := G.asIn (hassign (w.heap.size + 1) u v W _) (Mem.le.refl _) hfr (St.start hs.sep)
      refine wpIn_mono hA (fun e a1 W2 q => ?_)
      obtain ⟨rfl, hfr1, hs1⟩ := q
      have hs2 := St.call (Lr := []) (by rw [List.append_nil]; exact hs) hs1
      rw [List.append_nil] at hs2
      have hl2 : W2.heap[w.heap.size + 1]? = some (.loop (rec .ready)) := hs2.sep.e _ (List.mem_cons_self ..)
      refine ⟨_, run_beginRound hl2 (by rw [hrec]), ?_⟩
      have hs3 : St F.b.w0 F.b.C0 F.b.L0 C (.obj (w.heap.size + 1) (.loop (rec .busy)) :: .obj w.heap.size (.deferred (some [])) :: L') (W2.putObj (w.heap.size + 1) (.loop { rec .ready with state := .busy })) := by
        have := St.putObj (o' := .loop { rec .ready with state := .busy }) hs2
        rw [hrec] at this ⊢
        exact this
      have hB := G.asIn (hbody (w.heap.size + 1) j u v L' (W2.putObj (w.heap.size + 1) (.loop { rec .ready with state := .busy })) hi hj) (Mem.le.refl _) hfr1 (St.start hs3.drop.drop.sep)
      refine wpIn_mono hB (fun e a2 W4 q => ?_)
      obtain ⟨rfl, L1, hi1, hs4⟩ := q
      have hs5 := St.call (Lp := L') (Lr := [.obj (w.heap.size + 1) (.loop (rec .busy)), .obj w.heap.size (.deferred (some []))]) (St.perm hs3 (List.perm_append_comm (l₁ := [_, _]))) hs4
      have hs6 : St F.b.w0 F.b.C0 F.b.L0 C (.obj (w.heap.size + 1) (.loop (rec .busy)) :: .obj w.heap.size (.deferred (some [])) :: L1) W4 := St.perm hs5 (List.perm_append_comm (l₂ := [_, _]))
      have hl4 : W4.heap[w.heap.size + 1]? = some (.loop (rec .busy)) := hs6.sep.e _ (List.mem_cons_self ..)
      refine ⟨_, _, run_endRound none hl4, rfl, L1, hi1, ?_⟩
      have := St.putObj (o' := .loop { rec .busy with state := if (none : Option Code).isNone then .ready else .done, pending := none }) hs6
      rw [hrec] at this ⊢
      exact this
    · rintro e W2 ⟨⟨v, rfl⟩, L', hi, hs⟩
      have hl : W2.heap[w.heap.size + 1]? = some (.loop (rec .ready)) := hs.sep.e _ (List.mem_cons_self ..)
      refine ⟨none, _, by have := run_endLoop (P := F.cx.P) hl (by rw [hrec]; simp); rw [hrec] at this; exact this, ?_⟩
      have hs2 : St F.b.w0 F.b.C0 F.b.L0 C (.obj w.heap.size (.deferred (some [])) :: L') (W2.putObj (w.heap.size + 1) (.loop { rec .ready with state := .exhausted })) := (St.putObj hs).drop
      have := G.norm_ 64 (hdone w.heap.size L' hi) hle { a with defers := [{ target := .collected w.heap.size, args := #[] }] ++ a.defers } _ ⟨ha.size, by rw [hdef]; rfl, ha.ent⟩ hs2
      rw [Kq_dd] at this
      rw [hrec] at this
      exact this

/-- The end of a round. -/
theorem G.roundEnd {cx : Cx} {fn : Func} {n : Nat} {W1 : World} {C C' : Mem} {L' L1 L2 : List Ent} {post : Value → Mem → List Ent → Prop} {W : Cw cx.P} {R : List Ent → Prop} (hp : L1.Perm L2) (h : R L2) :
    G ⟨cx, fn, n, ⟨W1, C, L'⟩, post, W, [], fun e _ w' => e = .normal ∧ ∃ L1, R L1 ∧ St W1 C L' C L1 w'⟩ [] .normal fr C' L1 := fun hle _ _ _ hw =>
  ⟨rfl, L2, h, St.less (St.perm hw hp) (Mem.le.refl _) hle⟩
theorem G.assignEnd {cx : Cx} {fn : Func} {n : Nat} {W1 : World} {C C' : Mem} {L' : List Ent} {post : Value → Mem → List Ent → Prop} {W : Cw cx.P} {fr' : Fr} (hs : Has fr fr') :
    G ⟨cx, fn, n, ⟨W1, C, L'⟩, post, W, [], fun e a w' => e = .normal ∧ FrOk n [] [] fr' a ∧ St W1 C L' C L' w'⟩ [] .normal fr C' L' := fun hle _ _ ha hw =>
  ⟨rfl, ha.weaken hs.sub, St.less hw (Mem.le.refl _) hle⟩

/-- A function with a range over a function. -/
theorem Fn.introM {cx : Cx} {f : FuncId} {fn : Func} {c : Code} {args : List Value} {C : Mem} {L : List Ent} {post : Value → Mem → List Ent → Prop} (hen : Enters cx.P f = true) (hf : cx.P.funcs[f]? = some fn) (hb : fn.body = some c)
    (n : Nat) (hnt : fn.ntmps = n) (hn : Nat.ble args.length n = true)
    (h : ∀ w0, G ⟨cx, fn, n, ⟨w0, C, L⟩, post, Cw.plain cx.P, [], bodyPostM Fence.wide 3 cx.P fn (finOf ⟨w0, C, L⟩ post)⟩ (norm 64 [.code c]) .normal (args0 args 0) C L) : Fn cx.P f args C L post := by
  subst hnt
  refine ⟨hen, fun w hw => callsIn_wide.1 (callsIn_of_wp_marks (n := 3) hf hb trivial ?_)⟩
  rw [Nat.ble_eq] at hn
  have := G.norm_ 64 (h w) (Mem.le.refl _) { tmps := args.toArray ++ Array.replicate (fn.ntmps - args.toArray.size) undef, defers := [] } w
    ⟨by simp; omega, rfl, fun s g v hg => by
      obtain ⟨rfl, _, hv⟩ := args0_get hg
      refine ⟨fun _ => ?_, fun hn => absurd (fun p hp => by cases hp) hn⟩
      simp only [Nat.sub_zero] at hv
      have hlt := (List.getElem?_eq_some_iff.1 hv).1
      simp only [Array.getElem?_append, List.size_toArray, hlt, if_true, List.getElem?_toArray]
      exact hv⟩ (St.start hw)
  simp only [Kq] at this
  refine wpIn_wide.2 (Code.wp_mono (fun e a w q => ?_) this)
  cases e <;> exact q

end
end Go.Jog
namespace Go.Jog
open Go
structure RankS (A : List Arc3) (n : Nat) (S : Arc3 → Prop) (e : List Nat) : Prop where
  len : e.length = n
  sound : ∀ v, v < n → ∃ u, Walk A (hAt e v) u v
  up : ∀ a ∈ A, S a → hAt e a.lo + 1 ≤ hAt e a.up
theorem RankS.start {A : List Arc3} {n : Nat} : RankS A n (fun _ => False) (List.replicate n 0) := by
  refine ⟨by simp, fun v hv => ⟨v, ?_⟩, fun a _ h => h.elim⟩
  have : hAt (List.replicate n 0) v = 0 := by simp [hAt, List.getD_eq_getElem?_getD, hv]
  rw [this]; exact Walk.zero.2 rfl
theorem RankS.mono {A : List Arc3} {n : Nat} {S T : Arc3 → Prop} {e : List Nat} (h : RankS A n S e) (hs : ∀ a ∈ A, T a → S a) : RankS A n T e :=
  ⟨h.len, h.sound, fun a ha ht => h.up a ha (hs a ha ht)⟩
theorem RankS.step {A : List Arc3} {n : Nat} {S : Arc3 → Prop} {e : List Nat} {a : Arc3} (h : RankS A n S e) (ha : a ∈ A) (hlo : a.lo < n) (hup : a.up < n) (hne : a.up ≠ a.lo) (hnp : ∀ b ∈ A, S b → b.lo ≠ a.up) :
    RankS A n (fun b => S b ∨ b = a) (e.set a.up (max (hAt e a.up) (hAt e a.lo + 1))) := by
  have hl := h.len
  have hs : ∀ v, hAt (e.set a.up (max (hAt e a.up) (hAt e a.lo + 1))) v = if v = a.up then max (hAt e a.up) (hAt e a.lo + 1) else hAt e v := fun v => hAt_setB (by omega)
  have hge : ∀ v, hAt e v ≤ hAt (e.set a.up (max (hAt e a.up) (hAt e a.lo + 1))) v := fun v => by
    rw [hs]; split
    · rename_i e1; subst e1; exact Nat.le_max_left _ _
    · exact Nat.le_refl _
  refine ⟨by simp [hl], fun v hv => ?_, fun b hb hbp => ?_⟩
  · rw [hs]
    by_cases e1 : v = a.up
    · subst e1
      rw [if_pos rfl]
      rcases Nat.le_total (hAt e a.up) (hAt e a.lo + 1) with h1 | h1
      · rw [Nat.max_eq_right h1]
        obtain ⟨u, hu⟩ := h.sound a.lo hlo
        exact ⟨u, Walk.snoc.2 ⟨a, ha, rfl, hu⟩⟩
      · rw [Nat.max_eq_left h1]; exact h.sound _ hv
    · rw [if_neg e1]; exact h.sound v hv
  · rcases hbp with hbp | rfl
    · have h1 := h.up b hb hbp
      rw [hs b.lo, if_neg (hnp b hb hbp)]
      exact Nat.le_trans h1 (hge _)
    · rw [hs b.lo, if_neg (Ne.symm hne), hs b.up, if_pos rfl]
      exact Nat.le_max_right _ _
theorem RankS.done {A : List Arc3} {n : Nat} {S : Arc3 → Prop} {e : List Nat} (h : RankS A n S e) (hb : Below n A) (hall : ∀ a ∈ A, S a) {v : Nat} (hv : v < n) : LongTo A v (hAt e v) := by
  refine ⟨h.sound v hv, ?_⟩
  intro k
  induction k generalizing v with
  | zero => intro u _; omega
  | succ k ih =>
    intro u hw
    obtain ⟨a, ha, hu, hw2⟩ := Walk.snoc.1 hw
    subst hu
    have h1 := h.up a ha (hall a ha)
    have h2 := ih (hb a ha).1 _ hw2
    omega

/-- The greatest of some numbers. -/
def IsMost (e : List Nat) (xs : List Nat) (m : Nat) : Prop := (∀ x ∈ xs, hAt e x ≤ m) ∧ (m = 0 ∨ ∃ x ∈ xs, hAt e x = m)
theorem IsMost.snoc {e xs : List Nat} {m i : Nat} (h : IsMost e xs m) : IsMost e (xs ++ [i]) (max m (hAt e i)) := by
  refine ⟨fun x hx => ?_, ?_⟩
  · rcases List.mem_append.1 hx with h1 | h1
    · exact Nat.le_trans (h.1 x h1) (Nat.le_max_left _ _)
    · rw [List.mem_singleton.1 h1]; exact Nat.le_max_right _ _
  · rcases Nat.le_total m (hAt e i) with h1 | h1
    · rw [Nat.max_eq_right h1]; exact .inr ⟨i, by simp, rfl⟩
    · rw [Nat.max_eq_left h1]
      rcases h.2 with h2 | ⟨x, hx, h2⟩
      · exact .inl h2
      · exact .inr ⟨x, by simp [hx], h2⟩
end Go.Jog
