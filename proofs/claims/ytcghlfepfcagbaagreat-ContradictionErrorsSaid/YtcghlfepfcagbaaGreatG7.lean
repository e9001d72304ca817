/- Laws that the proofs of this seat share, part 7. -/
import Derived.Test.YtcghlfepfcagbaaGreatG6
namespace Go.Jog
open Go Go.Proofs Go.Shelf

section
variable {P : Program} {ρ : Ren}
/-- slices.SortFunc at elements of one cell. -/
theorem sortOne_fn {α : Type} [Inhabited α] (L6 : SlLaysF.n6 P ρ) (enc : α → Value) (h1 : ∀ x, oneB (enc x) = true) (cf : α → α → Int) (hO : Sort.SWO (ltOf cf)) (g : FuncId) (cb : List Value) (C : Mem)
    (hcmp : ∀ x y C', C.le C' → Gives P g ([enc x, enc y] ++ cb) C' (.int .i64 (cf x y))) (v : Value) (e : TypeId) (l : List α) (hsz : l.length < 4611686018427387904) (hen : Enters P (ρ.f 6) = true) (hen2 : Enters P g = true) :
    Fn P (ρ.f 6) [v, .func (.func g) #[] ⟨cb⟩] C [.arr v e 1 l.length (l.map enc)] fun u _C' L' => ∃ l' : List α, u = .tuple #[] ∧ L' = [.arr v e 1 l.length (l'.map enc)] ∧ l'.Perm l ∧ l'.Pairwise (fun x y => ltOf cf y x = false) := by
  refine ⟨hen, fun w hw => ?_⟩
  have hown : w.ownsRow 0 e 1 v l.length (l.map enc) := hw.e _ (List.mem_cons_self ..)
  rcases hown.2 with ⟨rfl, hz⟩ | ⟨b, cap, cur, rfl, _, hb, h2, h3, h4, h5⟩
  · have hl : l = [] := List.eq_nil_of_length_eq_zero hz
    subst hl
    refine (AnyF.slices_SortFunc_none ({ L6 with } : SlLaysF0.n6 P ρ) none 0 (.func (.func g) #[] ⟨cb⟩) w).mono fun e' w' ⟨h1, h2⟩ => ?_
    subst h2
    exact ⟨_, C, _, h1, St.start hw, [], rfl, rfl, List.Perm.refl _, List.Pairwise.nil⟩
  · have hblk : b < w.heap.size := lt_of_heap hb
    have hH : Sort.Holds enc w b 0 l.toArray := by
      intro j hj
      simp only [List.size_toArray] at hj
      have hj2 : j < cur.size := by omega
      have hc : (l.map enc)[j]? = some cur[j] := by
        rw [← h5, List.getElem?_take, if_pos (by omega), Array.getElem?_toList, Array.getElem?_eq_getElem hj2]
      rw [List.getElem?_map, List.getElem?_eq_getElem hj] at hc
      simp only [Option.map_some, Option.some.injEq] at hc
      refine ⟨?_, ?_⟩
      · rw [Nat.zero_add, cell_of_row w b j cur e (0, 0) hb, getElem!_pos l.toArray j (by simpa using hj)]
        rw [Array.getElem?_eq_getElem hj2, ← hc]
        simp
      · simp [World.frozen?, hb]
    have hlays : CmpLays1 P g ⟨cb⟩ enc cf b 0 l.toArray.size w := by
      intro m os dk hdk x y
      have hW : Sep C [] (sortWorld enc w b 0 m dk os) := ⟨fun q o hq => by
          have hq1 := hw.c q o hq
          unfold sortWorld
          rw [heap_put_other enc w m b _ os (lt_of_heap hq1) (fun h => by
            subst h
            have := hw.n q ⟨_, List.mem_cons_self .., rfl⟩
            rw [this] at hq; cases hq)]
          exact hq1, fun x hx => (by cases hx), List.Pairwise.nil, fun k ⟨x, hx, _⟩ => (by cases hx)⟩
      have ea : (#[enc x, enc y] ++ (⟨cb⟩ : Array Value)) = ([enc x, enc y] ++ cb).toArray := by apply Array.ext'; simp
      rw [ea]
      refine ((hcmp x y C (Mem.le.refl _)).2 _ hW).mono fun e' w' ⟨u, C', L', h1, h2, h3, h4⟩ => ?_
      subst h3
      subst h4
      exact ⟨h1, grow_of_ev h2⟩
    have main := Any.slices_SortFunc L6 enc (fun x => oneB_spec (h1 x)) cf hO g ⟨cb⟩ b 0 cap l.toArray w (fun args w => run_callFunc hen2 args w) hlays hH hblk (by simpa using hsz)
    refine main.mono fun e' w' ⟨h1, d', m, os, hp, hs, hw'⟩ => ?_
    subst hw'
    have hsize : d'.size = l.length := by simpa using hp.1
    have hS := St.sorted (m := m) enc hw d' (by simp [hsize]) os
    exact ⟨_, C, _, h1, hS, d'.toList, rfl, rfl, perm_of hp, sorted_of (by rw [hsize]; simpa using hs)⟩

/-- slices.Sort at ints. -/
theorem sortInt_fn (L189 : Lays.n189 P ρ) (C : Mem) (v : Value) (e : TypeId) (l : List Int) (hsz : l.length < 4611686018427387904) (hen : Enters P (ρ.f 189) = true) :
    Fn P (ρ.f 189) [v] C [.arr v e 1 l.length (l.map fun x => .int .i64 x)] fun u _C' L' => u = .tuple #[] ∧ L' = [.arr v e 1 l.length ((l.mergeSort fun x y => decide (x ≤ y)).map fun x => .int .i64 x)] := by
  refine ⟨hen, fun w hw => ?_⟩
  have hown : w.ownsRow 0 e 1 v l.length (l.map fun x => .int .i64 x) := hw.e _ (List.mem_cons_self ..)
  rcases hown.2 with ⟨rfl, hz⟩ | ⟨b, cap, cur, rfl, _, hb, h2, h3, h4, h5⟩
  · have hl : l = [] := List.eq_nil_of_length_eq_zero hz
    subst hl
    refine (Any.slices_Sort_int_none L189 none 0 w).mono fun e' w' ⟨h1, h2⟩ => ?_
    subst h2
    exact ⟨_, C, _, h1, St.start hw, rfl, by simp⟩
  · have hblk : b < w.heap.size := lt_of_heap hb
    have hH : Sort.Holds (Value.int .i64) w b 0 l.toArray := by
      intro j hj
      simp only [List.size_toArray] at hj
      have hj2 : j < cur.size := by omega
      have hc : (l.map fun x => Value.int .i64 x)[j]? = some cur[j] := by
        rw [← h5, List.getElem?_take, if_pos (by omega), Array.getElem?_toList, Array.getElem?_eq_getElem hj2]
      rw [List.getElem?_map, List.getElem?_eq_getElem hj] at hc
      simp only [Option.map_some, Option.some.injEq] at hc
      refine ⟨?_, ?_⟩
      · rw [Nat.zero_add, cell_of_row w b j cur e (0, 0) hb, getElem!_pos l.toArray j (by simpa using hj)]
        rw [Array.getElem?_eq_getElem hj2, ← hc]
        simp
      · simp [World.frozen?, hb]
    refine (Any.slices_Sort_int L189 b 0 cap l w hH hblk hsz).mono fun e' w' ⟨h1, m, os, hw'⟩ => ?_
    subst hw'
    have hS := St.sorted (m := m) (Value.int .i64) hw (l.mergeSort fun x y => decide (x ≤ y)).toArray (by simp) os
    exact ⟨_, C, _, h1, hS, rfl, rfl⟩
end
end Go.Jog
namespace Go.Jog
open Go

/-- An iterator that hands on these values, to a body that goes on to the end and keeps what is known. -/
def Iter1 (P : Program) (gf : FuncId) (lb : Array Value) (C : Mem) (vss : List Value) : Prop :=
  ∀ (l : Nat) (J : Nat → World → Prop) (W : World),
    (∀ k W, J k W → ∀ b o, C b = some o → W.heap[b]? = some o) → (∀ k W, J k W → J k W.drew) →
    (∀ k v W1, J k W1 → vss[k]? = some v → YieldAt Fence.wide 1 P l #[v] W1 fun e W' => e = .returned (.bool true) ∧ J (k + 1) W') →
    J 0 W → CallsIn Fence.wide 2 P gf (#[.func (.yield l) #[] #[]] ++ lb) W fun e W' => (∃ v, e = .returned v) ∧ J vss.length W'

section
variable {F : Fx} {k : List KI} {fr : Fr} {C : Mem} {L : List Ent}
/-- 'for .. := range f': the body goes to its end in each round. -/
theorem G.rangeFunc1 {g : Operand} {p0 : Nat} {assign body : Code} {gf : FuncId} {lb : Array Value} {vss : List Value} (hW : F.W = Cw.plain F.cx.P) (hd0 : F.dd = [])
    (hg : ev fr [] g = some (.func (.func gf) #[] lb)) (hen : Enters F.cx.P gf = true) (hseq : Iter1 F.cx.P gf lb C vss) (I : Nat → List Ent → Prop) (h0 : I 0 L) (_hp : fr.all (fun x => x.2.1.isEmpty) = true)
    (hok : ∀ u, okPut F.n [] ((p0, [], u) :: fr) p0 = true) (frb : Value → Fr)
    (hassign : ∀ l u W1 L', G ⟨F.cx, F.fn, F.n, ⟨W1, C, L'⟩, F.post, Cw.round F.cx.P l 1, [], fun e a w' => e = .normal ∧ FrOk F.n [] [] (frb u) a ∧ St W1 C L' C L' w'⟩ (norm 64 [.code assign]) .normal ((p0, [], u) :: fr) C L')
    (hbody : ∀ l j u L' W1, I j L' → vss[j]? = some u →
      G ⟨F.cx, F.fn, F.n, ⟨W1, C, L'⟩, F.post, Cw.round F.cx.P l 1, [], fun e _ w' => e = .normal ∧ ∃ L1, I (j + 1) L1 ∧ St W1 C L' C L1 w'⟩ (norm 64 [.code body]) .normal (frb u) C L')
    (hdone : ∀ D L', I vss.length L' → G { F with dd := [{ target := .collected D, args := #[] }] } (norm 64 k) .normal fr C (.obj D (.deferred (some [])) :: L')) :
    G F (.code (.rangeFunc g #[p0] assign body) :: k) .normal fr C L := fun hle a w ha hw => by
  simp only [Kq, hW]
  show (Code.rangeFunc g #[p0] assign body).wp F.cx.P (Kq F k) a w
  refine (wpIn_wide (n := 3)).1 (wpIn_rangeFunc fun fn _ => ?_)
  have hga : a.eval g = .func (.func gf) #[] lb := ev_spec ha (fun p hp => by cases hp) hg
  have hdef : a.defers = [] := ha.defers.trans hd0
  obtain ⟨rec, hrec⟩ : ∃ rec : LoopState → Loop, rec = fun st => { state := st, pending := none, fn, tmps := a.tmps, params := #[p0], assign, body, defers := w.heap.size } := ⟨_, rfl⟩
  obtain ⟨W1, hW1⟩ : ∃ W1, (w.alloc (.deferred (some []))).alloc (.loop (rec .ready)) = W1 := ⟨_, rfl⟩
  have hS1 : St F.b.w0 F.b.C0 F.b.L0 C (.obj (w.heap.size + 1) (.loop (rec .ready)) :: .obj w.heap.size (.deferred (some [])) :: L) W1 := by
    have := St.alloc (St.alloc hw (.deferred (some []))) (.loop (rec .ready))
    rw [World.size_alloc] at this
    rw [← hW1]; exact this
  refine ⟨w.heap.size + 1, [{ target := .collected w.heap.size, args := #[] }], W1, { target := .fn (.func gf) lb, args := #[.func (.yield (w.heap.size + 1)) #[] #[]] }, W1, gf,
    #[.func (.yield (w.heap.size + 1)) #[] #[]] ++ lb, W1, ?_, ?_, fun _ _ => trivial, ?_, fun _ => by decide, ?_⟩
  · rw [← hW1, hrec]; exact run_enterLoop_outer _ _ _ _ _
  · simp only [resolve, hga]
    simp [go_sem]
  · simp [invoke, go_sem, run_callFunc hen]
  · refine (hseq (w.heap.size + 1) (fun j W => ∃ L', I j L' ∧ St F.b.w0 F.b.C0 F.b.L0 C (.obj (w.heap.size + 1) (.loop (rec .ready)) :: .obj w.heap.size (.deferred (some [])) :: L') W) W1
      (fun j W ⟨L', _, hs⟩ => hs.sep.c) (fun j W ⟨L', hi, hs⟩ => ⟨L', hi, hs.drew⟩) ?_ ⟨L, h0, hS1⟩).mono ?_
    · rintro j u W ⟨L', hi, hs⟩ hj
      have hl : W.heap[w.heap.size + 1]? = some (.loop (rec .ready)) := hs.sep.e _ (List.mem_cons_self ..)
      have hy := run_yield (P := F.cx.P) (args := #[u]) hl (by rw [hrec]; rfl)
      rw [hrec] at hy
      have hz : (#[p0].zip #[u]).foldl (fun tmps (x : Nat × Value) => match x with | (t, a) => tmps.setIfInBounds t a) a.tmps = a.tmps.setIfInBounds p0 u := by simp
      dsimp only at hy
      rw [hz] at hy
      refine ⟨fn, _, assign, body, hy, roundIn_of_wpIn trivial ?_⟩
      have hfr : FrOk F.n [] [] ((p0, [], u) :: fr) { tmps := a.tmps.setIfInBounds p0 u, defers := [] } := by
        have h1 := FrOk.put (u := u) (FrOk.mk (dd := []) ha.size hdef ha.ent : FrOk F.n [] [] fr a) (hok u) ⟨fun _ => rfl, fun hn => absurd (fun p hp => by cases hp) hn⟩
        exact ⟨h1.size, rfl, h1.ent⟩
      have hA := G.asIn (hassign (w.heap.size + 1) u W _) (Mem.le.refl _) hfr (St.start hs.sep)
      refine wpIn_mono hA (fun e a1 W2 q => ?_)
      obtain ⟨rfl, hfr1, hs1⟩ := q
      have hs2 := St.call (Lr := []) (by rw [List.append_nil]; exact hs) hs1
      rw [List.append_nil] at hs2
      have hl2 : W2.heap[w.heap.size + 1]? = some (.loop (rec .ready)) := hs2.sep.e _ (List.mem_cons_self ..)
      refine ⟨_, run_beginRound hl2 (by rw [hrec]), ?_⟩
      have hs3 : St F.b.w0 F.b.C0 F.b.L0 C (.obj (w.heap.size + 1) (.loop (rec .busy)) :: .obj w.heap.size (.deferred (some [])) :: L') (W2.putObj (w.heap.size + 1) (.loop { rec .ready with state := .busy })) := by
        have := St.putObj (o' := .loop { rec .ready with state := .busy }) hs2
        rw [hrec] at this ⊢
        exact this
      have hB := G.asIn (hbody (w.heap.size + 1) j u L' (W2.putObj (w.heap.size + 1) (.loop { rec .ready with state := .busy })) hi hj) (Mem.le.refl _) hfr1 (St.start hs3.drop.drop.sep)
      refine wpIn_mono hB (fun e a2 W4 q => ?_)
      obtain ⟨rfl, L1, hi1, hs4⟩ := q
      have hs5 := St.call (Lp := L') (Lr := [.obj (w.heap.size + 1) (.loop (rec .busy)), .obj w.heap.size (.deferred (some []))]) (St.perm hs3 (List.perm_append_comm (l₁ := [_, _]))) hs4
      have hs6 : St F.b.w0 F.b.C0 F.b.L0 C (.obj (w.heap.size + 1) (.loop (rec .busy)) :: .obj w.heap.size (.deferred (some [])) :: L1) W4 := St.perm hs5 (List.perm_append_comm (l₂ := [_, _]))
      have hl4 : W4.heap[w.heap.size + 1]? = some (.loop (rec .busy)) := hs6.sep.e _ (List.mem_cons_self ..)
      refine ⟨_, _, run_endRound none hl4, rfl, L1, hi1, ?_⟩
      have := St.putObj (o' := .loop { rec .busy with state := if (none : Option Code).isNone then .ready else .done, pending := none }) hs6
      rw [hrec] at this ⊢
      exact this
    · rintro e W2 ⟨⟨v, rfl⟩, L', hi, hs⟩
      have hl : W2.heap[w.heap.size + 1]? = some (.loop (rec .ready)) := hs.sep.e _ (List.mem_cons_self ..)
      refine ⟨none, _, by have := run_endLoop (P := F.cx.P) hl (by rw [hrec]; simp); rw [hrec] at this; exact this, ?_⟩
      have hs2 : St F.b.w0 F.b.C0 F.b.L0 C (.obj w.heap.size (.deferred (some [])) :: L') (W2.putObj (w.heap.size + 1) (.loop { rec .ready with state := .exhausted })) := (St.putObj hs).drop
      have := G.norm_ 64 (hdone w.heap.size L' hi) hle { a with defers := [{ target := .collected w.heap.size, args := #[] }] ++ a.defers } _ ⟨ha.size, by rw [hdef]; rfl, ha.ent⟩ hs2
      rw [Kq_dd] at this
      rw [hrec] at this
      exact this


theorem res_t1 {cx : Cx} {fn : Func} {n r : Nat} {dd : List Deferred} {w0 : World} {C0 : Mem} {L0 : List Ent} {x : Value} (hres : fn.results = #[.tmp r])
    (hr : ev fr [] (.tmp r) = some x) :
    ∀ a w, FrOk n [] dd fr a → St w0 C0 L0 C L w → (results fn a.tmps).run cx.P w = .ok x w := fun a w ha _ => by
  have hr' := ev_spec ha (fun p hp => by cases hp) hr
  simp only [Act.eval, Array.getD_eq_getD_getElem?] at hr'
  simp [results, hres, hr']
/-- The return behind it, with what is owned handed on. -/
theorem G.finML {cx : Cx} {fn : Func} {n D : Nat} {b : Bs} {post : Value → Mem → List Ent → Prop} {v : Value}
    (hr : ∀ a w, FrOk n [] [{ target := .collected D, args := #[] }] fr a → St b.w0 b.C0 b.L0 C L w → (results fn a.tmps).run cx.P w = .ok v w) (h : post v C L) :
    G ⟨cx, fn, n, b, post, Cw.plain cx.P, [{ target := .collected D, args := #[] }], bodyPostM Fence.wide 3 cx.P fn (finOf b post)⟩ [] .ret fr C (.obj D (.deferred (some [])) :: L) := fun hle a w ha hw => by
  show LeavesInM _ _ _ _ _ _ a.defers _ _
  rw [ha.defers]
  have hD : w.heap[D]? = some (.deferred (some [])) := hw.sep.e _ (List.mem_cons_self ..)
  have hs := (St.putObj (o' := .deferred none) hw).drop
  exact ⟨by simp, .inl ⟨D, _, rfl, run_takeDeferred hD, v, hr a _ ha hs, v, C, L, rfl, hs, h⟩⟩
end
/-- A row of one's own, handed to a call that keeps it. -/
theorem Fn.give {P : Program} {f : FuncId} {args : List Value} {C : Mem} {L : List Ent} {v : Value} {t size len : Nat} (rows : List (List Value)) {post : Value → Mem → List Ent → Prop} (hen : Enters P f = true) (hl : ∀ r ∈ rows, r.length = size) (hn : rows.length = len)
    (h : ∀ C', C.le C' → Sl C' size v rows → Fn P f args C' L post) : Fn P f args C (.arr v t size len rows.flatten :: L) post :=
  ⟨hen, fun w hw => by
    obtain ⟨C1, h1, h2, h3⟩ := St.freezeArr (St.start hw) hl hn
    refine ((h C1 h1 h2).2 w h3.sep).mono fun e w' ⟨u, C', L', e1, hs, hq⟩ => ⟨u, C', L', e1, ?_, hq⟩
    have := St.call (Lp := L) (Lr := []) (by rw [List.append_nil]; exact h3) hs
    rwa [List.append_nil] at this⟩
end Go.Jog
