/- Laws that the proofs of this seat share, part 5. -/
import Derived.Test.YtfelabnohopfdaaGreatDoorG4
import Derived.Test.YtfelabnohopfdaaGreatDoorShelf
namespace Go.Proofs.YtfelabnohopfdaaGreatDoor
open Go Go.Jog
set_option maxRecDepth 100000

structure RV where
  A : Option Addr
  n : Nat
  c : Nat
  s : Str
def RV.enc (r : RV) : List Value := [.slice r.A r.n r.c, strV r.s]
/-- Rows as arguments: factors and a bound. -/
def RowsIn (C : Mem) (v : Value) (rows : List (List Str × Str)) : Prop := ∃ rs : List RV, Sl C 2 v (rs.map RV.enc) ∧ rs.length = rows.length ∧ ∀ (i : Nat) (r : RV) (row : List Str × Str), rs[i]? = some r → rows[i]? = some row → Sl C 1 (.slice r.A r.n r.c) (row.1.map encS) ∧ r.s = row.2
theorem RowsIn.mono {C D : Mem} {v : Value} {rows : List (List Str × Str)} (h : RowsIn C v rows) (hl : C.le D) : RowsIn D v rows := by
  obtain ⟨rs, h1, h2, h3⟩ := h
  exact ⟨rs, h1.mono hl, h2, fun i r row hr hw => ⟨(h3 i r row hr hw).1.mono hl, (h3 i r row hr hw).2⟩⟩
structure SV where
  A : Option Addr
  n : Nat
  c : Nat
def SV.enc (x : SV) : List Value := [.slice x.A x.n x.c]
/-- A slice of slices of fractions. -/
def FrLL (C : Mem) (xs : List SV) (fs : List (List Rat)) : Prop := xs.length = fs.length ∧ ∀ (i : Nat) (x : SV) (f : List Rat), xs[i]? = some x → fs[i]? = some f → FrL C (.slice x.A x.n x.c) f
theorem FrLL.mono {C D : Mem} {xs : List SV} {fs : List (List Rat)} (h : FrLL C xs fs) (hl : C.le D) : FrLL D xs fs := ⟨h.1, fun i x f h1 h2 => (h.2 i x f h1 h2).mono hl⟩
theorem FrLL.nil (C : Mem) : FrLL C [] [] := ⟨rfl, fun i x q h => by simp at h⟩
theorem FrLL.snoc {C : Mem} {xs : List SV} {fs : List (List Rat)} {x : SV} {f : List Rat} (h : FrLL C xs fs) (hx : FrL C (.slice x.A x.n x.c) f) : FrLL C (xs ++ [x]) (fs ++ [f]) := by
  have hl : xs.length = fs.length := h.1
  refine ⟨by simp [hl], fun i y p h1 h2 => ?_⟩
  rcases Nat.lt_or_ge i xs.length with hi | hi
  · rw [List.getElem?_append_left hi] at h1
    rw [List.getElem?_append_left (by omega)] at h2
    exact h.2 i y p h1 h2
  · rw [List.getElem?_append_right hi] at h1
    rw [List.getElem?_append_right (by omega), ← hl] at h2
    cases hk : i - xs.length with
    | zero =>
      rw [hk] at h1 h2
      simp at h1 h2
      subst h1 h2
      exact hx
    | succ k => rw [hk] at h1; simp at h1
def rowM (n : Int) (row : List Str × Str) : Option (List Rat × Rat) :=
  match readsM row.1, readM row.2 with
  | some f, some b => if (f.length : Int) = n then some (f, b) else none
  | _, _ => none
def rowsM (n : Int) : List (List Str × Str) → Option (List (List Rat × Rat))
  | [] => some []
  | s :: l => match rowM n s, rowsM n l with
    | some q, some qs => some (q :: qs)
    | _, _ => none
theorem rowsM_snoc (n : Int) : ∀ (l : List (List Str × Str)) (s : List Str × Str), rowsM n (l ++ [s]) = match rowsM n l, rowM n s with
    | some qs, some q => some (qs ++ [q])
    | _, _ => none
  | [], s => by
    simp only [List.nil_append, rowsM]
    cases rowM n s <;> rfl
  | a :: l, s => by
    simp only [List.cons_append, rowsM, rowsM_snoc n l s]
    cases rowM n a <;> cases rowsM n l <;> cases rowM n s <;> rfl
theorem rowsM_none {n : Int} : ∀ {l : List (List Str × Str)} {s : List Str × Str}, s ∈ l → rowM n s = none → rowsM n l = none
  | a :: l, s, hs, h => by
    simp only [rowsM]
    rcases List.mem_cons.1 hs with rfl | h2
    · rw [h]
    · rw [rowsM_none h2 h]
      cases rowM n a <;> rfl
def openM (n : Int) (rows : List (List Str × Str)) (d : List Str) : Option (List (List Rat × Rat) × List Rat) :=
  match rowsM n rows, readsM d with
  | some ps, some ms => if ms.length = rows.length ∧ ms.any (fun q => decide (q.num < 0)) = false then some (ps, ms) else none
  | _, _ => none
/-- A system of right rows and multipliers. -/
structure YV where
  A : Option Addr
  n : Nat
  c : Nat
  A2 : Option Addr
  n2 : Nat
  c2 : Nat
  A3 : Option Addr
  n3 : Nat
  c3 : Nat
def YV.enc (y : YV) : List Value := [.slice y.A y.n y.c, .slice y.A2 y.n2 y.c2, .slice y.A3 y.n3 y.c3]
def SysC (C : Mem) (y : YV) (ps : List (List Rat × Rat)) (ms : List Rat) : Prop := (∃ xs : List SV, Sl C 1 (.slice y.A y.n y.c) (xs.map SV.enc) ∧ FrLL C xs (ps.map (·.1))) ∧ FrL C (.slice y.A2 y.n2 y.c2) (ps.map (·.2)) ∧ FrL C (.slice y.A3 y.n3 y.c3) ms
abbrev sA (A : Option Addr) (n c : Nat) : Value := .slice A n c
abbrev sB (A : Option Addr) (n c : Nat) : Value := .slice A n c
def negD (d : List Str) : Bool := match readsM d with
  | some ms => ms.any fun q => decide (q.num < 0)
  | none => false
theorem RowsF.any {C : Mem} : ∀ {xs : List FV} {qs : List Rat}, RowsF C xs qs → (xs.any fun x => x.b) = qs.any fun q => decide (q.num < 0)
  | [], [], _ => rfl
  | [], _ :: _, h => by have := h.1; simp at this
  | _ :: _, [], h => by have := h.1; simp at this
  | x :: xs, q :: qs, h => by
    have h1 : x.b = decide (q.num < 0) := by
      obtain ⟨u, w, e, _⟩ := h.2 0 x q rfl rfl
      simp [FV.enc, encF] at e
      exact e.1
    have h2 : RowsF C xs qs := ⟨by have := h.1; simpa using this, fun i y p hy hp => h.2 (i + 1) y p (by simpa using hy) (by simpa using hp)⟩
    simp only [List.any_cons, h1, RowsF.any h2]
theorem contNeg {C : Mem} {v : Value} {ms : List Rat} (h : FrL C v ms) : Gives cx.P 56 [v, .func (.func 57) #[] #[]] C (.bool (ms.any fun q => decide (q.num < 0))) := by
  obtain ⟨xs, h1, h2⟩ := h
  rw [← h2.any]
  exact contFr_fn C v xs _ [] (fun x => x.b) h1 (fun x _ C' _ => open1_fn C' x)
theorem or_no {a b : Bool} (h : (!a || b) = false) : a = true := by cases a <;> simp_all
set_option maxHeartbeats 4000000 in
theorem open_fn (C : Mem) (v : Value) (n : Int) (Ad : Option Addr) (nd cd : Nat) (rows : List (List Str × Str)) (d : List Str) (hv : RowsIn C v rows) (hd : Sl C 1 (.slice Ad nd cd) (d.map encS)) (hl : rows.length ≤ 10000) (hf : ∀ r ∈ rows, r.1.length ≤ 1000000 ∧ (∀ s ∈ r.1, s.length < 1000000) ∧ r.2.length < 1000000) (hdl : d.length ≤ 1000000) (hds : ∀ s ∈ d, s.length < 1000000) :
    Pur cx.P 27 [v, .int .i64 n, .agg ⟨[.slice Ad nd cd]⟩] C fun u D => ∃ y : YV, u = .tuple #[.agg ⟨y.enc⟩, .bool (openM n rows d).isSome] ∧ ∀ ps ms, openM n rows d = some (ps, ms) → SysC D y ps ms := by
  obtain ⟨rs, hsv, hrl, hrs⟩ := hv
  obtain ⟨A0, c0, rfl, hlx, hlx2, _⟩ := id hsv
  have hmx : maxLen ≤ 9223372036854775807 := by simp [maxLen]
  simp only [List.length_map] at hsv hlx hlx2 ⊢
  refine Fn.intro (by kernel_rfl) Tryz.func27 rfl 82 rfl rfl (fun w0 => ?_)
  refine G.region rfl (fun R hR => ?_)
  refine D.box rfl rfl rfl rfl rfl rfl (fun _ => rfl) (fun b5 => ?_)
  refine D.alloc rfl rfl rfl rfl rfl (fun _ => rfl) (fun b6 => ?_)
  refine D.pure rfl rfl rfl rfl rfl rfl ?_
  refine D.done [(0, [], _), (1, [], _), (5, [], _), (6, [], _)] ⟨rfl, rfl, rfl, rfl, trivial⟩ (hR _ _ _ rfl ?_); clear hR R
  refine G.region rfl (fun R hR => ?_)
  iterate 3 refine D.pure rfl rfl rfl rfl rfl rfl ?_
  refine D.done [(0, [], _), (1, [], _), (5, [], _), (6, [], _), (14, [], _), (15, [], _), (16, [], _)] ⟨rfl, rfl, rfl, rfl, rfl, rfl, rfl, trivial⟩ (hR _ _ _ rfl ?_); clear hR R
  refine G.nilArr 57 3 ?_
  refine G.nilArr 71 1 ?_
  refine G.perm (L' := [.arr (sA none 0 0) 71 1 0 [], .arr (sB none 0 0) 57 3 0 [], .obj b6 (.cells ⟨(YV.mk none 0 0 none 0 0 none 0 0).enc⟩ 76 (0, 0)), .obj b5 (.cells ⟨[.slice Ad nd cd]⟩ 47 (0, 0))]) (by (refine (ent_perm (j := 0) rfl).trans (List.Perm.cons _ ?_); refine (ent_perm (j := 0) rfl).trans (List.Perm.cons _ ?_); refine (ent_perm (j := 0) rfl).trans (List.Perm.cons _ ?_); refine (ent_perm (j := 0) rfl).trans (List.Perm.cons _ ?_); exact List.Perm.refl _)) ?_
  refine G.loop (fun fr C' L' μ => ∃ (i : Nat) (ps : List (List Rat × Rat)) (xs : List SV) (ys : List FV) (A1 : Option Addr) (n1 c1 : Nat) (A2 : Option Addr) (n2 c2 : Nat), (i ≤ rows.length ∧ rowsM n (rows.take i) = some ps ∧ FrLL C' xs (ps.map (·.1)) ∧ RowsF C' ys (ps.map (·.2)) ∧ xs.length = i ∧ ys.length = i) ∧ fr = [(0, [], .slice A0 rs.length c0), (1, [], .int .i64 n), (5, [], .pointer (some ⟨b5, 0, none⟩)), (6, [], .pointer (some ⟨b6, 0, none⟩)), (14, [], .slice A0 rs.length c0), (15, [], .int .i64 rs.length), (16, [], .int .i64 i)] ∧ L' = [.arr (sA A1 n1 c1) 71 1 i (xs.map SV.enc).flatten, .arr (sB A2 n2 c2) 57 3 i (ys.map FV.enc).flatten, .obj b6 (.cells ⟨(YV.mk A1 n1 c1 A2 n2 c2 none 0 0).enc⟩ 76 (0, 0)), .obj b5 (.cells ⟨[.slice Ad nd cd]⟩ 47 (0, 0))] ∧ μ = rows.length - i) (fr' := [(0, [], _), (1, [], _), (5, [], _), (6, [], _), (14, [], _), (15, [], _), (16, [], _)]) ⟨rfl, rfl, rfl, rfl, rfl, rfl, rfl, trivial⟩ ⟨0, [], [], [], _, _, _, _, _, _, ⟨Nat.zero_le _, rfl, FrLL.nil _, RowsF.nil _, rfl, rfl⟩, rfl, rfl, rfl⟩ (fun fr C0' L0' m hle0 hI => ?_)
  obtain ⟨i, ps, xs, ys, A1, n1, c1, A2, n2, c2, ⟨hi, hps, hxs, hys, hxl, hyl⟩, rfl, rfl, rfl⟩ := hI
  refine G.region rfl (fun R hR => ?_)
  refine D.pure rfl rfl rfl rfl rfl rfl ?_
  refine D.done [(0, [], _), (1, [], _), (5, [], _), (6, [], _), (14, [], _), (15, [], _), (16, [], _), (17, [], _)] ⟨rfl, rfl, rfl, rfl, rfl, rfl, rfl, rfl, trivial⟩ (hR _ _ _ rfl ?_); clear hR R
  refine G.cond rfl (fun h17 => ?_) (fun h17 => ?_)
  · skip
    have hil : i < rs.length := by simpa using h17
    obtain ⟨r, hr0⟩ : ∃ r, rs[i]? = some r := ⟨rs[i], List.getElem?_eq_getElem hil⟩
    obtain ⟨row, hw0⟩ : ∃ row, rows[i]? = some row := ⟨rows[i]'(by omega), List.getElem?_eq_getElem _⟩
    obtain ⟨hrf, hrb⟩ := hrs i r row hr0 hw0
    have hrow : (rs.map RV.enc)[i]? = some r.enc := by rw [List.getElem?_map, hr0]; rfl
    have hfr := hf row (List.mem_of_getElem? hw0)
    have htk : rows.take (i + 1) = rows.take i ++ [row] := by rw [List.take_add_one, hw0]; rfl
    refine G.region rfl (fun R hR => ?_)
    refine D.index0 (hsv.mono (by (repeat (first | exact Mem.le.refl _ | assumption | (apply Mem.le.trans; rotate_left; assumption))))) rfl rfl rfl rfl rfl rfl rfl rfl rfl rfl (by omega) hrow (fun _ => rfl) (fun p18 hp18 => ?_)
    refine D.loadP0 hp18 rfl rfl rfl rfl rfl rfl rfl rfl ?_
    refine D.alloc rfl rfl rfl rfl rfl (fun _ => rfl) (fun b9 => ?_)
    refine D.store (j := 0) rfl rfl rfl rfl rfl rfl rfl rfl rfl rfl rfl rfl ?_
    refine D.done [(0, [], _), (1, [], _), (5, [], _), (6, [], _), (9, [], _), (14, [], _), (15, [], _), (16, [], _)] ⟨rfl, rfl, rfl, rfl, rfl, rfl, rfl, rfl, trivial⟩ (hR _ _ _ rfl ?_); clear hR R
    refine G.region rfl (fun R hR => ?_)
    refine D.pure rfl rfl rfl rfl rfl rfl ?_
    refine D.loadL (.head _) rfl rfl rfl rfl rfl rfl rfl rfl rfl ?_
    refine D.callP (readAll_fn _ _ row.1 (hrf.mono (by (repeat (first | exact Mem.le.refl _ | assumption | (apply Mem.le.trans; rotate_left; assumption))))) hfr.1 hfr.2.1) rfl rfl rfl rfl rfl rfl rfl (fun _ => rfl) (fun v23 C23 hle23 hq23 => ?_)
    obtain ⟨A10, n10, c10, rfl, hf10⟩ := hq23
    iterate 5 refine D.pure rfl rfl rfl rfl rfl rfl ?_
    refine D.done [(0, [], _), (1, [], _), (5, [], _), (6, [], _), (9, [], _), (10, [], _), (11, [], _), (14, [], _), (15, [], _), (16, [], _)] ⟨rfl, rfl, rfl, rfl, rfl, rfl, rfl, rfl, rfl, rfl, trivial⟩ (hR _ _ _ rfl ?_); clear hR R
    refine G.region rfl (fun R hR => ?_)
    refine D.pure rfl rfl rfl rfl rfl rfl ?_
    refine D.loadL (.head _) rfl rfl rfl rfl rfl rfl rfl rfl rfl ?_
    refine D.callP (read_fn _ r.s (by rw [hrb]; exact hfr.2.2)) rfl rfl rfl rfl rfl rfl rfl (fun _ => rfl) (fun v29 C29 hle29 hq29 => ?_)
    obtain ⟨vf, rfl, hvf⟩ := hq29
    obtain ⟨x, rfl⟩ := hvf.fv
    rw [hrb] at hvf
    iterate 3 refine D.pure rfl rfl rfl rfl rfl rfl ?_
    refine D.alloc rfl rfl rfl rfl rfl (fun _ => rfl) (fun b12 => ?_)
    refine D.store (j := 0) rfl rfl rfl rfl rfl rfl rfl rfl rfl rfl rfl rfl ?_
    refine D.pure rfl rfl rfl rfl rfl rfl ?_
    refine D.done [(0, [], _), (1, [], _), (5, [], _), (6, [], _), (10, [], _), (11, [], _), (12, [], _), (13, [], _), (14, [], _), (15, [], _), (16, [], _)] ⟨rfl, rfl, rfl, rfl, rfl, rfl, rfl, rfl, rfl, rfl, rfl, trivial⟩ (hR _ _ _ rfl ?_); clear hR R
    refine G.region rfl (fun R hR => ?_)
    iterate 5 refine D.pure rfl rfl rfl rfl rfl rfl ?_
    refine D.pickOr rfl rfl rfl rfl rfl rfl rfl rfl ?_
    iterate 5 refine D.pure rfl rfl rfl rfl rfl rfl ?_
    refine D.pickOr rfl rfl rfl rfl rfl rfl rfl rfl ?_
    refine D.done [(0, [], _), (1, [], _), (5, [], _), (6, [], _), (10, [], _), (12, [], _), (14, [], _), (15, [], _), (16, [], _), (43, [], _)] ⟨rfl, rfl, rfl, rfl, rfl, rfl, rfl, rfl, rfl, rfl, trivial⟩ (hR _ _ _ rfl ?_); clear hR R
    refine G.cond rfl (fun h43 => ?_) (fun h43 => ?_)
    · skip
      have hno : rowM n row = none := by
        unfold rowM
        cases h1 : readsM row.1 with
        | none => rfl
        | some f =>
          cases h2 : readM row.2 with
          | none => rfl
          | some b =>
            have hf := hf10 f h1
            obtain ⟨A, c, e⟩ := hf.form
            injection e with e1 e2 e3
            simp only
            rw [if_neg]
            intro hn
            rw [hrb, h1, h2, e2, hn] at h43
            simp at h43
      have hno2 : openM n rows d = none := by
        unfold openM
        rw [rowsM_none (List.mem_of_getElem? hw0) hno]
      refine G.region rfl (fun R hR => ?_)
      refine D.build (YV.mk none 0 0 none 0 0 none 0 0).enc rfl rfl rfl rfl rfl rfl rfl rfl ?_
      refine D.store (j := 4) rfl rfl rfl rfl rfl rfl rfl rfl rfl rfl rfl rfl ?_
      refine D.pure rfl rfl rfl rfl rfl rfl ?_
      refine D.done [(6, [], _), (7, [], _)] ⟨rfl, rfl, trivial⟩ (hR _ _ _ rfl ?_); clear hR R
      refine G.retN (G.finC2 (.head _) rfl rfl rfl rfl rfl ?_)
      exact ⟨rfl, _, by rw [hno2]; rfl, fun ps ms h => by rw [hno2] at h; cases h⟩
    · skip
      obtain ⟨f, b, h1, h2, h3⟩ : ∃ f b, readsM row.1 = some f ∧ readM row.2 = some b ∧ (f.length : Int) = n := by
        cases h1 : readsM row.1 with
        | none => rw [h1] at h43; simp at h43
        | some f =>
          cases h2 : readM row.2 with
          | none => rw [hrb, h1, h2] at h43; simp at h43
          | some b =>
            refine ⟨f, b, rfl, rfl, ?_⟩
            obtain ⟨A, c, e⟩ := (hf10 f h1).form
            injection e with e1 e2 e3
            rw [hrb, h1, h2, e2] at h43
            simpa using h43
      have hrm : rowM n row = some (f, b) := by unfold rowM; rw [h1, h2]; simp only; rw [if_pos h3]
      rw [h2] at hvf
      refine G.cut (fun fr C' L' μ => ∃ (A7 : Option Addr) (n7 c7 : Nat) (A8 : Option Addr) (n8 c8 : Nat), (True) ∧ fr = [(0, [], .slice A0 rs.length c0), (1, [], .int .i64 n), (5, [], .pointer (some ⟨b5, 0, none⟩)), (6, [], .pointer (some ⟨b6, 0, none⟩)), (14, [], .slice A0 rs.length c0), (15, [], .int .i64 rs.length), (16, [], .int .i64 i)] ∧ L' = [.arr (sA A7 n7 c7) 71 1 (i + 1) ((xs ++ [SV.mk A10 n10 c10]).map SV.enc).flatten, .arr (sB A8 n8 c8) 57 3 (i + 1) ((ys ++ [x]).map FV.enc).flatten, .obj b6 (.cells ⟨(YV.mk A7 n7 c7 A8 n8 c8 none 0 0).enc⟩ 76 (0, 0)), .obj b5 (.cells ⟨[.slice Ad nd cd]⟩ 47 (0, 0))]) ?_ (fun fr Cr8 Lr8 μ hler8 hI => ?_)
      · skip
        refine G.drawT (.cut [0, 1, 2, 5] (.alt 3 (.cut [] (.alt 4 (.fin [6, 7, 10, 8, 9, 11, 12, 13]) (.alt 6 (.cut [] (.alt 4 (.fin [7, 10, 8, 9, 11, 12, 13]) (.alt 7 (.cut [] (.alt 4 (.fin [10, 8, 9, 11, 12, 13]) (.alt 8 (.fin [4, 10, 9, 11, 12, 13]) .stop))) .stop))) (.alt 7 (.cut [] (.alt 4 (.fin [6, 10, 8, 9, 11, 12, 13]) (.alt 6 (.cut [] (.alt 4 (.fin [10, 8, 9, 11, 12, 13]) (.alt 8 (.fin [4, 10, 9, 11, 12, 13]) .stop))) (.alt 8 (.cut [] (.alt 4 (.fin [6, 10, 9, 11, 12, 13]) (.alt 6 (.fin [4, 10, 9, 11, 12, 13]) .stop))) .stop)))) .stop)))) (.alt 6 (.cut [] (.alt 3 (.cut [] (.alt 4 (.fin [7, 10, 8, 9, 11, 12, 13]) (.alt 7 (.cut [] (.alt 4 (.fin [10, 8, 9, 11, 12, 13]) (.alt 8 (.fin [4, 10, 9, 11, 12, 13]) .stop))) .stop))) (.alt 7 (.cut [] (.alt 3 (.cut [] (.alt 4 (.fin [10, 8, 9, 11, 12, 13]) (.alt 8 (.fin [4, 10, 9, 11, 12, 13]) .stop))) (.alt 8 (.fin [3, 4, 10, 9, 11, 12, 13]) .stop))) .stop))) (.alt 7 (.cut [] (.alt 3 (.cut [] (.alt 4 (.fin [6, 10, 8, 9, 11, 12, 13]) (.alt 6 (.cut [] (.alt 4 (.fin [10, 8, 9, 11, 12, 13]) (.alt 8 (.fin [4, 10, 9, 11, 12, 13]) .stop))) (.alt 8 (.cut [] (.alt 4 (.fin [6, 10, 9, 11, 12, 13]) (.alt 6 (.fin [4, 10, 9, 11, 12, 13]) .stop))) .stop)))) (.alt 6 (.cut [] (.alt 3 (.cut [] (.alt 4 (.fin [10, 8, 9, 11, 12, 13]) (.alt 8 (.fin [4, 10, 9, 11, 12, 13]) .stop))) (.alt 8 (.fin [3, 4, 10, 9, 11, 12, 13]) .stop))) (.alt 8 (.cut [] (.alt 3 (.cut [] (.alt 4 (.fin [6, 10, 9, 11, 12, 13]) (.alt 6 (.fin [4, 10, 9, 11, 12, 13]) .stop))) (.alt 6 (.fin [3, 4, 10, 9, 11, 12, 13]) .stop))) .stop)))) .stop)))) [] rfl rfl (by kernel_rfl) (fun R hB hR hH => ?_)
        refine D.pure rfl rfl rfl rfl rfl rfl ?_
        refine D.loadL (.tail _ (.tail _ (.tail _ (.tail _ (.head _))))) rfl rfl rfl rfl rfl rfl rfl rfl rfl ?_
        iterate 2 refine D.pure rfl rfl rfl rfl rfl rfl ?_
        refine D.fork hH rfl ⟨?_, ?_, ?_, trivial⟩
        · skip
          refine D.buildSlice [[.slice A10 n10 c10]] rfl rfl rfl rfl rfl rfl rfl rfl rfl rfl rfl rfl (fun _ => rfl) (fun p48 C48 hle48 hs48 => ?_)
          refine D.fork hH rfl ⟨?_, ?_, ?_, trivial⟩
          · skip
            refine D.appendF (j := 2) rfl rfl rfl rfl rfl rfl rfl rfl rfl rfl rfl (hs48.mono (by (repeat (first | exact Mem.le.refl _ | assumption | (apply Mem.le.trans; rotate_left; assumption))))) rfl (by simp only [List.length_singleton, maxLen]; omega) (by show (i + 1) * 24 ≤ _; omega) (fun _ => rfl) (fun A49 n49 c49 => ?_)
            refine D.loadL (.tail _ (.tail _ (.tail _ (.tail _ (.head _))))) rfl rfl rfl rfl rfl rfl rfl rfl rfl ?_
            refine D.loadL (.tail _ (.head _)) rfl rfl rfl rfl rfl rfl rfl rfl rfl ?_
            refine D.pure rfl rfl rfl rfl rfl rfl ?_
            refine D.buildSlice [x.enc] rfl rfl rfl rfl rfl rfl rfl rfl rfl rfl rfl rfl (fun _ => rfl) (fun p53 C53 hle53 hs53 => ?_)
            refine D.appendF (j := 3) rfl rfl rfl rfl rfl rfl rfl rfl rfl rfl rfl (hs53.mono (by (repeat (first | exact Mem.le.refl _ | assumption | (apply Mem.le.trans; rotate_left; assumption))))) rfl (by simp only [List.length_singleton, maxLen]; omega) (by show (i + 1) * 56 ≤ _; omega) (fun _ => rfl) (fun A54 n54 c54 => ?_)
            refine D.store (j := 4) rfl rfl rfl rfl rfl rfl rfl rfl rfl rfl rfl rfl ?_
            refine D.pure rfl rfl rfl rfl rfl rfl ?_
            refine D.store (j := 0) rfl rfl rfl rfl rfl rfl rfl rfl rfl rfl rfl rfl ?_
            refine D.done [(0, [], _), (1, [], _), (5, [], _), (6, [], _), (14, [], _), (15, [], _), (16, [], _)] ⟨rfl, rfl, rfl, rfl, rfl, rfl, rfl, trivial⟩ (hR _ _ _ rfl ?_); clear hR hB hH R
            refine G.perm (L' := [.arr (sA A49 n49 c49) 71 1 (i + 1) ((xs.map SV.enc).flatten ++ [[.slice A10 n10 c10]].flatten), .arr (sB A54 n54 c54) 57 3 (i + 1) ((ys.map FV.enc).flatten ++ [x.enc].flatten), .obj b6 (.cells ⟨(YV.mk A49 n49 c49 A54 n54 c54 none 0 0).enc⟩ 76 (0, 0)), .obj b5 (.cells ⟨[.slice Ad nd cd]⟩ 47 (0, 0)), .obj b12 (.cells ⟨x.enc⟩ 57 (0, 0)), .obj b9 (.cells ⟨r.enc⟩ 44 (0, 0))]) (by (refine (ent_perm (j := 2) rfl).trans (List.Perm.cons _ ?_); refine (ent_perm (j := 1) rfl).trans (List.Perm.cons _ ?_); refine (ent_perm (j := 0) rfl).trans (List.Perm.cons _ ?_); refine (ent_perm (j := 2) rfl).trans (List.Perm.cons _ ?_); refine (ent_perm (j := 0) rfl).trans (List.Perm.cons _ ?_); refine (ent_perm (j := 0) rfl).trans (List.Perm.cons _ ?_); exact List.Perm.refl _)) ?_
            refine G.dropE 4 rfl ?_
            refine G.dropE 4 rfl ?_
            refine G.eqL (L' := [.arr (sA A49 n49 c49) 71 1 (i + 1) ((xs ++ [SV.mk A10 n10 c10]).map SV.enc).flatten, .arr (sB A54 n54 c54) 57 3 (i + 1) ((ys ++ [x]).map FV.enc).flatten, .obj b6 (.cells ⟨(YV.mk A49 n49 c49 A54 n54 c54 none 0 0).enc⟩ 76 (0, 0)), .obj b5 (.cells ⟨[.slice Ad nd cd]⟩ 47 (0, 0))]) (by simp [SV.enc]) ?_
            exact G.meet 0 (by (repeat (first | exact Mem.le.refl _ | assumption | (apply Mem.le.trans; rotate_left; assumption)))) (fr' := [(0, [], _), (1, [], _), (5, [], _), (6, [], _), (14, [], _), (15, [], _), (16, [], _)]) ⟨rfl, rfl, rfl, rfl, rfl, rfl, rfl, trivial⟩ ⟨A49, n49, c49, A54, n54, c54, trivial, rfl, rfl⟩
          · skip
            refine D.loadL (.tail _ (.tail _ (.tail _ (.tail _ (.head _))))) rfl rfl rfl rfl rfl rfl rfl rfl rfl ?_
            refine D.fork hH rfl ⟨?_, ?_, trivial⟩
            · skip
              refine D.appendF (j := 2) rfl rfl rfl rfl rfl rfl rfl rfl rfl rfl rfl (hs48.mono (by (repeat (first | exact Mem.le.refl _ | assumption | (apply Mem.le.trans; rotate_left; assumption))))) rfl (by simp only [List.length_singleton, maxLen]; omega) (by show (i + 1) * 24 ≤ _; omega) (fun _ => rfl) (fun A49 n49 c49 => ?_)
              refine D.loadL (.tail _ (.head _)) rfl rfl rfl rfl rfl rfl rfl rfl rfl ?_
              refine D.pure rfl rfl rfl rfl rfl rfl ?_
              refine D.buildSlice [x.enc] rfl rfl rfl rfl rfl rfl rfl rfl rfl rfl rfl rfl (fun _ => rfl) (fun p53 C53 hle53 hs53 => ?_)
              refine D.appendF (j := 3) rfl rfl rfl rfl rfl rfl rfl rfl rfl rfl rfl (hs53.mono (by (repeat (first | exact Mem.le.refl _ | assumption | (apply Mem.le.trans; rotate_left; assumption))))) rfl (by simp only [List.length_singleton, maxLen]; omega) (by show (i + 1) * 56 ≤ _; omega) (fun _ => rfl) (fun A54 n54 c54 => ?_)
              refine D.store (j := 4) rfl rfl rfl rfl rfl rfl rfl rfl rfl rfl rfl rfl ?_
              refine D.pure rfl rfl rfl rfl rfl rfl ?_
              refine D.store (j := 0) rfl rfl rfl rfl rfl rfl rfl rfl rfl rfl rfl rfl ?_
              refine D.done [(0, [], _), (1, [], _), (5, [], _), (6, [], _), (14, [], _), (15, [], _), (16, [], _)] ⟨rfl, rfl, rfl, rfl, rfl, rfl, rfl, trivial⟩ (hR _ _ _ rfl ?_); clear hR hB hH R
              refine G.perm (L' := [.arr (sA A49 n49 c49) 71 1 (i + 1) ((xs.map SV.enc).flatten ++ [[.slice A10 n10 c10]].flatten), .arr (sB A54 n54 c54) 57 3 (i + 1) ((ys.map FV.enc).flatten ++ [x.enc].flatten), .obj b6 (.cells ⟨(YV.mk A49 n49 c49 A54 n54 c54 none 0 0).enc⟩ 76 (0, 0)), .obj b5 (.cells ⟨[.slice Ad nd cd]⟩ 47 (0, 0)), .obj b12 (.cells ⟨x.enc⟩ 57 (0, 0)), .obj b9 (.cells ⟨r.enc⟩ 44 (0, 0))]) (by (refine (ent_perm (j := 2) rfl).trans (List.Perm.cons _ ?_); refine (ent_perm (j := 1) rfl).trans (List.Perm.cons _ ?_); refine (ent_perm (j := 0) rfl).trans (List.Perm.cons _ ?_); refine (ent_perm (j := 2) rfl).trans (List.Perm.cons _ ?_); refine (ent_perm (j := 0) rfl).trans (List.Perm.cons _ ?_); refine (ent_perm (j := 0) rfl).trans (List.Perm.cons _ ?_); exact List.Perm.refl _)) ?_
              refine G.dropE 4 rfl ?_
              refine G.dropE 4 rfl ?_
              refine G.eqL (L' := [.arr (sA A49 n49 c49) 71 1 (i + 1) ((xs ++ [SV.mk A10 n10 c10]).map SV.enc).flatten, .arr (sB A54 n54 c54) 57 3 (i + 1) ((ys ++ [x]).map FV.enc).flatten, .obj b6 (.cells ⟨(YV.mk A49 n49 c49 A54 n54 c54 none 0 0).enc⟩ 76 (0, 0)), .obj b5 (.cells ⟨[.slice Ad nd cd]⟩ 47 (0, 0))]) (by simp [SV.enc]) ?_
              exact G.meet 0 (by (repeat (first | exact Mem.le.refl _ | assumption | (apply Mem.le.trans; rotate_left; assumption)))) (fr' := [(0, [], _), (1, [], _), (5, [], _), (6, [], _), (14, [], _), (15, [], _), (16, [], _)]) ⟨rfl, rfl, rfl, rfl, rfl, rfl, rfl, trivial⟩ ⟨A49, n49, c49, A54, n54, c54, trivial, rfl, rfl⟩
            · skip
              refine D.loadL (.head _) rfl rfl rfl rfl rfl rfl rfl rfl rfl ?_
              refine D.fork hH rfl ⟨?_, ?_, trivial⟩
              · skip
                refine D.appendF (j := 2) rfl rfl rfl rfl rfl rfl rfl rfl rfl rfl rfl (hs48.mono (by (repeat (first | exact Mem.le.refl _ | assumption | (apply Mem.le.trans; rotate_left; assumption))))) rfl (by simp only [List.length_singleton, maxLen]; omega) (by show (i + 1) * 24 ≤ _; omega) (fun _ => rfl) (fun A49 n49 c49 => ?_)
                refine D.pure rfl rfl rfl rfl rfl rfl ?_
                refine D.buildSlice [x.enc] rfl rfl rfl rfl rfl rfl rfl rfl rfl rfl rfl rfl (fun _ => rfl) (fun p53 C53 hle53 hs53 => ?_)
                refine D.appendF (j := 3) rfl rfl rfl rfl rfl rfl rfl rfl rfl rfl rfl (hs53.mono (by (repeat (first | exact Mem.le.refl _ | assumption | (apply Mem.le.trans; rotate_left; assumption))))) rfl (by simp only [List.length_singleton, maxLen]; omega) (by show (i + 1) * 56 ≤ _; omega) (fun _ => rfl) (fun A54 n54 c54 => ?_)
                refine D.store (j := 4) rfl rfl rfl rfl rfl rfl rfl rfl rfl rfl rfl rfl ?_
                refine D.pure rfl rfl rfl rfl rfl rfl ?_
                refine D.store (j := 0) rfl rfl rfl rfl rfl rfl rfl rfl rfl rfl rfl rfl ?_
                refine D.done [(0, [], _), (1, [], _), (5, [], _), (6, [], _), (14, [], _), (15, [], _), (16, [], _)] ⟨rfl, rfl, rfl, rfl, rfl, rfl, rfl, trivial⟩ (hR _ _ _ rfl ?_); clear hR hB hH R
                refine G.perm (L' := [.arr (sA A49 n49 c49) 71 1 (i + 1) ((xs.map SV.enc).flatten ++ [[.slice A10 n10 c10]].flatten), .arr (sB A54 n54 c54) 57 3 (i + 1) ((ys.map FV.enc).flatten ++ [x.enc].flatten), .obj b6 (.cells ⟨(YV.mk A49 n49 c49 A54 n54 c54 none 0 0).enc⟩ 76 (0, 0)), .obj b5 (.cells ⟨[.slice Ad nd cd]⟩ 47 (0, 0)), .obj b12 (.cells ⟨x.enc⟩ 57 (0, 0)), .obj b9 (.cells ⟨r.enc⟩ 44 (0, 0))]) (by (refine (ent_perm (j := 2) rfl).trans (List.Perm.cons _ ?_); refine (ent_perm (j := 1) rfl).trans (List.Perm.cons _ ?_); refine (ent_perm (j := 0) rfl).trans (List.Perm.cons _ ?_); refine (ent_perm (j := 2) rfl).trans (List.Perm.cons _ ?_); refine (ent_perm (j := 0) rfl).trans (List.Perm.cons _ ?_); refine (ent_perm (j := 0) rfl).trans (List.Perm.cons _ ?_); exact List.Perm.refl _)) ?_
                refine G.dropE 4 rfl ?_
                refine G.dropE 4 rfl ?_
                refine G.eqL (L' := [.arr (sA A49 n49 c49) 71 1 (i + 1) ((xs ++ [SV.mk A10 n10 c10]).map SV.enc).flatten, .arr (sB A54 n54 c54) 57 3 (i + 1) ((ys ++ [x]).map FV.enc).flatten, .obj b6 (.cells ⟨(YV.mk A49 n49 c49 A54 n54 c54 none 0 0).enc⟩ 76 (0, 0)), .obj b5 (.cells ⟨[.slice Ad nd cd]⟩ 47 (0, 0))]) (by simp [SV.enc]) ?_
                exact G.meet 0 (by (repeat (first | exact Mem.le.refl _ | assumption | (apply Mem.le.trans; rotate_left; assumption)))) (fr' := [(0, [], _), (1, [], _), (5, [], _), (6, [], _), (14, [], _), (15, [], _), (16, [], _)]) ⟨rfl, rfl, rfl, rfl, rfl, rfl, rfl, trivial⟩ ⟨A49, n49, c49, A54, n54, c54, trivial, rfl, rfl⟩
              · skip
                refine D.buildSlice [x.enc] rfl rfl rfl rfl rfl rfl rfl rfl rfl rfl rfl rfl (fun _ => rfl) (fun p53 C53 hle53 hs53 => ?_)
                refine D.appendF (j := 2) rfl rfl rfl rfl rfl rfl rfl rfl rfl rfl rfl (hs48.mono (by (repeat (first | exact Mem.le.refl _ | assumption | (apply Mem.le.trans; rotate_left; assumption))))) rfl (by simp only [List.length_singleton, maxLen]; omega) (by show (i + 1) * 24 ≤ _; omega) (fun _ => rfl) (fun A49 n49 c49 => ?_)
                refine D.pure rfl rfl rfl rfl rfl rfl ?_
                refine D.appendF (j := 3) rfl rfl rfl rfl rfl rfl rfl rfl rfl rfl rfl (hs53.mono (by (repeat (first | exact Mem.le.refl _ | assumption | (apply Mem.le.trans; rotate_left; assumption))))) rfl (by simp only [List.length_singleton, maxLen]; omega) (by show (i + 1) * 56 ≤ _; omega) (fun _ => rfl) (fun A54 n54 c54 => ?_)
                refine D.store (j := 4) rfl rfl rfl rfl rfl rfl rfl rfl rfl rfl rfl rfl ?_
                refine D.pure rfl rfl rfl rfl rfl rfl ?_
                refine D.store (j := 0) rfl rfl rfl rfl rfl rfl rfl rfl rfl rfl rfl rfl ?_
                refine D.done [(0, [], _), (1, [], _), (5, [], _), (6, [], _), (14, [], _), (15, [], _), (16, [], _)] ⟨rfl, rfl, rfl, rfl, rfl, rfl, rfl, trivial⟩ (hR _ _ _ rfl ?_); clear hR hB hH R
                refine G.perm (L' := [.arr (sA A49 n49 c49) 71 1 (i + 1) ((xs.map SV.enc).flatten ++ [[.slice A10 n10 c10]].flatten), .arr (sB A54 n54 c54) 57 3 (i + 1) ((ys.map FV.enc).flatten ++ [x.enc].flatten), .obj b6 (.cells ⟨(YV.mk A49 n49 c49 A54 n54 c54 none 0 0).enc⟩ 76 (0, 0)), .obj b5 (.cells ⟨[.slice Ad nd cd]⟩ 47 (0, 0)), .obj b12 (.cells ⟨x.enc⟩ 57 (0, 0)), .obj b9 (.cells ⟨r.enc⟩ 44 (0, 0))]) (by (refine (ent_perm (j := 2) rfl).trans (List.Perm.cons _ ?_); refine (ent_perm (j := 1) rfl).trans (List.Perm.cons _ ?_); refine (ent_perm (j := 0) rfl).trans (List.Perm.cons _ ?_); refine (ent_perm (j := 2) rfl).trans (List.Perm.cons _ ?_); refine (ent_perm (j := 0) rfl).trans (List.Perm.cons _ ?_); refine (ent_perm (j := 0) rfl).trans (List.Perm.cons _ ?_); exact List.Perm.refl _)) ?_
                refine G.dropE 4 rfl ?_
                refine G.dropE 4 rfl ?_
                refine G.eqL (L' := [.arr (sA A49 n49 c49) 71 1 (i + 1) ((xs ++ [SV.mk A10 n10 c10]).map SV.enc).flatten, .arr (sB A54 n54 c54) 57 3 (i + 1) ((ys ++ [x]).map FV.enc).flatten, .obj b6 (.cells ⟨(YV.mk A49 n49 c49 A54 n54 c54 none 0 0).enc⟩ 76 (0, 0)), .obj b5 (.cells ⟨[.slice Ad nd cd]⟩ 47 (0, 0))]) (by simp [SV.enc]) ?_
                exact G.meet 0 (by (repeat (first | exact Mem.le.refl _ | assumption | (apply Mem.le.trans; rotate_left; assumption)))) (fr' := [(0, [], _), (1, [], _), (5, [], _), (6, [], _), (14, [], _), (15, [], _), (16, [], _)]) ⟨rfl, rfl, rfl, rfl, rfl, rfl, rfl, trivial⟩ ⟨A49, n49, c49, A54, n54, c54, trivial, rfl, rfl⟩
          · skip
            refine D.loadL (.head _) rfl rfl rfl rfl rfl rfl rfl rfl rfl ?_
            refine D.fork hH rfl ⟨?_, ?_, ?_, trivial⟩
            · skip
              refine D.appendF (j := 2) rfl rfl rfl rfl rfl rfl rfl rfl rfl rfl rfl (hs48.mono (by (repeat (first | exact Mem.le.refl _ | assumption | (apply Mem.le.trans; rotate_left; assumption))))) rfl (by simp only [List.length_singleton, maxLen]; omega) (by show (i + 1) * 24 ≤ _; omega) (fun _ => rfl) (fun A49 n49 c49 => ?_)
              refine D.loadL (.tail _ (.tail _ (.tail _ (.tail _ (.head _))))) rfl rfl rfl rfl rfl rfl rfl rfl rfl ?_
              refine D.pure rfl rfl rfl rfl rfl rfl ?_
              refine D.buildSlice [x.enc] rfl rfl rfl rfl rfl rfl rfl rfl rfl rfl rfl rfl (fun _ => rfl) (fun p53 C53 hle53 hs53 => ?_)
              refine D.appendF (j := 3) rfl rfl rfl rfl rfl rfl rfl rfl rfl rfl rfl (hs53.mono (by (repeat (first | exact Mem.le.refl _ | assumption | (apply Mem.le.trans; rotate_left; assumption))))) rfl (by simp only [List.length_singleton, maxLen]; omega) (by show (i + 1) * 56 ≤ _; omega) (fun _ => rfl) (fun A54 n54 c54 => ?_)
              refine D.store (j := 4) rfl rfl rfl rfl rfl rfl rfl rfl rfl rfl rfl rfl ?_
              refine D.pure rfl rfl rfl rfl rfl rfl ?_
              refine D.store (j := 0) rfl rfl rfl rfl rfl rfl rfl rfl rfl rfl rfl rfl ?_
              refine D.done [(0, [], _), (1, [], _), (5, [], _), (6, [], _), (14, [], _), (15, [], _), (16, [], _)] ⟨rfl, rfl, rfl, rfl, rfl, rfl, rfl, trivial⟩ (hR _ _ _ rfl ?_); clear hR hB hH R
              refine G.perm (L' := [.arr (sA A49 n49 c49) 71 1 (i + 1) ((xs.map SV.enc).flatten ++ [[.slice A10 n10 c10]].flatten), .arr (sB A54 n54 c54) 57 3 (i + 1) ((ys.map FV.enc).flatten ++ [x.enc].flatten), .obj b6 (.cells ⟨(YV.mk A49 n49 c49 A54 n54 c54 none 0 0).enc⟩ 76 (0, 0)), .obj b5 (.cells ⟨[.slice Ad nd cd]⟩ 47 (0, 0)), .obj b12 (.cells ⟨x.enc⟩ 57 (0, 0)), .obj b9 (.cells ⟨r.enc⟩ 44 (0, 0))]) (by (refine (ent_perm (j := 2) rfl).trans (List.Perm.cons _ ?_); refine (ent_perm (j := 1) rfl).trans (List.Perm.cons _ ?_); refine (ent_perm (j := 0) rfl).trans (List.Perm.cons _ ?_); refine (ent_perm (j := 2) rfl).trans (List.Perm.cons _ ?_); refine (ent_perm (j := 0) rfl).trans (List.Perm.cons _ ?_); refine (ent_perm (j := 0) rfl).trans (List.Perm.cons _ ?_); exact List.Perm.refl _)) ?_
              refine G.dropE 4 rfl ?_
              refine G.dropE 4 rfl ?_
              refine G.eqL (L' := [.arr (sA A49 n49 c49) 71 1 (i + 1) ((xs ++ [SV.mk A10 n10 c10]).map SV.enc).flatten, .arr (sB A54 n54 c54) 57 3 (i + 1) ((ys ++ [x]).map FV.enc).flatten, .obj b6 (.cells ⟨(YV.mk A49 n49 c49 A54 n54 c54 none 0 0).enc⟩ 76 (0, 0)), .obj b5 (.cells ⟨[.slice Ad nd cd]⟩ 47 (0, 0))]) (by simp [SV.enc]) ?_
              exact G.meet 0 (by (repeat (first | exact Mem.le.refl _ | assumption | (apply Mem.le.trans; rotate_left; assumption)))) (fr' := [(0, [], _), (1, [], _), (5, [], _), (6, [], _), (14, [], _), (15, [], _), (16, [], _)]) ⟨rfl, rfl, rfl, rfl, rfl, rfl, rfl, trivial⟩ ⟨A49, n49, c49, A54, n54, c54, trivial, rfl, rfl⟩
            · skip
              refine D.loadL (.tail _ (.tail _ (.tail _ (.tail _ (.head _))))) rfl rfl rfl rfl rfl rfl rfl rfl rfl ?_
              refine D.fork hH rfl ⟨?_, ?_, trivial⟩
              · skip
                refine D.appendF (j := 2) rfl rfl rfl rfl rfl rfl rfl rfl rfl rfl rfl (hs48.mono (by (repeat (first | exact Mem.le.refl _ | assumption | (apply Mem.le.trans; rotate_left; assumption))))) rfl (by simp only [List.length_singleton, maxLen]; omega) (by show (i + 1) * 24 ≤ _; omega) (fun _ => rfl) (fun A49 n49 c49 => ?_)
                refine D.pure rfl rfl rfl rfl rfl rfl ?_
                refine D.buildSlice [x.enc] rfl rfl rfl rfl rfl rfl rfl rfl rfl rfl rfl rfl (fun _ => rfl) (fun p53 C53 hle53 hs53 => ?_)
                refine D.appendF (j := 3) rfl rfl rfl rfl rfl rfl rfl rfl rfl rfl rfl (hs53.mono (by (repeat (first | exact Mem.le.refl _ | assumption | (apply Mem.le.trans; rotate_left; assumption))))) rfl (by simp only [List.length_singleton, maxLen]; omega) (by show (i + 1) * 56 ≤ _; omega) (fun _ => rfl) (fun A54 n54 c54 => ?_)
                refine D.store (j := 4) rfl rfl rfl rfl rfl rfl rfl rfl rfl rfl rfl rfl ?_
                refine D.pure rfl rfl rfl rfl rfl rfl ?_
                refine D.store (j := 0) rfl rfl rfl rfl rfl rfl rfl rfl rfl rfl rfl rfl ?_
                refine D.done [(0, [], _), (1, [], _), (5, [], _), (6, [], _), (14, [], _), (15, [], _), (16, [], _)] ⟨rfl, rfl, rfl, rfl, rfl, rfl, rfl, trivial⟩ (hR _ _ _ rfl ?_); clear hR hB hH R
                refine G.perm (L' := [.arr (sA A49 n49 c49) 71 1 (i + 1) ((xs.map SV.enc).flatten ++ [[.slice A10 n10 c10]].flatten), .arr (sB A54 n54 c54) 57 3 (i + 1) ((ys.map FV.enc).flatten ++ [x.enc].flatten), .obj b6 (.cells ⟨(YV.mk A49 n49 c49 A54 n54 c54 none 0 0).enc⟩ 76 (0, 0)), .obj b5 (.cells ⟨[.slice Ad nd cd]⟩ 47 (0, 0)), .obj b12 (.cells ⟨x.enc⟩ 57 (0, 0)), .obj b9 (.cells ⟨r.enc⟩ 44 (0, 0))]) (by (refine (ent_perm (j := 2) rfl).trans (List.Perm.cons _ ?_); refine (ent_perm (j := 1) rfl).trans (List.Perm.cons _ ?_); refine (ent_perm (j := 0) rfl).trans (List.Perm.cons _ ?_); refine (ent_perm (j := 2) rfl).trans (List.Perm.cons _ ?_); refine (ent_perm (j := 0) rfl).trans (List.Perm.cons _ ?_); refine (ent_perm (j := 0) rfl).trans (List.Perm.cons _ ?_); exact List.Perm.refl _)) ?_
                refine G.dropE 4 rfl ?_
                refine G.dropE 4 rfl ?_
                refine G.eqL (L' := [.arr (sA A49 n49 c49) 71 1 (i + 1) ((xs ++ [SV.mk A10 n10 c10]).map SV.enc).flatten, .arr (sB A54 n54 c54) 57 3 (i + 1) ((ys ++ [x]).map FV.enc).flatten, .obj b6 (.cells ⟨(YV.mk A49 n49 c49 A54 n54 c54 none 0 0).enc⟩ 76 (0, 0)), .obj b5 (.cells ⟨[.slice Ad nd cd]⟩ 47 (0, 0))]) (by simp [SV.enc]) ?_
                exact G.meet 0 (by (repeat (first | exact Mem.le.refl _ | assumption | (apply Mem.le.trans; rotate_left; assumption)))) (fr' := [(0, [], _), (1, [], _), (5, [], _), (6, [], _), (14, [], _), (15, [], _), (16, [], _)]) ⟨rfl, rfl, rfl, rfl, rfl, rfl, rfl, trivial⟩ ⟨A49, n49, c49, A54, n54, c54, trivial, rfl, rfl⟩
              · skip
                refine D.buildSlice [x.enc] rfl rfl rfl rfl rfl rfl rfl rfl rfl rfl rfl rfl (fun _ => rfl) (fun p53 C53 hle53 hs53 => ?_)
                refine D.appendF (j := 2) rfl rfl rfl rfl rfl rfl rfl rfl rfl rfl rfl (hs48.mono (by (repeat (first | exact Mem.le.refl _ | assumption | (apply Mem.le.trans; rotate_left; assumption))))) rfl (by simp only [List.length_singleton, maxLen]; omega) (by show (i + 1) * 24 ≤ _; omega) (fun _ => rfl) (fun A49 n49 c49 => ?_)
                refine D.pure rfl rfl rfl rfl rfl rfl ?_
                refine D.appendF (j := 3) rfl rfl rfl rfl rfl rfl rfl rfl rfl rfl rfl (hs53.mono (by (repeat (first | exact Mem.le.refl _ | assumption | (apply Mem.le.trans; rotate_left; assumption))))) rfl (by simp only [List.length_singleton, maxLen]; omega) (by show (i + 1) * 56 ≤ _; omega) (fun _ => rfl) (fun A54 n54 c54 => ?_)
                refine D.store (j := 4) rfl rfl rfl rfl rfl rfl rfl rfl rfl rfl rfl rfl ?_
                refine D.pure rfl rfl rfl rfl rfl rfl ?_
                refine D.store (j := 0) rfl rfl rfl rfl rfl rfl rfl rfl rfl rfl rfl rfl ?_
                refine D.done [(0, [], _), (1, [], _), (5, [], _), (6, [], _), (14, [], _), (15, [], _), (16, [], _)] ⟨rfl, rfl, rfl, rfl, rfl, rfl, rfl, trivial⟩ (hR _ _ _ rfl ?_); clear hR hB hH R
                refine G.perm (L' := [.arr (sA A49 n49 c49) 71 1 (i + 1) ((xs.map SV.enc).flatten ++ [[.slice A10 n10 c10]].flatten), .arr (sB A54 n54 c54) 57 3 (i + 1) ((ys.map FV.enc).flatten ++ [x.enc].flatten), .obj b6 (.cells ⟨(YV.mk A49 n49 c49 A54 n54 c54 none 0 0).enc⟩ 76 (0, 0)), .obj b5 (.cells ⟨[.slice Ad nd cd]⟩ 47 (0, 0)), .obj b12 (.cells ⟨x.enc⟩ 57 (0, 0)), .obj b9 (.cells ⟨r.enc⟩ 44 (0, 0))]) (by (refine (ent_perm (j := 2) rfl).trans (List.Perm.cons _ ?_); refine (ent_perm (j := 1) rfl).trans (List.Perm.cons _ ?_); refine (ent_perm (j := 0) rfl).trans (List.Perm.cons _ ?_); refine (ent_perm (j := 2) rfl).trans (List.Perm.cons _ ?_); refine (ent_perm (j := 0) rfl).trans (List.Perm.cons _ ?_); refine (ent_perm (j := 0) rfl).trans (List.Perm.cons _ ?_); exact List.Perm.refl _)) ?_
                refine G.dropE 4 rfl ?_
                refine G.dropE 4 rfl ?_
                refine G.eqL (L' := [.arr (sA A49 n49 c49) 71 1 (i + 1) ((xs ++ [SV.mk A10 n10 c10]).map SV.enc).flatten, .arr (sB A54 n54 c54) 57 3 (i + 1) ((ys ++ [x]).map FV.enc).flatten, .obj b6 (.cells ⟨(YV.mk A49 n49 c49 A54 n54 c54 none 0 0).enc⟩ 76 (0, 0)), .obj b5 (.cells ⟨[.slice Ad nd cd]⟩ 47 (0, 0))]) (by simp [SV.enc]) ?_
                exact G.meet 0 (by (repeat (first | exact Mem.le.refl _ | assumption | (apply Mem.le.trans; rotate_left; assumption)))) (fr' := [(0, [], _), (1, [], _), (5, [], _), (6, [], _), (14, [], _), (15, [], _), (16, [], _)]) ⟨rfl, rfl, rfl, rfl, rfl, rfl, rfl, trivial⟩ ⟨A49, n49, c49, A54, n54, c54, trivial, rfl, rfl⟩
            · skip
              refine D.buildSlice [x.enc] rfl rfl rfl rfl rfl rfl rfl rfl rfl rfl rfl rfl (fun _ => rfl) (fun p53 C53 hle53 hs53 => ?_)
              refine D.fork hH rfl ⟨?_, ?_, trivial⟩
              · skip
                refine D.appendF (j := 2) rfl rfl rfl rfl rfl rfl rfl rfl rfl rfl rfl (hs48.mono (by (repeat (first | exact Mem.le.refl _ | assumption | (apply Mem.le.trans; rotate_left; assumption))))) rfl (by simp only [List.length_singleton, maxLen]; omega) (by show (i + 1) * 24 ≤ _; omega) (fun _ => rfl) (fun A49 n49 c49 => ?_)
                refine D.loadL (.tail _ (.tail _ (.tail _ (.tail _ (.head _))))) rfl rfl rfl rfl rfl rfl rfl rfl rfl ?_
                refine D.pure rfl rfl rfl rfl rfl rfl ?_
                refine D.appendF (j := 3) rfl rfl rfl rfl rfl rfl rfl rfl rfl rfl rfl (hs53.mono (by (repeat (first | exact Mem.le.refl _ | assumption | (apply Mem.le.trans; rotate_left; assumption))))) rfl (by simp only [List.length_singleton, maxLen]; omega) (by show (i + 1) * 56 ≤ _; omega) (fun _ => rfl) (fun A54 n54 c54 => ?_)
                refine D.store (j := 4) rfl rfl rfl rfl rfl rfl rfl rfl rfl rfl rfl rfl ?_
                refine D.pure rfl rfl rfl rfl rfl rfl ?_
                refine D.store (j := 0) rfl rfl rfl rfl rfl rfl rfl rfl rfl rfl rfl rfl ?_
                refine D.done [(0, [], _), (1, [], _), (5, [], _), (6, [], _), (14, [], _), (15, [], _), (16, [], _)] ⟨rfl, rfl, rfl, rfl, rfl, rfl, rfl, trivial⟩ (hR _ _ _ rfl ?_); clear hR hB hH R
                refine G.perm (L' := [.arr (sA A49 n49 c49) 71 1 (i + 1) ((xs.map SV.enc).flatten ++ [[.slice A10 n10 c10]].flatten), .arr (sB A54 n54 c54) 57 3 (i + 1) ((ys.map FV.enc).flatten ++ [x.enc].flatten), .obj b6 (.cells ⟨(YV.mk A49 n49 c49 A54 n54 c54 none 0 0).enc⟩ 76 (0, 0)), .obj b5 (.cells ⟨[.slice Ad nd cd]⟩ 47 (0, 0)), .obj b12 (.cells ⟨x.enc⟩ 57 (0, 0)), .obj b9 (.cells ⟨r.enc⟩ 44 (0, 0))]) (by (refine (ent_perm (j := 2) rfl).trans (List.Perm.cons _ ?_); refine (ent_perm (j := 1) rfl).trans (List.Perm.cons _ ?_); refine (ent_perm (j := 0) rfl).trans (List.Perm.cons _ ?_); refine (ent_perm (j := 2) rfl).trans (List.Perm.cons _ ?_); refine (ent_perm (j := 0) rfl).trans (List.Perm.cons _ ?_); refine (ent_perm (j := 0) rfl).trans (List.Perm.cons _ ?_); exact List.Perm.refl _)) ?_
                refine G.dropE 4 rfl ?_
                refine G.dropE 4 rfl ?_
                refine G.eqL (L' := [.arr (sA A49 n49 c49) 71 1 (i + 1) ((xs ++ [SV.mk A10 n10 c10]).map SV.enc).flatten, .arr (sB A54 n54 c54) 57 3 (i + 1) ((ys ++ [x]).map FV.enc).flatten, .obj b6 (.cells ⟨(YV.mk A49 n49 c49 A54 n54 c54 none 0 0).enc⟩ 76 (0, 0)), .obj b5 (.cells ⟨[.slice Ad nd cd]⟩ 47 (0, 0))]) (by simp [SV.enc]) ?_
                exact G.meet 0 (by (repeat (first | exact Mem.le.refl _ | assumption | (apply Mem.le.trans; rotate_left; assumption)))) (fr' := [(0, [], _), (1, [], _), (5, [], _), (6, [], _), (14, [], _), (15, [], _), (16, [], _)]) ⟨rfl, rfl, rfl, rfl, rfl, rfl, rfl, trivial⟩ ⟨A49, n49, c49, A54, n54, c54, trivial, rfl, rfl⟩
              · skip
                refine D.loadL (.tail _ (.tail _ (.tail _ (.tail _ (.head _))))) rfl rfl rfl rfl rfl rfl rfl rfl rfl ?_
                refine D.appendF (j := 2) rfl rfl rfl rfl rfl rfl rfl rfl rfl rfl rfl (hs48.mono (by (repeat (first | exact Mem.le.refl _ | assumption | (apply Mem.le.trans; rotate_left; assumption))))) rfl (by simp only [List.length_singleton, maxLen]; omega) (by show (i + 1) * 24 ≤ _; omega) (fun _ => rfl) (fun A49 n49 c49 => ?_)
                refine D.pure rfl rfl rfl rfl rfl rfl ?_
                refine D.appendF (j := 3) rfl rfl rfl rfl rfl rfl rfl rfl rfl rfl rfl (hs53.mono (by (repeat (first | exact Mem.le.refl _ | assumption | (apply Mem.le.trans; rotate_left; assumption))))) rfl (by simp only [List.length_singleton, maxLen]; omega) (by show (i + 1) * 56 ≤ _; omega) (fun _ => rfl) (fun A54 n54 c54 => ?_)
                refine D.store (j := 4) rfl rfl rfl rfl rfl rfl rfl rfl rfl rfl rfl rfl ?_
                refine D.pure rfl rfl rfl rfl rfl rfl ?_
                refine D.store (j := 0) rfl rfl rfl rfl rfl rfl rfl rfl rfl rfl rfl rfl ?_
                refine D.done [(0, [], _), (1, [], _), (5, [], _), (6, [], _), (14, [], _), (15, [], _), (16, [], _)] ⟨rfl, rfl, rfl, rfl, rfl, rfl, rfl, trivial⟩ (hR _ _ _ rfl ?_); clear hR hB hH R
                refine G.perm (L' := [.arr (sA A49 n49 c49) 71 1 (i + 1) ((xs.map SV.enc).flatten ++ [[.slice A10 n10 c10]].flatten), .arr (sB A54 n54 c54) 57 3 (i + 1) ((ys.map FV.enc).flatten ++ [x.enc].flatten), .obj b6 (.cells ⟨(YV.mk A49 n49 c49 A54 n54 c54 none 0 0).enc⟩ 76 (0, 0)), .obj b5 (.cells ⟨[.slice Ad nd cd]⟩ 47 (0, 0)), .obj b12 (.cells ⟨x.enc⟩ 57 (0, 0)), .obj b9 (.cells ⟨r.enc⟩ 44 (0, 0))]) (by (refine (ent_perm (j := 2) rfl).trans (List.Perm.cons _ ?_); refine (ent_perm (j := 1) rfl).trans (List.Perm.cons _ ?_); refine (ent_perm (j := 0) rfl).trans (List.Perm.cons _ ?_); refine (ent_perm (j := 2) rfl).trans (List.Perm.cons _ ?_); refine (ent_perm (j := 0) rfl).trans (List.Perm.cons _ ?_); refine (ent_perm (j := 0) rfl).trans (List.Perm.cons _ ?_); exact List.Perm.refl _)) ?_
                refine G.dropE 4 rfl ?_
                refine G.dropE 4 rfl ?_
                refine G.eqL (L' := [.arr (sA A49 n49 c49) 71 1 (i + 1) ((xs ++ [SV.mk A10 n10 c10]).map SV.enc).flatten, .arr (sB A54 n54 c54) 57 3 (i + 1) ((ys ++ [x]).map FV.enc).flatten, .obj b6 (.cells ⟨(YV.mk A49 n49 c49 A54 n54 c54 none 0 0).enc⟩ 76 (0, 0)), .obj b5 (.cells ⟨[.slice Ad nd cd]⟩ 47 (0, 0))]) (by simp [SV.enc]) ?_
                exact G.meet 0 (by (repeat (first | exact Mem.le.refl _ | assumption | (apply Mem.le.trans; rotate_left; assumption)))) (fr' := [(0, [], _), (1, [], _), (5, [], _), (6, [], _), (14, [], _), (15, [], _), (16, [], _)]) ⟨rfl, rfl, rfl, rfl, rfl, rfl, rfl, trivial⟩ ⟨A49, n49, c49, A54, n54, c54, trivial, rfl, rfl⟩
        · skip
          refine D.loadL (.tail _ (.tail _ (.tail _ (.tail _ (.head _))))) rfl rfl rfl rfl rfl rfl rfl rfl rfl ?_
          refine D.fork hH rfl ⟨?_, ?_, trivial⟩
          · skip
            refine D.buildSlice [[.slice A10 n10 c10]] rfl rfl rfl rfl rfl rfl rfl rfl rfl rfl rfl rfl (fun _ => rfl) (fun p48 C48 hle48 hs48 => ?_)
            refine D.fork hH rfl ⟨?_, ?_, trivial⟩
            · skip
              refine D.appendF (j := 2) rfl rfl rfl rfl rfl rfl rfl rfl rfl rfl rfl (hs48.mono (by (repeat (first | exact Mem.le.refl _ | assumption | (apply Mem.le.trans; rotate_left; assumption))))) rfl (by simp only [List.length_singleton, maxLen]; omega) (by show (i + 1) * 24 ≤ _; omega) (fun _ => rfl) (fun A49 n49 c49 => ?_)
              refine D.loadL (.tail _ (.head _)) rfl rfl rfl rfl rfl rfl rfl rfl rfl ?_
              refine D.pure rfl rfl rfl rfl rfl rfl ?_
              refine D.buildSlice [x.enc] rfl rfl rfl rfl rfl rfl rfl rfl rfl rfl rfl rfl (fun _ => rfl) (fun p53 C53 hle53 hs53 => ?_)
              refine D.appendF (j := 3) rfl rfl rfl rfl rfl rfl rfl rfl rfl rfl rfl (hs53.mono (by (repeat (first | exact Mem.le.refl _ | assumption | (apply Mem.le.trans; rotate_left; assumption))))) rfl (by simp only [List.length_singleton, maxLen]; omega) (by show (i + 1) * 56 ≤ _; omega) (fun _ => rfl) (fun A54 n54 c54 => ?_)
              refine D.store (j := 4) rfl rfl rfl rfl rfl rfl rfl rfl rfl rfl rfl rfl ?_
              refine D.pure rfl rfl rfl rfl rfl rfl ?_
              refine D.store (j := 0) rfl rfl rfl rfl rfl rfl rfl rfl rfl rfl rfl rfl ?_
              refine D.done [(0, [], _), (1, [], _), (5, [], _), (6, [], _), (14, [], _), (15, [], _), (16, [], _)] ⟨rfl, rfl, rfl, rfl, rfl, rfl, rfl, trivial⟩ (hR _ _ _ rfl ?_); clear hR hB hH R
              refine G.perm (L' := [.arr (sA A49 n49 c49) 71 1 (i + 1) ((xs.map SV.enc).flatten ++ [[.slice A10 n10 c10]].flatten), .arr (sB A54 n54 c54) 57 3 (i + 1) ((ys.map FV.enc).flatten ++ [x.enc].flatten), .obj b6 (.cells ⟨(YV.mk A49 n49 c49 A54 n54 c54 none 0 0).enc⟩ 76 (0, 0)), .obj b5 (.cells ⟨[.slice Ad nd cd]⟩ 47 (0, 0)), .obj b12 (.cells ⟨x.enc⟩ 57 (0, 0)), .obj b9 (.cells ⟨r.enc⟩ 44 (0, 0))]) (by (refine (ent_perm (j := 2) rfl).trans (List.Perm.cons _ ?_); refine (ent_perm (j := 1) rfl).trans (List.Perm.cons _ ?_); refine (ent_perm (j := 0) rfl).trans (List.Perm.cons _ ?_); refine (ent_perm (j := 2) rfl).trans (List.Perm.cons _ ?_); refine (ent_perm (j := 0) rfl).trans (List.Perm.cons _ ?_); refine (ent_perm (j := 0) rfl).trans (List.Perm.cons _ ?_); exact List.Perm.refl _)) ?_
              refine G.dropE 4 rfl ?_
              refine G.dropE 4 rfl ?_
              refine G.eqL (L' := [.arr (sA A49 n49 c49) 71 1 (i + 1) ((xs ++ [SV.mk A10 n10 c10]).map SV.enc).flatten, .arr (sB A54 n54 c54) 57 3 (i + 1) ((ys ++ [x]).map FV.enc).flatten, .obj b6 (.cells ⟨(YV.mk A49 n49 c49 A54 n54 c54 none 0 0).enc⟩ 76 (0, 0)), .obj b5 (.cells ⟨[.slice Ad nd cd]⟩ 47 (0, 0))]) (by simp [SV.enc]) ?_
              exact G.meet 0 (by (repeat (first | exact Mem.le.refl _ | assumption | (apply Mem.le.trans; rotate_left; assumption)))) (fr' := [(0, [], _), (1, [], _), (5, [], _), (6, [], _), (14, [], _), (15, [], _), (16, [], _)]) ⟨rfl, rfl, rfl, rfl, rfl, rfl, rfl, trivial⟩ ⟨A49, n49, c49, A54, n54, c54, trivial, rfl, rfl⟩
            · skip
              refine D.loadL (.head _) rfl rfl rfl rfl rfl rfl rfl rfl rfl ?_
              refine D.fork hH rfl ⟨?_, ?_, trivial⟩
              · skip
                refine D.appendF (j := 2) rfl rfl rfl rfl rfl rfl rfl rfl rfl rfl rfl (hs48.mono (by (repeat (first | exact Mem.le.refl _ | assumption | (apply Mem.le.trans; rotate_left; assumption))))) rfl (by simp only [List.length_singleton, maxLen]; omega) (by show (i + 1) * 24 ≤ _; omega) (fun _ => rfl) (fun A49 n49 c49 => ?_)
                refine D.pure rfl rfl rfl rfl rfl rfl ?_
                refine D.buildSlice [x.enc] rfl rfl rfl rfl rfl rfl rfl rfl rfl rfl rfl rfl (fun _ => rfl) (fun p53 C53 hle53 hs53 => ?_)
                refine D.appendF (j := 3) rfl rfl rfl rfl rfl rfl rfl rfl rfl rfl rfl (hs53.mono (by (repeat (first | exact Mem.le.refl _ | assumption | (apply Mem.le.trans; rotate_left; assumption))))) rfl (by simp only [List.length_singleton, maxLen]; omega) (by show (i + 1) * 56 ≤ _; omega) (fun _ => rfl) (fun A54 n54 c54 => ?_)
                refine D.store (j := 4) rfl rfl rfl rfl rfl rfl rfl rfl rfl rfl rfl rfl ?_
                refine D.pure rfl rfl rfl rfl rfl rfl ?_
                refine D.store (j := 0) rfl rfl rfl rfl rfl rfl rfl rfl rfl rfl rfl rfl ?_
                refine D.done [(0, [], _), (1, [], _), (5, [], _), (6, [], _), (14, [], _), (15, [], _), (16, [], _)] ⟨rfl, rfl, rfl, rfl, rfl, rfl, rfl, trivial⟩ (hR _ _ _ rfl ?_); clear hR hB hH R
                refine G.perm (L' := [.arr (sA A49 n49 c49) 71 1 (i + 1) ((xs.map SV.enc).flatten ++ [[.slice A10 n10 c10]].flatten), .arr (sB A54 n54 c54) 57 3 (i + 1) ((ys.map FV.enc).flatten ++ [x.enc].flatten), .obj b6 (.cells ⟨(YV.mk A49 n49 c49 A54 n54 c54 none 0 0).enc⟩ 76 (0, 0)), .obj b5 (.cells ⟨[.slice Ad nd cd]⟩ 47 (0, 0)), .obj b12 (.cells ⟨x.enc⟩ 57 (0, 0)), .obj b9 (.cells ⟨r.enc⟩ 44 (0, 0))]) (by (refine (ent_perm (j := 2) rfl).trans (List.Perm.cons _ ?_); refine (ent_perm (j := 1) rfl).trans (List.Perm.cons _ ?_); refine (ent_perm (j := 0) rfl).trans (List.Perm.cons _ ?_); refine (ent_perm (j := 2) rfl).trans (List.Perm.cons _ ?_); refine (ent_perm (j := 0) rfl).trans (List.Perm.cons _ ?_); refine (ent_perm (j := 0) rfl).trans (List.Perm.cons _ ?_); exact List.Perm.refl _)) ?_
                refine G.dropE 4 rfl ?_
                refine G.dropE 4 rfl ?_
                refine G.eqL (L' := [.arr (sA A49 n49 c49) 71 1 (i + 1) ((xs ++ [SV.mk A10 n10 c10]).map SV.enc).flatten, .arr (sB A54 n54 c54) 57 3 (i + 1) ((ys ++ [x]).map FV.enc).flatten, .obj b6 (.cells ⟨(YV.mk A49 n49 c49 A54 n54 c54 none 0 0).enc⟩ 76 (0, 0)), .obj b5 (.cells ⟨[.slice Ad nd cd]⟩ 47 (0, 0))]) (by simp [SV.enc]) ?_
                exact G.meet 0 (by (repeat (first | exact Mem.le.refl _ | assumption | (apply Mem.le.trans; rotate_left; assumption)))) (fr' := [(0, [], _), (1, [], _), (5, [], _), (6, [], _), (14, [], _), (15, [], _), (16, [], _)]) ⟨rfl, rfl, rfl, rfl, rfl, rfl, rfl, trivial⟩ ⟨A49, n49, c49, A54, n54, c54, trivial, rfl, rfl⟩
              · skip
                refine D.buildSlice [x.enc] rfl rfl rfl rfl rfl rfl rfl rfl rfl rfl rfl rfl (fun _ => rfl) (fun p53 C53 hle53 hs53 => ?_)
                refine D.appendF (j := 2) rfl rfl rfl rfl rfl rfl rfl rfl rfl rfl rfl (hs48.mono (by (repeat (first | exact Mem.le.refl _ | assumption | (apply Mem.le.trans; rotate_left; assumption))))) rfl (by simp only [List.length_singleton, maxLen]; omega) (by show (i + 1) * 24 ≤ _; omega) (fun _ => rfl) (fun A49 n49 c49 => ?_)
                refine D.pure rfl rfl rfl rfl rfl rfl ?_
                refine D.appendF (j := 3) rfl rfl rfl rfl rfl rfl rfl rfl rfl rfl rfl (hs53.mono (by (repeat (first | exact Mem.le.refl _ | assumption | (apply Mem.le.trans; rotate_left; assumption))))) rfl (by simp only [List.length_singleton, maxLen]; omega) (by show (i + 1) * 56 ≤ _; omega) (fun _ => rfl) (fun A54 n54 c54 => ?_)
                refine D.store (j := 4) rfl rfl rfl rfl rfl rfl rfl rfl rfl rfl rfl rfl ?_
                refine D.pure rfl rfl rfl rfl rfl rfl ?_
                refine D.store (j := 0) rfl rfl rfl rfl rfl rfl rfl rfl rfl rfl rfl rfl ?_
                refine D.done [(0, [], _), (1, [], _), (5, [], _), (6, [], _), (14, [], _), (15, [], _), (16, [], _)] ⟨rfl, rfl, rfl, rfl, rfl, rfl, rfl, trivial⟩ (hR _ _ _ rfl ?_); clear hR hB hH R
                refine G.perm (L' := [.arr (sA A49 n49 c49) 71 1 (i + 1) ((xs.map SV.enc).flatten ++ [[.slice A10 n10 c10]].flatten), .arr (sB A54 n54 c54) 57 3 (i + 1) ((ys.map FV.enc).flatten ++ [x.enc].flatten), .obj b6 (.cells ⟨(YV.mk A49 n49 c49 A54 n54 c54 none 0 0).enc⟩ 76 (0, 0)), .obj b5 (.cells ⟨[.slice Ad nd cd]⟩ 47 (0, 0)), .obj b12 (.cells ⟨x.enc⟩ 57 (0, 0)), .obj b9 (.cells ⟨r.enc⟩ 44 (0, 0))]) (by (refine (ent_perm (j := 2) rfl).trans (List.Perm.cons _ ?_); refine (ent_perm (j := 1) rfl).trans (List.Perm.cons _ ?_); refine (ent_perm (j := 0) rfl).trans (List.Perm.cons _ ?_); refine (ent_perm (j := 2) rfl).trans (List.Perm.cons _ ?_); refine (ent_perm (j := 0) rfl).trans (List.Perm.cons _ ?_); refine (ent_perm (j := 0) rfl).trans (List.Perm.cons _ ?_); exact List.Perm.refl _)) ?_
                refine G.dropE 4 rfl ?_
                refine G.dropE 4 rfl ?_
                refine G.eqL (L' := [.arr (sA A49 n49 c49) 71 1 (i + 1) ((xs ++ [SV.mk A10 n10 c10]).map SV.enc).flatten, .arr (sB A54 n54 c54) 57 3 (i + 1) ((ys ++ [x]).map FV.enc).flatten, .obj b6 (.cells ⟨(YV.mk A49 n49 c49 A54 n54 c54 none 0 0).enc⟩ 76 (0, 0)), .obj b5 (.cells ⟨[.slice Ad nd cd]⟩ 47 (0, 0))]) (by simp [SV.enc]) ?_
                exact G.meet 0 (by (repeat (first | exact Mem.le.refl _ | assumption | (apply Mem.le.trans; rotate_left; assumption)))) (fr' := [(0, [], _), (1, [], _), (5, [], _), (6, [], _), (14, [], _), (15, [], _), (16, [], _)]) ⟨rfl, rfl, rfl, rfl, rfl, rfl, rfl, trivial⟩ ⟨A49, n49, c49, A54, n54, c54, trivial, rfl, rfl⟩
          · skip
            refine D.loadL (.head _) rfl rfl rfl rfl rfl rfl rfl rfl rfl ?_
            refine D.fork hH rfl ⟨?_, ?_, trivial⟩
            · skip
              refine D.buildSlice [[.slice A10 n10 c10]] rfl rfl rfl rfl rfl rfl rfl rfl rfl rfl rfl rfl (fun _ => rfl) (fun p48 C48 hle48 hs48 => ?_)
              refine D.fork hH rfl ⟨?_, ?_, trivial⟩
              · skip
                refine D.appendF (j := 2) rfl rfl rfl rfl rfl rfl rfl rfl rfl rfl rfl (hs48.mono (by (repeat (first | exact Mem.le.refl _ | assumption | (apply Mem.le.trans; rotate_left; assumption))))) rfl (by simp only [List.length_singleton, maxLen]; omega) (by show (i + 1) * 24 ≤ _; omega) (fun _ => rfl) (fun A49 n49 c49 => ?_)
                refine D.pure rfl rfl rfl rfl rfl rfl ?_
                refine D.buildSlice [x.enc] rfl rfl rfl rfl rfl rfl rfl rfl rfl rfl rfl rfl (fun _ => rfl) (fun p53 C53 hle53 hs53 => ?_)
                refine D.appendF (j := 3) rfl rfl rfl rfl rfl rfl rfl rfl rfl rfl rfl (hs53.mono (by (repeat (first | exact Mem.le.refl _ | assumption | (apply Mem.le.trans; rotate_left; assumption))))) rfl (by simp only [List.length_singleton, maxLen]; omega) (by show (i + 1) * 56 ≤ _; omega) (fun _ => rfl) (fun A54 n54 c54 => ?_)
                refine D.store (j := 4) rfl rfl rfl rfl rfl rfl rfl rfl rfl rfl rfl rfl ?_
                refine D.pure rfl rfl rfl rfl rfl rfl ?_
                refine D.store (j := 0) rfl rfl rfl rfl rfl rfl rfl rfl rfl rfl rfl rfl ?_
                refine D.done [(0, [], _), (1, [], _), (5, [], _), (6, [], _), (14, [], _), (15, [], _), (16, [], _)] ⟨rfl, rfl, rfl, rfl, rfl, rfl, rfl, trivial⟩ (hR _ _ _ rfl ?_); clear hR hB hH R
                refine G.perm (L' := [.arr (sA A49 n49 c49) 71 1 (i + 1) ((xs.map SV.enc).flatten ++ [[.slice A10 n10 c10]].flatten), .arr (sB A54 n54 c54) 57 3 (i + 1) ((ys.map FV.enc).flatten ++ [x.enc].flatten), .obj b6 (.cells ⟨(YV.mk A49 n49 c49 A54 n54 c54 none 0 0).enc⟩ 76 (0, 0)), .obj b5 (.cells ⟨[.slice Ad nd cd]⟩ 47 (0, 0)), .obj b12 (.cells ⟨x.enc⟩ 57 (0, 0)), .obj b9 (.cells ⟨r.enc⟩ 44 (0, 0))]) (by (refine (ent_perm (j := 2) rfl).trans (List.Perm.cons _ ?_); refine (ent_perm (j := 1) rfl).trans (List.Perm.cons _ ?_); refine (ent_perm (j := 0) rfl).trans (List.Perm.cons _ ?_); refine (ent_perm (j := 2) rfl).trans (List.Perm.cons _ ?_); refine (ent_perm (j := 0) rfl).trans (List.Perm.cons _ ?_); refine (ent_perm (j := 0) rfl).trans (List.Perm.cons _ ?_); exact List.Perm.refl _)) ?_
                refine G.dropE 4 rfl ?_
                refine G.dropE 4 rfl ?_
                refine G.eqL (L' := [.arr (sA A49 n49 c49) 71 1 (i + 1) ((xs ++ [SV.mk A10 n10 c10]).map SV.enc).flatten, .arr (sB A54 n54 c54) 57 3 (i + 1) ((ys ++ [x]).map FV.enc).flatten, .obj b6 (.cells ⟨(YV.mk A49 n49 c49 A54 n54 c54 none 0 0).enc⟩ 76 (0, 0)), .obj b5 (.cells ⟨[.slice Ad nd cd]⟩ 47 (0, 0))]) (by simp [SV.enc]) ?_
                exact G.meet 0 (by (repeat (first | exact Mem.le.refl _ | assumption | (apply Mem.le.trans; rotate_left; assumption)))) (fr' := [(0, [], _), (1, [], _), (5, [], _), (6, [], _), (14, [], _), (15, [], _), (16, [], _)]) ⟨rfl, rfl, rfl, rfl, rfl, rfl, rfl, trivial⟩ ⟨A49, n49, c49, A54, n54, c54, trivial, rfl, rfl⟩
              · skip
                refine D.buildSlice [x.enc] rfl rfl rfl rfl rfl rfl rfl rfl rfl rfl rfl rfl (fun _ => rfl) (fun p53 C53 hle53 hs53 => ?_)
                refine D.appendF (j := 2) rfl rfl rfl rfl rfl rfl rfl rfl rfl rfl rfl (hs48.mono (by (repeat (first | exact Mem.le.refl _ | assumption | (apply Mem.le.trans; rotate_left; assumption))))) rfl (by simp only [List.length_singleton, maxLen]; omega) (by show (i + 1) * 24 ≤ _; omega) (fun _ => rfl) (fun A49 n49 c49 => ?_)
                refine D.pure rfl rfl rfl rfl rfl rfl ?_
                refine D.appendF (j := 3) rfl rfl rfl rfl rfl rfl rfl rfl rfl rfl rfl (hs53.mono (by (repeat (first | exact Mem.le.refl _ | assumption | (apply Mem.le.trans; rotate_left; assumption))))) rfl (by simp only [List.length_singleton, maxLen]; omega) (by show (i + 1) * 56 ≤ _; omega) (fun _ => rfl) (fun A54 n54 c54 => ?_)
                refine D.store (j := 4) rfl rfl rfl rfl rfl rfl rfl rfl rfl rfl rfl rfl ?_
                refine D.pure rfl rfl rfl rfl rfl rfl ?_
                refine D.store (j := 0) rfl rfl rfl rfl rfl rfl rfl rfl rfl rfl rfl rfl ?_
                refine D.done [(0, [], _), (1, [], _), (5, [], _), (6, [], _), (14, [], _), (15, [], _), (16, [], _)] ⟨rfl, rfl, rfl, rfl, rfl, rfl, rfl, trivial⟩ (hR _ _ _ rfl ?_); clear hR hB hH R
                refine G.perm (L' := [.arr (sA A49 n49 c49) 71 1 (i + 1) ((xs.map SV.enc).flatten ++ [[.slice A10 n10 c10]].flatten), .arr (sB A54 n54 c54) 57 3 (i + 1) ((ys.map FV.enc).flatten ++ [x.enc].flatten), .obj b6 (.cells ⟨(YV.mk A49 n49 c49 A54 n54 c54 none 0 0).enc⟩ 76 (0, 0)), .obj b5 (.cells ⟨[.slice Ad nd cd]⟩ 47 (0, 0)), .obj b12 (.cells ⟨x.enc⟩ 57 (0, 0)), .obj b9 (.cells ⟨r.enc⟩ 44 (0, 0))]) (by (refine (ent_perm (j := 2) rfl).trans (List.Perm.cons _ ?_); refine (ent_perm (j := 1) rfl).trans (List.Perm.cons _ ?_); refine (ent_perm (j := 0) rfl).trans (List.Perm.cons _ ?_); refine (ent_perm (j := 2) rfl).trans (List.Perm.cons _ ?_); refine (ent_perm (j := 0) rfl).trans (List.Perm.cons _ ?_); refine (ent_perm (j := 0) rfl).trans (List.Perm.cons _ ?_); exact List.Perm.refl _)) ?_
                refine G.dropE 4 rfl ?_
                refine G.dropE 4 rfl ?_
                refine G.eqL (L' := [.arr (sA A49 n49 c49) 71 1 (i + 1) ((xs ++ [SV.mk A10 n10 c10]).map SV.enc).flatten, .arr (sB A54 n54 c54) 57 3 (i + 1) ((ys ++ [x]).map FV.enc).flatten, .obj b6 (.cells ⟨(YV.mk A49 n49 c49 A54 n54 c54 none 0 0).enc⟩ 76 (0, 0)), .obj b5 (.cells ⟨[.slice Ad nd cd]⟩ 47 (0, 0))]) (by simp [SV.enc]) ?_
                exact G.meet 0 (by (repeat (first | exact Mem.le.refl _ | assumption | (apply Mem.le.trans; rotate_left; assumption)))) (fr' := [(0, [], _), (1, [], _), (5, [], _), (6, [], _), (14, [], _), (15, [], _), (16, [], _)]) ⟨rfl, rfl, rfl, rfl, rfl, rfl, rfl, trivial⟩ ⟨A49, n49, c49, A54, n54, c54, trivial, rfl, rfl⟩
            · skip
              refine D.buildSlice [x.enc] rfl rfl rfl rfl rfl rfl rfl rfl rfl rfl rfl rfl (fun _ => rfl) (fun p53 C53 hle53 hs53 => ?_)
              refine D.buildSlice [[.slice A10 n10 c10]] rfl rfl rfl rfl rfl rfl rfl rfl rfl rfl rfl rfl (fun _ => rfl) (fun p48 C48 hle48 hs48 => ?_)
              refine D.appendF (j := 2) rfl rfl rfl rfl rfl rfl rfl rfl rfl rfl rfl (hs48.mono (by (repeat (first | exact Mem.le.refl _ | assumption | (apply Mem.le.trans; rotate_left; assumption))))) rfl (by simp only [List.length_singleton, maxLen]; omega) (by show (i + 1) * 24 ≤ _; omega) (fun _ => rfl) (fun A49 n49 c49 => ?_)
              refine D.pure rfl rfl rfl rfl rfl rfl ?_
              refine D.appendF (j := 3) rfl rfl rfl rfl rfl rfl rfl rfl rfl rfl rfl (hs53.mono (by (repeat (first | exact Mem.le.refl _ | assumption | (apply Mem.le.trans; rotate_left; assumption))))) rfl (by simp only [List.length_singleton, maxLen]; omega) (by show (i + 1) * 56 ≤ _; omega) (fun _ => rfl) (fun A54 n54 c54 => ?_)
              refine D.store (j := 4) rfl rfl rfl rfl rfl rfl rfl rfl rfl rfl rfl rfl ?_
              refine D.pure rfl rfl rfl rfl rfl rfl ?_
              refine D.store (j := 0) rfl rfl rfl rfl rfl rfl rfl rfl rfl rfl rfl rfl ?_
              refine D.done [(0, [], _), (1, [], _), (5, [], _), (6, [], _), (14, [], _), (15, [], _), (16, [], _)] ⟨rfl, rfl, rfl, rfl, rfl, rfl, rfl, trivial⟩ (hR _ _ _ rfl ?_); clear hR hB hH R
              refine G.perm (L' := [.arr (sA A49 n49 c49) 71 1 (i + 1) ((xs.map SV.enc).flatten ++ [[.slice A10 n10 c10]].flatten), .arr (sB A54 n54 c54) 57 3 (i + 1) ((ys.map FV.enc).flatten ++ [x.enc].flatten), .obj b6 (.cells ⟨(YV.mk A49 n49 c49 A54 n54 c54 none 0 0).enc⟩ 76 (0, 0)), .obj b5 (.cells ⟨[.slice Ad nd cd]⟩ 47 (0, 0)), .obj b12 (.cells ⟨x.enc⟩ 57 (0, 0)), .obj b9 (.cells ⟨r.enc⟩ 44 (0, 0))]) (by (refine (ent_perm (j := 2) rfl).trans (List.Perm.cons _ ?_); refine (ent_perm (j := 1) rfl).trans (List.Perm.cons _ ?_); refine (ent_perm (j := 0) rfl).trans (List.Perm.cons _ ?_); refine (ent_perm (j := 2) rfl).trans (List.Perm.cons _ ?_); refine (ent_perm (j := 0) rfl).trans (List.Perm.cons _ ?_); refine (ent_perm (j := 0) rfl).trans (List.Perm.cons _ ?_); exact List.Perm.refl _)) ?_
              refine G.dropE 4 rfl ?_
              refine G.dropE 4 rfl ?_
              refine G.eqL (L' := [.arr (sA A49 n49 c49) 71 1 (i + 1) ((xs ++ [SV.mk A10 n10 c10]).map SV.enc).flatten, .arr (sB A54 n54 c54) 57 3 (i + 1) ((ys ++ [x]).map FV.enc).flatten, .obj b6 (.cells ⟨(YV.mk A49 n49 c49 A54 n54 c54 none 0 0).enc⟩ 76 (0, 0)), .obj b5 (.cells ⟨[.slice Ad nd cd]⟩ 47 (0, 0))]) (by simp [SV.enc]) ?_
              exact G.meet 0 (by (repeat (first | exact Mem.le.refl _ | assumption | (apply Mem.le.trans; rotate_left; assumption)))) (fr' := [(0, [], _), (1, [], _), (5, [], _), (6, [], _), (14, [], _), (15, [], _), (16, [], _)]) ⟨rfl, rfl, rfl, rfl, rfl, rfl, rfl, trivial⟩ ⟨A49, n49, c49, A54, n54, c54, trivial, rfl, rfl⟩
        · skip
          refine D.loadL (.head _) rfl rfl rfl rfl rfl rfl rfl rfl rfl ?_
          refine D.fork hH rfl ⟨?_, ?_, ?_, trivial⟩
          · skip
            refine D.buildSlice [[.slice A10 n10 c10]] rfl rfl rfl rfl rfl rfl rfl rfl rfl rfl rfl rfl (fun _ => rfl) (fun p48 C48 hle48 hs48 => ?_)
            refine D.fork hH rfl ⟨?_, ?_, ?_, trivial⟩
            · skip
              refine D.appendF (j := 2) rfl rfl rfl rfl rfl rfl rfl rfl rfl rfl rfl (hs48.mono (by (repeat (first | exact Mem.le.refl _ | assumption | (apply Mem.le.trans; rotate_left; assumption))))) rfl (by simp only [List.length_singleton, maxLen]; omega) (by show (i + 1) * 24 ≤ _; omega) (fun _ => rfl) (fun A49 n49 c49 => ?_)
              refine D.loadL (.tail _ (.tail _ (.tail _ (.tail _ (.head _))))) rfl rfl rfl rfl rfl rfl rfl rfl rfl ?_
              refine D.pure rfl rfl rfl rfl rfl rfl ?_
              refine D.buildSlice [x.enc] rfl rfl rfl rfl rfl rfl rfl rfl rfl rfl rfl rfl (fun _ => rfl) (fun p53 C53 hle53 hs53 => ?_)
              refine D.appendF (j := 3) rfl rfl rfl rfl rfl rfl rfl rfl rfl rfl rfl (hs53.mono (by (repeat (first | exact Mem.le.refl _ | assumption | (apply Mem.le.trans; rotate_left; assumption))))) rfl (by simp only [List.length_singleton, maxLen]; omega) (by show (i + 1) * 56 ≤ _; omega) (fun _ => rfl) (fun A54 n54 c54 => ?_)
              refine D.store (j := 4) rfl rfl rfl rfl rfl rfl rfl rfl rfl rfl rfl rfl ?_
              refine D.pure rfl rfl rfl rfl rfl rfl ?_
              refine D.store (j := 0) rfl rfl rfl rfl rfl rfl rfl rfl rfl rfl rfl rfl ?_
              refine D.done [(0, [], _), (1, [], _), (5, [], _), (6, [], _), (14, [], _), (15, [], _), (16, [], _)] ⟨rfl, rfl, rfl, rfl, rfl, rfl, rfl, trivial⟩ (hR _ _ _ rfl ?_); clear hR hB hH R
              refine G.perm (L' := [.arr (sA A49 n49 c49) 71 1 (i + 1) ((xs.map SV.enc).flatten ++ [[.slice A10 n10 c10]].flatten), .arr (sB A54 n54 c54) 57 3 (i + 1) ((ys.map FV.enc).flatten ++ [x.enc].flatten), .obj b6 (.cells ⟨(YV.mk A49 n49 c49 A54 n54 c54 none 0 0).enc⟩ 76 (0, 0)), .obj b5 (.cells ⟨[.slice Ad nd cd]⟩ 47 (0, 0)), .obj b12 (.cells ⟨x.enc⟩ 57 (0, 0)), .obj b9 (.cells ⟨r.enc⟩ 44 (0, 0))]) (by (refine (ent_perm (j := 2) rfl).trans (List.Perm.cons _ ?_); refine (ent_perm (j := 1) rfl).trans (List.Perm.cons _ ?_); refine (ent_perm (j := 0) rfl).trans (List.Perm.cons _ ?_); refine (ent_perm (j := 2) rfl).trans (List.Perm.cons _ ?_); refine (ent_perm (j := 0) rfl).trans (List.Perm.cons _ ?_); refine (ent_perm (j := 0) rfl).trans (List.Perm.cons _ ?_); exact List.Perm.refl _)) ?_
              refine G.dropE 4 rfl ?_
              refine G.dropE 4 rfl ?_
              refine G.eqL (L' := [.arr (sA A49 n49 c49) 71 1 (i + 1) ((xs ++ [SV.mk A10 n10 c10]).map SV.enc).flatten, .arr (sB A54 n54 c54) 57 3 (i + 1) ((ys ++ [x]).map FV.enc).flatten, .obj b6 (.cells ⟨(YV.mk A49 n49 c49 A54 n54 c54 none 0 0).enc⟩ 76 (0, 0)), .obj b5 (.cells ⟨[.slice Ad nd cd]⟩ 47 (0, 0))]) (by simp [SV.enc]) ?_
              exact G.meet 0 (by (repeat (first | exact Mem.le.refl _ | assumption | (apply Mem.le.trans; rotate_left; assumption)))) (fr' := [(0, [], _), (1, [], _), (5, [], _), (6, [], _), (14, [], _), (15, [], _), (16, [], _)]) ⟨rfl, rfl, rfl, rfl, rfl, rfl, rfl, trivial⟩ ⟨A49, n49, c49, A54, n54, c54, trivial, rfl, rfl⟩
            · skip
              refine D.loadL (.tail _ (.tail _ (.tail _ (.tail _ (.head _))))) rfl rfl rfl rfl rfl rfl rfl rfl rfl ?_
              refine D.fork hH rfl ⟨?_, ?_, trivial⟩
              · skip
                refine D.appendF (j := 2) rfl rfl rfl rfl rfl rfl rfl rfl rfl rfl rfl (hs48.mono (by (repeat (first | exact Mem.le.refl _ | assumption | (apply Mem.le.trans; rotate_left; assumption))))) rfl (by simp only [List.length_singleton, maxLen]; omega) (by show (i + 1) * 24 ≤ _; omega) (fun _ => rfl) (fun A49 n49 c49 => ?_)
                refine D.pure rfl rfl rfl rfl rfl rfl ?_
                refine D.buildSlice [x.enc] rfl rfl rfl rfl rfl rfl rfl rfl rfl rfl rfl rfl (fun _ => rfl) (fun p53 C53 hle53 hs53 => ?_)
                refine D.appendF (j := 3) rfl rfl rfl rfl rfl rfl rfl rfl rfl rfl rfl (hs53.mono (by (repeat (first | exact Mem.le.refl _ | assumption | (apply Mem.le.trans; rotate_left; assumption))))) rfl (by simp only [List.length_singleton, maxLen]; omega) (by show (i + 1) * 56 ≤ _; omega) (fun _ => rfl) (fun A54 n54 c54 => ?_)
                refine D.store (j := 4) rfl rfl rfl rfl rfl rfl rfl rfl rfl rfl rfl rfl ?_
                refine D.pure rfl rfl rfl rfl rfl rfl ?_
                refine D.store (j := 0) rfl rfl rfl rfl rfl rfl rfl rfl rfl rfl rfl rfl ?_
                refine D.done [(0, [], _), (1, [], _), (5, [], _), (6, [], _), (14, [], _), (15, [], _), (16, [], _)] ⟨rfl, rfl, rfl, rfl, rfl, rfl, rfl, trivial⟩ (hR _ _ _ rfl ?_); clear hR hB hH R
                refine G.perm (L' := [.arr (sA A49 n49 c49) 71 1 (i + 1) ((xs.map SV.enc).flatten ++ [[.slice A10 n10 c10]].flatten), .arr (sB A54 n54 c54) 57 3 (i + 1) ((ys.map FV.enc).flatten ++ [x.enc].flatten), .obj b6 (.cells ⟨(YV.mk A49 n49 c49 A54 n54 c54 none 0 0).enc⟩ 76 (0, 0)), .obj b5 (.cells ⟨[.slice Ad nd cd]⟩ 47 (0, 0)), .obj b12 (.cells ⟨x.enc⟩ 57 (0, 0)), .obj b9 (.cells ⟨r.enc⟩ 44 (0, 0))]) (by (refine (ent_perm (j := 2) rfl).trans (List.Perm.cons _ ?_); refine (ent_perm (j := 1) rfl).trans (List.Perm.cons _ ?_); refine (ent_perm (j := 0) rfl).trans (List.Perm.cons _ ?_); refine (ent_perm (j := 2) rfl).trans (List.Perm.cons _ ?_); refine (ent_perm (j := 0) rfl).trans (List.Perm.cons _ ?_); refine (ent_perm (j := 0) rfl).trans (List.Perm.cons _ ?_); exact List.Perm.refl _)) ?_
                refine G.dropE 4 rfl ?_
                refine G.dropE 4 rfl ?_
                refine G.eqL (L' := [.arr (sA A49 n49 c49) 71 1 (i + 1) ((xs ++ [SV.mk A10 n10 c10]).map SV.enc).flatten, .arr (sB A54 n54 c54) 57 3 (i + 1) ((ys ++ [x]).map FV.enc).flatten, .obj b6 (.cells ⟨(YV.mk A49 n49 c49 A54 n54 c54 none 0 0).enc⟩ 76 (0, 0)), .obj b5 (.cells ⟨[.slice Ad nd cd]⟩ 47 (0, 0))]) (by simp [SV.enc]) ?_
                exact G.meet 0 (by (repeat (first | exact Mem.le.refl _ | assumption | (apply Mem.le.trans; rotate_left; assumption)))) (fr' := [(0, [], _), (1, [], _), (5, [], _), (6, [], _), (14, [], _), (15, [], _), (16, [], _)]) ⟨rfl, rfl, rfl, rfl, rfl, rfl, rfl, trivial⟩ ⟨A49, n49, c49, A54, n54, c54, trivial, rfl, rfl⟩
              · skip
                refine D.buildSlice [x.enc] rfl rfl rfl rfl rfl rfl rfl rfl rfl rfl rfl rfl (fun _ => rfl) (fun p53 C53 hle53 hs53 => ?_)
                refine D.appendF (j := 2) rfl rfl rfl rfl rfl rfl rfl rfl rfl rfl rfl (hs48.mono (by (repeat (first | exact Mem.le.refl _ | assumption | (apply Mem.le.trans; rotate_left; assumption))))) rfl (by simp only [List.length_singleton, maxLen]; omega) (by show (i + 1) * 24 ≤ _; omega) (fun _ => rfl) (fun A49 n49 c49 => ?_)
                refine D.pure rfl rfl rfl rfl rfl rfl ?_
                refine D.appendF (j := 3) rfl rfl rfl rfl rfl rfl rfl rfl rfl rfl rfl (hs53.mono (by (repeat (first | exact Mem.le.refl _ | assumption | (apply Mem.le.trans; rotate_left; assumption))))) rfl (by simp only [List.length_singleton, maxLen]; omega) (by show (i + 1) * 56 ≤ _; omega) (fun _ => rfl) (fun A54 n54 c54 => ?_)
                refine D.store (j := 4) rfl rfl rfl rfl rfl rfl rfl rfl rfl rfl rfl rfl ?_
                refine D.pure rfl rfl rfl rfl rfl rfl ?_
                refine D.store (j := 0) rfl rfl rfl rfl rfl rfl rfl rfl rfl rfl rfl rfl ?_
                refine D.done [(0, [], _), (1, [], _), (5, [], _), (6, [], _), (14, [], _), (15, [], _), (16, [], _)] ⟨rfl, rfl, rfl, rfl, rfl, rfl, rfl, trivial⟩ (hR _ _ _ rfl ?_); clear hR hB hH R
                refine G.perm (L' := [.arr (sA A49 n49 c49) 71 1 (i + 1) ((xs.map SV.enc).flatten ++ [[.slice A10 n10 c10]].flatten), .arr (sB A54 n54 c54) 57 3 (i + 1) ((ys.map FV.enc).flatten ++ [x.enc].flatten), .obj b6 (.cells ⟨(YV.mk A49 n49 c49 A54 n54 c54 none 0 0).enc⟩ 76 (0, 0)), .obj b5 (.cells ⟨[.slice Ad nd cd]⟩ 47 (0, 0)), .obj b12 (.cells ⟨x.enc⟩ 57 (0, 0)), .obj b9 (.cells ⟨r.enc⟩ 44 (0, 0))]) (by (refine (ent_perm (j := 2) rfl).trans (List.Perm.cons _ ?_); refine (ent_perm (j := 1) rfl).trans (List.Perm.cons _ ?_); refine (ent_perm (j := 0) rfl).trans (List.Perm.cons _ ?_); refine (ent_perm (j := 2) rfl).trans (List.Perm.cons _ ?_); refine (ent_perm (j := 0) rfl).trans (List.Perm.cons _ ?_); refine (ent_perm (j := 0) rfl).trans (List.Perm.cons _ ?_); exact List.Perm.refl _)) ?_
                refine G.dropE 4 rfl ?_
                refine G.dropE 4 rfl ?_
                refine G.eqL (L' := [.arr (sA A49 n49 c49) 71 1 (i + 1) ((xs ++ [SV.mk A10 n10 c10]).map SV.enc).flatten, .arr (sB A54 n54 c54) 57 3 (i + 1) ((ys ++ [x]).map FV.enc).flatten, .obj b6 (.cells ⟨(YV.mk A49 n49 c49 A54 n54 c54 none 0 0).enc⟩ 76 (0, 0)), .obj b5 (.cells ⟨[.slice Ad nd cd]⟩ 47 (0, 0))]) (by simp [SV.enc]) ?_
                exact G.meet 0 (by (repeat (first | exact Mem.le.refl _ | assumption | (apply Mem.le.trans; rotate_left; assumption)))) (fr' := [(0, [], _), (1, [], _), (5, [], _), (6, [], _), (14, [], _), (15, [], _), (16, [], _)]) ⟨rfl, rfl, rfl, rfl, rfl, rfl, rfl, trivial⟩ ⟨A49, n49, c49, A54, n54, c54, trivial, rfl, rfl⟩
            · skip
              refine D.buildSlice [x.enc] rfl rfl rfl rfl rfl rfl rfl rfl rfl rfl rfl rfl (fun _ => rfl) (fun p53 C53 hle53 hs53 => ?_)
              refine D.fork hH rfl ⟨?_, ?_, trivial⟩
              · skip
                refine D.appendF (j := 2) rfl rfl rfl rfl rfl rfl rfl rfl rfl rfl rfl (hs48.mono (by (repeat (first | exact Mem.le.refl _ | assumption | (apply Mem.le.trans; rotate_left; assumption))))) rfl (by simp only [List.length_singleton, maxLen]; omega) (by show (i + 1) * 24 ≤ _; omega) (fun _ => rfl) (fun A49 n49 c49 => ?_)
                refine D.loadL (.tail _ (.tail _ (.tail _ (.tail _ (.head _))))) rfl rfl rfl rfl rfl rfl rfl rfl rfl ?_
                refine D.pure rfl rfl rfl rfl rfl rfl ?_
                refine D.appendF (j := 3) rfl rfl rfl rfl rfl rfl rfl rfl rfl rfl rfl (hs53.mono (by (repeat (first | exact Mem.le.refl _ | assumption | (apply Mem.le.trans; rotate_left; assumption))))) rfl (by simp only [List.length_singleton, maxLen]; omega) (by show (i + 1) * 56 ≤ _; omega) (fun _ => rfl) (fun A54 n54 c54 => ?_)
                refine D.store (j := 4) rfl rfl rfl rfl rfl rfl rfl rfl rfl rfl rfl rfl ?_
                refine D.pure rfl rfl rfl rfl rfl rfl ?_
                refine D.store (j := 0) rfl rfl rfl rfl rfl rfl rfl rfl rfl rfl rfl rfl ?_
                refine D.done [(0, [], _), (1, [], _), (5, [], _), (6, [], _), (14, [], _), (15, [], _), (16, [], _)] ⟨rfl, rfl, rfl, rfl, rfl, rfl, rfl, trivial⟩ (hR _ _ _ rfl ?_); clear hR hB hH R
                refine G.perm (L' := [.arr (sA A49 n49 c49) 71 1 (i + 1) ((xs.map SV.enc).flatten ++ [[.slice A10 n10 c10]].flatten), .arr (sB A54 n54 c54) 57 3 (i + 1) ((ys.map FV.enc).flatten ++ [x.enc].flatten), .obj b6 (.cells ⟨(YV.mk A49 n49 c49 A54 n54 c54 none 0 0).enc⟩ 76 (0, 0)), .obj b5 (.cells ⟨[.slice Ad nd cd]⟩ 47 (0, 0)), .obj b12 (.cells ⟨x.enc⟩ 57 (0, 0)), .obj b9 (.cells ⟨r.enc⟩ 44 (0, 0))]) (by (refine (ent_perm (j := 2) rfl).trans (List.Perm.cons _ ?_); refine (ent_perm (j := 1) rfl).trans (List.Perm.cons _ ?_); refine (ent_perm (j := 0) rfl).trans (List.Perm.cons _ ?_); refine (ent_perm (j := 2) rfl).trans (List.Perm.cons _ ?_); refine (ent_perm (j := 0) rfl).trans (List.Perm.cons _ ?_); refine (ent_perm (j := 0) rfl).trans (List.Perm.cons _ ?_); exact List.Perm.refl _)) ?_
                refine G.dropE 4 rfl ?_
                refine G.dropE 4 rfl ?_
                refine G.eqL (L' := [.arr (sA A49 n49 c49) 71 1 (i + 1) ((xs ++ [SV.mk A10 n10 c10]).map SV.enc).flatten, .arr (sB A54 n54 c54) 57 3 (i + 1) ((ys ++ [x]).map FV.enc).flatten, .obj b6 (.cells ⟨(YV.mk A49 n49 c49 A54 n54 c54 none 0 0).enc⟩ 76 (0, 0)), .obj b5 (.cells ⟨[.slice Ad nd cd]⟩ 47 (0, 0))]) (by simp [SV.enc]) ?_
                exact G.meet 0 (by (repeat (first | exact Mem.le.refl _ | assumption | (apply Mem.le.trans; rotate_left; assumption)))) (fr' := [(0, [], _), (1, [], _), (5, [], _), (6, [], _), (14, [], _), (15, [], _), (16, [], _)]) ⟨rfl, rfl, rfl, rfl, rfl, rfl, rfl, trivial⟩ ⟨A49, n49, c49, A54, n54, c54, trivial, rfl, rfl⟩
              · skip
                refine D.loadL (.tail _ (.tail _ (.tail _ (.tail _ (.head _))))) rfl rfl rfl rfl rfl rfl rfl rfl rfl ?_
                refine D.appendF (j := 2) rfl rfl rfl rfl rfl rfl rfl rfl rfl rfl rfl (hs48.mono (by (repeat (first | exact Mem.le.refl _ | assumption | (apply Mem.le.trans; rotate_left; assumption))))) rfl (by simp only [List.length_singleton, maxLen]; omega) (by show (i + 1) * 24 ≤ _; omega) (fun _ => rfl) (fun A49 n49 c49 => ?_)
                refine D.pure rfl rfl rfl rfl rfl rfl ?_
                refine D.appendF (j := 3) rfl rfl rfl rfl rfl rfl rfl rfl rfl rfl rfl (hs53.mono (by (repeat (first | exact Mem.le.refl _ | assumption | (apply Mem.le.trans; rotate_left; assumption))))) rfl (by simp only [List.length_singleton, maxLen]; omega) (by show (i + 1) * 56 ≤ _; omega) (fun _ => rfl) (fun A54 n54 c54 => ?_)
                refine D.store (j := 4) rfl rfl rfl rfl rfl rfl rfl rfl rfl rfl rfl rfl ?_
                refine D.pure rfl rfl rfl rfl rfl rfl ?_
                refine D.store (j := 0) rfl rfl rfl rfl rfl rfl rfl rfl rfl rfl rfl rfl ?_
                refine D.done [(0, [], _), (1, [], _), (5, [], _), (6, [], _), (14, [], _), (15, [], _), (16, [], _)] ⟨rfl, rfl, rfl, rfl, rfl, rfl, rfl, trivial⟩ (hR _ _ _ rfl ?_); clear hR hB hH R
                refine G.perm (L' := [.arr (sA A49 n49 c49) 71 1 (i + 1) ((xs.map SV.enc).flatten ++ [[.slice A10 n10 c10]].flatten), .arr (sB A54 n54 c54) 57 3 (i + 1) ((ys.map FV.enc).flatten ++ [x.enc].flatten), .obj b6 (.cells ⟨(YV.mk A49 n49 c49 A54 n54 c54 none 0 0).enc⟩ 76 (0, 0)), .obj b5 (.cells ⟨[.slice Ad nd cd]⟩ 47 (0, 0)), .obj b12 (.cells ⟨x.enc⟩ 57 (0, 0)), .obj b9 (.cells ⟨r.enc⟩ 44 (0, 0))]) (by (refine (ent_perm (j := 2) rfl).trans (List.Perm.cons _ ?_); refine (ent_perm (j := 1) rfl).trans (List.Perm.cons _ ?_); refine (ent_perm (j := 0) rfl).trans (List.Perm.cons _ ?_); refine (ent_perm (j := 2) rfl).trans (List.Perm.cons _ ?_); refine (ent_perm (j := 0) rfl).trans (List.Perm.cons _ ?_); refine (ent_perm (j := 0) rfl).trans (List.Perm.cons _ ?_); exact List.Perm.refl _)) ?_
                refine G.dropE 4 rfl ?_
                refine G.dropE 4 rfl ?_
                refine G.eqL (L' := [.arr (sA A49 n49 c49) 71 1 (i + 1) ((xs ++ [SV.mk A10 n10 c10]).map SV.enc).flatten, .arr (sB A54 n54 c54) 57 3 (i + 1) ((ys ++ [x]).map FV.enc).flatten, .obj b6 (.cells ⟨(YV.mk A49 n49 c49 A54 n54 c54 none 0 0).enc⟩ 76 (0, 0)), .obj b5 (.cells ⟨[.slice Ad nd cd]⟩ 47 (0, 0))]) (by simp [SV.enc]) ?_
                exact G.meet 0 (by (repeat (first | exact Mem.le.refl _ | assumption | (apply Mem.le.trans; rotate_left; assumption)))) (fr' := [(0, [], _), (1, [], _), (5, [], _), (6, [], _), (14, [], _), (15, [], _), (16, [], _)]) ⟨rfl, rfl, rfl, rfl, rfl, rfl, rfl, trivial⟩ ⟨A49, n49, c49, A54, n54, c54, trivial, rfl, rfl⟩
          · skip
            refine D.loadL (.tail _ (.tail _ (.tail _ (.tail _ (.head _))))) rfl rfl rfl rfl rfl rfl rfl rfl rfl ?_
            refine D.fork hH rfl ⟨?_, ?_, trivial⟩
            · skip
              refine D.buildSlice [[.slice A10 n10 c10]] rfl rfl rfl rfl rfl rfl rfl rfl rfl rfl rfl rfl (fun _ => rfl) (fun p48 C48 hle48 hs48 => ?_)
              refine D.fork hH rfl ⟨?_, ?_, trivial⟩
              · skip
                refine D.appendF (j := 2) rfl rfl rfl rfl rfl rfl rfl rfl rfl rfl rfl (hs48.mono (by (repeat (first | exact Mem.le.refl _ | assumption | (apply Mem.le.trans; rotate_left; assumption))))) rfl (by simp only [List.length_singleton, maxLen]; omega) (by show (i + 1) * 24 ≤ _; omega) (fun _ => rfl) (fun A49 n49 c49 => ?_)
                refine D.pure rfl rfl rfl rfl rfl rfl ?_
                refine D.buildSlice [x.enc] rfl rfl rfl rfl rfl rfl rfl rfl rfl rfl rfl rfl (fun _ => rfl) (fun p53 C53 hle53 hs53 => ?_)
                refine D.appendF (j := 3) rfl rfl rfl rfl rfl rfl rfl rfl rfl rfl rfl (hs53.mono (by (repeat (first | exact Mem.le.refl _ | assumption | (apply Mem.le.trans; rotate_left; assumption))))) rfl (by simp only [List.length_singleton, maxLen]; omega) (by show (i + 1) * 56 ≤ _; omega) (fun _ => rfl) (fun A54 n54 c54 => ?_)
                refine D.store (j := 4) rfl rfl rfl rfl rfl rfl rfl rfl rfl rfl rfl rfl ?_
                refine D.pure rfl rfl rfl rfl rfl rfl ?_
                refine D.store (j := 0) rfl rfl rfl rfl rfl rfl rfl rfl rfl rfl rfl rfl ?_
                refine D.done [(0, [], _), (1, [], _), (5, [], _), (6, [], _), (14, [], _), (15, [], _), (16, [], _)] ⟨rfl, rfl, rfl, rfl, rfl, rfl, rfl, trivial⟩ (hR _ _ _ rfl ?_); clear hR hB hH R
                refine G.perm (L' := [.arr (sA A49 n49 c49) 71 1 (i + 1) ((xs.map SV.enc).flatten ++ [[.slice A10 n10 c10]].flatten), .arr (sB A54 n54 c54) 57 3 (i + 1) ((ys.map FV.enc).flatten ++ [x.enc].flatten), .obj b6 (.cells ⟨(YV.mk A49 n49 c49 A54 n54 c54 none 0 0).enc⟩ 76 (0, 0)), .obj b5 (.cells ⟨[.slice Ad nd cd]⟩ 47 (0, 0)), .obj b12 (.cells ⟨x.enc⟩ 57 (0, 0)), .obj b9 (.cells ⟨r.enc⟩ 44 (0, 0))]) (by (refine (ent_perm (j := 2) rfl).trans (List.Perm.cons _ ?_); refine (ent_perm (j := 1) rfl).trans (List.Perm.cons _ ?_); refine (ent_perm (j := 0) rfl).trans (List.Perm.cons _ ?_); refine (ent_perm (j := 2) rfl).trans (List.Perm.cons _ ?_); refine (ent_perm (j := 0) rfl).trans (List.Perm.cons _ ?_); refine (ent_perm (j := 0) rfl).trans (List.Perm.cons _ ?_); exact List.Perm.refl _)) ?_
                refine G.dropE 4 rfl ?_
                refine G.dropE 4 rfl ?_
                refine G.eqL (L' := [.arr (sA A49 n49 c49) 71 1 (i + 1) ((xs ++ [SV.mk A10 n10 c10]).map SV.enc).flatten, .arr (sB A54 n54 c54) 57 3 (i + 1) ((ys ++ [x]).map FV.enc).flatten, .obj b6 (.cells ⟨(YV.mk A49 n49 c49 A54 n54 c54 none 0 0).enc⟩ 76 (0, 0)), .obj b5 (.cells ⟨[.slice Ad nd cd]⟩ 47 (0, 0))]) (by simp [SV.enc]) ?_
                exact G.meet 0 (by (repeat (first | exact Mem.le.refl _ | assumption | (apply Mem.le.trans; rotate_left; assumption)))) (fr' := [(0, [], _), (1, [], _), (5, [], _), (6, [], _), (14, [], _), (15, [], _), (16, [], _)]) ⟨rfl, rfl, rfl, rfl, rfl, rfl, rfl, trivial⟩ ⟨A49, n49, c49, A54, n54, c54, trivial, rfl, rfl⟩
              · skip
                refine D.buildSlice [x.enc] rfl rfl rfl rfl rfl rfl rfl rfl rfl rfl rfl rfl (fun _ => rfl) (fun p53 C53 hle53 hs53 => ?_)
                refine D.appendF (j := 2) rfl rfl rfl rfl rfl rfl rfl rfl rfl rfl rfl (hs48.mono (by (repeat (first | exact Mem.le.refl _ | assumption | (apply Mem.le.trans; rotate_left; assumption))))) rfl (by simp only [List.length_singleton, maxLen]; omega) (by show (i + 1) * 24 ≤ _; omega) (fun _ => rfl) (fun A49 n49 c49 => ?_)
                refine D.pure rfl rfl rfl rfl rfl rfl ?_
                refine D.appendF (j := 3) rfl rfl rfl rfl rfl rfl rfl rfl rfl rfl rfl (hs53.mono (by (repeat (first | exact Mem.le.refl _ | assumption | (apply Mem.le.trans; rotate_left; assumption))))) rfl (by simp only [List.length_singleton, maxLen]; omega) (by show (i + 1) * 56 ≤ _; omega) (fun _ => rfl) (fun A54 n54 c54 => ?_)
                refine D.store (j := 4) rfl rfl rfl rfl rfl rfl rfl rfl rfl rfl rfl rfl ?_
                refine D.pure rfl rfl rfl rfl rfl rfl ?_
                refine D.store (j := 0) rfl rfl rfl rfl rfl rfl rfl rfl rfl rfl rfl rfl ?_
                refine D.done [(0, [], _), (1, [], _), (5, [], _), (6, [], _), (14, [], _), (15, [], _), (16, [], _)] ⟨rfl, rfl, rfl, rfl, rfl, rfl, rfl, trivial⟩ (hR _ _ _ rfl ?_); clear hR hB hH R
                refine G.perm (L' := [.arr (sA A49 n49 c49) 71 1 (i + 1) ((xs.map SV.enc).flatten ++ [[.slice A10 n10 c10]].flatten), .arr (sB A54 n54 c54) 57 3 (i + 1) ((ys.map FV.enc).flatten ++ [x.enc].flatten), .obj b6 (.cells ⟨(YV.mk A49 n49 c49 A54 n54 c54 none 0 0).enc⟩ 76 (0, 0)), .obj b5 (.cells ⟨[.slice Ad nd cd]⟩ 47 (0, 0)), .obj b12 (.cells ⟨x.enc⟩ 57 (0, 0)), .obj b9 (.cells ⟨r.enc⟩ 44 (0, 0))]) (by (refine (ent_perm (j := 2) rfl).trans (List.Perm.cons _ ?_); refine (ent_perm (j := 1) rfl).trans (List.Perm.cons _ ?_); refine (ent_perm (j := 0) rfl).trans (List.Perm.cons _ ?_); refine (ent_perm (j := 2) rfl).trans (List.Perm.cons _ ?_); refine (ent_perm (j := 0) rfl).trans (List.Perm.cons _ ?_); refine (ent_perm (j := 0) rfl).trans (List.Perm.cons _ ?_); exact List.Perm.refl _)) ?_
                refine G.dropE 4 rfl ?_
                refine G.dropE 4 rfl ?_
                refine G.eqL (L' := [.arr (sA A49 n49 c49) 71 1 (i + 1) ((xs ++ [SV.mk A10 n10 c10]).map SV.enc).flatten, .arr (sB A54 n54 c54) 57 3 (i + 1) ((ys ++ [x]).map FV.enc).flatten, .obj b6 (.cells ⟨(YV.mk A49 n49 c49 A54 n54 c54 none 0 0).enc⟩ 76 (0, 0)), .obj b5 (.cells ⟨[.slice Ad nd cd]⟩ 47 (0, 0))]) (by simp [SV.enc]) ?_
                exact G.meet 0 (by (repeat (first | exact Mem.le.refl _ | assumption | (apply Mem.le.trans; rotate_left; assumption)))) (fr' := [(0, [], _), (1, [], _), (5, [], _), (6, [], _), (14, [], _), (15, [], _), (16, [], _)]) ⟨rfl, rfl, rfl, rfl, rfl, rfl, rfl, trivial⟩ ⟨A49, n49, c49, A54, n54, c54, trivial, rfl, rfl⟩
            · skip
              refine D.buildSlice [x.enc] rfl rfl rfl rfl rfl rfl rfl rfl rfl rfl rfl rfl (fun _ => rfl) (fun p53 C53 hle53 hs53 => ?_)
              refine D.buildSlice [[.slice A10 n10 c10]] rfl rfl rfl rfl rfl rfl rfl rfl rfl rfl rfl rfl (fun _ => rfl) (fun p48 C48 hle48 hs48 => ?_)
              refine D.appendF (j := 2) rfl rfl rfl rfl rfl rfl rfl rfl rfl rfl rfl (hs48.mono (by (repeat (first | exact Mem.le.refl _ | assumption | (apply Mem.le.trans; rotate_left; assumption))))) rfl (by simp only [List.length_singleton, maxLen]; omega) (by show (i + 1) * 24 ≤ _; omega) (fun _ => rfl) (fun A49 n49 c49 => ?_)
              refine D.pure rfl rfl rfl rfl rfl rfl ?_
              refine D.appendF (j := 3) rfl rfl rfl rfl rfl rfl rfl rfl rfl rfl rfl (hs53.mono (by (repeat (first | exact Mem.le.refl _ | assumption | (apply Mem.le.trans; rotate_left; assumption))))) rfl (by simp only [List.length_singleton, maxLen]; omega) (by show (i + 1) * 56 ≤ _; omega) (fun _ => rfl) (fun A54 n54 c54 => ?_)
              refine D.store (j := 4) rfl rfl rfl rfl rfl rfl rfl rfl rfl rfl rfl rfl ?_
              refine D.pure rfl rfl rfl rfl rfl rfl ?_
              refine D.store (j := 0) rfl rfl rfl rfl rfl rfl rfl rfl rfl rfl rfl rfl ?_
              refine D.done [(0, [], _), (1, [], _), (5, [], _), (6, [], _), (14, [], _), (15, [], _), (16, [], _)] ⟨rfl, rfl, rfl, rfl, rfl, rfl, rfl, trivial⟩ (hR _ _ _ rfl ?_); clear hR hB hH R
              refine G.perm (L' := [.arr (sA A49 n49 c49) 71 1 (i + 1) ((xs.map SV.enc).flatten ++ [[.slice A10 n10 c10]].flatten), .arr (sB A54 n54 c54) 57 3 (i + 1) ((ys.map FV.enc).flatten ++ [x.enc].flatten), .obj b6 (.cells ⟨(YV.mk A49 n49 c49 A54 n54 c54 none 0 0).enc⟩ 76 (0, 0)), .obj b5 (.cells ⟨[.slice Ad nd cd]⟩ 47 (0, 0)), .obj b12 (.cells ⟨x.enc⟩ 57 (0, 0)), .obj b9 (.cells ⟨r.enc⟩ 44 (0, 0))]) (by (refine (ent_perm (j := 2) rfl).trans (List.Perm.cons _ ?_); refine (ent_perm (j := 1) rfl).trans (List.Perm.cons _ ?_); refine (ent_perm (j := 0) rfl).trans (List.Perm.cons _ ?_); refine (ent_perm (j := 2) rfl).trans (List.Perm.cons _ ?_); refine (ent_perm (j := 0) rfl).trans (List.Perm.cons _ ?_); refine (ent_perm (j := 0) rfl).trans (List.Perm.cons _ ?_); exact List.Perm.refl _)) ?_
              refine G.dropE 4 rfl ?_
              refine G.dropE 4 rfl ?_
              refine G.eqL (L' := [.arr (sA A49 n49 c49) 71 1 (i + 1) ((xs ++ [SV.mk A10 n10 c10]).map SV.enc).flatten, .arr (sB A54 n54 c54) 57 3 (i + 1) ((ys ++ [x]).map FV.enc).flatten, .obj b6 (.cells ⟨(YV.mk A49 n49 c49 A54 n54 c54 none 0 0).enc⟩ 76 (0, 0)), .obj b5 (.cells ⟨[.slice Ad nd cd]⟩ 47 (0, 0))]) (by simp [SV.enc]) ?_
              exact G.meet 0 (by (repeat (first | exact Mem.le.refl _ | assumption | (apply Mem.le.trans; rotate_left; assumption)))) (fr' := [(0, [], _), (1, [], _), (5, [], _), (6, [], _), (14, [], _), (15, [], _), (16, [], _)]) ⟨rfl, rfl, rfl, rfl, rfl, rfl, rfl, trivial⟩ ⟨A49, n49, c49, A54, n54, c54, trivial, rfl, rfl⟩
          · skip
            refine D.buildSlice [x.enc] rfl rfl rfl rfl rfl rfl rfl rfl rfl rfl rfl rfl (fun _ => rfl) (fun p53 C53 hle53 hs53 => ?_)
            refine D.fork hH rfl ⟨?_, ?_, trivial⟩
            · skip
              refine D.buildSlice [[.slice A10 n10 c10]] rfl rfl rfl rfl rfl rfl rfl rfl rfl rfl rfl rfl (fun _ => rfl) (fun p48 C48 hle48 hs48 => ?_)
              refine D.fork hH rfl ⟨?_, ?_, trivial⟩
              · skip
                refine D.appendF (j := 2) rfl rfl rfl rfl rfl rfl rfl rfl rfl rfl rfl (hs48.mono (by (repeat (first | exact Mem.le.refl _ | assumption | (apply Mem.le.trans; rotate_left; assumption))))) rfl (by simp only [List.length_singleton, maxLen]; omega) (by show (i + 1) * 24 ≤ _; omega) (fun _ => rfl) (fun A49 n49 c49 => ?_)
                refine D.loadL (.tail _ (.tail _ (.tail _ (.tail _ (.head _))))) rfl rfl rfl rfl rfl rfl rfl rfl rfl ?_
                refine D.pure rfl rfl rfl rfl rfl rfl ?_
                refine D.appendF (j := 3) rfl rfl rfl rfl rfl rfl rfl rfl rfl rfl rfl (hs53.mono (by (repeat (first | exact Mem.le.refl _ | assumption | (apply Mem.le.trans; rotate_left; assumption))))) rfl (by simp only [List.length_singleton, maxLen]; omega) (by show (i + 1) * 56 ≤ _; omega) (fun _ => rfl) (fun A54 n54 c54 => ?_)
                refine D.store (j := 4) rfl rfl rfl rfl rfl rfl rfl rfl rfl rfl rfl rfl ?_
                refine D.pure rfl rfl rfl rfl rfl rfl ?_
                refine D.store (j := 0) rfl rfl rfl rfl rfl rfl rfl rfl rfl rfl rfl rfl ?_
                refine D.done [(0, [], _), (1, [], _), (5, [], _), (6, [], _), (14, [], _), (15, [], _), (16, [], _)] ⟨rfl, rfl, rfl, rfl, rfl, rfl, rfl, trivial⟩ (hR _ _ _ rfl ?_); clear hR hB hH R
                refine G.perm (L' := [.arr (sA A49 n49 c49) 71 1 (i + 1) ((xs.map SV.enc).flatten ++ [[.slice A10 n10 c10]].flatten), .arr (sB A54 n54 c54) 57 3 (i + 1) ((ys.map FV.enc).flatten ++ [x.enc].flatten), .obj b6 (.cells ⟨(YV.mk A49 n49 c49 A54 n54 c54 none 0 0).enc⟩ 76 (0, 0)), .obj b5 (.cells ⟨[.slice Ad nd cd]⟩ 47 (0, 0)), .obj b12 (.cells ⟨x.enc⟩ 57 (0, 0)), .obj b9 (.cells ⟨r.enc⟩ 44 (0, 0))]) (by (refine (ent_perm (j := 2) rfl).trans (List.Perm.cons _ ?_); refine (ent_perm (j := 1) rfl).trans (List.Perm.cons _ ?_); refine (ent_perm (j := 0) rfl).trans (List.Perm.cons _ ?_); refine (ent_perm (j := 2) rfl).trans (List.Perm.cons _ ?_); refine (ent_perm (j := 0) rfl).trans (List.Perm.cons _ ?_); refine (ent_perm (j := 0) rfl).trans (List.Perm.cons _ ?_); exact List.Perm.refl _)) ?_
                refine G.dropE 4 rfl ?_
                refine G.dropE 4 rfl ?_
                refine G.eqL (L' := [.arr (sA A49 n49 c49) 71 1 (i + 1) ((xs ++ [SV.mk A10 n10 c10]).map SV.enc).flatten, .arr (sB A54 n54 c54) 57 3 (i + 1) ((ys ++ [x]).map FV.enc).flatten, .obj b6 (.cells ⟨(YV.mk A49 n49 c49 A54 n54 c54 none 0 0).enc⟩ 76 (0, 0)), .obj b5 (.cells ⟨[.slice Ad nd cd]⟩ 47 (0, 0))]) (by simp [SV.enc]) ?_
                exact G.meet 0 (by (repeat (first | exact Mem.le.refl _ | assumption | (apply Mem.le.trans; rotate_left; assumption)))) (fr' := [(0, [], _), (1, [], _), (5, [], _), (6, [], _), (14, [], _), (15, [], _), (16, [], _)]) ⟨rfl, rfl, rfl, rfl, rfl, rfl, rfl, trivial⟩ ⟨A49, n49, c49, A54, n54, c54, trivial, rfl, rfl⟩
              · skip
                refine D.loadL (.tail _ (.tail _ (.tail _ (.tail _ (.head _))))) rfl rfl rfl rfl rfl rfl rfl rfl rfl ?_
                refine D.appendF (j := 2) rfl rfl rfl rfl rfl rfl rfl rfl rfl rfl rfl (hs48.mono (by (repeat (first | exact Mem.le.refl _ | assumption | (apply Mem.le.trans; rotate_left; assumption))))) rfl (by simp only [List.length_singleton, maxLen]; omega) (by show (i + 1) * 24 ≤ _; omega) (fun _ => rfl) (fun A49 n49 c49 => ?_)
                refine D.pure rfl rfl rfl rfl rfl rfl ?_
                refine D.appendF (j := 3) rfl rfl rfl rfl rfl rfl rfl rfl rfl rfl rfl (hs53.mono (by (repeat (first | exact Mem.le.refl _ | assumption | (apply Mem.le.trans; rotate_left; assumption))))) rfl (by simp only [List.length_singleton, maxLen]; omega) (by show (i + 1) * 56 ≤ _; omega) (fun _ => rfl) (fun A54 n54 c54 => ?_)
                refine D.store (j := 4) rfl rfl rfl rfl rfl rfl rfl rfl rfl rfl rfl rfl ?_
                refine D.pure rfl rfl rfl rfl rfl rfl ?_
                refine D.store (j := 0) rfl rfl rfl rfl rfl rfl rfl rfl rfl rfl rfl rfl ?_
                refine D.done [(0, [], _), (1, [], _), (5, [], _), (6, [], _), (14, [], _), (15, [], _), (16, [], _)] ⟨rfl, rfl, rfl, rfl, rfl, rfl, rfl, trivial⟩ (hR _ _ _ rfl ?_); clear hR hB hH R
                refine G.perm (L' := [.arr (sA A49 n49 c49) 71 1 (i + 1) ((xs.map SV.enc).flatten ++ [[.slice A10 n10 c10]].flatten), .arr (sB A54 n54 c54) 57 3 (i + 1) ((ys.map FV.enc).flatten ++ [x.enc].flatten), .obj b6 (.cells ⟨(YV.mk A49 n49 c49 A54 n54 c54 none 0 0).enc⟩ 76 (0, 0)), .obj b5 (.cells ⟨[.slice Ad nd cd]⟩ 47 (0, 0)), .obj b12 (.cells ⟨x.enc⟩ 57 (0, 0)), .obj b9 (.cells ⟨r.enc⟩ 44 (0, 0))]) (by (refine (ent_perm (j := 2) rfl).trans (List.Perm.cons _ ?_); refine (ent_perm (j := 1) rfl).trans (List.Perm.cons _ ?_); refine (ent_perm (j := 0) rfl).trans (List.Perm.cons _ ?_); refine (ent_perm (j := 2) rfl).trans (List.Perm.cons _ ?_); refine (ent_perm (j := 0) rfl).trans (List.Perm.cons _ ?_); refine (ent_perm (j := 0) rfl).trans (List.Perm.cons _ ?_); exact List.Perm.refl _)) ?_
                refine G.dropE 4 rfl ?_
                refine G.dropE 4 rfl ?_
                refine G.eqL (L' := [.arr (sA A49 n49 c49) 71 1 (i + 1) ((xs ++ [SV.mk A10 n10 c10]).map SV.enc).flatten, .arr (sB A54 n54 c54) 57 3 (i + 1) ((ys ++ [x]).map FV.enc).flatten, .obj b6 (.cells ⟨(YV.mk A49 n49 c49 A54 n54 c54 none 0 0).enc⟩ 76 (0, 0)), .obj b5 (.cells ⟨[.slice Ad nd cd]⟩ 47 (0, 0))]) (by simp [SV.enc]) ?_
                exact G.meet 0 (by (repeat (first | exact Mem.le.refl _ | assumption | (apply Mem.le.trans; rotate_left; assumption)))) (fr' := [(0, [], _), (1, [], _), (5, [], _), (6, [], _), (14, [], _), (15, [], _), (16, [], _)]) ⟨rfl, rfl, rfl, rfl, rfl, rfl, rfl, trivial⟩ ⟨A49, n49, c49, A54, n54, c54, trivial, rfl, rfl⟩
            · skip
              refine D.loadL (.tail _ (.tail _ (.tail _ (.tail _ (.head _))))) rfl rfl rfl rfl rfl rfl rfl rfl rfl ?_
              refine D.buildSlice [[.slice A10 n10 c10]] rfl rfl rfl rfl rfl rfl rfl rfl rfl rfl rfl rfl (fun _ => rfl) (fun p48 C48 hle48 hs48 => ?_)
              refine D.appendF (j := 2) rfl rfl rfl rfl rfl rfl rfl rfl rfl rfl rfl (hs48.mono (by (repeat (first | exact Mem.le.refl _ | assumption | (apply Mem.le.trans; rotate_left; assumption))))) rfl (by simp only [List.length_singleton, maxLen]; omega) (by show (i + 1) * 24 ≤ _; omega) (fun _ => rfl) (fun A49 n49 c49 => ?_)
              refine D.pure rfl rfl rfl rfl rfl rfl ?_
              refine D.appendF (j := 3) rfl rfl rfl rfl rfl rfl rfl rfl rfl rfl rfl (hs53.mono (by (repeat (first | exact Mem.le.refl _ | assumption | (apply Mem.le.trans; rotate_left; assumption))))) rfl (by simp only [List.length_singleton, maxLen]; omega) (by show (i + 1) * 56 ≤ _; omega) (fun _ => rfl) (fun A54 n54 c54 => ?_)
              refine D.store (j := 4) rfl rfl rfl rfl rfl rfl rfl rfl rfl rfl rfl rfl ?_
              refine D.pure rfl rfl rfl rfl rfl rfl ?_
              refine D.store (j := 0) rfl rfl rfl rfl rfl rfl rfl rfl rfl rfl rfl rfl ?_
              refine D.done [(0, [], _), (1, [], _), (5, [], _), (6, [], _), (14, [], _), (15, [], _), (16, [], _)] ⟨rfl, rfl, rfl, rfl, rfl, rfl, rfl, trivial⟩ (hR _ _ _ rfl ?_); clear hR hB hH R
              refine G.perm (L' := [.arr (sA A49 n49 c49) 71 1 (i + 1) ((xs.map SV.enc).flatten ++ [[.slice A10 n10 c10]].flatten), .arr (sB A54 n54 c54) 57 3 (i + 1) ((ys.map FV.enc).flatten ++ [x.enc].flatten), .obj b6 (.cells ⟨(YV.mk A49 n49 c49 A54 n54 c54 none 0 0).enc⟩ 76 (0, 0)), .obj b5 (.cells ⟨[.slice Ad nd cd]⟩ 47 (0, 0)), .obj b12 (.cells ⟨x.enc⟩ 57 (0, 0)), .obj b9 (.cells ⟨r.enc⟩ 44 (0, 0))]) (by (refine (ent_perm (j := 2) rfl).trans (List.Perm.cons _ ?_); refine (ent_perm (j := 1) rfl).trans (List.Perm.cons _ ?_); refine (ent_perm (j := 0) rfl).trans (List.Perm.cons _ ?_); refine (ent_perm (j := 2) rfl).trans (List.Perm.cons _ ?_); refine (ent_perm (j := 0) rfl).trans (List.Perm.cons _ ?_); refine (ent_perm (j := 0) rfl).trans (List.Perm.cons _ ?_); exact List.Perm.refl _)) ?_
              refine G.dropE 4 rfl ?_
              refine G.dropE 4 rfl ?_
              refine G.eqL (L' := [.arr (sA A49 n49 c49) 71 1 (i + 1) ((xs ++ [SV.mk A10 n10 c10]).map SV.enc).flatten, .arr (sB A54 n54 c54) 57 3 (i + 1) ((ys ++ [x]).map FV.enc).flatten, .obj b6 (.cells ⟨(YV.mk A49 n49 c49 A54 n54 c54 none 0 0).enc⟩ 76 (0, 0)), .obj b5 (.cells ⟨[.slice Ad nd cd]⟩ 47 (0, 0))]) (by simp [SV.enc]) ?_
              exact G.meet 0 (by (repeat (first | exact Mem.le.refl _ | assumption | (apply Mem.le.trans; rotate_left; assumption)))) (fr' := [(0, [], _), (1, [], _), (5, [], _), (6, [], _), (14, [], _), (15, [], _), (16, [], _)]) ⟨rfl, rfl, rfl, rfl, rfl, rfl, rfl, trivial⟩ ⟨A49, n49, c49, A54, n54, c54, trivial, rfl, rfl⟩
      obtain ⟨A7, n7, c7, A8, n8, c8, _, rfl, rfl⟩ := hI
      refine G.region rfl (fun R hR => ?_)
      refine D.i64 _ rfl rfl rfl rfl rfl (by omega) (by omega) rfl rfl ?_
      refine D.pure rfl rfl rfl rfl rfl rfl ?_
      refine D.done [(0, [], _), (1, [], _), (5, [], _), (6, [], _), (14, [], _), (15, [], _), (16, [], _)] ⟨rfl, rfl, rfl, rfl, rfl, rfl, rfl, trivial⟩ (hR _ _ _ rfl ?_); clear hR R
      refine G.again (m' := rows.length - (i + 1)) (by omega) (by (repeat (first | exact Mem.le.refl _ | assumption | (apply Mem.le.trans; rotate_left; assumption)))) (fr' := [(0, [], _), (1, [], _), (5, [], _), (6, [], _), (14, [], _), (15, [], _), (16, [], _)]) ⟨rfl, rfl, rfl, rfl, rfl, rfl, rfl, trivial⟩ ⟨i + 1, ps ++ [(f, b)], xs ++ [SV.mk A10 n10 c10], ys ++ [x], _, _, _, _, _, _, ⟨by omega, by rw [htk, rowsM_snoc, hps, hrm], by rw [List.map_append]; exact (hxs.mono (by (repeat (first | exact Mem.le.refl _ | assumption | (apply Mem.le.trans; rotate_left; assumption))))).snoc ((hf10 f h1).mono (by (repeat (first | exact Mem.le.refl _ | assumption | (apply Mem.le.trans; rotate_left; assumption))))), by rw [List.map_append]; exact (hys.mono (by (repeat (first | exact Mem.le.refl _ | assumption | (apply Mem.le.trans; rotate_left; assumption))))).snoc (FrC.mono hvf (by (repeat (first | exact Mem.le.refl _ | assumption | (apply Mem.le.trans; rotate_left; assumption))))), by simp [hxl], by simp [hyl]⟩, rfl, rfl, rfl⟩
  · skip
    have hil : i = rows.length := by
      have : ¬ i < rs.length := by simpa using h17
      omega
    rw [hil, List.take_length] at hps
    refine G.region rfl (fun R hR => ?_)
    refine D.pure rfl rfl rfl rfl rfl rfl ?_
    refine D.loadL (.tail _ (.tail _ (.tail _ (.head _)))) rfl rfl rfl rfl rfl rfl rfl rfl rfl ?_
    refine D.callP (readAll_fn _ _ d (hd.mono (by (repeat (first | exact Mem.le.refl _ | assumption | (apply Mem.le.trans; rotate_left; assumption))))) hdl hds) rfl rfl rfl rfl rfl rfl rfl (fun _ => rfl) (fun v61 C61 hle61 hq61 => ?_)
    obtain ⟨A3, n3, c3, rfl, hm⟩ := hq61
    iterate 4 refine D.pure rfl rfl rfl rfl rfl rfl ?_
    refine D.store (j := 2) rfl rfl rfl rfl rfl rfl rfl rfl rfl rfl rfl rfl ?_
    refine D.pure rfl rfl rfl rfl rfl rfl ?_
    refine D.done [(0, [], _), (6, [], _), (7, [], _)] ⟨rfl, rfl, rfl, trivial⟩ (hR _ _ _ rfl ?_); clear hR R
    have hcf : ∀ D, C61.le D → (readsM d).isSome = true → Gives cx.P 56 [.slice A3 n3 c3, .func (.func 57) #[] #[]] D (.bool (negD d)) := fun D hle hs => by
      obtain ⟨ms, hms⟩ := Option.isSome_iff_exists.1 hs
      have := contNeg ((hm ms hms).mono hle)
      unfold negD
      rw [hms]
      exact this
    refine G.region rfl (fun R hR => ?_)
    iterate 4 refine D.pure rfl rfl rfl rfl rfl rfl ?_
    refine D.loadL (.head _) rfl rfl rfl rfl rfl rfl rfl rfl rfl ?_
    iterate 4 refine D.pure rfl rfl rfl rfl rfl rfl ?_
    refine D.pickOr rfl rfl rfl rfl rfl rfl rfl rfl ?_
    iterate 2 refine D.pure rfl rfl rfl rfl rfl rfl ?_
    refine D.loadL (.head _) rfl rfl rfl rfl rfl rfl rfl rfl rfl ?_
    refine D.gives (fun hg => (by exact hcf _ (by (repeat (first | exact Mem.le.refl _ | assumption | (apply Mem.le.trans; rotate_left; assumption)))) (or_no hg.1))) rfl rfl rfl rfl rfl rfl rfl rfl rfl ?_
    refine D.pickOr rfl rfl rfl rfl rfl rfl rfl rfl ?_
    refine D.done [(6, [], _), (79, [], _)] ⟨rfl, rfl, trivial⟩ (hR _ _ _ rfl ?_); clear hR R
    refine G.cond rfl (fun h79 => ?_) (fun h79 => ?_)
    · skip
      have hno2 : openM n rows d = none := by
        unfold openM
        rw [hps]
        cases hms : readsM d with
        | none => rfl
        | some ms =>
          simp only
          rw [if_neg]
          rintro ⟨e1, e2⟩
          obtain ⟨A, c, e⟩ := (hm ms hms).form
          injection e with e3 e4 e5
          have e6 : negD d = false := by unfold negD; rw [hms]; exact e2
          rw [e6, hms, e4, e1, hrl] at h79
          simp at h79
      refine G.region rfl (fun R hR => ?_)
      refine D.build (YV.mk none 0 0 none 0 0 none 0 0).enc rfl rfl rfl rfl rfl rfl rfl rfl ?_
      refine D.store (j := 0) rfl rfl rfl rfl rfl rfl rfl rfl rfl rfl rfl rfl ?_
      refine D.pure rfl rfl rfl rfl rfl rfl ?_
      refine D.done [(6, [], _), (7, [], _)] ⟨rfl, rfl, trivial⟩ (hR _ _ _ rfl ?_); clear hR R
      refine G.retN (G.finC2 (.head _) rfl rfl rfl rfl rfl ?_)
      exact ⟨rfl, _, by rw [hno2]; rfl, fun ps ms h => by rw [hno2] at h; cases h⟩
    · skip
      obtain ⟨ms, hms⟩ : ∃ ms, readsM d = some ms := by
        cases hms : readsM d with
        | none => rw [hms] at h79; simp at h79
        | some ms => exact ⟨ms, rfl⟩
      have hyes : openM n rows d = some (ps, ms) := by
        unfold openM
        rw [hps, hms]
        simp only
        obtain ⟨A, c, e⟩ := (hm ms hms).form
        injection e with e3 e4 e5
        have e6 : negD d = (ms.any fun q => decide (q.num < 0)) := by unfold negD; rw [hms]
        rw [hms, e6, e4] at h79
        rw [Bool.or_eq_false_iff, Bool.or_eq_false_iff] at h79
        rw [if_pos]
        refine ⟨?_, h79.2⟩
        have h8 := h79.1.2
        simp at h8
        omega
      refine G.freezeArr 1 (xs.map SV.enc) rfl rfl (by intro r hr; obtain ⟨y, _, rfl⟩ := List.mem_map.1 hr; rfl) (by rw [List.length_map, hxl]) (fun Cf hf hsd => ?_)
      refine G.freezeArr 1 (ys.map FV.enc) rfl rfl (by intro r hr; obtain ⟨y, _, rfl⟩ := List.mem_map.1 hr; rfl) (by rw [List.length_map, hyl]) (fun Cg hg hse => ?_)
      refine G.region rfl (fun R hR => ?_)
      refine D.loadL (.head _) rfl rfl rfl rfl rfl rfl rfl rfl rfl ?_
      refine D.store (j := 0) rfl rfl rfl rfl rfl rfl rfl rfl rfl rfl rfl rfl ?_
      refine D.pure rfl rfl rfl rfl rfl rfl ?_
      refine D.done [(6, [], _), (7, [], _)] ⟨rfl, rfl, trivial⟩ (hR _ _ _ rfl ?_); clear hR R
      refine G.retN (G.finC2 (.head _) rfl rfl rfl rfl rfl ?_)
      refine ⟨rfl, ⟨A1, n1, c1, A2, n2, c2, A3, n3, c3⟩, by rw [hyes]; rfl, fun ps' ms' h => ?_⟩
      rw [hyes] at h
      cases h
      exact ⟨⟨xs, hsd.mono (by (repeat (first | exact Mem.le.refl _ | assumption | (apply Mem.le.trans; rotate_left; assumption)))), hxs.mono (by (repeat (first | exact Mem.le.refl _ | assumption | (apply Mem.le.trans; rotate_left; assumption))))⟩, ⟨ys, hse.mono (by (repeat (first | exact Mem.le.refl _ | assumption | (apply Mem.le.trans; rotate_left; assumption)))), hys.mono (by (repeat (first | exact Mem.le.refl _ | assumption | (apply Mem.le.trans; rotate_left; assumption))))⟩, (hm ms hms).mono (by (repeat (first | exact Mem.le.refl _ | assumption | (apply Mem.le.trans; rotate_left; assumption))))⟩
end Go.Proofs.YtfelabnohopfdaaGreatDoor
namespace Go.Jog
open Go
section
variable {F : Fx} {fr : Fr} {C : Mem} {L : List Ent}
theorem G.finC3 {r s b t : Nat} {cs : List Value} {tb : TypeId} {fz : Nat × Nat} {ti : TI} {u v : Value} (hm : Ent.obj b (.cells ⟨cs⟩ tb fz) ∈ L) (hres : F.fn.results = #[.tmp s, .cell r t]) (hr : ev fr [] (.tmp r) = some (.pointer (some ⟨b, 0, none⟩))) (hs : ev fr [] (.tmp s) = some u)
    (ht : F.cx.T.get t = some ti) (hv : ofCells ti (cs.take ti.size) = some v) (h : F.post (.tuple #[u, v]) C []) (he : F.ends := by exact ⟨fun _ _ _ h => h, rfl⟩) : G F [] .ret fr C L := fun _ a w ha hw => by
  refine he.kq ?_
  have hr' := ev_spec ha (fun p hp => by cases hp) hr
  have hs' := ev_spec ha (fun p hp => by cases hp) hs
  simp only [Act.eval] at hr' hs'
  refine bodyPost_ret (v := .tuple #[u, v]) ?_ (ha.defers.trans he.2) ⟨_, C, [], rfl, St.dropAll hw, h⟩
  have hl := run_cell (F := F) ht (hw.sep.e _ hm) hv
  simp only [Array.getD_eq_getD_getElem?] at hr' hs'
  simp [results, hres, hr', hs', asAddr, hl]
end
end Go.Jog
namespace Go.Proofs.YtfelabnohopfdaaGreatDoor
open Go Go.Jog
set_option maxRecDepth 100000

def colR (ps : List (List Rat × Rat)) (v : Nat) : List Rat := ps.map fun p => gQ p.1 v
def sumsR (ps : List (List Rat × Rat)) (ms : List Rat) (n : Nat) : List Rat := (List.range n).map fun v => dotR ms (colR ps v)
theorem sumsR_get {ps : List (List Rat × Rat)} {ms : List Rat} {n v : Nat} (h : v < n) : gQ (sumsR ps ms n) v = dotR ms (colR ps v) := by
  unfold gQ sumsR
  rw [List.getD_eq_getElem?_getD, List.getElem?_map, List.getElem?_range h]; rfl
theorem gQ_mem {l : List Rat} {i : Nat} (h : i < l.length) : gQ l i ∈ l := List.mem_of_getElem? (gQ_get h)
def zeroFV : FV := ⟨false, none, 0, 0, none, 0, 0⟩
theorem zrow_F (n : Nat) : zrow [Value.bool false, .slice none 0 0, .slice none 0 0] n = ((List.replicate n zeroFV).map FV.enc).flatten := by
  rw [zrow_flatten, List.map_replicate]; rfl
/-- All numbers of a system have at most k parts. -/
def SysSm (k : Nat) (ps : List (List Rat × Rat)) (ms : List Rat) : Prop := (∀ p ∈ ps, (∀ q ∈ p.1, SmQ k q) ∧ SmQ k p.2) ∧ ∀ q ∈ ms, SmQ k q
set_option maxHeartbeats 4000000 in
theorem sums_fn (C : Mem) (hT : Tabs C) (y : YV) (ps : List (List Rat × Rat)) (ms : List Rat) (n : Nat) (hy : SysC C y ps ms) (hlen : ms.length = ps.length) (hf : ∀ p ∈ ps, p.1.length = n) (hs : SysSm 200 ps ms) (hl : ps.length ≤ 1000) (hn : n ≤ 1000000) :
    Pur cx.P 30 [.agg ⟨y.enc⟩, .int .i64 n] C fun u D => ∃ (A : Option Addr) (c : Nat) (x : FV), u = .tuple #[.slice A n c, .agg ⟨x.enc⟩] ∧ FrL D (.slice A n c) (sumsR ps ms n) ∧ FrC D (.agg ⟨x.enc⟩) (dotR ms (ps.map (·.2))) := by
  obtain ⟨⟨vs, hsv, hvs⟩, hb, hm⟩ := hy
  have hvl : vs.length = ps.length := by have := hvs.1; simpa using this
  obtain ⟨Av, cv, hve, _⟩ := id hsv
  have hyn : y.n = vs.length := by injection hve with e1 e2 e3; simpa using e2
  refine Fn.intro (by kernel_rfl) Tryz.func30 rfl 46 rfl rfl (fun w0 => ?_)
  refine G.region rfl (fun R hR => ?_)
  refine D.box rfl rfl rfl rfl rfl rfl (fun _ => rfl) (fun b2 => ?_)
  refine D.pure rfl rfl rfl rfl rfl rfl ?_
  refine D.alloc rfl rfl rfl rfl rfl (fun _ => rfl) (fun b5 => ?_)
  refine D.done [(1, [], _), (2, [], _), (5, [], _)] ⟨rfl, rfl, rfl, trivial⟩ (hR _ _ _ rfl ?_); clear hR R
  refine G.region rfl (fun R hR => ?_)
  refine D.pure rfl rfl rfl rfl rfl rfl ?_
  refine D.makeArr rfl rfl rfl rfl rfl rfl rfl rfl rfl (Nat.le_refl _) (by show 56 * n ≤ 281474976710656; omega) (by simp only [maxLen]; omega) (fun _ => rfl) (fun b12 => ?_)
  refine D.pure rfl rfl rfl rfl rfl rfl ?_
  refine D.done [(1, [], _), (2, [], _), (5, [], _), (6, [], _)] ⟨rfl, rfl, rfl, rfl, trivial⟩ (hR _ _ _ rfl ?_); clear hR R
  refine G.region rfl (fun R hR => ?_)
  iterate 2 refine D.pure rfl rfl rfl rfl rfl rfl ?_
  refine D.done [(2, [], _), (5, [], _), (6, [], _), (13, [], _), (14, [], _)] ⟨rfl, rfl, rfl, rfl, rfl, trivial⟩ (hR _ _ _ rfl ?_); clear hR R
  refine G.eqL (L' := [.arr (qW b12 n n) 57 3 n ((List.replicate n zeroFV).map FV.enc).flatten, .obj b5 (.cells ⟨zeroFV.enc⟩ 57 (0, 0)), .obj b2 (.cells ⟨y.enc⟩ 76 (0, 0))]) (by rw [← zrow_F]; rfl) ?_
  refine G.loop (fun fr C' L' μ => ∃ (v : Nat) (o : List FV), (v ≤ n ∧ o.length = n ∧ ∀ k x, k < v → o[k]? = some x → FrC C' (.agg ⟨x.enc⟩) (dotR ms (colR ps k))) ∧ fr = [(2, [], .pointer (some ⟨b2, 0, none⟩)), (5, [], .pointer (some ⟨b5, 0, none⟩)), (6, [], qW b12 n n), (13, [], .int .i64 n), (14, [], .int .i64 v)] ∧ L' = [.arr (qW b12 n n) 57 3 n (o.map FV.enc).flatten, .obj b5 (.cells ⟨zeroFV.enc⟩ 57 (0, 0)), .obj b2 (.cells ⟨y.enc⟩ 76 (0, 0))] ∧ μ = n - v) (fr' := [(2, [], _), (5, [], _), (6, [], _), (13, [], _), (14, [], _)]) ⟨rfl, rfl, rfl, rfl, rfl, trivial⟩ ⟨0, List.replicate n zeroFV, ⟨Nat.zero_le _, List.length_replicate, fun k x hk => by omega⟩, rfl, rfl, rfl⟩ (fun fr C0' L0' m hle0 hI => ?_)
  obtain ⟨v, o, ⟨hv, hol, ho⟩, rfl, rfl, rfl⟩ := hI
  refine G.region rfl (fun R hR => ?_)
  refine D.pure rfl rfl rfl rfl rfl rfl ?_
  refine D.done [(2, [], _), (5, [], _), (6, [], _), (13, [], _), (14, [], _), (15, [], _)] ⟨rfl, rfl, rfl, rfl, rfl, rfl, trivial⟩ (hR _ _ _ rfl ?_); clear hR R
  refine G.cond rfl (fun h15 => ?_) (fun h15 => ?_)
  · skip
    have hvn : v < n := by simpa using h15
    refine G.region rfl (fun R hR => ?_)
    iterate 2 refine D.pure rfl rfl rfl rfl rfl rfl ?_
    refine D.done [(2, [], _), (5, [], _), (6, [], _), (7, [], _), (13, [], _), (14, [], _)] ⟨rfl, rfl, rfl, rfl, rfl, rfl, trivial⟩ (hR _ _ _ rfl ?_); clear hR R
    refine G.region rfl (fun R hR => ?_)
    refine D.pure rfl rfl rfl rfl rfl rfl ?_
    refine D.done [(2, [], _), (5, [], _), (6, [], _), (7, [], _), (8, [], _), (13, [], _), (14, [], _)] ⟨rfl, rfl, rfl, rfl, rfl, rfl, rfl, trivial⟩ (hR _ _ _ rfl ?_); clear hR R
    refine G.region rfl (fun R hR => ?_)
    refine D.pure rfl rfl rfl rfl rfl rfl ?_
    refine D.loadL (.tail _ (.tail _ (.head _))) rfl rfl rfl rfl rfl rfl rfl rfl rfl ?_
    iterate 2 refine D.pure rfl rfl rfl rfl rfl rfl ?_
    refine D.done [(2, [], _), (5, [], _), (6, [], _), (7, [], _), (8, [], _), (13, [], _), (14, [], _), (18, [], _), (19, [], _), (20, [], _)] ⟨rfl, rfl, rfl, rfl, rfl, rfl, rfl, rfl, rfl, rfl, trivial⟩ (hR _ _ _ rfl ?_); clear hR R
    refine G.nilArr 57 3 ?_
    refine G.loop (fun fr C' L' μ => ∃ (i : Nat) (xs : List FV) (w : Value), (i ≤ ps.length ∧ RowsF C' xs (colR (ps.take i) v) ∧ xs.length = i) ∧ fr = [(2, [], .pointer (some ⟨b2, 0, none⟩)), (5, [], .pointer (some ⟨b5, 0, none⟩)), (6, [], qW b12 n n), (7, [], .int .i64 v), (8, [], w), (13, [], .int .i64 n), (14, [], .int .i64 v), (18, [], .slice y.A y.n y.c), (19, [], .int .i64 y.n), (20, [], .int .i64 i)] ∧ L' = [.arr w 57 3 i (xs.map FV.enc).flatten, .arr (qW b12 n n) 57 3 n (o.map FV.enc).flatten, .obj b5 (.cells ⟨zeroFV.enc⟩ 57 (0, 0)), .obj b2 (.cells ⟨y.enc⟩ 76 (0, 0))] ∧ μ = ps.length - i) (fr' := [(2, [], _), (5, [], _), (6, [], _), (7, [], _), (8, [], _), (13, [], _), (14, [], _), (18, [], _), (19, [], _), (20, [], _)]) ⟨rfl, rfl, rfl, rfl, rfl, rfl, rfl, rfl, rfl, rfl, trivial⟩ ⟨0, [], _, ⟨Nat.zero_le _, RowsF.nil _, rfl⟩, rfl, rfl, rfl⟩ (fun fr C1' L1' m hle1 hI => ?_)
    obtain ⟨i, xs, w, ⟨hi, hxs, hxl⟩, rfl, rfl, rfl⟩ := hI
    refine G.region rfl (fun R hR => ?_)
    refine D.pure rfl rfl rfl rfl rfl rfl ?_
    refine D.done [(2, [], _), (5, [], _), (6, [], _), (7, [], _), (8, [], _), (13, [], _), (14, [], _), (18, [], _), (19, [], _), (20, [], _), (21, [], _)] ⟨rfl, rfl, rfl, rfl, rfl, rfl, rfl, rfl, rfl, rfl, rfl, trivial⟩ (hR _ _ _ rfl ?_); clear hR R
    refine G.cond rfl (fun h21 => ?_) (fun h21 => ?_)
    · skip
      have hil : i < ps.length := by
        have : (i : Int) < y.n := by simpa using h21
        omega
      obtain ⟨p, hp⟩ : ∃ p, ps[i]? = some p := ⟨ps[i], List.getElem?_eq_getElem hil⟩
      obtain ⟨sv, hsv0⟩ : ∃ sv, vs[i]? = some sv := ⟨vs[i]'(by omega), List.getElem?_eq_getElem _⟩
      have hrow : (vs.map SV.enc)[i]? = some sv.enc := by rw [List.getElem?_map, hsv0]; rfl
      obtain ⟨zs, hzs, hzr⟩ := hvs.2 i sv p.1 hsv0 (by rw [List.getElem?_map, hp]; rfl)
      have hpl := hf p (List.mem_of_getElem? hp)
      obtain ⟨z, hz0, hzrow, hz⟩ := hzr.get (gQ_get (l := p.1) (i := v) (by omega))
      refine G.region rfl (fun R hR => ?_)
      refine D.index0 (hsv.mono (by (repeat (first | exact Mem.le.refl _ | assumption | (apply Mem.le.trans; rotate_left; assumption))))) rfl rfl rfl rfl rfl rfl rfl rfl rfl rfl (by omega) hrow (fun _ => rfl) (fun p22 hp22 => ?_)
      refine D.loadP0 hp22 rfl rfl rfl rfl rfl rfl rfl rfl ?_
      refine D.pure rfl rfl rfl rfl rfl rfl ?_
      refine D.done [(2, [], _), (5, [], _), (6, [], _), (7, [], _), (8, [], _), (10, [], _), (13, [], _), (14, [], _), (18, [], _), (19, [], _), (20, [], _)] ⟨rfl, rfl, rfl, rfl, rfl, rfl, rfl, rfl, rfl, rfl, rfl, trivial⟩ (hR _ _ _ rfl ?_); clear hR R
      refine G.region rfl (fun R hR => ?_)
      iterate 3 refine D.pure rfl rfl rfl rfl rfl rfl ?_
      refine D.index0 (hzs.mono (by (repeat (first | exact Mem.le.refl _ | assumption | (apply Mem.le.trans; rotate_left; assumption))))) rfl rfl rfl rfl rfl rfl rfl rfl rfl rfl (by omega) hzrow (fun _ => rfl) (fun p27 hp27 => ?_)
      refine D.loadP0 hp27 rfl rfl rfl rfl rfl rfl rfl rfl ?_
      refine D.buildSlice [z.enc] rfl rfl rfl rfl rfl rfl rfl rfl rfl rfl rfl rfl (fun _ => rfl) (fun p29 C29 hle29 hs29 => ?_)
      refine D.append (j := 0) rfl rfl rfl rfl rfl rfl rfl rfl rfl rfl rfl hs29 rfl (by simp only [List.length_singleton, maxLen]; omega) (by show (i + 1) * 56 ≤ _; omega) (fun _ => rfl) (fun v30 => ?_)
      refine D.pure rfl rfl rfl rfl rfl rfl ?_
      refine D.done [(2, [], _), (5, [], _), (6, [], _), (7, [], _), (8, [], _), (13, [], _), (14, [], _), (18, [], _), (19, [], _), (20, [], _)] ⟨rfl, rfl, rfl, rfl, rfl, rfl, rfl, rfl, rfl, rfl, trivial⟩ (hR _ _ _ rfl ?_); clear hR R
      refine G.region rfl (fun R hR => ?_)
      refine D.i64 _ rfl rfl rfl rfl rfl (by omega) (by omega) rfl rfl ?_
      refine D.pure rfl rfl rfl rfl rfl rfl ?_
      refine D.done [(2, [], _), (5, [], _), (6, [], _), (7, [], _), (8, [], _), (13, [], _), (14, [], _), (18, [], _), (19, [], _), (20, [], _)] ⟨rfl, rfl, rfl, rfl, rfl, rfl, rfl, rfl, rfl, rfl, trivial⟩ (hR _ _ _ rfl ?_); clear hR R
      refine G.eqL (L' := [.arr v30 57 3 (i + 1) ((xs ++ [z]).map FV.enc).flatten, .arr (qW b12 n n) 57 3 n (o.map FV.enc).flatten, .obj b5 (.cells ⟨zeroFV.enc⟩ 57 (0, 0)), .obj b2 (.cells ⟨y.enc⟩ 76 (0, 0))]) (by simp) ?_
      refine G.again (m' := ps.length - (i + 1)) (by omega) (by (repeat (first | exact Mem.le.refl _ | assumption | (apply Mem.le.trans; rotate_left; assumption)))) (fr' := [(2, [], _), (5, [], _), (6, [], _), (7, [], _), (8, [], _), (13, [], _), (14, [], _), (18, [], _), (19, [], _), (20, [], _)]) ⟨rfl, rfl, rfl, rfl, rfl, rfl, rfl, rfl, rfl, rfl, trivial⟩ ⟨i + 1, xs ++ [z], v30, ⟨by omega, by
        have e : colR (ps.take (i + 1)) v = colR (ps.take i) v ++ [gQ p.1 v] := by unfold colR; rw [List.take_add_one, hp]; simp
        rw [e]
        exact (hxs.mono (by (repeat (first | exact Mem.le.refl _ | assumption | (apply Mem.le.trans; rotate_left; assumption))))).snoc (hz.mono (by (repeat (first | exact Mem.le.refl _ | assumption | (apply Mem.le.trans; rotate_left; assumption))))), by simp [hxl]⟩, rfl, rfl, rfl⟩
    · skip
      have hil : i = ps.length := by
        have : ¬ (i : Int) < y.n := by simpa using h21
        omega
      rw [hil, List.take_length] at hxs
      have hcl : (colR ps v).length = ps.length := by unfold colR; rw [List.length_map]
      have hcs : ∀ q ∈ colR ps v, SmQ 200 q := fun q hq => by
        unfold colR at hq
        obtain ⟨p, hp, rfl⟩ := List.mem_map.1 hq
        exact (hs.1 p hp).1 _ (gQ_mem (by rw [hf p hp]; exact hvn))
      refine G.freezeArr 0 (xs.map FV.enc) rfl rfl (by intro r hr; obtain ⟨y, _, rfl⟩ := List.mem_map.1 hr; rfl) (by rw [List.length_map, hxl]) (fun Cf hff hsd => ?_)
      refine G.region rfl (fun R hR => ?_)
      iterate 3 refine D.pure rfl rfl rfl rfl rfl rfl ?_
      refine D.loadL (.tail _ (.tail _ (.head _))) rfl rfl rfl rfl rfl rfl rfl rfl rfl ?_
      refine D.pure rfl rfl rfl rfl rfl rfl ?_
      refine D.callP (sum_fn _ (hT.mono (by (repeat (first | exact Mem.le.refl _ | assumption | (apply Mem.le.trans; rotate_left; assumption))))) _ _ ms (colR ps v) 200 200 (hm.mono (by (repeat (first | exact Mem.le.refl _ | assumption | (apply Mem.le.trans; rotate_left; assumption))))) ⟨xs, hsd, hxs.mono (by (repeat (first | exact Mem.le.refl _ | assumption | (apply Mem.le.trans; rotate_left; assumption))))⟩ (by omega) hs.2 hcs (by omega)) rfl rfl rfl rfl rfl rfl rfl (fun _ => rfl) (fun v37 C37 hle37 hq37 => ?_)
      obtain ⟨x2, rfl⟩ := hq37.fv
      refine D.indexS (v * 3) rfl rfl rfl rfl rfl rfl rfl rfl rfl rfl (fun _ => ⟨by omega, by omega, rfl⟩) rfl rfl ?_
      refine D.storeArr (j := 0) rfl rfl rfl rfl rfl rfl rfl rfl rfl rfl rfl (by show v * 3 + 3 ≤ _; rw [rows_len fv_len, hol]; omega) ?_
      refine D.done [(2, [], _), (5, [], _), (6, [], _), (13, [], _), (14, [], _)] ⟨rfl, rfl, rfl, rfl, rfl, trivial⟩ (hR _ _ _ rfl ?_); clear hR R
      refine G.region rfl (fun R hR => ?_)
      refine D.i64 _ rfl rfl rfl rfl rfl (by omega) (by omega) rfl rfl ?_
      refine D.pure rfl rfl rfl rfl rfl rfl ?_
      refine D.done [(2, [], _), (5, [], _), (6, [], _), (13, [], _), (14, [], _)] ⟨rfl, rfl, rfl, rfl, rfl, trivial⟩ (hR _ _ _ rfl ?_); clear hR R
      refine G.eqL (L' := [.arr (qW b12 n n) 57 3 n ((o.set v x2).map FV.enc).flatten, .obj b5 (.cells ⟨zeroFV.enc⟩ 57 (0, 0)), .obj b2 (.cells ⟨y.enc⟩ 76 (0, 0))]) (by rw [← row_write fv_len _ (by omega : v < o.length)]; rfl) ?_
      refine G.again (m' := n - (v + 1)) (by omega) (by (repeat (first | exact Mem.le.refl _ | assumption | (apply Mem.le.trans; rotate_left; assumption)))) (fr' := [(2, [], _), (5, [], _), (6, [], _), (13, [], _), (14, [], _)]) ⟨rfl, rfl, rfl, rfl, rfl, trivial⟩ ⟨v + 1, o.set v x2, ⟨by omega, by simp [hol], fun k x hk hx => by
        by_cases hkv : v = k
        · subst hkv
          rw [List.getElem?_set_self (by omega)] at hx
          cases hx
          exact hq37.mono (by (repeat (first | exact Mem.le.refl _ | assumption | (apply Mem.le.trans; rotate_left; assumption))))
        · rw [List.getElem?_set_ne hkv] at hx
          exact (ho k x (by omega) hx).mono (by (repeat (first | exact Mem.le.refl _ | assumption | (apply Mem.le.trans; rotate_left; assumption))))⟩, rfl, rfl, rfl⟩
  · skip
    have hvn : v = n := by
      have : ¬ v < n := by simpa using h15
      omega
    refine G.region rfl (fun R hR => ?_)
    iterate 2 refine D.pure rfl rfl rfl rfl rfl rfl ?_
    refine D.loadL (.tail _ (.tail _ (.head _))) rfl rfl rfl rfl rfl rfl rfl rfl rfl ?_
    refine D.pure rfl rfl rfl rfl rfl rfl ?_
    refine D.loadL (.tail _ (.tail _ (.head _))) rfl rfl rfl rfl rfl rfl rfl rfl rfl ?_
    refine D.callP (sum_fn _ (hT.mono (by (repeat (first | exact Mem.le.refl _ | assumption | (apply Mem.le.trans; rotate_left; assumption))))) _ _ ms (ps.map (·.2)) 200 200 (hm.mono (by (repeat (first | exact Mem.le.refl _ | assumption | (apply Mem.le.trans; rotate_left; assumption))))) (hb.mono (by (repeat (first | exact Mem.le.refl _ | assumption | (apply Mem.le.trans; rotate_left; assumption))))) (by simp [hlen]) hs.2 (fun q hq => by obtain ⟨p, hp, rfl⟩ := List.mem_map.1 hq; exact (hs.1 p hp).2) (by omega)) rfl rfl rfl rfl rfl rfl rfl (fun _ => rfl) (fun v45 C45 hle45 hq45 => ?_)
    obtain ⟨x2, rfl⟩ := hq45.fv
    refine D.pure rfl rfl rfl rfl rfl rfl ?_
    refine D.store (j := 1) rfl rfl rfl rfl rfl rfl rfl rfl rfl rfl rfl rfl ?_
    refine D.done [(4, [], _), (5, [], _)] ⟨rfl, rfl, trivial⟩ (hR _ _ _ rfl ?_); clear hR R
    refine G.freezeArr 1 (o.map FV.enc) rfl rfl (by intro r hr; obtain ⟨y, _, rfl⟩ := List.mem_map.1 hr; rfl) (by rw [List.length_map, hol]) (fun Cf hff hsd => ?_)
    refine G.retN (G.finC3 (.head _) rfl rfl rfl rfl rfl ?_)
    refine ⟨rfl, _, _, x2, rfl, ⟨o, hsd, by rw [hol]; simp [sumsR], fun i x q hi hq => ?_⟩, hq45.mono (by (repeat (first | exact Mem.le.refl _ | assumption | (apply Mem.le.trans; rotate_left; assumption))))⟩
    have hin : i < n := by rw [← hol]; exact (List.getElem?_eq_some_iff.1 hi).1
    unfold sumsR at hq
    rw [List.getElem?_map, List.getElem?_range hin] at hq
    cases hq
    exact (ho i x (by omega) hi).mono (by (repeat (first | exact Mem.le.refl _ | assumption | (apply Mem.le.trans; rotate_left; assumption))))
end Go.Proofs.YtfelabnohopfdaaGreatDoor
namespace Go.Proofs.YtfelabnohopfdaaGreatDoor
open Go Go.Jog
set_option maxRecDepth 100000

/-- What Optimal says. -/
def optM (rows : List (List Str × Str)) (obj pt d : List Str) : Bool :=
  match readsM obj, readsM pt, openM (obj.length : Int) rows d with
  | some c, some x, some (ps, ms) => decide (x.length = c.length) && ps.all (fun p => decide (sgn (dotR p.1 x - p.2) ≤ 0)) && ((List.range c.length).all fun v => sgn (dotR ms (colR ps v) + gQ c v) == 0) && sgn (dotR ms (ps.map (·.2)) + dotR c x) == 0
  | _, _, _ => false
theorem rowsM_ok {n : Int} : ∀ {l : List (List Str × Str)} {ps : List (List Rat × Rat)}, rowsM n l = some ps → ps.length = l.length ∧ ∀ p ∈ ps, (p.1.length : Int) = n ∧ (∀ q ∈ p.1, SmQ 200 q) ∧ SmQ 200 p.2
  | [], ps, h => by simp only [rowsM, Option.some.injEq] at h; subst h; exact ⟨rfl, by simp⟩
  | a :: l, ps, h => by
    simp only [rowsM] at h
    cases ha : rowM n a with
    | none => rw [ha] at h; cases h
    | some q =>
      cases hl : rowsM n l with
      | none => rw [ha, hl] at h; cases h
      | some qs =>
        rw [ha, hl] at h
        simp only [Option.some.injEq] at h
        subst h
        obtain ⟨h1, h2⟩ := rowsM_ok hl
        refine ⟨by simp [h1], fun p hp => ?_⟩
        rcases List.mem_cons.1 hp with rfl | hp
        · unfold rowM at ha
          cases hr : readsM a.1 with
          | none => rw [hr] at ha; cases ha
          | some f =>
            cases hb : readM a.2 with
            | none => rw [hr, hb] at ha; cases ha
            | some b =>
              rw [hr, hb] at ha
              simp only at ha
              split at ha
              · cases ha
                rename_i hn
                exact ⟨hn, readsM_sm hr, readM_sm hb⟩
              · cases ha
        · exact h2 p hp
theorem openM_ok {n : Int} {rows : List (List Str × Str)} {d : List Str} {ps : List (List Rat × Rat)} {ms : List Rat} (h : openM n rows d = some (ps, ms)) : ps.length = rows.length ∧ ms.length = rows.length ∧ SysSm 200 ps ms ∧ ∀ p ∈ ps, (p.1.length : Int) = n := by
  unfold openM at h
  cases hr : rowsM n rows with
  | none => rw [hr] at h; cases h
  | some qs =>
    cases hd : readsM d with
    | none => rw [hr, hd] at h; cases h
    | some ns =>
      rw [hr, hd] at h
      simp only at h
      split at h
      · cases h
        rename_i hc
        obtain ⟨h1, h2⟩ := rowsM_ok hr
        exact ⟨h1, hc.1, ⟨fun p hp => (h2 p hp).2, readsM_sm hd⟩, fun p hp => (h2 p hp).1⟩
      · cases h
set_option maxHeartbeats 4000000 in
theorem optimal_fn (C : Mem) (hT : Tabs C) (v vo vp : Value) (Ad : Option Addr) (nd cd : Nat) (rows : List (List Str × Str)) (obj pt d : List Str) (hv : RowsIn C v rows) (ho : Sl C 1 vo (obj.map encS)) (hp : Sl C 1 vp (pt.map encS)) (hd : Sl C 1 (.slice Ad nd cd) (d.map encS)) (hl : rows.length ≤ 1000) (hf : ∀ r ∈ rows, r.1.length ≤ 1000000 ∧ (∀ s ∈ r.1, s.length < 1000000) ∧ r.2.length < 1000000) (hol : obj.length ≤ 1000) (hos : ∀ s ∈ obj, s.length < 1000000) (hpl : pt.length ≤ 1000000) (hps : ∀ s ∈ pt, s.length < 1000000) (hdl : d.length ≤ 1000000) (hds : ∀ s ∈ d, s.length < 1000000) :
    Gives cx.P 16 [v, vo, vp, .agg ⟨[.slice Ad nd cd]⟩] C (.bool (optM rows obj pt d)) := by
  obtain ⟨Ao, co, rfl, hox, hox2, _⟩ := id ho
  have hmx : maxLen ≤ 9223372036854775807 := by simp [maxLen]
  simp only [List.length_map] at ho hox hox2 ⊢
  refine Fn.intro (by kernel_rfl) Tryz.func16 rfl 105 rfl rfl (fun w0 => ?_)
  refine G.region rfl (fun R hR => ?_)
  refine D.box rfl rfl rfl rfl rfl rfl (fun _ => rfl) (fun b7 => ?_)
  refine D.pure rfl rfl rfl rfl rfl rfl ?_
  refine D.done [(0, [], _), (1, [], _), (2, [], _), (7, [], _)] ⟨rfl, rfl, rfl, rfl, trivial⟩ (hR _ _ _ rfl ?_); clear hR R
  refine G.region rfl (fun R hR => ?_)
  refine D.pure rfl rfl rfl rfl rfl rfl ?_
  refine D.callP (readAll_fn _ _ obj (ho.mono (by (repeat (first | exact Mem.le.refl _ | assumption | (apply Mem.le.trans; rotate_left; assumption))))) (by omega) hos) rfl rfl rfl rfl rfl rfl rfl (fun _ => rfl) (fun v22 C22 hle22 hq22 => ?_)
  obtain ⟨Ac, nc, cc, rfl, hc⟩ := hq22
  iterate 5 refine D.pure rfl rfl rfl rfl rfl rfl ?_
  refine D.done [(0, [], _), (1, [], _), (2, [], _), (7, [], _), (9, [], _), (10, [], _)] ⟨rfl, rfl, rfl, rfl, rfl, rfl, trivial⟩ (hR _ _ _ rfl ?_); clear hR R
  refine G.region rfl (fun R hR => ?_)
  refine D.pure rfl rfl rfl rfl rfl rfl ?_
  refine D.callP (readAll_fn _ _ pt (hp.mono (by (repeat (first | exact Mem.le.refl _ | assumption | (apply Mem.le.trans; rotate_left; assumption))))) hpl hps) rfl rfl rfl rfl rfl rfl rfl (fun _ => rfl) (fun v27 C27 hle27 hq27 => ?_)
  obtain ⟨Ax, nx, cx2, rfl, hx⟩ := hq27
  iterate 5 refine D.pure rfl rfl rfl rfl rfl rfl ?_
  refine D.done [(0, [], _), (1, [], _), (7, [], _), (9, [], _), (10, [], _), (11, [], _), (12, [], _)] ⟨rfl, rfl, rfl, rfl, rfl, rfl, rfl, trivial⟩ (hR _ _ _ rfl ?_); clear hR R
  refine G.region rfl (fun R hR => ?_)
  iterate 3 refine D.pure rfl rfl rfl rfl rfl rfl ?_
  refine D.loadL (.head _) rfl rfl rfl rfl rfl rfl rfl rfl rfl ?_
  refine D.callP (open_fn _ _ (obj.length : Int) Ad nd cd rows d (hv.mono (by (repeat (first | exact Mem.le.refl _ | assumption | (apply Mem.le.trans; rotate_left; assumption))))) (hd.mono (by (repeat (first | exact Mem.le.refl _ | assumption | (apply Mem.le.trans; rotate_left; assumption))))) (by omega) hf hdl hds) rfl rfl rfl rfl rfl rfl rfl (fun _ => rfl) (fun v35 C35 hle35 hq35 => ?_)
  obtain ⟨y, rfl, hy⟩ := hq35
  iterate 3 refine D.pure rfl rfl rfl rfl rfl rfl ?_
  refine D.alloc rfl rfl rfl rfl rfl (fun _ => rfl) (fun b13 => ?_)
  refine D.store (j := 0) rfl rfl rfl rfl rfl rfl rfl rfl rfl rfl rfl rfl ?_
  refine D.pure rfl rfl rfl rfl rfl rfl ?_
  refine D.done [(9, [], _), (10, [], _), (11, [], _), (12, [], _), (13, [], _), (14, [], _)] ⟨rfl, rfl, rfl, rfl, rfl, rfl, trivial⟩ (hR _ _ _ rfl ?_); clear hR R
  refine G.region rfl (fun R hR => ?_)
  iterate 5 refine D.pure rfl rfl rfl rfl rfl rfl ?_
  refine D.pickOr rfl rfl rfl rfl rfl rfl rfl rfl ?_
  iterate 3 refine D.pure rfl rfl rfl rfl rfl rfl ?_
  refine D.pickOr rfl rfl rfl rfl rfl rfl rfl rfl ?_
  iterate 6 refine D.pure rfl rfl rfl rfl rfl rfl ?_
  refine D.pickOr rfl rfl rfl rfl rfl rfl rfl rfl ?_
  refine D.done [(9, [], _), (11, [], _), (13, [], _), (54, [], _)] ⟨rfl, rfl, rfl, rfl, trivial⟩ (hR _ _ _ rfl ?_); clear hR R
  refine G.cond rfl (fun h54 => ?_) (fun h54 => ?_)
  · skip
    have hno : optM rows obj pt d = false := by
      unfold optM
      cases h1 : readsM obj with
      | none => rfl
      | some cs =>
        cases h2 : readsM pt with
        | none => rfl
        | some zs =>
          cases h3 : openM (obj.length : Int) rows d with
          | none => rfl
          | some pm =>
            obtain ⟨ps, ms⟩ := pm
            obtain ⟨_, _, e⟩ := (hc cs h1).form
            injection e with e1 e2 e3
            obtain ⟨_, _, e'⟩ := (hx zs h2).form
            injection e' with e1' e2' e3'
            rw [h1, h2, h3, e2, e2'] at h54
            have h4 : ¬ zs.length = cs.length := by simpa [Int.ofNat_inj] using h54
            simp [h4]
    refine G.region rfl (fun R hR => ?_)
    refine D.pure rfl rfl rfl rfl rfl rfl ?_
    refine D.done [(8, [], _)] ⟨rfl, trivial⟩ (hR _ _ _ rfl ?_); clear hR R
    refine G.retN (G.dropAll (G.fin1 rfl rfl ?_))
    exact ⟨by rw [hno], rfl⟩
  · skip
    obtain ⟨cs, zs, ps, ms, h1, h2, h3, h4⟩ : ∃ cs zs ps ms, readsM obj = some cs ∧ readsM pt = some zs ∧ openM (obj.length : Int) rows d = some (ps, ms) ∧ (nx : Int) = nc := by
      cases h1 : readsM obj with
      | none => rw [h1] at h54; simp at h54
      | some cs =>
        cases h2 : readsM pt with
        | none => rw [h1, h2] at h54; simp at h54
        | some zs =>
          cases h3 : openM (obj.length : Int) rows d with
          | none => rw [h1, h2, h3] at h54; simp at h54
          | some pm =>
            obtain ⟨ps, ms⟩ := pm
            refine ⟨cs, zs, ps, ms, rfl, rfl, rfl, ?_⟩
            rw [h1, h2, h3] at h54
            simpa using h54
    have hcL := hc cs h1
    have hxL := hx zs h2
    obtain ⟨⟨vs, hsv, hvs⟩, hb, hm⟩ := hy ps ms h3
    have hsys := hy ps ms h3
    obtain ⟨_, _, e⟩ := hcL.form
    injection e with e1 e2 e3
    obtain ⟨_, _, e'⟩ := hxL.form
    injection e' with e1' e2' e3'
    subst e2 e2'
    have hcl := readsM_len h1
    obtain ⟨hpsl, hmsl, hsm, hpn⟩ := openM_ok h3
    have hvl : vs.length = ps.length := by have := hvs.1; simpa using this
    obtain ⟨Av, cv, hve, _⟩ := id hsv
    have hyn : y.n = vs.length := by injection hve with e1 e2 e3; simpa using e2
    have hzsm := readsM_sm h2
    have hcsm := readsM_sm h1
    have hzc : zs.length = cs.length := by omega
    obtain ⟨bs, hbs, hbr⟩ := hb
    have hopt : optM rows obj pt d = (decide (zs.length = cs.length) && ps.all (fun p => decide (sgn (dotR p.1 zs - p.2) ≤ 0)) && ((List.range cs.length).all fun v => sgn (dotR ms (colR ps v) + gQ cs v) == 0) && sgn (dotR ms (ps.map (·.2)) + dotR cs zs) == 0) := by
      unfold optM; rw [h1, h2, h3]
    refine G.region rfl (fun R hR => ?_)
    refine D.pure rfl rfl rfl rfl rfl rfl ?_
    refine D.loadL (.head _) rfl rfl rfl rfl rfl rfl rfl rfl rfl ?_
    iterate 2 refine D.pure rfl rfl rfl rfl rfl rfl ?_
    refine D.done [(9, [], _), (11, [], _), (13, [], _), (56, [], _), (57, [], _), (58, [], _)] ⟨rfl, rfl, rfl, rfl, rfl, rfl, trivial⟩ (hR _ _ _ rfl ?_); clear hR R
    refine G.loop (fun fr C' L' μ => ∃ (i : Nat), (i ≤ ps.length ∧ ∀ p ∈ ps.take i, sgn (dotR p.1 zs - p.2) ≤ 0) ∧ fr = [(9, [], .slice Ac cs.length cc), (11, [], .slice Ax zs.length cx2), (13, [], .pointer (some ⟨b13, 0, none⟩)), (56, [], .slice y.A y.n y.c), (57, [], .int .i64 y.n), (58, [], .int .i64 i)] ∧ L' = [.obj b13 (.cells ⟨y.enc⟩ 76 (0, 0)), .obj b7 (.cells ⟨[.slice Ad nd cd]⟩ 47 (0, 0))] ∧ μ = ps.length - i) (fr' := [(9, [], _), (11, [], _), (13, [], _), (56, [], _), (57, [], _), (58, [], _)]) ⟨rfl, rfl, rfl, rfl, rfl, rfl, trivial⟩ ⟨0, ⟨Nat.zero_le _, by simp⟩, rfl, rfl, rfl⟩ (fun fr C0' L0' m hle0 hI => ?_)
    obtain ⟨i, ⟨hi, hall⟩, rfl, rfl, rfl⟩ := hI
    refine G.region rfl (fun R hR => ?_)
    refine D.pure rfl rfl rfl rfl rfl rfl ?_
    refine D.done [(9, [], _), (11, [], _), (13, [], _), (56, [], _), (57, [], _), (58, [], _), (59, [], _)] ⟨rfl, rfl, rfl, rfl, rfl, rfl, rfl, trivial⟩ (hR _ _ _ rfl ?_); clear hR R
    refine G.cond rfl (fun h59 => ?_) (fun h59 => ?_)
    · skip
      have hil : i < ps.length := by
        have : (i : Int) < y.n := by simpa using h59
        omega
      obtain ⟨p, hp0⟩ : ∃ p, ps[i]? = some p := ⟨ps[i], List.getElem?_eq_getElem hil⟩
      have hpm := List.mem_of_getElem? hp0
      obtain ⟨sv, hsv0⟩ : ∃ sv, vs[i]? = some sv := ⟨vs[i]'(by omega), List.getElem?_eq_getElem _⟩
      have hrow : (vs.map SV.enc)[i]? = some sv.enc := by rw [List.getElem?_map, hsv0]; rfl
      have hfL := hvs.2 i sv p.1 hsv0 (by rw [List.getElem?_map, hp0]; rfl)
      obtain ⟨bx, hb0, hbrow, hbF⟩ := hbr.get (i := i) (q := p.2) (by rw [List.getElem?_map, hp0]; rfl)
      have hpl : p.1.length = obj.length := by have := hpn p hpm; omega
      have hds1 : SmQ 401001 (dotR p.1 zs) := (dotN_sm (hsm.1 p hpm).1 hzsm (by omega) _ (Nat.le_refl _)).le (by omega)
      refine G.region rfl (fun R hR => ?_)
      refine D.pure rfl rfl rfl rfl rfl rfl ?_
      refine D.index0 (hsv.mono (by (repeat (first | exact Mem.le.refl _ | assumption | (apply Mem.le.trans; rotate_left; assumption))))) rfl rfl rfl rfl rfl rfl rfl rfl rfl rfl (by omega) hrow (fun _ => rfl) (fun p61 hp61 => ?_)
      refine D.loadP0 hp61 rfl rfl rfl rfl rfl rfl rfl rfl ?_
      iterate 2 refine D.pure rfl rfl rfl rfl rfl rfl ?_
      refine D.done [(9, [], _), (11, [], _), (13, [], _), (15, [], _), (16, [], _), (56, [], _), (57, [], _), (58, [], _)] ⟨rfl, rfl, rfl, rfl, rfl, rfl, rfl, rfl, trivial⟩ (hR _ _ _ rfl ?_); clear hR R
      refine G.draw [0, 1, 3, 4, 5, 6, 7, 2, 8, 9] [] rfl (by kernel_rfl) (fun R hB hR => ?_)
      iterate 3 refine D.pure rfl rfl rfl rfl rfl rfl ?_
      refine D.loadL (.head _) rfl rfl rfl rfl rfl rfl rfl rfl rfl ?_
      refine D.pure rfl rfl rfl rfl rfl rfl ?_
      refine D.index0 (hbs.mono (by (repeat (first | exact Mem.le.refl _ | assumption | (apply Mem.le.trans; rotate_left; assumption))))) rfl rfl rfl rfl rfl rfl rfl rfl rfl rfl (by omega) hbrow (fun _ => rfl) (fun p69 hp69 => ?_)
      refine D.loadP0 hp69 rfl rfl rfl rfl rfl rfl rfl rfl ?_
      refine D.callP (sum_fn _ (hT.mono (by (repeat (first | exact Mem.le.refl _ | assumption | (apply Mem.le.trans; rotate_left; assumption))))) _ _ p.1 zs 200 200 (hfL.mono (by (repeat (first | exact Mem.le.refl _ | assumption | (apply Mem.le.trans; rotate_left; assumption))))) (hxL.mono (by (repeat (first | exact Mem.le.refl _ | assumption | (apply Mem.le.trans; rotate_left; assumption))))) (by omega) (hsm.1 p hpm).1 hzsm (by omega)) rfl rfl rfl rfl rfl rfl rfl (fun _ => rfl) (fun v65 C65 hle65 hq65 => ?_)
      refine D.callP (fcmp_fn (hq65.mono (by (repeat (first | exact Mem.le.refl _ | assumption | (apply Mem.le.trans; rotate_left; assumption))))) (hbF.mono (by (repeat (first | exact Mem.le.refl _ | assumption | (apply Mem.le.trans; rotate_left; assumption))))) hds1 (hsm.1 p hpm).2 (by omega)) rfl rfl rfl rfl rfl rfl rfl (fun _ => rfl) (fun v71 C71 hle71 hq71 => ?_)
      obtain rfl := hq71
      refine D.pure rfl rfl rfl rfl rfl rfl ?_
      refine D.done [(9, [], _), (11, [], _), (13, [], _), (56, [], _), (57, [], _), (58, [], _), (72, [], _)] ⟨rfl, rfl, rfl, rfl, rfl, rfl, rfl, trivial⟩ (hR _ _ _ rfl ?_); clear hR hB R
      refine G.cond rfl (fun h72 => ?_) (fun h72 => ?_)
      · skip
        have hno : optM rows obj pt d = false := by
          have h5 : 0 < sgn (dotR p.1 zs - p.2) := by simpa using h72
          have h6 : (ps.all fun p => decide (sgn (dotR p.1 zs - p.2) ≤ 0)) = false := by
            rw [List.all_eq_false]
            refine ⟨p, hpm, ?_⟩
            simp; omega
          rw [hopt, h6]; simp
        refine G.region rfl (fun R hR => ?_)
        refine D.pure rfl rfl rfl rfl rfl rfl ?_
        refine D.done [(8, [], _)] ⟨rfl, trivial⟩ (hR _ _ _ rfl ?_); clear hR R
        refine G.retN (G.dropAll (G.fin1 rfl rfl ?_))
        exact ⟨by rw [hno], rfl⟩
      · skip
        have h5 : sgn (dotR p.1 zs - p.2) ≤ 0 := by
          have : ¬ 0 < sgn (dotR p.1 zs - p.2) := by simpa using h72
          omega
        refine G.region rfl (fun R hR => ?_)
        refine D.i64 _ rfl rfl rfl rfl rfl (by omega) (by omega) rfl rfl ?_
        refine D.pure rfl rfl rfl rfl rfl rfl ?_
        refine D.done [(9, [], _), (11, [], _), (13, [], _), (56, [], _), (57, [], _), (58, [], _)] ⟨rfl, rfl, rfl, rfl, rfl, rfl, trivial⟩ (hR _ _ _ rfl ?_); clear hR R
        refine G.again (m' := ps.length - (i + 1)) (by omega) (by (repeat (first | exact Mem.le.refl _ | assumption | (apply Mem.le.trans; rotate_left; assumption)))) (fr' := [(9, [], _), (11, [], _), (13, [], _), (56, [], _), (57, [], _), (58, [], _)]) ⟨rfl, rfl, rfl, rfl, rfl, rfl, trivial⟩ ⟨i + 1, ⟨by omega, fun x hx => by
          rw [List.take_add_one, hp0] at hx
          rcases List.mem_append.1 hx with h6 | h6
          · exact hall x h6
          · simp at h6; subst h6; exact h5⟩, rfl, rfl, rfl⟩
    · skip
      have hil : ps.length ≤ i := by
        have : ¬ (i : Int) < y.n := by simpa using h59
        omega
      rw [List.take_of_length_le hil] at hall
      have hA : (ps.all fun p => decide (sgn (dotR p.1 zs - p.2) ≤ 0)) = true := by
        rw [List.all_eq_true]; exact fun p hp => by simpa using hall p hp
      refine G.region rfl (fun R hR => ?_)
      refine D.loadL (.head _) rfl rfl rfl rfl rfl rfl rfl rfl rfl ?_
      iterate 2 refine D.pure rfl rfl rfl rfl rfl rfl ?_
      refine D.callP (sums_fn _ (hT.mono (by (repeat (first | exact Mem.le.refl _ | assumption | (apply Mem.le.trans; rotate_left; assumption))))) y ps ms cs.length (by obtain ⟨⟨vs', a1, a2⟩, a3, a4⟩ := hsys; exact ⟨⟨vs', a1.mono (by (repeat (first | exact Mem.le.refl _ | assumption | (apply Mem.le.trans; rotate_left; assumption)))), a2.mono (by (repeat (first | exact Mem.le.refl _ | assumption | (apply Mem.le.trans; rotate_left; assumption))))⟩, a3.mono (by (repeat (first | exact Mem.le.refl _ | assumption | (apply Mem.le.trans; rotate_left; assumption)))), a4.mono (by (repeat (first | exact Mem.le.refl _ | assumption | (apply Mem.le.trans; rotate_left; assumption))))⟩) (by omega) (fun p hp => by have := hpn p hp; omega) hsm (by omega) (by omega)) rfl rfl rfl rfl rfl rfl rfl (fun _ => rfl) (fun v78 C78 hle78 hq78 => ?_)
      obtain ⟨As, c8, x8, rfl, ⟨ws, hws, hwr⟩, hworth⟩ := hq78
      iterate 3 refine D.pure rfl rfl rfl rfl rfl rfl ?_
      refine D.alloc rfl rfl rfl rfl rfl (fun _ => rfl) (fun b18 => ?_)
      refine D.pure rfl rfl rfl rfl rfl rfl ?_
      refine D.store (j := 0) rfl rfl rfl rfl rfl rfl rfl rfl rfl rfl rfl rfl ?_
      refine D.done [(9, [], _), (11, [], _), (17, [], _), (18, [], _)] ⟨rfl, rfl, rfl, rfl, trivial⟩ (hR _ _ _ rfl ?_); clear hR R
      refine G.region rfl (fun R hR => ?_)
      iterate 3 refine D.pure rfl rfl rfl rfl rfl rfl ?_
      refine D.done [(9, [], _), (11, [], _), (17, [], _), (18, [], _), (82, [], _), (83, [], _)] ⟨rfl, rfl, rfl, rfl, rfl, rfl, trivial⟩ (hR _ _ _ rfl ?_); clear hR R
      refine G.loop (fun fr C' L' μ => ∃ (i : Nat), (i ≤ cs.length ∧ ∀ v, v < i → sgn (dotR ms (colR ps v) + gQ cs v) = 0) ∧ fr = [(9, [], .slice Ac cs.length cc), (11, [], .slice Ax zs.length cx2), (17, [], .slice As cs.length c8), (18, [], .pointer (some ⟨b18, 0, none⟩)), (82, [], .int .i64 cs.length), (83, [], .int .i64 i)] ∧ L' = [.obj b18 (.cells ⟨x8.enc⟩ 57 (0, 0)), .obj b13 (.cells ⟨y.enc⟩ 76 (0, 0)), .obj b7 (.cells ⟨[.slice Ad nd cd]⟩ 47 (0, 0))] ∧ μ = cs.length - i) (fr' := [(9, [], _), (11, [], _), (17, [], _), (18, [], _), (82, [], _), (83, [], _)]) ⟨rfl, rfl, rfl, rfl, rfl, rfl, trivial⟩ ⟨0, ⟨Nat.zero_le _, fun v hv => by omega⟩, rfl, rfl, rfl⟩ (fun fr C1' L1' m hle1 hI => ?_)
      obtain ⟨i, ⟨hj, hcol⟩, rfl, rfl, rfl⟩ := hI
      refine G.region rfl (fun R hR => ?_)
      refine D.pure rfl rfl rfl rfl rfl rfl ?_
      refine D.done [(9, [], _), (11, [], _), (17, [], _), (18, [], _), (82, [], _), (83, [], _), (84, [], _)] ⟨rfl, rfl, rfl, rfl, rfl, rfl, rfl, trivial⟩ (hR _ _ _ rfl ?_); clear hR R
      refine G.cond rfl (fun h84 => ?_) (fun h84 => ?_)
      · skip
        have hjl : i < cs.length := by simpa using h84
        have hsl : (sumsR ps ms cs.length).length = cs.length := by simp [sumsR]
        obtain ⟨w1, hw0, hwrow, hwF⟩ := hwr.get (gQ_get (l := sumsR ps ms cs.length) (i := i) (by omega))
        rw [sumsR_get hjl] at hwF
        obtain ⟨ds, hdsS, hdr⟩ := hcL
        obtain ⟨w2, hw20, hw2row, hw2F⟩ := hdr.get (gQ_get hjl)
        have hcolS : ∀ q ∈ colR ps i, SmQ 200 q := fun q hq => by
          unfold colR at hq
          obtain ⟨p, hp, rfl⟩ := List.mem_map.1 hq
          exact (hsm.1 p hp).1 _ (gQ_mem (by have := hpn p hp; omega))
        have hds2 : SmQ 401001 (dotR ms (colR ps i)) := (dotN_sm hsm.2 hcolS (by unfold colR; rw [List.length_map]; omega) _ (Nat.le_refl _)).le (by omega)
        refine G.region rfl (fun R hR => ?_)
        iterate 2 refine D.pure rfl rfl rfl rfl rfl rfl ?_
        refine D.done [(9, [], _), (11, [], _), (17, [], _), (18, [], _), (19, [], _), (82, [], _), (83, [], _)] ⟨rfl, rfl, rfl, rfl, rfl, rfl, rfl, trivial⟩ (hR _ _ _ rfl ?_); clear hR R
        refine G.draw [0, 1, 2, 3, 4, 5, 6, 7, 8, 9, 10] [(9, 1)] rfl (by kernel_rfl) (fun R hB hR => ?_)
        iterate 2 refine D.pure rfl rfl rfl rfl rfl rfl ?_
        refine D.index0 (hws.mono (by (repeat (first | exact Mem.le.refl _ | assumption | (apply Mem.le.trans; rotate_left; assumption))))) rfl rfl rfl rfl rfl rfl rfl rfl rfl rfl (by omega) hwrow (fun _ => rfl) (fun p88 hp88 => ?_)
        refine D.loadP0 hp88 rfl rfl rfl rfl rfl rfl rfl rfl ?_
        iterate 2 refine D.pure rfl rfl rfl rfl rfl rfl ?_
        refine D.index0 (hdsS.mono (by (repeat (first | exact Mem.le.refl _ | assumption | (apply Mem.le.trans; rotate_left; assumption))))) rfl rfl rfl rfl rfl rfl rfl rfl rfl rfl (by omega) hw2row (fun _ => rfl) (fun p92 hp92 => ?_)
        refine D.loadP0 hp92 rfl rfl rfl rfl rfl rfl rfl rfl ?_
        refine D.callP (fadd_fn (hwF.mono (by (repeat (first | exact Mem.le.refl _ | assumption | (apply Mem.le.trans; rotate_left; assumption))))) (hw2F.mono (by (repeat (first | exact Mem.le.refl _ | assumption | (apply Mem.le.trans; rotate_left; assumption))))) hds2 (hcsm _ (gQ_mem hjl)) (by omega)) rfl rfl rfl rfl rfl rfl rfl (fun _ => rfl) (fun v94 C94 hle94 hq94 => ?_)
        refine D.gives (fun _ => (sign_fn hq94)) rfl rfl rfl rfl rfl rfl rfl rfl rfl ?_
        refine D.pure rfl rfl rfl rfl rfl rfl ?_
        refine D.done [(9, [], _), (11, [], _), (17, [], _), (18, [], _), (82, [], _), (83, [], _), (96, [], _)] ⟨rfl, rfl, rfl, rfl, rfl, rfl, rfl, trivial⟩ (hR _ _ _ rfl ?_); clear hR hB R
        refine G.cond rfl (fun h96 => ?_) (fun h96 => ?_)
        · skip
          have hno : optM rows obj pt d = false := by
            have h5 : ¬ sgn (dotR ms (colR ps i) + gQ cs i) = 0 := by simpa using h96
            have h6 : ((List.range cs.length).all fun v => sgn (dotR ms (colR ps v) + gQ cs v) == 0) = false := by
              rw [List.all_eq_false]
              exact ⟨i, List.mem_range.2 hjl, by simpa using h5⟩
            rw [hopt, h6]; simp
          refine G.region rfl (fun R hR => ?_)
          refine D.pure rfl rfl rfl rfl rfl rfl ?_
          refine D.done [(8, [], _)] ⟨rfl, trivial⟩ (hR _ _ _ rfl ?_); clear hR R
          refine G.retN (G.dropAll (G.fin1 rfl rfl ?_))
          exact ⟨by rw [hno], rfl⟩
        · skip
          have h5 : sgn (dotR ms (colR ps i) + gQ cs i) = 0 := by simpa using h96
          refine G.region rfl (fun R hR => ?_)
          refine D.i64 _ rfl rfl rfl rfl rfl (by omega) (by omega) rfl rfl ?_
          refine D.pure rfl rfl rfl rfl rfl rfl ?_
          refine D.done [(9, [], _), (11, [], _), (17, [], _), (18, [], _), (82, [], _), (83, [], _)] ⟨rfl, rfl, rfl, rfl, rfl, rfl, trivial⟩ (hR _ _ _ rfl ?_); clear hR R
          refine G.again (m' := cs.length - (i + 1)) (by omega) (by (repeat (first | exact Mem.le.refl _ | assumption | (apply Mem.le.trans; rotate_left; assumption)))) (fr' := [(9, [], _), (11, [], _), (17, [], _), (18, [], _), (82, [], _), (83, [], _)]) ⟨rfl, rfl, rfl, rfl, rfl, rfl, trivial⟩ ⟨i + 1, ⟨by omega, fun v hv => by
            by_cases hvi : v = i
            · rw [hvi]; exact h5
            · exact hcol v (by omega)⟩, rfl, rfl, rfl⟩
      · skip
        have hjl : i = cs.length := by
          have : ¬ i < cs.length := by simpa using h84
          omega
        have hB : ((List.range cs.length).all fun v => sgn (dotR ms (colR ps v) + gQ cs v) == 0) = true := by
          rw [List.all_eq_true]
          intro v hv
          have := hcol v (by rw [hjl]; exact List.mem_range.1 hv)
          simpa using this
        have hbss : ∀ q ∈ ps.map (·.2), SmQ 200 q := fun q hq => by obtain ⟨p, hp, rfl⟩ := List.mem_map.1 hq; exact (hsm.1 p hp).2
        have hds3 : SmQ 401001 (dotR ms (ps.map (·.2))) := (dotN_sm hsm.2 hbss (by rw [List.length_map]; omega) _ (Nat.le_refl _)).le (by omega)
        have hds4 : SmQ 401001 (dotR cs zs) := (dotN_sm hcsm hzsm (by omega) _ (Nat.le_refl _)).le (by omega)
        refine G.draw [0, 1, 2, 3, 4, 5, 6, 7] [(5, 1)] rfl (by kernel_rfl) (fun R hB hR => ?_)
        refine D.loadL (.head _) rfl rfl rfl rfl rfl rfl rfl rfl rfl ?_
        iterate 2 refine D.pure rfl rfl rfl rfl rfl rfl ?_
        refine D.callP (sum_fn _ (hT.mono (by (repeat (first | exact Mem.le.refl _ | assumption | (apply Mem.le.trans; rotate_left; assumption))))) _ _ cs zs 200 200 (hcL.mono (by (repeat (first | exact Mem.le.refl _ | assumption | (apply Mem.le.trans; rotate_left; assumption))))) (hxL.mono (by (repeat (first | exact Mem.le.refl _ | assumption | (apply Mem.le.trans; rotate_left; assumption))))) (by omega) hcsm hzsm (by omega)) rfl rfl rfl rfl rfl rfl rfl (fun _ => rfl) (fun v101 C101 hle101 hq101 => ?_)
        refine D.callP (fadd_fn (hworth.mono (by (repeat (first | exact Mem.le.refl _ | assumption | (apply Mem.le.trans; rotate_left; assumption))))) (hq101.mono (by (repeat (first | exact Mem.le.refl _ | assumption | (apply Mem.le.trans; rotate_left; assumption))))) hds3 hds4 (by omega)) rfl rfl rfl rfl rfl rfl rfl (fun _ => rfl) (fun v102 C102 hle102 hq102 => ?_)
        refine D.gives (fun _ => (sign_fn hq102)) rfl rfl rfl rfl rfl rfl rfl rfl rfl ?_
        iterate 2 refine D.pure rfl rfl rfl rfl rfl rfl ?_
        refine D.done [(8, [], _)] ⟨rfl, trivial⟩ (hR _ _ _ rfl ?_); clear hR hB R
        refine G.retN (G.dropAll (G.fin1 rfl rfl ?_))
        refine ⟨?_, rfl⟩
        rw [hopt, hA, hB]
        simp [hzc]
end Go.Proofs.YtfelabnohopfdaaGreatDoor
namespace Go.Proofs.YtfelabnohopfdaaGreatDoor
open Go Go.Jog
set_option maxRecDepth 100000

/-! ### units -/
theorem units_fn (C : Mem) (v : Value) (l : List Rel) (hv : Sl C 3 v (l.map Rel.enc)) (hl : l.length ≤ 100000) : Pur cx.P 51 [v] C fun u C' => Sl C' 1 u ((unitsL l).map encS) := by
  have hv0 := hv
  obtain ⟨A, c, rfl, _⟩ := hv0
  refine Fn.intro (by kernel_rfl) Tryz.func51 rfl 24 rfl rfl (fun w0 => ?_)
  refine G.region rfl (fun R hR => ?_)
  refine D.pure rfl rfl rfl rfl rfl rfl ?_
  refine D.done [(0, [], _)] ⟨rfl, trivial⟩ (hR _ _ _ rfl ?_); clear hR R
  refine G.region rfl (fun R hR => ?_)
  refine D.pure rfl rfl rfl rfl rfl rfl ?_
  refine D.done [(0, [], _), (3, [], _)] ⟨rfl, rfl, trivial⟩ (hR _ _ _ rfl ?_); clear hR R
  refine G.region rfl (fun R hR => ?_)
  iterate 3 refine D.pure rfl rfl rfl rfl rfl rfl ?_
  refine D.done [(3, [], _), (6, [], _), (7, [], _), (8, [], _)] ⟨rfl, rfl, rfl, rfl, trivial⟩ (hR _ _ _ rfl ?_); clear hR R
  refine G.nilArr 9 1 ?_
  refine G.loop (fun fr C' L' μ => ∃ (k : Nat) (w3 : Value), (k ≤ l.length) ∧ fr = [(3, [], w3), (6, [], .slice A (l.map Rel.enc).length c), (7, [], .int .i64 (l.map Rel.enc).length), (8, [], .int .i64 k)] ∧ L' = [.arr w3 9 1 (namesOf (l.take k)).length ((namesOf (l.take k)).map encS).flatten] ∧ μ = l.length - k) (fr' := [(3, [], _), (6, [], _), (7, [], _), (8, [], _)]) ⟨rfl, rfl, rfl, rfl, trivial⟩ ⟨0, .slice none 0 0, Nat.zero_le _, rfl, rfl, rfl⟩ (fun fr C0' L0' m hle0 hI => ?_)
  obtain ⟨k, w3, hk, rfl, rfl, rfl⟩ := hI
  refine G.region rfl (fun R hR => ?_)
  refine D.pure rfl rfl rfl rfl rfl rfl ?_
  refine D.done [(3, [], _), (6, [], _), (7, [], _), (8, [], _), (9, [], _)] ⟨rfl, rfl, rfl, rfl, rfl, trivial⟩ (hR _ _ _ rfl ?_); clear hR R
  refine G.cond rfl (fun h9 => ?_) (fun h9 => ?_)
  · skip
    simp only [List.length_map, decide_eq_true_eq] at h9
    have hkl : k < l.length := by omega
    obtain ⟨x, hx⟩ : ∃ x, l[k]? = some x := ⟨l[k], List.getElem?_eq_getElem hkl⟩
    have hv1 := hv.mono hle0
    have hal := namesOf_len (l.take k)
    have hal2 : (l.take k).length ≤ l.length := by simp; omega
    have htk : namesOf (l.take (k + 1)) = namesOf (l.take k) ++ [x.upper, x.lower] := by
      have : l.take (k + 1) = l.take k ++ [x] := by rw [List.take_add_one, hx]; rfl
      rw [this, namesOf, List.map_append, List.flatten_append]; simp [namesOf]
    refine G.region rfl (fun R hR => ?_)
    refine D.index0 hv1 rfl rfl rfl rfl rfl rfl rfl rfl rfl rfl (by omega) (row := x.enc) (by simp [hx]) (fun _ => rfl) (fun p10 hp10 => ?_)
    refine D.loadP0 hp10 rfl rfl rfl rfl rfl rfl rfl rfl ?_
    refine D.alloc rfl rfl rfl rfl rfl (fun _ => rfl) (fun b5 => ?_)
    refine D.store (j := 0) rfl rfl rfl rfl rfl rfl rfl rfl rfl rfl rfl rfl ?_
    refine D.done [(3, [], _), (5, [], _), (6, [], _), (7, [], _), (8, [], _)] ⟨rfl, rfl, rfl, rfl, rfl, trivial⟩ (hR _ _ _ rfl ?_); clear hR R
    refine G.region rfl (fun R hR => ?_)
    iterate 2 refine D.pure rfl rfl rfl rfl rfl rfl ?_
    refine D.loadL (.head _) rfl rfl rfl rfl rfl rfl rfl rfl rfl ?_
    refine D.pure rfl rfl rfl rfl rfl rfl ?_
    refine D.loadL (.head _) rfl rfl rfl rfl rfl rfl rfl rfl rfl ?_
    refine D.buildSlice [encS x.upper, encS x.lower] rfl rfl rfl rfl rfl rfl rfl rfl rfl rfl rfl rfl (fun _ => rfl) (fun p17 C17 hle17 hs17 => ?_)
    refine D.append (j := 1) rfl rfl rfl rfl rfl rfl rfl rfl rfl rfl rfl hs17 rfl (by simp only [List.length_cons, List.length_nil, maxLen]; omega) (by simp only [List.length_cons, List.length_nil]; omega) (fun _ => rfl) (fun v18 => ?_)
    refine D.pure rfl rfl rfl rfl rfl rfl ?_
    refine D.done [(3, [], _), (6, [], _), (7, [], _), (8, [], _)] ⟨rfl, rfl, rfl, rfl, trivial⟩ (hR _ _ _ rfl ?_); clear hR R
    refine G.region rfl (fun R hR => ?_)
    refine D.i64 _ rfl rfl rfl rfl rfl (by omega) (by omega) rfl rfl ?_
    refine D.pure rfl rfl rfl rfl rfl rfl ?_
    refine D.done [(3, [], _), (6, [], _), (7, [], _), (8, [], _)] ⟨rfl, rfl, rfl, rfl, trivial⟩ (hR _ _ _ rfl ?_); clear hR R
    refine G.dropE 1 rfl ?_
    refine G.eqL (L' := [.arr v18 9 1 (namesOf (l.take (k + 1))).length ((namesOf (l.take (k + 1))).map encS).flatten]) (by rw [htk]; simp) ?_
    refine G.again (m' := l.length - (k + 1)) (by omega) (hle0.trans hle17) (fr' := [(3, [], _), (6, [], _), (7, [], _), (8, [], _)]) ⟨rfl, rfl, rfl, rfl, trivial⟩ ⟨k + 1, v18, by omega, rfl, rfl, rfl⟩
  · skip
    simp only [List.length_map, decide_eq_false_iff_not] at h9
    have hkl : k = l.length := by omega
    subst hkl
    have hnl := namesOf_len l
    refine G.eqL (L' := [.arr w3 9 1 (namesOf l).length ((namesOf l).map strV)]) (by rw [List.take_length, flat_enc]) ?_
    refine G.regionO [(1, 3)] rfl (fun R hR => ?_)
    refine D.pure rfl rfl rfl rfl rfl rfl ?_
    refine D.call (sortStr_fn Tryz.sortStr _ w3 9 (namesOf l) (by omega) (by kernel_rfl)) rfl (.inr (by decide)) rfl rfl rfl rfl rfl rfl (List.Perm.refl _) (fun _ => rfl) (fun v21 C21 L21 hle21 hq21 => ?_)
    refine D.done [(3, [], _)] ⟨rfl, trivial⟩ (hR _ _ _ rfl ?_); clear hR R
    obtain ⟨rfl, rfl⟩ := hq21
    have hperm := List.mergeSort_perm (namesOf l) (fun x y => decide (x ≤ y))
    have hsorted := ms_sorted (namesOf l)
    obtain ⟨l', hl'⟩ : ∃ l', (namesOf l).mergeSort (fun x y => decide (x ≤ y)) = l' := ⟨_, rfl⟩
    rw [hl'] at hperm hsorted
    have hl'len := hperm.length_eq
    refine G.eqL (L' := [.arr w3 9 1 l'.length (l'.map encS).flatten]) (by rw [hl', hl'len, flat_enc]; rfl) ?_
    refine G.regionO [(1, 3)] rfl (fun R hR => ?_)
    refine D.pure rfl rfl rfl rfl rfl rfl ?_
    refine D.call (compact_str _ _ l' (by rw [hl'len]; omega)) rfl (.inr (by decide)) rfl rfl rfl rfl rfl rfl (List.Perm.refl _) (fun _ => rfl) (fun v23 C23 L23 hle23 hq23 => ?_)
    obtain ⟨rfl, hcs⟩ := hq23
    refine D.pure rfl rfl rfl rfl rfl rfl ?_
    refine D.done [(2, [], _)] ⟨rfl, trivial⟩ (hR _ _ _ rfl ?_); clear hR R
    refine G.retN (G.dropAll (G.fin1 rfl rfl ?_))
    refine ⟨rfl, ?_⟩
    rw [unitsL, ← tot_cmpS.compact_eq hperm hsorted]
    exact hcs

/-! ### The graph -/
def Arc3.enc (a : Arc3) : List Value := [.int .i64 a.i, .int .i64 a.lo, .int .i64 a.up]
def posS : List Str → Str → Nat
  | [], _ => 0
  | x :: l, s => if x = s then 0 else posS l s + 1
def atM : List Str → Nat → List (Str × Value)
  | [], _ => []
  | s :: l, i => (s, .int .i64 i) :: atM l (i + 1)
theorem posS_lt : ∀ {N : List Str} {s : Str}, s ∈ N → posS N s < N.length
  | [], _, h => by cases h
  | x :: N, s, h => by
    simp only [posS]
    split
    · simp
    · rename_i e
      have := posS_lt ((List.mem_cons.1 h).resolve_left (fun e2 => e e2.symm))
      simp; omega
theorem posS_at : ∀ {N : List Str} {s : Str}, s ∈ N → N[posS N s]? = some s
  | [], _, h => by cases h
  | x :: N, s, h => by
    simp only [posS]
    split
    · rename_i e; simp [e]
    · rename_i e
      simpa using posS_at ((List.mem_cons.1 h).resolve_left (fun e2 => e e2.symm))
theorem mget_atM : ∀ {N : List Str} {i : Nat} {s : Str}, mget (atM N i) s = if s ∈ N then some (.int .i64 ((i + posS N s : Nat) : Int)) else none
  | [], i, s => by simp [atM, mget]
  | x :: N, i, s => by
    simp only [atM, mget, posS]
    by_cases e : x = s
    · subst e; simp
    · rw [if_neg e, if_neg e, mget_atM]
      have e' : ¬ s = x := fun h => e h.symm
      by_cases h : s ∈ N
      · rw [if_pos h, if_pos (by simp [h])]
        congr 3
        omega
      · rw [if_neg h, if_neg (by simp [h, e'])]
theorem mset_atM : ∀ {N : List Str} {i : Nat} {s : Str}, s ∉ N → mset (atM N i) s (.int .i64 ((i + N.length : Nat) : Int)) = atM (N ++ [s]) i
  | [], i, s, _ => by simp [atM, mset]
  | x :: N, i, s, h => by
    simp only [List.mem_cons, not_or] at h
    simp only [List.cons_append, atM, mset, if_neg (Ne.symm h.1)]
    congr 1
    rw [← mset_atM h.2]
    congr 3
    simp; omega
def arcAt (N : List Str) (l : List Rel) (i : Nat) : List Arc3 := match l[i]? with
  | some x => oneIf (!(x.kind == 4)) ⟨i, posS N x.lower, posS N x.upper⟩
  | none => []
def arcs3 (N : List Str) (l : List Rel) : List Arc3 := cat (arcAt N l) l.length
theorem unitsL_nodup (l : List Rel) : (unitsL l).Nodup := by
  rw [List.nodup_iff_pairwise_ne]
  refine (tot_cmpS.setL_strict (namesOf l)).imp (fun {a b} h e => ?_)
  subst e
  have := (tot_cmpS.eq a a).2 rfl
  omega
theorem mem_units {l : List Rel} {x : Rel} (hx : x ∈ l) : x.lower ∈ unitsL l ∧ x.upper ∈ unitsL l := by
  rw [unitsL, mem_setL, mem_setL, mem_namesOf, mem_namesOf]
  exact ⟨⟨x, hx, .inr rfl⟩, ⟨x, hx, .inl rfl⟩⟩
theorem nexts_append {A : List Arc3} {a : Arc3} {i : Nat} : nexts (A ++ [a]) i = nexts A i ++ (if a.lo = i then [a] else []) := by
  unfold nexts
  rw [List.filter_append]
  by_cases h : a.lo = i <;> simp [h]

/-- What the graph's object is. -/
structure GraphAt (C : Mem) (p : Value) (N : List Str) (A : List Arc3) (b bm : Nat) (vn va vx : Value) (vs : List Value) : Prop where
  ptr : p = .pointer (some ⟨b, 0, none⟩)
  obj : C b = some (.cells ⟨[vn, .map (some bm), va, vx]⟩ 128 (0, 0))
  names : Sl C 1 vn (N.map encS)
  at_ : C bm = some (mapOf keyS.enc (atM N 0))
  arcs : Sl C 3 va (A.map Arc3.enc)
  nx : Sl C 1 vx (vs.map fun v => [v])
  len : vs.length = N.length
  rows : ∀ i v, vs[i]? = some v → Sl C 3 v ((nexts A i).map Arc3.enc)
theorem GraphAt.mono {C D : Mem} {p : Value} {N : List Str} {A : List Arc3} {b bm : Nat} {vn va vx : Value} {vs : List Value} (h : GraphAt C p N A b bm vn va vx vs) (hl : C.le D) : GraphAt D p N A b bm vn va vx vs :=
  ⟨h.ptr, hl _ _ h.obj, h.names.mono hl, hl _ _ h.at_, h.arcs.mono hl, h.nx.mono hl, h.len, fun i v hv => (h.rows i v hv).mono hl⟩
def Graph (C : Mem) (p : Value) (N : List Str) (A : List Arc3) : Prop := ∃ b bm vn va vx vs, GraphAt C p N A b bm vn va vx vs
theorem Graph.mono {C D : Mem} {p : Value} {N : List Str} {A : List Arc3} (h : Graph C p N A) (hl : C.le D) : Graph D p N A :=
  let ⟨b, bm, vn, va, vx, vs, h⟩ := h
  ⟨b, bm, vn, va, vx, vs, h.mono hl⟩

/-- The rows of arcs from each place, while they are made. -/
def rowE (r : Value × List Arc3) : Ent := .arr r.1 130 3 r.2.length (r.2.map Arc3.enc).flatten
theorem rows_perm : ∀ {R : List (Value × List Arc3)} {i : Nat} {r r' : Value × List Arc3}, R[i]? = some r → (rowE r' :: (R.map rowE).eraseIdx i).Perm ((R.set i r').map rowE)
  | [], _, _, _, h => by simp at h
  | x :: R, 0, r, r', _ => by simp
  | x :: R, i + 1, r, r', h => by
    have := rows_perm (R := R) (i := i) (r := r) (r' := r') (by simpa using h)
    simp only [List.map_cons, List.eraseIdx_cons_succ, List.set_cons_succ]
    exact (List.Perm.swap _ _ _).trans (this.cons _)
theorem G.freezeRows {F : Fx} {k : List KI} {fr : Fr} {e : Exit} : ∀ (R : List (Value × List Arc3)) {C : Mem} {L : List Ent}, (∀ C', C.le C' → (∀ r ∈ R, Sl C' 3 r.1 (r.2.map Arc3.enc)) → G F k e fr C' L) → G F k e fr C (R.map rowE ++ L)
  | [], C, L, h => h C (Mem.le.refl _) (fun r hr => by cases hr)
  | r :: R, C, L, h => by
    refine G.freezeArr 0 (r.2.map Arc3.enc) rfl rfl (by intro x hx; obtain ⟨y, _, rfl⟩ := List.mem_map.1 hx; rfl) (by simp) (fun C' hle hs => ?_)
    refine G.freezeRows R (fun C'' hle2 hR => h C'' (hle.trans hle2) (fun x hx => ?_))
    rcases List.mem_cons.1 hx with rfl | hx
    · exact hs.mono hle2
    · exact hR x hx

theorem unitsL_len (l : List Rel) : (unitsL l).length ≤ 2 * l.length := by
  rw [← namesOf_len]
  exact List.Nodup.length_le_of_subset (unitsL_nodup l) (fun s hs => mem_setL.1 hs)
theorem zrow_rows (n : Nat) : zrow [Value.slice none 0 0] n = (List.replicate n ((.slice none 0 0, []) : Value × List Arc3)).map (·.1) := by
  rw [zrow_flatten]
  induction n with
  | zero => rfl
  | succ n ih => simp [List.replicate_succ, ih]
theorem G.nilRows {F : Fx} {k : List KI} {fr : Fr} {e : Exit} {C : Mem} : ∀ (n : Nat) {L : List Ent}, G F k e fr C ((List.replicate n ((.slice none 0 0, []) : Value × List Arc3)).map rowE ++ L) → G F k e fr C L
  | 0, L, h => h
  | n + 1, L, h => by
    refine G.nilRows n (L := L) ?_
    have h2 : G F k e fr C (rowE (.slice none 0 0, []) :: ((List.replicate n ((.slice none 0 0, []) : Value × List Arc3)).map rowE ++ L)) := by
      have := h
      rw [List.replicate_succ] at this
      exact this
    exact G.nilArr 130 3 h2
theorem arcAt_len (N : List Str) (l : List Rel) (k : Nat) : (cat (arcAt N l) k).length ≤ k := by
  have := cat_length_mul (f := arcAt N l) (m := 1) (fun i => by
    unfold arcAt; split
    · exact oneIf_len _ _
    · simp) k
  omega
theorem row1 {vs : List Value} : (vs.map fun v => [v]).flatten = vs := by
  induction vs with
  | nil => rfl
  | cons v vs ih => simp [ih]

set_option maxHeartbeats 2000000 in
theorem build_fn (C : Mem) (v : Value) (l : List Rel) (hv : Sl C 3 v (l.map Rel.enc)) (hl : l.length ≤ 100000) : Pur cx.P 22 [v] C fun p C' => Graph C' p (unitsL l) (arcs3 (unitsL l) l) := by
  have hv0 := hv
  obtain ⟨A, c, rfl, _⟩ := hv0
  obtain ⟨N, hN⟩ : ∃ N, unitsL l = N := ⟨_, rfl⟩
  have hNl : N.length ≤ 200000 := by rw [← hN]; have := unitsL_len l; omega
  have hNd : N.Nodup := by rw [← hN]; exact unitsL_nodup l
  have hmem : ∀ {x : Rel}, x ∈ l → x.lower ∈ N ∧ x.upper ∈ N := fun hx => by rw [← hN]; exact mem_units hx
  rw [hN]
  refine Fn.intro (by kernel_rfl) Tryz.func22 rfl 96 rfl rfl (fun w0 => ?_)
  refine G.region rfl (fun R hR => ?_)
  refine D.pure rfl rfl rfl rfl rfl rfl ?_
  refine D.done [(0, [], _)] ⟨rfl, trivial⟩ (hR _ _ _ rfl ?_); clear hR R
  refine G.region rfl (fun R hR => ?_)
  refine D.pure rfl rfl rfl rfl rfl rfl ?_
  refine D.callP (units_fn _ _ l hv hl) rfl rfl rfl rfl rfl rfl rfl (fun _ => rfl) (fun v10 C10 hle10 hq10 => ?_)
  rw [hN] at hq10
  obtain ⟨An, cn, hvn, _⟩ := id hq10
  subst hvn
  refine D.makeMap keyS rfl rfl rfl rfl (fun _ => rfl) (fun b11 => ?_)
  refine D.build [.slice An (N.map encS).length cn, .map (some b11), .slice none 0 0, .slice none 0 0] rfl rfl rfl rfl rfl rfl rfl rfl ?_
  refine D.box rfl rfl rfl rfl rfl rfl (fun _ => rfl) (fun b13 => ?_)
  refine D.pure rfl rfl rfl rfl rfl rfl ?_
  refine D.done [(0, [], _), (3, [], _)] ⟨rfl, rfl, trivial⟩ (hR _ _ _ rfl ?_); clear hR R
  refine G.region rfl (fun R hR => ?_)
  iterate 3 refine D.pure rfl rfl rfl rfl rfl rfl ?_
  refine D.loadL (.head _) rfl rfl rfl rfl rfl rfl rfl rfl rfl ?_
  iterate 2 refine D.pure rfl rfl rfl rfl rfl rfl ?_
  refine D.done [(0, [], _), (3, [], _), (17, [], _), (18, [], _), (19, [], _)] ⟨rfl, rfl, rfl, rfl, rfl, trivial⟩ (hR _ _ _ rfl ?_); clear hR R
  refine G.loop (fun fr C' L' μ => ∃ (k : Nat), (k ≤ N.length) ∧ fr = [(0, [], .slice A (l.map Rel.enc).length c), (3, [], .pointer (some ⟨b13, 0, none⟩)), (17, [], .slice An (N.map encS).length cn), (18, [], .int .i64 (N.map encS).length), (19, [], .int .i64 k)] ∧ L' = [.obj b13 (.cells ⟨[.slice An (N.map encS).length cn, .map (some b11), .slice none 0 0, .slice none 0 0]⟩ 128 (0, 0)), .obj b11 (mapOf keyS.enc (atM (N.take k) 0))] ∧ μ = N.length - k) (fr' := [(0, [], _), (3, [], _), (17, [], _), (18, [], _), (19, [], _)]) ⟨rfl, rfl, rfl, rfl, rfl, trivial⟩ ⟨0, Nat.zero_le _, rfl, rfl, rfl⟩ (fun fr C0' L0' m hle0 hI => ?_)
  obtain ⟨k, hk, rfl, rfl, rfl⟩ := hI
  refine G.region rfl (fun R hR => ?_)
  refine D.pure rfl rfl rfl rfl rfl rfl ?_
  refine D.done [(0, [], _), (3, [], _), (17, [], _), (18, [], _), (19, [], _), (20, [], _)] ⟨rfl, rfl, rfl, rfl, rfl, rfl, trivial⟩ (hR _ _ _ rfl ?_); clear hR R
  refine G.cond rfl (fun h20 => ?_) (fun h20 => ?_)
  · skip
    simp only [List.length_map, decide_eq_true_eq] at h20
    have hkl : k < N.length := by omega
    obtain ⟨s, hs⟩ : ∃ s, N[k]? = some s := ⟨N[k], List.getElem?_eq_getElem hkl⟩
    have hrs : (N.map encS)[k]? = some (encS s) := by simp [hs]
    have htk : N.take (k + 1) = N.take k ++ [s] := by rw [List.take_add_one, hs]; rfl
    have hsn : s ∉ N.take k := fun hm => by
      obtain ⟨j, hj⟩ := List.getElem?_of_mem hm
      rw [List.getElem?_take] at hj
      split at hj
      · rename_i hjk
        have := (List.getElem?_inj (i := j) (j := k) (by omega) hNd).1 (hj.trans hs.symm)
        omega
      · cases hj
    have hset := mset_atM (i := 0) hsn
    rw [← htk, List.length_take, Nat.min_eq_left (by omega), Nat.zero_add] at hset
    refine G.region rfl (fun R hR => ?_)
    refine D.pure rfl rfl rfl rfl rfl rfl ?_
    refine D.index0 (hq10.mono hle0) rfl rfl rfl rfl rfl rfl rfl rfl rfl rfl (by omega) hrs (fun _ => rfl) (fun p22 hp22 => ?_)
    refine D.loadP0 hp22 rfl rfl rfl rfl rfl rfl rfl rfl ?_
    iterate 2 refine D.pure rfl rfl rfl rfl rfl rfl ?_
    refine D.done [(0, [], _), (3, [], _), (4, [], _), (5, [], _), (17, [], _), (18, [], _), (19, [], _)] ⟨rfl, rfl, rfl, rfl, rfl, rfl, rfl, trivial⟩ (hR _ _ _ rfl ?_); clear hR R
    refine G.region rfl (fun R hR => ?_)
    iterate 3 refine D.pure rfl rfl rfl rfl rfl rfl ?_
    refine D.loadL (.head _) rfl rfl rfl rfl rfl rfl rfl rfl rfl ?_
    iterate 2 refine D.pure rfl rfl rfl rfl rfl rfl ?_
    refine D.mapUpdate keyS (j := 1) rfl rfl rfl rfl rfl rfl rfl rfl rfl rfl (by kernel_rfl) ?_
    refine D.done [(0, [], _), (3, [], _), (17, [], _), (18, [], _), (19, [], _)] ⟨rfl, rfl, rfl, rfl, rfl, trivial⟩ (hR _ _ _ rfl ?_); clear hR R
    refine G.region rfl (fun R hR => ?_)
    refine D.i64 _ rfl rfl rfl rfl rfl (by omega) (by omega) rfl rfl ?_
    refine D.pure rfl rfl rfl rfl rfl rfl ?_
    refine D.done [(0, [], _), (3, [], _), (17, [], _), (18, [], _), (19, [], _)] ⟨rfl, rfl, rfl, rfl, rfl, trivial⟩ (hR _ _ _ rfl ?_); clear hR R
    refine G.perm (L' := [.obj b13 (.cells ⟨[.slice An (N.map encS).length cn, .map (some b11), .slice none 0 0, .slice none 0 0]⟩ 128 (0, 0)), .obj b11 (mapOf keyS.enc (atM (N.take (k + 1)) 0))]) (by rw [← hset]; exact List.Perm.swap _ _ _) ?_
    refine G.again (m' := N.length - (k + 1)) (by omega) hle0 (fr' := [(0, [], _), (3, [], _), (17, [], _), (18, [], _), (19, [], _)]) ⟨rfl, rfl, rfl, rfl, rfl, trivial⟩ ⟨k + 1, by omega, rfl, rfl, rfl⟩
  · skip
    simp only [List.length_map, decide_eq_false_iff_not] at h20
    have hkl : k = N.length := by omega
    subst hkl
    rw [List.take_length]
    have hn1 := hq10.mono hle0
    refine G.freeze 1 rfl (fun Cm hlem hbm => ?_)
    refine G.region rfl (fun R hR => ?_)
    iterate 4 refine D.pure rfl rfl rfl rfl rfl rfl ?_
    refine D.loadL (.head _) rfl rfl rfl rfl rfl rfl rfl rfl rfl ?_
    refine D.pure rfl rfl rfl rfl rfl rfl ?_
    refine D.makeArr rfl rfl rfl rfl rfl rfl rfl rfl rfl (Nat.le_refl _) (by simp only [List.length_map]; omega) (by simp only [List.length_map, maxLen]; omega) (fun _ => rfl) (fun b37 => ?_)
    iterate 2 refine D.pure rfl rfl rfl rfl rfl rfl ?_
    refine D.store (j := 1) rfl rfl rfl rfl rfl rfl rfl rfl rfl rfl rfl rfl ?_
    refine D.done [(0, [], _), (3, [], _)] ⟨rfl, rfl, trivial⟩ (hR _ _ _ rfl ?_); clear hR R
    have hn2 := hn1.mono hlem
    have hv2 := ((hv.mono hle10).mono hle0).mono hlem
    refine G.nilArr 130 3 (G.nilRows (N.map encS).length ?_)
    refine G.perm (L' := [.obj b13 (.cells ⟨[.slice An (N.map encS).length cn, .map (some b11), .slice none 0 0, .slice (some ⟨b37, 0, none⟩) (N.map encS).length (N.map encS).length]⟩ 128 (0, 0)), .arr (.slice none 0 0) 130 3 0 [], .arr (.slice (some ⟨b37, 0, none⟩) (N.map encS).length (N.map encS).length) 125 1 (N.map encS).length ((List.replicate (N.map encS).length ((.slice none 0 0, []) : Value × List Arc3)).map (·.1))] ++ (List.replicate (N.map encS).length ((.slice none 0 0, []) : Value × List Arc3)).map rowE) (by
      rw [← zrow_rows]
      exact List.perm_append_comm.trans (List.Perm.swap _ _ _)) ?_
    refine G.region rfl (fun R hR => ?_)
    iterate 3 refine D.pure rfl rfl rfl rfl rfl rfl ?_
    refine D.done [(3, [], _), (40, [], _), (41, [], _), (42, [], _)] ⟨rfl, rfl, rfl, rfl, trivial⟩ (hR _ _ _ rfl ?_); clear hR R
    refine G.loop (fun fr C' L' μ => ∃ (k : Nat) (w2 : Value) (Rw : List (Value × List Arc3)), (k ≤ l.length ∧ Rw.length = N.length ∧ ∀ i r, Rw[i]? = some r → r.2 = nexts (cat (arcAt N l) k) i) ∧ fr = [(3, [], .pointer (some ⟨b13, 0, none⟩)), (40, [], .slice A (l.map Rel.enc).length c), (41, [], .int .i64 (l.map Rel.enc).length), (42, [], .int .i64 k)] ∧ L' = [.obj b13 (.cells ⟨[.slice An (N.map encS).length cn, .map (some b11), w2, .slice (some ⟨b37, 0, none⟩) (N.map encS).length (N.map encS).length]⟩ 128 (0, 0)), .arr w2 130 3 (cat (arcAt N l) k).length ((cat (arcAt N l) k).map Arc3.enc).flatten, .arr (.slice (some ⟨b37, 0, none⟩) (N.map encS).length (N.map encS).length) 125 1 (N.map encS).length (Rw.map (·.1))] ++ Rw.map rowE ∧ μ = l.length - k) (fr' := [(3, [], _), (40, [], _), (41, [], _), (42, [], _)]) ⟨rfl, rfl, rfl, rfl, trivial⟩ ⟨0, .slice none 0 0, List.replicate (N.map encS).length (.slice none 0 0, []), ⟨Nat.zero_le _, by simp, fun i r hr => by
      have := List.mem_of_getElem? hr
      rw [List.eq_of_mem_replicate this]; rfl⟩, rfl, rfl, rfl⟩ (fun fr C1' L1' m hle1 hI => ?_)
    obtain ⟨k, w2, Rw, ⟨hk, hRl, hRn⟩, rfl, rfl, rfl⟩ := hI
    refine G.region rfl (fun R hR => ?_)
    refine D.pure rfl rfl rfl rfl rfl rfl ?_
    refine D.done [(3, [], _), (40, [], _), (41, [], _), (42, [], _), (43, [], _)] ⟨rfl, rfl, rfl, rfl, rfl, trivial⟩ (hR _ _ _ rfl ?_); clear hR R
    refine G.cond rfl (fun h43 => ?_) (fun h43 => ?_)
    · skip
      simp only [List.length_map, decide_eq_true_eq] at h43
      have hkl : k < l.length := by omega
      obtain ⟨x, hx⟩ : ∃ x, l[k]? = some x := ⟨l[k], List.getElem?_eq_getElem hkl⟩
      have hxm : x ∈ l := List.mem_of_getElem? hx
      have hrx : (l.map Rel.enc)[k]? = some x.enc := by simp [hx]
      obtain ⟨q, hq⟩ : ∃ q, posS N x.lower = q := ⟨_, rfl⟩
      have hql : q < N.length := by rw [← hq]; exact posS_lt (hmem hxm).1
      have hgl : mget (atM N 0) x.lower = some (.int .i64 (q : Int)) := by rw [mget_atM, if_pos (hmem hxm).1, Nat.zero_add, hq]
      have hgu : mget (atM N 0) x.upper = some (.int .i64 (posS N x.upper : Nat)) := by rw [mget_atM, if_pos (hmem hxm).2, Nat.zero_add]
      have hal := arcAt_len N l k
      have hbm1 := hle1 _ _ hbm
      refine G.region rfl (fun R hR => ?_)
      refine D.pure rfl rfl rfl rfl rfl rfl ?_
      refine D.index0 (hv2.mono hle1) rfl rfl rfl rfl rfl rfl rfl rfl rfl rfl (by omega) hrx (fun _ => rfl) (fun p45 hp45 => ?_)
      refine D.loadP0 hp45 rfl rfl rfl rfl rfl rfl rfl rfl ?_
      refine D.alloc rfl rfl rfl rfl rfl (fun _ => rfl) (fun b7 => ?_)
      refine D.pure rfl rfl rfl rfl rfl rfl ?_
      refine D.store (j := 0) rfl rfl rfl rfl rfl rfl rfl rfl rfl rfl rfl rfl ?_
      refine D.done [(3, [], _), (6, [], _), (7, [], _), (40, [], _), (41, [], _), (42, [], _)] ⟨rfl, rfl, rfl, rfl, rfl, rfl, trivial⟩ (hR _ _ _ rfl ?_); clear hR R
      refine G.region rfl (fun R hR => ?_)
      refine D.pure rfl rfl rfl rfl rfl rfl ?_
      refine D.loadL (.head _) rfl rfl rfl rfl rfl rfl rfl rfl rfl ?_
      refine D.pure rfl rfl rfl rfl rfl rfl ?_
      refine D.done [(3, [], _), (6, [], _), (7, [], _), (40, [], _), (41, [], _), (42, [], _), (49, [], _)] ⟨rfl, rfl, rfl, rfl, rfl, rfl, rfl, trivial⟩ (hR _ _ _ rfl ?_); clear hR R
      refine G.cond rfl (fun h49 => ?_) (fun h49 => ?_)
      · skip
        have h49' : x.kind = 4 := by simpa using h49
        have hsk : arcAt N l k = [] := by rw [arcAt, hx]; exact oneIf_false (by simp [h49'])
        refine G.region rfl (fun R hR => ?_)
        refine D.i64 _ rfl rfl rfl rfl rfl (by omega) (by omega) rfl rfl ?_
        refine D.pure rfl rfl rfl rfl rfl rfl ?_
        refine D.done [(3, [], _), (40, [], _), (41, [], _), (42, [], _)] ⟨rfl, rfl, rfl, rfl, trivial⟩ (hR _ _ _ rfl ?_); clear hR R
        refine G.dropE 0 rfl ?_
        refine G.eqL (L' := [.obj b13 (.cells ⟨[.slice An (N.map encS).length cn, .map (some b11), w2, .slice (some ⟨b37, 0, none⟩) (N.map encS).length (N.map encS).length]⟩ 128 (0, 0)), .arr w2 130 3 (cat (arcAt N l) (k + 1)).length ((cat (arcAt N l) (k + 1)).map Arc3.enc).flatten, .arr (.slice (some ⟨b37, 0, none⟩) (N.map encS).length (N.map encS).length) 125 1 (N.map encS).length (Rw.map (·.1))] ++ Rw.map rowE) (by rw [cat_succ, hsk, List.append_nil]; rfl) ?_
        refine G.again (m' := l.length - (k + 1)) (by omega) hle1 (fr' := [(3, [], _), (40, [], _), (41, [], _), (42, [], _)]) ⟨rfl, rfl, rfl, rfl, trivial⟩ ⟨k + 1, w2, Rw, ⟨by omega, hRl, fun i r hr => by rw [cat_succ, hsk, List.append_nil]; exact hRn i r hr⟩, rfl, rfl, rfl⟩
      · skip
        have h49' : ¬ x.kind = 4 := by simpa using h49
        obtain ⟨a, ha⟩ : ∃ a : Arc3, a = ⟨k, q, posS N x.upper⟩ := ⟨_, rfl⟩
        have hsk : arcAt N l k = [a] := by
          rw [arcAt, hx, ha, ← hq]
          exact oneIf_true (by simp [h49'])
        obtain ⟨r, hr⟩ : ∃ r, Rw[q]? = some r := ⟨Rw[q]'(by omega), List.getElem?_eq_getElem (by omega)⟩
        have hrn := hRn q r hr
        have hrl : r.2.length ≤ 100000 := by
          rw [hrn]
          have : (nexts (cat (arcAt N l) k) q).length ≤ (cat (arcAt N l) k).length := List.length_filter_le _ _
          omega
        have hae : Arc3.enc a = [.int .i64 (k : Int), .int .i64 (q : Int), .int .i64 (posS N x.upper : Nat)] := by rw [ha]; rfl
        refine G.draw [0, 1, 2, 3, 4, 5, 6, 7, 8, 9, 10, 11, 12, 13, 14, 15, 16, 17] [] rfl (by kernel_rfl) (fun R hB hR => ?_)
        iterate 4 refine D.pure rfl rfl rfl rfl rfl rfl ?_
        refine D.loadL (.tail _ (.head _)) rfl rfl rfl rfl rfl rfl rfl rfl rfl ?_
        refine D.pure rfl rfl rfl rfl rfl rfl ?_
        refine D.loadL (.head _) rfl rfl rfl rfl rfl rfl rfl rfl rfl ?_
        refine D.lookupC keyS (fun _ => hbm1) rfl rfl rfl rfl rfl rfl rfl rfl (by kernel_rfl) rfl (by rw [hgl]; try rfl) rfl rfl ?_
        iterate 3 refine D.pure rfl rfl rfl rfl rfl rfl ?_
        refine D.loadL (.tail _ (.head _)) rfl rfl rfl rfl rfl rfl rfl rfl rfl ?_
        refine D.pure rfl rfl rfl rfl rfl rfl ?_
        refine D.loadL (.head _) rfl rfl rfl rfl rfl rfl rfl rfl rfl ?_
        refine D.lookupC keyS (fun _ => hbm1) rfl rfl rfl rfl rfl rfl rfl rfl (by kernel_rfl) rfl (by rw [hgu]; try rfl) rfl rfl ?_
        refine D.build [.int .i64 (k : Int), .int .i64 (q : Int), .int .i64 (posS N x.upper : Nat)] rfl rfl rfl rfl rfl rfl rfl rfl ?_
        refine D.alloc rfl rfl rfl rfl rfl (fun _ => rfl) (fun b8 => ?_)
        refine D.store (j := 0) rfl rfl rfl rfl rfl rfl rfl rfl rfl rfl rfl rfl ?_
        refine D.done [(3, [], _), (8, [], _), (40, [], _), (41, [], _), (42, [], _)] ⟨rfl, rfl, rfl, rfl, rfl, trivial⟩ (hR _ _ _ rfl ?_); clear hR hB R
        refine G.draw [0, 1, 2, 3, 4, 5, 6, 7, 8, 9, 10] [] rfl (by kernel_rfl) (fun R hB hR => ?_)
        iterate 4 refine D.pure rfl rfl rfl rfl rfl rfl ?_
        refine D.loadL (.tail _ (.tail _ (.head _))) rfl rfl rfl rfl rfl rfl rfl rfl rfl ?_
        refine D.loadL (.head _) rfl rfl rfl rfl rfl rfl rfl rfl rfl ?_
        refine D.buildSlice [[.int .i64 (k : Int), .int .i64 (q : Int), .int .i64 (posS N x.upper : Nat)]] rfl rfl rfl rfl rfl rfl rfl rfl rfl rfl rfl rfl (fun _ => rfl) (fun p72 C72 hle72 hs72 => ?_)
        refine D.appendF (j := 3) rfl rfl rfl rfl rfl rfl rfl rfl rfl rfl rfl hs72 rfl (by simp only [List.length_singleton, maxLen]; omega) (by simp only [List.length_singleton]; omega) (fun _ => rfl) (fun A73 n73 c73 => ?_)
        iterate 2 refine D.pure rfl rfl rfl rfl rfl rfl ?_
        refine D.store (j := 3) rfl rfl rfl rfl rfl rfl rfl rfl rfl rfl rfl rfl ?_
        refine D.done [(3, [], _), (8, [], _), (40, [], _), (41, [], _), (42, [], _)] ⟨rfl, rfl, rfl, rfl, rfl, trivial⟩ (hR _ _ _ rfl ?_); clear hR hB R
        refine G.freeze 2 rfl (fun C8 hle8 hb8 => ?_)
        refine G.dropE 2 rfl ?_
        have hrowi : ([Ent.arr (.slice A73 n73 c73) 130 3 ((cat (arcAt N l) k).length + 1) (((cat (arcAt N l) k).map Arc3.enc).flatten ++ [[Value.int .i64 (k : Int), .int .i64 (q : Int), .int .i64 (posS N x.upper : Nat)]].flatten), .arr (.slice (some ⟨b37, 0, none⟩) (N.map encS).length (N.map encS).length) 125 1 (N.map encS).length (Rw.map (·.1))] ++ Rw.map rowE)[q + 2]? = some (rowE r) := by
          show (Rw.map rowE)[q]? = some (rowE r)
          rw [List.getElem?_map, hr]; rfl
        have hrv : ((Rw.map (·.1)).drop q).take 1 = [r.1] := by
          have h1 : (Rw.map (·.1))[q]? = some r.1 := by rw [List.getElem?_map, hr]; rfl
          obtain ⟨h2, h3⟩ := List.getElem?_eq_some_iff.1 h1
          rw [List.drop_eq_getElem_cons h2, h3]; rfl
        have hqm : q < (N.map encS).length := by rw [List.length_map]; exact hql
        refine G.drawP 0 rfl [0, 1, 2, 3, 4, 5, 6, 7, 8, 9, 10, 11, 12, 13, 14, 15, 16, 17, 18] [(3, 0), (5, 0), (9, 0), (11, 0), (14, 0)] rfl (by kernel_rfl) (fun Cer14 R hCer14 hber14 hB hR => ?_)
        have hb8e := hCer14 _ _ hb8
        iterate 3 refine D.pure rfl rfl rfl rfl rfl rfl ?_
        refine D.loadB (fun _ => (PtrTo.block hber14 _).mono hB) rfl rfl rfl rfl rfl rfl rfl rfl rfl ?_
        refine D.pure rfl rfl rfl rfl rfl rfl ?_
        refine D.loadB (fun _ => ((PtrTo.block hb8e _).mono hB)) rfl rfl rfl rfl rfl rfl rfl rfl rfl ?_
        iterate 3 refine D.pure rfl rfl rfl rfl rfl rfl ?_
        refine D.loadB (fun _ => (PtrTo.block hber14 _).mono hB) rfl rfl rfl rfl rfl rfl rfl rfl rfl ?_
        refine D.pure rfl rfl rfl rfl rfl rfl ?_
        refine D.loadB (fun _ => ((PtrTo.block hb8e _).mono hB)) rfl rfl rfl rfl rfl rfl rfl rfl rfl ?_
        refine D.indexS (q) rfl rfl rfl rfl rfl rfl rfl rfl rfl rfl (fun _ => ⟨by omega, by omega, (by simp)⟩) rfl rfl ?_
        refine D.loadArr (.tail _ (.head _)) rfl rfl rfl rfl rfl rfl (fun _ => (by rw [hrv]; rfl)) rfl rfl ?_
        refine D.loadB (fun _ => ((PtrTo.block hb8e _).mono hB)) rfl rfl rfl rfl rfl rfl rfl rfl rfl ?_
        refine D.buildSlice [[.int .i64 (k : Int), .int .i64 (q : Int), .int .i64 (posS N x.upper : Nat)]] rfl rfl rfl rfl rfl rfl rfl rfl rfl rfl rfl rfl (fun _ => rfl) (fun p91 C91 hle91 hs91 => ?_)
        refine D.appendF (j := q + 2) rfl rfl rfl rfl rfl rfl rfl rfl rfl rfl hrowi hs91 rfl (by simp only [List.length_singleton, maxLen]; omega) (by simp only [List.length_singleton]; omega) (fun _ => rfl) (fun A92 n92 c92 => ?_)
        refine D.indexS (q) rfl rfl rfl rfl rfl rfl rfl rfl rfl rfl (fun _ => ⟨by omega, by omega, (by simp)⟩) rfl rfl ?_
        refine D.storeArr (j := 2) rfl rfl rfl rfl rfl rfl rfl rfl rfl rfl rfl (by show q + 1 ≤ _; rw [List.length_map]; omega) ?_
        refine D.done [(3, [], _), (40, [], _), (41, [], _), (42, [], _)] ⟨rfl, rfl, rfl, rfl, trivial⟩ (hR _ _ _ rfl (fun C2r14 hC2r14 => ?_)); clear hR hB R
        refine G.region rfl (fun R hR => ?_)
        refine D.i64 _ rfl rfl rfl rfl rfl (by omega) (by omega) rfl rfl ?_
        refine D.pure rfl rfl rfl rfl rfl rfl ?_
        refine D.done [(3, [], _), (40, [], _), (41, [], _), (42, [], _)] ⟨rfl, rfl, rfl, rfl, trivial⟩ (hR _ _ _ rfl ?_); clear hR R
        refine G.eqL (L' := .obj b13 (.cells ⟨[.slice An (N.map encS).length cn, .map (some b11), .slice A73 n73 c73, .slice (some ⟨b37, 0, none⟩) (N.map encS).length (N.map encS).length]⟩ 128 (0, 0)) :: .arr (.slice (some ⟨b37, 0, none⟩) (N.map encS).length (N.map encS).length) 125 1 (N.map encS).length ((Rw.set q (.slice A92 n92 c92, r.2 ++ [a])).map (·.1)) :: rowE (.slice A92 n92 c92, r.2 ++ [a]) :: .arr (.slice A73 n73 c73) 130 3 (cat (arcAt N l) (k + 1)).length ((cat (arcAt N l) (k + 1)).map Arc3.enc).flatten :: (Rw.map rowE).eraseIdx q) (by
          have e1 : storeInto (Rw.map (·.1)) [.slice A92 n92 c92] q = (Rw.set q (.slice A92 n92 c92, r.2 ++ [a])).map (·.1) := by
            rw [List.map_set]
            have := row_write (enc := fun v : Value => [v]) (s := 1) (fun _ => rfl) (l := Rw.map (·.1)) (i := q) (.slice A92 n92 c92) (by rw [List.length_map]; omega)
            rw [row1, row1, Nat.mul_one] at this
            exact this
          have e2 : (r.2.map Arc3.enc).flatten ++ [[Value.int .i64 (k : Int), .int .i64 (q : Int), .int .i64 (posS N x.upper : Nat)]].flatten = ((r.2 ++ [a]).map Arc3.enc).flatten := by
            rw [← hae]; simp
          have e3 : ((cat (arcAt N l) k).map Arc3.enc).flatten ++ [[Value.int .i64 (k : Int), .int .i64 (q : Int), .int .i64 (posS N x.upper : Nat)]].flatten = ((cat (arcAt N l) (k + 1)).map Arc3.enc).flatten := by
            rw [cat_succ, hsk, ← hae]; simp
          have e4 : (cat (arcAt N l) (k + 1)).length = (cat (arcAt N l) k).length + 1 := by rw [cat_succ, hsk]; simp
          have e5 : (r.2 ++ [a]).length = r.2.length + 1 := by simp
          rw [← e1, ← e3, e4]
          unfold rowE
          rw [← e2, e5]
          rfl) ?_
        refine G.perm (L' := [.obj b13 (.cells ⟨[.slice An (N.map encS).length cn, .map (some b11), .slice A73 n73 c73, .slice (some ⟨b37, 0, none⟩) (N.map encS).length (N.map encS).length]⟩ 128 (0, 0)), .arr (.slice A73 n73 c73) 130 3 (cat (arcAt N l) (k + 1)).length ((cat (arcAt N l) (k + 1)).map Arc3.enc).flatten, .arr (.slice (some ⟨b37, 0, none⟩) (N.map encS).length (N.map encS).length) 125 1 (N.map encS).length ((Rw.set q (.slice A92 n92 c92, r.2 ++ [a])).map (·.1))] ++ (Rw.set q (.slice A92 n92 c92, r.2 ++ [a])).map rowE) (by
          refine List.Perm.cons _ ?_
          refine (List.Perm.cons _ (List.Perm.swap _ _ _)).trans ((List.Perm.swap _ _ _).trans (List.Perm.cons _ (List.Perm.cons _ ?_)))
          exact rows_perm hr) ?_
        refine G.again (m' := l.length - (k + 1)) (by omega) ((hle1.trans (hle72.trans hle8)).trans hC2r14) (fr' := [(3, [], _), (40, [], _), (41, [], _), (42, [], _)]) ⟨rfl, rfl, rfl, rfl, trivial⟩ ⟨k + 1, .slice A73 n73 c73, Rw.set q (.slice A92 n92 c92, r.2 ++ [a]), ⟨by omega, by rw [List.length_set]; exact hRl, fun i r' hr' => by
          rw [cat_succ, hsk, nexts_append]
          rw [List.getElem?_set] at hr'
          split at hr'
          · rename_i e
            subst e
            rw [if_pos (by omega)] at hr'
            cases hr'
            rw [hrn, if_pos (by rw [ha])]
          · rename_i e
            rw [hRn i r' hr', if_neg (by rw [ha]; exact e), List.append_nil]⟩, rfl, rfl, rfl⟩
    · skip
      simp only [List.length_map, decide_eq_false_iff_not] at h43
      have hkl : k = l.length := by omega
      subst hkl
      refine G.region rfl (fun R hR => ?_)
      iterate 2 refine D.pure rfl rfl rfl rfl rfl rfl ?_
      refine D.done [(2, [], _)] ⟨rfl, trivial⟩ (hR _ _ _ rfl ?_); clear hR R
      refine G.freeze 0 rfl (fun Cf1 hf1 hbf => ?_)
      refine G.freezeArr 0 ((cat (arcAt N l) l.length).map Arc3.enc) rfl rfl (by intro r hr; obtain ⟨y, _, rfl⟩ := List.mem_map.1 hr; rfl) (by simp) (fun Cf2 hf2 hsa => ?_)
      refine G.freezeArr 0 (Rw.map fun r => [r.1]) rfl (by rw [← row1 (vs := Rw.map (·.1)), List.map_map]; rfl) (by intro r hr; obtain ⟨y, _, rfl⟩ := List.mem_map.1 hr; rfl) (by rw [List.length_map, List.length_map, hRl]) (fun Cf3 hf3 hsx => ?_)
      refine G.eqL (L' := Rw.map rowE ++ []) (by simp) (G.freezeRows Rw (fun Cf4 hf4 hsr => G.retN (G.fin1 rfl rfl ?_)))
      refine ⟨rfl, b13, b11, .slice An (N.map encS).length cn, w2, .slice (some ⟨b37, 0, none⟩) (N.map encS).length (N.map encS).length, Rw.map (·.1), rfl, hf4 _ _ (hf3 _ _ (hf2 _ _ hbf)), (((((hn2.mono hle1).mono hf1).mono hf2).mono hf3).mono hf4), hf4 _ _ (hf3 _ _ (hf2 _ _ (hf1 _ _ (hle1 _ _ hbm)))), ((hsa.mono hf3).mono hf4), ?_, by rw [List.length_map, hRl], fun i v hv => ?_⟩
      · rw [List.map_map]; exact hsx.mono hf4
      · rw [List.getElem?_map] at hv
        cases hr : Rw[i]? with
        | none => rw [hr] at hv; cases hv
        | some r =>
          rw [hr] at hv
          simp only [Option.map_some, Option.some.injEq] at hv
          subst hv
          have := hsr r (List.mem_of_getElem? hr)
          rw [hRn i r hr] at this
          exact this
end Go.Proofs.YtfelabnohopfdaaGreatDoor
namespace Go.Proofs.YtfelabnohopfdaaGreatDoor
open Go Go.Jog
set_option maxRecDepth 100000

theorem mul_gives (x y : Nat) (hx : x < 18446744073709551616) (hy : y < 18446744073709551616) (C : Mem) : Gives cx.P 109 [.int .u64 x, .int .u64 y] C (.tuple #[.int .u64 ((x * y / 18446744073709551616 : Nat) : Int), .int .u64 ((x * y % 18446744073709551616 : Nat) : Int)]) :=
  Gives.ofCalls (by kernel_rfl) (fun w => Any.bits_Mul Tryz.mul x y hx hy w) C

theorem replicate_storeInto {a : Value} {n k m : Nat} {tl : List Value} (hn : k + m ≤ n) (hk : m ≤ k) (htl : tl.length = n - k) :
    storeInto (List.replicate k a ++ tl) ((List.replicate k a ++ tl).take m) k = List.replicate (k + m) a ++ tl.drop m := by
  have h1 : (List.replicate k a ++ tl).take m = List.replicate m a := by
    rw [List.take_append_of_le_length (by simpa using hk), List.take_replicate, Nat.min_eq_left hk]
  have h2 : (List.replicate k a ++ tl).take k = List.replicate k a := by
    rw [List.take_append_of_le_length (by simp), List.take_replicate, Nat.min_self]
  have h3 : (List.replicate k a ++ tl).drop (k + m) = tl.drop m := by
    rw [List.drop_append, List.length_replicate, List.drop_eq_nil_of_le (by simp), List.nil_append]
    congr 1; omega
  unfold storeInto
  rw [h1, h2, List.length_replicate, h3, List.replicate_append_replicate]

theorem zrow_rep (a : Value) (n : Nat) : zrow [a] n = List.replicate n a := by
  rw [zrow_flatten]
  induction n with
  | zero => rfl
  | succ n ih => rw [List.replicate_succ, List.flatten_cons, ih, List.replicate_succ]; rfl
theorem mul_one_gives (n : Nat) (hn : n < 18446744073709551616) (C : Mem) : Gives cx.P 109 [.int .u64 (1 : Int), .int .u64 n] C (.tuple #[.int .u64 0, .int .u64 n]) := by
  have h := mul_gives 1 n (by omega) hn C
  have e1 : 1 * n / 18446744073709551616 = 0 := by omega
  have e2 : 1 * n % 18446744073709551616 = n := by omega
  rw [e1, e2] at h
  exact h
theorem repeat_fn (C : Mem) (v : Value) (n : Nat) (z : Int) (hv : Sl C 1 v [[.int .i64 z]]) (hn : n ≤ 1000000) : Jog.Fn cx.P 75 [v, .int .i64 n] C [] fun u C' L' => ∃ b, u = .slice (some ⟨b, 0, none⟩) n n ∧ L' = [.arr u 3 1 n (List.replicate n (.int .i64 z))] := by
  have hv0 := hv
  obtain ⟨A, c, rfl, _⟩ := hv0
  refine Fn.intro (by kernel_rfl) Tryz.func75 rfl 48 rfl rfl (fun w0 => ?_)
  refine G.region rfl (fun R hR => ?_)
  refine D.pure rfl rfl rfl rfl rfl rfl ?_
  refine D.done [(0, [], _), (1, [], _)] ⟨rfl, rfl, trivial⟩ (hR _ _ _ rfl ?_); clear hR R
  refine G.region rfl (fun R hR => ?_)
  iterate 2 refine D.pure rfl rfl rfl rfl rfl rfl ?_
  refine D.done [(0, [], _), (1, [], _), (10, [], _)] ⟨rfl, rfl, rfl, trivial⟩ (hR _ _ _ rfl ?_); clear hR R
  refine G.cond rfl (fun h10 => ?_) (fun h10 => ?_)
  · skip
    simp at h10; omega
  · skip
    refine G.region rfl (fun R hR => ?_)
    iterate 2 refine D.pure rfl rfl rfl rfl rfl rfl ?_
    refine D.conv (c := 1) rfl rfl rfl rfl rfl rfl rfl rfl rfl (fun _ => rfl) ?_
    refine D.pure rfl rfl rfl rfl rfl rfl ?_
    refine D.conv (c := (n : Int)) rfl rfl rfl rfl rfl rfl rfl rfl (by rw [IntKind.wrap_u64]; omega) (fun _ => rfl) ?_
    refine D.gives2 (mul_one_gives n (by omega) _) rfl rfl rfl rfl rfl rfl rfl (fun _ => rfl) ?_
    iterate 5 refine D.pure rfl rfl rfl rfl rfl rfl ?_
    refine D.done [(0, [], _), (5, [], _), (6, [], _)] ⟨rfl, rfl, rfl, trivial⟩ (hR _ _ _ rfl ?_); clear hR R
    refine G.region rfl (fun R hR => ?_)
    iterate 5 refine D.pure rfl rfl rfl rfl rfl rfl ?_
    refine D.pickOr rfl rfl rfl rfl rfl rfl rfl rfl ?_
    refine D.done [(0, [], _), (6, [], _), (26, [], _)] ⟨rfl, rfl, rfl, trivial⟩ (hR _ _ _ rfl ?_); clear hR R
    refine G.cond rfl (fun h26 => ?_) (fun h26 => ?_)
    · skip
      simp at h26; omega
    · skip
      refine G.region rfl (fun R hR => ?_)
      refine D.pure rfl rfl rfl rfl rfl rfl ?_
      refine D.conv (c := (n : Int)) rfl rfl rfl rfl rfl rfl rfl rfl (by rw [IntKind.wrap_i64]; omega) (fun _ => rfl) ?_
      refine D.makeArr rfl rfl rfl rfl rfl rfl rfl rfl rfl (Nat.le_refl _) (by show 8 * n ≤ 281474976710656; omega) (by simp only [maxLen]; omega) (fun _ => rfl) (fun b30 => ?_)
      refine D.pure rfl rfl rfl rfl rfl rfl ?_
      refine D.done [(0, [], _), (7, [], _)] ⟨rfl, rfl, trivial⟩ (hR _ _ _ rfl ?_); clear hR R
      refine G.region rfl (fun R hR => ?_)
      iterate 2 refine D.pure rfl rfl rfl rfl rfl rfl ?_
      refine D.copyC (j := 0) (q := min 1 n) rfl rfl rfl rfl rfl rfl rfl rfl rfl rfl rfl rfl hv rfl rfl (by rw [zrow_length]; show 0 + min 1 n * 1 ≤ n * 1; omega) (fun _ => rfl) ?_
      refine D.pure rfl rfl rfl rfl rfl rfl ?_
      refine D.done [(7, [], _), (8, [], _)] ⟨rfl, rfl, trivial⟩ (hR _ _ _ rfl ?_); clear hR R
      have hst0 : storeInto (zrow [Value.int .i64 0] n) (([[Value.int .i64 z]] : List (List Value)).take (min 1 n)).flatten 0 = List.replicate (min 1 n) (.int .i64 z) ++ List.replicate (n - min 1 n) (.int .i64 0) := by
        rw [zrow_rep]
        cases n with
        | zero => rfl
        | succ n => rw [show min 1 (n + 1) = 1 by omega, List.replicate_succ]; rfl
      refine G.eqL (L' := [.arr (.slice (some ⟨b30, 0, none⟩) n n) 3 1 n (List.replicate (min 1 n) (.int .i64 z) ++ List.replicate (n - min 1 n) (.int .i64 0))]) (by rw [← hst0]; rfl) ?_
      refine G.loop (fun fr C' L' μ => ∃ (k : Nat), (k ≤ n ∧ min 1 n ≤ k) ∧ fr = [(7, [], .slice (some ⟨b30, 0, none⟩) n n), (8, [], .int .i64 k)] ∧ L' = [.arr (.slice (some ⟨b30, 0, none⟩) n n) 3 1 n (List.replicate k (.int .i64 z) ++ List.replicate (n - k) (.int .i64 0))] ∧ μ = n - k) (fr' := [(7, [], _), (8, [], _)]) ⟨rfl, rfl, trivial⟩ ⟨min 1 n, ⟨Nat.min_le_right _ _, Nat.le_refl _⟩, rfl, rfl, rfl⟩ (fun fr C0' L0' m hle0 hI => ?_)
      obtain ⟨k, ⟨hk, hk1⟩, rfl, rfl, rfl⟩ := hI
      refine G.region rfl (fun R hR => ?_)
      iterate 4 refine D.pure rfl rfl rfl rfl rfl rfl ?_
      refine D.done [(7, [], _), (8, [], _), (37, [], _)] ⟨rfl, rfl, rfl, trivial⟩ (hR _ _ _ rfl ?_); clear hR R
      refine G.cond rfl (fun h37 => ?_) (fun h37 => ?_)
      · skip
        simp only [decide_eq_true_eq] at h37
        have hkn : k < n := by omega
        have hk2 : 1 ≤ k := by omega
        refine G.draw [0, 1, 2, 3, 4, 5, 6, 7, 8, 9] [] rfl (by kernel_rfl) (fun R hB hR => ?_)
        iterate 3 refine D.pure rfl rfl rfl rfl rfl rfl ?_
        refine D.sliceV k n n rfl rfl rfl rfl rfl rfl rfl rfl rfl rfl rfl rfl (fun _ => ⟨.inr ⟨_, rfl⟩, .inl ⟨rfl, rfl⟩, .inl ⟨rfl, rfl⟩, hk, Nat.le_refl _, Nat.le_refl _⟩) rfl rfl ?_
        iterate 2 refine D.pure rfl rfl rfl rfl rfl rfl ?_
        refine D.sliceV 0 k n rfl rfl rfl rfl rfl rfl rfl rfl rfl rfl rfl rfl (fun _ => ⟨.inl ⟨rfl, rfl⟩, .inr ⟨_, rfl⟩, .inl ⟨rfl, rfl⟩, Nat.zero_le _, hk, Nat.le_refl _⟩) rfl rfl ?_
        refine D.copyS (j := 0) (off := k) (g0 := b30) (dl := n - k) (dc := n - k) (sl := k - 0) (sc := n - 0) (q := min k (n - k)) rfl rfl rfl rfl rfl rfl rfl rfl (by show some (Value.slice (if n = k then some (⟨b30, 0, none⟩ : Addr) else (some (⟨b30, 0, none⟩ : Addr)).map (·.add (k * 1))) (n - k) (n - k)) = _; rw [if_neg (by omega)]; simp [Addr.add_lit]) (by show some (Value.slice (if n = 0 then some (⟨b30, 0, none⟩ : Addr) else (some (⟨b30, 0, none⟩ : Addr)).map (·.add (0 * 1))) (k - 0) (n - 0)) = _; split <;> simp [Addr.add_lit]) rfl rfl (by simp [oneB]) (by simp; omega) (fun _ => rfl) ?_
        refine D.i64 (((k + min k (n - k) : Nat) : Int)) rfl rfl rfl rfl (by omega) (by omega) (by omega) rfl rfl ?_
        refine D.pure rfl rfl rfl rfl rfl rfl ?_
        refine D.done [(7, [], _), (8, [], _)] ⟨rfl, rfl, trivial⟩ (hR _ _ _ rfl ?_); clear hR hB R
        refine G.eqL (L' := [.arr (.slice (some ⟨b30, 0, none⟩) n n) 3 1 n (List.replicate (k + min k (n - k)) (.int .i64 z) ++ List.replicate (n - (k + min k (n - k))) (.int .i64 0))]) (by rw [replicate_storeInto (n := n) (by omega) (Nat.min_le_left _ _) (by simp), List.drop_replicate, Nat.sub_sub]; rfl) ?_
        refine G.again (m' := n - (k + min k (n - k))) (by omega) hle0 (fr' := [(7, [], _), (8, [], _)]) ⟨rfl, rfl, trivial⟩ ⟨k + min k (n - k), ⟨by omega, by omega⟩, rfl, rfl, rfl⟩
      · skip
        simp only [decide_eq_false_iff_not] at h37
        have hkn : k = n := by omega
        subst hkn
        refine G.region rfl (fun R hR => ?_)
        iterate 2 refine D.pure rfl rfl rfl rfl rfl rfl ?_
        refine D.done [(4, [], _)] ⟨rfl, trivial⟩ (hR _ _ _ rfl ?_); clear hR R
        refine G.retN (G.fin1 rfl rfl ?_)
        exact ⟨b30, rfl, by simp⟩
end Go.Proofs.YtfelabnohopfdaaGreatDoor
namespace Go.Jog
open Go

end Go.Jog
namespace Go.Jog
open Go Go.MapKept

section
variable {cx : Cx} {n : Nat} {ds : List (Option Nat)} {R : Rg n ds} {its : List It} {fr : Fr} {C : Mem} {L : List Ent} {i k d : Nat} {o : Oper} {g : GL} {v : Value}
variable {kd : TypeDesc} {κ : Type} [DecidableEq κ] (K : KeyT kd κ)
theorem D.insert {t kt et j b : Nat} {x y z : Operand} {m : List (κ × Value)} {key : κ} {ti : TI} (hk : k = 3) (hg : gOn ds fr o.guard = true) (hd : o.dst = none) (hop : o.op = .insert t x y z)
    (hx : ev fr [] x = some (.map (some b))) (hy : ev fr [] y = some (K.enc key)) (hz : ev fr [] z = some v) (hm : L[j]? = some (.obj b (mapOf K.enc m)))
    (ht : cx.T.get t = some ti) (htk : ti.k = .map kt et) (hkt : cx.P.underlying kt = some kd)
    (h : D cx R its fr C (.obj b (mapOf K.enc (mset m key v)) :: L.eraseIdx j)) : D cx R ((i, k, o) :: its) fr C L :=
  D.eff0 (S := fun C' L' => C' = C ∧ L' = .obj b (mapOf K.enc (mset m key v)) :: L.eraseIdx j) (by subst hk; rfl) hg (fun a hs w _ hw => by
    have hw' := St.perm hw (ent_perm hm)
    have hb : w.heap[b]? = some (mapOf K.enc m) := hw'.sep.e _ (List.mem_cons_self ..)
    have hu := und_mapK cx.hT ht htk
    have hf := findNow_mapEs K key m 0 0
    have h1 : (getObj b).run cx.P w = .ok (.map ⟨mapEs K.enc m 0⟩ m.length) w := Go.MapKept.run_getObj_map hb
    have h2 := run_findKey (P := cx.P) (w := w) hkt hf
    have hrun : (Instr.mapUpdate t (.map (some b)) (K.enc key) v).run cx.P w = .ok () { w with heap := w.heap.setIfInBounds b (mapOf K.enc (mset m key v)) } := by
      unfold Instr.mapUpdate
      simp only [Sem.run_bind, run_underlying hu, Result.andThen_ok, h1, run_checkKey hkt (K.isKey key)]
      rw [h2]
      cases hi : midx m key with
      | none =>
        obtain ⟨h3, h4⟩ := mapEs_none K (v := v) (i := 0) hi
        simp only [Option.map_none, Result.andThen_ok]
        rw [Go.MapKept.run_setObj_map (P := cx.P) _ hb]
        congr 2
        simp only [mapOf, h4, ← h3, Nat.zero_add]
        congr 2
        apply Array.ext'
        simp
      | some p =>
        obtain ⟨q, u⟩ := p
        obtain ⟨h3, h4, h5⟩ := mapEs_some K (v := v) (i := 0) hi
        have hq : (((⟨mapEs K.enc m 0⟩ : Array MapEntry)[0 + q]?).map (·.key)).getD (K.enc key) = K.enc key := by
          rw [Nat.zero_add]
          show (((mapEs K.enc m 0).toArray[q]?).map (·.key)).getD (K.enc key) = K.enc key
          rw [List.getElem?_toArray, h5]; rfl
        simp only [Option.map_some, Result.andThen_ok, Sem.run_bind]
        rw [hq, run_keyThatStays (d := kd) (K.isKey key)]
        simp only [Result.andThen_ok]
        rw [Go.MapKept.run_setObj_map (P := cx.P) _ hb]
        congr 2
        simp only [mapOf, h4, ← h3, Nat.zero_add]
        congr 2
        apply Array.ext'
        simp
    have hex : (execOp a.eval o).run cx.P w = .ok .skip { w with heap := w.heap.setIfInBounds b (mapOf K.enc (mset m key v)) } := by
      have e1 : execOp a.eval o = (do Instr.mapUpdate t (a.eval x) (a.eval y) (a.eval z); Pure.pure .skip : Sem Next) := by unfold execOp; rw [hop]
      rw [e1, hs _ _ hx, hs _ _ hy, hs _ _ hz]
      simp only [Sem.run_bind, hrun, Result.andThen_ok, Sem.run_pure]
    unfold Oper.wp
    rw [hex]
    have hset := heap_set (o' := mapOf K.enc (mset m key v)) hb
    refine ⟨C, .obj b (mapOf K.enc (mset m key v)) :: L.eraseIdx j, ?_, Mem.le.refl _, fun h2 => by omega, St.put hw' hset.1 hset.2 (by simp) rfl rfl rfl (Nat.le_refl _), rfl, rfl⟩
    rw [hd]; rfl)
    (fun C' L' _ ⟨e1, e2⟩ => by subst e1; subst e2; exact h)
end
end Go.Jog
namespace Go.Proofs.YtfelabnohopfdaaGreatDoor
open Go Go.Jog
set_option maxRecDepth 100000

theorem indexN_fn (C : Mem) (A : Option Addr) (c : Nat) (g : FuncId) : Gives cx.P 106 [.slice A 0 c, .func (.func g) #[] #[]] C (.int .i64 (-1)) := by
  refine Fn.intro (by kernel_rfl) Tryz.func106 rfl 19 rfl rfl (fun w0 => ?_)
  refine G.region rfl (fun R hR => ?_)
  refine D.pure rfl rfl rfl rfl rfl rfl ?_
  refine D.done [(0, [], _), (1, [], _)] ⟨rfl, rfl, trivial⟩ (hR _ _ _ rfl ?_); clear hR R
  refine G.region rfl (fun R hR => ?_)
  iterate 3 refine D.pure rfl rfl rfl rfl rfl rfl ?_
  refine D.done [(0, [], _), (1, [], _), (7, [], _), (8, [], _)] ⟨rfl, rfl, rfl, rfl, trivial⟩ (hR _ _ _ rfl ?_); clear hR R
  refine G.loop (fun fr C' L' μ => ∃ (k : Nat), (k = 0) ∧ fr = [(0, [], .slice A 0 c), (1, [], .func (.func g) #[] #[]), (7, [], .int .i64 0), (8, [], .int .i64 k)] ∧ L' = [] ∧ μ = k) (fr' := [(0, [], _), (1, [], _), (7, [], _), (8, [], _)]) ⟨rfl, rfl, rfl, rfl, trivial⟩ ⟨0, rfl, rfl, rfl, rfl⟩ (fun fr C0' L0' m hle0 hI => ?_)
  obtain ⟨k, hk, rfl, rfl, rfl⟩ := hI
  refine G.region rfl (fun R hR => ?_)
  refine D.pure rfl rfl rfl rfl rfl rfl ?_
  refine D.done [(0, [], _), (1, [], _), (7, [], _), (8, [], _), (9, [], _)] ⟨rfl, rfl, rfl, rfl, rfl, trivial⟩ (hR _ _ _ rfl ?_); clear hR R
  refine G.cond rfl (fun h9 => ?_) (fun h9 => ?_)
  · skip
    subst hk; exact absurd h9 (by decide)
  · skip
    refine G.region rfl (fun R hR => ?_)
    refine D.pure rfl rfl rfl rfl rfl rfl ?_
    refine D.done [(4, [], _)] ⟨rfl, trivial⟩ (hR _ _ _ rfl ?_); clear hR R
    refine G.retN (G.dropAll (G.fin1 rfl rfl ?_))
    exact ⟨rfl, rfl⟩
theorem contN_fn (C : Mem) (A : Option Addr) (c : Nat) (g : FuncId) : Gives cx.P 67 [.slice A 0 c, .func (.func g) #[] #[]] C (.bool false) := by
  refine Fn.intro (by kernel_rfl) Tryz.func67 rfl 9 rfl rfl (fun w0 => ?_)
  refine G.region rfl (fun R hR => ?_)
  refine D.pure rfl rfl rfl rfl rfl rfl ?_
  refine D.done [(0, [], _), (1, [], _)] ⟨rfl, rfl, trivial⟩ (hR _ _ _ rfl ?_); clear hR R
  refine G.region rfl (fun R hR => ?_)
  iterate 2 refine D.pure rfl rfl rfl rfl rfl rfl ?_
  refine D.gives2 (indexN_fn _ A c g) rfl rfl rfl rfl rfl rfl rfl (fun _ => rfl) ?_
  iterate 2 refine D.pure rfl rfl rfl rfl rfl rfl ?_
  refine D.done [(4, [], _)] ⟨rfl, trivial⟩ (hR _ _ _ rfl ?_); clear hR R
  refine G.retN (G.dropAll (G.fin1 rfl rfl ?_))
  exact ⟨rfl, rfl⟩
theorem indexB_fn (C : Mem) (A : Option Addr) (c : Nat) (b : Bool) : Gives cx.P 80 [.slice A 0 c, .bool b] C (.int .i64 (-1)) := by
  refine Fn.intro (by kernel_rfl) Tryz.func80 rfl 19 rfl rfl (fun w0 => ?_)
  refine G.region rfl (fun R hR => ?_)
  refine D.pure rfl rfl rfl rfl rfl rfl ?_
  refine D.done [(0, [], _), (1, [], _)] ⟨rfl, rfl, trivial⟩ (hR _ _ _ rfl ?_); clear hR R
  refine G.region rfl (fun R hR => ?_)
  iterate 3 refine D.pure rfl rfl rfl rfl rfl rfl ?_
  refine D.done [(0, [], _), (1, [], _), (7, [], _), (8, [], _)] ⟨rfl, rfl, rfl, rfl, trivial⟩ (hR _ _ _ rfl ?_); clear hR R
  refine G.loop (fun fr C' L' μ => ∃ (k : Nat), (k = 0) ∧ fr = [(0, [], .slice A 0 c), (1, [], .bool b), (7, [], .int .i64 0), (8, [], .int .i64 k)] ∧ L' = [] ∧ μ = k) (fr' := [(0, [], _), (1, [], _), (7, [], _), (8, [], _)]) ⟨rfl, rfl, rfl, rfl, trivial⟩ ⟨0, rfl, rfl, rfl, rfl⟩ (fun fr C0' L0' m hle0 hI => ?_)
  obtain ⟨k, hk, rfl, rfl, rfl⟩ := hI
  refine G.region rfl (fun R hR => ?_)
  refine D.pure rfl rfl rfl rfl rfl rfl ?_
  refine D.done [(0, [], _), (1, [], _), (7, [], _), (8, [], _), (9, [], _)] ⟨rfl, rfl, rfl, rfl, rfl, trivial⟩ (hR _ _ _ rfl ?_); clear hR R
  refine G.cond rfl (fun h9 => ?_) (fun h9 => ?_)
  · skip
    subst hk; exact absurd h9 (by decide)
  · skip
    refine G.region rfl (fun R hR => ?_)
    refine D.pure rfl rfl rfl rfl rfl rfl ?_
    refine D.done [(4, [], _)] ⟨rfl, trivial⟩ (hR _ _ _ rfl ?_); clear hR R
    refine G.retN (G.dropAll (G.fin1 rfl rfl ?_))
    exact ⟨rfl, rfl⟩
theorem containsB_fn (C : Mem) (A : Option Addr) (c : Nat) (b : Bool) : Gives cx.P 39 [.slice A 0 c, .bool b] C (.bool false) := by
  refine Fn.intro (by kernel_rfl) Tryz.func39 rfl 9 rfl rfl (fun w0 => ?_)
  refine G.region rfl (fun R hR => ?_)
  refine D.pure rfl rfl rfl rfl rfl rfl ?_
  refine D.done [(0, [], _), (1, [], _)] ⟨rfl, rfl, trivial⟩ (hR _ _ _ rfl ?_); clear hR R
  refine G.region rfl (fun R hR => ?_)
  iterate 2 refine D.pure rfl rfl rfl rfl rfl rfl ?_
  refine D.gives2 (indexB_fn _ A c b) rfl rfl rfl rfl rfl rfl rfl (fun _ => rfl) ?_
  iterate 2 refine D.pure rfl rfl rfl rfl rfl rfl ?_
  refine D.done [(4, [], _)] ⟨rfl, trivial⟩ (hR _ _ _ rfl ?_); clear hR R
  refine G.retN (G.dropAll (G.fin1 rfl rfl ?_))
  exact ⟨rfl, rfl⟩
def keyI : KeyT (.int .i64) Int where
  enc n := .int .i64 n
  isKey _ := rfl
  same a b := by
    simp only [Instr.sameNow]
    congr 1
def nil3 : List Value := [.slice none 0 0, .slice none 0 0, .slice none 0 0]
/-- A sheet of nothing. -/
def Sheet0 (D : Mem) (p : Value) : Prop := ∃ b b2, p = .pointer (some ⟨b, 0, none⟩) ∧ D b = some (.cells ⟨[.slice none 0 0, .slice none 0 0, .slice (some ⟨b2, 0, none⟩) 0 0]⟩ 104 (0, 0))
theorem plain_fn (C : Mem) : Pur cx.P 33 [.agg ⟨nil3⟩] C fun u D => ∃ p, u = .tuple #[p, .bool true] ∧ Sheet0 D p := by
  refine Fn.intro (by kernel_rfl) Tryz.func33 rfl 217 rfl rfl (fun w0 => ?_)
  refine G.region rfl (fun R hR => ?_)
  refine D.box rfl rfl rfl rfl rfl rfl (fun _ => rfl) (fun b1 => ?_)
  iterate 2 refine D.pure rfl rfl rfl rfl rfl rfl ?_
  refine D.done [(1, [], _)] ⟨rfl, trivial⟩ (hR _ _ _ rfl ?_); clear hR R
  refine G.region rfl (fun R hR => ?_)
  refine D.pure rfl rfl rfl rfl rfl rfl ?_
  refine D.loadL (.head _) rfl rfl rfl rfl rfl rfl rfl rfl rfl ?_
  iterate 4 refine D.pure rfl rfl rfl rfl rfl rfl ?_
  refine D.loadL (.head _) rfl rfl rfl rfl rfl rfl rfl rfl rfl ?_
  iterate 2 refine D.pure rfl rfl rfl rfl rfl rfl ?_
  refine D.pickOr rfl rfl rfl rfl rfl rfl rfl rfl ?_
  iterate 2 refine D.pure rfl rfl rfl rfl rfl rfl ?_
  refine D.loadL (.head _) rfl rfl rfl rfl rfl rfl rfl rfl rfl ?_
  iterate 2 refine D.pure rfl rfl rfl rfl rfl rfl ?_
  refine D.pickOr rfl rfl rfl rfl rfl rfl rfl rfl ?_
  refine D.done [(1, [], _), (26, [], _)] ⟨rfl, rfl, trivial⟩ (hR _ _ _ rfl ?_); clear hR R
  refine G.cond rfl (fun h26 => ?_) (fun h26 => ?_)
  · skip
    exact absurd h26 (by decide)
  · skip
    refine G.region rfl (fun R hR => ?_)
    refine D.pure rfl rfl rfl rfl rfl rfl ?_
    refine D.loadL (.head _) rfl rfl rfl rfl rfl rfl rfl rfl rfl ?_
    refine D.pure rfl rfl rfl rfl rfl rfl ?_
    refine D.makeArr rfl rfl rfl rfl rfl rfl rfl rfl rfl (Nat.le_refl _) (by decide) (by decide) (fun _ => rfl) (fun b30 => ?_)
    refine D.build [.slice none 0 0, .slice none 0 0, .slice (some ⟨b30, 0, none⟩) 0 0] rfl rfl rfl rfl rfl rfl rfl rfl ?_
    refine D.box rfl rfl rfl rfl rfl rfl (fun _ => rfl) (fun b32 => ?_)
    refine D.pure rfl rfl rfl rfl rfl rfl ?_
    refine D.done [(1, [], _), (4, [], _)] ⟨rfl, rfl, trivial⟩ (hR _ _ _ rfl ?_); clear hR R
    refine G.region rfl (fun R hR => ?_)
    refine D.pure rfl rfl rfl rfl rfl rfl ?_
    refine D.loadL (.tail _ (.tail _ (.head _))) rfl rfl rfl rfl rfl rfl rfl rfl rfl ?_
    iterate 2 refine D.pure rfl rfl rfl rfl rfl rfl ?_
    refine D.done [(1, [], _), (4, [], _), (34, [], _), (35, [], _), (36, [], _)] ⟨rfl, rfl, rfl, rfl, rfl, trivial⟩ (hR _ _ _ rfl ?_); clear hR R
    refine G.freezeArr 1 [] rfl rfl (fun r hr => by cases hr) rfl (fun Cf hf hsd => ?_)
    refine G.loop (fun fr C' L' μ => ∃ (k : Nat), (k = 0) ∧ fr = [(1, [], .pointer (some ⟨b1, 0, none⟩)), (4, [], .pointer (some ⟨b32, 0, none⟩)), (34, [], .slice none 0 0), (35, [], .int .i64 0), (36, [], .int .i64 k)] ∧ L' = [.obj b32 (.cells ⟨[.slice none 0 0, .slice none 0 0, .slice (some ⟨b30, 0, none⟩) 0 0]⟩ 104 (0, 0)), .obj b1 (.cells ⟨nil3⟩ 53 (0, 0))] ∧ μ = k) (fr' := [(1, [], _), (4, [], _), (34, [], _), (35, [], _), (36, [], _)]) ⟨rfl, rfl, rfl, rfl, rfl, trivial⟩ ⟨0, rfl, rfl, rfl, rfl⟩ (fun fr C0' L0' m hle0 hI => ?_)
    obtain ⟨k, hk, rfl, rfl, rfl⟩ := hI
    refine G.region rfl (fun R hR => ?_)
    refine D.pure rfl rfl rfl rfl rfl rfl ?_
    refine D.done [(1, [], _), (4, [], _), (34, [], _), (35, [], _), (36, [], _), (37, [], _)] ⟨rfl, rfl, rfl, rfl, rfl, rfl, trivial⟩ (hR _ _ _ rfl ?_); clear hR R
    refine G.cond rfl (fun h37 => ?_) (fun h37 => ?_)
    · skip
      subst hk; exact absurd h37 (by decide)
    · skip
      refine G.region rfl (fun R hR => ?_)
      refine D.makeMap keyS rfl rfl rfl rfl (fun _ => rfl) (fun b71 => ?_)
      refine D.pure rfl rfl rfl rfl rfl rfl ?_
      refine D.done [(1, [], _), (4, [], _), (7, [], _)] ⟨rfl, rfl, rfl, trivial⟩ (hR _ _ _ rfl ?_); clear hR R
      refine G.region rfl (fun R hR => ?_)
      refine D.pure rfl rfl rfl rfl rfl rfl ?_
      refine D.loadL (.tail _ (.tail _ (.head _))) rfl rfl rfl rfl rfl rfl rfl rfl rfl ?_
      iterate 2 refine D.pure rfl rfl rfl rfl rfl rfl ?_
      refine D.done [(1, [], _), (4, [], _), (7, [], _), (73, [], _), (74, [], _), (75, [], _)] ⟨rfl, rfl, rfl, rfl, rfl, rfl, trivial⟩ (hR _ _ _ rfl ?_); clear hR R
      refine G.loop (fun fr C' L' μ => ∃ (k : Nat), (k = 0) ∧ fr = [(1, [], .pointer (some ⟨b1, 0, none⟩)), (4, [], .pointer (some ⟨b32, 0, none⟩)), (7, [], .map (some b71)), (73, [], .slice none 0 0), (74, [], .int .i64 0), (75, [], .int .i64 k)] ∧ L' = [.obj b71 (mapOf keyS.enc []), .obj b32 (.cells ⟨[.slice none 0 0, .slice none 0 0, .slice (some ⟨b30, 0, none⟩) 0 0]⟩ 104 (0, 0)), .obj b1 (.cells ⟨nil3⟩ 53 (0, 0))] ∧ μ = k) (fr' := [(1, [], _), (4, [], _), (7, [], _), (73, [], _), (74, [], _), (75, [], _)]) ⟨rfl, rfl, rfl, rfl, rfl, rfl, trivial⟩ ⟨0, rfl, rfl, rfl, rfl⟩ (fun fr C1' L1' m hle1 hI => ?_)
      obtain ⟨k, hk2, rfl, rfl, rfl⟩ := hI
      refine G.region rfl (fun R hR => ?_)
      refine D.pure rfl rfl rfl rfl rfl rfl ?_
      refine D.done [(1, [], _), (4, [], _), (7, [], _), (73, [], _), (74, [], _), (75, [], _), (76, [], _)] ⟨rfl, rfl, rfl, rfl, rfl, rfl, rfl, trivial⟩ (hR _ _ _ rfl ?_); clear hR R
      refine G.cond rfl (fun h76 => ?_) (fun h76 => ?_)
      · skip
        subst hk2; exact absurd h76 (by decide)
      · skip
        refine G.region rfl (fun R hR => ?_)
        iterate 4 refine D.pure rfl rfl rfl rfl rfl rfl ?_
        refine D.loadL (.tail _ (.head _)) rfl rfl rfl rfl rfl rfl rfl rfl rfl ?_
        refine D.gives2 (contN_fn _ _ _ _) rfl rfl rfl rfl rfl rfl rfl (fun _ => rfl) ?_
        iterate 3 refine D.pure rfl rfl rfl rfl rfl rfl ?_
        refine D.done [(2, [], _), (3, [], _)] ⟨rfl, rfl, trivial⟩ (hR _ _ _ rfl ?_); clear hR R
        refine G.freeze 1 rfl (fun Cg hg hb => ?_)
        refine G.retN (G.dropAll (G.fin2 rfl rfl rfl ?_))
        exact ⟨rfl, _, rfl, b32, b30, rfl, hb⟩
theorem crossed_fn (C : Mem) (p : Value) (h : Sheet0 C p) : Gives cx.P 34 [p] C (.bool false) := by
  obtain ⟨b, b2, rfl, hb⟩ := h
  refine Fn.intro (by kernel_rfl) Tryz.func34 rfl 123 rfl rfl (fun w0 => ?_)
  refine G.region rfl (fun R hR => ?_)
  refine D.pure rfl rfl rfl rfl rfl rfl ?_
  refine D.done [(0, [], _)] ⟨rfl, trivial⟩ (hR _ _ _ rfl ?_); clear hR R
  refine G.region rfl (fun R hR => ?_)
  refine D.pure rfl rfl rfl rfl rfl rfl ?_
  refine D.done [(0, [], _), (3, [], _)] ⟨rfl, rfl, trivial⟩ (hR _ _ _ rfl ?_); clear hR R
  refine G.loop (fun fr C' L' μ => ∃ (k : Nat), (k = 0) ∧ fr = [(0, [], .pointer (some ⟨b, 0, none⟩)), (3, [], .int .i64 k)] ∧ L' = [] ∧ μ = k) (fr' := [(0, [], _), (3, [], _)]) ⟨rfl, rfl, trivial⟩ ⟨0, rfl, rfl, rfl, rfl⟩ (fun fr C0' L0' m hle0 hI => ?_)
  obtain ⟨k, hk, rfl, rfl, rfl⟩ := hI
  refine G.region rfl (fun R hR => ?_)
  iterate 4 refine D.pure rfl rfl rfl rfl rfl rfl ?_
  refine D.loadP0 (PtrTo.block (Mem.get hb (by (repeat (first | exact Mem.le.refl _ | assumption | (apply Mem.le.trans; rotate_left; assumption))))) _) rfl rfl rfl rfl rfl rfl rfl rfl ?_
  iterate 2 refine D.pure rfl rfl rfl rfl rfl rfl ?_
  refine D.done [(0, [], _), (3, [], _), (15, [], _)] ⟨rfl, rfl, rfl, trivial⟩ (hR _ _ _ rfl ?_); clear hR R
  refine G.cond rfl (fun h15 => ?_) (fun h15 => ?_)
  · skip
    subst hk; exact absurd h15 (by decide)
  · skip
    refine G.region rfl (fun R hR => ?_)
    refine D.pure rfl rfl rfl rfl rfl rfl ?_
    refine D.done [(2, [], _)] ⟨rfl, trivial⟩ (hR _ _ _ rfl ?_); clear hR R
    refine G.retN (G.dropAll (G.fin1 rfl rfl ?_))
    exact ⟨rfl, rfl⟩
theorem cycles_fn (C : Mem) (p : Value) (h : Sheet0 C p) : Pur cx.P 35 [p] C fun u _ => ∃ A, u = .tuple #[.slice A 0 0, .slice none 0 0] := by
  obtain ⟨b, b2, rfl, hb⟩ := h
  refine Fn.intro (by kernel_rfl) Tryz.func35 rfl 102 rfl rfl (fun w0 => ?_)
  refine G.region rfl (fun R hR => ?_)
  refine D.box rfl rfl rfl rfl rfl rfl (fun _ => rfl) (fun b1 => ?_)
  iterate 2 refine D.pure rfl rfl rfl rfl rfl rfl ?_
  refine D.done [(1, [], _), (3, [], _)] ⟨rfl, rfl, trivial⟩ (hR _ _ _ rfl ?_); clear hR R
  refine G.region rfl (fun R hR => ?_)
  refine D.loadL (.head _) rfl rfl rfl rfl rfl rfl rfl rfl rfl ?_
  iterate 2 refine D.pure rfl rfl rfl rfl rfl rfl ?_
  refine D.loadP0 (PtrTo.block (Mem.get hb (by (repeat (first | exact Mem.le.refl _ | assumption | (apply Mem.le.trans; rotate_left; assumption))))) _) rfl rfl rfl rfl rfl rfl rfl rfl ?_
  iterate 2 refine D.pure rfl rfl rfl rfl rfl rfl ?_
  refine D.done [(1, [], _), (3, [], _), (15, [], _), (16, [], _), (17, [], _)] ⟨rfl, rfl, rfl, rfl, rfl, trivial⟩ (hR _ _ _ rfl ?_); clear hR R
  refine G.loop (fun fr C' L' μ => ∃ (k : Nat), (k = 0) ∧ fr = [(1, [], .pointer (some ⟨b1, 0, none⟩)), (3, [], .slice none 0 0), (15, [], .slice (some ⟨b2, 0, none⟩) 0 0), (16, [], .int .i64 0), (17, [], .int .i64 k)] ∧ L' = [.obj b1 (.cells ⟨[.pointer (some ⟨b, 0, none⟩)]⟩ 85 (0, 0))] ∧ μ = k) (fr' := [(1, [], _), (3, [], _), (15, [], _), (16, [], _), (17, [], _)]) ⟨rfl, rfl, rfl, rfl, rfl, trivial⟩ ⟨0, rfl, rfl, rfl, rfl⟩ (fun fr C0' L0' m hle0 hI => ?_)
  obtain ⟨k, hk, rfl, rfl, rfl⟩ := hI
  refine G.region rfl (fun R hR => ?_)
  refine D.pure rfl rfl rfl rfl rfl rfl ?_
  refine D.done [(1, [], _), (3, [], _), (15, [], _), (16, [], _), (17, [], _), (18, [], _)] ⟨rfl, rfl, rfl, rfl, rfl, rfl, trivial⟩ (hR _ _ _ rfl ?_); clear hR R
  refine G.cond rfl (fun h18 => ?_) (fun h18 => ?_)
  · skip
    subst hk; exact absurd h18 (by decide)
  · skip
    refine G.regionO [(6, 3)] rfl (fun R hR => ?_)
    refine D.buildSlice [[.int .i64 (-1)]] rfl rfl rfl rfl rfl rfl rfl rfl rfl rfl rfl rfl (fun _ => rfl) (fun p33 C33 hle33 hs33 => ?_)
    refine D.loadL (.head _) rfl rfl rfl rfl rfl rfl rfl rfl rfl ?_
    iterate 2 refine D.pure rfl rfl rfl rfl rfl rfl ?_
    refine D.loadP0 (PtrTo.block (Mem.get hb (by (repeat (first | exact Mem.le.refl _ | assumption | (apply Mem.le.trans; rotate_left; assumption))))) _) rfl rfl rfl rfl rfl rfl rfl rfl ?_
    refine D.pure rfl rfl rfl rfl rfl rfl ?_
    refine D.call (repeat_fn _ _ 0 (-1) (hs33.mono (by (repeat (first | exact Mem.le.refl _ | assumption | (apply Mem.le.trans; rotate_left; assumption))))) (by omega)) rfl (.inr (by decide)) rfl rfl rfl rfl rfl rfl (List.Perm.refl _) (fun _ => rfl) (fun v39 C39 L39 hle39 hq39 => ?_)
    obtain ⟨b9, rfl, rfl⟩ := hq39
    refine D.pure rfl rfl rfl rfl rfl rfl ?_
    refine D.done [(1, [], _), (2, [], _), (3, [], _)] ⟨rfl, rfl, rfl, trivial⟩ (hR _ _ _ rfl ?_); clear hR R
    refine G.freezeArr 0 [] rfl rfl (fun r hr => by cases hr) rfl (fun Cf hf hsd => ?_)
    refine G.region rfl (fun R hR => ?_)
    refine D.loadL (.head _) rfl rfl rfl rfl rfl rfl rfl rfl rfl ?_
    iterate 2 refine D.pure rfl rfl rfl rfl rfl rfl ?_
    refine D.loadP0 (PtrTo.block (Mem.get hb (by (repeat (first | exact Mem.le.refl _ | assumption | (apply Mem.le.trans; rotate_left; assumption))))) _) rfl rfl rfl rfl rfl rfl rfl rfl ?_
    iterate 2 refine D.pure rfl rfl rfl rfl rfl rfl ?_
    refine D.done [(1, [], _), (2, [], _), (3, [], _), (44, [], _), (45, [], _)] ⟨rfl, rfl, rfl, rfl, rfl, trivial⟩ (hR _ _ _ rfl ?_); clear hR R
    refine G.loop (fun fr C' L' μ => ∃ (k : Nat), (k = 0) ∧ fr = [(1, [], .pointer (some ⟨b1, 0, none⟩)), (2, [], .slice (some ⟨b9, 0, none⟩) 0 0), (3, [], .slice none 0 0), (44, [], .int .i64 0), (45, [], .int .i64 k)] ∧ L' = [.obj b1 (.cells ⟨[.pointer (some ⟨b, 0, none⟩)]⟩ 85 (0, 0))] ∧ μ = k) (fr' := [(1, [], _), (2, [], _), (3, [], _), (44, [], _), (45, [], _)]) ⟨rfl, rfl, rfl, rfl, rfl, trivial⟩ ⟨0, rfl, rfl, rfl, rfl⟩ (fun fr C1' L1' m hle1 hI => ?_)
    obtain ⟨k, hk2, rfl, rfl, rfl⟩ := hI
    refine G.region rfl (fun R hR => ?_)
    refine D.pure rfl rfl rfl rfl rfl rfl ?_
    refine D.done [(1, [], _), (2, [], _), (3, [], _), (44, [], _), (45, [], _), (46, [], _)] ⟨rfl, rfl, rfl, rfl, rfl, rfl, trivial⟩ (hR _ _ _ rfl ?_); clear hR R
    refine G.cond rfl (fun h46 => ?_) (fun h46 => ?_)
    · skip
      subst hk2; exact absurd h46 (by decide)
    · skip
      refine G.region rfl (fun R hR => ?_)
      iterate 4 refine D.pure rfl rfl rfl rfl rfl rfl ?_
      refine D.done [(2, [], _), (3, [], _)] ⟨rfl, rfl, trivial⟩ (hR _ _ _ rfl ?_); clear hR R
      refine G.retN (G.dropAll (G.fin2 rfl rfl rfl ?_))
      exact ⟨rfl, _, rfl⟩
theorem map0_fn (C : Mem) : Gives cx.P 17 [.agg ⟨nil3⟩] C (.bool true) := by
  refine Fn.intro (by kernel_rfl) Tryz.func17 rfl 100 rfl rfl (fun w0 => ?_)
  refine G.region rfl (fun R hR => ?_)
  refine D.box rfl rfl rfl rfl rfl rfl (fun _ => rfl) (fun b1 => ?_)
  refine D.pure rfl rfl rfl rfl rfl rfl ?_
  refine D.done [(1, [], _)] ⟨rfl, trivial⟩ (hR _ _ _ rfl ?_); clear hR R
  refine G.region rfl (fun R hR => ?_)
  refine D.loadL (.head _) rfl rfl rfl rfl rfl rfl rfl rfl rfl ?_
  refine D.callP (plain_fn _) rfl rfl rfl rfl rfl rfl rfl (fun _ => rfl) (fun v20 C20 hle20 hq20 => ?_)
  obtain ⟨p, rfl, hp⟩ := hq20
  obtain ⟨b, b2, rfl, hb⟩ := id hp
  iterate 3 refine D.pure rfl rfl rfl rfl rfl rfl ?_
  refine D.alloc rfl rfl rfl rfl rfl (fun _ => rfl) (fun b3 => ?_)
  refine D.store (j := 0) rfl rfl rfl rfl rfl rfl rfl rfl rfl rfl rfl rfl ?_
  refine D.pure rfl rfl rfl rfl rfl rfl ?_
  refine D.done [(1, [], _), (3, [], _), (4, [], _)] ⟨rfl, rfl, rfl, trivial⟩ (hR _ _ _ rfl ?_); clear hR R
  refine G.region rfl (fun R hR => ?_)
  iterate 3 refine D.pure rfl rfl rfl rfl rfl rfl ?_
  refine D.loadL (.head _) rfl rfl rfl rfl rfl rfl rfl rfl rfl ?_
  refine D.gives (fun _ => (crossed_fn _ _ (by obtain ⟨b, b2, e, hb⟩ := hp; exact ⟨b, b2, e, Mem.get hb (by (repeat (first | exact Mem.le.refl _ | assumption | (apply Mem.le.trans; rotate_left; assumption))))⟩))) rfl rfl rfl rfl rfl rfl rfl rfl rfl ?_
  refine D.pickOr rfl rfl rfl rfl rfl rfl rfl rfl ?_
  refine D.done [(1, [], _), (3, [], _), (28, [], _)] ⟨rfl, rfl, rfl, trivial⟩ (hR _ _ _ rfl ?_); clear hR R
  refine G.cond rfl (fun h28 => ?_) (fun h28 => ?_)
  · skip
    exact absurd h28 (by decide)
  · skip
    refine G.region rfl (fun R hR => ?_)
    refine D.loadL (.head _) rfl rfl rfl rfl rfl rfl rfl rfl rfl ?_
    refine D.callP (cycles_fn _ _ (by obtain ⟨b, b2, e, hb⟩ := hp; exact ⟨b, b2, e, Mem.get hb (by (repeat (first | exact Mem.le.refl _ | assumption | (apply Mem.le.trans; rotate_left; assumption))))⟩)) rfl rfl rfl rfl rfl rfl rfl (fun _ => rfl) (fun v31 C31 hle31 hq31 => ?_)
    obtain ⟨A9, rfl⟩ := hq31
    iterate 3 refine D.pure rfl rfl rfl rfl rfl rfl ?_
    refine D.alloc rfl rfl rfl rfl rfl (fun _ => rfl) (fun b5 => ?_)
    refine D.alloc rfl rfl rfl rfl rfl (fun _ => rfl) (fun b6 => ?_)
    refine D.store (j := 1) rfl rfl rfl rfl rfl rfl rfl rfl rfl rfl rfl rfl ?_
    refine D.store (j := 1) rfl rfl rfl rfl rfl rfl rfl rfl rfl rfl rfl rfl ?_
    refine D.done [(1, [], _), (3, [], _), (5, [], _), (6, [], _)] ⟨rfl, rfl, rfl, rfl, trivial⟩ (hR _ _ _ rfl ?_); clear hR R
    refine G.region rfl (fun R hR => ?_)
    refine D.alloc rfl rfl rfl rfl rfl (fun _ => rfl) (fun b7 => ?_)
    refine D.done [(1, [], _), (3, [], _), (5, [], _), (6, [], _), (7, [], _)] ⟨rfl, rfl, rfl, rfl, rfl, trivial⟩ (hR _ _ _ rfl ?_); clear hR R
    refine G.region rfl (fun R hR => ?_)
    refine D.pure rfl rfl rfl rfl rfl rfl ?_
    refine D.store (j := 0) rfl rfl rfl rfl rfl rfl rfl rfl rfl rfl rfl rfl ?_
    refine D.done [(1, [], _), (3, [], _), (6, [], _), (7, [], _)] ⟨rfl, rfl, rfl, rfl, trivial⟩ (hR _ _ _ rfl ?_); clear hR R
    refine G.region rfl (fun R hR => ?_)
    refine D.makeMap keyI rfl rfl rfl rfl (fun _ => rfl) (fun b35 => ?_)
    refine D.insert keyI (j := 0) rfl rfl rfl rfl rfl rfl rfl rfl rfl rfl (by kernel_rfl) ?_
    iterate 2 refine D.pure rfl rfl rfl rfl rfl rfl ?_
    refine D.done [(1, [], _), (3, [], _), (6, [], _), (7, [], _), (8, [], _)] ⟨rfl, rfl, rfl, rfl, rfl, trivial⟩ (hR _ _ _ rfl ?_); clear hR R
    refine G.region rfl (fun R hR => ?_)
    refine D.pure rfl rfl rfl rfl rfl rfl ?_
    refine D.loadL (.tail _ (.tail _ (.tail _ (.tail _ (.tail _ (.head _)))))) rfl rfl rfl rfl rfl rfl rfl rfl rfl ?_
    refine D.pure rfl rfl rfl rfl rfl rfl ?_
    refine D.makeArr rfl rfl rfl rfl rfl rfl rfl rfl rfl (Nat.le_refl _) (by decide) (by decide) (fun _ => rfl) (fun b40 => ?_)
    refine D.pure rfl rfl rfl rfl rfl rfl ?_
    refine D.done [(3, [], _), (6, [], _), (7, [], _), (8, [], _), (9, [], _)] ⟨rfl, rfl, rfl, rfl, rfl, trivial⟩ (hR _ _ _ rfl ?_); clear hR R
    refine G.region rfl (fun R hR => ?_)
    refine D.loadL (.tail _ (.tail _ (.tail _ (.head _)))) rfl rfl rfl rfl rfl rfl rfl rfl rfl ?_
    iterate 2 refine D.pure rfl rfl rfl rfl rfl rfl ?_
    refine D.done [(3, [], _), (7, [], _), (8, [], _), (9, [], _), (41, [], _), (42, [], _), (43, [], _)] ⟨rfl, rfl, rfl, rfl, rfl, rfl, rfl, trivial⟩ (hR _ _ _ rfl ?_); clear hR R
    refine G.dropAll ?_
    refine G.loop (fun fr C' L' μ => ∃ (k : Nat), (k = 0) ∧ fr = [(3, [], .pointer (some ⟨b3, 0, none⟩)), (7, [], .pointer (some ⟨b7, 0, none⟩)), (8, [], .map (some b35)), (9, [], .slice (some ⟨b40, 0, none⟩) 0 0), (41, [], .slice none 0 0), (42, [], .int .i64 0), (43, [], .int .i64 k)] ∧ L' = [] ∧ μ = k) (fr' := [(3, [], _), (7, [], _), (8, [], _), (9, [], _), (41, [], _), (42, [], _), (43, [], _)]) ⟨rfl, rfl, rfl, rfl, rfl, rfl, rfl, trivial⟩ ⟨0, rfl, rfl, rfl, rfl⟩ (fun fr C0' L0' m hle0 hI => ?_)
    obtain ⟨k, hk, rfl, rfl, rfl⟩ := hI
    refine G.region rfl (fun R hR => ?_)
    refine D.pure rfl rfl rfl rfl rfl rfl ?_
    refine D.done [(3, [], _), (7, [], _), (8, [], _), (9, [], _), (41, [], _), (42, [], _), (43, [], _), (44, [], _)] ⟨rfl, rfl, rfl, rfl, rfl, rfl, rfl, rfl, trivial⟩ (hR _ _ _ rfl ?_); clear hR R
    refine G.cond rfl (fun h44 => ?_) (fun h44 => ?_)
    · skip
      subst hk; exact absurd h44 (by decide)
    · skip
      refine G.region rfl (fun R hR => ?_)
      refine D.pure rfl rfl rfl rfl rfl rfl ?_
      refine D.gives2 (containsB_fn _ _ _ _) rfl rfl rfl rfl rfl rfl rfl (fun _ => rfl) ?_
      iterate 2 refine D.pure rfl rfl rfl rfl rfl rfl ?_
      refine D.done [(2, [], _)] ⟨rfl, trivial⟩ (hR _ _ _ rfl ?_); clear hR R
      refine G.retN (G.dropAll (G.fin1 rfl rfl ?_))
      exact ⟨rfl, rfl⟩
end Go.Proofs.YtfelabnohopfdaaGreatDoor
