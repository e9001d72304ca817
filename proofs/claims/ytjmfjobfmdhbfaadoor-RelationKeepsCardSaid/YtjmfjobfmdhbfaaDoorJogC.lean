/- Frames known slot by slot, the type table, and the value of the operations that look at no memory. Program-independent. -/
import Derived.Test.YtjmfjobfmdhbfaaDoorJogB
namespace Go.Jog
open Go

/-! ### Types -/
inductive TK where
  | int (k : IntKind) | bool | str | ptr (e : Nat) | slice (e : Nat) | arr (n e : Nat) | struct (fs : List (Nat × Nat)) | map (k e : Nat) | func | iface | other
  deriving DecidableEq

inductive Zv where
  | int (k : IntKind) | bool | str | ptr | slice | map | func | iface
  deriving DecidableEq

def Zv.val : Zv → Value
  | .int k => .int k 0 | .bool => .bool false | .str => .string ⟨#[]⟩ | .ptr => .pointer none | .slice => .slice none 0 0 | .map => .map none | .func => .nilFunc | .iface => .nilIface

def zvB : Value → Zv → Bool
  | .int k n, .int k' => k == k' && n == 0
  | .bool b, .bool => !b
  | .string s, .str => s.data.toList == []
  | .pointer none, .ptr | .slice none 0 0, .slice | .map none, .map | .nilFunc, .func | .nilIface, .iface => true
  | _, _ => false

theorem zvB_spec {v : Value} {z : Zv} (h : zvB v z = true) : v = z.val := by
  unfold zvB at h
  split at h <;> simp_all [Zv.val]
  rename_i s
  obtain ⟨⟨l⟩⟩ := s
  simp at h
  subst h
  rfl

structure TI where
  k : TK
  size : Nat
  bytes : Nat
  zero : List Zv
  agg : Bool
  deriving DecidableEq

def tkB (d : TypeDesc) : TK → Bool
  | .int k => match d with | .int k' => k == k' | _ => false
  | .bool => match d with | .bool => true | _ => false
  | .str => match d with | .string => true | _ => false
  | .ptr e => match d with | .pointer e' => e == e' | _ => false
  | .slice e => match d with | .slice e' => e == e' | _ => false
  | .arr n e => match d with | .array n' e' => n == n' && e == e' | _ => false
  | .struct fs => match d with | .struct fields => fields.toList.map (fun f => (f.type, f.offset)) == fs | _ => false
  | .map k e => match d with | .map k' e' => k == k' && e == e' | _ => false
  | .func => match d with | .func .. => true | _ => false
  | .iface => match d with | .interface _ => true | _ => false
  | .other => true

def zerosB : List Value → List Zv → Bool
  | [], [] => true
  | v :: vs, z :: zs => zvB v z && zerosB vs zs
  | _, _ => false

def TI.zv (i : TI) : Value := bif i.agg then .agg (i.zero.map Zv.val).toArray else (i.zero.map Zv.val).headD undef

def aggD : TypeDesc → Bool
  | .struct _ | .array _ _ => true
  | _ => false

def tiB (P : Program) (t : Nat) (i : TI) : Bool :=
  match P.underlying t, P.info? t with
  | some d, some f => tkB d i.k && (aggD d == i.agg) && f.size == i.size && f.bytes == i.bytes && (i.zero.length == i.size) && (match f.zero with
    | some z => zerosB z.cells.toList i.zero && (match z with | .agg _ => i.agg | .tuple _ => false | _ => !i.agg)
    | none => false)
  | _, _ => false

abbrev Tab := List (Nat × TI)
def Tab.get : Tab → Nat → Option TI
  | [], _ => none
  | (t, i) :: r, s => bif Nat.beq t s then some i else Tab.get r s

def tabB (P : Program) (T : Tab) : Bool := T.all fun (t, i) => tiB P t i

theorem zerosB_spec : ∀ {vs : List Value} {zs : List Zv}, zerosB vs zs = true → vs = zs.map Zv.val
  | [], [], _ => rfl
  | v :: vs, z :: zs, h => by
    simp only [zerosB, Bool.and_eq_true] at h
    rw [zvB_spec h.1, zerosB_spec h.2]; rfl
  | [], _ :: _, h => by simp [zerosB] at h
  | _ :: _, [], h => by simp [zerosB] at h

theorem Tab.get_mem : ∀ {T : Tab} {t : Nat} {i : TI}, T.get t = some i → (t, i) ∈ T
  | (s, j) :: r, t, i, h => by
    simp only [Tab.get] at h
    cases hb : Nat.beq s t with
    | true =>
      rw [hb] at h
      simp only [cond_true, Option.some.injEq] at h
      rw [Nat.eq_of_beq_eq_true hb, h]
      exact List.mem_cons_self ..
    | false =>
      rw [hb] at h
      exact List.mem_cons_of_mem _ (Tab.get_mem h)

structure TIok (P : Program) (t : Nat) (i : TI) : Prop where
  und : ∃ d, P.underlying t = some d ∧ tkB d i.k = true ∧ aggD d = i.agg
  info : ∃ f, P.info? t = some f ∧ f.size = i.size ∧ f.bytes = i.bytes ∧ f.zero = some i.zv ∧ i.zv.cells = (i.zero.map Zv.val).toArray
  zsize : i.zv.cells.size = i.size

theorem tab_ok {P : Program} {T : Tab} (hT : tabB P T = true) {t : Nat} {i : TI} (h : T.get t = some i) : TIok P t i := by
  have := List.all_eq_true.1 hT _ (Tab.get_mem h)
  simp only [tiB] at this
  split at this
  · rename_i d f hd hf
    simp only [Bool.and_eq_true, beq_iff_eq] at this
    obtain ⟨⟨⟨⟨⟨h1, h2⟩, h3⟩, h4⟩, h45⟩, h5⟩ := this
    suffices hh : f.zero = some i.zv ∧ i.zv.cells = (i.zero.map Zv.val).toArray from ⟨⟨d, hd, h1, h2⟩, ⟨f, hf, h3, h4, hh.1, hh.2⟩, by rw [hh.2]; simpa using h45⟩
    split at h5
    · rename_i z hz
      simp only [Bool.and_eq_true] at h5
      obtain ⟨h6, h7⟩ := h5
      have h8 := zerosB_spec h6
      have h9 : z = i.zv ∧ z.cells = (i.zero.map Zv.val).toArray := by
        have hc : z.cells = (i.zero.map Zv.val).toArray := by rw [← h8]
        refine ⟨?_, hc⟩
        unfold TI.zv
        cases z <;> simp_all [Value.cells] <;> (try (cases h : i.zero <;> simp_all))
      exact ⟨by rw [hz, h9.1], by rw [← h9.1]; exact h9.2⟩
    · cases h5
  · cases this

/-! ### Frames -/
abbrev GL := List (Nat × Bool)
abbrev Fr := List (Nat × GL × Value)
def Fr.get : Fr → Nat → Option (GL × Value)
  | [], _ => none
  | (t, x) :: r, s => bif Nat.beq t s then some x else Fr.get r s

/-- What operation j has yielded, by the slots that the region's operations write. -/
def yld (ds : List (Option Nat)) (tmps : Array Value) (j : Nat) : Option Bool :=
  match ((ds[j]?).bind id).bind (tmps[·]?) with
  | some (.bool b) => some b
  | _ => none

theorem yielded_eq (l : List Oper) (tmps : Array Value) : yielded l.toArray tmps = yld (l.map (·.dst)) tmps := by
  funext j
  unfold yielded yld
  have h : ((l.toArray)[j]?).bind (·.dst) = ((l.map (·.dst))[j]?).bind id := by
    simp only [List.getElem?_toArray, List.getElem?_map]
    cases l[j]? <;> rfl
  rw [h]
  rfl

def GH (ds : List (Option Nat)) (tmps : Array Value) (g : GL) : Prop := ∀ p ∈ g, yld ds tmps p.1 = some p.2

structure FrOk (n : Nat) (ds : List (Option Nat)) (fr : Fr) (a : Act) : Prop where
  size : a.tmps.size = n
  defers : a.defers = []
  ent : ∀ s g v, fr.get s = some (g, v) → (GH ds a.tmps g → a.tmps[s]? = some v) ∧ (¬ GH ds a.tmps g → a.tmps[s]? = some undef)

def subG (ge g : GL) : Bool := ge.all fun p => g.any fun q => Nat.beq p.1 q.1 && (p.2 == q.2)

theorem GH.sub {ds : List (Option Nat)} {tmps : Array Value} {ge g : GL} (h : GH ds tmps g) (hs : subG ge g = true) : GH ds tmps ge := by
  intro p hp
  have := List.all_eq_true.1 hs p hp
  obtain ⟨q, hq, hb⟩ := List.any_eq_true.1 this
  simp only [Bool.and_eq_true, beq_iff_eq] at hb
  have e1 := Nat.eq_of_beq_eq_true hb.1
  have := h q hq
  rw [← e1, ← hb.2] at this
  exact this

def ev (fr : Fr) (g : GL) : Operand → Option Value
  | .tmp t => match fr.get t with
    | some (ge, v) => bif subG ge g then some v else none
    | none => none
  | .const v => some v
  | .global b => some (.pointer (some ⟨b, 0, none⟩))
  | .func f => some (.func (.func f) #[] #[])

theorem ev_spec {n : Nat} {ds : List (Option Nat)} {fr : Fr} {a : Act} {g : GL} (h : FrOk n ds fr a) (hg : GH ds a.tmps g) {x : Operand} {v : Value} (hx : ev fr g x = some v) : a.eval x = v := by
  cases x with
  | tmp t =>
    simp only [ev] at hx
    split at hx
    · rename_i ge u hget
      cases hs : subG ge g with
      | false => rw [hs] at hx; cases hx
      | true =>
        rw [hs] at hx
        simp only [cond_true, Option.some.injEq] at hx
        have := (h.ent t ge u hget).1 (hg.sub hs)
        simp only [Act.eval, Array.getD_eq_getD_getElem?, this, Option.getD_some]
        exact hx
    · cases hx
  | const u => simpa [ev, Act.eval] using hx
  | global b => simpa [ev, Act.eval] using hx
  | func f => simpa [ev, Act.eval] using hx

/-- The guards under which an operation is carried out. -/
def gOf (ds : List (Option Nat)) (fr : Fr) : Option (Nat × Bool) → Option GL
  | none => some []
  | some (j, w) => match ((ds[j]?).bind id).bind fr.get with
    | some (g, .bool _) => some ((j, w) :: g)
    | _ => none

/-- What they say of the Booleans that the guarding operations yield. -/
def GT (ds : List (Option Nat)) (fr : Fr) : GL → Prop
  | [] => True
  | (j, w) :: r => (match ((ds[j]?).bind id).bind fr.get with
    | some (_, .bool b) => b = w
    | _ => False) ∧ GT ds fr r

theorem yld_some {ds : List (Option Nat)} {tmps : Array Value} {j : Nat} {b : Bool} (h : yld ds tmps j = some b) : ∃ d, (ds[j]?).bind id = some d ∧ tmps[d]? = some (.bool b) := by
  unfold yld at h
  cases hd : (ds[j]?).bind id with
  | none => rw [hd] at h; cases h
  | some d =>
    refine ⟨d, rfl, ?_⟩
    rw [hd] at h
    simp only [Option.bind_some] at h
    split at h
    · rename_i b' hb; cases h; exact hb
    · cases h

theorem GT_of {n : Nat} {ds : List (Option Nat)} {fr : Fr} {a : Act} (h : FrOk n ds fr a) : ∀ {g : GL}, GH ds a.tmps g → (∀ p ∈ g, ∃ g' b, ((ds[p.1]?).bind id).bind fr.get = some (g', .bool b)) → GT ds fr g
  | [], _, _ => trivial
  | (j, w) :: r, hg, hw => by
    refine ⟨?_, GT_of h (fun p hp => hg p (by simp [hp])) (fun p hp => hw p (by simp [hp]))⟩
    obtain ⟨g', b, hb⟩ := hw (j, w) (by simp)
    simp only [hb]
    have hy := hg (j, w) (by simp)
    obtain ⟨d, hd, ht⟩ := yld_some hy
    rw [hd] at hb
    have he := h.ent d g' (.bool b) hb
    by_cases hG : GH ds a.tmps g'
    · have := he.1 hG
      rw [ht] at this
      simp only [Option.some.injEq, Value.bool.injEq] at this
      exact this.symm
    · have := he.2 hG
      rw [ht] at this
      simp [undef] at this

/-- Each guard's own operation is in the frame, with a Boolean, and no entry is guarded by a slot that is written now. -/
def okPut (n : Nat) (ds : List (Option Nat)) (fr : Fr) (d : Nat) : Bool :=
  Nat.blt d n && fr.all fun (_, g, _) => g.all fun p => match (ds[p.1]?).bind id with
    | some e => !(Nat.beq e d)
    | none => true

theorem yld_put {ds : List (Option Nat)} {a : Act} {d : Nat} {v : Value} {j : Nat} (h : ∀ e, (ds[j]?).bind id = some e → e ≠ d) : yld ds (a.put (some d) v).tmps j = yld ds a.tmps j := by
  unfold yld
  cases hd : (ds[j]?).bind id with
  | none => rfl
  | some e =>
    have := h e hd
    simp [Act.put, Array.getElem?_setIfInBounds_ne (Ne.symm this)]

theorem Fr.get_mem : ∀ {fr : Fr} {s : Nat} {x : GL × Value}, fr.get s = some x → (s, x) ∈ fr
  | (t, y) :: r, s, x, h => by
    simp only [Fr.get] at h
    cases hb : Nat.beq t s with
    | true =>
      rw [hb] at h
      simp only [cond_true, Option.some.injEq] at h
      rw [Nat.eq_of_beq_eq_true hb, h]
      exact List.mem_cons_self ..
    | false =>
      rw [hb] at h
      exact List.mem_cons_of_mem _ (Fr.get_mem h)

theorem FrOk.put {n : Nat} {ds : List (Option Nat)} {fr : Fr} {a : Act} {d : Nat} {g : GL} {v u : Value} (h : FrOk n ds fr a) (hp : okPut n ds ((d, g, v) :: fr) d = true)
    (hu : (GH ds a.tmps g → u = v) ∧ (¬ GH ds a.tmps g → u = undef)) : FrOk n ds ((d, g, v) :: fr) (a.put (some d) u) := by
  simp only [okPut, Bool.and_eq_true, List.all_eq_true] at hp
  obtain ⟨hlt, hall⟩ := hp
  have hlt : d < n := by simpa [Nat.blt_eq] using hlt
  have gh : ∀ s g' v', (s, g', v') ∈ (d, g, v) :: fr → (GH ds (a.put (some d) u).tmps g' ↔ GH ds a.tmps g') := fun s g' v' hm => by
    have hq := hall (s, g', v') hm
    have e : ∀ p ∈ g', yld ds (a.put (some d) u).tmps p.1 = yld ds a.tmps p.1 := fun p hp' => by
      refine yld_put (fun e he => ?_)
      have := hq p hp'
      simp only [he, Bool.not_eq_true'] at this
      intro hed
      subst hed
      simp [Nat.beq_refl] at this
    exact ⟨fun hh p hp' => by rw [← e p hp']; exact hh p hp', fun hh p hp' => by rw [e p hp']; exact hh p hp'⟩
  refine ⟨by simp [Act.put, h.size], h.defers, fun s g' v' hget => ?_⟩
  have hmem := Fr.get_mem hget
  rw [gh s g' v' hmem]
  simp only [Fr.get] at hget
  cases hb : Nat.beq d s with
  | true =>
    rw [hb] at hget
    simp only [cond_true, Option.some.injEq, Prod.mk.injEq] at hget
    obtain ⟨rfl, rfl⟩ := hget
    have hds := Nat.eq_of_beq_eq_true hb
    subst hds
    have hget' : (a.put (some d) u).tmps[d]? = some u := by simp [Act.put, h.size, hlt]
    exact ⟨fun hG => by rw [hget', hu.1 hG], fun hG => by rw [hget', hu.2 hG]⟩
  | false =>
    rw [hb] at hget
    have hne : d ≠ s := fun e => by subst e; simp [Nat.beq_refl] at hb
    have := h.ent s g' v' hget
    simpa [Act.put, Array.getElem?_setIfInBounds_ne hne] using this

/-! ### Operations that look at no memory -/
def intPo (op : BinOp) (k : IntKind) (a b : Int) : Option Value :=
  match op with
  | .add => some (.int k (k.wrap (a + b)))
  | .sub => some (.int k (k.wrap (a - b)))
  | .mul => some (.int k (k.wrap (a * b)))
  | .eql => some (.bool (a == b))
  | .neq => some (.bool (a != b))
  | .lss => some (.bool (decide (a < b)))
  | .leq => some (.bool (decide (a ≤ b)))
  | .gtr => some (.bool (decide (b < a)))
  | .geq => some (.bool (decide (b ≤ a)))
  | _ => none

def strPo (op : BinOp) (a b : ByteArray) : Option Value :=
  match op with
  | .eql => some (.bool (a.data.toList == b.data.toList))
  | .neq => some (.bool (!(a.data.toList == b.data.toList)))
  | .lss => some (.bool (Op.bytesLess a.data.toList b.data.toList))
  | .leq => some (.bool (Op.bytesLess a.data.toList b.data.toList || a.data.toList == b.data.toList))
  | .gtr => some (.bool (!(Op.bytesLess a.data.toList b.data.toList || a.data.toList == b.data.toList)))
  | .geq => some (.bool (!(Op.bytesLess a.data.toList b.data.toList)))
  | _ => none

def binPo (T : Tab) (op : BinOp) (t : Nat) : Value → Value → Option Value
  | .int k a, .int k' b => bif k == k' then intPo op k a b else none
  | .string a, .string b => strPo op a b
  | .bool a, .bool b => match T.get t with
    | some ⟨.bool, _, _, _, _⟩ => match op with
      | .eql => some (.bool (a == b))
      | .neq => some (.bool (!(a == b)))
      | _ => none
    | _ => none
  | _, _ => none

def listO {α β : Type} (f : α → Option β) : List α → Option (List β)
  | [] => some []
  | x :: xs => match f x, listO f xs with
    | some y, some ys => some (y :: ys)
    | _, _ => none

theorem listO_spec {α β : Type} {f : α → Option β} {f' : α → β} (h : ∀ x y, f x = some y → f' x = y) : ∀ {xs : List α} {ys : List β}, listO f xs = some ys → xs.map f' = ys
  | [], ys, e => by simp [listO] at e; simp [e]
  | x :: xs, ys, e => by
    simp only [listO] at e
    split at e
    · rename_i y ys' h1 h2
      cases e
      rw [List.map_cons, h x y h1, listO_spec h h2]
    · cases e

def lenPo (T : Tab) (t : Nat) : Value → Option Value
  | .slice _ n _ => match T.get t with
    | some ⟨.slice _, _, _, _, _⟩ => some (.int .i64 n)
    | _ => none
  | .string s => match T.get t with
    | some ⟨.str, _, _, _, _⟩ => some (.int .i64 s.data.toList.length)
    | _ => none
  | _ => none

/-- A struct or array literal: the parts, in order, are the cells. -/
def po (T : Tab) (ρ : Operand → Option Value) : Op → Option Value
  | .move x | .assign x => ρ x
  | .unOp .not _ x => match ρ x with
    | some (.bool b) => some (.bool (!b))
    | _ => none
  | .unOp .neg _ x => match ρ x with
    | some (.int k n) => some (.int k (k.wrap (0 - n)))
    | _ => none
  | .binOp op t x y _ => match ρ x, ρ y with
    | some u, some v => binPo T op t u v
    | _, _ => none
  | .extract x i => match ρ x with
    | some (.tuple vs) => vs.toList[i]?
    | _ => none
  | .fieldAddr t x f => match ρ x with
    | some (.pointer (some a)) => match T.get t with
      | some ⟨.struct fs, _, _, _, _⟩ => match fs[f]? with
        | some (ty, off) => match T.get ty with
          | some ⟨_, s, _, _, _⟩ => bif Nat.beq s 0 then none else some (.pointer (some (a.add off)))
          | none => none
        | none => none
      | _ => none
    | _ => none
  | .nilCheck x => match ρ x with
    | some (.pointer (some a)) => some (.pointer (some a))
    | _ => none
  | .makeFunc fn first captured => match listO ρ first.toList, listO ρ captured.toList with
    | some vs, some us => some (.func fn vs.toArray us.toArray)
    | _, _ => none
  | .makeInterface t x => match ρ x, T.get t with
    | some v, some ⟨k, _, _, _, _⟩ => match k with
      | .iface => none
      | .other => none
      | _ => some (.iface t v)
    | _, _ => none
  | .call ⟨.builtin .len, args, ts⟩ => match args.toList, ts.toList with
    | [x], [t] => match ρ x with
      | some v => lenPo T t v
      | none => none
    | _, _ => none
  | _ => none

def Sees (ρ : Operand → Option Value) (a : Act) : Prop := ∀ x v, ρ x = some v → a.eval x = v

theorem toList_eq (s : ByteArray) : s.toList = s.data.toList := ByteArray.toList_eq s

theorem run_stringOp {P : Program} {op : BinOp} {a b : ByteArray} {v : Value} (h : strPo op a b = some v) (w : World) : (Op.stringOp op a b).run P w = .ok v w := by
  unfold strPo at h
  split at h <;> cases h <;> simp [Op.stringOp, toList_eq]

theorem run_eqGuard_scalar {P : Program} {op : BinOp} {t : Nat} {x y : Operand} {u v : Value} (w : World) (h : ∀ a b, u ≠ .agg a ∨ v ≠ .agg b) (h' : u ≠ .nilIface ∨ v ≠ .nilIface) :
    (eqGuard op t x y u v).run P w = .ok () w := by
  have key : (match u, v with
      | .nilIface, .nilIface => (if (x matches .const _) || (y matches .const _) then pure () else do
          if ← Op.eqGuardIn Op.maxDepth t u v then unsupported (.noEntry "binop/eql: two nil values of an interface type with methods, neither of them the literal nil") : Sem Unit)
      | .agg _, .agg _ => do
        if !(← program).eqGuardType (← program).depth t then pure () else
        if ← Op.eqGuardIn Op.maxDepth t u v then unsupported (.noEntry "binop/eql: two nil values of an interface type with methods, in a part of a struct or an array")
      | _, _ => pure ()) = pure () := by
    split
    · rcases h' with h' | h' <;> exact absurd rfl h'
    · rename_i a b; rcases h a b with h | h <;> exact absurd rfl h
    · rfl
  cases op <;> first | rfl | (unfold eqGuard; simp only [Bool.not_true, Bool.false_eq_true, if_false]; exact congrArg (fun s : Sem Unit => s.run P w) key)

theorem kget {T : Tab} {P : Program} (hT : tabB P T = true) {t : Nat} {k : TK} {s b : Nat} {z : List Zv} {g : Bool} (h : T.get t = some ⟨k, s, b, z, g⟩) : ∃ d, P.underlying t = some d ∧ tkB d k = true :=
  let ⟨d, h1, h2, _⟩ := (tab_ok hT h).und
  ⟨d, h1, h2⟩

theorem und_slice {T : Tab} {P : Program} (hT : tabB P T = true) {t e : Nat} {s b : Nat} {z : List Zv} {g : Bool} (h : T.get t = some ⟨.slice e, s, b, z, g⟩) : P.underlying t = some (.slice e) := by
  obtain ⟨d, h1, h2⟩ := kget hT h
  cases d <;> simp [tkB] at h2
  rw [h1, h2]
theorem und_str {T : Tab} {P : Program} (hT : tabB P T = true) {t : Nat} {s b : Nat} {z : List Zv} {g : Bool} (h : T.get t = some ⟨.str, s, b, z, g⟩) : P.underlying t = some .string := by
  obtain ⟨d, h1, h2⟩ := kget hT h
  cases d <;> simp [tkB] at h2
  exact h1
theorem und_bool {T : Tab} {P : Program} (hT : tabB P T = true) {t : Nat} {s b : Nat} {z : List Zv} {g : Bool} (h : T.get t = some ⟨.bool, s, b, z, g⟩) : P.underlying t = some .bool := by
  obtain ⟨d, h1, h2⟩ := kget hT h
  cases d <;> simp [tkB] at h2
  exact h1
theorem und_int {T : Tab} {P : Program} (hT : tabB P T = true) {t : Nat} {k : IntKind} {s b : Nat} {z : List Zv} {g : Bool} (h : T.get t = some ⟨.int k, s, b, z, g⟩) : P.underlying t = some (.int k) := by
  obtain ⟨d, h1, h2⟩ := kget hT h
  cases d <;> simp [tkB] at h2
  rw [h1, h2]
theorem und_arr {T : Tab} {P : Program} (hT : tabB P T = true) {t n e : Nat} {s b : Nat} {z : List Zv} {g : Bool} (h : T.get t = some ⟨.arr n e, s, b, z, g⟩) : P.underlying t = some (.array n e) := by
  obtain ⟨d, h1, h2⟩ := kget hT h
  cases d <;> simp [tkB] at h2
  rw [h1, h2.1, h2.2]
theorem und_map {T : Tab} {P : Program} (hT : tabB P T = true) {t n e : Nat} {s b : Nat} {z : List Zv} {g : Bool} (h : T.get t = some ⟨.map n e, s, b, z, g⟩) : P.underlying t = some (.map n e) := by
  obtain ⟨d, h1, h2⟩ := kget hT h
  cases d <;> simp [tkB] at h2
  rw [h1, h2.1, h2.2]
theorem und_struct {T : Tab} {P : Program} (hT : tabB P T = true) {t : Nat} {fs : List (Nat × Nat)} {s b : Nat} {z : List Zv} {g : Bool} (h : T.get t = some ⟨.struct fs, s, b, z, g⟩) :
    ∃ fields : Array Field, P.underlying t = some (.struct fields) ∧ fields.toList.map (fun f => (f.type, f.offset)) = fs := by
  obtain ⟨d, h1, h2⟩ := kget hT h
  cases d <;> simp [tkB] at h2
  rename_i fields
  exact ⟨fields, h1, by simpa using h2⟩
theorem size_of {T : Tab} {P : Program} (hT : tabB P T = true) {t : Nat} {i : TI} (h : T.get t = some i) (w : World) : (sizeOf t).run P w = .ok i.size w := by
  obtain ⟨f, h1, h2, _⟩ := (tab_ok hT h).info
  simp [sizeOf, typeInfo, h1, h2]
theorem is_agg {T : Tab} {P : Program} (hT : tabB P T = true) {t : Nat} {i : TI} (h : T.get t = some i) (w : World) : (isAgg t).run P w = .ok i.agg w := by
  obtain ⟨d, h1, _, h3⟩ := (tab_ok hT h).und
  unfold isAgg
  simp only [Sem.run_bind, run_underlying h1, Result.andThen_ok]
  rw [← h3]
  cases d <;> rfl
theorem zero_of {T : Tab} {P : Program} (hT : tabB P T = true) {t : Nat} {i : TI} (h : T.get t = some i) (w : World) : (zeroValue t).run P w = .ok i.zv w := by
  obtain ⟨f, h1, _, _, h4, _⟩ := (tab_ok hT h).info
  simp [zeroValue, typeInfo, h1, h4]

theorem run_binOp {T : Tab} {P : Program} (hT : tabB P T = true) {op : BinOp} {t : Nat} {u v r : Value} (h : binPo T op t u v = some r) (w : World) : (binOp op t u v).run P w = .ok r w := by
  unfold binPo at h
  split at h
  · rename_i k a k' b
    by_cases hk : k = k'
    · subst hk
      simp only [beq_self_eq_true, cond_true] at h
      cases op <;> simp only [intPo] at h <;> (try cases h) <;> simp [binOp, Op.intArith, Op.intCmp]
    · rw [beq_eq_false_iff_ne.2 hk] at h; cases h
  · rename_i a b
    have := run_stringOp (P := P) h w
    cases op <;> first | exact this | (simp [strPo] at h)
  · rename_i a b
    split at h
    · rename_i hg
      have hb := und_bool hT hg
      split at h
      · cases h; exact run_eql_bool w t a b hb
      · cases h; exact run_neq_bool w t a b hb
      · cases h
    · cases h
  · cases h

theorem binPo_scalar {T : Tab} {op : BinOp} {t : Nat} {u v r : Value} (h : binPo T op t u v = some r) : (∀ a b, u ≠ .agg a ∨ v ≠ .agg b) ∧ (u ≠ .nilIface ∨ v ≠ .nilIface) := by
  unfold binPo at h
  split at h <;> first | (cases h; done) | exact ⟨fun _ _ => .inl (by simp), .inl (by simp)⟩

theorem po_spec {T : Tab} {P : Program} (hT : tabB P T = true) {ρ : Operand → Option Value} {a : Act} (hs : Sees ρ a) {o : Oper} {v : Value} (h : po T ρ o.op = some v) (w : World) :
    (execOp a.eval o).run P w = .ok (.value v) w := by
  obtain ⟨dst, op, ty, pos, after, guard⟩ := o
  simp only at h
  unfold po at h
  split at h
  case h_1 x => simp [execOp, hs _ _ h]
  case h_2 x => simp [execOp, hs _ _ h]
  case h_3 t x =>
    split at h
    · rename_i b hb; cases h; simp [execOp, hs _ _ hb, Op.unary]
    · cases h
  case h_4 t x =>
    split at h
    · rename_i k n hb; cases h; simp [execOp, hs _ _ hb, Op.unary, Op.intArith]
    · cases h
  case h_5 op t x y _ =>
    split at h
    · rename_i u r hu hr
      have hsc := binPo_scalar h
      simp [execOp, hs _ _ hu, hs _ _ hr, run_eqGuard_scalar (P := P) (op := op) (t := t) (x := x) (y := y) w hsc.1 hsc.2, run_binOp hT h w]
    · cases h
  case h_6 x i =>
    split at h
    · rename_i vs hv
      simp only [Array.getElem?_toList] at h
      simp [execOp, hs _ _ hv, Instr.extract, h]
    · cases h
  case h_7 t x f =>
    split at h
    · rename_i ad hv
      split at h
      · rename_i fs _ _ _ _ hg
        split at h
        · rename_i fty off hf
          split at h
          · rename_i k' s b z g hg2
            cases hsz : Nat.beq s 0 with
            | true => rw [hsz] at h; cases h
            | false =>
              rw [hsz] at h
              simp only [cond_false, Option.some.injEq] at h
              subst h
              obtain ⟨fields, hu, hm⟩ := und_struct hT hg
              have hfd : ∃ fd, fields[f]? = some fd ∧ fd.type = fty ∧ fd.offset = off := by
                rw [← hm, List.getElem?_map] at hf
                cases hx : fields.toList[f]? with
                | none => rw [hx] at hf; cases hf
                | some fd =>
                  rw [hx] at hf
                  simp only [Option.map_some, Option.some.injEq, Prod.mk.injEq] at hf
                  exact ⟨fd, by simpa using hx, hf.1, hf.2⟩
              obtain ⟨fd, h1, rfl, rfl⟩ := hfd
              have hs0 : s ≠ 0 := fun e => by subst e; cases hsz
              have h2 := size_of hT hg2 w
              simp only at h2
              simp [execOp, hs _ _ hv, Instr.fieldAt, run_underlying hu, h1, Instr.sureAddr, fieldPlace, h2, hs0]
          · cases h
        · cases h
      · cases h
    · cases h
  case h_8 x =>
    split at h
    · rename_i ad hv; cases h; simp [execOp, hs _ _ hv]
    · cases h
  case h_9 fn first captured =>
    split at h
    · rename_i vs us h1 h2
      cases h
      have e1 := listO_spec (fun x y => hs x y) h1
      have e2 := listO_spec (fun x y => hs x y) h2
      have e1' : first.map a.eval = vs.toArray := by apply Array.ext'; rw [← e1]; simp
      have e2' : captured.map a.eval = us.toArray := by apply Array.ext'; rw [← e2]; simp
      simp [execOp, Instr.makeFunc, e1', e2']
    · cases h
  case h_10 t x =>
    split at h
    · rename_i v' k _ _ _ _ hx hg
      obtain ⟨d, hu, hk⟩ := kget hT hg
      split at h
      · cases h
      · cases h
      · cases h
        rename_i h1 h2
        cases d <;> first | (simp [execOp, Instr.makeInterface, run_underlying hu, hs _ _ hx]; done) | (cases k <;> simp_all [tkB])
    · cases h
  case h_11 args ts =>
    split at h
    · rename_i x t hx ht
      split at h
      · rename_i u hu
        obtain ⟨args⟩ := args
        obtain ⟨ts⟩ := ts
        simp only at hx ht
        subst hx; subst ht
        unfold lenPo at h
        split at h
        · rename_i A n c
          split at h
          · rename_i hg
            cases h
            simp [execOp, resolve, invoke, builtin, hs _ _ hu, Builtin.len_, run_underlying (und_slice hT hg), goInt]
          · cases h
        · rename_i s
          split at h
          · rename_i hg
            cases h
            simp [execOp, resolve, invoke, builtin, hs _ _ hu, Builtin.len_, run_underlying (und_str hT hg), goInt]
          · cases h
        · cases h
      · cases h
    · cases h
  case h_12 => cases h
end Go.Jog
