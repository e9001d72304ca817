/- Memory as a set C of blocks that nobody writes any more and a list L of blocks that the running function owns. Program-independent. -/
import Derived.Test.YtjmfjobfmdhbfaaDoorJogA
import Derived.Maps.AppendAt
import Derived.Below
import Derived.KernelRfl
import Derived.Laws.MakeOwn
import Derived.WalkKit
import Derived.Lib.Strings
namespace Go.Jog
open Go

abbrev Mem := Nat → Option Obj
def Mem.le (C D : Mem) : Prop := ∀ b o, C b = some o → D b = some o
theorem Mem.le.refl (C : Mem) : C.le C := fun _ _ h => h
theorem Mem.le.trans {C D E : Mem} (h : C.le D) (k : D.le E) : C.le E := fun b o hb => k b o (h b o hb)

/-- What a function owns: an object; or a row that it may append to. -/
inductive Ent where
  | obj (b : Nat) (o : Obj)
  | arr (v : Value) (e : TypeId) (size n : Nat) (xs : List Value)

def Ent.own : Ent → Nat → Prop
  | .obj b _, k => k = b
  | .arr v _ _ _ _, k => v.ownBlock = some k

def Ent.holds (w : World) : Ent → Prop
  | .obj b o => w.heap[b]? = some o
  | .arr v e s n xs => w.ownsRow 0 e s v n xs

def owns (L : List Ent) (k : Nat) : Prop := ∃ x ∈ L, x.own k

structure Sep (C : Mem) (L : List Ent) (w : World) : Prop where
  c : ∀ b o, C b = some o → w.heap[b]? = some o
  e : ∀ x ∈ L, x.holds w
  d : L.Pairwise fun x y => ∀ k, x.own k → ¬ y.own k
  n : ∀ k, owns L k → C k = none

structure Ev (F : Nat → Prop) (w w' : World) : Prop where
  os : w'.os = w.os
  tape : w'.tape = w.tape
  output : w'.output = w.output
  size : w.heap.size ≤ w'.heap.size
  block : ∀ k, k < w.heap.size → ¬ F k → w'.heap[k]? = w.heap[k]?
  drawn : w.drawn ≤ w'.drawn

theorem Ev.refl (F : Nat → Prop) (w : World) : Ev F w w := ⟨rfl, rfl, rfl, Nat.le_refl _, fun _ _ _ => rfl, Nat.le_refl _⟩
theorem Ev.trans {F G : Nat → Prop} {a b c : World} (h : Ev F a b) (k : Ev G b c) (hg : ∀ i, G i → F i ∨ a.heap.size ≤ i) : Ev F a c :=
  ⟨k.os.trans h.os, k.tape.trans h.tape, k.output.trans h.output, Nat.le_trans h.size k.size, fun i hi hf =>
    (k.block i (Nat.lt_of_lt_of_le hi h.size) (fun hgi => (hg i hgi).elim hf (fun h => absurd h (by omega)))).trans (h.block i hi hf), Nat.le_trans h.drawn k.drawn⟩
theorem Ev.mono {F G : Nat → Prop} {a b : World} (h : Ev F a b) (hg : ∀ i, i < a.heap.size → F i → G i) : Ev G a b :=
  ⟨h.os, h.tape, h.output, h.size, fun i hi hf => h.block i hi (fun hF => hf (hg i hi hF)), h.drawn⟩
theorem Ev.below {a b : World} {F : Nat → Prop} (h : Ev F a b) (hF : ∀ k, ¬ F k) : RowKit.Below a.heap.size a b := ⟨h.os, h.tape, h.output, h.size, fun k hk => h.block k hk (hF k)⟩

/-- From the world w0 (with C0, L0) the function has come to w, where it knows C and owns L. -/
structure St (w0 : World) (C0 : Mem) (L0 : List Ent) (C : Mem) (L : List Ent) (w : World) : Prop where
  sep : Sep C L w
  ev : Ev (owns L0) w0 w
  c0 : C0.le C
  cn : ∀ k o, C k = some o → C0 k = some o ∨ w0.heap.size ≤ k ∨ owns L0 k
  ln : ∀ k, owns L k → w0.heap.size ≤ k ∨ owns L0 k

/-- No operation takes a draw back. -/
theorem ask_drawn {α : Type} : ∀ (q : Ask α) (w : World), w.drawn ≤ (w.ask q).2.drawn
  | .done a, w => Nat.le_refl _
  | .ask what range k, w => by
    unfold World.ask
    simp only
    split
    · exact ask_drawn (k 0) w
    · exact Nat.le_trans (Nat.le_succ _) (ask_drawn (k _) { w with drawn := w.drawn + 1 })

theorem sys_drawn (w : World) (c : Sys) : w.drawn ≤ (w.sys c).2.drawn := by
  unfold World.sys
  have := ask_drawn (Kernel.perform c w.os) w
  split
  · exact Nat.le_refl _
  · rename_i r os w1 h
    rw [h] at this
    exact this

theorem viewStore_drawn {p : Program} {w w' : World} {at_ : Addr} {u : TypeId} {k : Addr} {v : Value} {b : Bool} {as : List Addr} (h : w.viewStore p at_ u k v b = .ok (w', as)) : w'.drawn = w.drawn := by
  unfold World.viewStore at h
  simp only [bind, Except.bind, pure, Except.pure] at h
  repeat' split at h
  all_goals first | (cases h; done) | skip
  all_goals (repeat' split at h)
  all_goals first | (cases h; rfl) | (cases h; done) | skip

theorem farStore_drawn {p : Program} {w w' : World} {a : Addr} {v : Value} {b : Bool} {as : List Addr} (h : w.farStore p a v b = .ok (w', as)) : w'.drawn = w.drawn := by
  unfold World.farStore at h
  split at h
  · split at h
    · rename_i r hr; cases h; exact viewStore_drawn hr
    · cases h
  · cases h

theorem run_drawn {p : Program} {α : Type} : ∀ (s : Sem α) {w w' : World} {v : α}, s.run p w = .ok v w' → w.drawn ≤ w'.drawn
  | .pure a, w, w', v, h => by simp only [Sem.run] at h; cases h; exact Nat.le_refl _
  | .load m a k, w, w', v, h => by
    simp only [Sem.run] at h
    split at h
    · exact run_drawn (k _) h
    · split at h
      · exact run_drawn (k _) h
      · cases h
  | .store m a u k, w, w', v, h => by
    cases u <;> simp only [Sem.run] at h <;> first
      | (cases h; done)
      | (split at h
         · split at h
           · cases h
           · have q := run_drawn k h
             exact q
         · split at h
           · rename_i hf
             exact Nat.le_trans (Nat.le_of_eq (farStore_drawn hf).symm) (run_drawn k h)
           · cases h)
  | .new o k, w, w', v, h => by
    simp only [Sem.run] at h
    have q := run_drawn (k _) h
    exact q
  | .shape r k, w, w', v, h => by simp only [Sem.run] at h; exact run_drawn (k _) h
  | .freeze a n k, w, w', v, h => by
    simp only [Sem.run] at h
    refine Nat.le_trans ?_ (run_drawn k h)
    unfold World.freeze
    split <;> exact Nat.le_refl _
  | .frozen a k, w, w', v, h => by simp only [Sem.run] at h; exact run_drawn (k _) h
  | .getObj r k, w, w', v, h => by
    simp only [Sem.run] at h
    split at h
    · cases h
    · exact run_drawn (k _) h
    · cases h
  | .setObj r o k, w, w', v, h => by
    simp only [Sem.run] at h
    split at h
    · cases h
    · have q := run_drawn k h
      exact q
    · cases h
  | .choose q k, w, w', v, h => by
    simp only [Sem.run] at h
    split at h
    · exact run_drawn (k _) h
    · have q := run_drawn (k _) h
      exact Nat.le_trans (Nat.le_succ _) q
  | .sys c k, w, w', v, h => by simp only [Sem.run] at h; exact Nat.le_trans (sys_drawn w c) (run_drawn (k _) h)
  | .program k, w, w', v, h => by simp only [Sem.run] at h; exact run_drawn (k _) h
  | .mark m k, w, w', v, h => by simp only [Sem.run] at h; exact run_drawn k h
  | .halt x, w, w', v, h => by simp only [Sem.run] at h; cases h

theorem lt_of_heap {w : World} {k : Nat} {o : Obj} (h : w.heap[k]? = some o) : k < w.heap.size := (Array.getElem?_eq_some_iff.1 h).1

theorem Ent.lt {w : World} {x : Ent} {k : Nat} (h : x.holds w) (ho : x.own k) : k < w.heap.size := by
  cases x with
  | obj b o => simp only [Ent.own] at ho; subst ho; exact lt_of_heap h
  | arr v e s n xs => exact (World.ownsRow.lt h k ho).2

theorem Sep.lt {C : Mem} {L : List Ent} {w : World} (h : Sep C L w) {k : Nat} (ho : owns L k) : k < w.heap.size := by
  obtain ⟨x, hx, hk⟩ := ho
  exact Ent.lt (h.e x hx) hk

theorem Ent.holds_of {w w' : World} {x : Ent} (h : x.holds w) (hb : ∀ k, x.own k → w'.heap[k]? = w.heap[k]?) : x.holds w' := by
  cases x with
  | obj b o => exact (hb b rfl).trans h
  | arr v e s n xs =>
    refine ⟨h.1, ?_⟩
    rcases h.2 with h2 | ⟨g, cap, cur, hv, hg, hh, r⟩
    · exact .inl h2
    · exact .inr ⟨g, cap, cur, hv, hg, (hb g (by simp [Ent.own, hv, Value.ownBlock])).trans hh, r⟩

theorem St.start {C : Mem} {L : List Ent} {w : World} (h : Sep C L w) : St w C L C L w :=
  ⟨h, Ev.refl _ _, Mem.le.refl _, fun _ _ hk => .inl hk, fun _ hk => .inr hk⟩

section
variable {w0 : World} {C0 : Mem} {L0 : List Ent} {C : Mem} {L : List Ent} {w w' : World}

/-- A change of the world that turns no block. -/
theorem St.same (h : St w0 C0 L0 C L w) (ho : w'.os = w.os) (ht : w'.tape = w.tape) (hp : w'.output = w.output) (hh : w'.heap = w.heap) (hd : w.drawn ≤ w'.drawn) : St w0 C0 L0 C L w' :=
  ⟨⟨fun b o hb => by rw [hh]; exact h.sep.c b o hb, fun x hx => Ent.holds_of (h.sep.e x hx) (fun k _ => by rw [hh]), h.sep.d, h.sep.n⟩,
   ⟨ho.trans h.ev.os, ht.trans h.ev.tape, hp.trans h.ev.output, by rw [hh]; exact h.ev.size, fun k hk hf => by rw [hh]; exact h.ev.block k hk hf, Nat.le_trans h.ev.drawn hd⟩, h.c0, h.cn, h.ln⟩

theorem St.drew (h : St w0 C0 L0 C L w) : St w0 C0 L0 C L w.drew := h.same rfl rfl rfl rfl (Nat.le_succ _)

theorem St.perm {L' : List Ent} (h : St w0 C0 L0 C L w) (hp : L.Perm L') : St w0 C0 L0 C L' w := by
  have ho : ∀ k, owns L' k → owns L k := fun k ⟨x, hx, hk⟩ => ⟨x, hp.mem_iff.2 hx, hk⟩
  exact ⟨⟨h.sep.c, fun x hx => h.sep.e x (hp.mem_iff.2 hx), (hp.pairwise_iff (fun {x y} hxy k hy hx => hxy k hx hy)).1 h.sep.d, fun k hk => h.sep.n k (ho k hk)⟩, h.ev, h.c0, h.cn, fun k hk => h.ln k (ho k hk)⟩

theorem St.drop {x : Ent} (h : St w0 C0 L0 C (x :: L) w) : St w0 C0 L0 C L w :=
  ⟨⟨h.sep.c, fun y hy => h.sep.e y (by simp [hy]), (List.pairwise_cons.1 h.sep.d).2, fun k ⟨y, hy, hk⟩ => h.sep.n k ⟨y, by simp [hy], hk⟩⟩, h.ev, h.c0, h.cn, fun k ⟨y, hy, hk⟩ => h.ln k ⟨y, by simp [hy], hk⟩⟩

/-- A new object, owned. -/
theorem St.alloc (h : St w0 C0 L0 C L w) (o : Obj) : St w0 C0 L0 C (.obj w.heap.size o :: L) (w.alloc o) := by
  have old : ∀ k, k < w.heap.size → (w.alloc o).heap[k]? = w.heap[k]? := fun k hk => RowKit.Below.heap_alloc w o k hk
  refine ⟨⟨fun b o' hb => ?_, fun x hx => ?_, List.pairwise_cons.2 ⟨fun y hy k hk hyk => ?_, h.sep.d⟩, fun k ⟨x, hx, hk⟩ => ?_⟩, ?_, h.c0, h.cn, fun k ⟨x, hx, hk⟩ => ?_⟩
  · have := h.sep.c b o' hb
    exact (old b (lt_of_heap this)).trans this
  · rcases List.mem_cons.1 hx with rfl | hx
    · exact heap_alloc_new w o
    · exact Ent.holds_of (h.sep.e x hx) (fun k hk => old k (Ent.lt (h.sep.e x hx) hk))
  · have := Ent.lt (h.sep.e y hy) hyk
    simp only [Ent.own] at hk
    omega
  · rcases List.mem_cons.1 hx with rfl | hx
    · simp only [Ent.own] at hk
      subst hk
      cases hc : C w.heap.size with
      | none => rfl
      | some o' => exact absurd (lt_of_heap (h.sep.c _ _ hc)) (by omega)
    · exact h.sep.n k ⟨x, hx, hk⟩
  · exact ⟨h.ev.os, h.ev.tape, h.ev.output, by have := h.ev.size; simp; omega, fun k hk hf => (old k (Nat.lt_of_lt_of_le hk h.ev.size)).trans (h.ev.block k hk hf), h.ev.drawn⟩
  · rcases List.mem_cons.1 hx with rfl | hx
    · simp only [Ent.own] at hk
      subst hk
      exact .inl h.ev.size
    · exact h.ln k ⟨x, hx, hk⟩

def Mem.set (C : Mem) (b : Nat) (o : Obj) : Mem := fun k => if k = b then some o else C k
theorem Mem.set_self (C : Mem) (b : Nat) (o : Obj) : (C.set b o) b = some o := by simp [Mem.set]
theorem Mem.le_set {C : Mem} {b : Nat} {o : Obj} (h : C b = none) : C.le (C.set b o) := fun k o' hk => by
  unfold Mem.set
  split
  · rename_i e; subst e; rw [h] at hk; cases hk
  · exact hk

/-- What is owned is written no more. -/
theorem St.freeze {b : Nat} {o : Obj} (h : St w0 C0 L0 C (.obj b o :: L) w) : C.le (C.set b o) ∧ St w0 C0 L0 (C.set b o) L w := by
  have hb : C b = none := h.sep.n b ⟨_, List.mem_cons_self .., rfl⟩
  have hd := List.pairwise_cons.1 h.sep.d
  have hl := Mem.le_set (o := o) hb
  refine ⟨hl, ⟨fun k o' hk => ?_, fun x hx => h.sep.e x (by simp [hx]), hd.2, fun k hk => ?_⟩, h.ev, h.c0.trans hl, fun k o' hk => ?_, fun k ⟨x, hx, hk⟩ => h.ln k ⟨x, by simp [hx], hk⟩⟩
  · unfold Mem.set at hk
    split at hk
    · rename_i e; subst e; cases hk; exact h.sep.e _ (List.mem_cons_self ..)
    · exact h.sep.c k o' hk
  · obtain ⟨x, hx, hk⟩ := hk
    have h1 := h.sep.n k ⟨x, by simp [hx], hk⟩
    unfold Mem.set
    split
    · rename_i e
      exact absurd hk (hd.1 x hx k e)
    · exact h1
  · unfold Mem.set at hk
    split at hk
    · rename_i e; subst e; rcases h.ln k ⟨_, List.mem_cons_self .., rfl⟩ with h1 | h1
      · exact .inr (.inl h1)
      · exact .inr (.inr h1)
    · exact h.cn k o' hk

/-- The object at the head is replaced. -/
theorem St.put {b : Nat} {o o' : Obj} (h : St w0 C0 L0 C (.obj b o :: L) w) (hw : w'.heap[b]? = some o') (hk : ∀ k, k ≠ b → w'.heap[k]? = w.heap[k]?) (hs : w'.heap.size = w.heap.size)
    (h1 : w'.os = w.os) (h2 : w'.tape = w.tape) (h3 : w'.output = w.output) (h4 : w.drawn ≤ w'.drawn) : St w0 C0 L0 C (.obj b o' :: L) w' := by
  have hd := List.pairwise_cons.1 h.sep.d
  have hb : C b = none := h.sep.n b ⟨_, List.mem_cons_self .., rfl⟩
  refine ⟨⟨fun k o'' hc => ?_, fun x hx => ?_, List.pairwise_cons.2 ⟨hd.1, hd.2⟩, fun k ⟨x, hx, hkx⟩ => ?_⟩, ?_, h.c0, h.cn, fun k ⟨x, hx, hkx⟩ => ?_⟩
  · rw [hk k (fun e => by subst e; rw [hb] at hc; cases hc)]; exact h.sep.c k o'' hc
  · rcases List.mem_cons.1 hx with rfl | hx
    · exact hw
    · exact Ent.holds_of (h.sep.e x (by simp [hx])) (fun k hkx => hk k (fun e => hd.1 x hx k e hkx))
  · rcases List.mem_cons.1 hx with rfl | hx
    · exact h.sep.n k ⟨_, List.mem_cons_self .., hkx⟩
    · exact h.sep.n k ⟨x, by simp [hx], hkx⟩
  · refine ⟨h1.trans h.ev.os, h2.trans h.ev.tape, h3.trans h.ev.output, by rw [hs]; exact h.ev.size, fun k hk0 hf => ?_, Nat.le_trans h.ev.drawn h4⟩
    rw [hk k (fun e => ?_)]
    · exact h.ev.block k hk0 hf
    · subst e
      rcases h.ln k ⟨_, List.mem_cons_self .., rfl⟩ with h' | h'
      · omega
      · exact hf h'
  · rcases List.mem_cons.1 hx with rfl | hx
    · exact h.ln k ⟨_, List.mem_cons_self .., hkx⟩
    · exact h.ln k ⟨x, by simp [hx], hkx⟩

/-- The row at the head becomes another (append, a store into it): it lies where it lay, or in a new block. -/
theorem St.turn {v v' : Value} {e e' : TypeId} {s n s' n' : Nat} {xs xs' : List Value} (h : St w0 C0 L0 C (.arr v e s n xs :: L) w) (hown : w'.ownsRow 0 e' s' v' n' xs') (hg : w.grownBy w' v.ownBlock) (hdr : w.drawn ≤ w'.drawn)
    (hv : v'.ownBlock = v.ownBlock ∨ v'.ownBlock = some w.heap.size ∨ v'.ownBlock = none) : St w0 C0 L0 C (.arr v' e' s' n' xs' :: L) w' := by
  have hd := List.pairwise_cons.1 h.sep.d
  have hcold : ∀ k, owns L k → ¬ v.ownBlock = some k := fun k ⟨x, hx, hk⟩ hv => hd.1 x hx k hv hk
  have hnew : ∀ k, v'.ownBlock = some k → v.ownBlock = some k ∨ k = w.heap.size := fun k hk => by
    rcases hv with h1 | h1 | h1
    · exact .inl (h1 ▸ hk)
    · rw [h1] at hk; cases hk; exact .inr rfl
    · rw [h1] at hk; cases hk
  refine ⟨⟨fun k o'' hc => ?_, fun x hx => ?_, List.pairwise_cons.2 ⟨fun x hx k hk hkx => ?_, hd.2⟩, fun k ⟨x, hx, hkx⟩ => ?_⟩, ?_, h.c0, h.cn, fun k ⟨x, hx, hkx⟩ => ?_⟩
  · have := h.sep.c k o'' hc
    rw [hg.block k (lt_of_heap this) (fun e => ?_)]
    · exact this
    · have := h.sep.n k ⟨_, List.mem_cons_self .., e.symm⟩
      rw [this] at hc; cases hc
  · rcases List.mem_cons.1 hx with rfl | hx
    · exact hown
    · have hxh := h.sep.e x (by simp [hx])
      exact Ent.holds_of hxh (fun k hk => hg.block k (Ent.lt hxh hk) (fun e => hcold k ⟨x, hx, hk⟩ e.symm))
  · rcases hnew k hk with h1 | h1
    · exact hd.1 x hx k h1 hkx
    · have := Ent.lt (h.sep.e x (by simp [hx])) hkx
      omega
  · rcases List.mem_cons.1 hx with rfl | hx
    · rcases hnew k hkx with h1 | h1
      · exact h.sep.n k ⟨_, List.mem_cons_self .., h1⟩
      · cases hc : C k with
        | none => rfl
        | some o' => exact absurd (lt_of_heap (h.sep.c _ _ hc)) (by omega)
    · exact h.sep.n k ⟨x, by simp [hx], hkx⟩
  · refine ⟨hg.os.trans h.ev.os, hg.tape.trans h.ev.tape, hg.output.trans h.ev.output, Nat.le_trans h.ev.size hg.size, fun k hk hf => ?_, Nat.le_trans h.ev.drawn hdr⟩
    rw [hg.block k (Nat.lt_of_lt_of_le hk h.ev.size) (fun e => ?_)]
    · exact h.ev.block k hk hf
    · rcases h.ln k ⟨_, List.mem_cons_self .., e.symm⟩ with h' | h'
      · omega
      · exact hf h'
  · rcases List.mem_cons.1 hx with rfl | hx
    · rcases hnew k hkx with h1 | h1
      · exact h.ln k ⟨_, List.mem_cons_self .., h1⟩
      · subst h1; exact .inl h.ev.size
    · exact h.ln k ⟨x, by simp [hx], hkx⟩

/-- A nil row is owned by whoever asks. -/
theorem St.nilArr (h : St w0 C0 L0 C L w) (e : TypeId) (s : Nat) : St w0 C0 L0 C (.arr (.slice none 0 0) e s 0 [] :: L) w := by
  have hno : ∀ k, ¬ (Ent.arr (.slice none 0 0) e s 0 []).own k := fun k hk => by cases hk
  refine ⟨⟨h.sep.c, fun x hx => ?_, List.pairwise_cons.2 ⟨fun x _ k hk => absurd hk (hno k), h.sep.d⟩, fun k ⟨x, hx, hk⟩ => ?_⟩, h.ev, h.c0, h.cn, fun k ⟨x, hx, hk⟩ => ?_⟩
  · rcases List.mem_cons.1 hx with rfl | hx
    · exact World.ownsRow_nil w 0 e s
    · exact h.sep.e x hx
  · rcases List.mem_cons.1 hx with rfl | hx
    · exact absurd hk (hno k)
    · exact h.sep.n k ⟨x, hx, hk⟩
  · rcases List.mem_cons.1 hx with rfl | hx
    · exact absurd hk (hno k)
    · exact h.ln k ⟨x, hx, hk⟩

/-- A function's own story, put behind the caller's. -/
theorem St.call {Lp Lr : List Ent} {C' : Mem} {L' : List Ent} (h : St w0 C0 L0 C (Lp ++ Lr) w) (k : St w C Lp C' L' w') : St w0 C0 L0 C' (L' ++ Lr) w' := by
  have hd := List.pairwise_append.1 h.sep.d
  have hLr : ∀ i, owns Lr i → ¬ owns Lp i := fun i ⟨x, hx, hi⟩ ⟨y, hy, hi'⟩ => hd.2.2 y hy x hx i hi' hi
  have hLrlt : ∀ i, owns Lr i → i < w.heap.size := fun i ⟨x, hx, hi⟩ => Ent.lt (h.sep.e x (by simp [hx])) hi
  have hkr : ∀ i, owns Lr i → ¬ owns L' i := fun i hi hi' => by
    rcases k.ln i hi' with h1 | h1
    · have := hLrlt i hi; omega
    · exact hLr i hi h1
  have oapp : ∀ {A B : List Ent} {i : Nat}, owns (A ++ B) i → owns A i ∨ owns B i := fun {A B i} ⟨x, hx, hi⟩ => by
    rcases List.mem_append.1 hx with h1 | h1
    · exact .inl ⟨x, h1, hi⟩
    · exact .inr ⟨x, h1, hi⟩
  have oin1 : ∀ {i : Nat}, owns Lp i → owns (Lp ++ Lr) i := fun ⟨x, hx, hi⟩ => ⟨x, List.mem_append_left _ hx, hi⟩
  have oin2 : ∀ {i : Nat}, owns Lr i → owns (Lp ++ Lr) i := fun ⟨x, hx, hi⟩ => ⟨x, List.mem_append_right _ hx, hi⟩
  refine ⟨⟨k.sep.c, fun x hx => ?_, List.pairwise_append.2 ⟨k.sep.d, hd.2.1, fun x hx y hy i hi hi' => hkr i ⟨y, hy, hi'⟩ ⟨x, hx, hi⟩⟩, fun i hi => ?_⟩, ?_, h.c0.trans k.c0, fun i o hi => ?_, fun i hi => ?_⟩
  · rcases List.mem_append.1 hx with h1 | h1
    · exact k.sep.e x h1
    · have hx' := h.sep.e x (by simp [h1])
      exact Ent.holds_of hx' (fun i hi => k.ev.block i (Ent.lt hx' hi) (hLr i ⟨x, h1, hi⟩))
  · rcases oapp hi with h1 | h1
    · exact k.sep.n i h1
    · cases hc : C' i with
      | none => rfl
      | some o =>
        rcases k.cn i o hc with h2 | h2 | h2
        · rw [h.sep.n i (oin2 h1)] at h2; cases h2
        · have := hLrlt i h1; omega
        · exact absurd h2 (hLr i h1)
  · refine h.ev.trans k.ev (fun i hi => ?_)
    rcases h.ln i (oin1 hi) with h1 | h1
    · exact .inr h1
    · exact .inl h1
  · rcases k.cn i o hi with h1 | h1 | h1
    · exact h.cn i o h1
    · exact .inr (.inl (Nat.le_trans h.ev.size h1))
    · rcases h.ln i (oin1 h1) with h2 | h2
      · exact .inr (.inl h2)
      · exact .inr (.inr h2)
  · rcases oapp hi with h1 | h1
    · rcases k.ln i h1 with h2 | h2
      · exact .inl (Nat.le_trans h.ev.size h2)
      · exact h.ln i (oin1 h2)
    · exact h.ln i (oin2 h1)
end

/-- The contract of a function. -/
def Enters (P : Program) (f : FuncId) : Bool := match P.funcs[f]? with
  | some fn => !(fn.name == "runtime.NumGoroutine") && fn.body.isSome
  | none => false

def Fn (P : Program) (f : FuncId) (args : List Value) (C : Mem) (L : List Ent) (post : Value → Mem → List Ent → Prop) : Prop :=
  Enters P f = true ∧ ∀ w, Sep C L w → Calls P f args.toArray w fun e w' => ∃ v C' L', e = .returned v ∧ St w C L C' L' w' ∧ post v C' L'

theorem Fn.mono {P : Program} {f : FuncId} {args : List Value} {C : Mem} {L : List Ent} {post post' : Value → Mem → List Ent → Prop} (h : Fn P f args C L post)
    (hp : ∀ v C' L', C.le C' → post v C' L' → post' v C' L') : Fn P f args C L post' :=
  ⟨h.1, fun w hw => (h.2 w hw).mono fun _ _ ⟨v, C', L', e, hs, hq⟩ => ⟨v, C', L', e, hs, hp v C' L' hs.c0 hq⟩⟩

/-- A function that makes nothing that its caller sees and hands back one value. -/
def Gives (P : Program) (f : FuncId) (args : List Value) (C : Mem) (v : Value) : Prop := Fn P f args C [] fun u _ L' => u = v ∧ L' = []

theorem Fn.callAt {P : Program} {f : FuncId} {args : List Value} {C : Mem} {Lp Lr : List Ent} {post : Value → Mem → List Ent → Prop} (h : Fn P f args C Lp post)
    {w0 : World} {C0 : Mem} {L0 : List Ent} {w : World} (hs : St w0 C0 L0 C (Lp ++ Lr) w) :
    Calls P f args.toArray w fun e w' => ∃ v C' L', e = .returned v ∧ C.le C' ∧ St w0 C0 L0 C' (L' ++ Lr) w' ∧ post v C' L' := by
  have hsep : Sep C Lp w := ⟨hs.sep.c, fun x hx => hs.sep.e x (by simp [hx]), (List.pairwise_append.1 hs.sep.d).1, fun k ⟨x, hx, hk⟩ => hs.sep.n k ⟨x, by simp [hx], hk⟩⟩
  exact (h.2 w hsep).mono fun _ _ ⟨v, C', L', e, hst, hq⟩ => ⟨v, C', L', e, hst.c0, hs.call hst, hq⟩

theorem St.less {w0 : World} {C0 : Mem} {L0 : List Ent} {C D : Mem} {L : List Ent} {w : World} (h : St w0 C0 L0 D L w) (h0 : C0.le C) (hl : C.le D) : St w0 C0 L0 C L w :=
  ⟨⟨fun b o hb => h.sep.c b o (hl b o hb), h.sep.e, h.sep.d, fun k hk => by
    cases hc : C k with
    | none => rfl
    | some o => have := h.sep.n k hk; rw [hl k o hc] at this; cases this⟩, h.ev, h0, fun k o hk => h.cn k o (hl k o hk), h.ln⟩

/-- The class of worlds. -/
def cls (w0 : World) (C0 : Mem) (L0 : List Ent) (κ : Mem × List Ent) (w : World) : Prop := St w0 C0 L0 κ.1 κ.2 w
def kle (κ κ' : Mem × List Ent) : Prop := κ.1.le κ'.1 ∧ ∀ x ∈ κ.2, x ∈ κ'.2
theorem kle.refl (κ : Mem × List Ent) : kle κ κ := ⟨Mem.le.refl _, fun _ h => h⟩
theorem kle.trans (a b c : Mem × List Ent) (h : kle a b) (k : kle b c) : kle a c := ⟨h.1.trans k.1, fun x hx => k.2 x (h.2 x hx)⟩

/-- A function that makes nothing that its caller sees, and hands back one value, is quiet in every class from here on. -/
theorem Gives.quiet {P : Program} {f : FuncId} {args : List Value} {C : Mem} {v : Value} (h : Gives P f args C v) {w0 : World} {C0 : Mem} {L0 : List Ent} {κ : Mem × List Ent} {w : World}
    (hC : C.le κ.1) (hC0 : C0.le C) (hw : cls w0 C0 L0 κ w) : Calls P f args.toArray w fun e w' => e = .returned v ∧ cls w0 C0 L0 κ w' := by
  have hsep : Sep C [] w := (hw.less hC0 hC).sep |> fun s => ⟨s.c, fun x hx => (by cases hx), List.Pairwise.nil, fun k ⟨x, hx, _⟩ => (by cases hx)⟩
  refine (h.2 w hsep).mono fun e w' ⟨u, C', L', he, hst, hu, hl⟩ => ?_
  subst hu; subst hl
  have h2 : Sep κ.1 [] w := ⟨hw.sep.c, fun x hx => (by cases hx), List.Pairwise.nil, fun k ⟨x, hx, _⟩ => (by cases hx)⟩
  have hno : ∀ k, ¬ owns [] k := fun k ⟨x, hx, _⟩ => by cases hx
  have hst' : St w κ.1 [] κ.1 [] w' := ⟨⟨fun b o hb => by
      have := hw.sep.c b o hb
      rw [hst.ev.block b (lt_of_heap this) (hno b)]; exact this, fun x hx => (by cases hx), List.Pairwise.nil, fun k hk => absurd hk (hno k)⟩, hst.ev, Mem.le.refl _, fun _ _ hk => .inl hk, fun k hk => absurd hk (hno k)⟩
  exact ⟨he, St.call (Lp := []) hw hst'⟩
end Go.Jog
