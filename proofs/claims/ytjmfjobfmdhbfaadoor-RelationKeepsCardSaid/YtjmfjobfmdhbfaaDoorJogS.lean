/- The library's contracts for the sorts and for strings.Split, as contracts of this logic. Program-independent. -/
import Derived.Test.YtjmfjobfmdhbfaaDoorJogK
import Derived.Shelf.SlSortCmp.NoneTotal
import Derived.Shelf.Sort.Plain
import Derived.Shelf.Slices.In.SortNone
import Derived.Shelf.Strings.Split
namespace Go.Jog
open Go Go.Proofs Go.Shelf

section
variable {α : Type} [Inhabited α]

theorem flatK_rows (enc : α → List Value) (k : Nat) (hk : ∀ x, (enc x).length = k) (d : Array α) : (Sort.flatK enc k d).toList = (d.toList.map enc).flatten := by
  have hr : ∀ r ∈ d.toList.map enc, r.length = k := fun r hr => by
    obtain ⟨x, _, rfl⟩ := List.mem_map.1 hr
    exact hk x
  have hl := length_flatten_rows hr
  apply List.ext_getElem?
  intro q
  by_cases hq : q < d.size * k
  · have hk0 : 0 < k := by
      rcases Nat.eq_zero_or_pos k with h | h
      · rw [h] at hq; simp at hq
      · exact h
    have hdiv : q / k < d.size := Nat.div_lt_of_lt_mul (by rw [Nat.mul_comm]; exact hq)
    have h1 : (d.toList.map enc)[q / k]? = some (enc d[q / k]!) := by
      rw [List.getElem?_map, Array.getElem?_toList, Array.getElem?_eq_getElem hdiv]
      simp [hdiv]
    have hmod : q % k < (enc d[q / k]!).length := by rw [hk]; exact Nat.mod_lt _ hk0
    have h2 := getElem?_flatten_rows hr h1 (List.getElem?_eq_getElem hmod)
    have hq' : q / k * k + q % k = q := by rw [Nat.mul_comm]; exact Nat.div_add_mod q k
    rw [hq'] at h2
    rw [h2]
    have h3 := Sort.get_flatK enc k d q hq
    rw [Array.getElem?_toList, Array.getElem?_eq_getElem (by simpa using hq)]
    rw [getElem!_pos (Sort.flatK enc k d) q (by simpa using hq)] at h3
    rw [h3, getElem!_pos (enc d[q / k]!) (q % k) hmod]
  · rw [List.getElem?_eq_none (by simp; omega), List.getElem?_eq_none (by rw [hl]; simp; omega)]

theorem heap_put {β : Type} [Inhabited β] (enc : β → Value) (w : World) (m blk : Nat) (F : Array β) (os : Array Obj) {cur : Array Value} {e : TypeId} {fz : Nat × Nat} (hb : w.heap[blk]? = some (.cells cur e fz)) :
    (Sort.grow (Sort.putRow enc (Sort.ahead w m) blk 0 F) os).heap[blk]? = some (.cells (Sort.putCells enc 0 F cur) e fz) := by
  have hlt := lt_of_heap hb
  rw [Sort.heap_grow_old _ _ (by simpa [Sort.ahead] using hlt)]
  simp [Sort.putRow, Sort.mapBlock, Sort.ahead, Array.getElem?_modify, hb, Sort.onCells]

theorem heap_put_other {β : Type} [Inhabited β] (enc : β → Value) (w : World) (m blk : Nat) (F : Array β) (os : Array Obj) {q : Nat} (hq : q < w.heap.size) (hne : q ≠ blk) :
    (Sort.grow (Sort.putRow enc (Sort.ahead w m) blk 0 F) os).heap[q]? = w.heap[q]? := by
  rw [Sort.heap_grow_old _ _ (by simpa [Sort.ahead] using hq)]
  simp [Sort.putRow, Sort.mapBlock, Sort.ahead, Array.getElem?_modify, Ne.symm hne]

theorem putCells_take {β : Type} [Inhabited β] (enc : β → Value) (F : Array β) (cur : Array Value) (h : F.size ≤ cur.size) : (Sort.putCells enc 0 F cur).toList.take F.size = F.toList.map enc := by
  apply List.ext_getElem?
  intro q
  rw [List.getElem?_take]
  split
  · rename_i hq
    simp only [Sort.putCells, Array.getElem?_toList, Array.getElem?_mapIdx, List.getElem?_map, Nat.zero_le, Nat.zero_add, true_and, hq, if_true, Nat.sub_zero]
    rw [Array.getElem?_eq_getElem (by omega : q < cur.size), Array.getElem?_eq_getElem hq]
    simp [hq]
  · rename_i hq
    rw [List.getElem?_eq_none (by simp; omega)]

/-- What a sort of an owned row leaves. -/
theorem St.sorted {β : Type} [Inhabited β] (enc : β → Value) {C : Mem} {w : World} {e s n g cap m : Nat} {xs : List Value} (hw : Sep C [.arr (.slice (some ⟨g, 0, none⟩) n cap) e s n xs] w) (F : Array β) (hF : F.size = n * s) (os : Array Obj) :
    St w C [.arr (.slice (some ⟨g, 0, none⟩) n cap) e s n xs] C [.arr (.slice (some ⟨g, 0, none⟩) n cap) e s n (F.toList.map enc)] (Sort.grow (Sort.putRow enc (Sort.ahead w m) g 0 F) os) := by
  have hown : w.ownsRow 0 e s (.slice (some ⟨g, 0, none⟩) n cap) n xs := hw.e _ (List.mem_cons_self ..)
  obtain ⟨_, h1, h2, cur, hb, hcs, _⟩ := ownsRow_block hown
  have hle : n * s ≤ cap * s := Nat.mul_le_mul_right _ h1
  refine St.turn (St.start hw) ⟨by simpa using hF, .inr ⟨g, cap, _, rfl, Nat.zero_le _, heap_put enc w m g F os hb, h1, h2, by simpa [Sort.putCells] using hcs, ?_⟩⟩ ⟨rfl, rfl, rfl, by simp [Sort.ahead], fun q hq hne => heap_put_other enc w m g F os hq (fun h => hne (by simp [Value.ownBlock, h]))⟩ ?_ (.inl rfl)
  · rw [← hF]; exact putCells_take enc F cur (by rw [hF, hcs]; exact hle)
  · show w.drawn ≤ w.drawn + m
    omega

theorem grow_of_ev {w w' : World} {C C' : Mem} (h : St w C [] C' [] w') : ∃ q os, w' = Sort.grow (w.drewN q) os := by
  refine ⟨w'.drawn - w.drawn, (w'.heap.toList.drop w.heap.size).toArray, ?_⟩
  have h1 : w'.heap = w.heap ++ (w'.heap.toList.drop w.heap.size).toArray := by
    apply Array.ext_getElem?
    intro k
    rw [Array.getElem?_append]
    split
    · rename_i hk; exact h.ev.block k hk (fun ⟨x, hx, _⟩ => by cases hx)
    · rename_i hk
      simp only [List.getElem?_toArray, List.getElem?_drop, Array.getElem?_toList]
      congr 1
      omega
  have h2 : w.drawn + (w'.drawn - w.drawn) = w'.drawn := by have := h.ev.drawn; omega
  obtain ⟨hp, tp, dr, os', op⟩ := w'
  have e1 := h.ev.os
  have e2 := h.ev.tape
  have e3 := h.ev.output
  simp only at h1 h2 e1 e2 e3
  simp only [Sort.grow, World.drewN]
  congr 1
  · exact h2.symm

end


section
variable {P : Program} {ρ : Ren}

theorem perm_of {α : Type} [Inhabited α] {l : List α} {d : Array α} (h : Sort.PermIn 0 l.toArray.size l.toArray d) : d.toList.Perm l := by
  obtain ⟨h1, _, h3⟩ := h
  have e1 : d.extract 0 l.toArray.size = d := by apply Array.ext'; rw [← h1]; simp
  have e2 : l.toArray.extract 0 l.toArray.size = l.toArray := by apply Array.ext'; simp
  rw [e1, e2] at h3
  simpa using h3
theorem sorted_of {α : Type} [Inhabited α] {lt : α → α → Bool} {d : Array α} (h : Sort.SortedIn lt 0 d.size d) : d.toList.Pairwise fun x y => lt y x = false := by
  rw [List.pairwise_iff_getElem]
  intro i j hi hj hij
  have := h i j (Nat.zero_le _) hij (by simpa using hj)
  rw [getElem!_pos d j (by simpa using hj), getElem!_pos d i (by simpa using hi)] at this
  simpa using this

/-- slices.SortFunc at structs. -/
theorem sortFunc_fn {α : Type} [Inhabited α] (L6 : SlLaysF0.n6 P ρ) {T : Tab} (hT : tabB P T = true) {te : TI} (he : T.get (ρ.t 24) = some te) (hagg : te.agg = true) (enc : α → List Value) (hk : ∀ x, (enc x).length = te.size) (h1 : ∀ x, (enc x).all oneB = true)
    (cf : α → α → Int) (hO : Sort.SWO (ltOf cf)) (g : FuncId) (cb : List Value) (C : Mem) (hcmp : ∀ x y C', C.le C' → Gives P g ([.agg ⟨enc x⟩, .agg ⟨enc y⟩] ++ cb) C' (.int .i64 (cf x y))) (v : Value) (e : TypeId) (l : List α) (hsz : l.length < 4611686018427387904)
    (hen : Enters P (ρ.f 6) = true) (hen2 : Enters P g = true) :
    Fn P (ρ.f 6) [v, .func (.func g) #[] ⟨cb⟩] C [.arr v e te.size l.length (l.map enc).flatten] fun u C' L' => ∃ l' : List α, u = .tuple #[] ∧ L' = [.arr v e te.size l.length (l'.map enc).flatten] ∧ l'.Perm l ∧ l'.Pairwise (fun x y => ltOf cf y x = false) := by
  refine ⟨hen, fun w hw => ?_⟩
  have hown : w.ownsRow 0 e te.size v l.length (l.map enc).flatten := hw.e _ (List.mem_cons_self ..)
  rcases hown.2 with ⟨rfl, hz⟩ | ⟨b, cap, cur, rfl, _, hb, h2, h3, h4, h5⟩
  · have hl : l = [] := List.eq_nil_of_length_eq_zero hz
    subst hl
    refine (AnyF.slices_SortFunc_none L6 none 0 (.func (.func g) #[] ⟨cb⟩) w).mono fun e' w' ⟨h1, h2⟩ => ?_
    subst h2
    exact ⟨_, C, _, h1, St.start hw, [], rfl, rfl, List.Perm.refl _, List.Pairwise.nil⟩
  · have hblk : b < w.heap.size := lt_of_heap hb
    have hFs : (Sort.flatK enc te.size l.toArray).toList = (l.map enc).flatten := by rw [flatK_rows enc _ hk]
    have hle : l.length * te.size ≤ cap * te.size := Nat.mul_le_mul_right _ h2
    have hH : Sort.HoldsK enc te.size w b 0 l.toArray := by
      intro j hj
      simp only [Sort.size_flatK, List.size_toArray] at hj
      have hj2 : j < cur.size := by omega
      have hc : (Sort.flatK enc te.size l.toArray)[j]? = some cur[j] := by
        rw [← Array.getElem?_toList, hFs, ← h5, List.getElem?_take, if_pos hj, Array.getElem?_toList, Array.getElem?_eq_getElem hj2]
      have hg := getElem!_pos (Sort.flatK enc te.size l.toArray) j (by simpa using hj)
      have hc2 := (Array.getElem?_eq_some_iff.1 hc).2
      refine ⟨?_, ?_⟩
      · rw [Nat.zero_add, cell_of_row w b j cur e (0, 0) hb, hg, hc2]
        exact Array.getElem?_eq_getElem hj2
      · simp [World.frozen?, hb]
    have hlays : CmpLays P g ⟨cb⟩ enc te.size cf b 0 l.toArray.size w := by
      intro m os dk hdk x y
      have hW : Sep C [] (sortWorldK enc te.size w b 0 m dk os) := ⟨fun q o hq => by
          have hq1 := hw.c q o hq
          unfold sortWorldK Sort.putRowK
          rw [heap_put_other id w m b _ os (lt_of_heap hq1) (fun h => by
            subst h
            have := hw.n q ⟨_, List.mem_cons_self .., rfl⟩
            rw [this] at hq; cases hq)]
          exact hq1, fun x hx => (by cases hx), List.Pairwise.nil, fun k ⟨x, hx, _⟩ => (by cases hx)⟩
      have ea : (#[Value.agg (enc x).toArray, Value.agg (enc y).toArray] ++ (⟨cb⟩ : Array Value)) = ([Value.agg ⟨enc x⟩, Value.agg ⟨enc y⟩] ++ cb).toArray := by apply Array.ext'; simp
      rw [ea]
      refine ((hcmp x y C (Mem.le.refl _)).2 _ hW).mono fun e' w' ⟨u, C', L', h1, h2, h3, h4⟩ => ?_
      subst h3
      subst h4
      exact ⟨h1, grow_of_ev h2⟩
    have main := AnyQ.slices_SortFunc L6 te.size (fun w => by have := is_agg hT he w; rwa [hagg] at this) (fun w => size_of hT he w) enc hk (fun x u hu => oneB_spec (List.all_eq_true.1 (h1 x) u hu)) cf hO g ⟨cb⟩ b 0 cap l.toArray w (fun args w => run_callFunc hen2 args w) hlays hH hblk (by simpa using hsz)
    refine main.mono fun e' w' ⟨h1, d', m, os, hp, hs, hw'⟩ => ?_
    subst hw'
    have hsize : d'.size = l.length := by simpa using hp.1
    have hS := St.sorted (m := m) id hw (Sort.flatK enc te.size d') (by simp [hsize]) os
    simp only [List.map_id, flatK_rows enc _ hk] at hS
    exact ⟨_, C, _, h1, hS, d'.toList, rfl, rfl, perm_of hp, sorted_of (by rw [hsize]; simpa using hs)⟩

theorem flatten_map1 {β : Type} (f : β → Value) : ∀ l : List β, (l.map fun x => [f x]).flatten = l.map f
  | [] => rfl
  | x :: l => by simp [flatten_map1 f l]

def strV (s : List UInt8) : Value := .string ⟨s.toArray⟩

/-- slices.Sort at strings. -/
theorem sortStr_fn (L190 : Lays.n190 P ρ) (C : Mem) (v : Value) (e : TypeId) (l : List (List UInt8)) (hsz : l.length < 4611686018427387904) (hen : Enters P (ρ.f 190) = true) :
    Fn P (ρ.f 190) [v] C [.arr v e 1 l.length (l.map strV)] fun u C' L' => u = .tuple #[] ∧ L' = [.arr v e 1 l.length ((l.mergeSort fun x y => decide (x ≤ y)).map strV)] := by
  refine ⟨hen, fun w hw => ?_⟩
  have hown : w.ownsRow 0 e 1 v l.length (l.map strV) := hw.e _ (List.mem_cons_self ..)
  rcases hown.2 with ⟨rfl, hz⟩ | ⟨b, cap, cur, rfl, _, hb, h2, h3, h4, h5⟩
  · have hl : l = [] := List.eq_nil_of_length_eq_zero hz
    subst hl
    refine (Any.slices_Sort_string_none L190 none 0 w).mono fun e' w' ⟨h1, h2⟩ => ?_
    subst h2
    exact ⟨_, C, _, h1, St.start hw, rfl, by simp⟩
  · have hblk : b < w.heap.size := lt_of_heap hb
    have hH : Sort.Holds encStr w b 0 l.toArray := by
      intro j hj
      simp only [List.size_toArray] at hj
      have hj2 : j < cur.size := by omega
      have hc : (l.map strV)[j]? = some cur[j] := by
        rw [← h5, List.getElem?_take, if_pos (by omega), Array.getElem?_toList, Array.getElem?_eq_getElem hj2]
      rw [List.getElem?_map, List.getElem?_eq_getElem hj] at hc
      simp only [Option.map_some, Option.some.injEq] at hc
      refine ⟨?_, ?_⟩
      · rw [Nat.zero_add, cell_of_row w b j cur e (0, 0) hb, getElem!_pos l.toArray j (by simpa using hj)]
        rw [Array.getElem?_eq_getElem hj2, ← hc]
        simp [strV]
      · simp [World.frozen?, hb]
    refine (Any.slices_Sort_string L190 b 0 cap l w hH hblk hsz).mono fun e' w' ⟨h1, m, os, hw'⟩ => ?_
    subst hw'
    have hS := St.sorted (m := m) encStr hw (l.mergeSort fun x y => decide (x ≤ y)).toArray (by simp) os
    exact ⟨_, C, _, h1, hS, rfl, rfl⟩

/-- A text, cut at each byte c. -/
def splitOn (c : UInt8) : List UInt8 → List (List UInt8)
  | [] => [[]]
  | b :: s => if b = c then [] :: splitOn c s else match splitOn c s with
    | [] => [[b]]
    | p :: ps => (b :: p) :: ps

theorem splitOn_ne (c : UInt8) : ∀ s, splitOn c s ≠ []
  | [] => by simp [splitOn]
  | b :: s => by
    simp only [splitOn]
    split
    · simp
    · split <;> simp

theorem splitOn_miss (c : UInt8) : ∀ s, c ∉ s → splitOn c s = [s]
  | [], _ => rfl
  | b :: s, h => by
    have h1 : b ≠ c := fun e => h (by simp [e])
    have h2 := splitOn_miss c s (fun e => h (by simp [e]))
    simp [splitOn, h1, h2]

theorem splitOn_hit (c : UInt8) : ∀ (pre post : List UInt8), c ∉ pre → splitOn c (pre ++ c :: post) = pre :: splitOn c post
  | [], post, _ => by simp [splitOn]
  | b :: pre, post, h => by
    have h1 : b ≠ c := fun e => h (by simp [e])
    have h2 := splitOn_hit c pre post (fun e => h (by simp [e]))
    simp [splitOn, h1, h2]

theorem index_one (c : UInt8) : ∀ s : List UInt8, (c ∉ s ∧ Lib.index s [c] = -1) ∨ ∃ pre post, s = pre ++ c :: post ∧ c ∉ pre ∧ Lib.index s [c] = pre.length
  | [] => .inl ⟨by simp, by simp [Lib.index]⟩
  | b :: s => by
    by_cases hb : b = c
    · subst hb
      exact .inr ⟨[], s, rfl, by simp, by simp [Lib.index]⟩
    · have hp : ([c] : List UInt8).isPrefixOf (b :: s) = false := by simp [List.isPrefixOf, Ne.symm hb]
      have hix : Lib.index (b :: s) [c] = if Lib.index s [c] == -1 then -1 else Lib.index s [c] + 1 := by rw [Lib.index, hp]; simp
      rcases index_one c s with ⟨h1, h2⟩ | ⟨pre, post, h1, h2, h3⟩
      · exact .inl ⟨by simp [Ne.symm hb, h1], by rw [hix, h2]; rfl⟩
      · refine .inr ⟨b :: pre, post, by simp [h1], by simp [Ne.symm hb, h2], ?_⟩
        rw [hix, h3]
        have : ¬ ((pre.length : Int) == -1) = true := by simp
        rw [if_neg this]; simp

theorem splitK_one (c : UInt8) : ∀ (k : Nat) (s : List UInt8), s.count c = k → Lib.splitK [c] 0 k s = splitOn c s
  | 0, s, h => by
    rw [splitOn_miss c s (List.count_eq_zero.1 h)]; rfl
  | k + 1, s, h => by
    rcases index_one c s with ⟨h1, _⟩ | ⟨pre, post, h1, h2, h3⟩
    · rw [List.count_eq_zero.2 h1] at h; omega
    · have hk : post.count c = k := by
        rw [h1, List.count_append, List.count_eq_zero.2 h2, List.count_cons_self] at h
        omega
      unfold Lib.splitK
      rw [h3]
      have hne : ¬ ((pre.length : Int) == -1) = true := by simp
      rw [if_neg hne]
      subst h1
      have e1 : ((pre.length : Int).toNat + 0) = pre.length := by simp
      have e2 : (pre ++ c :: post).drop ((pre.length : Int).toNat + [c].length) = post := by simp
      rw [e1, e2, splitK_one c k post hk, splitOn_hit c pre post h2]
      simp

theorem splitOn_length (c : UInt8) : ∀ s : List UInt8, (splitOn c s).length = s.count c + 1
  | [] => by simp [splitOn]
  | b :: s => by
    have ih := splitOn_length c s
    simp only [splitOn]
    by_cases hb : b = c
    · subst hb; simp [ih]
    · rw [if_neg hb]
      have hb' : ¬ (b == c) = true := by simpa using hb
      rw [List.count_cons_of_ne hb]
      cases h : splitOn c s with
      | nil => exact absurd h (splitOn_ne c s)
      | cons p ps => rw [h] at ih; simpa using ih

/-- strings.Split at one byte. -/
theorem split_fn (L146 : Lays.n146 P ρ) (hi9 : (P.info? (ρ.t 9)).map (fun i => (i.zero, i.size, i.bytes)) = some (some (.string ByteArray.empty), 1, 16)) (C : Mem) (s : List UInt8) (c : UInt8) {m : Int} (hs : s.length < 4294967281) (hm : CCell C ⟨ρ.g 1, 0, none⟩ (.int .i64 m)) (hen : Enters P (ρ.f 146) = true) :
    Pur P (ρ.f 146) [strV s, strV [c]] C fun v C' => Sl C' 1 v ((splitOn c s).map fun p => [strV p]) := by
  refine ⟨hen, fun w hw => ?_⟩
  have h := Any.strings_Split L146 hi9 ⟨s.toArray⟩ ⟨#[c]⟩ m w (by simpa [ByteArray.size] using hs) (hm.cell hw) (by simp [ByteArray.size])
  have hcnt : Lib.countB ⟨s.toArray⟩ ⟨#[c]⟩ = s.count c := by
    show Lib.count s [c] = _
    exact Lib.count_one c s
  have hsp : (Lib.splitB ⟨#[c]⟩ 0 (s.count c) ⟨s.toArray⟩).map (fun b => b.data.toList) = splitOn c s := by
    rw [Lib.splitB_data]
    exact splitK_one c _ s rfl
  have hcells : (Lib.splitB ⟨#[c]⟩ 0 (s.count c) ⟨s.toArray⟩).map Value.string = (splitOn c s).map strV := by
    rw [← hsp, List.map_map]
    apply List.map_congr_left
    intro b _
    obtain ⟨⟨b⟩⟩ := b
    rfl
  rw [hcnt, hcells] at h
  refine h.mono fun e' w' ⟨h1, hw'⟩ => ?_
  subst hw'
  have h2 := (St.alloc (St.start hw) (.cells ((splitOn c s).map strV).toArray (ρ.t 9))).freeze
  refine ⟨_, _, _, h1, h2.2, rfl, ?_⟩
  have hlen := splitOn_length c s
  have hc : s.count c ≤ s.length := List.count_le_length
  have hsl := Sl.ofBlock (C := C.set w.heap.size (.cells ((splitOn c s).map strV).toArray (ρ.t 9))) (c := s.count c + 1) (Mem.set_self C w.heap.size _) (rows := (splitOn c s).map fun p => [strV p]) (s := 1) (by simp) (fun j u hj => by rw [flatten_map1] at hj; simpa using hj) (by simp [hlen]) (by simp only [maxLen]; omega)
  simpa [hlen] using hsl
end
end Go.Jog
