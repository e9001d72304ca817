/- Layer 20: DeleteFunc, Without, Rename. -/
import Derived.Test.YtjmfjobfmdhbfaaDoorK20p
namespace Go.Proofs.YtjmfjobfmdhbfaaDoor
open Go Go.Jog
set_option maxRecDepth 100000

theorem findI_cases {α : Type} {p : α → Bool} : ∀ (l : List α) (j : Nat), (findI p l j = -1 ∧ ∀ y ∈ l, p y = false) ∨ ∃ k x, findI p l j = ((j + k : Nat) : Int) ∧ l[k]? = some x ∧ p x = true ∧ ∀ y ∈ l.take k, p y = false
  | [], _ => .inl ⟨rfl, fun y hy => by cases hy⟩
  | y :: l, j => by
    simp only [findI]
    by_cases h : p y = true
    · exact .inr ⟨0, y, by rw [if_pos h]; rfl, by simp, h, by simp⟩
    · simp only [Bool.not_eq_true] at h
      rw [if_neg (by rw [h]; decide)]
      rcases findI_cases l (j + 1) with ⟨h1, h2⟩ | ⟨k, x, h1, h2, h3, h4⟩
      · refine .inl ⟨h1, fun z hz => ?_⟩
        rcases List.mem_cons.1 hz with rfl | hz
        · exact h
        · exact h2 z hz
      · refine .inr ⟨k + 1, x, by rw [h1]; congr 1; omega, by simpa using h2, h3, fun z hz => ?_⟩
        rw [List.take_succ_cons] at hz
        rcases List.mem_cons.1 hz with rfl | hz
        · exact h
        · exact h4 z hz

theorem indexFunc_rel (C : Mem) (v : Value) (l : List Rel) (g : FuncId) (cb : List Value) (p : Rel → Bool) (hl : l.length ≤ 1000000) (hcb : ∀ x ∈ l, ∀ C', C.le C' → Gives cx.P g (.agg ⟨x.enc⟩ :: cb) C' (.bool (p x))) :
    Jog.Fn cx.P 57 [v, .func (.func g) #[] ⟨cb⟩] C [.arr v 33 3 l.length (l.map Rel.enc).flatten] fun u C' L' => u = .int .i64 (findI p l 0) ∧ L' = [.arr v 33 3 l.length (l.map Rel.enc).flatten] := by
  refine Fn.intro (by kernel_rfl) Tryd.func57 rfl 19 rfl rfl (fun w0 => ?_)
  refine G.form (.head _) (fun hform hxl => ?_)
  obtain ⟨A, c0, hv⟩ : ∃ A c0, v = .slice A l.length c0 := by
    rcases hform with ⟨h1, h2⟩ | ⟨g, c, h1, _⟩
    · exact ⟨none, 0, by rw [h1, h2]⟩
    · exact ⟨_, c, h1⟩
  subst hv
  refine G.region rfl (fun R hR => ?_)
  refine D.pure rfl rfl rfl rfl rfl rfl ?_
  refine D.done [(0, [], _), (1, [], _)] ⟨rfl, rfl, trivial⟩ (hR _ _ _ rfl ?_); clear hR R
  refine G.region rfl (fun R hR => ?_)
  iterate 3 refine D.pure rfl rfl rfl rfl rfl rfl ?_
  refine D.done [(0, [], _), (1, [], _), (7, [], _), (8, [], _)] ⟨rfl, rfl, rfl, rfl, trivial⟩ (hR _ _ _ rfl ?_); clear hR R
  refine G.loop (fun fr C' L' μ => ∃ (k : Nat), (k ≤ l.length ∧ ∀ y ∈ l.take k, p y = false) ∧ fr = [(0, [], .slice A l.length c0), (1, [], .func (.func g) #[] ⟨cb⟩), (7, [], .int .i64 l.length), (8, [], .int .i64 k)] ∧ L' = [.arr (.slice A l.length c0) 33 3 l.length (l.map Rel.enc).flatten] ∧ μ = l.length - k) (fr' := [(0, [], _), (1, [], _), (7, [], _), (8, [], _)]) ⟨rfl, rfl, rfl, rfl, trivial⟩ ⟨0, ⟨Nat.zero_le _, by simp⟩, rfl, rfl, rfl⟩ (fun fr C0' L0' m hle0 hI => ?_)
  obtain ⟨k, ⟨hk, hall⟩, rfl, rfl, rfl⟩ := hI
  refine G.region rfl (fun R hR => ?_)
  refine D.pure rfl rfl rfl rfl rfl rfl ?_
  refine D.done [(0, [], _), (1, [], _), (7, [], _), (8, [], _), (9, [], _)] ⟨rfl, rfl, rfl, rfl, rfl, trivial⟩ (hR _ _ _ rfl ?_); clear hR R
  refine G.cond rfl (fun h9 => ?_) (fun h9 => ?_)
  · skip
    simp only [decide_eq_true_eq] at h9
    have hkl : k < l.length := by omega
    obtain ⟨x, hx⟩ : ∃ x, l[k]? = some x := ⟨l[k], List.getElem?_eq_getElem hkl⟩
    have hxm : x ∈ l := List.mem_of_getElem? hx
    obtain ⟨gb, c, hgc⟩ : ∃ g c, (Value.slice A l.length c0) = .slice (some ⟨g, 0, none⟩) l.length c := by
      rcases hform with ⟨h1, h2⟩ | ⟨g, c, h1, _⟩
      · omega
      · exact ⟨g, c, h1⟩
    obtain ⟨rfl, rfl⟩ : some (⟨gb, 0, none⟩ : Addr) = A ∧ c = c0 := by cases hgc; exact ⟨rfl, rfl⟩
    refine G.region rfl (fun R hR => ?_)
    iterate 2 refine D.pure rfl rfl rfl rfl rfl rfl ?_
    refine D.done [(0, [], _), (1, [], _), (5, [], _), (7, [], _), (8, [], _)] ⟨rfl, rfl, rfl, rfl, rfl, trivial⟩ (hR _ _ _ rfl ?_); clear hR R
    refine G.region rfl (fun R hR => ?_)
    iterate 3 refine D.pure rfl rfl rfl rfl rfl rfl ?_
    refine D.indexS (k * 3) rfl rfl rfl rfl rfl rfl rfl rfl rfl rfl (fun _ => ⟨by omega, by omega, rfl⟩) rfl rfl ?_
    refine D.loadArr (.head _) rfl rfl rfl rfl rfl rfl (fun _ => (by rw [row_read rel_len hx]; rfl)) rfl rfl ?_
    refine D.gives2 (hcb x hxm _ hle0) rfl rfl rfl rfl rfl rfl rfl (fun _ => rfl) ?_
    refine D.done [(0, [], _), (1, [], _), (5, [], _), (7, [], _), (8, [], _), (16, [], _)] ⟨rfl, rfl, rfl, rfl, rfl, rfl, trivial⟩ (hR _ _ _ rfl ?_); clear hR R
    refine G.cond rfl (fun h16 => ?_) (fun h16 => ?_)
    · skip
      refine G.region rfl (fun R hR => ?_)
      iterate 2 refine D.pure rfl rfl rfl rfl rfl rfl ?_
      refine D.done [(4, [], _)] ⟨rfl, trivial⟩ (hR _ _ _ rfl ?_); clear hR R
      refine G.retN (G.fin1 rfl rfl ?_)
      exact ⟨by rw [findI_at (k := k) (j := 0) hx hall h16, Nat.zero_add], rfl⟩
    · skip
      refine G.region rfl (fun R hR => ?_)
      refine D.i64 _ rfl rfl rfl rfl rfl (by omega) (by omega) rfl rfl ?_
      refine D.pure rfl rfl rfl rfl rfl rfl ?_
      refine D.done [(0, [], _), (1, [], _), (7, [], _), (8, [], _)] ⟨rfl, rfl, rfl, rfl, trivial⟩ (hR _ _ _ rfl ?_); clear hR R
      refine G.again (m' := l.length - (k + 1)) (by omega) hle0 (fr' := [(0, [], _), (1, [], _), (7, [], _), (8, [], _)]) ⟨rfl, rfl, rfl, rfl, trivial⟩ ⟨k + 1, ⟨by omega, fun y hy => by
        rw [List.take_add_one, hx] at hy
        rcases List.mem_append.1 hy with h6 | h6
        · exact hall y h6
        · simp only [Option.toList_some, List.mem_singleton] at h6
          subst h6
          exact h16⟩, rfl, rfl, rfl⟩
  · skip
    simp only [decide_eq_false_iff_not] at h9
    refine G.region rfl (fun R hR => ?_)
    refine D.pure rfl rfl rfl rfl rfl rfl ?_
    refine D.done [(4, [], _)] ⟨rfl, trivial⟩ (hR _ _ _ rfl ?_); clear hR R
    refine G.retN (G.fin1 rfl rfl ?_)
    rw [List.take_of_length_le (by omega)] at hall
    exact ⟨by rw [findI_none hall], rfl⟩

set_option maxHeartbeats 1000000 in
theorem deleteFunc_rel (C : Mem) (v : Value) (l : List Rel) (fg : FuncId) (cb : List Value) (p : Rel → Bool) (hl : l.length ≤ 1000000) (hcb : ∀ x ∈ l, ∀ C', C.le C' → Gives cx.P fg (.agg ⟨x.enc⟩ :: cb) C' (.bool (p x))) :
    Jog.Fn cx.P 42 [v, .func (.func fg) #[] ⟨cb⟩] C [.arr v 33 3 l.length (l.map Rel.enc).flatten] fun u C' L' => L' = [] ∧ Sl C' 3 u ((l.filter fun x => !(p x)).map Rel.enc) := by
  refine Fn.intro (by kernel_rfl) Tryd.func42 rfl 42 rfl rfl (fun w0 => ?_)
  refine G.form (.head _) (fun hform hxl => ?_)
  obtain ⟨A, c0, hv⟩ : ∃ A c0, v = .slice A l.length c0 := by
    rcases hform with ⟨h1, h2⟩ | ⟨g, c, h1, _⟩
    · exact ⟨none, 0, by rw [h1, h2]⟩
    · exact ⟨_, c, h1⟩
  subst hv
  refine G.region rfl (fun R hR => ?_)
  refine D.pure rfl rfl rfl rfl rfl rfl ?_
  refine D.done [(0, [], _), (1, [], _)] ⟨rfl, rfl, trivial⟩ (hR _ _ _ rfl ?_); clear hR R
  refine G.regionO [(2, 3)] rfl (fun R hR => ?_)
  iterate 2 refine D.pure rfl rfl rfl rfl rfl rfl ?_
  refine D.call (indexFunc_rel _ _ l fg cb p hl hcb) rfl (.inr (by decide)) rfl rfl rfl rfl rfl rfl (List.Perm.refl _) (fun _ => rfl) (fun v10 C10 L10 hle10 hq10 => ?_)
  obtain ⟨rfl, rfl⟩ := hq10
  refine D.pure rfl rfl rfl rfl rfl rfl ?_
  refine D.done [(0, [], _), (1, [], _), (5, [], _)] ⟨rfl, rfl, rfl, trivial⟩ (hR _ _ _ rfl ?_); clear hR R
  refine G.region rfl (fun R hR => ?_)
  iterate 2 refine D.pure rfl rfl rfl rfl rfl rfl ?_
  refine D.done [(0, [], _), (1, [], _), (5, [], _), (12, [], _)] ⟨rfl, rfl, rfl, rfl, trivial⟩ (hR _ _ _ rfl ?_); clear hR R
  refine G.cond rfl (fun h12 => ?_) (fun h12 => ?_)
  · skip
    have hnone : ∀ y ∈ l, p y = false := by
      rcases findI_cases (p := p) l 0 with ⟨_, h2⟩ | ⟨k, x, h1, _⟩
      · exact h2
      · exfalso; rw [h1] at h12; simp at h12
    have hid : l.filter (fun x => !(p x)) = l := List.filter_eq_self.2 (fun y hy => by rw [hnone y hy]; rfl)
    refine G.region rfl (fun R hR => ?_)
    iterate 2 refine D.pure rfl rfl rfl rfl rfl rfl ?_
    refine D.done [(4, [], _)] ⟨rfl, trivial⟩ (hR _ _ _ rfl ?_); clear hR R
    refine G.freezeArr 0 (l.map Rel.enc) rfl rfl (by intro r hr; obtain ⟨x, _, rfl⟩ := List.mem_map.1 hr; exact rel_len x) (by simp) (fun Cf hlef hsf => G.retN (G.fin1 rfl rfl ?_))
    exact ⟨rfl, by rw [hid]; exact hsf⟩
  · skip
    obtain ⟨k0, x0, hk0, hx0, hp0, hall0⟩ : ∃ k x, findI p l 0 = ((k : Nat) : Int) ∧ l[k]? = some x ∧ p x = true ∧ ∀ y ∈ l.take k, p y = false := by
      rcases findI_cases (p := p) l 0 with ⟨h1, h2⟩ | ⟨k, x, h1, h2⟩
      · exfalso; rw [h1] at h12; simp at h12
      · exact ⟨k, x, by rw [h1, Nat.zero_add], h2⟩
    have hk0l : k0 < l.length := (List.getElem?_eq_some_iff.1 hx0).1
    rw [hk0]
    obtain ⟨g, c, hgc, hlc, hcm⟩ : ∃ g c, (Value.slice A l.length c0) = .slice (some ⟨g, 0, none⟩) l.length c ∧ l.length ≤ c ∧ c ≤ maxLen := by
      rcases hform with ⟨h1, h2⟩ | ⟨g, c, h1, h2, h3⟩
      · omega
      · exact ⟨g, c, h1, h2, h3⟩
    obtain ⟨rfl, rfl⟩ : some (⟨g, 0, none⟩ : Addr) = A ∧ c = c0 := by cases hgc; exact ⟨rfl, rfl⟩
    have hstart : (l.take (k0 + 1)).filter (fun x => !(p x)) = l.take k0 := by
      rw [List.take_add_one, hx0, List.filter_append]
      simp only [Option.toList_some, List.filter_cons, hp0, Bool.not_true, List.filter_nil]
      rw [if_neg (by decide), List.append_nil]
      exact List.filter_eq_self.2 (fun y hy => by rw [hall0 y hy]; rfl)
    refine G.region rfl (fun R hR => ?_)
    refine D.pure rfl rfl rfl rfl rfl rfl ?_
    refine D.i64 _ rfl rfl rfl rfl rfl (by omega) (by omega) rfl rfl ?_
    refine D.pure rfl rfl rfl rfl rfl rfl ?_
    refine D.done [(0, [], _), (1, [], _), (5, [], _), (6, [], _)] ⟨rfl, rfl, rfl, rfl, trivial⟩ (hR _ _ _ rfl ?_); clear hR R
    refine G.loop (fun fr C' L' μ => ∃ (j i : Nat) (r : List Rel), (i < j ∧ j ≤ l.length ∧ r.length = l.length ∧ r.take i = (l.take j).filter (fun x => !(p x)) ∧ (∀ q, j ≤ q → r[q]? = l[q]?)) ∧ fr = [(0, [], .slice (some ⟨g, 0, none⟩) l.length c), (1, [], .func (.func fg) #[] ⟨cb⟩), (5, [], .int .i64 i), (6, [], .int .i64 j)] ∧ L' = [.arr (.slice (some ⟨g, 0, none⟩) l.length c) 33 3 l.length (r.map Rel.enc).flatten] ∧ μ = l.length - j) (fr' := [(0, [], _), (1, [], _), (5, [], _), (6, [], _)]) ⟨rfl, rfl, rfl, rfl, trivial⟩ ⟨k0 + 1, k0, l, ⟨by omega, by omega, rfl, hstart.symm, fun _ _ => rfl⟩, rfl, rfl, rfl⟩ (fun fr C0' L0' m hle0 hI => ?_)
    obtain ⟨j, i, r, ⟨hij, hjl, hrl, hrt, hrs⟩, rfl, rfl, rfl⟩ := hI
    refine G.region rfl (fun R hR => ?_)
    iterate 4 refine D.pure rfl rfl rfl rfl rfl rfl ?_
    refine D.done [(0, [], _), (1, [], _), (5, [], _), (6, [], _), (19, [], _)] ⟨rfl, rfl, rfl, rfl, rfl, trivial⟩ (hR _ _ _ rfl ?_); clear hR R
    refine G.cond rfl (fun h19 => ?_) (fun h19 => ?_)
    · skip
      simp only [decide_eq_true_eq] at h19
      have hjl' : j < l.length := by omega
      obtain ⟨x, hx⟩ : ∃ x, r[j]? = some x := ⟨r[j]'(by omega), List.getElem?_eq_getElem (by omega)⟩
      have hxl' : l[j]? = some x := by rw [← hrs j (Nat.le_refl _)]; exact hx
      have hxm : x ∈ l := List.mem_of_getElem? hxl'
      have htk : (l.take (j + 1)).filter (fun x => !(p x)) = (l.take j).filter (fun x => !(p x)) ++ (if p x = true then [] else [x]) := by
        rw [List.take_add_one, hxl', List.filter_append]
        cases hpx : p x <;> simp [hpx]
      refine G.region rfl (fun R hR => ?_)
      iterate 2 refine D.pure rfl rfl rfl rfl rfl rfl ?_
      refine D.indexS (j * 3) rfl rfl rfl rfl rfl rfl rfl rfl rfl rfl (fun _ => ⟨by omega, by omega, rfl⟩) rfl rfl ?_
      refine D.loadArr (.head _) rfl rfl rfl rfl rfl rfl (fun _ => (by rw [row_read rel_len hx]; rfl)) rfl rfl ?_
      refine D.alloc rfl rfl rfl rfl rfl (fun _ => rfl) (fun b7 => ?_)
      refine D.store (j := 0) rfl rfl rfl rfl rfl rfl rfl rfl rfl rfl rfl rfl ?_
      refine D.done [(0, [], _), (1, [], _), (5, [], _), (6, [], _), (7, [], _)] ⟨rfl, rfl, rfl, rfl, rfl, trivial⟩ (hR _ _ _ rfl ?_); clear hR R
      refine G.region rfl (fun R hR => ?_)
      refine D.pure rfl rfl rfl rfl rfl rfl ?_
      refine D.loadL (.head _) rfl rfl rfl rfl rfl rfl rfl rfl rfl ?_
      refine D.gives2 (hcb x hxm _ (hle10.trans hle0)) rfl rfl rfl rfl rfl rfl rfl (fun _ => rfl) ?_
      refine D.pure rfl rfl rfl rfl rfl rfl ?_
      refine D.done [(0, [], _), (1, [], _), (5, [], _), (6, [], _), (7, [], _), (29, [], _)] ⟨rfl, rfl, rfl, rfl, rfl, rfl, trivial⟩ (hR _ _ _ rfl ?_); clear hR R
      refine G.cond rfl (fun h29 => ?_) (fun h29 => ?_)
      · skip
        simp only [Bool.not_eq_true'] at h29
        refine G.region rfl (fun R hR => ?_)
        iterate 2 refine D.pure rfl rfl rfl rfl rfl rfl ?_
        refine D.loadL (.head _) rfl rfl rfl rfl rfl rfl rfl rfl rfl ?_
        refine D.indexS (i * 3) rfl rfl rfl rfl rfl rfl rfl rfl rfl rfl (fun _ => ⟨by omega, by omega, rfl⟩) rfl rfl ?_
        refine D.storeArr (j := 1) rfl rfl rfl rfl rfl rfl rfl rfl rfl rfl rfl (by show i * 3 + 3 ≤ _; rw [rows_len rel_len, hrl]; have h9 : (i + 1) * 3 ≤ l.length * 3 := Nat.mul_le_mul_right _ (by omega); omega) ?_
        refine D.done [(0, [], _), (1, [], _), (5, [], _), (6, [], _)] ⟨rfl, rfl, rfl, rfl, trivial⟩ (hR _ _ _ rfl ?_); clear hR R
        refine G.region rfl (fun R hR => ?_)
        refine D.pure rfl rfl rfl rfl rfl rfl ?_
        refine D.i64 _ rfl rfl rfl rfl rfl (by omega) (by omega) rfl rfl ?_
        refine D.pure rfl rfl rfl rfl rfl rfl ?_
        refine D.done [(0, [], _), (1, [], _), (5, [], _), (6, [], _)] ⟨rfl, rfl, rfl, rfl, trivial⟩ (hR _ _ _ rfl ?_); clear hR R
        refine G.region rfl (fun R hR => ?_)
        refine D.pure rfl rfl rfl rfl rfl rfl ?_
        refine D.i64 _ rfl rfl rfl rfl rfl (by omega) (by omega) rfl rfl ?_
        refine D.pure rfl rfl rfl rfl rfl rfl ?_
        refine D.done [(0, [], _), (1, [], _), (5, [], _), (6, [], _)] ⟨rfl, rfl, rfl, rfl, trivial⟩ (hR _ _ _ rfl ?_); clear hR R
        have hw : storeInto (r.map Rel.enc).flatten (Rel.enc x) (i * 3) = ((r.set i x).map Rel.enc).flatten := row_write rel_len x (by omega)
        refine G.dropE 1 rfl ?_
        refine G.eqL (L' := [.arr (.slice (some ⟨g, 0, none⟩) l.length c) 33 3 l.length ((r.set i x).map Rel.enc).flatten]) (by rw [← hw]; rfl) ?_
        refine G.again (m' := l.length - (j + 1)) (by omega) hle0 (fr' := [(0, [], _), (1, [], _), (5, [], _), (6, [], _)]) ⟨rfl, rfl, rfl, rfl, trivial⟩ ⟨j + 1, i + 1, r.set i x, ⟨by omega, by omega, by simpa using hrl, by
          rw [htk, if_neg (by rw [h29]; decide), ← hrt, List.take_add_one, List.take_set_of_le (Nat.le_refl _), List.getElem?_set_self (by omega)]
          rfl, fun q hq => by rw [List.getElem?_set_ne (by omega)]; exact hrs q (by omega)⟩, rfl, rfl, rfl⟩
      · skip
        simp only [Bool.not_eq_false'] at h29
        refine G.region rfl (fun R hR => ?_)
        refine D.pure rfl rfl rfl rfl rfl rfl ?_
        refine D.i64 _ rfl rfl rfl rfl rfl (by omega) (by omega) rfl rfl ?_
        refine D.pure rfl rfl rfl rfl rfl rfl ?_
        refine D.done [(0, [], _), (1, [], _), (5, [], _), (6, [], _)] ⟨rfl, rfl, rfl, rfl, trivial⟩ (hR _ _ _ rfl ?_); clear hR R
        refine G.dropE 0 rfl ?_
        refine G.again (m' := l.length - (j + 1)) (by omega) hle0 (fr' := [(0, [], _), (1, [], _), (5, [], _), (6, [], _)]) ⟨rfl, rfl, rfl, rfl, trivial⟩ ⟨j + 1, i, r, ⟨by omega, by omega, hrl, by rw [htk, if_pos h29, List.append_nil]; exact hrt, fun q hq => hrs q (by omega)⟩, rfl, rfl, rfl⟩
    · skip
      simp only [decide_eq_false_iff_not] at h19
      have hje : j = l.length := by omega
      rw [hje, List.take_length] at hrt
      have hil : i ≤ l.length := by omega
      refine G.region rfl (fun R hR => ?_)
      iterate 2 refine D.pure rfl rfl rfl rfl rfl rfl ?_
      refine D.sliceV i l.length c rfl rfl rfl rfl rfl rfl rfl rfl rfl rfl rfl rfl (fun _ => ⟨.inr ⟨_, rfl⟩, .inl ⟨rfl, rfl⟩, .inl ⟨rfl, rfl⟩, by omega, hlc, Nat.le_refl _⟩) rfl rfl ?_
      refine D.clear 0 (off := i * 3) rfl rfl rfl rfl rfl rfl rfl rfl rfl rfl rfl (by
        by_cases hci : c = i
        · exact .inl (by omega)
        · refine .inr ?_
          rw [if_neg hci]
          simp only [Option.map_some, Addr.add_lit, Nat.zero_add]) (by rw [rows_len rel_len, hrl, ← Nat.add_mul]; exact Nat.mul_le_mul_right _ (by omega)) ?_
      refine D.done [(0, [], _), (5, [], _)] ⟨rfl, rfl, trivial⟩ (hR _ _ _ rfl ?_); clear hR R
      refine G.region rfl (fun R hR => ?_)
      iterate 2 refine D.pure rfl rfl rfl rfl rfl rfl ?_
      refine D.sliceV 0 i c rfl rfl rfl rfl rfl rfl rfl rfl rfl rfl rfl rfl (fun _ => ⟨.inl ⟨rfl, rfl⟩, .inr ⟨_, rfl⟩, .inl ⟨rfl, rfl⟩, by omega, by omega, Nat.le_refl _⟩) rfl rfl ?_
      refine D.pure rfl rfl rfl rfl rfl rfl ?_
      refine D.done [(4, [], _)] ⟨rfl, trivial⟩ (hR _ _ _ rfl ?_); clear hR R
      refine G.freezeArr 0 ((r.take i).map Rel.enc ++ List.replicate (l.length - i) ([.int .i64 0, .string ⟨#[]⟩, .string ⟨#[]⟩] : List Value)) rfl ?_ ?_ (by simp; omega) (fun Cf hlef hsf => G.retN (G.fin1 rfl rfl ?_))
      · unfold storeInto
        have e1 : (zrow ([.int .i64 0, .string ⟨#[]⟩, .string ⟨#[]⟩] : List Value) (l.length - i)).length = (l.length - i) * 3 := zrow_length _ _
        refine Eq.trans (congrArg (· ++ _) (congrArg (· ++ _) (flatten_take_drop rel_len r i).1)) ?_
        rw [List.flatten_append, List.append_assoc]
        congr 1
        rw [← zrow_flatten]
        refine Eq.trans (congrArg (_ ++ ·) (List.drop_eq_nil_of_le ?_)) (List.append_nil _)
        rw [rows_len rel_len, hrl]
        refine Nat.le_trans (Nat.le_of_eq ?_) (Nat.le_of_eq (congrArg (i * 3 + ·) e1.symm))
        rw [← Nat.add_mul]; congr 1; omega
      · intro x hx
        rcases List.mem_append.1 hx with hx | hx
        · obtain ⟨y, _, rfl⟩ := List.mem_map.1 hx; exact rel_len y
        · rw [List.eq_of_mem_replicate hx]; rfl
      refine ⟨rfl, ?_⟩
      have hsub := Sl.sub hsf (l := 0) (h := i) (m := c) (Nat.zero_le _) (by simp; omega) (by omega) (Nat.le_refl _)
      have hti : (((r.take i).map Rel.enc ++ List.replicate (l.length - i) ([.int .i64 0, .string ⟨#[]⟩, .string ⟨#[]⟩] : List Value)).take i).drop 0 = (l.filter fun x => !(p x)).map Rel.enc := by
        rw [List.drop_zero, List.take_append_of_le_length (by simp; omega), List.take_of_length_le (by simp; omega), hrt]
      rw [hti] at hsub
      exact hsub

/-! ### Without -/
def touches (u : Str) (x : Rel) : Bool := (x.upper == u) || (x.lower == u)
theorem closWithout (C : Mem) (x : Rel) (u : Str) (b : Nat) (tb : TypeId) (hb : C b = some (.cells ⟨[strV u]⟩ tb (0, 0))) : Gives cx.P 43 [.agg ⟨x.enc⟩, .pointer (some ⟨b, 0, none⟩)] C (.bool (touches u x)) := by
  have hp1 : PtrTo C (.pointer (some ⟨b, 0, none⟩)) [strV u] := PtrTo.block hb 0
  refine Fn.intro (by kernel_rfl) Tryd.func43 rfl 14 rfl rfl (fun w0 => ?_)
  refine G.region rfl (fun R hR => ?_)
  refine D.box rfl rfl rfl rfl rfl rfl (fun _ => rfl) (fun b2 => ?_)
  refine D.pure rfl rfl rfl rfl rfl rfl ?_
  refine D.done [(1, [], _), (2, [], _)] ⟨rfl, rfl, trivial⟩ (hR _ _ _ rfl ?_); clear hR R
  refine G.region rfl (fun R hR => ?_)
  refine D.pure rfl rfl rfl rfl rfl rfl ?_
  refine D.loadL (.head _) rfl rfl rfl rfl rfl rfl rfl rfl rfl ?_
  refine D.loadP0 hp1 rfl rfl rfl rfl rfl rfl rfl rfl ?_
  iterate 3 refine D.pure rfl rfl rfl rfl rfl rfl ?_
  refine D.loadL (.head _) rfl rfl rfl rfl rfl rfl rfl rfl rfl ?_
  refine D.loadP rfl rfl rfl rfl rfl rfl (fun _ => hp1) rfl rfl rfl ?_
  refine D.pure rfl rfl rfl rfl rfl rfl ?_
  refine D.pickOr rfl rfl rfl rfl rfl rfl rfl rfl ?_
  refine D.pure rfl rfl rfl rfl rfl rfl ?_
  refine D.done [(3, [], _)] ⟨rfl, trivial⟩ (hR _ _ _ rfl ?_); clear hR R
  refine G.retN (G.dropAll (G.fin1 rfl rfl ?_))
  exact ⟨rfl, rfl⟩
def withoutL (l : List Rel) (u : Str) : List Rel := l.filter fun x => !(touches u x)
theorem without_fn (C : Mem) (v : Value) (l : List Rel) (u : Str) (hv : Sl C 3 v (l.map Rel.enc)) (hl : l.length ≤ 1000000) (hok : ∀ x ∈ l, x.short) (hu : u.length < 1000000) : Pur cx.P 25 [v, strV u] C fun r C' =>
    (errNames l [u] ≠ 0 ∧ r = errRes (errNames l [u])) ∨ (errNames l [u] = 0 ∧ ∃ w, r = .tuple #[w, .int .i64 0] ∧ Sl C' 3 w ((withoutL l u).map Rel.enc)) := by
  refine Fn.intro (by kernel_rfl) Tryd.func25 rfl 18 rfl rfl (fun w0 => ?_)
  refine G.region rfl (fun R hR => ?_)
  refine D.boxConst rfl rfl rfl rfl rfl rfl (fun _ => rfl) (fun b3 C3 hle3 hb3 => ?_)
  iterate 2 refine D.pure rfl rfl rfl rfl rfl rfl ?_
  refine D.done [(0, [], _), (3, [], _)] ⟨rfl, rfl, trivial⟩ (hR _ _ _ rfl ?_); clear hR R
  have hp3 : PtrTo C3 (.pointer (some ⟨b3, 0, none⟩)) [strV u] := PtrTo.block hb3 0
  refine G.region rfl (fun R hR => ?_)
  refine D.pure rfl rfl rfl rfl rfl rfl ?_
  refine D.loadP0 hp3 rfl rfl rfl rfl rfl rfl rfl rfl ?_
  refine D.buildSlice [encS u] rfl rfl rfl rfl rfl rfl rfl rfl rfl rfl rfl rfl (fun _ => rfl) (fun p9 C9 hle9 hs9 => ?_)
  refine D.gives2 (checkNames_spec _ _ _ l [u] ((hv.mono hle3).mono hle9) hok hs9 (by simp) (short1 hu)) rfl rfl rfl rfl rfl rfl rfl (fun _ => rfl) ?_
  refine D.pure rfl rfl rfl rfl rfl rfl ?_
  refine D.done [(0, [], _), (3, [], _), (6, [], _)] ⟨rfl, rfl, rfl, trivial⟩ (hR _ _ _ rfl ?_); clear hR R
  refine G.region rfl (fun R hR => ?_)
  iterate 2 refine D.pure rfl rfl rfl rfl rfl rfl ?_
  refine D.done [(0, [], _), (3, [], _), (6, [], _), (12, [], _)] ⟨rfl, rfl, rfl, rfl, trivial⟩ (hR _ _ _ rfl ?_); clear hR R
  refine G.cond rfl (fun h12 => ?_) (fun h12 => ?_)
  · skip
    have h12' : errNames l [u] ≠ 0 := by simpa using h12
    refine G.region rfl (fun R hR => ?_)
    iterate 3 refine D.pure rfl rfl rfl rfl rfl rfl ?_
    refine D.done [(4, [], _), (5, [], _)] ⟨rfl, rfl, trivial⟩ (hR _ _ _ rfl ?_); clear hR R
    refine G.retN (G.dropAll (G.fin2 rfl rfl rfl ?_))
    exact ⟨rfl, .inl ⟨h12', rfl⟩⟩
  · skip
    have h12' : errNames l [u] = 0 := by simpa using h12
    refine G.regionO [(1, 3), (3, 3)] rfl (fun R hR => ?_)
    refine D.pure rfl rfl rfl rfl rfl rfl ?_
    refine D.call (clone_rel _ _ l ((hv.mono hle3).mono hle9) hl) rfl (.inl rfl) rfl rfl rfl rfl rfl rfl (List.Perm.refl _) (fun _ => rfl) (fun v15 C15 L15 hle15 hq15 => ?_)
    subst hq15
    refine D.pure rfl rfl rfl rfl rfl rfl ?_
    refine D.call (deleteFunc_rel _ _ l _ [.pointer (some ⟨b3, 0, none⟩)] (touches u) hl (fun x _ C' hle => closWithout C' x u b3 _ (((hle9.trans hle15).trans hle) _ _ hb3))) rfl (.inr (by decide)) rfl rfl rfl rfl rfl rfl (List.Perm.refl _) (fun _ => rfl) (fun v17 C17 L17 hle17 hq17 => ?_)
    obtain ⟨rfl, hsw⟩ := hq17
    iterate 2 refine D.pure rfl rfl rfl rfl rfl rfl ?_
    refine D.done [(4, [], _), (5, [], _)] ⟨rfl, rfl, trivial⟩ (hR _ _ _ rfl ?_); clear hR R
    refine G.retN (G.dropAll (G.fin2 rfl rfl rfl ?_))
    exact ⟨rfl, .inr ⟨h12', _, rfl, hsw⟩⟩

/-! ### Rename -/
def renS (a b s : Str) : Str := if s = a then b else s
def ren (a b : Str) (x : Rel) : Rel := ⟨x.kind, renS a b x.upper, renS a b x.lower⟩
def renQ (a b : Str) (q : Nat) (x : Rel) : Rel := ⟨x.kind, if 0 < q then renS a b x.upper else x.upper, if 1 < q then renS a b x.lower else x.lower⟩
def conf (a b : Str) (x : Rel) : Bool := (ren a b x).upper == (ren a b x).lower
def renameL (l : List Rel) (a b : Str) : List Rel := l.map (ren a b)

theorem row_cell {α : Type} {enc : α → List Value} {s : Nat} (hk : ∀ x, (enc x).length = s) {l : List α} {i j : Nat} {x : α} {v : Value} (h : l[i]? = some x) (hj : (enc x)[j]? = some v) : ((l.map enc).flatten.drop (i * s + j)).take 1 = [v] := by
  have h1 := getElem?_flatten_rows (rows := l.map enc) (s := s) (fun r hr => by obtain ⟨y, _, rfl⟩ := List.mem_map.1 hr; exact hk y) (i := i) (x := enc x) (by rw [List.getElem?_map, h]; rfl) hj
  obtain ⟨h2, h3⟩ := List.getElem?_eq_some_iff.1 h1
  rw [List.drop_eq_getElem_cons h2, h3]
  rfl

set_option maxHeartbeats 1000000 in
theorem rename_fn (C : Mem) (v : Value) (l : List Rel) (a b : Str) (hv : Sl C 3 v (l.map Rel.enc)) (hl : l.length ≤ 1000000) (hok : ∀ x ∈ l, x.short) (ha : a.length < 1000000) (hb : b.length < 1000000) : Pur cx.P 24 [v, strV a, strV b] C fun r C' =>
    (errNames l [a, b] ≠ 0 ∧ r = errRes (errNames l [a, b])) ∨ (errNames l [a, b] = 0 ∧ l.any (conf a b) = true ∧ r = errRes 14) ∨ (errNames l [a, b] = 0 ∧ l.any (conf a b) = false ∧ ∃ w, r = .tuple #[w, .int .i64 0] ∧ Sl C' 3 w ((renameL l a b).map Rel.enc)) := by
  refine Fn.intro (by kernel_rfl) Tryd.func24 rfl 64 rfl rfl (fun w0 => ?_)
  refine G.region rfl (fun R hR => ?_)
  iterate 2 refine D.pure rfl rfl rfl rfl rfl rfl ?_
  refine D.done [(0, [], _), (1, [], _), (2, [], _)] ⟨rfl, rfl, rfl, trivial⟩ (hR _ _ _ rfl ?_); clear hR R
  refine G.region rfl (fun R hR => ?_)
  iterate 3 refine D.pure rfl rfl rfl rfl rfl rfl ?_
  refine D.buildSlice [encS a, encS b] rfl rfl rfl rfl rfl rfl rfl rfl rfl rfl rfl rfl (fun _ => rfl) (fun p16 C16 hle16 hs16 => ?_)
  refine D.gives2 (checkNames_spec _ _ _ l [a, b] (hv.mono hle16) hok hs16 (by simp) (short2 ha hb)) rfl rfl rfl rfl rfl rfl rfl (fun _ => rfl) ?_
  refine D.pure rfl rfl rfl rfl rfl rfl ?_
  refine D.done [(0, [], _), (1, [], _), (2, [], _), (8, [], _)] ⟨rfl, rfl, rfl, rfl, trivial⟩ (hR _ _ _ rfl ?_); clear hR R
  refine G.region rfl (fun R hR => ?_)
  iterate 2 refine D.pure rfl rfl rfl rfl rfl rfl ?_
  refine D.done [(0, [], _), (1, [], _), (2, [], _), (8, [], _), (19, [], _)] ⟨rfl, rfl, rfl, rfl, rfl, trivial⟩ (hR _ _ _ rfl ?_); clear hR R
  refine G.cond rfl (fun h19 => ?_) (fun h19 => ?_)
  · skip
    have h19' : errNames l [a, b] ≠ 0 := by simpa using h19
    refine G.region rfl (fun R hR => ?_)
    iterate 3 refine D.pure rfl rfl rfl rfl rfl rfl ?_
    refine D.done [(6, [], _), (7, [], _)] ⟨rfl, rfl, trivial⟩ (hR _ _ _ rfl ?_); clear hR R
    refine G.retN (G.dropAll (G.fin2 rfl rfl rfl ?_))
    exact ⟨rfl, .inl ⟨h19', rfl⟩⟩
  · skip
    have h19' : errNames l [a, b] = 0 := by simpa using h19
    refine G.regionO [(1, 3)] rfl (fun R hR => ?_)
    refine D.pure rfl rfl rfl rfl rfl rfl ?_
    refine D.call (clone_rel _ _ l (hv.mono hle16) hl) rfl (.inl rfl) rfl rfl rfl rfl rfl rfl (List.Perm.refl _) (fun _ => rfl) (fun v22 C22 L22 hle22 hq22 => ?_)
    refine D.pure rfl rfl rfl rfl rfl rfl ?_
    refine D.done [(1, [], _), (2, [], _), (9, [], _)] ⟨rfl, rfl, rfl, trivial⟩ (hR _ _ _ rfl ?_); clear hR R
    subst hq22
    refine G.form (.head _) (fun hform hxl => ?_)
    obtain ⟨A, c0, hv22⟩ : ∃ A c0, v22 = .slice A l.length c0 := by
      rcases hform with ⟨h1, h2⟩ | ⟨g, c, h1, _⟩
      · exact ⟨none, 0, by rw [h1, h2]⟩
      · exact ⟨_, c, h1⟩
    subst hv22
    refine G.region rfl (fun R hR => ?_)
    iterate 3 refine D.pure rfl rfl rfl rfl rfl rfl ?_
    refine D.done [(1, [], _), (2, [], _), (9, [], _), (24, [], _), (25, [], _)] ⟨rfl, rfl, rfl, rfl, rfl, trivial⟩ (hR _ _ _ rfl ?_); clear hR R
    refine G.loop (fun fr C' L' μ => ∃ (i : Nat), (i ≤ l.length ∧ (l.take i).any (conf a b) = false) ∧ fr = [(1, [], strV a), (2, [], strV b), (9, [], .slice A l.length c0), (24, [], .int .i64 l.length), (25, [], .int .i64 i)] ∧ L' = [.arr (.slice A l.length c0) 33 3 l.length (((l.take i).map (ren a b) ++ l.drop i).map Rel.enc).flatten] ∧ μ = l.length - i) (fr' := [(1, [], _), (2, [], _), (9, [], _), (24, [], _), (25, [], _)]) ⟨rfl, rfl, rfl, rfl, rfl, trivial⟩ ⟨0, ⟨Nat.zero_le _, by simp⟩, rfl, rfl, rfl⟩ (fun fr C0' L0' m hle0 hI => ?_)
    obtain ⟨i, ⟨hi, hnc⟩, rfl, rfl, rfl⟩ := hI
    refine G.region rfl (fun R hR => ?_)
    refine D.pure rfl rfl rfl rfl rfl rfl ?_
    refine D.done [(1, [], _), (2, [], _), (9, [], _), (24, [], _), (25, [], _), (26, [], _)] ⟨rfl, rfl, rfl, rfl, rfl, rfl, trivial⟩ (hR _ _ _ rfl ?_); clear hR R
    refine G.cond rfl (fun h26 => ?_) (fun h26 => ?_)
    · skip
      simp only [decide_eq_true_eq] at h26
      have hil : i < l.length := by omega
      obtain ⟨x, hx⟩ : ∃ x, l[i]? = some x := ⟨l[i], List.getElem?_eq_getElem hil⟩
      obtain ⟨g, c, hgc⟩ : ∃ g c, (Value.slice A l.length c0) = .slice (some ⟨g, 0, none⟩) l.length c := by
        rcases hform with ⟨h1, h2⟩ | ⟨g, c, h1, _⟩
        · omega
        · exact ⟨g, c, h1⟩
      obtain ⟨rfl, rfl⟩ : some (⟨g, 0, none⟩ : Addr) = A ∧ c = c0 := by cases hgc; exact ⟨rfl, rfl⟩
      have hrk := map_at (f := ren a b) hx
      have hstep := map_step (f := ren a b) hx
      have hlen := map_len (f := ren a b) l i
      have hfit : i * 3 + 3 ≤ l.length * 3 := by have h9 : (i + 1) * 3 ≤ l.length * 3 := Nat.mul_le_mul_right _ (by omega); omega
      obtain ⟨R, hR0⟩ : ∃ R, (l.take i).map (ren a b) ++ l.drop i = R := ⟨_, rfl⟩
      rw [hR0] at hrk hstep hlen
      have hgetq : ∀ q, (R.set i (renQ a b q x))[i]? = some (renQ a b q x) := fun q => List.getElem?_set_self (by rw [hlen]; exact hil)
      refine G.region rfl (fun R hR => ?_)
      iterate 2 refine D.pure rfl rfl rfl rfl rfl rfl ?_
      refine D.done [(1, [], _), (2, [], _), (9, [], _), (10, [], _), (24, [], _), (25, [], _)] ⟨rfl, rfl, rfl, rfl, rfl, rfl, trivial⟩ (hR _ _ _ rfl ?_); clear hR R
      refine G.draw [0, 1, 2, 3, 4, 5, 6, 7, 10, 8, 9] [] rfl (by kernel_rfl) (fun R hB hR => ?_)
      iterate 2 refine D.pure rfl rfl rfl rfl rfl rfl ?_
      refine D.indexS (i * 3) rfl rfl rfl rfl rfl rfl rfl rfl rfl rfl (fun _ => ⟨by omega, by omega, rfl⟩) rfl rfl ?_
      iterate 3 refine D.pure rfl rfl rfl rfl rfl rfl ?_
      refine D.indexS (i * 3) rfl rfl rfl rfl rfl rfl rfl rfl rfl rfl (fun _ => ⟨by omega, by omega, rfl⟩) rfl rfl ?_
      iterate 2 refine D.pure rfl rfl rfl rfl rfl rfl ?_
      refine D.buildSliceV [[.pointer (some ⟨g, i * 3 + 1, none⟩)], [.pointer (some ⟨g, i * 3 + 2, none⟩)]] rfl rfl rfl rfl rfl rfl rfl rfl rfl rfl rfl rfl (fun _ => rfl) (fun b36 C36 hle36 hs36 => ?_)
      refine D.pure rfl rfl rfl rfl rfl rfl ?_
      refine D.done [(1, [], _), (2, [], _), (9, [], _), (10, [], _), (24, [], _), (25, [], _), (36, [], _), (37, [], _), (38, [], _)] ⟨rfl, rfl, rfl, rfl, rfl, rfl, rfl, rfl, rfl, trivial⟩ (hR _ _ _ rfl ?_); clear hR hB R
      refine G.eqL (L' := [.arr (.slice (some ⟨g, 0, none⟩) l.length c) 33 3 l.length ((R.set i (renQ a b 0 x)).map Rel.enc).flatten]) (by
        have e : renQ a b 0 x = x := by simp [renQ]
        have e2 : R.set i x = R := by
          apply List.ext_getElem?
          intro j
          rw [List.getElem?_set]
          split
          · rename_i e; subst e; rw [if_pos (by rw [hlen]; exact hil), hrk]
          · rfl
        rw [e, e2, ← hR0]) ?_
      refine G.loop (fun fr C' L' μ => ∃ (q : Nat), (q ≤ 2) ∧ fr = [(1, [], strV a), (2, [], strV b), (9, [], .slice (some ⟨g, 0, none⟩) l.length c), (10, [], .int .i64 i), (24, [], .int .i64 l.length), (25, [], .int .i64 i), (36, [], .slice (some ⟨b36, 0, none⟩) 2 2), (37, [], .int .i64 2), (38, [], .int .i64 q)] ∧ L' = [.arr (.slice (some ⟨g, 0, none⟩) l.length c) 33 3 l.length ((R.set i (renQ a b q x)).map Rel.enc).flatten] ∧ μ = 2 - q) (fr' := [(1, [], _), (2, [], _), (9, [], _), (10, [], _), (24, [], _), (25, [], _), (36, [], _), (37, [], _), (38, [], _)]) ⟨rfl, rfl, rfl, rfl, rfl, rfl, rfl, rfl, rfl, trivial⟩ ⟨0, by omega, rfl, rfl, rfl⟩ (fun fr C1' L1' m hle1 hI => ?_)
      obtain ⟨q, hq2, rfl, rfl, rfl⟩ := hI
      refine G.region rfl (fun R hR => ?_)
      refine D.pure rfl rfl rfl rfl rfl rfl ?_
      refine D.done [(1, [], _), (2, [], _), (9, [], _), (10, [], _), (24, [], _), (25, [], _), (36, [], _), (37, [], _), (38, [], _), (39, [], _)] ⟨rfl, rfl, rfl, rfl, rfl, rfl, rfl, rfl, rfl, rfl, trivial⟩ (hR _ _ _ rfl ?_); clear hR R
      refine G.cond rfl (fun h39 => ?_) (fun h39 => ?_)
      · skip
        simp only [decide_eq_true_eq] at h39
        have hs36' := hs36.mono hle1
        have hrow36 : ([[.pointer (some ⟨g, i * 3 + 1, none⟩)], [.pointer (some ⟨g, i * 3 + 2, none⟩)]] : List (List Value))[q]? = some [.pointer (some ⟨g, i * 3 + (q + 1), none⟩)] := by
          have : q = 0 ∨ q = 1 := by omega
          rcases this with rfl | rfl <;> rfl
        obtain ⟨sq, hsq⟩ : ∃ s : Str, s = (if q = 0 then x.upper else x.lower) := ⟨_, rfl⟩
        have hcell : (Rel.enc (renQ a b q x))[q + 1]? = some (strV sq) := by
          have : q = 0 ∨ q = 1 := by omega
          rcases this with rfl | rfl <;> subst hsq <;> simp [renQ, Rel.enc]
        have hfitq : i * 3 + (q + 1) + 1 ≤ ((R.set i (renQ a b q x)).map Rel.enc).flatten.length := by
          rw [rows_len rel_len, List.length_set, hlen]; omega
        refine G.region rfl (fun R hR => ?_)
        refine D.index0 hs36' rfl rfl rfl rfl rfl rfl rfl rfl rfl rfl (by omega) hrow36 (fun _ => rfl) (fun p40 hp40 => ?_)
        refine D.loadP0 hp40 rfl rfl rfl rfl rfl rfl rfl rfl ?_
        refine D.pure rfl rfl rfl rfl rfl rfl ?_
        refine D.done [(1, [], _), (2, [], _), (9, [], _), (10, [], _), (12, [], _), (24, [], _), (25, [], _), (36, [], _), (37, [], _), (38, [], _)] ⟨rfl, rfl, rfl, rfl, rfl, rfl, rfl, rfl, rfl, rfl, trivial⟩ (hR _ _ _ rfl ?_); clear hR R
        refine G.region rfl (fun R hR => ?_)
        iterate 2 refine D.pure rfl rfl rfl rfl rfl rfl ?_
        refine D.loadArr (.head _) rfl rfl rfl rfl rfl rfl (fun _ => by rw [row_cell rel_len (hgetq q) hcell]; rfl) rfl rfl ?_
        iterate 2 refine D.pure rfl rfl rfl rfl rfl rfl ?_
        refine D.done [(1, [], _), (2, [], _), (9, [], _), (10, [], _), (12, [], _), (24, [], _), (25, [], _), (36, [], _), (37, [], _), (38, [], _), (46, [], (.bool (sq == a)))] ⟨rfl, rfl, rfl, rfl, rfl, rfl, rfl, rfl, rfl, rfl, rfl, trivial⟩ (hR _ _ _ rfl ?_); clear hR R
        refine G.cond rfl (fun h46 => ?_) (fun h46 => ?_)
        · skip
          have h46' : sq = a := by simpa using h46
          have hset : storeInto (Rel.enc (renQ a b q x)) [strV b] (q + 1) = Rel.enc (renQ a b (q + 1) x) := by
            have : q = 0 ∨ q = 1 := by omega
            rcases this with rfl | rfl
            · have e : x.upper = a := by rw [← h46', hsq]; rfl
              simp [renQ, Rel.enc, storeInto, renS, e]
            · have e : x.lower = a := by rw [← h46', hsq]; rfl
              simp [renQ, Rel.enc, storeInto, renS, e]
          have hw : storeInto ((R.set i (renQ a b q x)).map Rel.enc).flatten [strV b] (i * 3 + (q + 1)) = ((R.set i (renQ a b (q + 1) x)).map Rel.enc).flatten := by
            rw [row_part rel_len (hgetq q) hset (by simp; omega), List.set_set]
          refine G.region rfl (fun R hR => ?_)
          iterate 3 refine D.pure rfl rfl rfl rfl rfl rfl ?_
          refine D.storeArr (j := 0) rfl rfl rfl rfl rfl rfl rfl rfl rfl rfl rfl (by simp only [List.length_singleton]; exact hfitq) ?_
          refine D.done [(1, [], _), (2, [], _), (9, [], _), (10, [], _), (24, [], _), (25, [], _), (36, [], _), (37, [], _), (38, [], _)] ⟨rfl, rfl, rfl, rfl, rfl, rfl, rfl, rfl, rfl, trivial⟩ (hR _ _ _ rfl ?_); clear hR R
          refine G.region rfl (fun R hR => ?_)
          refine D.i64 _ rfl rfl rfl rfl rfl (by omega) (by omega) rfl rfl ?_
          refine D.pure rfl rfl rfl rfl rfl rfl ?_
          refine D.done [(1, [], _), (2, [], _), (9, [], _), (10, [], _), (24, [], _), (25, [], _), (36, [], _), (37, [], _), (38, [], _)] ⟨rfl, rfl, rfl, rfl, rfl, rfl, rfl, rfl, rfl, trivial⟩ (hR _ _ _ rfl ?_); clear hR R
          refine G.eqL (L' := [.arr (.slice (some ⟨g, 0, none⟩) l.length c) 33 3 l.length ((R.set i (renQ a b (q + 1) x)).map Rel.enc).flatten]) (by rw [← hw]; rfl) ?_
          refine G.again (m' := 2 - (q + 1)) (by omega) hle1 (fr' := [(1, [], _), (2, [], _), (9, [], _), (10, [], _), (24, [], _), (25, [], _), (36, [], _), (37, [], _), (38, [], _)]) ⟨rfl, rfl, rfl, rfl, rfl, rfl, rfl, rfl, rfl, trivial⟩ ⟨q + 1, by omega, rfl, rfl, rfl⟩
        · skip
          have h46' : ¬ sq = a := by simpa using h46
          have hsame : renQ a b (q + 1) x = renQ a b q x := by
            have : q = 0 ∨ q = 1 := by omega
            rcases this with rfl | rfl
            · have e : ¬ x.upper = a := by intro e; exact h46' (by rw [hsq]; exact e)
              simp [renQ, renS, e]
            · have e : ¬ x.lower = a := by intro e; exact h46' (by rw [hsq]; exact e)
              simp [renQ, renS, e]
          refine G.region rfl (fun R hR => ?_)
          refine D.i64 _ rfl rfl rfl rfl rfl (by omega) (by omega) rfl rfl ?_
          refine D.pure rfl rfl rfl rfl rfl rfl ?_
          refine D.done [(1, [], _), (2, [], _), (9, [], _), (10, [], _), (24, [], _), (25, [], _), (36, [], _), (37, [], _), (38, [], _)] ⟨rfl, rfl, rfl, rfl, rfl, rfl, rfl, rfl, rfl, trivial⟩ (hR _ _ _ rfl ?_); clear hR R
          refine G.eqL (L' := [.arr (.slice (some ⟨g, 0, none⟩) l.length c) 33 3 l.length ((R.set i (renQ a b (q + 1) x)).map Rel.enc).flatten]) (by rw [hsame]) ?_
          refine G.again (m' := 2 - (q + 1)) (by omega) hle1 (fr' := [(1, [], _), (2, [], _), (9, [], _), (10, [], _), (24, [], _), (25, [], _), (36, [], _), (37, [], _), (38, [], _)]) ⟨rfl, rfl, rfl, rfl, rfl, rfl, rfl, rfl, rfl, trivial⟩ ⟨q + 1, by omega, rfl, rfl, rfl⟩
      · skip
        simp only [decide_eq_false_iff_not] at h39
        have hq : q = 2 := by omega
        subst hq
        have e2 : renQ a b 2 x = ren a b x := by simp [renQ, ren]
        have hg2 : (R.set i (ren a b x))[i]? = some (ren a b x) := List.getElem?_set_self (by rw [hlen]; exact hil)
        refine G.eqL (L' := [.arr (.slice (some ⟨g, 0, none⟩) l.length c) 33 3 l.length ((R.set i (ren a b x)).map Rel.enc).flatten]) (by rw [e2]) ?_
        refine G.draw [0, 1, 2, 3, 4, 5, 6, 7, 8, 9, 10] [] rfl (by kernel_rfl) (fun R hB hR => ?_)
        iterate 2 refine D.pure rfl rfl rfl rfl rfl rfl ?_
        refine D.indexS (i * 3) rfl rfl rfl rfl rfl rfl rfl rfl rfl rfl (fun _ => ⟨by omega, by omega, rfl⟩) rfl rfl ?_
        refine D.pure rfl rfl rfl rfl rfl rfl ?_
        refine D.loadArr (.head _) rfl rfl rfl rfl rfl rfl (fun _ => (by rw [row_cell (j := 1) rel_len hg2 rfl]; rfl)) rfl rfl ?_
        iterate 2 refine D.pure rfl rfl rfl rfl rfl rfl ?_
        refine D.indexS (i * 3) rfl rfl rfl rfl rfl rfl rfl rfl rfl rfl (fun _ => ⟨by omega, by omega, rfl⟩) rfl rfl ?_
        refine D.pure rfl rfl rfl rfl rfl rfl ?_
        refine D.loadArr (.head _) rfl rfl rfl rfl rfl rfl (fun _ => (by rw [row_cell (j := 2) rel_len hg2 rfl]; rfl)) rfl rfl ?_
        refine D.pure rfl rfl rfl rfl rfl rfl ?_
        refine D.done [(1, [], _), (2, [], _), (9, [], _), (24, [], _), (25, [], _), (61, [], (.bool (conf a b x)))] ⟨rfl, rfl, rfl, rfl, rfl, rfl, trivial⟩ (hR _ _ _ rfl ?_); clear hR hB R
        refine G.cond rfl (fun h61 => ?_) (fun h61 => ?_)
        · skip
          refine G.region rfl (fun R hR => ?_)
          iterate 2 refine D.pure rfl rfl rfl rfl rfl rfl ?_
          refine D.done [(6, [], _), (7, [], _)] ⟨rfl, rfl, trivial⟩ (hR _ _ _ rfl ?_); clear hR R
          refine G.retN (G.dropAll (G.fin2 rfl rfl rfl ?_))
          refine ⟨rfl, .inr (.inl ⟨h19', ?_, rfl⟩)⟩
          exact List.any_eq_true.2 ⟨x, List.mem_of_getElem? hx, h61⟩
        · skip
          refine G.region rfl (fun R hR => ?_)
          refine D.i64 _ rfl rfl rfl rfl rfl (by omega) (by omega) rfl rfl ?_
          refine D.pure rfl rfl rfl rfl rfl rfl ?_
          refine D.done [(1, [], _), (2, [], _), (9, [], _), (24, [], _), (25, [], _)] ⟨rfl, rfl, rfl, rfl, rfl, trivial⟩ (hR _ _ _ rfl ?_); clear hR R
          refine G.eqL (L' := [.arr (.slice (some ⟨g, 0, none⟩) l.length c) 33 3 l.length (((l.take (i + 1)).map (ren a b) ++ l.drop (i + 1)).map Rel.enc).flatten]) (by rw [← hstep]) ?_
          refine G.again (m' := l.length - (i + 1)) (by omega) (hle0.trans (hle36.trans hle1)) (fr' := [(1, [], _), (2, [], _), (9, [], _), (24, [], _), (25, [], _)]) ⟨rfl, rfl, rfl, rfl, rfl, trivial⟩ ⟨i + 1, ⟨by omega, by rw [List.take_add_one, hx, List.any_append, hnc]; simp [h61]⟩, rfl, rfl, rfl⟩
    · skip
      simp only [decide_eq_false_iff_not] at h26
      have hie : i = l.length := by omega
      subst hie
      rw [List.take_length] at hnc
      refine G.eqL (L' := [.arr (.slice A l.length c0) 33 3 l.length ((renameL l a b).map Rel.enc).flatten]) (by simp [renameL]) ?_
      refine G.region rfl (fun R hR => ?_)
      iterate 3 refine D.pure rfl rfl rfl rfl rfl rfl ?_
      refine D.done [(6, [], _), (7, [], _)] ⟨rfl, rfl, trivial⟩ (hR _ _ _ rfl ?_); clear hR R
      refine G.freezeArr 0 ((renameL l a b).map Rel.enc) rfl rfl (by intro r hr; obtain ⟨y, _, rfl⟩ := List.mem_map.1 hr; exact rel_len y) (by simp [renameL]) (fun Cf hlef hsf => G.retN (G.fin2 rfl rfl rfl ?_))
      exact ⟨rfl, .inr (.inr ⟨h19', hnc, _, rfl, hsf⟩)⟩
end Go.Proofs.YtjmfjobfmdhbfaaDoor
