/- Laws that the proofs of this seat share, part 4. -/
import Derived.Test.YtddjibfmnkcalaaDoorG3
import Derived.Test.YtddjibfmnkcalaaDoorShelf
import Derived.TacticsIn
import Derived.OrdersIn
import Derived.RangeFuncCalls
import Derived.RangeFuncSeq
namespace Go.Proofs.YtddjibfmnkcalaaDoor
open Go Go.Jog
set_option maxRecDepth 100000

theorem Sl.pre {C : Mem} {k : Nat} {A : Option Addr} {len cap : Nat} {xs : List (List Value)} (hs : Sl C k (.slice A len cap) xs) {h : Nat} (hh : h ≤ xs.length) (hc : h ≤ cap) :
    Sl C k (.slice (if cap = 0 then A else A.map (·.add (0 * k))) (h - 0) (cap - 0)) (xs.take h) := by
  have := Sl.sub hs (l := 0) (h := h) (m := cap) (Nat.zero_le _) hh hc (Nat.le_refl _)
  rw [List.drop_zero] at this
  exact this
theorem topo_noBack {l : List Rel} (hl : l.length ≤ 100000) {n : Nat} {o : List Nat} (h : TopoLeast (arcsOf l) n o) (hn : n = (unitsL l).length) : ¬ Back (arcsOf l) := fun ⟨k, w, h1, h2⟩ => by
  subst hn
  exact h.1.acyc (gok_of hl).below k w h1 h2
def FirstRes (l : List Rel) (r : Value) : Prop :=
  (errU l ≠ 0 ∧ r = .tuple #[.int .i64 0, .bool false, .int .i64 (errU l)]) ∨
  (errU l = 0 ∧ (∀ j, j < l.length → ¬ Back (arcsOf (l.take (j + 1)))) ∧ r = .tuple #[.int .i64 0, .bool false, .int .i64 0]) ∨
  (errU l = 0 ∧ ∃ i, i < l.length ∧ Back (arcsOf (l.take (i + 1))) ∧ (∀ j, j < i → ¬ Back (arcsOf (l.take (j + 1)))) ∧ r = .tuple #[.int .i64 i, .bool true, .int .i64 0])
theorem first_fn (C : Mem) (v : Value) (l : List Rel) (hv : Sl C 3 v (l.map Rel.enc)) (hl : l.length ≤ 100000) (hsh : ∀ x ∈ l, x.short) : Pur cx.P 27 [v] C fun r _ => FirstRes l r := by
  obtain ⟨A, c, rfl, hlc, _⟩ := id hv
  simp only [List.length_map] at hv hlc ⊢
  refine Fn.intro (by kernel_rfl) Tryd.func27 rfl 32 rfl rfl (fun w0 => ?_)
  refine G.region rfl (fun R hR => ?_)
  iterate 3 refine D.pure rfl rfl rfl rfl rfl rfl ?_
  refine D.done [(0, [], _)] ⟨rfl, trivial⟩ (hR _ _ _ rfl ?_); clear hR R
  refine G.region rfl (fun R hR => ?_)
  refine D.pure rfl rfl rfl rfl rfl rfl ?_
  refine D.gives2 (check_fn _ _ l hv hl hsh) rfl rfl rfl rfl rfl rfl rfl (fun _ => rfl) ?_
  refine D.pure rfl rfl rfl rfl rfl rfl ?_
  refine D.done [(0, [], _), (5, [], _)] ⟨rfl, rfl, trivial⟩ (hR _ _ _ rfl ?_); clear hR R
  refine G.region rfl (fun R hR => ?_)
  iterate 2 refine D.pure rfl rfl rfl rfl rfl rfl ?_
  refine D.done [(0, [], _), (5, [], _), (12, [], _)] ⟨rfl, rfl, rfl, trivial⟩ (hR _ _ _ rfl ?_); clear hR R
  refine G.cond rfl (fun h12 => ?_) (fun h12 => ?_)
  · skip
    have h12' : errU l ≠ 0 := by simpa using h12
    refine G.region rfl (fun R hR => ?_)
    iterate 4 refine D.pure rfl rfl rfl rfl rfl rfl ?_
    refine D.done [(2, [], _), (3, [], _), (4, [], _)] ⟨rfl, rfl, rfl, trivial⟩ (hR _ _ _ rfl ?_); clear hR R
    refine G.retN (G.dropAll (G.fin3 rfl rfl rfl rfl ?_))
    exact ⟨rfl, .inl ⟨h12', rfl⟩⟩
  · skip
    have h12' : errU l = 0 := by simpa using h12
    refine G.region rfl (fun R hR => ?_)
    iterate 3 refine D.pure rfl rfl rfl rfl rfl rfl ?_
    refine D.done [(0, [], _), (15, [], _), (16, [], _)] ⟨rfl, rfl, rfl, trivial⟩ (hR _ _ _ rfl ?_); clear hR R
    refine G.loop (fun fr C' L' μ => ∃ (k : Nat), (k ≤ l.length ∧ ∀ j, j < k → ¬ Back (arcsOf (l.take (j + 1)))) ∧ fr = [(0, [], .slice A l.length c), (15, [], .int .i64 l.length), (16, [], .int .i64 k)] ∧ L' = [] ∧ μ = l.length - k) (fr' := [(0, [], _), (15, [], _), (16, [], _)]) ⟨rfl, rfl, rfl, trivial⟩ ⟨0, ⟨Nat.zero_le _, fun j hj => absurd hj (by omega)⟩, rfl, rfl, rfl⟩ (fun fr C0' L0' m hle0 hI => ?_)
    obtain ⟨k, ⟨hk, hz⟩, rfl, rfl, rfl⟩ := hI
    refine G.region rfl (fun R hR => ?_)
    refine D.pure rfl rfl rfl rfl rfl rfl ?_
    refine D.done [(0, [], _), (15, [], _), (16, [], _), (17, [], _)] ⟨rfl, rfl, rfl, rfl, trivial⟩ (hR _ _ _ rfl ?_); clear hR R
    refine G.cond rfl (fun h17 => ?_) (fun h17 => ?_)
    · skip
      simp only [decide_eq_true_eq] at h17
      have hkl : k < l.length := by omega
      have hpre := Sl.pre (hv.mono (by (repeat (first | exact Mem.le.refl _ | assumption | (apply Mem.le.trans; rotate_left; assumption))) : C.le C0')) (h := k + 1) (by rw [List.length_map]; omega) (by omega)
      rw [← List.map_take] at hpre
      have hl2 : (l.take (k + 1)).length ≤ 100000 := by rw [List.length_take]; omega
      refine G.region rfl (fun R hR => ?_)
      iterate 2 refine D.pure rfl rfl rfl rfl rfl rfl ?_
      refine D.done [(0, [], _), (6, [], _), (15, [], _), (16, [], _)] ⟨rfl, rfl, rfl, rfl, trivial⟩ (hR _ _ _ rfl ?_); clear hR R
      refine G.region rfl (fun R hR => ?_)
      iterate 2 refine D.pure rfl rfl rfl rfl rfl rfl ?_
      refine D.i64 (((k + 1 : Nat) : Int)) rfl rfl rfl rfl (by omega) (by omega) (by omega) rfl rfl ?_
      refine D.sliceV 0 (k + 1) c rfl rfl rfl rfl rfl rfl rfl rfl rfl rfl rfl rfl (fun _ => ⟨.inl ⟨rfl, rfl⟩, .inr ⟨_, rfl⟩, .inl ⟨rfl, rfl⟩, Nat.zero_le _, by omega, Nat.le_refl _⟩) rfl rfl ?_
      refine D.callP (build_fn _ _ (l.take (k + 1)) hpre hl2) rfl rfl rfl rfl rfl rfl rfl (fun _ => rfl) (fun v24 C24 hle24 hq24 => ?_)
      refine D.callP (sorted_fn _ _ _ _ hq24 (gok_of hl2)) rfl rfl rfl rfl rfl rfl rfl (fun _ => rfl) (fun v25 C25 hle25 hq25 => ?_)
      obtain ⟨vo, o, ok, rfl, hso, hol, hon, hout⟩ := hq25
      iterate 5 refine D.pure rfl rfl rfl rfl rfl rfl ?_
      refine D.done [(0, [], _), (6, [], _), (8, [], _), (15, [], _), (16, [], _)] ⟨rfl, rfl, rfl, rfl, rfl, trivial⟩ (hR _ _ _ rfl ?_); clear hR R
      refine G.region rfl (fun R hR => ?_)
      iterate 2 refine D.pure rfl rfl rfl rfl rfl rfl ?_
      refine D.done [(0, [], _), (6, [], _), (15, [], _), (16, [], _), (29, [], _)] ⟨rfl, rfl, rfl, rfl, rfl, trivial⟩ (hR _ _ _ rfl ?_); clear hR R
      refine G.cond rfl (fun h29 => ?_) (fun h29 => ?_)
      · skip
        have h29' : ok = false := by simpa using h29
        subst h29'
        refine G.region rfl (fun R hR => ?_)
        iterate 4 refine D.pure rfl rfl rfl rfl rfl rfl ?_
        refine D.done [(2, [], _), (3, [], _), (4, [], _)] ⟨rfl, rfl, rfl, trivial⟩ (hR _ _ _ rfl ?_); clear hR R
        refine G.retN (G.dropAll (G.fin3 rfl rfl rfl rfl ?_))
        refine ⟨rfl, .inr (.inr ⟨h12', k, hkl, ?_, hz, rfl⟩)⟩
        rcases hout with ⟨h, _⟩ | ⟨_, h⟩
        · cases h
        · exact h
      · skip
        have h29' : ok = true := by simpa using h29
        subst h29'
        have hnb : ¬ Back (arcsOf (l.take (k + 1))) := by
          rcases hout with ⟨_, h⟩ | ⟨h, _⟩
          · exact topo_noBack hl2 h rfl
          · cases h
        refine G.region rfl (fun R hR => ?_)
        refine D.i64 _ rfl rfl rfl rfl rfl (by omega) (by omega) rfl rfl ?_
        refine D.pure rfl rfl rfl rfl rfl rfl ?_
        refine D.done [(0, [], _), (15, [], _), (16, [], _)] ⟨rfl, rfl, rfl, trivial⟩ (hR _ _ _ rfl ?_); clear hR R
        refine G.again (m' := l.length - (k + 1)) (by omega) (by (repeat (first | exact Mem.le.refl _ | assumption | (apply Mem.le.trans; rotate_left; assumption)))) (fr' := [(0, [], _), (15, [], _), (16, [], _)]) ⟨rfl, rfl, rfl, trivial⟩ ⟨k + 1, ⟨by omega, fun j hj => by
          rcases Nat.lt_or_ge j k with h | h
          · exact hz j h
          · have : j = k := by omega
            subst this; exact hnb⟩, rfl, rfl, rfl⟩
    · skip
      simp only [decide_eq_false_iff_not] at h17
      have hkl : k = l.length := by omega
      subst hkl
      refine G.region rfl (fun R hR => ?_)
      iterate 3 refine D.pure rfl rfl rfl rfl rfl rfl ?_
      refine D.done [(2, [], _), (3, [], _), (4, [], _)] ⟨rfl, rfl, rfl, trivial⟩ (hR _ _ _ rfl ?_); clear hR R
      refine G.retN (G.dropAll (G.fin3 rfl rfl rfl rfl ?_))
      exact ⟨rfl, .inr (.inl ⟨h12', hz, rfl⟩)⟩
end Go.Proofs.YtddjibfmnkcalaaDoor
namespace Go.Jog
open Go
section
variable {cx : Cx} {n : Nat} {ds : List (Option Nat)} {R : Rg n ds} {its : List It} {fr : Fr} {C : Mem} {L : List Ent} {i k d : Nat} {o : Oper} {g : GL} {v : Value}
theorem D.appendO (off : Nat) {t e j m cap g0 q z : Nat} {x y : Operand} {ti te : TI} {p new : Value} {a0 : Addr} {xs : List Value} (hk : k = 3) (hd : o.dst = some d) (hg : gOn ds fr o.guard = true)
    (hop : o.op = .call ⟨.builtin .append, #[x, y], #[t, t]⟩) (ht : cx.T.get t = some ti) (hte : ti.k = .slice e) (he : cx.T.get e = some te) (hs1 : te.size = 1)
    (hx : ev fr [] x = some (.slice (some a0) q z)) (hy : ev fr [] y = some p) (hm : L[j]? = some (.arr (.slice (some ⟨g0, 0, none⟩) m cap) e 1 m xs)) (hq : q = m - off) (hz : z = cap - off) (ho : off ≤ m) (ha : off < cap → a0 = ⟨g0, off, none⟩)
    (hsl : Sl C 1 p [[new]]) (h1 : oneB new = true)
    (h63 : m + 1 ≤ maxLen) (hbytes : (m + 1) * te.bytes ≤ 140737488355328) (hp : ∀ v, okPut n ds ((d, [], v) :: fr) d = true)
    (h : ∀ g' o' c' xs', o' < xs'.length → xs'.length ≤ c' → xs'.length ≤ m + 1 → xs'.drop o' = xs.drop off ++ [new] → D cx R its ((d, [], .slice (some ⟨g', o', none⟩) (xs'.length - o') (c' - o')) :: fr) C (.arr (.slice (some ⟨g', 0, none⟩) xs'.length c') e 1 xs'.length xs' :: L.eraseIdx j)) : D cx R ((i, k, o) :: its) fr C L := by
  have hu : cx.P.underlying t = some (.slice e) := by
    obtain ⟨kk, s1, b1, z1, g1⟩ := ti
    simp only at hte
    subst hte
    exact und_slice cx.hT ht
  obtain ⟨inf, hi, hsize, hby, hz0, hzc⟩ := (tab_ok cx.hT he).info
  have hsz1 : inf.size = 1 := by rw [hsize, hs1]
  obtain ⟨B, c, hpv, hlc, hcm, hrl, hcells⟩ := hsl
  obtain ⟨ad, hB, hsp, hnc⟩ := hcells 0 [new] rfl
  subst hB
  have hpv : p = .slice (some ad) 1 c := hpv
  refine D.eff (S := fun v' C' L' => C' = C ∧ ∃ g' o' c' xs', v' = .slice (some ⟨g', o', none⟩) (xs'.length - o') (c' - o') ∧ o' < xs'.length ∧ xs'.length ≤ c' ∧ xs'.length ≤ m + 1 ∧ xs'.drop o' = xs.drop off ++ [new] ∧ L' = .arr (.slice (some ⟨g', 0, none⟩) xs'.length c') e 1 xs'.length xs' :: L.eraseIdx j)
    (by subst hk; rfl) hd hg hp (fun a hs w _ hw => ?_) (fun v' C' L' _ ⟨e1, g', o', c', xs', e2, e3, e4, e5, e7, e6⟩ => by subst e1; subst e2; subst e6; exact h g' o' c' xs' e3 e4 e5 e7)
  have hw' := St.perm hw (ent_perm hm)
  have hown : w.ownsRow 0 e 1 (.slice (some ⟨g0, 0, none⟩) m cap) m xs := hw'.sep.e _ (List.mem_cons_self ..)
  obtain ⟨_, hlm, hcm2, cur, hb, hcs, htake⟩ := ownsRow_block hown
  have hxl : xs.length = m := by have := hown.1; omega
  have hnews : ∀ (jj : Nat) (u : Value), [new][jj]? = some u → w.cell? (ad.add jj) = some u := fun jj u hj => by
    have := hnc jj u hj
    simp only [Nat.zero_mul, Nat.zero_add] at this
    exact this.cell hw.sep
  have h1' : ∀ u ∈ [new], u.oneCell' = true := fun u hu => by rw [List.mem_singleton.1 hu]; exact oneB_spec h1
  have hl1 : [new].length = 1 * inf.size := by rw [hsz1]; rfl
  have hwrap : ∀ {r : Value} {w' : World}, (Builtin.append_ #[t, t] o.type #[.slice (some a0) q z, .slice (some ad) 1 c]).run cx.P w = .ok r w' → (execOp a.eval o).run cx.P w = .ok (.value r) w' := fun hr => append_wrap hop (by rw [hs _ _ hx, hs _ _ hy, hpv]; exact hr)
  subst hq
  subst hz
  by_cases hroom : m + 1 ≤ cap
  · have ha0 := ha (by omega)
    subst ha0
    have hf := run_firstCells_some (P := cx.P) w inf.size 1 ad 1 c [new] hl1 hnews
    have hst := run_storeCells_at cx.P g0 m e [new] 0 cur w hb (by simp [hcs]; omega) h1'
    simp only [Nat.add_zero] at hst
    have hroom2 : m - off + 1 ≤ cap - off := by omega
    have hr : (Builtin.append_ #[t, t] o.type #[.slice (some ⟨g0, off, none⟩) (m - off) (cap - off), .slice (some ad) 1 c]).run cx.P w = .ok (.slice (some ⟨g0, off, none⟩) (m - off + 1) (cap - off)) (w.setRow g0 (cur.toList.take m ++ [new] ++ cur.toList.drop (m + 1)).toArray) := by
      have hadd : (⟨g0, off, none⟩ : Addr).add ((m - off) * inf.size) = ⟨g0, m, none⟩ := by rw [hsz1, Addr.add_lit]; congr 1; omega
      simp only [List.length_singleton] at hst
      simp [Builtin.append_, run_underlying hu, sizeOf, typeInfo, hi, Builtin.lenOf, hroom2, hf, hadd, hst]
    have hr0 := run_append_own_at (P := cx.P) w 0 t o.type e inf te.zv te.size te.bytes hu hi hz0 hsize hby (tab_ok cx.hT he).zsize (by omega) (.slice (some ⟨g0, 0, none⟩) m cap) m xs (by rw [hs1]; exact hown) ad 1 c [new] (by rw [hs1]; rfl) hnews h1' h63 hbytes (Nat.zero_le _)
    obtain ⟨v', w', hr1, hr2, hr3, _, hr5⟩ := hr0
    have hr6 := run_append_room (P := cx.P) w t o.type e inf hu hi g0 m cap cur hb ad 1 c [new] hl1 hnews h1' hroom (by simp [hcs, hsz1]; omega)
    rw [hr6] at hr1
    simp only [Result.ok.injEq] at hr1
    obtain ⟨rfl, rfl⟩ := hr1
    have hw2 : (w.setRow g0 (cur.toList.take (m * inf.size) ++ [new] ++ cur.toList.drop (m * inf.size + [new].length)).toArray) = (w.setRow g0 (cur.toList.take m ++ [new] ++ cur.toList.drop (m + 1)).toArray) := by rw [hsz1, Nat.mul_one]; rfl
    rw [hw2, hs1] at hr2
    rw [hw2] at hr3
    unfold Oper.wp
    rw [hwrap hr]
    have hxl2 : (xs ++ [new]).length = m + 1 := by simp [hxl]
    refine ⟨_, C, .arr (.slice (some ⟨g0, 0, none⟩) (m + 1) cap) e 1 (m + 1) (xs ++ [new]) :: L.eraseIdx j, rfl, Mem.le.refl _, fun h2 => by omega, St.turn hw' hr2 hr3 (Nat.le_refl _) (.inl rfl), rfl, g0, off, cap, xs ++ [new], ?_, by omega, by omega, by omega, ?_, ?_⟩
    · rw [hxl2]; congr 1; omega
    · rw [List.drop_append_of_le_length (by omega)]
    · rw [hxl2]
  · have hold : ∀ (jj : Nat) (u : Value), (xs.drop off)[jj]? = some u → w.cell? (a0.add jj) = some u := fun jj u hj => by
      have hlt := (List.getElem?_eq_some_iff.1 hj).1
      rw [List.length_drop] at hlt
      have ha0 := ha (by omega)
      subst ha0
      rw [Addr.add_lit, cell_of_row w g0 _ cur e (0, 0) hb]
      rw [List.getElem?_drop, ← htake, List.getElem?_take] at hj
      split at hj
      · simpa using hj
      · cases hj
    have hgr := run_append_grow (P := cx.P) w t o.type e inf te.zv hu hi hz0 a0 (m - off) (cap - off) (xs.drop off) (by rw [hsz1, List.length_drop, hxl]; omega) hold ad 1 c [new] hl1 hnews (by omega) (by simp only [maxLen] at h63; omega)
      (by rw [hby]; exact growslice_fits (by omega) (Nat.le_trans (Nat.mul_le_mul_right _ (by omega)) hbytes))
    unfold Oper.wp
    rw [hwrap hgr]
    have hxl2 : (xs.drop off ++ [new]).length = m - off + 1 := by simp [hxl]
    have hge := grownCap_ge w (m - off + 1) (cap - off) e
    have hle := grownCap_le_maxLen w (m - off + 1) (cap - off) e (by omega)
    obtain ⟨G, hG⟩ : ∃ G, grownCap w (m - off + 1) (cap - off) e = G := ⟨_, rfl⟩
    rw [hG] at hge hle ⊢
    have hrow : (w.drew.alloc (.cells ((xs.drop off).toArray ++ [new].toArray ++ Builtin.zeroCells te.zv.cells (G - (m - off + 1))) e)).ownsRow 0 e 1 (.slice (some ⟨w.heap.size, 0, none⟩) (m - off + 1) G) (m - off + 1) (xs.drop off ++ [new]) := by
      refine ⟨by rw [hxl2, Nat.mul_one], .inr ⟨w.heap.size, G, _, rfl, Nat.zero_le _, heap_alloc_new w.drew _, hge, hle, ?_, ?_⟩⟩
      · have hzs := (tab_ok cx.hT he).zsize
        simp only [Array.size_append, size_zeroCells, hzs, hs1, List.size_toArray]
        rw [List.length_drop, hxl, List.length_singleton]; omega
      · rw [Nat.mul_one]
        simp only [Array.toList_append, List.toList_toArray]
        rw [List.take_append_of_le_length (by rw [hxl2]; exact Nat.le_refl _), List.take_of_length_le (by rw [hxl2]; exact Nat.le_refl _)]
    refine ⟨_, C, .arr (.slice (some ⟨w.heap.size, 0, none⟩) (m - off + 1) G) e 1 (m - off + 1) (xs.drop off ++ [new]) :: L.eraseIdx j, rfl, Mem.le.refl _, fun h2 => by omega,
      St.turn hw' hrow ⟨rfl, rfl, rfl, by simp, fun q hq _ => heap_alloc_old w.drew _ hq⟩ (Nat.le_succ _) (.inr (.inl rfl)), rfl, w.heap.size, 0, G, xs.drop off ++ [new], ?_, by omega, by omega, by omega, rfl, ?_⟩
    · rw [hxl2]; rfl
    · rw [hxl2]
/-- x[1:] of a row whose front may have been cut off. -/
theorem D.sliceTail {t e g0 off len cap : Nat} {x : Operand} {ti te : TI} (hk : Nat.ble k 1 = true) (hd : o.dst = some d) (hop : o.op = .slice t x (some (.const (.int .i64 1))) none none)
    (hg : gOf ds fr o.guard = some g) (hx : ev fr g x = some (.slice (some ⟨g0, off, none⟩) len cap))
    (ht : cx.T.get t = some ti) (hte : ti.k = .slice e) (he : cx.T.get e = some te) (hsz : te.size = 1) (h1 : 1 ≤ len) (hc : len ≤ cap)
    (hp : ∀ v, okPut n ds ((d, g, v) :: fr) d = true) (hwf : wfG ds fr g = true)
    (h : ∀ a0 : Addr, (1 < cap → a0 = ⟨g0, off + 1, none⟩) → D cx R its ((d, g, .slice (some a0) (len - 1) (cap - 1)) :: fr) C L) : D cx R ((i, k, o) :: its) fr C L := by
  refine D.sliceV 1 len cap hk hd hop hg hx rfl rfl rfl ht hte he hsz (fun _ => ⟨.inr ⟨_, rfl⟩, .inl ⟨rfl, rfl⟩, .inl ⟨rfl, rfl⟩, h1, hc, Nat.le_refl _⟩) (hp _) hwf ?_
  by_cases e : cap = 1
  · rw [if_pos e]; exact h _ (fun h2 => by omega)
  · rw [if_neg e]
    exact h _ (fun _ => by rw [Nat.mul_one]; exact Addr.add_lit ..)
end
end Go.Jog
namespace Go.Proofs.YtddjibfmnkcalaaDoor
open Go Go.Jog
set_option maxRecDepth 100000

abbrev boolV (x : Bool) : Value := .bool x
def encB (x : Bool) : List Value := [.bool x]
def bAt (l : List Bool) (k : Nat) : Bool := l.getD k false
theorem bAt_get {l : List Bool} {k : Nat} {x : Bool} (h : l[k]? = some x) : bAt l k = x := by simp [bAt, List.getD_eq_getElem?_getD, h]
theorem get_bAt {l : List Bool} {k : Nat} (h : k < l.length) : l[k]? = some (bAt l k) := by
  rw [List.getElem?_eq_getElem h, bAt_get (List.getElem?_eq_getElem h)]
theorem bools_at {l : List Bool} {u : Nat} (h : u < l.length) : ((l.map boolV).drop u).take 1 = [boolV (bAt l u)] := by
  have h1 : (l.map boolV)[u]? = some (boolV (bAt l u)) := by rw [List.getElem?_map, get_bAt h]; rfl
  obtain ⟨h2, h3⟩ := List.getElem?_eq_some_iff.1 h1
  rw [List.drop_eq_getElem_cons h2, h3]; rfl
theorem bools_set {l : List Bool} {u : Nat} {x : Bool} (h : u < l.length) : storeInto (l.map boolV) [boolV x] u = (l.set u x).map boolV := by
  have := row_write (enc := fun v : Bool => [boolV v]) (s := 1) (fun _ => rfl) (l := l) (i := u) x h
  rw [flatten_map1 boolV, flatten_map1 boolV, Nat.mul_one] at this
  exact this
theorem bAt_set {l : List Bool} {u v : Nat} {x : Bool} (h : u < l.length) : bAt (l.set u x) v = if v = u then x else bAt l v := by
  unfold bAt
  simp only [List.getD_eq_getElem?_getD, List.getElem?_set]
  by_cases e : u = v
  · subst e; simp [h]
  · rw [if_neg e, if_neg (Ne.symm e)]
def unset (l : List Bool) : Nat := l.countP fun x => !x
theorem unset_set {l : List Bool} {u : Nat} (h : u < l.length) (hf : bAt l u = false) : unset (l.set u true) + 1 = unset l := by
  unfold unset
  have hg := get_bAt h
  rw [hf] at hg
  have : ∀ {d : List Bool} {u : Nat}, d[u]? = some false → (d.set u true).countP (fun x => !x) + 1 = d.countP (fun x => !x) := by
    intro d
    induction d with
    | nil => intro u h; simp at h
    | cons z d ih =>
      intro u h
      cases u with
      | zero => simp at h; subst h; simp
      | succ u =>
        have := ih (u := u) (by simpa using h)
        simp only [List.set_cons_succ, List.countP_cons]
        omega
  exact this hg

structure Bfs (A : List Arc3) (n f : Nat) (rs : List Bool) (qs : List Nat) (S : Nat → Prop) : Prop where
  len : rs.length = n
  sound : ∀ v, bAt rs v = true → ∃ m, 0 < m ∧ Walk A m f v
  que : ∀ q ∈ qs, q < n ∧ (q = f ∨ bAt rs q = true)
  done : ∀ v, (v = f ∨ bAt rs v = true) → v ∈ qs ∨ S v
theorem bfs_walk {A : List Arc3} {n f : Nat} {rs : List Bool} {qs : List Nat} {S : Nat → Prop} (h : Bfs A n f rs qs S) {a : Arc3} (ha : a ∈ A) (hl : a.lo = f ∨ bAt rs a.lo = true) : ∃ m, 0 < m ∧ Walk A m f a.up := by
  rcases hl with e | e
  · exact ⟨1, by omega, by rw [← e]; exact Walk.one ha⟩
  · obtain ⟨m, hm, hw⟩ := h.sound _ e
    exact ⟨m + 1, by omega, Walk.snoc.2 ⟨a, ha, rfl, hw⟩⟩
theorem Bfs.set {A : List Arc3} {n f : Nat} {rs : List Bool} {qs : List Nat} {S : Nat → Prop} (h : Bfs A n f rs qs S) {a : Arc3} (ha : a ∈ A) (hn : a.up < n) (hl : a.lo = f ∨ bAt rs a.lo = true) : Bfs A n f (rs.set a.up true) (qs ++ [a.up]) S := by
  have hlen := h.len
  have hset : ∀ v, bAt (rs.set a.up true) v = if v = a.up then true else bAt rs v := fun v => bAt_set (by omega)
  refine ⟨by simp [hlen], fun v hv => ?_, fun q hq => ?_, fun v hv => ?_⟩
  · rw [hset] at hv
    by_cases e : v = a.up
    · subst e; exact bfs_walk h ha hl
    · rw [if_neg e] at hv; exact h.sound v hv
  · rw [hset]
    rcases List.mem_append.1 hq with hq | hq
    · obtain ⟨h1, h2⟩ := h.que q hq
      refine ⟨h1, ?_⟩
      by_cases e : q = a.up
      · rw [if_pos e]; exact .inr rfl
      · rw [if_neg e]; exact h2
    · rw [List.mem_singleton.1 hq, if_pos rfl]; exact ⟨hn, .inr rfl⟩
  · rw [hset] at hv
    by_cases e : v = a.up
    · subst e; exact .inl (by simp)
    · rw [if_neg e] at hv
      exact (h.done v hv).elim (fun h1 => .inl (by simp [h1])) .inr
theorem Bfs.mono {A : List Arc3} {n f : Nat} {rs : List Bool} {qs : List Nat} {S T : Nat → Prop} (h : Bfs A n f rs qs S) (hs : ∀ v, (v = f ∨ bAt rs v = true) → S v → T v) : Bfs A n f rs qs T :=
  ⟨h.len, h.sound, h.que, fun v hv => (h.done v hv).elim .inl (fun h1 => .inr (hs v hv h1))⟩
/-- All arcs from a place are set. -/
def Out (A : List Arc3) (rs : List Bool) (v : Nat) : Prop := ∀ a ∈ A, a.lo = v → bAt rs a.up = true
def Reach (A : List Arc3) (u v : Nat) : Prop := ∃ m, 0 < m ∧ Walk A m u v
theorem Bfs.end {A : List Arc3} {n f : Nat} {rs : List Bool} (h : Bfs A n f rs [] (Out A rs)) : ∀ v, bAt rs v = true ↔ Reach A f v := by
  intro v
  refine ⟨h.sound v, fun ⟨m, hm, hw⟩ => ?_⟩
  have key : ∀ m v, Walk A (m + 1) f v → bAt rs v = true := by
    intro m
    induction m with
    | zero =>
      intro v hw
      obtain ⟨a, ha, hu, hw⟩ := Walk.snoc.1 hw
      have e := Walk.zero.1 hw
      have := (h.done f (.inl rfl)).resolve_left (by simp)
      rw [← hu]; exact this a ha e.symm
    | succ m ih =>
      intro v hw
      obtain ⟨a, ha, hu, hw⟩ := Walk.snoc.1 hw
      have := (h.done a.lo (.inr (ih _ hw))).resolve_left (by simp)
      rw [← hu]; exact this a ha rfl
  obtain ⟨q, rfl⟩ : ∃ q, m = q + 1 := ⟨m - 1, by omega⟩
  exact key q v hw
end Go.Proofs.YtddjibfmnkcalaaDoor
namespace Go.Proofs.YtddjibfmnkcalaaDoor
open Go Go.Jog
set_option maxRecDepth 100000

abbrev oS (a0 : Addr) (n c : Nat) : Value := .slice (some a0) n c
theorem bools_rep (n : Nat) : zrow [Value.bool false] n = (List.replicate n false).map boolV := by
  rw [zrow_rep, List.map_replicate]
theorem drop_cons {α : Type} {l : List α} {k : Nat} {x : α} {t : List α} (h : l.drop k = x :: t) : l[k]? = some x ∧ l.drop (k + 1) = t ∧ k < l.length := by
  have h1 : l[k]? = some x := by
    have : (l.drop k)[0]? = some x := by rw [h]; rfl
    rwa [List.getElem?_drop, Nat.add_zero] at this
  refine ⟨h1, ?_, (List.getElem?_eq_some_iff.1 h1).1⟩
  rw [← List.drop_drop, h]; rfl

theorem bAt_rep {n v : Nat} : bAt (List.replicate n false) v = false := by
  simp only [bAt, List.getD_eq_getElem?_getD, List.getElem?_replicate]
  split <;> rfl
theorem unset_rep {n : Nat} : unset (List.replicate n false) = n := by simp [unset, List.countP_replicate]
theorem bfs_start {A : List Arc3} {n f : Nat} (hf : f < n) {S : Nat → Prop} : Bfs A n f (List.replicate n false) [f] S :=
  ⟨List.length_replicate, fun v hv => (by rw [bAt_rep] at hv; cases hv), fun q hq => by rw [List.mem_singleton.1 hq]; exact ⟨hf, .inl rfl⟩, fun v hv => by
    rcases hv with e | e
    · exact .inl (by simp [e])
    · rw [bAt_rep] at e; cases e⟩
set_option maxHeartbeats 4000000 in
theorem reached_fn (C : Mem) (p : Value) (N : List Str) (A : List Arc3) (f : Nat) (hg : Graph C p N A) (hok : GOk N A) (hf : f < N.length) :
    Pur cx.P 47 [p, .int .i64 f] C fun u C' => ∃ rs, Sl C' 1 u (rs.map encB) ∧ rs.length = N.length ∧ ∀ v, bAt rs v = true ↔ Reach A f v := by
  have hgr := hg
  obtain ⟨b, bm, vn, va, vx, vs, hgp, hobj, hnames, hat, harcs, hnx, hlen, hrows⟩ := hg
  subst hgp
  obtain ⟨An, cn, rfl, _⟩ := id hnames
  obtain ⟨Ax, cxx, rfl, _⟩ := id hnx
  simp only [List.length_map] at hobj hnx hnames
  have hb := hok.below
  have hAl := hok.arcs
  have hNl := hok.names
  refine Fn.intro (by kernel_rfl) Tryd.func47 rfl 55 rfl rfl (fun w0 => ?_)
  refine G.region rfl (fun R hR => ?_)
  refine D.pure rfl rfl rfl rfl rfl rfl ?_
  refine D.done [(0, [], _), (1, [], _)] ⟨rfl, rfl, trivial⟩ (hR _ _ _ rfl ?_); clear hR R
  refine G.region rfl (fun R hR => ?_)
  iterate 3 refine D.pure rfl rfl rfl rfl rfl rfl ?_
  refine D.loadP0 (PtrTo.block (Mem.get hobj (by (repeat (first | exact Mem.le.refl _ | assumption | (apply Mem.le.trans; rotate_left; assumption))))) _) rfl rfl rfl rfl rfl rfl rfl rfl ?_
  refine D.pure rfl rfl rfl rfl rfl rfl ?_
  refine D.makeArr rfl rfl rfl rfl rfl rfl rfl rfl rfl (Nat.le_refl _) (by show 1 * N.length ≤ 281474976710656; omega) (by simp only [maxLen]; omega) (fun _ => rfl) (fun b15 => ?_)
  refine D.pure rfl rfl rfl rfl rfl rfl ?_
  refine D.done [(0, [], _), (1, [], _), (5, [], _)] ⟨rfl, rfl, rfl, trivial⟩ (hR _ _ _ rfl ?_); clear hR R
  refine G.region rfl (fun R hR => ?_)
  refine D.pure rfl rfl rfl rfl rfl rfl ?_
  refine D.buildArr [[.int .i64 f]] rfl rfl rfl rfl rfl rfl rfl rfl rfl rfl rfl rfl (fun _ => rfl) (fun b17 => ?_)
  refine D.pure rfl rfl rfl rfl rfl rfl ?_
  refine D.done [(0, [], _), (5, [], _), (6, [], _)] ⟨rfl, rfl, rfl, trivial⟩ (hR _ _ _ rfl ?_); clear hR R
  refine G.eqL (L' := [.arr (qS b17 1 1) 3 1 [intN f].length [intN f], .arr (qS b15 N.length N.length) 4 1 N.length ((List.replicate N.length false).map boolV)]) (by rw [← bools_rep]; rfl) ?_
  refine G.loop (fun fr C' L' μ => ∃ (g c off : Nat) (xv : List Value) (qs : List Nat) (rs : List Bool) (a0 : Addr), ((Bfs A N.length f rs qs (Out A rs) ∧ xv.drop off = qs.map intN ∧ off ≤ xv.length ∧ xv.length ≤ c) ∧ (off < c → a0 = ⟨g, off, none⟩) ∧ xv.length + unset rs ≤ N.length + 1) ∧ fr = [(0, [], .pointer (some ⟨b, 0, none⟩)), (5, [], qS b15 N.length N.length), (6, [], oS a0 (xv.length - off) (c - off))] ∧ L' = [.arr (qS g c xv.length) 3 1 xv.length xv, .arr (qS b15 N.length N.length) 4 1 N.length (rs.map boolV)] ∧ μ = 2 * unset rs + (xv.length - off)) (fr' := [(0, [], _), (5, [], _), (6, [], _)]) ⟨rfl, rfl, rfl, trivial⟩ ⟨b17, 1, 0, [intN f], [f], List.replicate N.length false, ⟨b17, 0, none⟩, ⟨⟨bfs_start hf, rfl, Nat.zero_le _, Nat.le_refl _⟩, fun _ => rfl, by rw [unset_rep, List.length_singleton]; omega⟩, rfl, rfl, rfl⟩ (fun fr C0' L0' m hle0 hI => ?_)
  obtain ⟨g, c, off, xv, qs, rs, a0, ⟨⟨hbf, hxq, hoff, hxc⟩, ha0, hbd⟩, rfl, rfl, rfl⟩ := hI
  refine G.region rfl (fun R hR => ?_)
  iterate 3 refine D.pure rfl rfl rfl rfl rfl rfl ?_
  refine D.done [(0, [], _), (5, [], _), (6, [], _), (20, [], _)] ⟨rfl, rfl, rfl, rfl, trivial⟩ (hR _ _ _ rfl ?_); clear hR R
  refine G.cond rfl (fun h20 => ?_) (fun h20 => ?_)
  · skip
    have h20' : 0 < xv.length - off := by
      have h : (0 : Int) < ((xv.length - off : Nat) : Int) := by simpa using h20
      omega
    obtain ⟨i, qs2, rfl⟩ : ∃ i qs2, qs = i :: qs2 := by
      cases qs with
      | nil =>
        have := congrArg List.length hxq
        simp at this; omega
      | cons i qs2 => exact ⟨i, qs2, rfl⟩
    obtain ⟨hx0, hx1, hx2⟩ := drop_cons (show xv.drop off = intN i :: qs2.map intN from hxq)
    obtain rfl := ha0 (by omega)
    obtain ⟨hin, hir⟩ := hbf.que i (by simp)
    obtain ⟨v, hv⟩ : ∃ v, vs[i]? = some v := ⟨vs[i]'(by omega), List.getElem?_eq_getElem (by omega)⟩
    have hvr := hrows i v hv
    obtain ⟨Av, cv, rfl, _⟩ := id hvr
    simp only [List.length_map] at hvr hv
    have hnl : (nexts A i).length ≤ A.length := List.length_filter_le _ _
    have hrv : (vs.map fun v => [v])[i]? = some [Value.slice Av (nexts A i).length cv] := by rw [List.getElem?_map, hv]; rfl
    have hld : (xv.drop off).take 1 = [intN i] := by rw [hxq]; rfl
    refine G.region rfl (fun R hR => ?_)
    refine D.pure rfl rfl rfl rfl rfl rfl ?_
    refine D.indexSo (off) rfl rfl rfl rfl rfl rfl rfl rfl rfl rfl (fun _ => ⟨by omega, by omega, (by simp)⟩) rfl rfl ?_
    refine D.loadArr (.head _) rfl rfl rfl rfl rfl rfl (fun _ => (by rw [hld]; rfl)) rfl rfl ?_
    refine D.pure rfl rfl rfl rfl rfl rfl ?_
    refine D.done [(0, [], _), (5, [], _), (6, [], _), (7, [], _)] ⟨rfl, rfl, rfl, rfl, trivial⟩ (hR _ _ _ rfl ?_); clear hR R
    refine G.region rfl (fun R hR => ?_)
    refine D.pure rfl rfl rfl rfl rfl rfl ?_
    refine D.sliceTail rfl rfl rfl rfl rfl rfl rfl rfl rfl (by omega) (by omega) (fun _ => rfl) rfl (fun a1 ha1 => ?_)
    refine D.pure rfl rfl rfl rfl rfl rfl ?_
    refine D.done [(0, [], _), (5, [], _), (6, [], _), (7, [], _)] ⟨rfl, rfl, rfl, rfl, trivial⟩ (hR _ _ _ rfl ?_); clear hR R
    refine G.region rfl (fun R hR => ?_)
    iterate 3 refine D.pure rfl rfl rfl rfl rfl rfl ?_
    refine D.loadP0 (PtrTo.block (Mem.get hobj (by (repeat (first | exact Mem.le.refl _ | assumption | (apply Mem.le.trans; rotate_left; assumption))))) _) rfl rfl rfl rfl rfl rfl rfl rfl ?_
    refine D.pure rfl rfl rfl rfl rfl rfl ?_
    refine D.index0 (hnx.mono (by (repeat (first | exact Mem.le.refl _ | assumption | (apply Mem.le.trans; rotate_left; assumption))))) rfl rfl rfl rfl rfl rfl rfl rfl rfl rfl (by omega) hrv (fun _ => rfl) (fun p31 hp31 => ?_)
    refine D.loadP0 hp31 rfl rfl rfl rfl rfl rfl rfl rfl ?_
    iterate 2 refine D.pure rfl rfl rfl rfl rfl rfl ?_
    refine D.done [(0, [], _), (5, [], _), (6, [], _), (32, [], _), (33, [], _), (34, [], _)] ⟨rfl, rfl, rfl, rfl, rfl, rfl, trivial⟩ (hR _ _ _ rfl ?_); clear hR R
    have hbf1 : Bfs A N.length f rs qs2 (fun v => v = i ∨ Out A rs v) := ⟨hbf.len, hbf.sound, fun q hq => hbf.que q (by simp [hq]), fun v hv => by
      rcases hbf.done v hv with h1 | h1
      · rcases List.mem_cons.1 h1 with h1 | h1
        · exact .inr (.inl h1)
        · exact .inl h1
      · exact .inr (.inr h1)⟩
    refine G.loop (fun fr C' L' μ => ∃ (k g c o2 : Nat) (xv2 : List Value) (qs3 : List Nat) (rs2 : List Bool) (a0 : Addr), ((k ≤ (nexts A i).length ∧ Bfs A N.length f rs2 qs3 (fun v => v = i ∨ Out A rs2 v) ∧ xv2.drop o2 = qs3.map intN ∧ o2 ≤ xv2.length ∧ xv2.length ≤ c) ∧ (o2 < c → a0 = ⟨g, o2, none⟩) ∧ xv2.length + unset rs2 ≤ N.length + 1 ∧ 2 * unset rs2 + (xv2.length - o2) + 1 ≤ 2 * unset rs + (xv.length - off) ∧ (i = f ∨ bAt rs2 i = true) ∧ ∀ a ∈ (nexts A i).take k, bAt rs2 a.up = true) ∧ fr = [(0, [], .pointer (some ⟨b, 0, none⟩)), (5, [], qS b15 N.length N.length), (6, [], oS a0 (xv2.length - o2) (c - o2)), (32, [], .slice Av (nexts A i).length cv), (33, [], .int .i64 (nexts A i).length), (34, [], .int .i64 k)] ∧ L' = [.arr (qS g c xv2.length) 3 1 xv2.length xv2, .arr (qS b15 N.length N.length) 4 1 N.length (rs2.map boolV)] ∧ μ = (nexts A i).length - k) (fr' := [(0, [], _), (5, [], _), (6, [], _), (32, [], _), (33, [], _), (34, [], _)]) ⟨rfl, rfl, rfl, rfl, rfl, rfl, trivial⟩ ⟨0, g, c, off + 1, xv, qs2, rs, a1, ⟨⟨Nat.zero_le _, hbf1, hx1, by omega, hxc⟩, fun h => ha1 (by omega), hbd, by omega, hir, fun a ha => by simp at ha⟩, rfl, rfl, rfl⟩ (fun fr C1' L1' m hle1 hI => ?_)
    obtain ⟨k, g, c, o2, xv2, qs3, rs2, a0, ⟨⟨hk, hb2, hxq2, hoff2, hxc2⟩, ha2, hbd2, hms, hir2, hset⟩, rfl, rfl, rfl⟩ := hI
    refine G.region rfl (fun R hR => ?_)
    refine D.pure rfl rfl rfl rfl rfl rfl ?_
    refine D.done [(0, [], _), (5, [], _), (6, [], _), (32, [], _), (33, [], _), (34, [], _), (35, [], _)] ⟨rfl, rfl, rfl, rfl, rfl, rfl, rfl, trivial⟩ (hR _ _ _ rfl ?_); clear hR R
    refine G.cond rfl (fun h35 => ?_) (fun h35 => ?_)
    · skip
      simp only [decide_eq_true_eq] at h35
      have hkl : k < (nexts A i).length := by omega
      obtain ⟨a, ha⟩ : ∃ a, (nexts A i)[k]? = some a := ⟨(nexts A i)[k], List.getElem?_eq_getElem hkl⟩
      have hamn := mem_nexts.1 (List.mem_of_getElem? ha)
      have hamem : a ∈ A := hamn.1
      obtain ⟨hlo, hup⟩ := hb a hamem
      have hra : ((nexts A i).map Arc3.enc)[k]? = some (Arc3.enc a) := by rw [List.getElem?_map, ha]; rfl
      have htk : (nexts A i).take (k + 1) = (nexts A i).take k ++ [a] := by rw [List.take_add_one, ha]; rfl
      have hrl := hb2.len
      refine G.region rfl (fun R hR => ?_)
      refine D.index0 (hvr.mono (by (repeat (first | exact Mem.le.refl _ | assumption | (apply Mem.le.trans; rotate_left; assumption))))) rfl rfl rfl rfl rfl rfl rfl rfl rfl rfl (by omega) hra (fun _ => rfl) (fun p36 hp36 => ?_)
      refine D.loadP0 hp36 rfl rfl rfl rfl rfl rfl rfl rfl ?_
      refine D.alloc rfl rfl rfl rfl rfl (fun _ => rfl) (fun b9 => ?_)
      refine D.store (j := 0) rfl rfl rfl rfl rfl rfl rfl rfl rfl rfl rfl rfl ?_
      refine D.done [(0, [], _), (5, [], _), (6, [], _), (9, [], _), (32, [], _), (33, [], _), (34, [], _)] ⟨rfl, rfl, rfl, rfl, rfl, rfl, rfl, trivial⟩ (hR _ _ _ rfl ?_); clear hR R
      refine G.region rfl (fun R hR => ?_)
      iterate 2 refine D.pure rfl rfl rfl rfl rfl rfl ?_
      refine D.loadL (.head _) rfl rfl rfl rfl rfl rfl rfl rfl rfl ?_
      refine D.indexS (a.up) rfl rfl rfl rfl rfl rfl rfl rfl rfl rfl (fun _ => ⟨by omega, by omega, (by simp)⟩) rfl rfl ?_
      refine D.loadArr (.tail _ (.tail _ (.head _))) rfl rfl rfl rfl rfl rfl (fun _ => (by rw [bools_at (by omega)]; rfl)) rfl rfl ?_
      refine D.pure rfl rfl rfl rfl rfl rfl ?_
      refine D.done [(0, [], _), (5, [], _), (6, [], _), (9, [], _), (32, [], _), (33, [], _), (34, [], _), (43, [], _)] ⟨rfl, rfl, rfl, rfl, rfl, rfl, rfl, rfl, trivial⟩ (hR _ _ _ rfl ?_); clear hR R
      refine G.cond rfl (fun h43 => ?_) (fun h43 => ?_)
      · skip
        have h43' : bAt rs2 a.up = false := by simpa using h43
        have hus := unset_set (l := rs2) (u := a.up) (by omega) h43'
        refine G.region rfl (fun R hR => ?_)
        iterate 2 refine D.pure rfl rfl rfl rfl rfl rfl ?_
        refine D.loadL (.head _) rfl rfl rfl rfl rfl rfl rfl rfl rfl ?_
        refine D.indexS (a.up) rfl rfl rfl rfl rfl rfl rfl rfl rfl rfl (fun _ => ⟨by omega, by omega, (by simp)⟩) rfl rfl ?_
        refine D.storeArr (j := 2) rfl rfl rfl rfl rfl rfl rfl rfl rfl rfl rfl (by simp; omega) ?_
        refine D.done [(0, [], _), (5, [], _), (6, [], _), (9, [], _), (32, [], _), (33, [], _), (34, [], _)] ⟨rfl, rfl, rfl, rfl, rfl, rfl, rfl, trivial⟩ (hR _ _ _ rfl ?_); clear hR R
        refine G.perm (L' := [.obj b9 (.cells ⟨Arc3.enc a⟩ 80 (0, 0)), .arr (qS g c xv2.length) 3 1 xv2.length xv2, .arr (qS b15 N.length N.length) 4 1 N.length ((rs2.set a.up true).map boolV)]) (by rw [← bools_set (by omega)]; (refine (ent_perm (j := 1) rfl).trans (List.Perm.cons _ ?_); refine (ent_perm (j := 1) rfl).trans (List.Perm.cons _ ?_); refine (ent_perm (j := 0) rfl).trans (List.Perm.cons _ ?_); exact List.Perm.refl _)) ?_
        refine G.region rfl (fun R hR => ?_)
        iterate 2 refine D.pure rfl rfl rfl rfl rfl rfl ?_
        refine D.loadL (.head _) rfl rfl rfl rfl rfl rfl rfl rfl rfl ?_
        refine D.buildSlice [[.int .i64 a.up]] rfl rfl rfl rfl rfl rfl rfl rfl rfl rfl rfl rfl (fun _ => rfl) (fun p51 C51 hle51 hs51 => ?_)
        refine D.appendO o2 (j := 1) rfl rfl rfl rfl rfl rfl rfl rfl rfl rfl rfl rfl rfl hoff2 ha2 hs51 rfl (by simp only [maxLen]; omega) (by show (xv2.length + 1) * 8 ≤ _; omega) (fun _ => rfl) (fun g3 o3 c3 xv3 ho3 hc3 hl3 hd3 => ?_)
        refine D.pure rfl rfl rfl rfl rfl rfl ?_
        refine D.done [(0, [], _), (5, [], _), (6, [], _), (32, [], _), (33, [], _), (34, [], _)] ⟨rfl, rfl, rfl, rfl, rfl, rfl, trivial⟩ (hR _ _ _ rfl ?_); clear hR R
        refine G.region rfl (fun R hR => ?_)
        refine D.i64 _ rfl rfl rfl rfl rfl (by omega) (by omega) rfl rfl ?_
        refine D.pure rfl rfl rfl rfl rfl rfl ?_
        refine D.done [(0, [], _), (5, [], _), (6, [], _), (32, [], _), (33, [], _), (34, [], _)] ⟨rfl, rfl, rfl, rfl, rfl, rfl, trivial⟩ (hR _ _ _ rfl ?_); clear hR R
        refine G.dropE 1 rfl ?_
        have hbs := hb2.set hamem hup (by rw [hamn.2]; exact hir2)
        have hxl3 := congrArg List.length hd3
        rw [hxq2] at hxl3
        have hxl2 := congrArg List.length hxq2
        simp only [List.length_drop, List.length_append, List.length_map, List.length_singleton] at hxl3 hxl2
        refine G.again (m' := (nexts A i).length - (k + 1)) (by omega) (by (repeat (first | exact Mem.le.refl _ | assumption | (apply Mem.le.trans; rotate_left; assumption)))) (fr' := [(0, [], _), (5, [], _), (6, [], _), (32, [], _), (33, [], _), (34, [], _)]) ⟨rfl, rfl, rfl, rfl, rfl, rfl, trivial⟩ ⟨k + 1, g3, c3, o3, xv3, qs3 ++ [a.up], rs2.set a.up true, ⟨g3, o3, none⟩, ⟨⟨by omega, hbs.mono (fun v _ hv => hv.imp id (fun h a' ha' he => by
          rw [bAt_set (by omega)]; split
          · rfl
          · exact h a' ha' he)), by rw [hd3, hxq2]; simp, by omega, hc3⟩, fun _ => rfl, by omega, by omega, hir2.imp id (fun h => by rw [bAt_set (by omega)]; split <;> simp [h]), fun a' ha' => by
          rw [bAt_set (by omega)]
          rw [htk] at ha'
          rcases List.mem_append.1 ha' with h | h
          · split
            · rfl
            · exact hset a' h
          · rw [List.mem_singleton.1 h, if_pos rfl]⟩, rfl, rfl, rfl⟩
      · skip
        have h43' : bAt rs2 a.up = true := by simpa using h43
        refine G.region rfl (fun R hR => ?_)
        refine D.i64 _ rfl rfl rfl rfl rfl (by omega) (by omega) rfl rfl ?_
        refine D.pure rfl rfl rfl rfl rfl rfl ?_
        refine D.done [(0, [], _), (5, [], _), (6, [], _), (32, [], _), (33, [], _), (34, [], _)] ⟨rfl, rfl, rfl, rfl, rfl, rfl, trivial⟩ (hR _ _ _ rfl ?_); clear hR R
        refine G.dropE 0 rfl ?_
        refine G.again (m' := (nexts A i).length - (k + 1)) (by omega) (by (repeat (first | exact Mem.le.refl _ | assumption | (apply Mem.le.trans; rotate_left; assumption)))) (fr' := [(0, [], _), (5, [], _), (6, [], _), (32, [], _), (33, [], _), (34, [], _)]) ⟨rfl, rfl, rfl, rfl, rfl, rfl, trivial⟩ ⟨k + 1, g, c, o2, xv2, qs3, rs2, a0, ⟨⟨by omega, hb2, hxq2, hoff2, hxc2⟩, ha2, hbd2, hms, hir2, fun a' ha' => by
          rw [htk] at ha'
          rcases List.mem_append.1 ha' with h | h
          · exact hset a' h
          · rw [List.mem_singleton.1 h]; exact h43'⟩, rfl, rfl, rfl⟩
    · skip
      simp only [decide_eq_false_iff_not] at h35
      have hkl : k = (nexts A i).length := by omega
      subst hkl
      rw [List.take_length] at hset
      refine G.again (m' := 2 * unset rs2 + (xv2.length - o2)) (by omega) (by (repeat (first | exact Mem.le.refl _ | assumption | (apply Mem.le.trans; rotate_left; assumption)))) (fr' := [(0, [], _), (5, [], _), (6, [], _)]) ⟨rfl, rfl, rfl, trivial⟩ ⟨g, c, o2, xv2, qs3, rs2, a0, ⟨⟨hb2.mono (fun v _ hv => by
        rcases hv with e | h
        · subst e; exact fun a ha hl => hset a (mem_nexts.2 ⟨ha, hl⟩)
        · exact h), hxq2, hoff2, hxc2⟩, ha2, hbd2⟩, rfl, rfl, rfl⟩
  · skip
    have h20' : xv.length - off = 0 := by
      have h : ¬ (0 : Int) < ((xv.length - off : Nat) : Int) := by simpa using h20
      omega
    have hq0 : qs = [] := by
      have := congrArg List.length hxq
      simp at this
      exact List.eq_nil_of_length_eq_zero (by omega)
    subst hq0
    refine G.region rfl (fun R hR => ?_)
    iterate 2 refine D.pure rfl rfl rfl rfl rfl rfl ?_
    refine D.done [(4, [], _)] ⟨rfl, trivial⟩ (hR _ _ _ rfl ?_); clear hR R
    refine G.dropE 0 rfl ?_
    refine G.eqL (L' := [.arr (qS b15 N.length N.length) 4 1 N.length (rs.map encB).flatten]) (by rw [show (rs.map encB).flatten = rs.map boolV from flatten_map1 boolV _]; rfl) ?_
    refine G.freezeArr 0 (rs.map encB) rfl rfl (by intro r hr; obtain ⟨y, _, rfl⟩ := List.mem_map.1 hr; rfl) (by rw [List.length_map]; exact hbf.len) (fun Cf hf hsd => ?_)
    refine G.retN (G.dropAll (G.fin1 rfl rfl ?_))
    exact ⟨rfl, rs, hsd, hbf.len, hbf.end⟩
end Go.Proofs.YtddjibfmnkcalaaDoor
namespace Go.Proofs.YtddjibfmnkcalaaDoor
open Go Go.Jog
set_option maxRecDepth 100000

def ImpBy (A : List Arc3) (a b : Arc3) : Prop := (b.up = a.up ∧ b.i < a.i) ∨ (b.up ≠ a.up ∧ Reach A b.up a.up)
def Implied (A : List Arc3) (a : Arc3) : Prop := ∃ b ∈ nexts A a.lo, ImpBy A a b
theorem implied_fn (C : Mem) (p : Value) (N : List Str) (A : List Arc3) (a : Arc3) (hg : Graph C p N A) (hok : GOk N A) (ham : a ∈ A) :
    Pur cx.P 46 [p, .agg ⟨Arc3.enc a⟩] C fun u _ => ∃ t : Bool, u = .bool t ∧ (t = true ↔ Implied A a) := by
  have hgr := hg
  obtain ⟨b, bm, vn, va, vx, vs, hgp, hobj, hnames, hat, harcs, hnx, hlen, hrows⟩ := hg
  subst hgp
  obtain ⟨Ax, cxx, rfl, _⟩ := id hnx
  simp only [List.length_map] at hobj hnx
  have hb := hok.below
  have hAl := hok.arcs
  have hNl := hok.names
  obtain ⟨hlo, hup⟩ := hb a ham
  obtain ⟨v, hv⟩ : ∃ v, vs[a.lo]? = some v := ⟨vs[a.lo]'(by omega), List.getElem?_eq_getElem (by omega)⟩
  have hvr := hrows a.lo v hv
  obtain ⟨Av, cv, rfl, _⟩ := id hvr
  simp only [List.length_map] at hvr hv
  have hnl : (nexts A a.lo).length ≤ A.length := List.length_filter_le _ _
  have hrv : (vs.map fun v => [v])[a.lo]? = some [Value.slice Av (nexts A a.lo).length cv] := by rw [List.getElem?_map, hv]; rfl
  refine Fn.intro (by kernel_rfl) Tryd.func46 rfl 39 rfl rfl (fun w0 => ?_)
  refine G.region rfl (fun R hR => ?_)
  refine D.box rfl rfl rfl rfl rfl rfl (fun _ => rfl) (fun b3 => ?_)
  refine D.pure rfl rfl rfl rfl rfl rfl ?_
  refine D.done [(0, [], _), (3, [], _)] ⟨rfl, rfl, trivial⟩ (hR _ _ _ rfl ?_); clear hR R
  refine G.draw [0, 1, 2, 3, 4, 5, 6, 7, 8, 9] [] rfl (by kernel_rfl) (fun R hB hR => ?_)
  iterate 3 refine D.pure rfl rfl rfl rfl rfl rfl ?_
  refine D.loadP0 (PtrTo.block (Mem.get hobj (by (repeat (first | exact Mem.le.refl _ | assumption | (apply Mem.le.trans; rotate_left; assumption))))) _) rfl rfl rfl rfl rfl rfl rfl rfl ?_
  refine D.pure rfl rfl rfl rfl rfl rfl ?_
  refine D.loadL (.head _) rfl rfl rfl rfl rfl rfl rfl rfl rfl ?_
  refine D.index0 (hnx.mono (by (repeat (first | exact Mem.le.refl _ | assumption | (apply Mem.le.trans; rotate_left; assumption))))) rfl rfl rfl rfl rfl rfl rfl rfl rfl rfl (by omega) hrv (fun _ => rfl) (fun p13 hp13 => ?_)
  refine D.loadP0 hp13 rfl rfl rfl rfl rfl rfl rfl rfl ?_
  iterate 2 refine D.pure rfl rfl rfl rfl rfl rfl ?_
  refine D.done [(0, [], _), (3, [], _), (14, [], _), (15, [], _), (16, [], _)] ⟨rfl, rfl, rfl, rfl, rfl, trivial⟩ (hR _ _ _ rfl ?_); clear hR hB R
  refine G.loop (fun fr C' L' μ => ∃ (k : Nat), (k ≤ (nexts A a.lo).length ∧ ∀ x ∈ (nexts A a.lo).take k, ¬ ImpBy A a x) ∧ fr = [(0, [], .pointer (some ⟨b, 0, none⟩)), (3, [], .pointer (some ⟨b3, 0, none⟩)), (14, [], .slice Av (nexts A a.lo).length cv), (15, [], .int .i64 (nexts A a.lo).length), (16, [], .int .i64 k)] ∧ L' = [.obj b3 (.cells ⟨Arc3.enc a⟩ 80 (0, 0))] ∧ μ = (nexts A a.lo).length - k) (fr' := [(0, [], _), (3, [], _), (14, [], _), (15, [], _), (16, [], _)]) ⟨rfl, rfl, rfl, rfl, rfl, trivial⟩ ⟨0, ⟨Nat.zero_le _, fun x hx => by simp at hx⟩, rfl, rfl, rfl⟩ (fun fr C0' L0' m hle0 hI => ?_)
  obtain ⟨k, ⟨hk, hno⟩, rfl, rfl, rfl⟩ := hI
  refine G.region rfl (fun R hR => ?_)
  refine D.pure rfl rfl rfl rfl rfl rfl ?_
  refine D.done [(0, [], _), (3, [], _), (14, [], _), (15, [], _), (16, [], _), (17, [], _)] ⟨rfl, rfl, rfl, rfl, rfl, rfl, trivial⟩ (hR _ _ _ rfl ?_); clear hR R
  refine G.cond rfl (fun h17 => ?_) (fun h17 => ?_)
  · skip
    simp only [decide_eq_true_eq] at h17
    have hkl : k < (nexts A a.lo).length := by omega
    obtain ⟨x, hx⟩ : ∃ x, (nexts A a.lo)[k]? = some x := ⟨(nexts A a.lo)[k], List.getElem?_eq_getElem hkl⟩
    have hxm := List.mem_of_getElem? hx
    have hxn := mem_nexts.1 hxm
    obtain ⟨hxlo, hxup⟩ := hb x hxn.1
    have hrx : ((nexts A a.lo).map Arc3.enc)[k]? = some (Arc3.enc x) := by rw [List.getElem?_map, hx]; rfl
    have htk : (nexts A a.lo).take (k + 1) = (nexts A a.lo).take k ++ [x] := by rw [List.take_add_one, hx]; rfl
    have hnext : ¬ ImpBy A a x → ∀ y ∈ (nexts A a.lo).take (k + 1), ¬ ImpBy A a y := fun hn y hy => by
      rw [htk] at hy
      rcases List.mem_append.1 hy with h | h
      · exact hno y h
      · rw [List.mem_singleton.1 h]; exact hn
    refine G.region rfl (fun R hR => ?_)
    refine D.index0 (hvr.mono (by (repeat (first | exact Mem.le.refl _ | assumption | (apply Mem.le.trans; rotate_left; assumption))))) rfl rfl rfl rfl rfl rfl rfl rfl rfl rfl (by omega) hrx (fun _ => rfl) (fun p18 hp18 => ?_)
    refine D.loadP0 hp18 rfl rfl rfl rfl rfl rfl rfl rfl ?_
    refine D.alloc rfl rfl rfl rfl rfl (fun _ => rfl) (fun b6 => ?_)
    refine D.store (j := 0) rfl rfl rfl rfl rfl rfl rfl rfl rfl rfl rfl rfl ?_
    refine D.done [(0, [], _), (3, [], _), (6, [], _), (14, [], _), (15, [], _), (16, [], _)] ⟨rfl, rfl, rfl, rfl, rfl, rfl, trivial⟩ (hR _ _ _ rfl ?_); clear hR R
    refine G.region rfl (fun R hR => ?_)
    refine D.pure rfl rfl rfl rfl rfl rfl ?_
    refine D.loadL (.head _) rfl rfl rfl rfl rfl rfl rfl rfl rfl ?_
    refine D.pure rfl rfl rfl rfl rfl rfl ?_
    refine D.loadL (.tail _ (.head _)) rfl rfl rfl rfl rfl rfl rfl rfl rfl ?_
    refine D.pure rfl rfl rfl rfl rfl rfl ?_
    refine D.done [(0, [], _), (3, [], _), (6, [], _), (14, [], _), (15, [], _), (16, [], _), (24, [], _)] ⟨rfl, rfl, rfl, rfl, rfl, rfl, rfl, trivial⟩ (hR _ _ _ rfl ?_); clear hR R
    refine G.cond rfl (fun h24 => ?_) (fun h24 => ?_)
    · skip
      have h24' : x.up = a.up := by
        have h : (x.up : Int) = a.up := by simpa using h24
        omega
      refine G.region rfl (fun R hR => ?_)
      refine D.pure rfl rfl rfl rfl rfl rfl ?_
      refine D.loadL (.head _) rfl rfl rfl rfl rfl rfl rfl rfl rfl ?_
      refine D.pure rfl rfl rfl rfl rfl rfl ?_
      refine D.loadL (.tail _ (.head _)) rfl rfl rfl rfl rfl rfl rfl rfl rfl ?_
      refine D.pure rfl rfl rfl rfl rfl rfl ?_
      refine D.done [(0, [], _), (3, [], _), (14, [], _), (15, [], _), (16, [], _), (29, [], _)] ⟨rfl, rfl, rfl, rfl, rfl, rfl, trivial⟩ (hR _ _ _ rfl ?_); clear hR R
      refine G.cond rfl (fun h29 => ?_) (fun h29 => ?_)
      · skip
        have h29' : x.i < a.i := by
          have h : (x.i : Int) < a.i := by simpa using h29
          omega
        refine G.region rfl (fun R hR => ?_)
        refine D.pure rfl rfl rfl rfl rfl rfl ?_
        refine D.done [(4, [], _)] ⟨rfl, trivial⟩ (hR _ _ _ rfl ?_); clear hR R
        refine G.retN (G.dropAll (G.fin1 rfl rfl ?_))
        exact ⟨rfl, true, rfl, fun _ => ⟨x, hxm, .inl ⟨h24', h29'⟩⟩, fun _ => rfl⟩
      · skip
        have h29' : ¬ x.i < a.i := fun hh => by
          have : (false : Bool) = true := by rw [← h29]; simp [hh]
          cases this
        refine G.region rfl (fun R hR => ?_)
        refine D.i64 _ rfl rfl rfl rfl rfl (by omega) (by omega) rfl rfl ?_
        refine D.pure rfl rfl rfl rfl rfl rfl ?_
        refine D.done [(0, [], _), (3, [], _), (14, [], _), (15, [], _), (16, [], _)] ⟨rfl, rfl, rfl, rfl, rfl, trivial⟩ (hR _ _ _ rfl ?_); clear hR R
        refine G.dropE 0 rfl ?_
        refine G.again (m' := (nexts A a.lo).length - (k + 1)) (by omega) (by (repeat (first | exact Mem.le.refl _ | assumption | (apply Mem.le.trans; rotate_left; assumption)))) (fr' := [(0, [], _), (3, [], _), (14, [], _), (15, [], _), (16, [], _)]) ⟨rfl, rfl, rfl, rfl, rfl, trivial⟩ ⟨k + 1, ⟨by omega, hnext (fun h => by
          rcases h with h | h
          · exact h29' h.2
          · exact h.1 h24')⟩, rfl, rfl, rfl⟩
    · skip
      have h24' : ¬ x.up = a.up := fun hh => by
        have : (false : Bool) = true := by rw [← h24]; simp [hh]
        cases this
      refine G.draw [0, 1, 2, 4, 5, 3, 6, 7] [] rfl (by kernel_rfl) (fun R hB hR => ?_)
      iterate 2 refine D.pure rfl rfl rfl rfl rfl rfl ?_
      refine D.loadL (.head _) rfl rfl rfl rfl rfl rfl rfl rfl rfl ?_
      refine D.pure rfl rfl rfl rfl rfl rfl ?_
      refine D.loadL (.tail _ (.head _)) rfl rfl rfl rfl rfl rfl rfl rfl rfl ?_
      refine D.callP (reached_fn _ _ N A x.up (hgr.mono (by (repeat (first | exact Mem.le.refl _ | assumption | (apply Mem.le.trans; rotate_left; assumption))))) hok hxup) rfl rfl rfl rfl rfl rfl rfl (fun _ => rfl) (fun v33 C33 hle33 hq33 => ?_)
      obtain ⟨rs, hrs, hrl, hrr⟩ := hq33
      obtain ⟨Ar, cr, rfl, _⟩ := id hrs
      have hrw : (rs.map encB)[a.up]? = some [.bool (bAt rs a.up)] := by rw [List.getElem?_map, get_bAt (by omega)]; rfl
      refine D.index0 hrs rfl rfl rfl rfl rfl rfl rfl rfl rfl rfl (by omega) hrw (fun _ => rfl) (fun p36 hp36 => ?_)
      refine D.loadP0 hp36 rfl rfl rfl rfl rfl rfl rfl rfl ?_
      refine D.done [(0, [], _), (3, [], _), (14, [], _), (15, [], _), (16, [], _), (37, [], _)] ⟨rfl, rfl, rfl, rfl, rfl, rfl, trivial⟩ (hR _ _ _ rfl ?_); clear hR hB R
      refine G.cond rfl (fun h37 => ?_) (fun h37 => ?_)
      · skip
        have h37' : bAt rs a.up = true := h37
        refine G.region rfl (fun R hR => ?_)
        refine D.pure rfl rfl rfl rfl rfl rfl ?_
        refine D.done [(4, [], _)] ⟨rfl, trivial⟩ (hR _ _ _ rfl ?_); clear hR R
        refine G.retN (G.dropAll (G.fin1 rfl rfl ?_))
        exact ⟨rfl, true, rfl, fun _ => ⟨x, hxm, .inr ⟨h24', (hrr _).1 h37'⟩⟩, fun _ => rfl⟩
      · skip
        have h37' : bAt rs a.up = false := h37
        refine G.region rfl (fun R hR => ?_)
        refine D.i64 _ rfl rfl rfl rfl rfl (by omega) (by omega) rfl rfl ?_
        refine D.pure rfl rfl rfl rfl rfl rfl ?_
        refine D.done [(0, [], _), (3, [], _), (14, [], _), (15, [], _), (16, [], _)] ⟨rfl, rfl, rfl, rfl, rfl, trivial⟩ (hR _ _ _ rfl ?_); clear hR R
        refine G.dropE 0 rfl ?_
        refine G.again (m' := (nexts A a.lo).length - (k + 1)) (by omega) (by (repeat (first | exact Mem.le.refl _ | assumption | (apply Mem.le.trans; rotate_left; assumption)))) (fr' := [(0, [], _), (3, [], _), (14, [], _), (15, [], _), (16, [], _)]) ⟨rfl, rfl, rfl, rfl, rfl, trivial⟩ ⟨k + 1, ⟨by omega, hnext (fun h => by
          rcases h with h | h
          · exact h24' h.1
          · have := (hrr _).2 h.2
            rw [h37'] at this; cases this)⟩, rfl, rfl, rfl⟩
  · skip
    simp only [decide_eq_false_iff_not] at h17
    have hkl : k = (nexts A a.lo).length := by omega
    subst hkl
    rw [List.take_length] at hno
    refine G.region rfl (fun R hR => ?_)
    refine D.pure rfl rfl rfl rfl rfl rfl ?_
    refine D.done [(4, [], _)] ⟨rfl, trivial⟩ (hR _ _ _ rfl ?_); clear hR R
    refine G.retN (G.dropAll (G.fin1 rfl rfl ?_))
    exact ⟨rfl, false, rfl, (fun h => (by cases h)), fun ⟨x, hx, hi⟩ => absurd hi (hno x hx)⟩

/-- The arcs that are not implied. -/
def IsRed (A T q : List Arc3) : Prop := q.Sublist T ∧ ∀ a ∈ T, a ∈ q ↔ ¬ Implied A a
def RedRes (C : Mem) (l : List Rel) (r : Value) : Prop :=
  (errU l ≠ 0 ∧ r = .tuple #[nilV, .int .i64 (errU l)]) ∨ (errU l = 0 ∧ Back (arcsOf l) ∧ r = .tuple #[nilV, .int .i64 27]) ∨
  (errU l = 0 ∧ ¬ Back (arcsOf l) ∧ ∃ q v, IsRed (arcsOf l) (arcsOf l) q ∧ r = .tuple #[v, .int .i64 0] ∧ Sl C 1 v ((nums q).map encN))
theorem Graph.parts {C : Mem} {p : Value} {N : List Str} {A : List Arc3} (h : Graph C p N A) : ∃ b An cn x2 Aa ca x4, p = .pointer (some ⟨b, 0, none⟩) ∧ C b = some (.cells ⟨[.slice An N.length cn, x2, .slice Aa A.length ca, x4]⟩ 77 (0, 0)) ∧ Sl C 1 (.slice An N.length cn) (N.map encS) ∧ Sl C 3 (.slice Aa A.length ca) (A.map Arc3.enc) := by
  obtain ⟨b, bm, vn, va, vx, vs, hgp, hobj, hnames, hat, harcs, hnx, hlen, hrows⟩ := h
  obtain ⟨An, cn, rfl, _⟩ := id hnames
  obtain ⟨Aa, ca, rfl, _⟩ := id harcs
  simp only [List.length_map] at hobj hnames harcs
  exact ⟨b, An, cn, _, Aa, ca, _, hgp, hobj, hnames, harcs⟩
set_option maxHeartbeats 1000000 in
theorem reduction_fn (C : Mem) (v : Value) (l : List Rel) (hv : Sl C 3 v (l.map Rel.enc)) (hl : l.length ≤ 100000) (hsh : ∀ x ∈ l, x.short) : Pur cx.P 21 [v] C fun r C' => RedRes C' l r := by
  obtain ⟨A, hA⟩ : ∃ A, arcsOf l = A := ⟨_, rfl⟩
  obtain ⟨N, hN⟩ : ∃ N, unitsL l = N := ⟨_, rfl⟩
  have hok := gok_of hl
  rw [hA, hN] at hok
  refine Fn.intro (by kernel_rfl) Tryd.func21 rfl 45 rfl rfl (fun w0 => ?_)
  refine G.region rfl (fun R hR => ?_)
  iterate 2 refine D.pure rfl rfl rfl rfl rfl rfl ?_
  refine D.done [(0, [], _)] ⟨rfl, trivial⟩ (hR _ _ _ rfl ?_); clear hR R
  refine G.region rfl (fun R hR => ?_)
  refine D.pure rfl rfl rfl rfl rfl rfl ?_
  refine D.gives2 (check_fn _ _ l hv hl hsh) rfl rfl rfl rfl rfl rfl rfl (fun _ => rfl) ?_
  refine D.pure rfl rfl rfl rfl rfl rfl ?_
  refine D.done [(0, [], _), (4, [], _)] ⟨rfl, rfl, trivial⟩ (hR _ _ _ rfl ?_); clear hR R
  refine G.region rfl (fun R hR => ?_)
  iterate 2 refine D.pure rfl rfl rfl rfl rfl rfl ?_
  refine D.done [(0, [], _), (4, [], _), (14, [], _)] ⟨rfl, rfl, rfl, trivial⟩ (hR _ _ _ rfl ?_); clear hR R
  refine G.cond rfl (fun h14 => ?_) (fun h14 => ?_)
  · skip
    have h14' : errU l ≠ 0 := by simpa using h14
    refine G.region rfl (fun R hR => ?_)
    iterate 3 refine D.pure rfl rfl rfl rfl rfl rfl ?_
    refine D.done [(2, [], _), (3, [], _)] ⟨rfl, rfl, trivial⟩ (hR _ _ _ rfl ?_); clear hR R
    refine G.retN (G.dropAll (G.fin2 rfl rfl rfl ?_))
    exact ⟨rfl, .inl ⟨h14', rfl⟩⟩
  · skip
    have h14' : errU l = 0 := by simpa using h14
    refine G.region rfl (fun R hR => ?_)
    refine D.pure rfl rfl rfl rfl rfl rfl ?_
    refine D.callP (build_fn _ _ l (hv.mono (by (repeat (first | exact Mem.le.refl _ | assumption | (apply Mem.le.trans; rotate_left; assumption))))) hl) rfl rfl rfl rfl rfl rfl rfl (fun _ => rfl) (fun v17 C17 hle17 hq17 => ?_)
    have hgr : Graph C17 v17 N A := by rw [← hA, ← hN]; exact hq17
    refine D.pure rfl rfl rfl rfl rfl rfl ?_
    refine D.done [(5, [], _)] ⟨rfl, trivial⟩ (hR _ _ _ rfl ?_); clear hR R
    obtain ⟨b, An, cn, x2, Aa, ca, x4, hgp, hobj, hnames, harcs⟩ := hgr.parts
    subst hgp
    refine G.region rfl (fun R hR => ?_)
    refine D.pure rfl rfl rfl rfl rfl rfl ?_
    refine D.callP (sorted_fn _ _ N A hgr hok) rfl rfl rfl rfl rfl rfl rfl (fun _ => rfl) (fun v20 C20 hle20 hq20 => ?_)
    obtain ⟨vo, o, ok, rfl, hso, hol, hon, hout⟩ := hq20
    iterate 5 refine D.pure rfl rfl rfl rfl rfl rfl ?_
    refine D.done [(5, [], _), (7, [], _)] ⟨rfl, rfl, trivial⟩ (hR _ _ _ rfl ?_); clear hR R
    refine G.region rfl (fun R hR => ?_)
    iterate 2 refine D.pure rfl rfl rfl rfl rfl rfl ?_
    refine D.done [(5, [], _), (24, [], _)] ⟨rfl, rfl, trivial⟩ (hR _ _ _ rfl ?_); clear hR R
    refine G.cond rfl (fun h24 => ?_) (fun h24 => ?_)
    · skip
      have h24' : ok = false := by simpa using h24
      subst h24'
      refine G.region rfl (fun R hR => ?_)
      iterate 2 refine D.pure rfl rfl rfl rfl rfl rfl ?_
      refine D.done [(2, [], _), (3, [], _)] ⟨rfl, rfl, trivial⟩ (hR _ _ _ rfl ?_); clear hR R
      refine G.retN (G.dropAll (G.fin2 rfl rfl rfl ?_))
      refine ⟨rfl, .inr (.inl ⟨h14', ?_, rfl⟩)⟩
      rw [hA]
      rcases hout with ⟨h, _⟩ | ⟨_, h⟩
      · cases h
      · exact h
    · skip
      have h24' : ok = true := by simpa using h24
      subst h24'
      have hnb : ¬ Back A := by
        rcases hout with ⟨_, h⟩ | ⟨h, _⟩
        · exact fun ⟨k, w, h1, h2⟩ => h.1.acyc hok.below k w h1 h2
        · cases h
      refine G.region rfl (fun R hR => ?_)
      refine D.pure rfl rfl rfl rfl rfl rfl ?_
      refine D.done [(5, [], _), (8, [], _)] ⟨rfl, rfl, trivial⟩ (hR _ _ _ rfl ?_); clear hR R
      refine G.region rfl (fun R hR => ?_)
      iterate 3 refine D.pure rfl rfl rfl rfl rfl rfl ?_
      refine D.loadP0 (PtrTo.block (Mem.get hobj (by (repeat (first | exact Mem.le.refl _ | assumption | (apply Mem.le.trans; rotate_left; assumption))))) _) rfl rfl rfl rfl rfl rfl rfl rfl ?_
      iterate 2 refine D.pure rfl rfl rfl rfl rfl rfl ?_
      refine D.done [(5, [], _), (8, [], _), (28, [], _), (29, [], _), (30, [], _)] ⟨rfl, rfl, rfl, rfl, rfl, trivial⟩ (hR _ _ _ rfl ?_); clear hR R
      have hAl := hok.arcs
      refine G.nilArr 3 1 ?_
      refine G.loop (fun fr C' L' μ => ∃ (k : Nat) (w : Value) (q : List Arc3), (k ≤ A.length ∧ IsRed A (A.take k) q) ∧ fr = [(5, [], .pointer (some ⟨b, 0, none⟩)), (8, [], w), (28, [], .slice Aa A.length ca), (29, [], .int .i64 A.length), (30, [], .int .i64 k)] ∧ L' = [.arr w 3 1 q.length ((nums q).map intN)] ∧ μ = A.length - k) (fr' := [(5, [], _), (8, [], _), (28, [], _), (29, [], _), (30, [], _)]) ⟨rfl, rfl, rfl, rfl, rfl, trivial⟩ ⟨0, _, [], ⟨Nat.zero_le _, List.Sublist.refl _, fun a ha => by simp at ha⟩, rfl, rfl, rfl⟩ (fun fr C0' L0' m hle0 hI => ?_)
      obtain ⟨k, w, q, ⟨hk, hq⟩, rfl, rfl, rfl⟩ := hI
      refine G.region rfl (fun R hR => ?_)
      refine D.pure rfl rfl rfl rfl rfl rfl ?_
      refine D.done [(5, [], _), (8, [], _), (28, [], _), (29, [], _), (30, [], _), (31, [], _)] ⟨rfl, rfl, rfl, rfl, rfl, rfl, trivial⟩ (hR _ _ _ rfl ?_); clear hR R
      refine G.cond rfl (fun h31 => ?_) (fun h31 => ?_)
      · skip
        simp only [decide_eq_true_eq] at h31
        have hkl : k < A.length := by omega
        obtain ⟨a, ha⟩ : ∃ a, A[k]? = some a := ⟨A[k], List.getElem?_eq_getElem hkl⟩
        have hamem : a ∈ A := List.mem_of_getElem? ha
        have hra : (A.map Arc3.enc)[k]? = some (Arc3.enc a) := by rw [List.getElem?_map, ha]; rfl
        have htk : A.take (k + 1) = A.take k ++ [a] := by rw [List.take_add_one, ha]; rfl
        have hql : q.length ≤ k := by have := hq.1.length_le; rw [List.length_take] at this; omega
        have hat : a ∉ A.take k := fun hm => by
          obtain ⟨j, hj⟩ := List.getElem?_of_mem hm
          rw [List.getElem?_take] at hj
          split at hj
          · rename_i hjk
            obtain ⟨a1, a2⟩ := List.getElem?_eq_some_iff.1 hj
            obtain ⟨b1, b2⟩ := List.getElem?_eq_some_iff.1 ha
            have := List.pairwise_iff_getElem.1 hok.ix j k a1 b1 hjk
            rw [a2, b2] at this; omega
          · cases hj
        refine G.region rfl (fun R hR => ?_)
        refine D.index0 (harcs.mono (by (repeat (first | exact Mem.le.refl _ | assumption | (apply Mem.le.trans; rotate_left; assumption))))) rfl rfl rfl rfl rfl rfl rfl rfl rfl rfl (by omega) hra (fun _ => rfl) (fun p32 hp32 => ?_)
        refine D.loadP0 hp32 rfl rfl rfl rfl rfl rfl rfl rfl ?_
        refine D.alloc rfl rfl rfl rfl rfl (fun _ => rfl) (fun b10 => ?_)
        refine D.store (j := 0) rfl rfl rfl rfl rfl rfl rfl rfl rfl rfl rfl rfl ?_
        refine D.done [(5, [], _), (8, [], _), (10, [], _), (28, [], _), (29, [], _), (30, [], _)] ⟨rfl, rfl, rfl, rfl, rfl, rfl, trivial⟩ (hR _ _ _ rfl ?_); clear hR R
        refine G.region rfl (fun R hR => ?_)
        refine D.pure rfl rfl rfl rfl rfl rfl ?_
        refine D.loadL (.head _) rfl rfl rfl rfl rfl rfl rfl rfl rfl ?_
        refine D.callP (implied_fn _ _ N A a (hgr.mono (by (repeat (first | exact Mem.le.refl _ | assumption | (apply Mem.le.trans; rotate_left; assumption))))) hok hamem) rfl rfl rfl rfl rfl rfl rfl (fun _ => rfl) (fun v36 C36 hle36 hq36 => ?_)
        obtain ⟨t, rfl, ht⟩ := hq36
        refine D.pure rfl rfl rfl rfl rfl rfl ?_
        refine D.done [(5, [], _), (8, [], _), (10, [], _), (28, [], _), (29, [], _), (30, [], _), (37, [], _)] ⟨rfl, rfl, rfl, rfl, rfl, rfl, rfl, trivial⟩ (hR _ _ _ rfl ?_); clear hR R
        refine G.cond rfl (fun h37 => ?_) (fun h37 => ?_)
        · skip
          have h37' : t = false := by simpa using h37
          subst h37'
          have hni : ¬ Implied A a := fun h => by have := ht.2 h; cases this
          refine G.region rfl (fun R hR => ?_)
          iterate 2 refine D.pure rfl rfl rfl rfl rfl rfl ?_
          refine D.loadL (.head _) rfl rfl rfl rfl rfl rfl rfl rfl rfl ?_
          refine D.buildSlice [[.int .i64 a.i]] rfl rfl rfl rfl rfl rfl rfl rfl rfl rfl rfl rfl (fun _ => rfl) (fun p41 C41 hle41 hs41 => ?_)
          refine D.append (j := 1) rfl rfl rfl rfl rfl rfl rfl rfl rfl rfl rfl hs41 rfl (by simp only [List.length_singleton, maxLen]; omega) (by simp only [List.length_singleton]; omega) (fun _ => rfl) (fun v42 => ?_)
          refine D.pure rfl rfl rfl rfl rfl rfl ?_
          refine D.done [(5, [], _), (8, [], _), (28, [], _), (29, [], _), (30, [], _)] ⟨rfl, rfl, rfl, rfl, rfl, trivial⟩ (hR _ _ _ rfl ?_); clear hR R
          refine G.region rfl (fun R hR => ?_)
          refine D.i64 _ rfl rfl rfl rfl rfl (by omega) (by omega) rfl rfl ?_
          refine D.pure rfl rfl rfl rfl rfl rfl ?_
          refine D.done [(5, [], _), (8, [], _), (28, [], _), (29, [], _), (30, [], _)] ⟨rfl, rfl, rfl, rfl, rfl, trivial⟩ (hR _ _ _ rfl ?_); clear hR R
          refine G.dropE 1 rfl ?_
          refine G.eqL (L' := [.arr v42 3 1 (q ++ [a]).length ((nums (q ++ [a])).map intN)]) (by simp [nums]) ?_
          refine G.again (m' := A.length - (k + 1)) (by omega) (by (repeat (first | exact Mem.le.refl _ | assumption | (apply Mem.le.trans; rotate_left; assumption)))) (fr' := [(5, [], _), (8, [], _), (28, [], _), (29, [], _), (30, [], _)]) ⟨rfl, rfl, rfl, rfl, rfl, trivial⟩ ⟨k + 1, v42, q ++ [a], ⟨by omega, by rw [htk]; exact hq.1.append (List.Sublist.refl _), fun y hy => by
            rw [htk] at hy
            rcases List.mem_append.1 hy with h | h
            · rw [List.mem_append, hq.2 y h]
              exact ⟨fun h2 => h2.elim id (fun h3 => by rw [List.mem_singleton.1 h3] at h; exact absurd h hat), .inl⟩
            · rw [List.mem_singleton.1 h]
              exact ⟨fun _ => hni, fun _ => by simp⟩⟩, rfl, rfl, rfl⟩
        · skip
          have h37' : t = true := by simpa using h37
          subst h37'
          have hni : Implied A a := ht.1 rfl
          refine G.region rfl (fun R hR => ?_)
          refine D.i64 _ rfl rfl rfl rfl rfl (by omega) (by omega) rfl rfl ?_
          refine D.pure rfl rfl rfl rfl rfl rfl ?_
          refine D.done [(5, [], _), (8, [], _), (28, [], _), (29, [], _), (30, [], _)] ⟨rfl, rfl, rfl, rfl, rfl, trivial⟩ (hR _ _ _ rfl ?_); clear hR R
          refine G.dropE 0 rfl ?_
          refine G.again (m' := A.length - (k + 1)) (by omega) (by (repeat (first | exact Mem.le.refl _ | assumption | (apply Mem.le.trans; rotate_left; assumption)))) (fr' := [(5, [], _), (8, [], _), (28, [], _), (29, [], _), (30, [], _)]) ⟨rfl, rfl, rfl, rfl, rfl, trivial⟩ ⟨k + 1, w, q, ⟨by omega, by rw [htk]; exact hq.1.trans (List.sublist_append_left _ _), fun y hy => by
            rw [htk] at hy
            rcases List.mem_append.1 hy with h | h
            · exact hq.2 y h
            · rw [List.mem_singleton.1 h]
              exact ⟨fun h2 => absurd (hq.1.subset h2) hat, fun h2 => absurd hni h2⟩⟩, rfl, rfl, rfl⟩
      · skip
        simp only [decide_eq_false_iff_not] at h31
        have hkl : k = A.length := by omega
        subst hkl
        rw [List.take_length] at hq
        refine G.region rfl (fun R hR => ?_)
        iterate 3 refine D.pure rfl rfl rfl rfl rfl rfl ?_
        refine D.done [(2, [], _), (3, [], _)] ⟨rfl, rfl, trivial⟩ (hR _ _ _ rfl ?_); clear hR R
        refine G.eqL (L' := [.arr w 3 1 q.length ((nums q).map encN).flatten]) (by rw [show ((nums q).map encN).flatten = (nums q).map intN from flatten_map1 intN _]) ?_
        refine G.freezeArr 0 ((nums q).map encN) rfl rfl (by intro r hr; obtain ⟨y, _, rfl⟩ := List.mem_map.1 hr; rfl) (by simp [nums]) (fun Cf hf hsd => ?_)
        refine G.retN (G.dropAll (G.fin2 rfl rfl rfl ?_))
        exact ⟨rfl, .inr (.inr ⟨h14', by rw [hA]; exact hnb, q, w, by rw [hA]; exact hq, rfl, hsd⟩)⟩
end Go.Proofs.YtddjibfmnkcalaaDoor
namespace Go.Proofs.YtddjibfmnkcalaaDoor
open Go Go.Jog
set_option maxRecDepth 100000

def freeB (A : List Arc3) (dn : List Nat) (i : Nat) : Bool := decide (cnt A dn i = 0) && !decide (i ∈ dn)
def extF (A : List Arc3) (n : Nat) : Nat → List Nat → List (List Nat)
  | 0, dn => [dn]
  | f + 1, dn => cat (fun i => if freeB A dn i = true then extF A n f (dn ++ [i]) else []) n
def OutAt (C : Mem) (N : List Str) (ov : List Value) (outs : List (List Nat)) : Prop :=
  ov.length = outs.length ∧ ∀ (j : Nat) (v : Value) (o : List Nat), ov[j]? = some v → outs[j]? = some o → Sl C 1 v ((o.map (nameAt N)).map encS)
theorem OutAt.mono {C D : Mem} {N : List Str} {ov : List Value} {outs : List (List Nat)} (h : OutAt C N ov outs) (hl : C.le D) : OutAt D N ov outs := ⟨h.1, fun j v o h1 h2 => (h.2 j v o h1 h2).mono hl⟩
theorem OutAt.snoc {C : Mem} {N : List Str} {ov : List Value} {outs : List (List Nat)} {v : Value} {o : List Nat} (h : OutAt C N ov outs) (hv : Sl C 1 v ((o.map (nameAt N)).map encS)) : OutAt C N (ov ++ [v]) (outs ++ [o]) := by
  have h0 := h.1
  refine ⟨by simp [h0], fun j v' o' h1 h2 => ?_⟩
  rcases Nat.lt_or_ge j ov.length with hlt | hge
  · rw [List.getElem?_append_left hlt] at h1
    rw [List.getElem?_append_left (by omega)] at h2
    exact h.2 j v' o' h1 h2
  · rw [List.getElem?_append_right hge] at h1
    rw [List.getElem?_append_right (by omega), ← h0] at h2
    cases hj : j - ov.length with
    | zero => rw [hj] at h1 h2; simp at h1 h2; subst h1; subst h2; exact hv
    | succ q => rw [hj] at h1; simp at h1
theorem upC_pos {A : List Arc3} {dn cs : List Nat} {i j : Nat} {a : Arc3} (h1 : hAt cs a.up + upC ((nexts A i).take j) a.up = cnt A dn a.up) (ha : (nexts A i)[j]? = some a) (hi : i ∉ dn) : 1 ≤ hAt cs a.up := by
  have h2 := cnt_snoc (A := A) (u := a.up) hi
  have h3 : upC ((nexts A i).take (j + 1)) a.up ≤ upC (nexts A i) a.up := (List.take_sublist _ _).countP_le
  rw [List.take_add_one, ha] at h3
  have h4 := upC_snoc (T := (nexts A i).take j) (a := a) (u := a.up)
  rw [if_pos rfl] at h4
  have h5 : upC ((nexts A i).take j ++ (some a).toList) a.up = upC ((nexts A i).take j) a.up + 1 := h4
  rw [h5] at h3
  have h6 : (nexts A i).countP (fun b => decide (b.up = a.up)) = upC (nexts A i) a.up := rfl
  omega
abbrev cArr (g : Nat) (N : List Str) (cs : List Nat) : Ent := .arr (qS g N.length N.length) 3 1 N.length (cs.map intN)
abbrev oObj (b : Nat) (w : Value) : Ent := .obj b (.cells ⟨[w]⟩ 41 (0, 0))
abbrev oArr (w : Value) (ov : List Value) : Ent := .arr w 38 1 ov.length ov
def ExtPost (A : List Arc3) (N : List Str) (gc bo limit fuel : Nat) (dn : List Nat) (outs : List (List Nat)) (u : Value) (C' : Mem) (L' : List Ent) : Prop :=
  ∃ (ok : Bool) (cs' : List Nat) (w' : Value) (ov' : List Value), u = .bool ok ∧ L' = [cArr gc N cs', oObj bo w', oArr w' ov'] ∧ cs'.length = N.length ∧ (∀ v, v < N.length → hAt cs' v = cnt A dn v) ∧
    (ok = true → outs.length + (extF A N.length fuel dn).length ≤ limit ∧ OutAt C' N ov' (outs ++ extF A N.length fuel dn)) ∧ (ok = false → limit < outs.length + (extF A N.length fuel dn).length)

set_option maxHeartbeats 4000000 in
theorem extend_fn (N : List Str) (A : List Arc3) (hok : GOk N A) (gc bo limit : Nat) (hlim : limit ≤ 1000) : ∀ (fuel : Nat) (C : Mem) (p bv w : Value) (dn cs : List Nat) (ov : List Value) (outs : List (List Nat)), Graph C p N A → Sl C 1 bv (dn.map encN) → dn.Nodup → (∀ x ∈ dn, x < N.length) →
    dn.length + fuel = N.length → cs.length = N.length → (∀ u, u < N.length → hAt cs u = cnt A dn u) → OutAt C N ov outs → outs.length ≤ limit →
    Jog.Fn cx.P 40 [p, bv, qS gc N.length N.length, .pointer (some ⟨bo, 0, none⟩), .int .i64 limit] C [cArr gc N cs, oObj bo w, oArr w ov] (ExtPost A N gc bo limit fuel dn outs) := by
  intro fuel
  induction fuel using Nat.strongRecOn with
  | _ fuel ih =>
  intro C p bv w dn cs ov outs hg hbv hnd hdn hfu hcl hcs hout hol
  have hgr := hg
  obtain ⟨b, bm, vn, va, vx, vs, hgp, hobj, hnames, hat, harcs, hnx, hlen, hrows⟩ := hg
  subst hgp
  obtain ⟨An, cn, rfl, _⟩ := id hnames
  obtain ⟨Ax, cxx, rfl, _⟩ := id hnx
  obtain ⟨Ab, cb, rfl, hlb, hcbm, _⟩ := id hbv
  simp only [List.length_map] at hobj hnx hnames hbv hlb ⊢
  have hb := hok.below
  have hAl := hok.arcs
  have hNl := hok.names
  have hov := hout.1
  refine Fn.intro (by kernel_rfl) Tryd.func40 rfl 116 rfl rfl (fun w0 => ?_)
  refine G.rowSlice 2 rfl (fun Aw cw he => ?_)
  subst he
  refine G.eqL (L' := [.arr (qS gc N.length N.length) 3 1 N.length (cs.map intN), .obj bo (.cells ⟨[.slice Aw ov.length cw]⟩ 41 (0, 0)), .arr (.slice Aw ov.length cw) 38 1 ov.length ov]) rfl ?_
  refine G.region rfl (fun R hR => ?_)
  refine D.pure rfl rfl rfl rfl rfl rfl ?_
  refine D.done [(0, [], _), (1, [], _), (2, [], _), (3, [], _), (4, [], _)] ⟨rfl, rfl, rfl, rfl, rfl, trivial⟩ (hR _ _ _ rfl ?_); clear hR R
  refine G.region rfl (fun R hR => ?_)
  iterate 5 refine D.pure rfl rfl rfl rfl rfl rfl ?_
  refine D.loadP0 (PtrTo.block (Mem.get hobj (by (repeat (first | exact Mem.le.refl _ | assumption | (apply Mem.le.trans; rotate_left; assumption))))) _) rfl rfl rfl rfl rfl rfl rfl rfl ?_
  iterate 2 refine D.pure rfl rfl rfl rfl rfl rfl ?_
  refine D.done [(0, [], _), (1, [], _), (2, [], _), (3, [], _), (4, [], _), (24, [], _)] ⟨rfl, rfl, rfl, rfl, rfl, rfl, trivial⟩ (hR _ _ _ rfl ?_); clear hR R
  refine G.cond rfl (fun h24 => ?_) (fun h24 => ?_)
  · skip
    have h24' : dn.length = N.length := by
      have h : (dn.length : Int) = N.length := by simpa using h24
      omega
    obtain rfl : fuel = 0 := by omega
    refine G.region rfl (fun R hR => ?_)
    iterate 2 refine D.pure rfl rfl rfl rfl rfl rfl ?_
    refine D.loadL (.tail _ (.head _)) rfl rfl rfl rfl rfl rfl rfl rfl rfl ?_
    iterate 3 refine D.pure rfl rfl rfl rfl rfl rfl ?_
    refine D.done [(0, [], _), (1, [], _), (3, [], _), (30, [], _)] ⟨rfl, rfl, rfl, rfl, trivial⟩ (hR _ _ _ rfl ?_); clear hR R
    refine G.cond rfl (fun h30 => ?_) (fun h30 => ?_)
    · skip
      have h30' : ov.length = limit := by
        have h : (ov.length : Int) = limit := by simpa using h30
        omega
      refine G.region rfl (fun R hR => ?_)
      refine D.pure rfl rfl rfl rfl rfl rfl ?_
      refine D.done [(10, [], _)] ⟨rfl, trivial⟩ (hR _ _ _ rfl ?_); clear hR R
      refine G.retN (G.fin1 rfl rfl ?_)
      exact ⟨false, cs, _, ov, rfl, rfl, hcl, hcs, (fun h => (by cases h)), fun _ => by simp only [extF, List.length_singleton]; omega⟩
    · skip
      have h30' : ¬ ov.length = limit := fun hh => by
        have : (false : Bool) = true := by rw [← h30]; simp [hh]
        cases this
      refine G.draw [0, 1, 2, 3, 4, 5, 6, 7, 8, 9, 10] [] rfl (by kernel_rfl) (fun R hB hR => ?_)
      iterate 3 refine D.pure rfl rfl rfl rfl rfl rfl ?_
      refine D.loadL (.tail _ (.head _)) rfl rfl rfl rfl rfl rfl rfl rfl rfl ?_
      iterate 2 refine D.pure rfl rfl rfl rfl rfl rfl ?_
      refine D.callP (name_fn _ _ _ N A dn (hgr.mono (by (repeat (first | exact Mem.le.refl _ | assumption | (apply Mem.le.trans; rotate_left; assumption))))) (hbv.mono (by (repeat (first | exact Mem.le.refl _ | assumption | (apply Mem.le.trans; rotate_left; assumption))))) hdn (by omega)) rfl rfl rfl rfl rfl rfl rfl (fun _ => rfl) (fun v37 C37 hle37 hq37 => ?_)
      obtain ⟨A37, c37, rfl, _⟩ := id hq37
      refine D.buildSlice [[.slice A37 ((dn.map (nameAt N)).map encS).length c37]] rfl rfl rfl rfl rfl rfl rfl rfl rfl rfl rfl rfl (fun _ => rfl) (fun p38 C38 hle38 hs38 => ?_)
      refine D.appendF (j := 2) rfl rfl rfl rfl rfl rfl rfl rfl rfl rfl rfl hs38 rfl (by simp only [List.length_singleton, maxLen]; omega) (by simp only [List.length_singleton]; omega) (fun _ => rfl) (fun A39 n39 c39 => ?_)
      refine D.pure rfl rfl rfl rfl rfl rfl ?_
      refine D.store (j := 2) rfl rfl rfl rfl rfl rfl rfl rfl rfl rfl rfl rfl ?_
      refine D.done [] trivial (hR _ _ _ rfl ?_); clear hR hB R
      refine G.region rfl (fun R hR => ?_)
      refine D.pure rfl rfl rfl rfl rfl rfl ?_
      refine D.done [(10, [], _)] ⟨rfl, trivial⟩ (hR _ _ _ rfl ?_); clear hR R
      refine G.perm (L' := [cArr gc N cs, oObj bo (.slice A39 n39 c39), oArr (.slice A39 n39 c39) (ov ++ [.slice A37 ((dn.map (nameAt N)).map encS).length c37])]) (by rw [show oArr (.slice A39 n39 c39) (ov ++ [.slice A37 ((dn.map (nameAt N)).map encS).length c37]) = .arr (.slice A39 n39 c39) 38 1 (ov.length + 1) (ov ++ [.slice A37 ((dn.map (nameAt N)).map encS).length c37]) by simp [oArr]]; (refine (ent_perm (j := 2) rfl).trans (List.Perm.cons _ ?_); refine (ent_perm (j := 0) rfl).trans (List.Perm.cons _ ?_); refine (ent_perm (j := 0) rfl).trans (List.Perm.cons _ ?_); exact List.Perm.refl _)) ?_
      refine G.retN (G.fin1 rfl rfl ?_)
      exact ⟨true, cs, .slice A39 n39 c39, ov ++ [.slice A37 ((dn.map (nameAt N)).map encS).length c37], rfl, rfl, hcl, hcs, fun _ => ⟨by simp only [extF, List.length_singleton]; omega, (hout.mono (by (repeat (first | exact Mem.le.refl _ | assumption | (apply Mem.le.trans; rotate_left; assumption))))).snoc (hq37.mono (by (repeat (first | exact Mem.le.refl _ | assumption | (apply Mem.le.trans; rotate_left; assumption)))))⟩, (fun h => (by cases h))⟩
  · skip
    have h24' : ¬ dn.length = N.length := fun hh => by
      have : (false : Bool) = true := by rw [← h24]; simp [hh]
      cases this
    obtain ⟨f, rfl⟩ : ∃ f, fuel = f + 1 := ⟨fuel - 1, by omega⟩
    obtain ⟨F, hF⟩ : ∃ F, (fun i => if freeB A dn i = true then extF A N.length f (dn ++ [i]) else []) = F := ⟨_, rfl⟩
    have hext : extF A N.length (f + 1) dn = cat F N.length := by rw [extF, hF]
    refine G.region rfl (fun R hR => ?_)
    iterate 3 refine D.pure rfl rfl rfl rfl rfl rfl ?_
    refine D.loadP0 (PtrTo.block (Mem.get hobj (by (repeat (first | exact Mem.le.refl _ | assumption | (apply Mem.le.trans; rotate_left; assumption))))) _) rfl rfl rfl rfl rfl rfl rfl rfl ?_
    iterate 2 refine D.pure rfl rfl rfl rfl rfl rfl ?_
    refine D.done [(0, [], _), (1, [], _), (2, [], _), (3, [], _), (4, [], _), (45, [], _), (46, [], _)] ⟨rfl, rfl, rfl, rfl, rfl, rfl, rfl, trivial⟩ (hR _ _ _ rfl ?_); clear hR R
    refine G.loop (fun fr C' L' μ => ∃ (k : Nat) (cs : List Nat) (w : Value) (ov : List Value), (k ≤ N.length ∧ cs.length = N.length ∧ (∀ u, u < N.length → hAt cs u = cnt A dn u) ∧ outs.length + (cat F k).length ≤ limit ∧ OutAt C' N ov (outs ++ cat F k)) ∧ fr = [(0, [], .pointer (some ⟨b, 0, none⟩)), (1, [], .slice Ab dn.length cb), (2, [], qS gc N.length N.length), (3, [], .pointer (some ⟨bo, 0, none⟩)), (4, [], .int .i64 limit), (45, [], .int .i64 N.length), (46, [], .int .i64 k)] ∧ L' = [.arr (qS gc N.length N.length) 3 1 N.length (cs.map intN), .obj bo (.cells ⟨[w]⟩ 41 (0, 0)), .arr w 38 1 ov.length ov] ∧ μ = N.length - k) (fr' := [(0, [], _), (1, [], _), (2, [], _), (3, [], _), (4, [], _), (45, [], _), (46, [], _)]) ⟨rfl, rfl, rfl, rfl, rfl, rfl, rfl, trivial⟩ ⟨0, cs, _, ov, ⟨Nat.zero_le _, hcl, hcs, hol, by rw [cat, List.append_nil]; exact hout.mono (by (repeat (first | exact Mem.le.refl _ | assumption | (apply Mem.le.trans; rotate_left; assumption))))⟩, rfl, rfl, rfl⟩ (fun fr C0' L0' m hle0 hI => ?_)
    obtain ⟨k, cs, w, ov, ⟨hk, hcl2, hcs2, hlm, hout2⟩, rfl, rfl, rfl⟩ := hI
    refine G.region rfl (fun R hR => ?_)
    refine D.pure rfl rfl rfl rfl rfl rfl ?_
    refine D.done [(0, [], _), (1, [], _), (2, [], _), (3, [], _), (4, [], _), (45, [], _), (46, [], _), (47, [], _)] ⟨rfl, rfl, rfl, rfl, rfl, rfl, rfl, rfl, trivial⟩ (hR _ _ _ rfl ?_); clear hR R
    refine G.cond rfl (fun h47 => ?_) (fun h47 => ?_)
    · skip
      simp only [decide_eq_true_eq] at h47
      have hkl : k < N.length := by omega
      have hsk : ∀ x, F k = x → cat F (k + 1) = cat F k ++ x := fun x hx => by rw [cat_succ, hx]
      have hF1 : freeB A dn k = false → F k = [] := fun h => by rw [← hF]; simp [h]
      have hF2 : freeB A dn k = true → F k = extF A N.length f (dn ++ [k]) := fun h => by rw [← hF]; simp [h]
      refine G.region rfl (fun R hR => ?_)
      iterate 2 refine D.pure rfl rfl rfl rfl rfl rfl ?_
      refine D.done [(0, [], _), (1, [], _), (2, [], _), (3, [], _), (4, [], _), (11, [], _), (45, [], _), (46, [], _)] ⟨rfl, rfl, rfl, rfl, rfl, rfl, rfl, rfl, trivial⟩ (hR _ _ _ rfl ?_); clear hR R
      refine G.region rfl (fun R hR => ?_)
      iterate 2 refine D.pure rfl rfl rfl rfl rfl rfl ?_
      refine D.indexS (k) rfl rfl rfl rfl rfl rfl rfl rfl rfl rfl (fun _ => ⟨by omega, by omega, (by simp)⟩) rfl rfl ?_
      refine D.loadArr (.head _) rfl rfl rfl rfl rfl rfl (fun _ => (by rw [nats_at (by omega)]; rfl)) rfl rfl ?_
      iterate 4 refine D.pure rfl rfl rfl rfl rfl rfl ?_
      refine D.gives (fun _ => (contains_fn _ _ dn k (hbv.mono (by (repeat (first | exact Mem.le.refl _ | assumption | (apply Mem.le.trans; rotate_left; assumption))))) (by omega))) rfl rfl rfl rfl rfl rfl rfl rfl rfl ?_
      refine D.pickOr rfl rfl rfl rfl rfl rfl rfl rfl ?_
      refine D.done [(0, [], _), (1, [], _), (2, [], _), (3, [], _), (4, [], _), (11, [], _), (45, [], _), (46, [], _), (58, [], _)] ⟨rfl, rfl, rfl, rfl, rfl, rfl, rfl, rfl, rfl, trivial⟩ (hR _ _ _ rfl ?_); clear hR R
      refine G.cond rfl (fun h58 => ?_) (fun h58 => ?_)
      · skip
        have h58' : freeB A dn k = false := by
          have := hcs2 k hkl
          simp at h58
          unfold freeB
          rw [← this]
          simp
          rcases h58 with h | h
          · intro h2; omega
          · intro _; exact h
        refine G.region rfl (fun R hR => ?_)
        refine D.i64 _ rfl rfl rfl rfl rfl (by omega) (by omega) rfl rfl ?_
        refine D.pure rfl rfl rfl rfl rfl rfl ?_
        refine D.done [(0, [], _), (1, [], _), (2, [], _), (3, [], _), (4, [], _), (45, [], _), (46, [], _)] ⟨rfl, rfl, rfl, rfl, rfl, rfl, rfl, trivial⟩ (hR _ _ _ rfl ?_); clear hR R
        refine G.again (m' := N.length - (k + 1)) (by omega) (by (repeat (first | exact Mem.le.refl _ | assumption | (apply Mem.le.trans; rotate_left; assumption)))) (fr' := [(0, [], _), (1, [], _), (2, [], _), (3, [], _), (4, [], _), (45, [], _), (46, [], _)]) ⟨rfl, rfl, rfl, rfl, rfl, rfl, rfl, trivial⟩ ⟨k + 1, cs, w, ov, ⟨by omega, hcl2, hcs2, by rw [hsk _ (hF1 h58'), List.append_nil]; exact hlm, by rw [hsk _ (hF1 h58'), List.append_nil]; exact hout2.mono (by (repeat (first | exact Mem.le.refl _ | assumption | (apply Mem.le.trans; rotate_left; assumption))))⟩, rfl, rfl, rfl⟩
      · skip
        have h58' : freeB A dn k = true := by
          have := hcs2 k hkl
          simp at h58
          unfold freeB
          rw [← this]
          simp
          exact ⟨by omega, h58.2⟩
        have hkd : k ∉ dn := by
          unfold freeB at h58'
          simp at h58'
          exact h58'.2
        obtain ⟨v, hv⟩ : ∃ v, vs[k]? = some v := ⟨vs[k]'(by omega), List.getElem?_eq_getElem (by omega)⟩
        have hvr := hrows k v hv
        obtain ⟨Av, cv, rfl, _⟩ := id hvr
        simp only [List.length_map] at hvr hv
        have hnl : (nexts A k).length ≤ A.length := List.length_filter_le _ _
        have hrv : (vs.map fun v => [v])[k]? = some [Value.slice Av (nexts A k).length cv] := by rw [List.getElem?_map, hv]; rfl
        have hovl := hout2.1
        rw [List.length_append] at hovl
        refine G.region rfl (fun R hR => ?_)
        iterate 3 refine D.pure rfl rfl rfl rfl rfl rfl ?_
        refine D.loadP0 (PtrTo.block (Mem.get hobj (by (repeat (first | exact Mem.le.refl _ | assumption | (apply Mem.le.trans; rotate_left; assumption))))) _) rfl rfl rfl rfl rfl rfl rfl rfl ?_
        refine D.pure rfl rfl rfl rfl rfl rfl ?_
        refine D.index0 (hnx.mono (by (repeat (first | exact Mem.le.refl _ | assumption | (apply Mem.le.trans; rotate_left; assumption))))) rfl rfl rfl rfl rfl rfl rfl rfl rfl rfl (by omega) hrv (fun _ => rfl) (fun p64 hp64 => ?_)
        refine D.loadP0 hp64 rfl rfl rfl rfl rfl rfl rfl rfl ?_
        iterate 2 refine D.pure rfl rfl rfl rfl rfl rfl ?_
        refine D.done [(0, [], _), (1, [], _), (2, [], _), (3, [], _), (4, [], _), (11, [], _), (45, [], _), (46, [], _), (65, [], _), (66, [], _), (67, [], _)] ⟨rfl, rfl, rfl, rfl, rfl, rfl, rfl, rfl, rfl, rfl, rfl, trivial⟩ (hR _ _ _ rfl ?_); clear hR R
        refine G.loop (fun fr C' L' μ => ∃ (j : Nat) (cs2 : List Nat), (j ≤ (nexts A k).length ∧ cs2.length = N.length ∧ ∀ u, u < N.length → hAt cs2 u + upC ((nexts A k).take j) u = cnt A dn u) ∧ fr = [(0, [], .pointer (some ⟨b, 0, none⟩)), (1, [], .slice Ab dn.length cb), (2, [], qS gc N.length N.length), (3, [], .pointer (some ⟨bo, 0, none⟩)), (4, [], .int .i64 limit), (11, [], .int .i64 k), (45, [], .int .i64 N.length), (46, [], .int .i64 k), (65, [], .slice Av (nexts A k).length cv), (66, [], .int .i64 (nexts A k).length), (67, [], .int .i64 j)] ∧ L' = [.arr (qS gc N.length N.length) 3 1 N.length (cs2.map intN), .obj bo (.cells ⟨[w]⟩ 41 (0, 0)), .arr w 38 1 ov.length ov] ∧ μ = (nexts A k).length - j) (fr' := [(0, [], _), (1, [], _), (2, [], _), (3, [], _), (4, [], _), (11, [], _), (45, [], _), (46, [], _), (65, [], _), (66, [], _), (67, [], _)]) ⟨rfl, rfl, rfl, rfl, rfl, rfl, rfl, rfl, rfl, rfl, rfl, trivial⟩ ⟨0, cs, ⟨Nat.zero_le _, hcl2, fun u hu => by rw [hcs2 u hu]; simp [upC]⟩, rfl, rfl, rfl⟩ (fun fr C1' L1' m hle1 hI => ?_)
        obtain ⟨j, cs2, ⟨hj, hcl3, hcs3⟩, rfl, rfl, rfl⟩ := hI
        refine G.region rfl (fun R hR => ?_)
        refine D.pure rfl rfl rfl rfl rfl rfl ?_
        refine D.done [(0, [], _), (1, [], _), (2, [], _), (3, [], _), (4, [], _), (11, [], _), (45, [], _), (46, [], _), (65, [], _), (66, [], _), (67, [], _), (68, [], _)] ⟨rfl, rfl, rfl, rfl, rfl, rfl, rfl, rfl, rfl, rfl, rfl, rfl, trivial⟩ (hR _ _ _ rfl ?_); clear hR R
        refine G.cond rfl (fun h68 => ?_) (fun h68 => ?_)
        · skip
          simp only [decide_eq_true_eq] at h68
          have hjl : j < (nexts A k).length := by omega
          obtain ⟨a, ha⟩ : ∃ a, (nexts A k)[j]? = some a := ⟨(nexts A k)[j], List.getElem?_eq_getElem hjl⟩
          have hamem : a ∈ A := (mem_nexts.1 (List.mem_of_getElem? ha)).1
          obtain ⟨hlo, hup⟩ := hb a hamem
          have hra : ((nexts A k).map Arc3.enc)[j]? = some (Arc3.enc a) := by rw [List.getElem?_map, ha]; rfl
          have htk : (nexts A k).take (j + 1) = (nexts A k).take j ++ [a] := by rw [List.take_add_one, ha]; rfl
          have hct := hcs3 a.up hup
          have hpos := upC_pos hct ha hkd
          have hcn := cnt_len (A := A) (dn := dn) (u := a.up)
          refine G.region rfl (fun R hR => ?_)
          refine D.index0 (hvr.mono (by (repeat (first | exact Mem.le.refl _ | assumption | (apply Mem.le.trans; rotate_left; assumption))))) rfl rfl rfl rfl rfl rfl rfl rfl rfl rfl (by omega) hra (fun _ => rfl) (fun p69 hp69 => ?_)
          refine D.loadP0 hp69 rfl rfl rfl rfl rfl rfl rfl rfl ?_
          refine D.alloc rfl rfl rfl rfl rfl (fun _ => rfl) (fun b13 => ?_)
          refine D.store (j := 0) rfl rfl rfl rfl rfl rfl rfl rfl rfl rfl rfl rfl ?_
          refine D.done [(0, [], _), (1, [], _), (2, [], _), (3, [], _), (4, [], _), (11, [], _), (13, [], _), (45, [], _), (46, [], _), (65, [], _), (66, [], _), (67, [], _)] ⟨rfl, rfl, rfl, rfl, rfl, rfl, rfl, rfl, rfl, rfl, rfl, rfl, trivial⟩ (hR _ _ _ rfl ?_); clear hR R
          refine G.region rfl (fun R hR => ?_)
          iterate 2 refine D.pure rfl rfl rfl rfl rfl rfl ?_
          refine D.loadL (.head _) rfl rfl rfl rfl rfl rfl rfl rfl rfl ?_
          refine D.indexS (a.up) rfl rfl rfl rfl rfl rfl rfl rfl rfl rfl (fun _ => ⟨by omega, by omega, (by simp)⟩) rfl rfl ?_
          refine D.loadArr (.tail _ (.head _)) rfl rfl rfl rfl rfl rfl (fun _ => (by rw [nats_at (by omega)]; rfl)) rfl rfl ?_
          refine D.i64 (((hAt cs2 a.up - 1 : Nat) : Int)) rfl rfl rfl rfl (by omega) (by omega) (by omega) rfl rfl ?_
          refine D.indexS (a.up) rfl rfl rfl rfl rfl rfl rfl rfl rfl rfl (fun _ => ⟨by omega, by omega, (by simp)⟩) rfl rfl ?_
          refine D.storeArr (j := 1) rfl rfl rfl rfl rfl rfl rfl rfl rfl rfl rfl (by simp; omega) ?_
          refine D.done [(0, [], _), (1, [], _), (2, [], _), (3, [], _), (4, [], _), (11, [], _), (45, [], _), (46, [], _), (65, [], _), (66, [], _), (67, [], _)] ⟨rfl, rfl, rfl, rfl, rfl, rfl, rfl, rfl, rfl, rfl, rfl, trivial⟩ (hR _ _ _ rfl ?_); clear hR R
          refine G.region rfl (fun R hR => ?_)
          refine D.i64 _ rfl rfl rfl rfl rfl (by omega) (by omega) rfl rfl ?_
          refine D.pure rfl rfl rfl rfl rfl rfl ?_
          refine D.done [(0, [], _), (1, [], _), (2, [], _), (3, [], _), (4, [], _), (11, [], _), (45, [], _), (46, [], _), (65, [], _), (66, [], _), (67, [], _)] ⟨rfl, rfl, rfl, rfl, rfl, rfl, rfl, rfl, rfl, rfl, rfl, trivial⟩ (hR _ _ _ rfl ?_); clear hR R
          refine G.dropE 1 rfl ?_
          refine G.eqL (L' := [.arr (qS gc N.length N.length) 3 1 N.length ((cs2.set a.up (hAt cs2 a.up - 1)).map intN), .obj bo (.cells ⟨[w]⟩ 41 (0, 0)), .arr w 38 1 ov.length ov]) (by rw [← nats_set (by omega)]; rfl) ?_
          refine G.again (m' := (nexts A k).length - (j + 1)) (by omega) (by (repeat (first | exact Mem.le.refl _ | assumption | (apply Mem.le.trans; rotate_left; assumption)))) (fr' := [(0, [], _), (1, [], _), (2, [], _), (3, [], _), (4, [], _), (11, [], _), (45, [], _), (46, [], _), (65, [], _), (66, [], _), (67, [], _)]) ⟨rfl, rfl, rfl, rfl, rfl, rfl, rfl, rfl, rfl, rfl, rfl, trivial⟩ ⟨j + 1, cs2.set a.up (hAt cs2 a.up - 1), ⟨by omega, by rw [List.length_set]; exact hcl3, fun u hu => by
            rw [hAt_set (by omega), htk, upC_snoc]
            have := hcs3 u hu
            by_cases e : u = a.up
            · subst e; rw [if_pos rfl, if_pos rfl]; omega
            · rw [if_neg e, if_neg (Ne.symm e)]; omega⟩, rfl, rfl, rfl⟩
        · skip
          simp only [decide_eq_false_iff_not] at h68
          have hjl : j = (nexts A k).length := by omega
          subst hjl
          rw [List.take_length] at hcs3
          have hcs4 : ∀ u, u < N.length → hAt cs2 u = cnt A (dn ++ [k]) u := fun u hu => by
            have h1 := hcs3 u hu
            have h2 := cnt_snoc (A := A) (u := u) hkd
            have h3 : (nexts A k).countP (fun b => decide (b.up = u)) = upC (nexts A k) u := rfl
            omega
          have hsub := Sl.sub (hbv.mono (by (repeat (first | exact Mem.le.refl _ | assumption | (apply Mem.le.trans; rotate_left; assumption))) : C.le C1')) (l := 0) (h := dn.length) (m := dn.length) (Nat.zero_le _) (by simp) (Nat.le_refl _) hlb
          rw [List.drop_zero, List.take_of_length_le (by simp)] at hsub
          have hdn2 : ∀ x ∈ dn ++ [k], x < N.length := fun x hx => by
            rcases List.mem_append.1 hx with h | h
            · exact hdn x h
            · rw [List.mem_singleton.1 h]; exact hkl
          have hnd2 : (dn ++ [k]).Nodup := by
            rw [List.nodup_append]
            exact ⟨hnd, by simp, fun a ha b hb e => by simp only [List.mem_singleton] at hb; subst hb; subst e; exact hkd ha⟩
          refine G.regionO [(13, 3)] rfl (fun R hR => ?_)
          iterate 6 refine D.pure rfl rfl rfl rfl rfl rfl ?_
          refine D.sliceV 0 dn.length dn.length rfl rfl rfl rfl rfl rfl rfl rfl rfl rfl rfl rfl (fun _ => ⟨.inl ⟨rfl, rfl⟩, .inr ⟨_, rfl⟩, .inr ⟨⟨_, rfl⟩, by simp⟩, Nat.zero_le _, Nat.le_refl _, hlb⟩) rfl rfl ?_
          refine D.pure rfl rfl rfl rfl rfl rfl ?_
          refine D.buildSlice [[.int .i64 k]] rfl rfl rfl rfl rfl rfl rfl rfl rfl rfl rfl rfl (fun _ => rfl) (fun p87 C87 hle87 hs87 => ?_)
          refine D.appendC rfl rfl rfl rfl rfl rfl rfl rfl rfl rfl (hsub.mono (by (repeat (first | exact Mem.le.refl _ | assumption | (apply Mem.le.trans; rotate_left; assumption))))) hs87 (.inr (by simp)) (by simp [maxLen]; omega) (by simp; omega) (fun _ => rfl) (fun v88 C88 hle88 hs88 => ?_)
          iterate 3 refine D.pure rfl rfl rfl rfl rfl rfl ?_
          refine D.call (ih f (by omega) _ _ v88 w (dn ++ [k]) cs2 ov (outs ++ cat F k) (hgr.mono (by (repeat (first | exact Mem.le.refl _ | assumption | (apply Mem.le.trans; rotate_left; assumption))))) (by rw [List.map_append]; exact hs88) hnd2 hdn2 (by simp; omega) hcl3 hcs4 (hout2.mono (by (repeat (first | exact Mem.le.refl _ | assumption | (apply Mem.le.trans; rotate_left; assumption))))) (by simp; omega)) rfl (.inr (by decide)) rfl rfl rfl rfl rfl rfl (List.Perm.refl _) (fun _ => rfl) (fun v92 C92 L92 hle92 hq92 => ?_)
          obtain ⟨ok4, cs4, w4, ov4, rfl, rfl, hcl4, hcs5, hokt, hokf⟩ := hq92
          refine D.pure rfl rfl rfl rfl rfl rfl ?_
          refine D.done [(0, [], _), (1, [], _), (2, [], _), (3, [], _), (4, [], _), (11, [], _), (14, [], _), (45, [], _), (46, [], _)] ⟨rfl, rfl, rfl, rfl, rfl, rfl, rfl, rfl, rfl, trivial⟩ (hR _ _ _ rfl ?_); clear hR R
          refine G.eqL (L' := [.arr (qS gc N.length N.length) 3 1 N.length (cs4.map intN), .obj bo (.cells ⟨[w4]⟩ 41 (0, 0)), .arr w4 38 1 ov4.length ov4]) rfl ?_
          refine G.region rfl (fun R hR => ?_)
          iterate 3 refine D.pure rfl rfl rfl rfl rfl rfl ?_
          refine D.loadP0 (PtrTo.block (Mem.get hobj (by (repeat (first | exact Mem.le.refl _ | assumption | (apply Mem.le.trans; rotate_left; assumption))))) _) rfl rfl rfl rfl rfl rfl rfl rfl ?_
          refine D.pure rfl rfl rfl rfl rfl rfl ?_
          refine D.index0 (hnx.mono (by (repeat (first | exact Mem.le.refl _ | assumption | (apply Mem.le.trans; rotate_left; assumption))))) rfl rfl rfl rfl rfl rfl rfl rfl rfl rfl (by omega) hrv (fun _ => rfl) (fun p98 hp98 => ?_)
          refine D.loadP0 hp98 rfl rfl rfl rfl rfl rfl rfl rfl ?_
          iterate 2 refine D.pure rfl rfl rfl rfl rfl rfl ?_
          refine D.done [(0, [], _), (1, [], _), (2, [], _), (3, [], _), (4, [], _), (14, [], _), (45, [], _), (46, [], _), (99, [], _), (100, [], _), (101, [], _)] ⟨rfl, rfl, rfl, rfl, rfl, rfl, rfl, rfl, rfl, rfl, rfl, trivial⟩ (hR _ _ _ rfl ?_); clear hR R
          refine G.loop (fun fr C' L' μ => ∃ (j : Nat) (cs2 : List Nat), (j ≤ (nexts A k).length ∧ cs2.length = N.length ∧ ∀ u, u < N.length → hAt cs2 u = cnt A (dn ++ [k]) u + upC ((nexts A k).take j) u) ∧ fr = [(0, [], .pointer (some ⟨b, 0, none⟩)), (1, [], .slice Ab dn.length cb), (2, [], qS gc N.length N.length), (3, [], .pointer (some ⟨bo, 0, none⟩)), (4, [], .int .i64 limit), (14, [], .bool ok4), (45, [], .int .i64 N.length), (46, [], .int .i64 k), (99, [], .slice Av (nexts A k).length cv), (100, [], .int .i64 (nexts A k).length), (101, [], .int .i64 j)] ∧ L' = [.arr (qS gc N.length N.length) 3 1 N.length (cs2.map intN), .obj bo (.cells ⟨[w4]⟩ 41 (0, 0)), .arr w4 38 1 ov4.length ov4] ∧ μ = (nexts A k).length - j) (fr' := [(0, [], _), (1, [], _), (2, [], _), (3, [], _), (4, [], _), (14, [], _), (45, [], _), (46, [], _), (99, [], _), (100, [], _), (101, [], _)]) ⟨rfl, rfl, rfl, rfl, rfl, rfl, rfl, rfl, rfl, rfl, rfl, trivial⟩ ⟨0, cs4, ⟨Nat.zero_le _, hcl4, fun u hu => by rw [hcs5 u hu]; simp [upC]⟩, rfl, rfl, rfl⟩ (fun fr C2' L2' m hle2 hI => ?_)
          obtain ⟨j, cs2, ⟨hj, hcl6, hcs6⟩, rfl, rfl, rfl⟩ := hI
          refine G.region rfl (fun R hR => ?_)
          refine D.pure rfl rfl rfl rfl rfl rfl ?_
          refine D.done [(0, [], _), (1, [], _), (2, [], _), (3, [], _), (4, [], _), (14, [], _), (45, [], _), (46, [], _), (99, [], _), (100, [], _), (101, [], _), (102, [], _)] ⟨rfl, rfl, rfl, rfl, rfl, rfl, rfl, rfl, rfl, rfl, rfl, rfl, trivial⟩ (hR _ _ _ rfl ?_); clear hR R
          refine G.cond rfl (fun h102 => ?_) (fun h102 => ?_)
          · skip
            simp only [decide_eq_true_eq] at h102
            have hjl : j < (nexts A k).length := by omega
            obtain ⟨a, ha⟩ : ∃ a, (nexts A k)[j]? = some a := ⟨(nexts A k)[j], List.getElem?_eq_getElem hjl⟩
            have hamem : a ∈ A := (mem_nexts.1 (List.mem_of_getElem? ha)).1
            obtain ⟨hlo, hup⟩ := hb a hamem
            have hra : ((nexts A k).map Arc3.enc)[j]? = some (Arc3.enc a) := by rw [List.getElem?_map, ha]; rfl
            have htk : (nexts A k).take (j + 1) = (nexts A k).take j ++ [a] := by rw [List.take_add_one, ha]; rfl
            have hct := hcs6 a.up hup
            have hcn := cnt_len (A := A) (dn := dn ++ [k]) (u := a.up)
            have hcn2 : upC ((nexts A k).take j) a.up ≤ ((nexts A k).take j).length := List.countP_le_length
            rw [List.length_take] at hcn2
            refine G.region rfl (fun R hR => ?_)
            refine D.index0 (hvr.mono (by (repeat (first | exact Mem.le.refl _ | assumption | (apply Mem.le.trans; rotate_left; assumption))))) rfl rfl rfl rfl rfl rfl rfl rfl rfl rfl (by omega) hra (fun _ => rfl) (fun p103 hp103 => ?_)
            refine D.loadP0 hp103 rfl rfl rfl rfl rfl rfl rfl rfl ?_
            refine D.alloc rfl rfl rfl rfl rfl (fun _ => rfl) (fun b16 => ?_)
            refine D.store (j := 0) rfl rfl rfl rfl rfl rfl rfl rfl rfl rfl rfl rfl ?_
            refine D.done [(0, [], _), (1, [], _), (2, [], _), (3, [], _), (4, [], _), (14, [], _), (16, [], _), (45, [], _), (46, [], _), (99, [], _), (100, [], _), (101, [], _)] ⟨rfl, rfl, rfl, rfl, rfl, rfl, rfl, rfl, rfl, rfl, rfl, rfl, trivial⟩ (hR _ _ _ rfl ?_); clear hR R
            refine G.region rfl (fun R hR => ?_)
            iterate 2 refine D.pure rfl rfl rfl rfl rfl rfl ?_
            refine D.loadL (.head _) rfl rfl rfl rfl rfl rfl rfl rfl rfl ?_
            refine D.indexS (a.up) rfl rfl rfl rfl rfl rfl rfl rfl rfl rfl (fun _ => ⟨by omega, by omega, (by simp)⟩) rfl rfl ?_
            refine D.loadArr (.tail _ (.head _)) rfl rfl rfl rfl rfl rfl (fun _ => (by rw [nats_at (by omega)]; rfl)) rfl rfl ?_
            refine D.i64 (((hAt cs2 a.up + 1 : Nat) : Int)) rfl rfl rfl rfl (by omega) (by omega) (by omega) rfl rfl ?_
            refine D.indexS (a.up) rfl rfl rfl rfl rfl rfl rfl rfl rfl rfl (fun _ => ⟨by omega, by omega, (by simp)⟩) rfl rfl ?_
            refine D.storeArr (j := 1) rfl rfl rfl rfl rfl rfl rfl rfl rfl rfl rfl (by simp; omega) ?_
            refine D.done [(0, [], _), (1, [], _), (2, [], _), (3, [], _), (4, [], _), (14, [], _), (45, [], _), (46, [], _), (99, [], _), (100, [], _), (101, [], _)] ⟨rfl, rfl, rfl, rfl, rfl, rfl, rfl, rfl, rfl, rfl, rfl, trivial⟩ (hR _ _ _ rfl ?_); clear hR R
            refine G.region rfl (fun R hR => ?_)
            refine D.i64 _ rfl rfl rfl rfl rfl (by omega) (by omega) rfl rfl ?_
            refine D.pure rfl rfl rfl rfl rfl rfl ?_
            refine D.done [(0, [], _), (1, [], _), (2, [], _), (3, [], _), (4, [], _), (14, [], _), (45, [], _), (46, [], _), (99, [], _), (100, [], _), (101, [], _)] ⟨rfl, rfl, rfl, rfl, rfl, rfl, rfl, rfl, rfl, rfl, rfl, trivial⟩ (hR _ _ _ rfl ?_); clear hR R
            refine G.dropE 1 rfl ?_
            refine G.eqL (L' := [.arr (qS gc N.length N.length) 3 1 N.length ((cs2.set a.up (hAt cs2 a.up + 1)).map intN), .obj bo (.cells ⟨[w4]⟩ 41 (0, 0)), .arr w4 38 1 ov4.length ov4]) (by rw [← nats_set (by omega)]; rfl) ?_
            refine G.again (m' := (nexts A k).length - (j + 1)) (by omega) (by (repeat (first | exact Mem.le.refl _ | assumption | (apply Mem.le.trans; rotate_left; assumption)))) (fr' := [(0, [], _), (1, [], _), (2, [], _), (3, [], _), (4, [], _), (14, [], _), (45, [], _), (46, [], _), (99, [], _), (100, [], _), (101, [], _)]) ⟨rfl, rfl, rfl, rfl, rfl, rfl, rfl, rfl, rfl, rfl, rfl, trivial⟩ ⟨j + 1, cs2.set a.up (hAt cs2 a.up + 1), ⟨by omega, by rw [List.length_set]; exact hcl6, fun u hu => by
              rw [hAt_set (by omega), htk, upC_snoc]
              have := hcs6 u hu
              by_cases e : u = a.up
              · subst e; rw [if_pos rfl, if_pos rfl]; omega
              · rw [if_neg e, if_neg (Ne.symm e)]; omega⟩, rfl, rfl, rfl⟩
          · skip
            simp only [decide_eq_false_iff_not] at h102
            have hjl : j = (nexts A k).length := by omega
            subst hjl
            rw [List.take_length] at hcs6
            have hcs7 : ∀ u, u < N.length → hAt cs2 u = cnt A dn u := fun u hu => by
              have h1 := hcs6 u hu
              have h2 := cnt_snoc (A := A) (u := u) hkd
              have h3 : (nexts A k).countP (fun b => decide (b.up = u)) = upC (nexts A k) u := rfl
              omega
            have hFk := hF2 h58'
            refine G.region rfl (fun R hR => ?_)
            iterate 2 refine D.pure rfl rfl rfl rfl rfl rfl ?_
            refine D.done [(0, [], _), (1, [], _), (2, [], _), (3, [], _), (4, [], _), (45, [], _), (46, [], _), (114, [], _)] ⟨rfl, rfl, rfl, rfl, rfl, rfl, rfl, rfl, trivial⟩ (hR _ _ _ rfl ?_); clear hR R
            refine G.cond rfl (fun h114 => ?_) (fun h114 => ?_)
            · skip
              have h114' : ok4 = false := by simpa using h114
              have hbig := hokf h114'
              have hle := cat_length_le (f := F) (i := k + 1) (n := N.length) (by omega)
              rw [hsk _ hFk, List.length_append] at hle
              rw [List.length_append] at hbig
              refine G.region rfl (fun R hR => ?_)
              refine D.pure rfl rfl rfl rfl rfl rfl ?_
              refine D.done [(10, [], _)] ⟨rfl, trivial⟩ (hR _ _ _ rfl ?_); clear hR R
              refine G.retN (G.fin1 rfl rfl ?_)
              exact ⟨false, cs2, w4, ov4, rfl, rfl, hcl6, hcs7, (fun h => (by cases h)), fun _ => by rw [hext]; omega⟩
            · skip
              have h114' : ok4 = true := by simpa using h114
              obtain ⟨hfit, hout4⟩ := hokt h114'
              rw [List.length_append] at hfit
              refine G.region rfl (fun R hR => ?_)
              refine D.i64 _ rfl rfl rfl rfl rfl (by omega) (by omega) rfl rfl ?_
              refine D.pure rfl rfl rfl rfl rfl rfl ?_
              refine D.done [(0, [], _), (1, [], _), (2, [], _), (3, [], _), (4, [], _), (45, [], _), (46, [], _)] ⟨rfl, rfl, rfl, rfl, rfl, rfl, rfl, trivial⟩ (hR _ _ _ rfl ?_); clear hR R
              refine G.again (m' := N.length - (k + 1)) (by omega) (by (repeat (first | exact Mem.le.refl _ | assumption | (apply Mem.le.trans; rotate_left; assumption)))) (fr' := [(0, [], _), (1, [], _), (2, [], _), (3, [], _), (4, [], _), (45, [], _), (46, [], _)]) ⟨rfl, rfl, rfl, rfl, rfl, rfl, rfl, trivial⟩ ⟨k + 1, cs2, w4, ov4, ⟨by omega, hcl6, hcs7, by rw [hsk _ hFk, List.length_append]; omega, by rw [hsk _ hFk, ← List.append_assoc]; exact hout4.mono (by (repeat (first | exact Mem.le.refl _ | assumption | (apply Mem.le.trans; rotate_left; assumption))))⟩, rfl, rfl, rfl⟩
    · skip
      simp only [decide_eq_false_iff_not] at h47
      have hkl : k = N.length := by omega
      subst hkl
      refine G.region rfl (fun R hR => ?_)
      refine D.pure rfl rfl rfl rfl rfl rfl ?_
      refine D.done [(10, [], _)] ⟨rfl, trivial⟩ (hR _ _ _ rfl ?_); clear hR R
      refine G.retN (G.fin1 rfl rfl ?_)
      exact ⟨true, cs, w, ov, rfl, rfl, hcl2, hcs2, fun _ => by rw [hext]; exact ⟨hlm, hout2⟩, (fun h => (by cases h))⟩
end Go.Proofs.YtddjibfmnkcalaaDoor
namespace Go.Proofs.YtddjibfmnkcalaaDoor
open Go Go.Jog
set_option maxRecDepth 100000

def extsOf (l : List Rel) : List (List Nat) := extF (arcsOf l) (unitsL l).length (unitsL l).length []
def ExtRes (C : Mem) (l : List Rel) (lim : Int) (r : Value) : Prop :=
  (errU l ≠ 0 ∧ r = .tuple #[nilV, .int .i64 (errU l)]) ∨ (errU l = 0 ∧ (lim < 1 ∨ 1000 < lim) ∧ r = .tuple #[nilV, .int .i64 3]) ∨
  (errU l = 0 ∧ 1 ≤ lim ∧ lim ≤ 1000 ∧ ((Back (arcsOf l) ∧ r = .tuple #[nilV, .int .i64 27]) ∨ (¬ Back (arcsOf l) ∧ lim < (extsOf l).length ∧ r = .tuple #[nilV, .int .i64 4]) ∨
    (¬ Back (arcsOf l) ∧ ((extsOf l).length : Int) ≤ lim ∧ ∃ v ov, r = .tuple #[v, .int .i64 0] ∧ Sl C 1 v (ov.map fun x => [x]) ∧ OutAt C (unitsL l) ov (extsOf l))))
theorem Sl.nilS (C : Mem) (k : Nat) : Sl C k (.slice none 0 0) [] := ⟨none, 0, rfl, Nat.le_refl _, Nat.zero_le _, by simp, fun i x h => by simp at h⟩
set_option maxHeartbeats 1000000 in
theorem extensions_fn (C : Mem) (v : Value) (l : List Rel) (lim : Int) (hv : Sl C 3 v (l.map Rel.enc)) (hl : l.length ≤ 100000) (hsh : ∀ x ∈ l, x.short) : Pur cx.P 16 [v, .int .i64 lim] C fun r C' => ExtRes C' l lim r := by
  obtain ⟨A, hA⟩ : ∃ A, arcsOf l = A := ⟨_, rfl⟩
  obtain ⟨N, hN⟩ : ∃ N, unitsL l = N := ⟨_, rfl⟩
  have hok := gok_of hl
  have hex : extsOf l = extF A N.length N.length [] := by rw [extsOf, hA, hN]
  rw [hA, hN] at hok
  refine Fn.intro (by kernel_rfl) Tryd.func16 rfl 38 rfl rfl (fun w0 => ?_)
  refine G.region rfl (fun R hR => ?_)
  iterate 2 refine D.pure rfl rfl rfl rfl rfl rfl ?_
  refine D.done [(0, [], _), (1, [], _)] ⟨rfl, rfl, trivial⟩ (hR _ _ _ rfl ?_); clear hR R
  refine G.region rfl (fun R hR => ?_)
  refine D.pure rfl rfl rfl rfl rfl rfl ?_
  refine D.gives2 (check_fn _ _ l hv hl hsh) rfl rfl rfl rfl rfl rfl rfl (fun _ => rfl) ?_
  refine D.pure rfl rfl rfl rfl rfl rfl ?_
  refine D.done [(0, [], _), (1, [], _), (6, [], _)] ⟨rfl, rfl, rfl, trivial⟩ (hR _ _ _ rfl ?_); clear hR R
  refine G.region rfl (fun R hR => ?_)
  iterate 2 refine D.pure rfl rfl rfl rfl rfl rfl ?_
  refine D.done [(0, [], _), (1, [], _), (6, [], _), (14, [], _)] ⟨rfl, rfl, rfl, rfl, trivial⟩ (hR _ _ _ rfl ?_); clear hR R
  refine G.cond rfl (fun h14 => ?_) (fun h14 => ?_)
  · skip
    have h13' : errU l ≠ 0 := by simpa using h14
    refine G.region rfl (fun R hR => ?_)
    iterate 3 refine D.pure rfl rfl rfl rfl rfl rfl ?_
    refine D.done [(4, [], _), (5, [], _)] ⟨rfl, rfl, trivial⟩ (hR _ _ _ rfl ?_); clear hR R
    refine G.retN (G.dropAll (G.fin2 rfl rfl rfl ?_))
    exact ⟨rfl, .inl ⟨h13', rfl⟩⟩
  · skip
    have h13' : errU l = 0 := by simpa using h14
    refine G.region rfl (fun R hR => ?_)
    iterate 5 refine D.pure rfl rfl rfl rfl rfl rfl ?_
    refine D.pickOr rfl rfl rfl rfl rfl rfl rfl rfl ?_
    refine D.done [(0, [], _), (1, [], _), (21, [], _)] ⟨rfl, rfl, rfl, trivial⟩ (hR _ _ _ rfl ?_); clear hR R
    refine G.cond rfl (fun h21 => ?_) (fun h21 => ?_)
    · skip
      have h21' : lim < 1 ∨ 1000 < lim := by simpa using h21
      refine G.region rfl (fun R hR => ?_)
      iterate 2 refine D.pure rfl rfl rfl rfl rfl rfl ?_
      refine D.done [(4, [], _), (5, [], _)] ⟨rfl, rfl, trivial⟩ (hR _ _ _ rfl ?_); clear hR R
      refine G.retN (G.dropAll (G.fin2 rfl rfl rfl ?_))
      exact ⟨rfl, .inr (.inl ⟨h13', h21', rfl⟩)⟩
    · skip
      have h21' : ¬ (lim < 1 ∨ 1000 < lim) := fun hh => by
        have : (false : Bool) = true := by rw [← h21]; simpa using hh
        cases this
      obtain ⟨m, rfl⟩ : ∃ m : Nat, lim = m := ⟨lim.toNat, by omega⟩
      refine G.region rfl (fun R hR => ?_)
      refine D.pure rfl rfl rfl rfl rfl rfl ?_
      refine D.callP (build_fn _ _ l (hv.mono (by (repeat (first | exact Mem.le.refl _ | assumption | (apply Mem.le.trans; rotate_left; assumption))))) hl) rfl rfl rfl rfl rfl rfl rfl (fun _ => rfl) (fun v23 C23 hle23 hq23 => ?_)
      refine D.pure rfl rfl rfl rfl rfl rfl ?_
      refine D.done [(1, [], _), (7, [], _)] ⟨rfl, rfl, trivial⟩ (hR _ _ _ rfl ?_); clear hR R
      have hgr : Graph C23 v23 N A := by rw [← hA, ← hN]; exact hq23
      refine G.region rfl (fun R hR => ?_)
      refine D.pure rfl rfl rfl rfl rfl rfl ?_
      refine D.callP (sorted_fn _ _ N A hgr hok) rfl rfl rfl rfl rfl rfl rfl (fun _ => rfl) (fun v26 C26 hle26 hq26 => ?_)
      obtain ⟨vo, o, ok, rfl, hso, hol, hon, hout⟩ := hq26
      iterate 5 refine D.pure rfl rfl rfl rfl rfl rfl ?_
      refine D.done [(1, [], _), (7, [], _), (9, [], _)] ⟨rfl, rfl, rfl, trivial⟩ (hR _ _ _ rfl ?_); clear hR R
      refine G.region rfl (fun R hR => ?_)
      iterate 2 refine D.pure rfl rfl rfl rfl rfl rfl ?_
      refine D.done [(1, [], _), (7, [], _), (30, [], _)] ⟨rfl, rfl, rfl, trivial⟩ (hR _ _ _ rfl ?_); clear hR R
      refine G.cond rfl (fun h30 => ?_) (fun h30 => ?_)
      · skip
        have h30' : ok = false := by simpa using h30
        subst h30'
        refine G.region rfl (fun R hR => ?_)
        iterate 2 refine D.pure rfl rfl rfl rfl rfl rfl ?_
        refine D.done [(4, [], _), (5, [], _)] ⟨rfl, rfl, trivial⟩ (hR _ _ _ rfl ?_); clear hR R
        refine G.retN (G.dropAll (G.fin2 rfl rfl rfl ?_))
        refine ⟨rfl, .inr (.inr ⟨h13', by omega, by omega, .inl ⟨?_, rfl⟩⟩)⟩
        rw [hA]
        rcases hout with ⟨h, _⟩ | ⟨_, h⟩
        · cases h
        · exact h
      · skip
        have h30' : ok = true := by simpa using h30
        subst h30'
        have hnb : ¬ Back A := by
          rcases hout with ⟨_, h⟩ | ⟨h, _⟩
          · exact fun ⟨k, w, h1, h2⟩ => h.1.acyc hok.below k w h1 h2
          · cases h
        have hNl := hok.names
        refine G.region rfl (fun R hR => ?_)
        refine D.alloc rfl rfl rfl rfl rfl (fun _ => rfl) (fun b10 => ?_)
        refine D.done [(1, [], _), (7, [], _), (10, [], _)] ⟨rfl, rfl, rfl, trivial⟩ (hR _ _ _ rfl ?_); clear hR R
        refine G.nilArr 38 1 ?_
        refine G.regionO [(2, 3), (4, 3)] rfl (fun R hR => ?_)
        iterate 2 refine D.pure rfl rfl rfl rfl rfl rfl ?_
        refine D.call (before_fn _ _ N A (hgr.mono (by (repeat (first | exact Mem.le.refl _ | assumption | (apply Mem.le.trans; rotate_left; assumption))))) hok) rfl (.inr (by decide)) rfl rfl rfl rfl rfl rfl (List.Perm.refl _) (fun _ => rfl) (fun v33 C33 L33 hle33 hq33 => ?_)
        obtain ⟨g, cs, rfl, rfl, hcl, hcs⟩ := hq33
        refine D.pure rfl rfl rfl rfl rfl rfl ?_
        refine D.call (extend_fn N A hok g b10 m (by omega) N.length _ _ _ (.slice none 0 0) [] cs [] [] (hgr.mono (by (repeat (first | exact Mem.le.refl _ | assumption | (apply Mem.le.trans; rotate_left; assumption))))) (Sl.nilS _ _) List.nodup_nil (fun x hx => by simp at hx) (by simp) hcl hcs ⟨rfl, fun j v o h => by simp at h⟩ (by simp)) rfl (.inr (by decide)) rfl rfl rfl rfl rfl rfl (List.Perm.cons _ (List.Perm.swap _ _ _)) (fun _ => rfl) (fun v35 C35 L35 hle35 hq35 => ?_)
        obtain ⟨ok4, cs4, w4, ov4, rfl, rfl, hcl4, hcs5, hokt, hokf⟩ := hq35
        refine D.pure rfl rfl rfl rfl rfl rfl ?_
        refine D.done [(10, [], _), (36, [], _)] ⟨rfl, rfl, trivial⟩ (hR _ _ _ rfl ?_); clear hR R
        refine G.cond rfl (fun h36 => ?_) (fun h36 => ?_)
        · skip
          have h36' : ok4 = false := by simpa using h36
          refine G.region rfl (fun R hR => ?_)
          iterate 2 refine D.pure rfl rfl rfl rfl rfl rfl ?_
          refine D.done [(4, [], _), (5, [], _)] ⟨rfl, rfl, trivial⟩ (hR _ _ _ rfl ?_); clear hR R
          refine G.retN (G.dropAll (G.fin2 rfl rfl rfl ?_))
          refine ⟨rfl, .inr (.inr ⟨h13', by omega, by omega, .inr (.inl ⟨by rw [hA]; exact hnb, ?_, rfl⟩)⟩)⟩
          have := hokf h36'
          rw [hex]
          simp only [List.length_nil, Nat.zero_add] at this
          omega
        · skip
          have h36' : ok4 = true := by simpa using h36
          obtain ⟨hfit, hout4⟩ := hokt h36'
          simp only [List.length_nil, Nat.zero_add, List.nil_append] at hfit hout4
          refine G.rowSlice 2 rfl (fun Aw cw he => ?_)
          subst he
          refine G.eqL (L' := [cArr g N cs4, .obj b10 (.cells ⟨[.slice Aw ov4.length cw]⟩ 41 (0, 0)), .arr (.slice Aw ov4.length cw) 38 1 ov4.length ov4]) rfl ?_
          refine G.region rfl (fun R hR => ?_)
          refine D.loadL (.tail _ (.head _)) rfl rfl rfl rfl rfl rfl rfl rfl rfl ?_
          iterate 2 refine D.pure rfl rfl rfl rfl rfl rfl ?_
          refine D.done [(4, [], _), (5, [], _)] ⟨rfl, rfl, trivial⟩ (hR _ _ _ rfl ?_); clear hR R
          refine G.dropE 0 rfl (G.dropE 0 rfl ?_)
          refine G.eqL (L' := [.arr (.slice Aw ov4.length cw) 38 1 ov4.length (ov4.map fun x => [x]).flatten]) (by rw [row1]; rfl) ?_
          refine G.freezeArr 0 (ov4.map fun x => [x]) rfl rfl (by intro r hr; obtain ⟨y, _, rfl⟩ := List.mem_map.1 hr; rfl) (by simp) (fun Cf hf hsd => ?_)
          refine G.retN (G.dropAll (G.fin2 rfl rfl rfl ?_))
          refine ⟨rfl, .inr (.inr ⟨h13', by omega, by omega, .inr (.inr ⟨by rw [hA]; exact hnb, by rw [hex]; omega, _, ov4, rfl, hsd, ?_⟩)⟩)⟩
          rw [hN, hex]
          exact hout4.mono (by (repeat (first | exact Mem.le.refl _ | assumption | (apply Mem.le.trans; rotate_left; assumption))))
end Go.Proofs.YtddjibfmnkcalaaDoor
namespace Go.Proofs.YtddjibfmnkcalaaDoor
open Go Go.Jog
set_option maxRecDepth 100000

def posZ (N : List Str) (s : Str) : Nat := if s ∈ N then posS N s else 0
theorem posZ_lt {N : List Str} {s : Str} (h : s ∈ N) : posZ N s < N.length := by rw [posZ, if_pos h]; exact posS_lt h
theorem look_at (N : List Str) (s : Str) : lookV (.int .i64 0) true (mget (atM N 0) s) = .tuple #[.int .i64 (posZ N s), .bool (decide (s ∈ N))] := by
  rw [mget_atM]
  by_cases h : s ∈ N
  · simp [h, posZ, lookV]
  · simp [h, posZ, lookV]
def OldRes (l : List Rel) (a b : Str) (r : Value) : Prop :=
  (errU l ≠ 0 ∧ r = .tuple #[.bool false, .int .i64 (errU l)]) ∨ (errU l = 0 ∧ (a ∉ unitsL l ∨ b ∉ unitsL l) ∧ r = .tuple #[.bool false, .int .i64 10]) ∨
  (errU l = 0 ∧ a ∈ unitsL l ∧ b ∈ unitsL l ∧ ∃ t : Bool, r = .tuple #[.bool t, .int .i64 0] ∧ (t = true ↔ Reach (arcsOf l) (posS (unitsL l) a) (posS (unitsL l) b)))
theorem Graph.map_ {C : Mem} {p : Value} {N : List Str} {A : List Arc3} (h : Graph C p N A) : ∃ b x1 bm x3 x4, p = .pointer (some ⟨b, 0, none⟩) ∧ C b = some (.cells ⟨[x1, .map (some bm), x3, x4]⟩ 77 (0, 0)) ∧ C bm = some (mapOf keyS.enc (atM N 0)) := by
  obtain ⟨b, bm, vn, va, vx, vs, hgp, hobj, hnames, hat, harcs, hnx, hlen, hrows⟩ := h
  exact ⟨b, _, bm, _, _, hgp, hobj, hat⟩
theorem older_fn (C : Mem) (v : Value) (l : List Rel) (sa sb : Str) (hv : Sl C 3 v (l.map Rel.enc)) (hl : l.length ≤ 100000) (hsh : ∀ x ∈ l, x.short) : Pur cx.P 28 [v, strV sa, strV sb] C fun r _ => OldRes l sa sb r := by
  obtain ⟨A, hA⟩ : ∃ A, arcsOf l = A := ⟨_, rfl⟩
  obtain ⟨N, hN⟩ : ∃ N, unitsL l = N := ⟨_, rfl⟩
  have hok := gok_of hl
  rw [hA, hN] at hok
  refine Fn.intro (by kernel_rfl) Tryd.func28 rfl 51 rfl rfl (fun w0 => ?_)
  refine G.region rfl (fun R hR => ?_)
  iterate 2 refine D.pure rfl rfl rfl rfl rfl rfl ?_
  refine D.done [(0, [], _), (1, [], _), (2, [], _)] ⟨rfl, rfl, rfl, trivial⟩ (hR _ _ _ rfl ?_); clear hR R
  refine G.region rfl (fun R hR => ?_)
  refine D.pure rfl rfl rfl rfl rfl rfl ?_
  refine D.gives2 (check_fn _ _ l hv hl hsh) rfl rfl rfl rfl rfl rfl rfl (fun _ => rfl) ?_
  refine D.pure rfl rfl rfl rfl rfl rfl ?_
  refine D.done [(0, [], _), (1, [], _), (2, [], _), (8, [], _)] ⟨rfl, rfl, rfl, rfl, trivial⟩ (hR _ _ _ rfl ?_); clear hR R
  refine G.region rfl (fun R hR => ?_)
  iterate 2 refine D.pure rfl rfl rfl rfl rfl rfl ?_
  refine D.done [(0, [], _), (1, [], _), (2, [], _), (8, [], _), (17, [], _)] ⟨rfl, rfl, rfl, rfl, rfl, trivial⟩ (hR _ _ _ rfl ?_); clear hR R
  refine G.cond rfl (fun h17 => ?_) (fun h17 => ?_)
  · skip
    have h17' : errU l ≠ 0 := by simpa using h17
    refine G.region rfl (fun R hR => ?_)
    iterate 3 refine D.pure rfl rfl rfl rfl rfl rfl ?_
    refine D.done [(6, [], _), (7, [], _)] ⟨rfl, rfl, trivial⟩ (hR _ _ _ rfl ?_); clear hR R
    refine G.retN (G.dropAll (G.fin2 rfl rfl rfl ?_))
    exact ⟨rfl, .inl ⟨h17', rfl⟩⟩
  · skip
    have h17' : errU l = 0 := by simpa using h17
    refine G.region rfl (fun R hR => ?_)
    refine D.pure rfl rfl rfl rfl rfl rfl ?_
    refine D.callP (build_fn _ _ l (hv.mono (by (repeat (first | exact Mem.le.refl _ | assumption | (apply Mem.le.trans; rotate_left; assumption))))) hl) rfl rfl rfl rfl rfl rfl rfl (fun _ => rfl) (fun v20 C20 hle20 hq20 => ?_)
    refine D.pure rfl rfl rfl rfl rfl rfl ?_
    refine D.done [(1, [], _), (2, [], _), (9, [], _)] ⟨rfl, rfl, rfl, trivial⟩ (hR _ _ _ rfl ?_); clear hR R
    have hgr : Graph C20 v20 N A := by rw [← hA, ← hN]; exact hq20
    obtain ⟨b, x1, bm, x3, x4, hgp, hobj, hmap⟩ := hgr.map_
    subst hgp
    refine G.region rfl (fun R hR => ?_)
    iterate 3 refine D.pure rfl rfl rfl rfl rfl rfl ?_
    refine D.loadP0 (PtrTo.block (Mem.get hobj (by (repeat (first | exact Mem.le.refl _ | assumption | (apply Mem.le.trans; rotate_left; assumption))))) _) rfl rfl rfl rfl rfl rfl rfl rfl ?_
    refine D.pure rfl rfl rfl rfl rfl rfl ?_
    refine D.lookupC keyS (fun _ => (Mem.get hmap (by (repeat (first | exact Mem.le.refl _ | assumption | (apply Mem.le.trans; rotate_left; assumption)))))) rfl rfl rfl rfl rfl rfl rfl rfl (by kernel_rfl) rfl (look_at N sa) rfl rfl ?_
    iterate 5 refine D.pure rfl rfl rfl rfl rfl rfl ?_
    refine D.done [(2, [], _), (9, [], _), (10, [], _), (11, [], _)] ⟨rfl, rfl, rfl, rfl, trivial⟩ (hR _ _ _ rfl ?_); clear hR R
    refine G.region rfl (fun R hR => ?_)
    iterate 3 refine D.pure rfl rfl rfl rfl rfl rfl ?_
    refine D.loadP0 (PtrTo.block (Mem.get hobj (by (repeat (first | exact Mem.le.refl _ | assumption | (apply Mem.le.trans; rotate_left; assumption))))) _) rfl rfl rfl rfl rfl rfl rfl rfl ?_
    refine D.pure rfl rfl rfl rfl rfl rfl ?_
    refine D.lookupC keyS (fun _ => (Mem.get hmap (by (repeat (first | exact Mem.le.refl _ | assumption | (apply Mem.le.trans; rotate_left; assumption)))))) rfl rfl rfl rfl rfl rfl rfl rfl (by kernel_rfl) rfl (look_at N sb) rfl rfl ?_
    iterate 5 refine D.pure rfl rfl rfl rfl rfl rfl ?_
    refine D.done [(9, [], _), (10, [], _), (11, [], _), (12, [], _), (13, [], _)] ⟨rfl, rfl, rfl, rfl, rfl, trivial⟩ (hR _ _ _ rfl ?_); clear hR R
    refine G.region rfl (fun R hR => ?_)
    iterate 5 refine D.pure rfl rfl rfl rfl rfl rfl ?_
    refine D.pickOr rfl rfl rfl rfl rfl rfl rfl rfl ?_
    refine D.done [(9, [], _), (10, [], _), (12, [], _), (44, [], _)] ⟨rfl, rfl, rfl, rfl, trivial⟩ (hR _ _ _ rfl ?_); clear hR R
    refine G.cond rfl (fun h44 => ?_) (fun h44 => ?_)
    · skip
      have h44' : sa ∉ N ∨ sb ∉ N := by simpa using h44
      refine G.region rfl (fun R hR => ?_)
      iterate 2 refine D.pure rfl rfl rfl rfl rfl rfl ?_
      refine D.done [(6, [], _), (7, [], _)] ⟨rfl, rfl, trivial⟩ (hR _ _ _ rfl ?_); clear hR R
      refine G.retN (G.dropAll (G.fin2 rfl rfl rfl ?_))
      exact ⟨rfl, .inr (.inl ⟨h17', by rw [hN]; exact h44', rfl⟩)⟩
    · skip
      have h44' : sa ∈ N ∧ sb ∈ N := by
        have : ¬ (sa ∉ N ∨ sb ∉ N) := fun hh => by
          have : (false : Bool) = true := by rw [← h44]; simpa using hh
          cases this
        exact ⟨Classical.byContradiction fun h => this (.inl h), Classical.byContradiction fun h => this (.inr h)⟩
      refine G.region rfl (fun R hR => ?_)
      iterate 2 refine D.pure rfl rfl rfl rfl rfl rfl ?_
      refine D.callP (reached_fn _ _ N A (posZ N sa) (hgr.mono (by (repeat (first | exact Mem.le.refl _ | assumption | (apply Mem.le.trans; rotate_left; assumption))))) hok (posZ_lt h44'.1)) rfl rfl rfl rfl rfl rfl rfl (fun _ => rfl) (fun v47 C47 hle47 hq47 => ?_)
      refine D.pure rfl rfl rfl rfl rfl rfl ?_
      obtain ⟨rs, hrs, hrl, hrr⟩ := hq47
      obtain ⟨Ar, cr, rfl, _⟩ := id hrs
      have hpl := posZ_lt h44'.2
      have hrw : (rs.map encB)[posZ N sb]? = some [.bool (bAt rs (posZ N sb))] := by rw [List.getElem?_map, get_bAt (by omega)]; rfl
      refine D.index0 hrs rfl rfl rfl rfl rfl rfl rfl rfl rfl rfl (by omega) hrw (fun _ => rfl) (fun p49 hp49 => ?_)
      refine D.loadP0 hp49 rfl rfl rfl rfl rfl rfl rfl rfl ?_
      iterate 2 refine D.pure rfl rfl rfl rfl rfl rfl ?_
      refine D.done [(6, [], _), (7, [], _)] ⟨rfl, rfl, trivial⟩ (hR _ _ _ rfl ?_); clear hR R
      refine G.retN (G.dropAll (G.fin2 rfl rfl rfl ?_))
      refine ⟨rfl, .inr (.inr ⟨h17', by rw [hN]; exact h44'.1, by rw [hN]; exact h44'.2, bAt rs (posZ N sb), rfl, ?_⟩)⟩
      rw [hrr, hA, hN, posZ, if_pos h44'.1, posZ, if_pos h44'.2]
end Go.Proofs.YtddjibfmnkcalaaDoor
namespace Go.Proofs.YtddjibfmnkcalaaDoor
open Go Go.Jog
set_option maxRecDepth 100000

def pairE (N : List Str) (x : Nat × Nat) : List Value := [strV (nameAt N x.1), strV (nameAt N x.2)]
def cloRow (r : Nat → Nat → Bool) (i n : Nat) : List (Nat × Nat) := cat (fun k => oneIf (r i k) (i, k)) n
def cloL (r : Nat → Nat → Bool) (n m : Nat) : List (Nat × Nat) := cat (fun i => cloRow r i n) m
theorem cloRow_len (r : Nat → Nat → Bool) (i n : Nat) : (cloRow r i n).length ≤ n := by
  have := cat_length_mul (f := fun k => oneIf (r i k) (i, k)) (m := 1) (fun k => oneIf_len _ _) n
  rw [Nat.mul_one] at this
  exact this
theorem cloL_len (r : Nat → Nat → Bool) (n m : Nat) : (cloL r n m).length ≤ m * n := cat_length_mul (fun i => cloRow_len r i n) m
def CloRes (C : Mem) (l : List Rel) (r : Value) : Prop :=
  (errU l ≠ 0 ∧ r = .tuple #[nilV, .int .i64 (errU l)]) ∨
  (errU l = 0 ∧ ∃ (t : Nat → Nat → Bool) (v : Value), (∀ i k, t i k = true ↔ Reach (arcsOf l) i k) ∧ r = .tuple #[v, .int .i64 0] ∧ Sl C 2 v ((cloL t (unitsL l).length (unitsL l).length).map (pairE (unitsL l))))
set_option maxHeartbeats 1000000 in
theorem closure_spec (C : Mem) (v : Value) (l : List Rel) (hv : Sl C 3 v (l.map Rel.enc)) (hl : l.length ≤ 100000) (hsh : ∀ x ∈ l, x.short) : Pur cx.P 22 [v] C fun r C' => CloRes C' l r := by
  obtain ⟨A, hA⟩ : ∃ A, arcsOf l = A := ⟨_, rfl⟩
  obtain ⟨N, hN⟩ : ∃ N, unitsL l = N := ⟨_, rfl⟩
  have hok := gok_of hl
  rw [hA, hN] at hok
  obtain ⟨t, ht⟩ : ∃ t : Nat → Nat → Bool, ∀ i k, t i k = true ↔ Reach A i k := ⟨fun i k => @decide (Reach A i k) (Classical.propDecidable _), fun i k => by simp⟩
  refine Fn.intro (by kernel_rfl) Tryd.func22 rfl 53 rfl rfl (fun w0 => ?_)
  refine G.region rfl (fun R hR => ?_)
  iterate 2 refine D.pure rfl rfl rfl rfl rfl rfl ?_
  refine D.done [(0, [], _)] ⟨rfl, trivial⟩ (hR _ _ _ rfl ?_); clear hR R
  refine G.region rfl (fun R hR => ?_)
  refine D.pure rfl rfl rfl rfl rfl rfl ?_
  refine D.gives2 (check_fn _ _ l hv hl hsh) rfl rfl rfl rfl rfl rfl rfl (fun _ => rfl) ?_
  refine D.pure rfl rfl rfl rfl rfl rfl ?_
  refine D.done [(0, [], _), (4, [], _)] ⟨rfl, rfl, trivial⟩ (hR _ _ _ rfl ?_); clear hR R
  refine G.region rfl (fun R hR => ?_)
  iterate 2 refine D.pure rfl rfl rfl rfl rfl rfl ?_
  refine D.done [(0, [], _), (4, [], _), (14, [], _)] ⟨rfl, rfl, rfl, trivial⟩ (hR _ _ _ rfl ?_); clear hR R
  refine G.cond rfl (fun h14 => ?_) (fun h14 => ?_)
  · skip
    have h14' : errU l ≠ 0 := by simpa using h14
    refine G.region rfl (fun R hR => ?_)
    iterate 3 refine D.pure rfl rfl rfl rfl rfl rfl ?_
    refine D.done [(2, [], _), (3, [], _)] ⟨rfl, rfl, trivial⟩ (hR _ _ _ rfl ?_); clear hR R
    refine G.retN (G.dropAll (G.fin2 rfl rfl rfl ?_))
    exact ⟨rfl, .inl ⟨h14', rfl⟩⟩
  · skip
    have h14' : errU l = 0 := by simpa using h14
    have hN60 := errU_names h14'
    rw [hN] at hN60
    refine G.region rfl (fun R hR => ?_)
    refine D.pure rfl rfl rfl rfl rfl rfl ?_
    refine D.callP (build_fn _ _ l (hv.mono (by (repeat (first | exact Mem.le.refl _ | assumption | (apply Mem.le.trans; rotate_left; assumption))))) hl) rfl rfl rfl rfl rfl rfl rfl (fun _ => rfl) (fun v17 C17 hle17 hq17 => ?_)
    refine D.pure rfl rfl rfl rfl rfl rfl ?_
    refine D.done [(5, [], _)] ⟨rfl, trivial⟩ (hR _ _ _ rfl ?_); clear hR R
    have hgr : Graph C17 v17 N A := by rw [← hA, ← hN]; exact hq17
    obtain ⟨b, An, cn, x2, Aa, ca, x4, hgp, hobj, hnames, harcs⟩ := hgr.parts
    subst hgp
    refine G.region rfl (fun R hR => ?_)
    refine D.pure rfl rfl rfl rfl rfl rfl ?_
    refine D.done [(5, [], _), (6, [], _)] ⟨rfl, rfl, trivial⟩ (hR _ _ _ rfl ?_); clear hR R
    refine G.region rfl (fun R hR => ?_)
    iterate 3 refine D.pure rfl rfl rfl rfl rfl rfl ?_
    refine D.loadP0 (PtrTo.block (Mem.get hobj (by (repeat (first | exact Mem.le.refl _ | assumption | (apply Mem.le.trans; rotate_left; assumption))))) _) rfl rfl rfl rfl rfl rfl rfl rfl ?_
    iterate 2 refine D.pure rfl rfl rfl rfl rfl rfl ?_
    refine D.done [(5, [], _), (6, [], _), (21, [], _), (22, [], _), (23, [], _)] ⟨rfl, rfl, rfl, rfl, rfl, trivial⟩ (hR _ _ _ rfl ?_); clear hR R
    refine G.nilArr 57 2 ?_
    refine G.loop (fun fr C' L' μ => ∃ (i : Nat) (w : Value), (i ≤ N.length) ∧ fr = [(5, [], .pointer (some ⟨b, 0, none⟩)), (6, [], w), (21, [], .slice An N.length cn), (22, [], .int .i64 N.length), (23, [], .int .i64 i)] ∧ L' = [.arr w 57 2 (cloL t N.length i).length ((cloL t N.length i).map (pairE N)).flatten] ∧ μ = N.length - i) (fr' := [(5, [], _), (6, [], _), (21, [], _), (22, [], _), (23, [], _)]) ⟨rfl, rfl, rfl, rfl, rfl, trivial⟩ ⟨0, _, Nat.zero_le _, rfl, rfl, rfl⟩ (fun fr C0' L0' m hle0 hI => ?_)
    obtain ⟨i, w, hi, rfl, rfl, rfl⟩ := hI
    refine G.region rfl (fun R hR => ?_)
    refine D.pure rfl rfl rfl rfl rfl rfl ?_
    refine D.done [(5, [], _), (6, [], _), (21, [], _), (22, [], _), (23, [], _), (24, [], _)] ⟨rfl, rfl, rfl, rfl, rfl, rfl, trivial⟩ (hR _ _ _ rfl ?_); clear hR R
    refine G.cond rfl (fun h24 => ?_) (fun h24 => ?_)
    · skip
      simp only [decide_eq_true_eq] at h24
      have hil : i < N.length := by omega
      have hrn : (N.map encS)[i]? = some (encS (nameAt N i)) := by rw [List.getElem?_map, nameAt_get hil]; rfl
      refine G.region rfl (fun R hR => ?_)
      refine D.pure rfl rfl rfl rfl rfl rfl ?_
      refine D.index0 (hnames.mono (by (repeat (first | exact Mem.le.refl _ | assumption | (apply Mem.le.trans; rotate_left; assumption))))) rfl rfl rfl rfl rfl rfl rfl rfl rfl rfl (by omega) hrn (fun _ => rfl) (fun p26 hp26 => ?_)
      refine D.loadP0 hp26 rfl rfl rfl rfl rfl rfl rfl rfl ?_
      iterate 2 refine D.pure rfl rfl rfl rfl rfl rfl ?_
      refine D.done [(5, [], _), (6, [], _), (7, [], _), (8, [], _), (21, [], _), (22, [], _), (23, [], _)] ⟨rfl, rfl, rfl, rfl, rfl, rfl, rfl, trivial⟩ (hR _ _ _ rfl ?_); clear hR R
      refine G.region rfl (fun R hR => ?_)
      iterate 2 refine D.pure rfl rfl rfl rfl rfl rfl ?_
      refine D.callP (reached_fn _ _ N A i (hgr.mono (by (repeat (first | exact Mem.le.refl _ | assumption | (apply Mem.le.trans; rotate_left; assumption))))) hok hil) rfl rfl rfl rfl rfl rfl rfl (fun _ => rfl) (fun v30 C30 hle30 hq30 => ?_)
      obtain ⟨rs, hrs, hrl, hrr⟩ := hq30
      obtain ⟨Ar, cr, rfl, _⟩ := id hrs
      simp only [List.length_map, hrl] at hrs ⊢
      iterate 2 refine D.pure rfl rfl rfl rfl rfl rfl ?_
      refine D.done [(5, [], _), (6, [], _), (8, [], _), (21, [], _), (22, [], _), (23, [], _), (30, [], _), (31, [], _), (32, [], _)] ⟨rfl, rfl, rfl, rfl, rfl, rfl, rfl, rfl, rfl, trivial⟩ (hR _ _ _ rfl ?_); clear hR R
      refine G.eqL (L' := [.arr w 57 2 (cloL t N.length i ++ cloRow t i 0).length ((cloL t N.length i ++ cloRow t i 0).map (pairE N)).flatten]) (by rw [show cloRow t i 0 = [] from rfl, List.append_nil]) ?_
      refine G.loop (fun fr C' L' μ => ∃ (k : Nat) (w : Value), (k ≤ N.length) ∧ fr = [(5, [], .pointer (some ⟨b, 0, none⟩)), (6, [], w), (8, [], strV (nameAt N i)), (21, [], .slice An N.length cn), (22, [], .int .i64 N.length), (23, [], .int .i64 i), (30, [], .slice Ar N.length cr), (31, [], .int .i64 N.length), (32, [], .int .i64 k)] ∧ L' = [.arr w 57 2 (cloL t N.length i ++ cloRow t i k).length ((cloL t N.length i ++ cloRow t i k).map (pairE N)).flatten] ∧ μ = N.length - k) (fr' := [(5, [], _), (6, [], _), (8, [], _), (21, [], _), (22, [], _), (23, [], _), (30, [], _), (31, [], _), (32, [], _)]) ⟨rfl, rfl, rfl, rfl, rfl, rfl, rfl, rfl, rfl, trivial⟩ ⟨0, w, Nat.zero_le _, rfl, rfl, rfl⟩ (fun fr C1' L1' m hle1 hI => ?_)
      obtain ⟨k, w, hk, rfl, rfl, rfl⟩ := hI
      refine G.region rfl (fun R hR => ?_)
      refine D.pure rfl rfl rfl rfl rfl rfl ?_
      refine D.done [(5, [], _), (6, [], _), (8, [], _), (21, [], _), (22, [], _), (23, [], _), (30, [], _), (31, [], _), (32, [], _), (33, [], _)] ⟨rfl, rfl, rfl, rfl, rfl, rfl, rfl, rfl, rfl, rfl, trivial⟩ (hR _ _ _ rfl ?_); clear hR R
      refine G.cond rfl (fun h33 => ?_) (fun h33 => ?_)
      · skip
        simp only [decide_eq_true_eq] at h33
        have hkl : k < N.length := by omega
        have hrw : (rs.map encB)[k]? = some [.bool (bAt rs k)] := by rw [List.getElem?_map, get_bAt (by omega)]; rfl
        have hrk : (N.map encS)[k]? = some (encS (nameAt N k)) := by rw [List.getElem?_map, nameAt_get hkl]; rfl
        have hbt : bAt rs k = t i k := by
          rw [Bool.eq_iff_iff, hrr, ht]
        have hl1 := cloL_len t N.length i
        have hl2 := cloRow_len t i k
        have hl3 : i * N.length ≤ 60 * 60 := Nat.mul_le_mul (by omega) hN60
        have hl4 : (cloL t N.length i ++ cloRow t i k).length ≤ 3660 := by rw [List.length_append]; omega
        refine G.region rfl (fun R hR => ?_)
        refine D.pure rfl rfl rfl rfl rfl rfl ?_
        refine D.index0 (hrs.mono (by (repeat (first | exact Mem.le.refl _ | assumption | (apply Mem.le.trans; rotate_left; assumption))))) rfl rfl rfl rfl rfl rfl rfl rfl rfl rfl (by omega) hrw (fun _ => rfl) (fun p35 hp35 => ?_)
        refine D.loadP0 hp35 rfl rfl rfl rfl rfl rfl rfl rfl ?_
        iterate 2 refine D.pure rfl rfl rfl rfl rfl rfl ?_
        refine D.done [(5, [], _), (6, [], _), (8, [], _), (9, [], _), (10, [], _), (21, [], _), (22, [], _), (23, [], _), (30, [], _), (31, [], _), (32, [], _)] ⟨rfl, rfl, rfl, rfl, rfl, rfl, rfl, rfl, rfl, rfl, rfl, trivial⟩ (hR _ _ _ rfl ?_); clear hR R
        refine G.region rfl (fun R hR => ?_)
        refine D.pure rfl rfl rfl rfl rfl rfl ?_
        refine D.done [(5, [], _), (6, [], _), (8, [], _), (9, [], _), (21, [], _), (22, [], _), (23, [], _), (30, [], _), (31, [], _), (32, [], _), (37, [], _)] ⟨rfl, rfl, rfl, rfl, rfl, rfl, rfl, rfl, rfl, rfl, rfl, trivial⟩ (hR _ _ _ rfl ?_); clear hR R
        refine G.cond rfl (fun h37 => ?_) (fun h37 => ?_)
        · skip
          have h37' : t i k = true := by rw [← hbt]; exact h37
          refine G.region rfl (fun R hR => ?_)
          iterate 5 refine D.pure rfl rfl rfl rfl rfl rfl ?_
          refine D.loadP0 (PtrTo.block (Mem.get hobj (by (repeat (first | exact Mem.le.refl _ | assumption | (apply Mem.le.trans; rotate_left; assumption))))) _) rfl rfl rfl rfl rfl rfl rfl rfl ?_
          refine D.pure rfl rfl rfl rfl rfl rfl ?_
          refine D.index0 (hnames.mono (by (repeat (first | exact Mem.le.refl _ | assumption | (apply Mem.le.trans; rotate_left; assumption))))) rfl rfl rfl rfl rfl rfl rfl rfl rfl rfl (by omega) hrk (fun _ => rfl) (fun p45 hp45 => ?_)
          refine D.loadP0 hp45 rfl rfl rfl rfl rfl rfl rfl rfl ?_
          refine D.build [strV (nameAt N i), strV (nameAt N k)] rfl rfl rfl rfl rfl rfl rfl rfl ?_
          refine D.buildSlice [[strV (nameAt N i), strV (nameAt N k)]] rfl rfl rfl rfl rfl rfl rfl rfl rfl rfl rfl rfl (fun _ => rfl) (fun p48 C48 hle48 hs48 => ?_)
          refine D.append (j := 0) rfl rfl rfl rfl rfl rfl rfl rfl rfl rfl rfl hs48 rfl (by simp only [List.length_singleton, maxLen]; omega) (by simp only [List.length_singleton]; omega) (fun _ => rfl) (fun v49 => ?_)
          refine D.pure rfl rfl rfl rfl rfl rfl ?_
          refine D.done [(5, [], _), (6, [], _), (8, [], _), (21, [], _), (22, [], _), (23, [], _), (30, [], _), (31, [], _), (32, [], _)] ⟨rfl, rfl, rfl, rfl, rfl, rfl, rfl, rfl, rfl, trivial⟩ (hR _ _ _ rfl ?_); clear hR R
          refine G.region rfl (fun R hR => ?_)
          refine D.i64 _ rfl rfl rfl rfl rfl (by omega) (by omega) rfl rfl ?_
          refine D.pure rfl rfl rfl rfl rfl rfl ?_
          refine D.done [(5, [], _), (6, [], _), (8, [], _), (21, [], _), (22, [], _), (23, [], _), (30, [], _), (31, [], _), (32, [], _)] ⟨rfl, rfl, rfl, rfl, rfl, rfl, rfl, rfl, rfl, trivial⟩ (hR _ _ _ rfl ?_); clear hR R
          refine G.eqL (L' := [.arr v49 57 2 (cloL t N.length i ++ cloRow t i (k + 1)).length ((cloL t N.length i ++ cloRow t i (k + 1)).map (pairE N)).flatten]) (by
            have e : cloRow t i (k + 1) = cloRow t i k ++ [(i, k)] := by unfold cloRow; rw [cat_succ, oneIf_true h37']
            rw [e]; simp [pairE]; try omega) ?_
          refine G.again (m' := N.length - (k + 1)) (by omega) (by (repeat (first | exact Mem.le.refl _ | assumption | (apply Mem.le.trans; rotate_left; assumption)))) (fr' := [(5, [], _), (6, [], _), (8, [], _), (21, [], _), (22, [], _), (23, [], _), (30, [], _), (31, [], _), (32, [], _)]) ⟨rfl, rfl, rfl, rfl, rfl, rfl, rfl, rfl, rfl, trivial⟩ ⟨k + 1, v49, by omega, rfl, rfl, rfl⟩
        · skip
          have h37' : t i k = false := by rw [← hbt]; exact h37
          refine G.region rfl (fun R hR => ?_)
          refine D.i64 _ rfl rfl rfl rfl rfl (by omega) (by omega) rfl rfl ?_
          refine D.pure rfl rfl rfl rfl rfl rfl ?_
          refine D.done [(5, [], _), (6, [], _), (8, [], _), (21, [], _), (22, [], _), (23, [], _), (30, [], _), (31, [], _), (32, [], _)] ⟨rfl, rfl, rfl, rfl, rfl, rfl, rfl, rfl, rfl, trivial⟩ (hR _ _ _ rfl ?_); clear hR R
          refine G.eqL (L' := [.arr w 57 2 (cloL t N.length i ++ cloRow t i (k + 1)).length ((cloL t N.length i ++ cloRow t i (k + 1)).map (pairE N)).flatten]) (by
            have e : cloRow t i (k + 1) = cloRow t i k := by unfold cloRow; rw [cat_succ, oneIf_false h37', List.append_nil]
            rw [e]) ?_
          refine G.again (m' := N.length - (k + 1)) (by omega) (by (repeat (first | exact Mem.le.refl _ | assumption | (apply Mem.le.trans; rotate_left; assumption)))) (fr' := [(5, [], _), (6, [], _), (8, [], _), (21, [], _), (22, [], _), (23, [], _), (30, [], _), (31, [], _), (32, [], _)]) ⟨rfl, rfl, rfl, rfl, rfl, rfl, rfl, rfl, rfl, trivial⟩ ⟨k + 1, w, by omega, rfl, rfl, rfl⟩
      · skip
        simp only [decide_eq_false_iff_not] at h33
        have hkl : k = N.length := by omega
        subst hkl
        refine G.region rfl (fun R hR => ?_)
        refine D.i64 _ rfl rfl rfl rfl rfl (by omega) (by omega) rfl rfl ?_
        refine D.pure rfl rfl rfl rfl rfl rfl ?_
        refine D.done [(5, [], _), (6, [], _), (21, [], _), (22, [], _), (23, [], _)] ⟨rfl, rfl, rfl, rfl, rfl, trivial⟩ (hR _ _ _ rfl ?_); clear hR R
        refine G.again (m' := N.length - (i + 1)) (by omega) (by (repeat (first | exact Mem.le.refl _ | assumption | (apply Mem.le.trans; rotate_left; assumption)))) (fr' := [(5, [], _), (6, [], _), (21, [], _), (22, [], _), (23, [], _)]) ⟨rfl, rfl, rfl, rfl, rfl, trivial⟩ ⟨i + 1, w, by omega, rfl, rfl, rfl⟩
    · skip
      simp only [decide_eq_false_iff_not] at h24
      have hil : i = N.length := by omega
      subst hil
      refine G.region rfl (fun R hR => ?_)
      iterate 3 refine D.pure rfl rfl rfl rfl rfl rfl ?_
      refine D.done [(2, [], _), (3, [], _)] ⟨rfl, rfl, trivial⟩ (hR _ _ _ rfl ?_); clear hR R
      refine G.freezeArr 0 ((cloL t N.length N.length).map (pairE N)) rfl rfl (by intro r hr; obtain ⟨y, _, rfl⟩ := List.mem_map.1 hr; rfl) (by simp) (fun Cf hf hsd => ?_)
      refine G.retN (G.dropAll (G.fin2 rfl rfl rfl ?_))
      exact ⟨rfl, .inr ⟨h14', t, w, by rw [hA]; exact ht, rfl, by rw [hN]; exact hsd⟩⟩
end Go.Proofs.YtddjibfmnkcalaaDoor
namespace Go.Proofs.YtddjibfmnkcalaaDoor
open Go Go.Jog
set_option maxRecDepth 100000

theorem look_at0 (N : List Str) (s : Str) : lookV (.int .i64 0) false (mget (atM N 0) s) = .int .i64 (posZ N s) := by
  rw [mget_atM]
  by_cases h : s ∈ N
  · simp [h, posZ, lookV]
  · simp [h, posZ, lookV]
def Bad (o : List Str) (x : Rel) : Prop := x.kind ≠ 4 ∧ posZ o x.upper ≤ posZ o x.lower
def KeepRes (l : List Rel) (o : List Str) (r : Value) : Prop :=
  (errU l ≠ 0 ∧ r = .tuple #[.int .i64 0, .bool false, .int .i64 (errU l)]) ∨
  (errU l = 0 ∧ ¬ o.Nodup ∧ r = .tuple #[.int .i64 0, .bool false, .int .i64 9]) ∨
  (errU l = 0 ∧ o.Nodup ∧ (∃ s ∈ unitsL l, s ∉ o) ∧ r = .tuple #[.int .i64 0, .bool false, .int .i64 10]) ∨
  (errU l = 0 ∧ o.Nodup ∧ (∀ s ∈ unitsL l, s ∈ o) ∧ ∃ i x, l[i]? = some x ∧ Bad o x ∧ (∀ y ∈ l.take i, ¬ Bad o y) ∧ r = .tuple #[.int .i64 i, .bool false, .int .i64 0]) ∨
  (errU l = 0 ∧ o.Nodup ∧ (∀ s ∈ unitsL l, s ∈ o) ∧ (∀ y ∈ l, ¬ Bad o y) ∧ r = .tuple #[.int .i64 0, .bool true, .int .i64 0])
theorem nodup_snoc {α : Type} {l : List α} {x : α} (h : l.Nodup) (hx : x ∉ l) : (l ++ [x]).Nodup := by
  rw [List.nodup_append]
  exact ⟨h, by simp, fun a ha b hb e => by simp only [List.mem_singleton] at hb; subst hb; subst e; exact hx ha⟩
set_option maxHeartbeats 1000000 in
theorem keeps_fn (C : Mem) (v vo : Value) (l : List Rel) (o : List Str) (hv : Sl C 3 v (l.map Rel.enc)) (hl : l.length ≤ 100000) (hsh : ∀ x ∈ l, x.short) (hvo : Sl C 1 vo (o.map encS)) (hol : o.length ≤ 100000) :
    Pur cx.P 23 [v, vo] C fun r _ => KeepRes l o r := by
  obtain ⟨A, c, rfl, _⟩ := id hv
  obtain ⟨Ao, co, rfl, _⟩ := id hvo
  simp only [List.length_map] at hv hvo ⊢
  obtain ⟨N, hN⟩ : ∃ N, unitsL l = N := ⟨_, rfl⟩
  have hNl : N.length ≤ 200000 := by rw [← hN]; have := unitsL_len l; omega
  refine Fn.intro (by kernel_rfl) Tryd.func23 rfl 82 rfl rfl (fun w0 => ?_)
  refine G.region rfl (fun R hR => ?_)
  iterate 3 refine D.pure rfl rfl rfl rfl rfl rfl ?_
  refine D.done [(0, [], _), (1, [], _)] ⟨rfl, rfl, trivial⟩ (hR _ _ _ rfl ?_); clear hR R
  refine G.region rfl (fun R hR => ?_)
  refine D.pure rfl rfl rfl rfl rfl rfl ?_
  refine D.gives2 (check_fn _ _ l hv hl hsh) rfl rfl rfl rfl rfl rfl rfl (fun _ => rfl) ?_
  refine D.pure rfl rfl rfl rfl rfl rfl ?_
  refine D.done [(0, [], _), (1, [], _), (7, [], _)] ⟨rfl, rfl, rfl, trivial⟩ (hR _ _ _ rfl ?_); clear hR R
  refine G.region rfl (fun R hR => ?_)
  iterate 2 refine D.pure rfl rfl rfl rfl rfl rfl ?_
  refine D.done [(0, [], _), (1, [], _), (7, [], _), (22, [], _)] ⟨rfl, rfl, rfl, rfl, trivial⟩ (hR _ _ _ rfl ?_); clear hR R
  refine G.cond rfl (fun h22 => ?_) (fun h22 => ?_)
  · skip
    have h22' : errU l ≠ 0 := by simpa using h22
    refine G.region rfl (fun R hR => ?_)
    iterate 4 refine D.pure rfl rfl rfl rfl rfl rfl ?_
    refine D.done [(4, [], _), (5, [], _), (6, [], _)] ⟨rfl, rfl, rfl, trivial⟩ (hR _ _ _ rfl ?_); clear hR R
    refine G.retN (G.dropAll (G.fin3 rfl rfl rfl rfl ?_))
    exact ⟨rfl, .inl ⟨h22', rfl⟩⟩
  · skip
    have h22' : errU l = 0 := by simpa using h22
    refine G.region rfl (fun R hR => ?_)
    refine D.makeMap keyS rfl rfl rfl rfl (fun _ => rfl) (fun b24 => ?_)
    refine D.pure rfl rfl rfl rfl rfl rfl ?_
    refine D.done [(0, [], _), (1, [], _), (8, [], _)] ⟨rfl, rfl, rfl, trivial⟩ (hR _ _ _ rfl ?_); clear hR R
    refine G.region rfl (fun R hR => ?_)
    iterate 3 refine D.pure rfl rfl rfl rfl rfl rfl ?_
    refine D.done [(0, [], _), (8, [], _), (25, [], _), (26, [], _), (27, [], _)] ⟨rfl, rfl, rfl, rfl, rfl, trivial⟩ (hR _ _ _ rfl ?_); clear hR R
    refine G.loop (fun fr C' L' μ => ∃ (k : Nat), (k ≤ o.length ∧ (o.take k).Nodup) ∧ fr = [(0, [], .slice A l.length c), (8, [], .map (some b24)), (25, [], .slice Ao o.length co), (26, [], .int .i64 o.length), (27, [], .int .i64 k)] ∧ L' = [.obj b24 (mapOf keyS.enc (atM (o.take k) 0))] ∧ μ = o.length - k) (fr' := [(0, [], _), (8, [], _), (25, [], _), (26, [], _), (27, [], _)]) ⟨rfl, rfl, rfl, rfl, rfl, trivial⟩ ⟨0, ⟨Nat.zero_le _, by simp⟩, rfl, rfl, rfl⟩ (fun fr C0' L0' m hle0 hI => ?_)
    obtain ⟨k, ⟨hk, hnd⟩, rfl, rfl, rfl⟩ := hI
    refine G.region rfl (fun R hR => ?_)
    refine D.pure rfl rfl rfl rfl rfl rfl ?_
    refine D.done [(0, [], _), (8, [], _), (25, [], _), (26, [], _), (27, [], _), (28, [], _)] ⟨rfl, rfl, rfl, rfl, rfl, rfl, trivial⟩ (hR _ _ _ rfl ?_); clear hR R
    refine G.cond rfl (fun h28 => ?_) (fun h28 => ?_)
    · skip
      simp only [decide_eq_true_eq] at h28
      have hkl : k < o.length := by omega
      obtain ⟨s, hs⟩ : ∃ s, o[k]? = some s := ⟨o[k], List.getElem?_eq_getElem hkl⟩
      have hrs : (o.map encS)[k]? = some (encS s) := by rw [List.getElem?_map, hs]; rfl
      have htk : o.take (k + 1) = o.take k ++ [s] := by rw [List.take_add_one, hs]; rfl
      refine G.region rfl (fun R hR => ?_)
      refine D.pure rfl rfl rfl rfl rfl rfl ?_
      refine D.index0 (hvo.mono (by (repeat (first | exact Mem.le.refl _ | assumption | (apply Mem.le.trans; rotate_left; assumption))))) rfl rfl rfl rfl rfl rfl rfl rfl rfl rfl (by omega) hrs (fun _ => rfl) (fun p30 hp30 => ?_)
      refine D.loadP0 hp30 rfl rfl rfl rfl rfl rfl rfl rfl ?_
      iterate 2 refine D.pure rfl rfl rfl rfl rfl rfl ?_
      refine D.done [(0, [], _), (8, [], _), (9, [], _), (10, [], _), (25, [], _), (26, [], _), (27, [], _)] ⟨rfl, rfl, rfl, rfl, rfl, rfl, rfl, trivial⟩ (hR _ _ _ rfl ?_); clear hR R
      refine G.region rfl (fun R hR => ?_)
      iterate 2 refine D.pure rfl rfl rfl rfl rfl rfl ?_
      refine D.lookupL keyS (.head _) rfl rfl rfl rfl rfl rfl rfl rfl (by kernel_rfl) rfl (look_at (o.take k) s) rfl rfl ?_
      iterate 5 refine D.pure rfl rfl rfl rfl rfl rfl ?_
      refine D.done [(0, [], _), (8, [], _), (9, [], _), (10, [], _), (12, [], _), (25, [], _), (26, [], _), (27, [], _)] ⟨rfl, rfl, rfl, rfl, rfl, rfl, rfl, rfl, trivial⟩ (hR _ _ _ rfl ?_); clear hR R
      refine G.region rfl (fun R hR => ?_)
      refine D.pure rfl rfl rfl rfl rfl rfl ?_
      refine D.done [(0, [], _), (8, [], _), (9, [], _), (10, [], _), (25, [], _), (26, [], _), (27, [], _), (38, [], _)] ⟨rfl, rfl, rfl, rfl, rfl, rfl, rfl, rfl, trivial⟩ (hR _ _ _ rfl ?_); clear hR R
      refine G.cond rfl (fun h38 => ?_) (fun h38 => ?_)
      · skip
        have h38' : s ∈ o.take k := by simpa using h38
        refine G.region rfl (fun R hR => ?_)
        iterate 3 refine D.pure rfl rfl rfl rfl rfl rfl ?_
        refine D.done [(4, [], _), (5, [], _), (6, [], _)] ⟨rfl, rfl, rfl, trivial⟩ (hR _ _ _ rfl ?_); clear hR R
        refine G.retN (G.dropAll (G.fin3 rfl rfl rfl rfl ?_))
        refine ⟨rfl, .inr (.inl ⟨h22', fun hn => ?_, rfl⟩)⟩
        have h2 := hn.sublist (List.take_sublist (k + 1) o)
        rw [htk, List.nodup_append] at h2
        exact h2.2.2 s h38' s (by simp) rfl
      · skip
        have h38' : s ∉ o.take k := by simpa using h38
        have hset := mset_atM (i := 0) h38'
        rw [← htk, List.length_take, Nat.min_eq_left (by omega), Nat.zero_add] at hset
        refine G.region rfl (fun R hR => ?_)
        iterate 3 refine D.pure rfl rfl rfl rfl rfl rfl ?_
        refine D.mapUpdate keyS (j := 0) rfl rfl rfl rfl rfl rfl rfl rfl rfl rfl (by kernel_rfl) ?_
        refine D.done [(0, [], _), (8, [], _), (25, [], _), (26, [], _), (27, [], _)] ⟨rfl, rfl, rfl, rfl, rfl, trivial⟩ (hR _ _ _ rfl ?_); clear hR R
        refine G.region rfl (fun R hR => ?_)
        refine D.i64 _ rfl rfl rfl rfl rfl (by omega) (by omega) rfl rfl ?_
        refine D.pure rfl rfl rfl rfl rfl rfl ?_
        refine D.done [(0, [], _), (8, [], _), (25, [], _), (26, [], _), (27, [], _)] ⟨rfl, rfl, rfl, rfl, rfl, trivial⟩ (hR _ _ _ rfl ?_); clear hR R
        refine G.eqL (L' := [.obj b24 (mapOf keyS.enc (atM (o.take (k + 1)) 0))]) (by rw [← hset]; rfl) ?_
        refine G.again (m' := o.length - (k + 1)) (by omega) (by (repeat (first | exact Mem.le.refl _ | assumption | (apply Mem.le.trans; rotate_left; assumption)))) (fr' := [(0, [], _), (8, [], _), (25, [], _), (26, [], _), (27, [], _)]) ⟨rfl, rfl, rfl, rfl, rfl, trivial⟩ ⟨k + 1, ⟨by omega, by rw [htk]; exact nodup_snoc hnd h38'⟩, rfl, rfl, rfl⟩
    · skip
      simp only [decide_eq_false_iff_not] at h28
      have hkl : k = o.length := by omega
      subst hkl
      rw [List.take_length] at hnd ⊢
      refine G.region rfl (fun R hR => ?_)
      refine D.pure rfl rfl rfl rfl rfl rfl ?_
      refine D.callP (units_fn _ _ l (hv.mono (by (repeat (first | exact Mem.le.refl _ | assumption | (apply Mem.le.trans; rotate_left; assumption))))) hl) rfl rfl rfl rfl rfl rfl rfl (fun _ => rfl) (fun v44 C44 hle44 hq44 => ?_)
      rw [hN] at hq44
      obtain ⟨An, cn, hvn, _⟩ := id hq44
      subst hvn
      simp only [List.length_map] at hq44 ⊢
      iterate 2 refine D.pure rfl rfl rfl rfl rfl rfl ?_
      refine D.done [(0, [], _), (8, [], _), (44, [], _), (45, [], _), (46, [], _)] ⟨rfl, rfl, rfl, rfl, rfl, trivial⟩ (hR _ _ _ rfl ?_); clear hR R
      refine G.loop (fun fr C' L' μ => ∃ (k : Nat), (k ≤ N.length ∧ ∀ s ∈ N.take k, s ∈ o) ∧ fr = [(0, [], .slice A l.length c), (8, [], .map (some b24)), (44, [], .slice An N.length cn), (45, [], .int .i64 N.length), (46, [], .int .i64 k)] ∧ L' = [.obj b24 (mapOf keyS.enc (atM o 0))] ∧ μ = N.length - k) (fr' := [(0, [], _), (8, [], _), (44, [], _), (45, [], _), (46, [], _)]) ⟨rfl, rfl, rfl, rfl, rfl, trivial⟩ ⟨0, ⟨Nat.zero_le _, fun s hs => by simp at hs⟩, rfl, rfl, rfl⟩ (fun fr C1' L1' m hle1 hI => ?_)
      obtain ⟨k, ⟨hk, hin⟩, rfl, rfl, rfl⟩ := hI
      refine G.region rfl (fun R hR => ?_)
      refine D.pure rfl rfl rfl rfl rfl rfl ?_
      refine D.done [(0, [], _), (8, [], _), (44, [], _), (45, [], _), (46, [], _), (47, [], _)] ⟨rfl, rfl, rfl, rfl, rfl, rfl, trivial⟩ (hR _ _ _ rfl ?_); clear hR R
      refine G.cond rfl (fun h47 => ?_) (fun h47 => ?_)
      · skip
        simp only [decide_eq_true_eq] at h47
        have hkl : k < N.length := by omega
        obtain ⟨s, hs⟩ : ∃ s, N[k]? = some s := ⟨N[k], List.getElem?_eq_getElem hkl⟩
        have hrs : (N.map encS)[k]? = some (encS s) := by rw [List.getElem?_map, hs]; rfl
        have htk : N.take (k + 1) = N.take k ++ [s] := by rw [List.take_add_one, hs]; rfl
        refine G.region rfl (fun R hR => ?_)
        refine D.index0 (hq44.mono (by (repeat (first | exact Mem.le.refl _ | assumption | (apply Mem.le.trans; rotate_left; assumption))))) rfl rfl rfl rfl rfl rfl rfl rfl rfl rfl (by omega) hrs (fun _ => rfl) (fun p48 hp48 => ?_)
        refine D.loadP0 hp48 rfl rfl rfl rfl rfl rfl rfl rfl ?_
        refine D.pure rfl rfl rfl rfl rfl rfl ?_
        refine D.done [(0, [], _), (8, [], _), (14, [], _), (44, [], _), (45, [], _), (46, [], _)] ⟨rfl, rfl, rfl, rfl, rfl, rfl, trivial⟩ (hR _ _ _ rfl ?_); clear hR R
        refine G.region rfl (fun R hR => ?_)
        iterate 2 refine D.pure rfl rfl rfl rfl rfl rfl ?_
        refine D.lookupL keyS (.head _) rfl rfl rfl rfl rfl rfl rfl rfl (by kernel_rfl) rfl (look_at o s) rfl rfl ?_
        iterate 5 refine D.pure rfl rfl rfl rfl rfl rfl ?_
        refine D.done [(0, [], _), (8, [], _), (16, [], _), (44, [], _), (45, [], _), (46, [], _)] ⟨rfl, rfl, rfl, rfl, rfl, rfl, trivial⟩ (hR _ _ _ rfl ?_); clear hR R
        refine G.region rfl (fun R hR => ?_)
        iterate 2 refine D.pure rfl rfl rfl rfl rfl rfl ?_
        refine D.done [(0, [], _), (8, [], _), (44, [], _), (45, [], _), (46, [], _), (57, [], _)] ⟨rfl, rfl, rfl, rfl, rfl, rfl, trivial⟩ (hR _ _ _ rfl ?_); clear hR R
        refine G.cond rfl (fun h57 => ?_) (fun h57 => ?_)
        · skip
          have h57' : s ∉ o := by simpa using h57
          refine G.region rfl (fun R hR => ?_)
          iterate 3 refine D.pure rfl rfl rfl rfl rfl rfl ?_
          refine D.done [(4, [], _), (5, [], _), (6, [], _)] ⟨rfl, rfl, rfl, trivial⟩ (hR _ _ _ rfl ?_); clear hR R
          refine G.retN (G.dropAll (G.fin3 rfl rfl rfl rfl ?_))
          exact ⟨rfl, .inr (.inr (.inl ⟨h22', hnd, ⟨s, by rw [hN]; exact List.mem_of_getElem? hs, h57'⟩, rfl⟩))⟩
        · skip
          have h57' : s ∈ o := by simpa using h57
          refine G.region rfl (fun R hR => ?_)
          refine D.i64 _ rfl rfl rfl rfl rfl (by omega) (by omega) rfl rfl ?_
          refine D.pure rfl rfl rfl rfl rfl rfl ?_
          refine D.done [(0, [], _), (8, [], _), (44, [], _), (45, [], _), (46, [], _)] ⟨rfl, rfl, rfl, rfl, rfl, trivial⟩ (hR _ _ _ rfl ?_); clear hR R
          refine G.again (m' := N.length - (k + 1)) (by omega) (by (repeat (first | exact Mem.le.refl _ | assumption | (apply Mem.le.trans; rotate_left; assumption)))) (fr' := [(0, [], _), (8, [], _), (44, [], _), (45, [], _), (46, [], _)]) ⟨rfl, rfl, rfl, rfl, rfl, trivial⟩ ⟨k + 1, ⟨by omega, fun s' hs' => by
            rw [htk] at hs'
            rcases List.mem_append.1 hs' with h | h
            · exact hin s' h
            · rw [List.mem_singleton.1 h]; exact h57'⟩, rfl, rfl, rfl⟩
      · skip
        simp only [decide_eq_false_iff_not] at h47
        have hkl : k = N.length := by omega
        subst hkl
        rw [List.take_length] at hin
        have hin2 : ∀ s ∈ unitsL l, s ∈ o := by rw [hN]; exact hin
        refine G.region rfl (fun R hR => ?_)
        iterate 3 refine D.pure rfl rfl rfl rfl rfl rfl ?_
        refine D.done [(8, [], _), (59, [], _), (60, [], _), (61, [], _)] ⟨rfl, rfl, rfl, rfl, trivial⟩ (hR _ _ _ rfl ?_); clear hR R
        refine G.loop (fun fr C' L' μ => ∃ (k : Nat), (k ≤ l.length ∧ ∀ y ∈ l.take k, ¬ Bad o y) ∧ fr = [(8, [], .map (some b24)), (59, [], .slice A l.length c), (60, [], .int .i64 l.length), (61, [], .int .i64 k)] ∧ L' = [.obj b24 (mapOf keyS.enc (atM o 0))] ∧ μ = l.length - k) (fr' := [(8, [], _), (59, [], _), (60, [], _), (61, [], _)]) ⟨rfl, rfl, rfl, rfl, trivial⟩ ⟨0, ⟨Nat.zero_le _, fun y hy => by simp at hy⟩, rfl, rfl, rfl⟩ (fun fr C2' L2' m hle2 hI => ?_)
        obtain ⟨k, ⟨hk, hbad⟩, rfl, rfl, rfl⟩ := hI
        refine G.region rfl (fun R hR => ?_)
        refine D.pure rfl rfl rfl rfl rfl rfl ?_
        refine D.done [(8, [], _), (59, [], _), (60, [], _), (61, [], _), (62, [], _)] ⟨rfl, rfl, rfl, rfl, rfl, trivial⟩ (hR _ _ _ rfl ?_); clear hR R
        refine G.cond rfl (fun h62 => ?_) (fun h62 => ?_)
        · skip
          simp only [decide_eq_true_eq] at h62
          have hkl : k < l.length := by omega
          obtain ⟨x, hx⟩ : ∃ x, l[k]? = some x := ⟨l[k], List.getElem?_eq_getElem hkl⟩
          have hrx : (l.map Rel.enc)[k]? = some x.enc := by rw [List.getElem?_map, hx]; rfl
          have htk : l.take (k + 1) = l.take k ++ [x] := by rw [List.take_add_one, hx]; rfl
          refine G.region rfl (fun R hR => ?_)
          refine D.pure rfl rfl rfl rfl rfl rfl ?_
          refine D.index0 (hv.mono (by (repeat (first | exact Mem.le.refl _ | assumption | (apply Mem.le.trans; rotate_left; assumption))))) rfl rfl rfl rfl rfl rfl rfl rfl rfl rfl (by omega) hrx (fun _ => rfl) (fun p64 hp64 => ?_)
          refine D.loadP0 hp64 rfl rfl rfl rfl rfl rfl rfl rfl ?_
          refine D.alloc rfl rfl rfl rfl rfl (fun _ => rfl) (fun b18 => ?_)
          refine D.pure rfl rfl rfl rfl rfl rfl ?_
          refine D.store (j := 0) rfl rfl rfl rfl rfl rfl rfl rfl rfl rfl rfl rfl ?_
          refine D.done [(8, [], _), (17, [], _), (18, [], _), (59, [], _), (60, [], _), (61, [], _)] ⟨rfl, rfl, rfl, rfl, rfl, rfl, trivial⟩ (hR _ _ _ rfl ?_); clear hR R
          refine G.region rfl (fun R hR => ?_)
          refine D.pure rfl rfl rfl rfl rfl rfl ?_
          refine D.loadL (.head _) rfl rfl rfl rfl rfl rfl rfl rfl rfl ?_
          iterate 4 refine D.pure rfl rfl rfl rfl rfl rfl ?_
          refine D.loadL (.head _) rfl rfl rfl rfl rfl rfl rfl rfl rfl ?_
          refine D.lookupL keyS (.tail _ (.head _)) rfl rfl rfl rfl rfl rfl rfl rfl (by kernel_rfl) rfl (look_at0 o x.upper) rfl rfl ?_
          iterate 2 refine D.pure rfl rfl rfl rfl rfl rfl ?_
          refine D.loadL (.head _) rfl rfl rfl rfl rfl rfl rfl rfl rfl ?_
          refine D.lookupL keyS (.tail _ (.head _)) rfl rfl rfl rfl rfl rfl rfl rfl (by kernel_rfl) rfl (look_at0 o x.lower) rfl rfl ?_
          refine D.pure rfl rfl rfl rfl rfl rfl ?_
          refine D.pickAnd rfl rfl rfl rfl rfl rfl rfl rfl ?_
          refine D.done [(8, [], _), (17, [], _), (59, [], _), (60, [], _), (61, [], _), (79, [], _)] ⟨rfl, rfl, rfl, rfl, rfl, rfl, trivial⟩ (hR _ _ _ rfl ?_); clear hR R
          refine G.cond rfl (fun h79 => ?_) (fun h79 => ?_)
          · skip
            have h79' : Bad o x := by
              unfold Bad
              simp at h79
              exact ⟨h79.1, by omega⟩
            refine G.region rfl (fun R hR => ?_)
            iterate 4 refine D.pure rfl rfl rfl rfl rfl rfl ?_
            refine D.done [(4, [], _), (5, [], _), (6, [], _)] ⟨rfl, rfl, rfl, trivial⟩ (hR _ _ _ rfl ?_); clear hR R
            refine G.retN (G.dropAll (G.fin3 rfl rfl rfl rfl ?_))
            exact ⟨rfl, .inr (.inr (.inr (.inl ⟨h22', hnd, hin2, k, x, hx, h79', hbad, rfl⟩)))⟩
          · skip
            have h79' : ¬ Bad o x := by
              unfold Bad
              intro hb
              have : (false : Bool) = true := by rw [← h79]; simp [hb.1]; omega
              cases this
            refine G.region rfl (fun R hR => ?_)
            refine D.i64 _ rfl rfl rfl rfl rfl (by omega) (by omega) rfl rfl ?_
            refine D.pure rfl rfl rfl rfl rfl rfl ?_
            refine D.done [(8, [], _), (59, [], _), (60, [], _), (61, [], _)] ⟨rfl, rfl, rfl, rfl, trivial⟩ (hR _ _ _ rfl ?_); clear hR R
            refine G.dropE 0 rfl ?_
            refine G.again (m' := l.length - (k + 1)) (by omega) (by (repeat (first | exact Mem.le.refl _ | assumption | (apply Mem.le.trans; rotate_left; assumption)))) (fr' := [(8, [], _), (59, [], _), (60, [], _), (61, [], _)]) ⟨rfl, rfl, rfl, rfl, trivial⟩ ⟨k + 1, ⟨by omega, fun y hy => by
              rw [htk] at hy
              rcases List.mem_append.1 hy with h | h
              · exact hbad y h
              · rw [List.mem_singleton.1 h]; exact h79'⟩, rfl, rfl, rfl⟩
        · skip
          simp only [decide_eq_false_iff_not] at h62
          have hkl : k = l.length := by omega
          subst hkl
          rw [List.take_length] at hbad
          refine G.region rfl (fun R hR => ?_)
          iterate 3 refine D.pure rfl rfl rfl rfl rfl rfl ?_
          refine D.done [(4, [], _), (5, [], _), (6, [], _)] ⟨rfl, rfl, rfl, trivial⟩ (hR _ _ _ rfl ?_); clear hR R
          refine G.retN (G.dropAll (G.fin3 rfl rfl rfl rfl ?_))
          exact ⟨rfl, .inr (.inr (.inr (.inr ⟨h22', hnd, hin2, hbad, rfl⟩)))⟩
end Go.Proofs.YtddjibfmnkcalaaDoor
namespace Go.Proofs.YtddjibfmnkcalaaDoor
open Go Go.Jog
set_option maxRecDepth 100000

theorem encN_I (l : List Nat) : l.map encN = (l.map fun n : Nat => (n : Int)).map encI := by rw [List.map_map]; rfl
theorem take_snoc {α : Type} {l : List α} {k : Nat} {x : α} (h : l[k]? = some x) : l.take (k + 1) = l.take k ++ [x] := by rw [List.take_add_one, h]; rfl
theorem sameInts_fn (C : Mem) (va vb : Value) (x y : List Int) (ha : Sl C 1 va (x.map encI)) (hb : Sl C 1 vb (y.map encI)) (hxl : x.length ≤ 1000000) : Gives cx.P 30 [va, vb] C (.bool (decide (x = y))) := by
  obtain ⟨A, c, rfl, _⟩ := id ha
  obtain ⟨B, d, rfl, _⟩ := id hb
  simp only [List.length_map] at ha hb ⊢
  refine Fn.intro (by kernel_rfl) Tryd.func30 rfl 26 rfl rfl (fun w0 => ?_)
  refine G.region rfl (fun R hR => ?_)
  refine D.pure rfl rfl rfl rfl rfl rfl ?_
  refine D.done [(0, [], _), (1, [], _)] ⟨rfl, rfl, trivial⟩ (hR _ _ _ rfl ?_); clear hR R
  refine G.region rfl (fun R hR => ?_)
  iterate 5 refine D.pure rfl rfl rfl rfl rfl rfl ?_
  refine D.done [(0, [], _), (1, [], _), (10, [], _)] ⟨rfl, rfl, rfl, trivial⟩ (hR _ _ _ rfl ?_); clear hR R
  refine G.cond rfl (fun h10 => ?_) (fun h10 => ?_)
  · skip
    have h10' : x.length ≠ y.length := fun e => by rw [e] at h10; simp at h10
    refine G.region rfl (fun R hR => ?_)
    refine D.pure rfl rfl rfl rfl rfl rfl ?_
    refine D.done [(4, [], _)] ⟨rfl, trivial⟩ (hR _ _ _ rfl ?_); clear hR R
    refine G.retN (G.dropAll (G.fin1 rfl rfl ?_))
    exact ⟨by rw [decide_eq_false (fun e => h10' (by rw [e]))], rfl⟩
  · skip
    have h10' : x.length = y.length := by
      have h : ((x.length : Int) != y.length) = false := h10
      simp at h; omega
    refine G.region rfl (fun R hR => ?_)
    refine D.pure rfl rfl rfl rfl rfl rfl ?_
    refine D.done [(0, [], _), (1, [], _), (5, [], _)] ⟨rfl, rfl, rfl, trivial⟩ (hR _ _ _ rfl ?_); clear hR R
    refine G.loop (fun fr C' L' μ => ∃ (k : Nat), (k ≤ x.length ∧ x.take k = y.take k) ∧ fr = [(0, [], .slice A x.length c), (1, [], .slice B y.length d), (5, [], .int .i64 k)] ∧ L' = [] ∧ μ = x.length - k) (fr' := [(0, [], _), (1, [], _), (5, [], _)]) ⟨rfl, rfl, rfl, trivial⟩ ⟨0, ⟨Nat.zero_le _, by simp⟩, rfl, rfl, rfl⟩ (fun fr C0' L0' m hle0 hI => ?_)
    obtain ⟨k, ⟨hk, he⟩, rfl, rfl, rfl⟩ := hI
    refine G.region rfl (fun R hR => ?_)
    iterate 4 refine D.pure rfl rfl rfl rfl rfl rfl ?_
    refine D.done [(0, [], _), (1, [], _), (5, [], _), (14, [], _)] ⟨rfl, rfl, rfl, rfl, trivial⟩ (hR _ _ _ rfl ?_); clear hR R
    refine G.cond rfl (fun h14 => ?_) (fun h14 => ?_)
    · skip
      simp only [decide_eq_true_eq] at h14
      have hkl : k < x.length := by omega
      obtain ⟨p, hp⟩ : ∃ p, x[k]? = some p := ⟨x[k], List.getElem?_eq_getElem hkl⟩
      obtain ⟨q, hq⟩ : ∃ q, y[k]? = some q := ⟨y[k]'(by omega), List.getElem?_eq_getElem (by omega)⟩
      have hrp : (x.map encI)[k]? = some (encI p) := by rw [List.getElem?_map, hp]; rfl
      have hrq : (y.map encI)[k]? = some (encI q) := by rw [List.getElem?_map, hq]; rfl
      refine G.draw [0, 1, 2, 3, 4, 5, 6, 7, 8] [] rfl (by kernel_rfl) (fun R hB hR => ?_)
      iterate 2 refine D.pure rfl rfl rfl rfl rfl rfl ?_
      refine D.index0 (ha.mono (by (repeat (first | exact Mem.le.refl _ | assumption | (apply Mem.le.trans; rotate_left; assumption))))) rfl rfl rfl rfl rfl rfl rfl rfl rfl rfl (by omega) hrp (fun _ => rfl) (fun p19 hp19 => ?_)
      refine D.loadP0 hp19 rfl rfl rfl rfl rfl rfl rfl rfl ?_
      iterate 2 refine D.pure rfl rfl rfl rfl rfl rfl ?_
      refine D.index0 (hb.mono (by (repeat (first | exact Mem.le.refl _ | assumption | (apply Mem.le.trans; rotate_left; assumption))))) rfl rfl rfl rfl rfl rfl rfl rfl rfl rfl (by omega) hrq (fun _ => rfl) (fun p23 hp23 => ?_)
      refine D.loadP0 hp23 rfl rfl rfl rfl rfl rfl rfl rfl ?_
      refine D.pure rfl rfl rfl rfl rfl rfl ?_
      refine D.done [(0, [], _), (1, [], _), (5, [], _), (25, [], _)] ⟨rfl, rfl, rfl, rfl, trivial⟩ (hR _ _ _ rfl ?_); clear hR hB R
      refine G.cond rfl (fun h25 => ?_) (fun h25 => ?_)
      · skip
        have h25' : p ≠ q := by simpa using h25
        refine G.region rfl (fun R hR => ?_)
        refine D.pure rfl rfl rfl rfl rfl rfl ?_
        refine D.done [(4, [], _)] ⟨rfl, trivial⟩ (hR _ _ _ rfl ?_); clear hR R
        refine G.retN (G.dropAll (G.fin1 rfl rfl ?_))
        exact ⟨by rw [decide_eq_false (fun e => h25' (by rw [e, hq] at hp; cases hp; rfl))], rfl⟩
      · skip
        have h25' : p = q := by simpa using h25
        refine G.region rfl (fun R hR => ?_)
        refine D.pure rfl rfl rfl rfl rfl rfl ?_
        refine D.i64 _ rfl rfl rfl rfl rfl (by omega) (by omega) rfl rfl ?_
        refine D.pure rfl rfl rfl rfl rfl rfl ?_
        refine D.done [(0, [], _), (1, [], _), (5, [], _)] ⟨rfl, rfl, rfl, trivial⟩ (hR _ _ _ rfl ?_); clear hR R
        refine G.again (m' := x.length - (k + 1)) (by omega) (by (repeat (first | exact Mem.le.refl _ | assumption | (apply Mem.le.trans; rotate_left; assumption)))) (fr' := [(0, [], _), (1, [], _), (5, [], _)]) ⟨rfl, rfl, rfl, trivial⟩ ⟨k + 1, ⟨by omega, by rw [take_snoc hp, take_snoc hq, he, h25']⟩, rfl, rfl, rfl⟩
    · skip
      simp only [decide_eq_false_iff_not] at h14
      have hkl : k = x.length := by omega
      subst hkl
      have he2 : x = y := by rw [List.take_length, h10', List.take_length] at he; exact he
      refine G.region rfl (fun R hR => ?_)
      refine D.pure rfl rfl rfl rfl rfl rfl ?_
      refine D.done [(4, [], _)] ⟨rfl, trivial⟩ (hR _ _ _ rfl ?_); clear hR R
      refine G.retN (G.dropAll (G.fin1 rfl rfl ?_))
      exact ⟨by rw [decide_eq_true he2], rfl⟩
theorem sameNames_fn (C : Mem) (va vb : Value) (x y : List Str) (ha : Sl C 1 va (x.map encS)) (hb : Sl C 1 vb (y.map encS)) (hxl : x.length ≤ 1000000) : Gives cx.P 19 [va, vb] C (.bool (decide (x = y))) := by
  obtain ⟨A, c, rfl, _⟩ := id ha
  obtain ⟨B, d, rfl, _⟩ := id hb
  simp only [List.length_map] at ha hb ⊢
  refine Fn.intro (by kernel_rfl) Tryd.func19 rfl 26 rfl rfl (fun w0 => ?_)
  refine G.region rfl (fun R hR => ?_)
  refine D.pure rfl rfl rfl rfl rfl rfl ?_
  refine D.done [(0, [], _), (1, [], _)] ⟨rfl, rfl, trivial⟩ (hR _ _ _ rfl ?_); clear hR R
  refine G.region rfl (fun R hR => ?_)
  iterate 5 refine D.pure rfl rfl rfl rfl rfl rfl ?_
  refine D.done [(0, [], _), (1, [], _), (10, [], _)] ⟨rfl, rfl, rfl, trivial⟩ (hR _ _ _ rfl ?_); clear hR R
  refine G.cond rfl (fun h10 => ?_) (fun h10 => ?_)
  · skip
    have h10' : x.length ≠ y.length := fun e => by rw [e] at h10; simp at h10
    refine G.region rfl (fun R hR => ?_)
    refine D.pure rfl rfl rfl rfl rfl rfl ?_
    refine D.done [(4, [], _)] ⟨rfl, trivial⟩ (hR _ _ _ rfl ?_); clear hR R
    refine G.retN (G.dropAll (G.fin1 rfl rfl ?_))
    exact ⟨by rw [decide_eq_false (fun e => h10' (by rw [e]))], rfl⟩
  · skip
    have h10' : x.length = y.length := by
      have h : ((x.length : Int) != y.length) = false := h10
      simp at h; omega
    refine G.region rfl (fun R hR => ?_)
    refine D.pure rfl rfl rfl rfl rfl rfl ?_
    refine D.done [(0, [], _), (1, [], _), (5, [], _)] ⟨rfl, rfl, rfl, trivial⟩ (hR _ _ _ rfl ?_); clear hR R
    refine G.loop (fun fr C' L' μ => ∃ (k : Nat), (k ≤ x.length ∧ x.take k = y.take k) ∧ fr = [(0, [], .slice A x.length c), (1, [], .slice B y.length d), (5, [], .int .i64 k)] ∧ L' = [] ∧ μ = x.length - k) (fr' := [(0, [], _), (1, [], _), (5, [], _)]) ⟨rfl, rfl, rfl, trivial⟩ ⟨0, ⟨Nat.zero_le _, by simp⟩, rfl, rfl, rfl⟩ (fun fr C0' L0' m hle0 hI => ?_)
    obtain ⟨k, ⟨hk, he⟩, rfl, rfl, rfl⟩ := hI
    refine G.region rfl (fun R hR => ?_)
    iterate 4 refine D.pure rfl rfl rfl rfl rfl rfl ?_
    refine D.done [(0, [], _), (1, [], _), (5, [], _), (14, [], _)] ⟨rfl, rfl, rfl, rfl, trivial⟩ (hR _ _ _ rfl ?_); clear hR R
    refine G.cond rfl (fun h14 => ?_) (fun h14 => ?_)
    · skip
      simp only [decide_eq_true_eq] at h14
      have hkl : k < x.length := by omega
      obtain ⟨p, hp⟩ : ∃ p, x[k]? = some p := ⟨x[k], List.getElem?_eq_getElem hkl⟩
      obtain ⟨q, hq⟩ : ∃ q, y[k]? = some q := ⟨y[k]'(by omega), List.getElem?_eq_getElem (by omega)⟩
      have hrp : (x.map encS)[k]? = some (encS p) := by rw [List.getElem?_map, hp]; rfl
      have hrq : (y.map encS)[k]? = some (encS q) := by rw [List.getElem?_map, hq]; rfl
      refine G.draw [0, 1, 2, 3, 4, 5, 6, 7, 8] [] rfl (by kernel_rfl) (fun R hB hR => ?_)
      iterate 2 refine D.pure rfl rfl rfl rfl rfl rfl ?_
      refine D.index0 (ha.mono (by (repeat (first | exact Mem.le.refl _ | assumption | (apply Mem.le.trans; rotate_left; assumption))))) rfl rfl rfl rfl rfl rfl rfl rfl rfl rfl (by omega) hrp (fun _ => rfl) (fun p19 hp19 => ?_)
      refine D.loadP0 hp19 rfl rfl rfl rfl rfl rfl rfl rfl ?_
      iterate 2 refine D.pure rfl rfl rfl rfl rfl rfl ?_
      refine D.index0 (hb.mono (by (repeat (first | exact Mem.le.refl _ | assumption | (apply Mem.le.trans; rotate_left; assumption))))) rfl rfl rfl rfl rfl rfl rfl rfl rfl rfl (by omega) hrq (fun _ => rfl) (fun p23 hp23 => ?_)
      refine D.loadP0 hp23 rfl rfl rfl rfl rfl rfl rfl rfl ?_
      refine D.pure rfl rfl rfl rfl rfl rfl ?_
      refine D.done [(0, [], _), (1, [], _), (5, [], _), (25, [], _)] ⟨rfl, rfl, rfl, rfl, trivial⟩ (hR _ _ _ rfl ?_); clear hR hB R
      refine G.cond rfl (fun h25 => ?_) (fun h25 => ?_)
      · skip
        have h25' : p ≠ q := by simpa using h25
        refine G.region rfl (fun R hR => ?_)
        refine D.pure rfl rfl rfl rfl rfl rfl ?_
        refine D.done [(4, [], _)] ⟨rfl, trivial⟩ (hR _ _ _ rfl ?_); clear hR R
        refine G.retN (G.dropAll (G.fin1 rfl rfl ?_))
        exact ⟨by rw [decide_eq_false (fun e => h25' (by rw [e, hq] at hp; cases hp; rfl))], rfl⟩
      · skip
        have h25' : p = q := by simpa using h25
        refine G.region rfl (fun R hR => ?_)
        refine D.pure rfl rfl rfl rfl rfl rfl ?_
        refine D.i64 _ rfl rfl rfl rfl rfl (by omega) (by omega) rfl rfl ?_
        refine D.pure rfl rfl rfl rfl rfl rfl ?_
        refine D.done [(0, [], _), (1, [], _), (5, [], _)] ⟨rfl, rfl, rfl, trivial⟩ (hR _ _ _ rfl ?_); clear hR R
        refine G.again (m' := x.length - (k + 1)) (by omega) (by (repeat (first | exact Mem.le.refl _ | assumption | (apply Mem.le.trans; rotate_left; assumption)))) (fr' := [(0, [], _), (1, [], _), (5, [], _)]) ⟨rfl, rfl, rfl, trivial⟩ ⟨k + 1, ⟨by omega, by rw [take_snoc hp, take_snoc hq, he, h25']⟩, rfl, rfl, rfl⟩
    · skip
      simp only [decide_eq_false_iff_not] at h14
      have hkl : k = x.length := by omega
      subst hkl
      have he2 : x = y := by rw [List.take_length, h10', List.take_length] at he; exact he
      refine G.region rfl (fun R hR => ?_)
      refine D.pure rfl rfl rfl rfl rfl rfl ?_
      refine D.done [(4, [], _)] ⟨rfl, trivial⟩ (hR _ _ _ rfl ?_); clear hR R
      refine G.retN (G.dropAll (G.fin1 rfl rfl ?_))
      exact ⟨by rw [decide_eq_true he2], rfl⟩
def idxS (N : List Str) (s : Str) : Int := if s ∈ N then (posS N s : Int) else -1
theorem posS_take : ∀ {N : List Str} {s : Str} {k : Nat}, N[k]? = some s → s ∉ N.take k → posS N s = k
  | [], _, _, h, _ => by simp at h
  | x :: N, s, 0, h, _ => by simp at h; simp [posS, h]
  | x :: N, s, k + 1, h, hn => by
    rw [List.take_succ_cons, List.mem_cons, not_or] at hn
    simp only [posS, if_neg (Ne.symm hn.1)]
    rw [posS_take (k := k) (by simpa using h) hn.2]
theorem lindex_fn (C : Mem) (v : Value) (N : List Str) (s : Str) (hv : Sl C 1 v (N.map encS)) (hl : N.length ≤ 1000000) : Gives cx.P 43 [v, strV s] C (.int .i64 (idxS N s)) := by
  obtain ⟨A, c, rfl, _⟩ := id hv
  simp only [List.length_map] at hv ⊢
  refine Fn.intro (by kernel_rfl) Tryd.func43 rfl 19 rfl rfl (fun w0 => ?_)
  refine G.region rfl (fun R hR => ?_)
  refine D.pure rfl rfl rfl rfl rfl rfl ?_
  refine D.done [(0, [], _), (1, [], _)] ⟨rfl, rfl, trivial⟩ (hR _ _ _ rfl ?_); clear hR R
  refine G.region rfl (fun R hR => ?_)
  refine D.pure rfl rfl rfl rfl rfl rfl ?_
  refine D.done [(0, [], _), (1, [], _), (5, [], _)] ⟨rfl, rfl, rfl, trivial⟩ (hR _ _ _ rfl ?_); clear hR R
  refine G.loop (fun fr C' L' μ => ∃ (k : Nat), (k ≤ N.length ∧ s ∉ N.take k) ∧ fr = [(0, [], .slice A N.length c), (1, [], strV s), (5, [], .int .i64 k)] ∧ L' = [] ∧ μ = N.length - k) (fr' := [(0, [], _), (1, [], _), (5, [], _)]) ⟨rfl, rfl, rfl, trivial⟩ ⟨0, ⟨Nat.zero_le _, by simp⟩, rfl, rfl, rfl⟩ (fun fr C0' L0' m hle0 hI => ?_)
  obtain ⟨k, ⟨hk, hn⟩, rfl, rfl, rfl⟩ := hI
  refine G.region rfl (fun R hR => ?_)
  iterate 4 refine D.pure rfl rfl rfl rfl rfl rfl ?_
  refine D.done [(0, [], _), (1, [], _), (5, [], _), (9, [], _)] ⟨rfl, rfl, rfl, rfl, trivial⟩ (hR _ _ _ rfl ?_); clear hR R
  refine G.cond rfl (fun h9 => ?_) (fun h9 => ?_)
  · skip
    simp only [decide_eq_true_eq] at h9
    have hkl : k < N.length := by omega
    obtain ⟨p, hp⟩ : ∃ p, N[k]? = some p := ⟨N[k], List.getElem?_eq_getElem hkl⟩
    have hrp : (N.map encS)[k]? = some (encS p) := by rw [List.getElem?_map, hp]; rfl
    refine G.region rfl (fun R hR => ?_)
    iterate 2 refine D.pure rfl rfl rfl rfl rfl rfl ?_
    refine D.index0 (hv.mono (by (repeat (first | exact Mem.le.refl _ | assumption | (apply Mem.le.trans; rotate_left; assumption))))) rfl rfl rfl rfl rfl rfl rfl rfl rfl rfl (by omega) hrp (fun _ => rfl) (fun p14 hp14 => ?_)
    refine D.loadP0 hp14 rfl rfl rfl rfl rfl rfl rfl rfl ?_
    iterate 2 refine D.pure rfl rfl rfl rfl rfl rfl ?_
    refine D.done [(0, [], _), (1, [], _), (5, [], _), (17, [], _)] ⟨rfl, rfl, rfl, rfl, trivial⟩ (hR _ _ _ rfl ?_); clear hR R
    refine G.cond rfl (fun h17 => ?_) (fun h17 => ?_)
    · skip
      have h17' : p = s := by simpa using h17
      subst h17'
      refine G.region rfl (fun R hR => ?_)
      iterate 2 refine D.pure rfl rfl rfl rfl rfl rfl ?_
      refine D.done [(4, [], _)] ⟨rfl, trivial⟩ (hR _ _ _ rfl ?_); clear hR R
      refine G.retN (G.dropAll (G.fin1 rfl rfl ?_))
      refine ⟨?_, rfl⟩
      rw [idxS, if_pos (List.mem_of_getElem? hp), posS_take hp hn]
    · skip
      have h17' : p ≠ s := by simpa using h17
      refine G.region rfl (fun R hR => ?_)
      refine D.pure rfl rfl rfl rfl rfl rfl ?_
      refine D.i64 _ rfl rfl rfl rfl rfl (by omega) (by omega) rfl rfl ?_
      refine D.pure rfl rfl rfl rfl rfl rfl ?_
      refine D.done [(0, [], _), (1, [], _), (5, [], _)] ⟨rfl, rfl, rfl, trivial⟩ (hR _ _ _ rfl ?_); clear hR R
      refine G.again (m' := N.length - (k + 1)) (by omega) (by (repeat (first | exact Mem.le.refl _ | assumption | (apply Mem.le.trans; rotate_left; assumption)))) (fr' := [(0, [], _), (1, [], _), (5, [], _)]) ⟨rfl, rfl, rfl, trivial⟩ ⟨k + 1, ⟨by omega, by rw [take_snoc hp]; simp [hn, Ne.symm h17']⟩, rfl, rfl, rfl⟩
  · skip
    simp only [decide_eq_false_iff_not] at h9
    have hkl : k = N.length := by omega
    subst hkl
    rw [List.take_length] at hn
    refine G.region rfl (fun R hR => ?_)
    refine D.pure rfl rfl rfl rfl rfl rfl ?_
    refine D.done [(4, [], _)] ⟨rfl, trivial⟩ (hR _ _ _ rfl ?_); clear hR R
    refine G.retN (G.dropAll (G.fin1 rfl rfl ?_))
    refine ⟨?_, rfl⟩
    rw [idxS, if_neg hn]
theorem larc_fn (C : Mem) (x : Rel) : Gives cx.P 44 [.agg ⟨x.enc⟩] C (.bool (!(x.kind == 4))) := by
  refine Fn.intro (by kernel_rfl) Tryd.func44 rfl 6 rfl rfl (fun w0 => ?_)
  refine G.region rfl (fun R hR => ?_)
  refine D.box rfl rfl rfl rfl rfl rfl (fun _ => rfl) (fun b1 => ?_)
  refine D.pure rfl rfl rfl rfl rfl rfl ?_
  refine D.done [(1, [], _)] ⟨rfl, trivial⟩ (hR _ _ _ rfl ?_); clear hR R
  refine G.region rfl (fun R hR => ?_)
  refine D.pure rfl rfl rfl rfl rfl rfl ?_
  refine D.loadL (.head _) rfl rfl rfl rfl rfl rfl rfl rfl rfl ?_
  iterate 2 refine D.pure rfl rfl rfl rfl rfl rfl ?_
  refine D.done [(2, [], _)] ⟨rfl, trivial⟩ (hR _ _ _ rfl ?_); clear hR R
  refine G.retN (G.dropAll (G.fin1 rfl rfl ?_))
  exact ⟨rfl, rfl⟩
theorem fits_fn (C : Mem) (A : Option Addr) (n c : Nat) : Gives cx.P 13 [.slice A n c] C (.bool (decide ((n : Int) ≤ 8))) := by
  refine Fn.intro (by kernel_rfl) Tryd.func13 rfl 6 rfl rfl (fun w0 => ?_)
  refine G.region rfl (fun R hR => ?_)
  refine D.pure rfl rfl rfl rfl rfl rfl ?_
  refine D.done [(0, [], _)] ⟨rfl, trivial⟩ (hR _ _ _ rfl ?_); clear hR R
  refine G.region rfl (fun R hR => ?_)
  iterate 4 refine D.pure rfl rfl rfl rfl rfl rfl ?_
  refine D.done [(2, [], _)] ⟨rfl, trivial⟩ (hR _ _ _ rfl ?_); clear hR R
  refine G.retN (G.dropAll (G.fin1 rfl rfl ?_))
  exact ⟨rfl, rfl⟩
end Go.Proofs.YtddjibfmnkcalaaDoor
namespace Go.Proofs.YtddjibfmnkcalaaDoor
open Go Go.Jog
set_option maxRecDepth 100000

theorem over_fn (C : Mem) (a b : Str) : Gives cx.P 8 [strV a, strV b] C (.agg ⟨(Rel.mk 1 a b).enc⟩) := by
  refine Fn.intro (by kernel_rfl) Tryd.func8 rfl 8 rfl rfl (fun w0 => ?_)
  refine G.region rfl (fun R hR => ?_)
  refine D.alloc rfl rfl rfl rfl rfl (fun _ => rfl) (fun b4 => ?_)
  refine D.done [(0, [], _), (1, [], _), (4, [], _)] ⟨rfl, rfl, rfl, trivial⟩ (hR _ _ _ rfl ?_); clear hR R
  refine G.region rfl (fun R hR => ?_)
  iterate 2 refine D.pure rfl rfl rfl rfl rfl rfl ?_
  refine D.build [.int .i64 1, strV a, strV b] rfl rfl rfl rfl rfl rfl rfl rfl ?_
  refine D.store (j := 0) rfl rfl rfl rfl rfl rfl rfl rfl rfl rfl rfl rfl ?_
  refine D.done [(4, [], _)] ⟨rfl, trivial⟩ (hR _ _ _ rfl ?_); clear hR R
  refine G.retN (G.finC (.head _) rfl rfl rfl rfl ?_)
  exact ⟨rfl, rfl⟩
def nameI (i : Nat) : Str := [UInt8.ofNat (65 + i)]
theorem lname_fn (C : Mem) (i : Nat) (hi : i < 100) : Gives cx.P 38 [.int .i64 i] C (strV (nameI i)) := by
  refine Fn.intro (by kernel_rfl) Tryd.func38 rfl 8 rfl rfl (fun w0 => ?_)
  refine G.region rfl (fun R hR => ?_)
  refine D.pure rfl rfl rfl rfl rfl rfl ?_
  refine D.done [(0, [], _)] ⟨rfl, trivial⟩ (hR _ _ _ rfl ?_); clear hR R
  refine G.region rfl (fun R hR => ?_)
  refine D.pure rfl rfl rfl rfl rfl rfl ?_
  refine D.i64 (((65 + i : Nat) : Int)) rfl rfl rfl rfl (by omega) (by omega) (by omega) rfl rfl ?_
  refine D.conv (c := ((65 + i : Nat) : Int)) rfl rfl rfl rfl rfl rfl rfl rfl (by rw [IntKind.wrap_u8]; omega) (fun _ => rfl) ?_
  refine D.buildSlice [[.int .u8 ((65 + i : Nat) : Int)]] rfl rfl rfl rfl rfl rfl rfl rfl rfl rfl rfl rfl (fun _ => rfl) (fun p6 C6 hle6 hs6 => ?_)
  have hb : (UInt8.ofNat (65 + i)).toNat = 65 + i := by rw [UInt8.toNat_ofNat']; omega
  have hs7 : Sl C6 1 p6 ((nameI i).map fun b => [.int .u8 b.toNat]) := by
    show Sl C6 1 p6 [[.int .u8 ((UInt8.ofNat (65 + i)).toNat : Int)]]
    rw [hb]; exact hs6
  refine D.strOf hs7 rfl rfl rfl rfl rfl rfl rfl rfl rfl rfl rfl (fun _ => rfl) ?_
  refine D.pure rfl rfl rfl rfl rfl rfl ?_
  refine D.done [(2, [], _)] ⟨rfl, trivial⟩ (hR _ _ _ rfl ?_); clear hR R
  refine G.retN (G.dropAll (G.fin1 rfl rfl ?_))
  exact ⟨rfl, rfl⟩
structure Seen where
  a : UInt8
  b : UInt8
  c : UInt8
  deriving Inhabited
def Seen.enc (x : Seen) : List Value := [.int .u8 x.a.toNat, .int .u8 x.b.toNat, .int .u8 x.c.toNat]
def upN (x : Seen) : Nat := x.b.toNat % 6
def lowN (x : Seen) : Nat := if x.b.toNat % 6 = x.c.toNat % 6 then (x.b.toNat % 6 + 1) % 6 else x.c.toNat % 6
def mkR (x : Seen) : Rel := ⟨((1 + x.a.toNat % 4 : Nat) : Int), nameI (upN x), nameI (lowN x)⟩
def makeL (l : List Seen) : List Rel := (l.take 8).map mkR
theorem make_fn (C : Mem) (v : Value) (l : List Seen) (hv : Sl C 3 v (l.map Seen.enc)) : Pur cx.P 14 [v] C fun u C' => Sl C' 3 u ((makeL l).map Rel.enc) := by
  obtain ⟨A, c, rfl, _⟩ := id hv
  simp only [List.length_map] at hv ⊢
  refine Fn.intro (by kernel_rfl) Tryd.func14 rfl 54 rfl rfl (fun w0 => ?_)
  refine G.region rfl (fun R hR => ?_)
  refine D.pure rfl rfl rfl rfl rfl rfl ?_
  refine D.done [(0, [], _)] ⟨rfl, trivial⟩ (hR _ _ _ rfl ?_); clear hR R
  refine G.region rfl (fun R hR => ?_)
  refine D.pure rfl rfl rfl rfl rfl rfl ?_
  refine D.done [(0, [], _), (3, [], _)] ⟨rfl, rfl, trivial⟩ (hR _ _ _ rfl ?_); clear hR R
  refine G.region rfl (fun R hR => ?_)
  refine D.pure rfl rfl rfl rfl rfl rfl ?_
  refine D.done [(0, [], _), (3, [], _), (4, [], _)] ⟨rfl, rfl, rfl, trivial⟩ (hR _ _ _ rfl ?_); clear hR R
  refine G.nilArr 25 3 ?_
  refine G.loop (fun fr C' L' μ => ∃ (k : Nat) (w3 : Value), (k ≤ l.length ∧ k ≤ 8) ∧ fr = [(0, [], .slice A l.length c), (3, [], w3), (4, [], .int .i64 k)] ∧ L' = [.arr w3 25 3 k (((l.take k).map mkR).map Rel.enc).flatten] ∧ μ = 8 - k) (fr' := [(0, [], _), (3, [], _), (4, [], _)]) ⟨rfl, rfl, rfl, trivial⟩ ⟨0, _, ⟨Nat.zero_le _, by omega⟩, rfl, rfl, rfl⟩ (fun fr C0' L0' m hle0 hI => ?_)
  obtain ⟨k, w3, ⟨hk, hk8⟩, rfl, rfl, rfl⟩ := hI
  refine G.region rfl (fun R hR => ?_)
  iterate 7 refine D.pure rfl rfl rfl rfl rfl rfl ?_
  refine D.pickAnd rfl rfl rfl rfl rfl rfl rfl rfl ?_
  refine D.done [(0, [], _), (3, [], _), (4, [], _), (14, [], _)] ⟨rfl, rfl, rfl, rfl, trivial⟩ (hR _ _ _ rfl ?_); clear hR R
  refine G.cond rfl (fun h14 => ?_) (fun h14 => ?_)
  · skip
    simp only [Bool.and_eq_true, decide_eq_true_eq] at h14
    have hkl : k < l.length := by omega
    obtain ⟨x, hx⟩ : ∃ x, l[k]? = some x := ⟨l[k], List.getElem?_eq_getElem hkl⟩
    have hrow : (l.map Seen.enc)[k]? = some x.enc := by rw [List.getElem?_map, hx]; rfl
    have hxa := x.a.toNat_lt
    have hxb := x.b.toNat_lt
    have hxc := x.c.toNat_lt
    have htk : (l.take (k + 1)).map mkR = (l.take k).map mkR ++ [mkR x] := by rw [List.take_add_one, hx]; simp
    refine G.draw [0, 1, 2, 3, 4, 5, 6, 7, 8, 9, 10, 11, 12, 13, 14, 15] [(6, 0), (13, 0)] rfl (by kernel_rfl) (fun R hB hR => ?_)
    iterate 2 refine D.pure rfl rfl rfl rfl rfl rfl ?_
    refine D.index0 (hv.mono (by (repeat (first | exact Mem.le.refl _ | assumption | (apply Mem.le.trans; rotate_left; assumption))))) rfl rfl rfl rfl rfl rfl rfl rfl rfl rfl (by omega) hrow (fun _ => rfl) (fun p19 hp19 => ?_)
    refine D.fieldP0 hp19 rfl rfl rfl rfl rfl rfl rfl rfl rfl rfl (fun _ => rfl) (fun p20 hp20 => ?_)
    refine D.loadP0 hp20 rfl rfl rfl rfl rfl rfl rfl rfl ?_
    refine D.rem rfl rfl rfl rfl rfl rfl (by omega) (by omega) rfl rfl ?_
    refine D.convQ (c := (upN x : Int)) rfl rfl rfl rfl rfl rfl rfl rfl (by rw [IntKind.wrap_i64]; unfold upN; omega) rfl rfl ?_
    iterate 2 refine D.pure rfl rfl rfl rfl rfl rfl ?_
    refine D.index0 (hv.mono (by (repeat (first | exact Mem.le.refl _ | assumption | (apply Mem.le.trans; rotate_left; assumption))))) rfl rfl rfl rfl rfl rfl rfl rfl rfl rfl (by omega) hrow (fun _ => rfl) (fun p26 hp26 => ?_)
    refine D.fieldP0 hp26 rfl rfl rfl rfl rfl rfl rfl rfl rfl rfl (fun _ => rfl) (fun p27 hp27 => ?_)
    refine D.loadP0 hp27 rfl rfl rfl rfl rfl rfl rfl rfl ?_
    refine D.rem rfl rfl rfl rfl rfl rfl (by omega) (by omega) rfl rfl ?_
    refine D.convQ (c := ((x.c.toNat % 6 : Nat) : Int)) rfl rfl rfl rfl rfl rfl rfl rfl (by rw [IntKind.wrap_i64]; omega) rfl rfl ?_
    iterate 2 refine D.pure rfl rfl rfl rfl rfl rfl ?_
    refine D.done [(0, [], _), (3, [], _), (4, [], _), (5, [], _), (6, [], _)] ⟨rfl, rfl, rfl, rfl, rfl, trivial⟩ (hR _ _ _ rfl ?_); clear hR hB R
    refine G.region rfl (fun R hR => ?_)
    iterate 3 refine D.pure rfl rfl rfl rfl rfl rfl ?_
    refine D.done [(0, [], _), (3, [], _), (4, [], _), (5, [], _), (6, [], _), (33, [], _)] ⟨rfl, rfl, rfl, rfl, rfl, rfl, trivial⟩ (hR _ _ _ rfl ?_); clear hR R
    refine G.cut (fun fr C' L' μ => (True) ∧ fr = [(0, [], .slice A l.length c), (3, [], w3), (4, [], .int .i64 k), (5, [], .int .i64 (upN x)), (6, [], .int .i64 (lowN x))] ∧ L' = [.arr w3 25 3 k (((l.take k).map mkR).map Rel.enc).flatten]) ?_ (fun fr C33 L33 μ hle33 hI => ?_)
    · skip
      refine G.cond rfl (fun h33 => ?_) (fun h33 => ?_)
      · skip
        have h33' : upN x = x.c.toNat % 6 := by
          have h : (upN x : Int) = ((x.c.toNat % 6 : Nat) : Int) := by simpa using h33
          omega
        have hup6 : upN x < 6 := by unfold upN; omega
        refine G.region rfl (fun R hR => ?_)
        refine D.pure rfl rfl rfl rfl rfl rfl ?_
        refine D.i64 _ rfl rfl rfl rfl rfl (by omega) (by omega) rfl rfl ?_
        refine D.rem rfl rfl rfl rfl rfl rfl (by omega) (by omega) rfl rfl ?_
        refine D.pure rfl rfl rfl rfl rfl rfl ?_
        refine D.done [(0, [], _), (3, [], _), (4, [], _), (5, [], _), (6, [], _)] ⟨rfl, rfl, rfl, rfl, rfl, trivial⟩ (hR _ _ _ rfl ?_); clear hR R
        have hlow : ((upN x : Int) + 1) % 6 = (lowN x : Int) := by
          unfold lowN
          have : x.b.toNat % 6 = x.c.toNat % 6 := h33'
          rw [if_pos this]; unfold upN; omega
        refine G.meet 0 (Mem.le.refl _) (fr' := [(0, [], _), (3, [], _), (4, [], _), (5, [], _), (6, [], _)]) ⟨rfl, rfl, rfl, rfl, rfl, trivial⟩ ⟨trivial, by rw [← hlow], rfl⟩
      · skip
        have h33' : ¬ upN x = x.c.toNat % 6 := fun e => by
          have : (false : Bool) = true := by rw [← h33]; simp [e]
          cases this
        have hlow : x.c.toNat % 6 = lowN x := by
          unfold lowN
          rw [if_neg (show ¬ x.b.toNat % 6 = x.c.toNat % 6 from h33')]
        refine G.meet 0 (Mem.le.refl _) (fr' := [(0, [], _), (3, [], _), (4, [], _), (5, [], _), (6, [], _)]) ⟨rfl, rfl, rfl, rfl, rfl, trivial⟩ ⟨trivial, by rw [← hlow], rfl⟩
    · skip
      obtain ⟨htriv, rfl, rfl⟩ := hI
      have hup6 : upN x < 6 := by unfold upN; omega
      have hlow6 : lowN x < 6 := by unfold lowN; split <;> omega
      refine G.draw [0, 1, 2, 3, 4, 5, 6, 7, 8, 9, 10, 11, 12, 13, 14, 15, 16] [(10, 1), (12, 1), (7, 0)] rfl (by kernel_rfl) (fun R hB hR => ?_)
      iterate 3 refine D.pure rfl rfl rfl rfl rfl rfl ?_
      refine D.index0 (hv.mono (by (repeat (first | exact Mem.le.refl _ | assumption | (apply Mem.le.trans; rotate_left; assumption))))) rfl rfl rfl rfl rfl rfl rfl rfl rfl rfl (by omega) hrow (fun _ => rfl) (fun p40 hp40 => ?_)
      refine D.fieldP0 hp40 rfl rfl rfl rfl rfl rfl rfl rfl rfl rfl (fun _ => rfl) (fun p41 hp41 => ?_)
      refine D.loadP0 hp41 rfl rfl rfl rfl rfl rfl rfl rfl ?_
      refine D.rem rfl rfl rfl rfl rfl rfl (by omega) (by omega) rfl rfl ?_
      refine D.convQ (c := ((x.a.toNat % 4 : Nat) : Int)) rfl rfl rfl rfl rfl rfl rfl rfl (by rw [IntKind.wrap_i64]; omega) rfl rfl ?_
      refine D.i64 (((1 + x.a.toNat % 4 : Nat) : Int)) rfl rfl rfl rfl (by omega) (by omega) (by omega) rfl rfl ?_
      refine D.pure rfl rfl rfl rfl rfl rfl ?_
      refine D.gives (fun _ => (lname_fn _ (upN x) (by omega))) rfl rfl rfl rfl rfl rfl rfl rfl rfl ?_
      refine D.pure rfl rfl rfl rfl rfl rfl ?_
      refine D.gives (fun _ => (lname_fn _ (lowN x) (by omega))) rfl rfl rfl rfl rfl rfl rfl rfl rfl ?_
      refine D.build (mkR x).enc rfl rfl rfl rfl rfl rfl rfl rfl ?_
      refine D.buildSlice [(mkR x).enc] rfl rfl rfl rfl rfl rfl rfl rfl rfl rfl rfl rfl (fun _ => rfl) (fun p51 C51 hle51 hs51 => ?_)
      refine D.append (j := 0) rfl rfl rfl rfl rfl rfl rfl rfl rfl rfl rfl hs51 rfl (by simp only [List.length_singleton, maxLen]; omega) (by simp only [List.length_singleton]; omega) (fun _ => rfl) (fun v52 => ?_)
      refine D.pure rfl rfl rfl rfl rfl rfl ?_
      refine D.done [(0, [], _), (3, [], _), (4, [], _)] ⟨rfl, rfl, rfl, trivial⟩ (hR _ _ _ rfl ?_); clear hR hB R
      refine G.region rfl (fun R hR => ?_)
      refine D.pure rfl rfl rfl rfl rfl rfl ?_
      refine D.i64 (((k + 1 : Nat) : Int)) rfl rfl rfl rfl (by omega) (by omega) (by omega) rfl rfl ?_
      refine D.pure rfl rfl rfl rfl rfl rfl ?_
      refine D.done [(0, [], _), (3, [], _), (4, [], _)] ⟨rfl, rfl, rfl, trivial⟩ (hR _ _ _ rfl ?_); clear hR R
      refine G.eqL (L' := [.arr v52 25 3 (k + 1) (((l.take (k + 1)).map mkR).map Rel.enc).flatten]) (by rw [htk]; simp) ?_
      refine G.again (m' := 8 - (k + 1)) (by omega) (by (repeat (first | exact Mem.le.refl _ | assumption | (apply Mem.le.trans; rotate_left; assumption)))) (fr' := [(0, [], _), (3, [], _), (4, [], _)]) ⟨rfl, rfl, rfl, trivial⟩ ⟨k + 1, v52, ⟨by omega, by omega⟩, rfl, rfl, rfl⟩
  · skip
    simp only [Bool.and_eq_false_iff, decide_eq_false_iff_not] at h14
    refine G.region rfl (fun R hR => ?_)
    iterate 2 refine D.pure rfl rfl rfl rfl rfl rfl ?_
    refine D.done [(2, [], _)] ⟨rfl, trivial⟩ (hR _ _ _ rfl ?_); clear hR R
    refine G.freezeArr 0 (((l.take k).map mkR).map Rel.enc) rfl rfl (by intro r hr; obtain ⟨y, _, rfl⟩ := List.mem_map.1 hr; exact rel_len y) (by simp; omega) (fun Cf hlef hsf => ?_)
    refine G.retN (G.dropAll (G.fin1 rfl rfl ?_))
    refine ⟨rfl, ?_⟩
    have e : l.take k = l.take 8 := by
      rcases h14 with h | h
      · rw [List.take_of_length_le (by omega), List.take_of_length_le (by omega)]
      · congr 1; omega
    rw [makeL, ← e]
    exact hsf
end Go.Proofs.YtddjibfmnkcalaaDoor
namespace Go.Proofs.YtddjibfmnkcalaaDoor
open Go Go.Jog
set_option maxRecDepth 100000

theorem freeB_iff {A : List Arc3} {dn : List Nat} {i : Nat} : freeB A dn i = true ↔ cnt A dn i = 0 ∧ i ∉ dn := by simp [freeB]
theorem extF_mem (A : List Arc3) (n : Nat) : ∀ (f : Nat) (dn : List Nat), dn.Nodup → (∀ x ∈ dn, x < n) → Ord A dn → dn.length + f = n → ∀ o, o ∈ extF A n f dn ↔ Topo A n o ∧ ∃ s, o = dn ++ s
  | 0, dn, hnd, hlt, hord, hf, o => by
    simp only [extF, List.mem_singleton]
    constructor
    · rintro rfl
      exact ⟨⟨by omega, hnd, hlt, hord⟩, [], by simp⟩
    · rintro ⟨ht, s, rfl⟩
      have := ht.1
      rw [List.length_append] at this
      have : s = [] := List.eq_nil_of_length_eq_zero (by omega)
      rw [this, List.append_nil]
  | f + 1, dn, hnd, hlt, hord, hf, o => by
    simp only [extF]
    rw [mem_cat]
    constructor
    · rintro ⟨i, hi, ho⟩
      split at ho
      · rename_i hfr
        obtain ⟨h1, h2⟩ := freeB_iff.1 hfr
        obtain ⟨ht, s, hs⟩ := (extF_mem A n f (dn ++ [i]) (nodup_snoc hnd h2) (fun x hx => by
          rcases List.mem_append.1 hx with h | h
          · exact hlt x h
          · rw [List.mem_singleton.1 h]; exact hi) (ord_snoc hord h1) (by simp; omega) o).1 ho
        exact ⟨ht, i :: s, by rw [hs]; simp⟩
      · cases ho
    · rintro ⟨ht, s, rfl⟩
      have hl := ht.1
      rw [List.length_append] at hl
      cases s with
      | nil => simp at hl; omega
      | cons i s =>
        have hi : i < n := ht.2.2.1 i (by simp)
        have hid : i ∉ dn := fun hm => (List.nodup_append.1 ht.2.1).2.2 i hm i (by simp) rfl
        have hc : cnt A dn i = 0 := cnt_zero.2 (fun a ha hu => ht.2.2.2 dn i s rfl a ha hu)
        refine ⟨i, hi, ?_⟩
        rw [if_pos (freeB_iff.2 ⟨hc, hid⟩)]
        exact (extF_mem A n f (dn ++ [i]) (nodup_snoc hnd hid) (fun x hx => by
          rcases List.mem_append.1 hx with h | h
          · exact hlt x h
          · rw [List.mem_singleton.1 h]; exact hi) (ord_snoc hord hc) (by simp; omega) _).2 ⟨ht, s, by simp⟩
theorem extF_all {A : List Arc3} {n : Nat} {o : List Nat} : o ∈ extF A n n [] ↔ Topo A n o := by
  rw [extF_mem A n n [] List.nodup_nil (fun x hx => by cases hx) ord_nil (by simp) o]
  exact ⟨fun h => h.1, fun h => ⟨h, o, by simp⟩⟩
theorem extF_prefix (A : List Arc3) (n : Nat) : ∀ (f : Nat) (dn o : List Nat), o ∈ extF A n f dn → ∃ s, o = dn ++ s
  | 0, dn, o, h => ⟨[], by simp only [extF, List.mem_singleton] at h; simp [h]⟩
  | f + 1, dn, o, h => by
    simp only [extF] at h
    rw [mem_cat] at h
    obtain ⟨i, _, h⟩ := h
    split at h
    · obtain ⟨s, hs⟩ := extF_prefix A n f (dn ++ [i]) o h
      exact ⟨i :: s, by rw [hs]; simp⟩
    · cases h
theorem extF_lex (A : List Arc3) (n : Nat) : ∀ (f : Nat) (dn : List Nat), (extF A n f dn).Pairwise Beats
  | 0, dn => by simp [extF]
  | f + 1, dn => by
    simp only [extF]
    refine cat_pairwise (fun i _ => ?_) (fun i j hij _ x hx y hy => ?_)
    · split
      · exact extF_lex A n f _
      · exact List.Pairwise.nil
    · split at hx
      · split at hy
        · obtain ⟨s, hs⟩ := extF_prefix A n f _ _ hx
          obtain ⟨t, ht⟩ := extF_prefix A n f _ _ hy
          exact ⟨dn, i, j, s, t, by rw [hs]; simp, by rw [ht]; simp, hij⟩
        · cases hy
      · cases hx
theorem extF_head {A : List Arc3} {n : Nat} {o : List Nat} {r : List (List Nat)} (h : extF A n n [] = o :: r) : TopoLeast A n o := by
  refine ⟨extF_all.1 (by rw [h]; simp), fun o' ho' => ?_⟩
  have hm := extF_all.2 ho'
  rw [h] at hm
  have hp := extF_lex A n n []
  rw [h] at hp
  rcases List.mem_cons.1 hm with e | hm
  · exact .inl e.symm
  · exact .inr ((List.pairwise_cons.1 hp).1 o' hm)
end Go.Proofs.YtddjibfmnkcalaaDoor
namespace Go.Jog
open Go

def noDefer (ops : Array Oper) : Bool := ops.toList.all fun o => match o.op with
  | .defer _ => false
  | _ => true
theorem noDefer_at {ops : Array Oper} (h : noDefer ops = true) {i : Nat} {o : Oper} (ho : ops[i]? = some o) : ∀ c, o.op ≠ .defer c := by
  intro c hc
  obtain ⟨h1, h2⟩ := Array.getElem?_eq_some_iff.1 ho
  have := List.all_eq_true.1 h ops[i] (Array.getElem_mem_toList h1)
  rw [h2, hc] at this
  cases this

theorem oper_in {P : Program} {o : Oper} {a : Act} {w : World} {next : Act → World → Prop} {Q : Exit → Act → World → Prop} {l n : Nat} (hd : ∀ c, o.op ≠ .defer c) (h : o.wp P a w next Q) : o.wpIn (Fence.wide.inRound l) n P a w next Q := by
  refine ⟨fun _ _ => trivial, ?_⟩
  show o.uponIn (Fence.wide.inRound l) n P a next Q ((o.semAt (some l) a.eval).run P w)
  rw [Oper.semAt_some l a.eval o hd]
  unfold Oper.wp at h
  revert h
  generalize (execOp a.eval o).run P w = r
  intro h
  cases r with
  | ok x w' =>
    cases x with
    | value v => exact h
    | skip => exact h
    | defer d => exact h
    | enter f args => exact ⟨(fun h => (by cases h)), CallsIn.inRound l (callsIn_wide.2 h)⟩
    | row row args =>
      refine ⟨(fun h => (by cases h)), fun c cs _ => ?_⟩
      obtain ⟨v, w2, h1, h2⟩ := h c cs
      exact ⟨v, w2, h1, stepsIn_wide.2 h2⟩
    | _ => exact h.elim
  | halt x w' =>
    cases x <;> exact h

theorem wpOp_in {P : Program} {ops : Array Oper} {N : Act → World → Prop} {l n : Nat} {i : Nat} {K K' : Act → World → Prop} {a : Act} {w : World} (hd : noDefer ops = true) (hk : ∀ a w, K a w → K' a w)
    (h : wpOp P ops (QN N) i K a w) : wpOpIn (Fence.wide.inRound l) n P ops (QN N) i K' a w := by
  unfold wpOp at h
  unfold wpOpIn
  cases ho : ops[i]? with
  | none => rw [ho] at h; exact hk _ _ h
  | some o =>
    rw [ho] at h
    simp only at h ⊢
    split
    · rename_i hw
      rw [if_pos hw] at h
      rcases h with h | ⟨_, a', w', h⟩
      · exact oper_in (noDefer_at hd ho) (Oper.wp_mono hk h)
      · exact h.elim
    · rename_i hw
      rw [if_neg hw] at h
      exact ⟨fun _ _ => trivial, hk _ _ h⟩
theorem wpOps_in {P : Program} {ops : Array Oper} {N : Act → World → Prop} {l n : Nat} (hd : noDefer ops = true) : ∀ (π : List Nat) (a : Act) (w : World), wpOps P ops (QN N) π a w → wpOpsIn (Fence.wide.inRound l) n P ops (QN N) π a w
  | [], _, _, h => h
  | i :: π, a, w, h => by
    rw [wpOps_cons] at h
    rw [wpOpsIn_cons]
    exact wpOp_in hd (fun a w => wpOps_in hd π a w) h
theorem wpAny_in {P : Program} {ops : Array Oper} {N : Act → World → Prop} {l n : Nat} {md : Region.Mode} (hd : noDefer ops = true) : ∀ (f : Nat) (ls : Array Bool) (a : Act) (w : World), wpAny P md ops (QN N) f ls a w → wpAnyIn (Fence.wide.inRound l) n P md ops (QN N) f ls a w
  | 0, _, _, _, h => h
  | f + 1, ls, a, w, h => ⟨h.1, fun i hi => wpOp_in hd (fun a w => wpAny_in hd f _ a w) (h.2 i hi)⟩
end Go.Jog
namespace Go.Jog
open Go
structure RankTo (A : List Arc3) (n : Nat) (pre e : List Nat) : Prop where
  len : e.length = n
  sound : ∀ v, v < n → ∃ u, Walk A (hAt e v) u v
  up : ∀ a ∈ A, a.lo ∈ pre → hAt e a.lo + 1 ≤ hAt e a.up
theorem hAt_setB {l : List Nat} {u v x : Nat} (h : u < l.length) : hAt (l.set u x) v = if v = u then x else hAt l v := by
  unfold hAt
  simp only [List.getD_eq_getElem?_getD, List.getElem?_set]
  by_cases e : u = v
  · subst e; simp [h]
  · rw [if_neg e, if_neg (Ne.symm e)]
theorem RankTo.start {A : List Arc3} {n : Nat} : RankTo A n [] (List.replicate n 0) := by
  refine ⟨by simp, fun v hv => ⟨v, ?_⟩, fun a _ h => by cases h⟩
  have : hAt (List.replicate n 0) v = 0 := by simp [hAt, List.getD_eq_getElem?_getD, hv]
  rw [this]; exact Walk.zero.2 rfl
theorem RankTo.step {A : List Arc3} {n : Nat} {pre e : List Nat} {a : Arc3} (h : RankTo A n pre e) (ha : a ∈ A) (hlo : a.lo < n) (hup : a.up < n) (hne : a.up ≠ a.lo) (hnp : a.up ∉ pre) :
    RankTo A n pre (e.set a.up (max (hAt e a.up) (hAt e a.lo + 1))) ∧ hAt (e.set a.up (max (hAt e a.up) (hAt e a.lo + 1))) a.lo = hAt e a.lo ∧
      hAt e a.lo + 1 ≤ hAt (e.set a.up (max (hAt e a.up) (hAt e a.lo + 1))) a.up ∧ ∀ v, hAt e v ≤ hAt (e.set a.up (max (hAt e a.up) (hAt e a.lo + 1))) v := by
  have hl := h.len
  have hs : ∀ v, hAt (e.set a.up (max (hAt e a.up) (hAt e a.lo + 1))) v = if v = a.up then max (hAt e a.up) (hAt e a.lo + 1) else hAt e v := fun v => hAt_setB (by omega)
  have hge : ∀ v, hAt e v ≤ hAt (e.set a.up (max (hAt e a.up) (hAt e a.lo + 1))) v := fun v => by
    rw [hs]; split
    · rename_i e1; subst e1; exact Nat.le_max_left _ _
    · exact Nat.le_refl _
  refine ⟨⟨by simp [hl], fun v hv => ?_, fun b hb hbp => ?_⟩, by rw [hs, if_neg (Ne.symm hne)], by rw [hs, if_pos rfl]; exact Nat.le_max_right _ _, hge⟩
  · rw [hs]
    by_cases e1 : v = a.up
    · subst e1
      rw [if_pos rfl]
      rcases Nat.le_total (hAt e a.up) (hAt e a.lo + 1) with h1 | h1
      · rw [Nat.max_eq_right h1]
        obtain ⟨u, hu⟩ := h.sound a.lo hlo
        exact ⟨u, Walk.snoc.2 ⟨a, ha, rfl, hu⟩⟩
      · rw [Nat.max_eq_left h1]; exact h.sound _ hv
    · rw [if_neg e1]; exact h.sound v hv
  · have h1 := h.up b hb hbp
    have h2 : b.lo ≠ a.up := fun e1 => hnp (e1 ▸ hbp)
    rw [hs b.lo, if_neg h2]
    exact Nat.le_trans h1 (hge _)
theorem RankTo.snoc {A : List Arc3} {n i : Nat} {pre e : List Nat} (h : RankTo A n pre e) (hi : ∀ a ∈ nexts A i, hAt e i + 1 ≤ hAt e a.up) : RankTo A n (pre ++ [i]) e :=
  ⟨h.len, h.sound, fun a ha hp => by
    rcases List.mem_append.1 hp with h1 | h1
    · exact h.up a ha h1
    · have e1 := List.mem_singleton.1 h1
      have := hi a (by unfold nexts; rw [List.mem_filter]; exact ⟨ha, by simp [e1]⟩)
      rw [e1]; exact this⟩
theorem RankTo.done {A : List Arc3} {n : Nat} {pre e : List Nat} (h : RankTo A n pre e) (hb : Below n A) (hall : ∀ a ∈ A, a.lo ∈ pre) {v : Nat} (hv : v < n) : LongTo A v (hAt e v) := by
  refine ⟨h.sound v hv, ?_⟩
  intro k
  induction k generalizing v with
  | zero => intro u _; omega
  | succ k ih =>
    intro u hw
    obtain ⟨a, ha, hu, hw2⟩ := Walk.snoc.1 hw
    subst hu
    have h1 := h.up a ha (hall a ha)
    have h2 := ih (hb a ha).1 _ hw2
    omega

/-- The arcs turned around. -/
def rev3 (a : Arc3) : Arc3 := ⟨a.i, a.up, a.lo⟩
theorem walk_rev {A : List Arc3} : ∀ {k u v : Nat}, Walk A k u v → Walk (A.map rev3) k v u
  | 0, u, v, h => by rw [Walk.zero] at h ⊢; exact h.symm
  | k + 1, u, v, h => by
    obtain ⟨a, ha, hl, hw⟩ := Walk.succ.1 h
    subst hl
    exact Walk.snoc.2 ⟨rev3 a, List.mem_map.2 ⟨a, ha, rfl⟩, rfl, walk_rev hw⟩
theorem rev_rev (A : List Arc3) : (A.map rev3).map rev3 = A := by
  rw [List.map_map]
  have : (rev3 ∘ rev3) = id := by funext a; rfl
  rw [this, List.map_id]
theorem longFrom_rev {A : List Arc3} {v m : Nat} (h : LongTo (A.map rev3) v m) : LongFrom A v m := by
  obtain ⟨⟨u, hu⟩, hmax⟩ := h
  have h1 := walk_rev hu
  rw [rev_rev] at h1
  exact ⟨⟨u, h1⟩, fun k u hw => hmax k u (walk_rev hw)⟩
end Go.Jog
namespace Go.Jog
open Go
section
variable {cx : Cx} {n : Nat} {ds : List (Option Nat)} {R : Rg n ds} {its : List It} {fr : Fr} {C : Mem} {L : List Ent} {i k d : Nat} {o : Oper} {g : GL} {v : Value}
theorem D.max {x y : Operand} {ts : Array TypeId} {p q : Int} {ki kj : IntKind} (c : Int) (hk : Nat.ble k 1 = true) (hd : o.dst = some d) (hop : o.op = .call ⟨.builtin .max, #[x, y], ts⟩) (hg : gOf ds fr o.guard = some g) (hx : ev fr g x = some (.int ki p)) (hy : ev fr g y = some (.int kj q))
    (hc : Max.max p q = c) (hp : okPut n ds ((d, g, .int ki c) :: fr) d = true) (hwf : wfG ds fr g = true)
    (h : D cx R its ((d, g, .int ki c) :: fr) C L) : D cx R ((i, k, o) :: its) fr C L :=
  D.run _ hk hd hg (fun _ a hs w => by
    have e1 : execOp a.eval o = (do let dd ← resolve a.eval ⟨.builtin .max, #[x, y], ts⟩ o.type; invoke dd.target dd.args : Sem Next) := by unfold execOp; rw [hop]
    rw [e1]
    have hm : (if q > p then q else p) = c := by rw [← hc]; by_cases hh : q > p <;> simp [hh] <;> omega
    simp [resolve, invoke, builtin, hs _ _ hx, hs _ _ hy, Builtin.max_, Builtin.max2, hm]) hp hwf h
theorem D.min {x y : Operand} {ts : Array TypeId} {p q : Int} {ki kj : IntKind} (c : Int) (hk : Nat.ble k 1 = true) (hd : o.dst = some d) (hop : o.op = .call ⟨.builtin .min, #[x, y], ts⟩) (hg : gOf ds fr o.guard = some g) (hx : ev fr g x = some (.int ki p)) (hy : ev fr g y = some (.int kj q))
    (hc : Min.min p q = c) (hp : okPut n ds ((d, g, .int ki c) :: fr) d = true) (hwf : wfG ds fr g = true)
    (h : D cx R its ((d, g, .int ki c) :: fr) C L) : D cx R ((i, k, o) :: its) fr C L :=
  D.run _ hk hd hg (fun _ a hs w => by
    have e1 : execOp a.eval o = (do let dd ← resolve a.eval ⟨.builtin .min, #[x, y], ts⟩ o.type; invoke dd.target dd.args : Sem Next) := by unfold execOp; rw [hop]
    rw [e1]
    have hm : (if q < p then q else p) = c := by rw [← hc]; by_cases hh : q < p <;> simp [hh] <;> omega
    simp [resolve, invoke, builtin, hs _ _ hx, hs _ _ hy, Builtin.min_, Builtin.min2, hm]) hp hwf h
end
end Go.Jog
namespace Go.Jog
open Go

/-- Code of a round. -/
def Cw.round (P : Program) (l n : Nat) : Cw P where
  wp := fun c Q a w => c.wpIn (Fence.wide.inRound l) n P Q a w
  nd := fun ops => noDefer ops = true
  mono := fun h q => wpIn_mono q h
  skip := wpIn_skip
  ret := wpIn_ret
  exit := wpIn_exit
  seq := wpIn_seq
  block := wpIn_block
  cond := wpIn_cond_split
  loop := wpIn_loop
  region := fun hd h => wpIn_mono (wpIn_region (wpOps_in hd _ _ _ h)) (fun e a w q => by cases e <;> first | exact q | exact q.elim)
  any := fun hm hd h => wpIn_mono (wpIn_region_any hm (wpAny_in hd _ _ _ _ h)) (fun e a w q => by cases e <;> first | exact q | exact q.elim)

theorem Kq_dd (F : Fx) (dd : List Deferred) : ∀ k, Kq { F with dd := dd } k = Kq F k
  | [] => rfl
  | .code c :: k => by
    funext e a w
    cases e <;> simp only [Kq, Kq_dd F dd k]
  | .blk id :: k => by
    funext e a w
    cases e <;> simp only [Kq, Kq_dd F dd k]
  | .inv I :: k => by
    funext e a w
    cases e <;> simp only [Kq, Kq_dd F dd k]

/-- An iterator that hands on these values, two at a time, to a body that goes on to the end and keeps what is known. -/
def Iter (P : Program) (gf : FuncId) (lb : Array Value) (C : Mem) (vss : List (Value × Value)) : Prop :=
  ∀ (l : Nat) (J : Nat → World → Prop) (W : World),
    (∀ k W, J k W → ∀ b o, C b = some o → W.heap[b]? = some o) → (∀ k W, J k W → J k W.drew) →
    (∀ k v W1, J k W1 → vss[k]? = some v → YieldAt Fence.wide 1 P l #[v.1, v.2] W1 fun e W' => e = .returned (.bool true) ∧ J (k + 1) W') →
    J 0 W → CallsIn Fence.wide 2 P gf (#[.func (.yield l) #[] #[]] ++ lb) W fun e W' => (∃ v, e = .returned v) ∧ J vss.length W'

section
variable {F : Fx} {k : List KI} {fr : Fr} {C : Mem} {L : List Ent}
theorem St.putObj {w0 : World} {C0 : Mem} {L0 : List Ent} {C : Mem} {L : List Ent} {w : World} {b : Nat} {o o' : Obj} (h : St w0 C0 L0 C (.obj b o :: L) w) : St w0 C0 L0 C (.obj b o' :: L) (w.putObj b o') := by
  have hb : w.heap[b]? = some o := h.sep.e _ (List.mem_cons_self ..)
  exact St.put h (World.putObj_heap_same (Array.getElem?_eq_some_iff.1 hb).1) (fun k hk => World.putObj_heap_other hk) (World.putObj_size) rfl rfl rfl (Nat.le_refl _)

theorem G.asIn {cx : Cx} {fn : Func} {n l : Nat} {b : Bs} {post : Value → Mem → List Ent → Prop} {last : Exit → Act → World → Prop} {c : Code} (h : G ⟨cx, fn, n, b, post, Cw.round cx.P l 1, [], last⟩ (norm 64 [.code c]) .normal fr C L)
    (hle : b.C0.le C) {a : Act} {w : World} (ha : FrOk n [] [] fr a) (hw : b.cls (C, L) w) : c.wpIn (Fence.wide.inRound l) 1 cx.P last a w := by
  have := G.norm_ 64 h hle a w ha hw
  simp only [Kq] at this
  exact wpIn_mono this (fun e a w q => by cases e <;> exact q)

/-- 'for .. := range f': the body goes to its end in each round. -/
theorem G.rangeFunc {g : Operand} {p0 p1 : Nat} {assign body : Code} {gf : FuncId} {lb : Array Value} {vss : List (Value × Value)} (hW : F.W = Cw.plain F.cx.P) (hd0 : F.dd = [])
    (hg : ev fr [] g = some (.func (.func gf) #[] lb)) (hen : Enters F.cx.P gf = true) (hseq : Iter F.cx.P gf lb C vss) (I : Nat → List Ent → Prop) (h0 : I 0 L) (hp : fr.all (fun x => x.2.1.isEmpty) = true)
    (hok : ∀ u v, (okPut F.n [] ((p0, [], u) :: fr) p0 && okPut F.n [] ((p1, [], v) :: (p0, [], u) :: fr) p1) = true) (frb : Value → Value → Fr)
    (hassign : ∀ l u v W1 L', G ⟨F.cx, F.fn, F.n, ⟨W1, C, L'⟩, F.post, Cw.round F.cx.P l 1, [], fun e a w' => e = .normal ∧ FrOk F.n [] [] (frb u v) a ∧ St W1 C L' C L' w'⟩ (norm 64 [.code assign]) .normal ((p1, [], v) :: (p0, [], u) :: fr) C L')
    (hbody : ∀ l j u v L' W1, I j L' → vss[j]? = some (u, v) →
      G ⟨F.cx, F.fn, F.n, ⟨W1, C, L'⟩, F.post, Cw.round F.cx.P l 1, [], fun e _ w' => e = .normal ∧ ∃ L1, I (j + 1) L1 ∧ St W1 C L' C L1 w'⟩ (norm 64 [.code body]) .normal (frb u v) C L')
    (hdone : ∀ D L', I vss.length L' → G { F with dd := [{ target := .collected D, args := #[] }] } (norm 64 k) .normal fr C (.obj D (.deferred (some [])) :: L')) :
    G F (.code (.rangeFunc g #[p0, p1] assign body) :: k) .normal fr C L := fun hle a w ha hw => by
  simp only [Kq, hW]
  show (Code.rangeFunc g #[p0, p1] assign body).wp F.cx.P (Kq F k) a w
  refine (wpIn_wide (n := 3)).1 (wpIn_rangeFunc fun fn _ => ?_)
  have hga : a.eval g = .func (.func gf) #[] lb := ev_spec ha (fun p hp => by cases hp) hg
  have hdef : a.defers = [] := ha.defers.trans hd0
  obtain ⟨rec, hrec⟩ : ∃ rec : LoopState → Loop, rec = fun st => { state := st, pending := none, fn, tmps := a.tmps, params := #[p0, p1], assign, body, defers := w.heap.size } := ⟨_, rfl⟩
  obtain ⟨W1, hW1⟩ : ∃ W1, (w.alloc (.deferred (some []))).alloc (.loop (rec .ready)) = W1 := ⟨_, rfl⟩
  have hS1 : St F.b.w0 F.b.C0 F.b.L0 C (.obj (w.heap.size + 1) (.loop (rec .ready)) :: .obj w.heap.size (.deferred (some [])) :: L) W1 := by
    have := St.alloc (St.alloc hw (.deferred (some []))) (.loop (rec .ready))
    rw [World.size_alloc] at this
    rw [← hW1]; exact this
  refine ⟨w.heap.size + 1, [{ target := .collected w.heap.size, args := #[] }], W1, { target := .fn (.func gf) lb, args := #[.func (.yield (w.heap.size + 1)) #[] #[]] }, W1, gf,
    #[.func (.yield (w.heap.size + 1)) #[] #[]] ++ lb, W1, ?_, ?_, fun _ _ => trivial, ?_, fun _ => by decide, ?_⟩
  · rw [← hW1, hrec]; exact run_enterLoop_outer _ _ _ _ _
  · simp only [resolve, hga]
    simp [go_sem]
  · simp [invoke, go_sem, run_callFunc hen]
  · refine (hseq (w.heap.size + 1) (fun j W => ∃ L', I j L' ∧ St F.b.w0 F.b.C0 F.b.L0 C (.obj (w.heap.size + 1) (.loop (rec .ready)) :: .obj w.heap.size (.deferred (some [])) :: L') W) W1
      (fun j W ⟨L', _, hs⟩ => hs.sep.c) (fun j W ⟨L', hi, hs⟩ => ⟨L', hi, hs.drew⟩) ?_ ⟨L, h0, hS1⟩).mono ?_
    · rintro j ⟨u, v⟩ W ⟨L', hi, hs⟩ hj
      have hl : W.heap[w.heap.size + 1]? = some (.loop (rec .ready)) := hs.sep.e _ (List.mem_cons_self ..)
      have hy := run_yield (P := F.cx.P) (args := #[u, v]) hl (by rw [hrec]; rfl)
      rw [hrec] at hy
      have hz : (#[p0, p1].zip #[u, v]).foldl (fun tmps (x : Nat × Value) => match x with | (t, a) => tmps.setIfInBounds t a) a.tmps = (a.tmps.setIfInBounds p0 u).setIfInBounds p1 v := by simp
      dsimp only at hy
      rw [hz] at hy
      refine ⟨fn, _, assign, body, hy, roundIn_of_wpIn trivial ?_⟩
      have hfr : FrOk F.n [] [] ((p1, [], v) :: (p0, [], u) :: fr) { tmps := (a.tmps.setIfInBounds p0 u).setIfInBounds p1 v, defers := [] } := by
        have hk := hok u v
        rw [Bool.and_eq_true] at hk
        have h1 := FrOk.put (u := u) (FrOk.mk (dd := []) ha.size hdef ha.ent : FrOk F.n [] [] fr a) hk.1 ⟨fun _ => rfl, fun hn => absurd (fun p hp => by cases hp) hn⟩
        have h2 := FrOk.put (u := v) h1 hk.2 ⟨fun _ => rfl, fun hn => absurd (fun p hp => by cases hp) hn⟩
        exact ⟨h2.size, rfl, h2.ent⟩
      have hA := G.asIn (hassign (w.heap.size + 1) u v W _) (Mem.le.refl _) hfr (St.start hs.sep)
      refine wpIn_mono hA (fun e a1 W2 q => ?_)
      obtain ⟨rfl, hfr1, hs1⟩ := q
      have hs2 := St.call (Lr := []) (by rw [List.append_nil]; exact hs) hs1
      rw [List.append_nil] at hs2
      have hl2 : W2.heap[w.heap.size + 1]? = some (.loop (rec .ready)) := hs2.sep.e _ (List.mem_cons_self ..)
      refine ⟨_, run_beginRound hl2 (by rw [hrec]), ?_⟩
      have hs3 : St F.b.w0 F.b.C0 F.b.L0 C (.obj (w.heap.size + 1) (.loop (rec .busy)) :: .obj w.heap.size (.deferred (some [])) :: L') (W2.putObj (w.heap.size + 1) (.loop { rec .ready with state := .busy })) := by
        have := St.putObj (o' := .loop { rec .ready with state := .busy }) hs2
        rw [hrec] at this ⊢
        exact this
      have hB := G.asIn (hbody (w.heap.size + 1) j u v L' (W2.putObj (w.heap.size + 1) (.loop { rec .ready with state := .busy })) hi hj) (Mem.le.refl _) hfr1 (St.start hs3.drop.drop.sep)
      refine wpIn_mono hB (fun e a2 W4 q => ?_)
      obtain ⟨rfl, L1, hi1, hs4⟩ := q
      have hs5 := St.call (Lp := L') (Lr := [.obj (w.heap.size + 1) (.loop (rec .busy)), .obj w.heap.size (.deferred (some []))]) (St.perm hs3 (List.perm_append_comm (l₁ := [_, _]))) hs4
      have hs6 : St F.b.w0 F.b.C0 F.b.L0 C (.obj (w.heap.size + 1) (.loop (rec .busy)) :: .obj w.heap.size (.deferred (some [])) :: L1) W4 := St.perm hs5 (List.perm_append_comm (l₂ := [_, _]))
      have hl4 : W4.heap[w.heap.size + 1]? = some (.loop (rec .busy)) := hs6.sep.e _ (List.mem_cons_self ..)
      refine ⟨_, _, run_endRound none hl4, rfl, L1, hi1, ?_⟩
      have := St.putObj (o' := .loop { rec .busy with state := if (none : Option Code).isNone then .ready else .done, pending := none }) hs6
      rw [hrec] at this ⊢
      exact this
    · rintro e W2 ⟨⟨v, rfl⟩, L', hi, hs⟩
      have hl : W2.heap[w.heap.size + 1]? = some (.loop (rec .ready)) := hs.sep.e _ (List.mem_cons_self ..)
      refine ⟨none, _, by have := run_endLoop (P := F.cx.P) hl (by rw [hrec]; simp); rw [hrec] at this; exact this, ?_⟩
      have hs2 : St F.b.w0 F.b.C0 F.b.L0 C (.obj w.heap.size (.deferred (some [])) :: L') (W2.putObj (w.heap.size + 1) (.loop { rec .ready with state := .exhausted })) := (St.putObj hs).drop
      have := G.norm_ 64 (hdone w.heap.size L' hi) hle { a with defers := [{ target := .collected w.heap.size, args := #[] }] ++ a.defers } _ ⟨ha.size, by rw [hdef]; rfl, ha.ent⟩ hs2
      rw [Kq_dd] at this
      rw [hrec] at this
      exact this

/-- The end of a round. -/
theorem G.roundEnd {cx : Cx} {fn : Func} {n : Nat} {W1 : World} {C C' : Mem} {L' L1 L2 : List Ent} {post : Value → Mem → List Ent → Prop} {W : Cw cx.P} {R : List Ent → Prop} (hp : L1.Perm L2) (h : R L2) :
    G ⟨cx, fn, n, ⟨W1, C, L'⟩, post, W, [], fun e _ w' => e = .normal ∧ ∃ L1, R L1 ∧ St W1 C L' C L1 w'⟩ [] .normal fr C' L1 := fun hle _ _ _ hw =>
  ⟨rfl, L2, h, St.less (St.perm hw hp) (Mem.le.refl _) hle⟩
theorem G.assignEnd {cx : Cx} {fn : Func} {n : Nat} {W1 : World} {C C' : Mem} {L' : List Ent} {post : Value → Mem → List Ent → Prop} {W : Cw cx.P} {fr' : Fr} (hs : Has fr fr') :
    G ⟨cx, fn, n, ⟨W1, C, L'⟩, post, W, [], fun e a w' => e = .normal ∧ FrOk n [] [] fr' a ∧ St W1 C L' C L' w'⟩ [] .normal fr C' L' := fun hle _ _ ha hw =>
  ⟨rfl, ha.weaken hs.sub, St.less hw (Mem.le.refl _) hle⟩

/-- A function with a range over a function. -/
theorem Fn.introM {cx : Cx} {f : FuncId} {fn : Func} {c : Code} {args : List Value} {C : Mem} {L : List Ent} {post : Value → Mem → List Ent → Prop} (hen : Enters cx.P f = true) (hf : cx.P.funcs[f]? = some fn) (hb : fn.body = some c)
    (n : Nat) (hnt : fn.ntmps = n) (hn : Nat.ble args.length n = true)
    (h : ∀ w0, G ⟨cx, fn, n, ⟨w0, C, L⟩, post, Cw.plain cx.P, [], bodyPostM Fence.wide 3 cx.P fn (finOf ⟨w0, C, L⟩ post)⟩ (norm 64 [.code c]) .normal (args0 args 0) C L) : Fn cx.P f args C L post := by
  subst hnt
  refine ⟨hen, fun w hw => callsIn_wide.1 (callsIn_of_wp_marks (n := 3) hf hb trivial ?_)⟩
  rw [Nat.ble_eq] at hn
  have := G.norm_ 64 (h w) (Mem.le.refl _) { tmps := args.toArray ++ Array.replicate (fn.ntmps - args.toArray.size) undef, defers := [] } w
    ⟨by simp; omega, rfl, fun s g v hg => by
      obtain ⟨rfl, _, hv⟩ := args0_get hg
      refine ⟨fun _ => ?_, fun hn => absurd (fun p hp => by cases hp) hn⟩
      simp only [Nat.sub_zero] at hv
      have hlt := (List.getElem?_eq_some_iff.1 hv).1
      simp only [Array.getElem?_append, List.size_toArray, hlt, if_true, List.getElem?_toArray]
      exact hv⟩ (St.start hw)
  simp only [Kq] at this
  refine wpIn_wide.2 (Code.wp_mono (fun e a w q => ?_) this)
  cases e <;> exact q

theorem endsM {cx : Cx} {fn : Func} {n : Nat} {b : Bs} {post : Value → Mem → List Ent → Prop} : (⟨cx, fn, n, b, post, Cw.plain cx.P, [], bodyPostM Fence.wide 3 cx.P fn (finOf b post)⟩ : Fx).ends := by
  refine ⟨fun e a w h => ?_, rfl⟩
  cases e with
  | normal => obtain ⟨h1, h2⟩ := h; show LeavesInM _ _ _ _ _ _ a.defers _ _; rw [h1]; exact h2
  | ret => obtain ⟨h1, h2⟩ := h; show LeavesInM _ _ _ _ _ _ a.defers _ _; rw [h1]; exact h2
  | panic c => obtain ⟨h1, h2⟩ := h; show LeavesInM _ _ _ _ _ _ a.defers _ _; rw [h1]; exact h2
  | outgrown => exact h
  | exit id => exact h
  | goto l => exact h

/-- The return behind it: the results are read when the put-off calls, none, have been taken. -/
theorem G.finM {cx : Cx} {fn : Func} {n D : Nat} {b : Bs} {post : Value → Mem → List Ent → Prop} {v : Value}
    (hr : ∀ a w, FrOk n [] [{ target := .collected D, args := #[] }] fr a → St b.w0 b.C0 b.L0 C L w → (results fn a.tmps).run cx.P w = .ok v w) (h : post v C []) :
    G ⟨cx, fn, n, b, post, Cw.plain cx.P, [{ target := .collected D, args := #[] }], bodyPostM Fence.wide 3 cx.P fn (finOf b post)⟩ [] .ret fr C (.obj D (.deferred (some [])) :: L) := fun hle a w ha hw => by
  show LeavesInM _ _ _ _ _ _ a.defers _ _
  rw [ha.defers]
  have hD : w.heap[D]? = some (.deferred (some [])) := hw.sep.e _ (List.mem_cons_self ..)
  have hs := (St.putObj (o' := .deferred none) hw).drop
  exact ⟨by simp, .inl ⟨D, _, rfl, run_takeDeferred hD, v, hr a _ ha hs, v, C, [], rfl, St.dropAll hs, h⟩⟩

theorem res_tct {cx : Cx} {fn : Func} {n r s t u b : Nat} {dd : List Deferred} {w0 : World} {C0 : Mem} {L0 : List Ent} {tb : TypeId} {fz : Nat × Nat} {cs : List Value} {ti : TI} {x y z : Value} (hm : Ent.obj b (.cells ⟨cs⟩ tb fz) ∈ L) (hres : fn.results = #[.tmp r, .cell s t, .tmp u])
    (hr : ev fr [] (.tmp r) = some x) (hs : ev fr [] (.tmp s) = some (.pointer (some ⟨b, 0, none⟩))) (hu : ev fr [] (.tmp u) = some z) (ht : cx.T.get t = some ti) (hv : ofCells ti (cs.take ti.size) = some y) :
    ∀ a w, FrOk n [] dd fr a → St w0 C0 L0 C L w → (results fn a.tmps).run cx.P w = .ok (.tuple #[x, y, z]) w := fun a w ha hw => by
  have hr' := ev_spec ha (fun p hp => by cases hp) hr
  have hs' := ev_spec ha (fun p hp => by cases hp) hs
  have hu' := ev_spec ha (fun p hp => by cases hp) hu
  simp only [Act.eval] at hr' hs' hu'
  have hl := run_cell (F := ⟨cx, fn, n, ⟨w0, C0, L0⟩, fun _ _ _ => True, Cw.plain cx.P, dd, fun _ _ _ => True⟩) ht (hw.sep.e _ hm) hv
  simp only [Array.getD_eq_getD_getElem?] at hr' hs' hu'
  simp [results, hres, hr', hs', hu', asAddr, hl]
theorem G.finR {v : Value} (hr : ∀ a w, FrOk F.n [] F.dd fr a → St F.b.w0 F.b.C0 F.b.L0 C L w → (results F.fn a.tmps).run F.cx.P w = .ok v w) (h : F.post v C []) (he : F.ends) : G F [] .ret fr C L := fun _ a w ha hw =>
  he.kq (bodyPost_ret (v := v) (hr a w ha hw) (ha.defers.trans he.2) ⟨v, C, [], rfl, St.dropAll hw, h⟩)
end
end Go.Jog
namespace Go.Jog
open Go
structure RankS (A : List Arc3) (n : Nat) (S : Arc3 → Prop) (e : List Nat) : Prop where
  len : e.length = n
  sound : ∀ v, v < n → ∃ u, Walk A (hAt e v) u v
  up : ∀ a ∈ A, S a → hAt e a.lo + 1 ≤ hAt e a.up
theorem RankS.start {A : List Arc3} {n : Nat} : RankS A n (fun _ => False) (List.replicate n 0) := by
  refine ⟨by simp, fun v hv => ⟨v, ?_⟩, fun a _ h => h.elim⟩
  have : hAt (List.replicate n 0) v = 0 := by simp [hAt, List.getD_eq_getElem?_getD, hv]
  rw [this]; exact Walk.zero.2 rfl
theorem RankS.mono {A : List Arc3} {n : Nat} {S T : Arc3 → Prop} {e : List Nat} (h : RankS A n S e) (hs : ∀ a ∈ A, T a → S a) : RankS A n T e :=
  ⟨h.len, h.sound, fun a ha ht => h.up a ha (hs a ha ht)⟩
theorem RankS.step {A : List Arc3} {n : Nat} {S : Arc3 → Prop} {e : List Nat} {a : Arc3} (h : RankS A n S e) (ha : a ∈ A) (hlo : a.lo < n) (hup : a.up < n) (hne : a.up ≠ a.lo) (hnp : ∀ b ∈ A, S b → b.lo ≠ a.up) :
    RankS A n (fun b => S b ∨ b = a) (e.set a.up (max (hAt e a.up) (hAt e a.lo + 1))) := by
  have hl := h.len
  have hs : ∀ v, hAt (e.set a.up (max (hAt e a.up) (hAt e a.lo + 1))) v = if v = a.up then max (hAt e a.up) (hAt e a.lo + 1) else hAt e v := fun v => hAt_setB (by omega)
  have hge : ∀ v, hAt e v ≤ hAt (e.set a.up (max (hAt e a.up) (hAt e a.lo + 1))) v := fun v => by
    rw [hs]; split
    · rename_i e1; subst e1; exact Nat.le_max_left _ _
    · exact Nat.le_refl _
  refine ⟨by simp [hl], fun v hv => ?_, fun b hb hbp => ?_⟩
  · rw [hs]
    by_cases e1 : v = a.up
    · subst e1
      rw [if_pos rfl]
      rcases Nat.le_total (hAt e a.up) (hAt e a.lo + 1) with h1 | h1
      · rw [Nat.max_eq_right h1]
        obtain ⟨u, hu⟩ := h.sound a.lo hlo
        exact ⟨u, Walk.snoc.2 ⟨a, ha, rfl, hu⟩⟩
      · rw [Nat.max_eq_left h1]; exact h.sound _ hv
    · rw [if_neg e1]; exact h.sound v hv
  · rcases hbp with hbp | rfl
    · have h1 := h.up b hb hbp
      rw [hs b.lo, if_neg (hnp b hb hbp)]
      exact Nat.le_trans h1 (hge _)
    · rw [hs b.lo, if_neg (Ne.symm hne), hs b.up, if_pos rfl]
      exact Nat.le_max_right _ _
theorem RankS.done {A : List Arc3} {n : Nat} {S : Arc3 → Prop} {e : List Nat} (h : RankS A n S e) (hb : Below n A) (hall : ∀ a ∈ A, S a) {v : Nat} (hv : v < n) : LongTo A v (hAt e v) := by
  refine ⟨h.sound v hv, ?_⟩
  intro k
  induction k generalizing v with
  | zero => intro u _; omega
  | succ k ih =>
    intro u hw
    obtain ⟨a, ha, hu, hw2⟩ := Walk.snoc.1 hw
    subst hu
    have h1 := h.up a ha (hall a ha)
    have h2 := ih (hb a ha).1 _ hw2
    omega

theorem nodup_at {o : List Nat} (hn : o.Nodup) {i j x : Nat} (hi : o[i]? = some x) (hj : o[j]? = some x) : i = j := by
  obtain ⟨h1, h2⟩ := List.getElem?_eq_some_iff.1 hi
  obtain ⟨h3, h4⟩ := List.getElem?_eq_some_iff.1 hj
  exact (List.getElem_inj hn).1 (h2.trans h4.symm)
theorem mem_take_at {o : List Nat} {x k : Nat} (h : x ∈ o.take k) : ∃ j, j < k ∧ o[j]? = some x := by
  obtain ⟨j, hj⟩ := List.getElem?_of_mem h
  rw [List.getElem?_take] at hj
  split at hj
  · rename_i h1; exact ⟨j, h1, hj⟩
  · cases hj
theorem topo_lo {A : List Arc3} {n : Nat} {o : List Nat} (h : Topo A n o) {k : Nat} {a : Arc3} (ha : a ∈ A) (hk : o[k]? = some a.up) : a.lo ∈ o.take k := by
  obtain ⟨h1, h2⟩ := List.getElem?_eq_some_iff.1 hk
  refine h.2.2.2 (o.take k) a.up (o.drop (k + 1)) ?_ a ha rfl
  rw [← h2, ← List.drop_eq_getElem_cons h1, List.take_append_drop]
theorem topo_up {A : List Arc3} {n : Nat} {o : List Nat} (h : Topo A n o) {k : Nat} {a : Arc3} (ha : a ∈ A) (hk : o[k]? = some a.lo) : a.up ∉ o.take (k + 1) := fun hm => by
  obtain ⟨j, hj, hju⟩ := mem_take_at hm
  obtain ⟨i, hi, hil⟩ := mem_take_at (topo_lo h ha hju)
  have := nodup_at h.2.1 hk hil
  omega
theorem topo_ne {A : List Arc3} {n : Nat} {o : List Nat} (h : Topo A n o) {a : Arc3} (ha : a ∈ A) (hlo : a.lo < n) : a.up ≠ a.lo := fun e => by
  obtain ⟨k, hk⟩ := List.getElem?_of_mem (h.mem hlo)
  refine topo_up h ha hk ?_
  rw [e]
  exact List.mem_iff_getElem?.2 ⟨k, by rw [List.getElem?_take, if_pos (by omega)]; exact hk⟩

/-- The greatest of some numbers. -/
def IsMost (e : List Nat) (xs : List Nat) (m : Nat) : Prop := (∀ x ∈ xs, hAt e x ≤ m) ∧ (m = 0 ∨ ∃ x ∈ xs, hAt e x = m)
theorem IsMost.snoc {e xs : List Nat} {m i : Nat} (h : IsMost e xs m) : IsMost e (xs ++ [i]) (max m (hAt e i)) := by
  refine ⟨fun x hx => ?_, ?_⟩
  · rcases List.mem_append.1 hx with h1 | h1
    · exact Nat.le_trans (h.1 x h1) (Nat.le_max_left _ _)
    · rw [List.mem_singleton.1 h1]; exact Nat.le_max_right _ _
  · rcases Nat.le_total m (hAt e i) with h1 | h1
    · rw [Nat.max_eq_right h1]; exact .inr ⟨i, by simp, rfl⟩
    · rw [Nat.max_eq_left h1]
      rcases h.2 with h2 | ⟨x, hx, h2⟩
      · exact .inl h2
      · exact .inr ⟨x, by simp [hx], h2⟩
theorem IsMost.cong {e e' xs : List Nat} {m : Nat} (h : IsMost e xs m) (hc : ∀ x ∈ xs, hAt e' x = hAt e x) : IsMost e' xs m :=
  ⟨fun x hx => by rw [hc x hx]; exact h.1 x hx, h.2.elim .inl (fun ⟨x, hx, h2⟩ => .inr ⟨x, hx, by rw [hc x hx]; exact h2⟩)⟩

/-- One arc on, in the pass along the order. -/
theorem fwd_step {A : List Arc3} {n k q i : Nat} {o e : List Nat} {a : Arc3} (ht : Topo A n o) (hb : Below n A) (hk : o[k]? = some i) (ha : (nexts A i)[q]? = some a)
    (h : RankS A n (fun b => b.lo ∈ o.take k ∨ b ∈ (nexts A i).take q) e) :
    RankS A n (fun b => b.lo ∈ o.take k ∨ b ∈ (nexts A i).take (q + 1)) (e.set a.up (max (hAt e a.up) (hAt e i + 1))) ∧ a.up ∉ o.take (k + 1) := by
  have hm := List.mem_of_getElem? ha
  have hm2 : a ∈ A ∧ a.lo = i := by simpa [nexts] using hm
  obtain ⟨haA, rfl⟩ := hm2
  have hup := topo_up ht haA hk
  have hne := topo_ne ht haA (hb a haA).1
  refine ⟨(h.step haA (hb a haA).1 (hb a haA).2 hne (fun b hbA hs e1 => ?_)).mono (fun b _ hs => ?_), hup⟩
  · rcases hs with hs | hs
    · rw [e1] at hs
      obtain ⟨j, hj, hju⟩ := mem_take_at hs
      exact hup (List.mem_iff_getElem?.2 ⟨j, by rw [List.getElem?_take, if_pos (by omega)]; exact hju⟩)
    · have : b ∈ nexts A a.lo := List.mem_of_mem_take hs
      have h2 : b.lo = a.lo := by simp [nexts] at this; exact this.2
      exact hne (e1.symm.trans h2)
  · rcases hs with hs | hs
    · exact .inl (.inl hs)
    · rw [List.take_add_one, ha] at hs
      rcases List.mem_append.1 hs with h1 | h1
      · exact .inl (.inr h1)
      · exact .inr (by simpa using h1)
theorem fwd_next {A : List Arc3} {n k i : Nat} {o e : List Nat} (hk : o[k]? = some i) (h : RankS A n (fun b => b.lo ∈ o.take k ∨ b ∈ nexts A i) e) : RankS A n (fun b => b.lo ∈ o.take (k + 1)) e :=
  h.mono (fun b hbA hs => by
    rw [List.take_add_one, hk] at hs
    rcases List.mem_append.1 hs with h1 | h1
    · exact .inl h1
    · refine .inr ?_
      have : b.lo = i := by simpa using h1
      simp [nexts, hbA, this])

/-- And in the pass back. -/
theorem bwd_step {A : List Arc3} {n k q i : Nat} {o e : List Nat} {a : Arc3} (ht : Topo A n o) (hb : Below n A) (hk : o[k]? = some i) (ha : (nexts A i)[q]? = some a)
    (h : RankS (A.map rev3) n (fun b => b.up ∈ o.drop (k + 1) ∨ b ∈ ((nexts A i).take q).map rev3) e) :
    RankS (A.map rev3) n (fun b => b.up ∈ o.drop (k + 1) ∨ b ∈ ((nexts A i).take (q + 1)).map rev3) (e.set i (max (hAt e i) (hAt e a.up + 1))) := by
  have hm := List.mem_of_getElem? ha
  have hm2 : a ∈ A ∧ a.lo = i := by simpa [nexts] using hm
  obtain ⟨haA, rfl⟩ := hm2
  have hne := topo_ne ht haA (hb a haA).1
  refine (h.step (a := rev3 a) (List.mem_map.2 ⟨a, haA, rfl⟩) (hb a haA).2 (hb a haA).1 (Ne.symm hne) (fun b hbA hs e1 => ?_)).mono (fun b _ hs => ?_)
  · obtain ⟨c, hc, rfl⟩ := List.mem_map.1 hbA
    have e2 : c.up = a.lo := e1
    rcases hs with hs | hs
    · have hs' : c.lo ∈ o.drop (k + 1) := hs
      have h3 := topo_lo ht hc (e2 ▸ hk)
      obtain ⟨j, hj, hjl⟩ := mem_take_at h3
      obtain ⟨i2, hi2⟩ := List.getElem?_of_mem hs'
      rw [List.getElem?_drop] at hi2
      have := nodup_at ht.2.1 hjl hi2
      omega
    · obtain ⟨d, hd, hde⟩ := List.mem_map.1 hs
      have h4 : d.lo = a.lo ∧ d ∈ A := by
        have := List.mem_of_mem_take hd
        simp [nexts] at this; exact ⟨this.2, this.1⟩
      have h5 : d.up = c.up := by have := congrArg Arc3.lo hde; simpa [rev3] using this
      have := topo_ne ht h4.2 (hb d h4.2).1
      exact this (by rw [h5, e2, h4.1])
  · rcases hs with hs | hs
    · exact .inl (.inl hs)
    · rw [List.take_add_one, ha, List.map_append] at hs
      rcases List.mem_append.1 hs with h1 | h1
      · exact .inl (.inr h1)
      · exact .inr (by simpa using h1)
theorem bwd_next {A : List Arc3} {n k i : Nat} {o e : List Nat} (hk : o[k]? = some i) (h : RankS (A.map rev3) n (fun b => b.up ∈ o.drop (k + 1) ∨ b ∈ (nexts A i).map rev3) e) : RankS (A.map rev3) n (fun b => b.up ∈ o.drop k) e :=
  h.mono (fun b hbA hs => by
    obtain ⟨h1, h2⟩ := List.getElem?_eq_some_iff.1 hk
    rw [List.drop_eq_getElem_cons h1, h2] at hs
    rcases List.mem_cons.1 hs with h3 | h3
    · refine .inr ?_
      obtain ⟨c, hc, rfl⟩ := List.mem_map.1 hbA
      exact List.mem_map.2 ⟨c, by simp [nexts, hc]; exact h3, rfl⟩
    · exact .inl h3)
theorem below_rev {A : List Arc3} {n : Nat} (h : Below n A) : Below n (A.map rev3) := fun a ha => by
  obtain ⟨b, hb, rfl⟩ := List.mem_map.1 ha
  exact ⟨(h b hb).2, (h b hb).1⟩
end Go.Jog
