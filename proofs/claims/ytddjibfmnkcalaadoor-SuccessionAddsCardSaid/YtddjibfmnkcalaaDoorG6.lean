/- Laws that the proofs of this seat share, part 6. -/
import Derived.Test.YtddjibfmnkcalaaDoorG5
import Derived.Test.YtddjibfmnkcalaaDoorShelf
import Derived.Shelf.Spec.TrailingZeros
import Derived.Shelf.Strconv.Itoa3
import Derived.Laws.Bits64b
import Derived.Test.YtddjibfmnkcalaaDoorCards
import Derived.Test.YtddjibfmnkcalaaDoorTie
import Derived.Stop.LaidErr
import Derived.Lib.LaidTab
import Derived.Carry
import Derived.Deep.Strs
namespace Go.Proofs.YtddjibfmnkcalaaDoor
open Go Go.Jog
set_option maxRecDepth 100000

theorem backward_fn (C : Mem) (A : Option Addr) (n c : Nat) : Pur cx.P 48 [.slice A n c] C fun r C' => ∃ b, r = .func (.func 62) #[] #[.pointer (some ⟨b, 0, none⟩)] ∧ C' b = some (.cells ⟨[.slice A n c]⟩ 48 (0, 0)) := by
  refine Fn.intro (by kernel_rfl) Tryd.func48 rfl 4 rfl rfl (fun w0 => ?_)
  refine G.region rfl (fun R hR => ?_)
  refine D.box rfl rfl rfl rfl rfl rfl (fun _ => rfl) (fun b1 => ?_)
  refine D.pure rfl rfl rfl rfl rfl rfl ?_
  refine D.done [(1, [], _)] ⟨rfl, trivial⟩ (hR _ _ _ rfl ?_); clear hR R
  refine G.region rfl (fun R hR => ?_)
  iterate 2 refine D.pure rfl rfl rfl rfl rfl rfl ?_
  refine D.done [(2, [], _)] ⟨rfl, trivial⟩ (hR _ _ _ rfl ?_); clear hR R
  refine G.freeze 0 rfl (fun Cf hf hb1 => ?_)
  refine G.retN (G.dropAll (G.fin1 rfl rfl ?_))
  exact ⟨rfl, _, rfl, hb1⟩

/-- The latest ranks, from what lies behind each. -/
def latL (m : Nat) (fs : List Nat) : List Int := fs.map fun d : Nat => (m : Int) - d
theorem latL_at {m : Nat} {fs : List Nat} {u : Nat} (h : u < fs.length) : dAt (latL m fs) u = (m : Int) - hAt fs u := by
  have h1 : (latL m fs)[u]? = some ((m : Int) - hAt fs u) := by simp [latL, get_hAt h]
  exact dAt_get h1
theorem latL_set {m : Nat} {fs : List Nat} {u d : Nat} : (latL m fs).set u ((m : Int) - d) = latL m (fs.set u d) := by simp [latL, List.map_set]
theorem latL_len {m : Nat} {fs : List Nat} : (latL m fs).length = fs.length := by simp [latL]

def RankOf (A : List Arc3) (n m : Nat) (es : List Nat) (ls : List Int) : Prop :=
  es.length = n ∧ (∀ v, v < n → LongTo A v (hAt es v)) ∧ IsMost es (List.range n) m ∧ ls.length = n ∧ ∀ v, v < n → ∃ d : Nat, LongFrom A v d ∧ dAt ls v = (m : Int) - d
def RankRes (C : Mem) (l : List Rel) (r : Value) : Prop :=
  (errU l ≠ 0 ∧ r = .tuple #[nilV, nilV, .int .i64 (errU l)]) ∨ (errU l = 0 ∧ Back (arcsOf l) ∧ r = .tuple #[nilV, nilV, .int .i64 27]) ∨
  (errU l = 0 ∧ ¬ Back (arcsOf l) ∧ ∃ m es ls va vb, RankOf (arcsOf l) (unitsL l).length m es ls ∧ r = .tuple #[va, vb, .int .i64 0] ∧ Sl C 1 va (es.map encN) ∧ Sl C 1 vb (ls.map encI))

set_option maxHeartbeats 4000000 in
theorem ranks_fn (C : Mem) (v : Value) (l : List Rel) (hv : Sl C 3 v (l.map Rel.enc)) (hl : l.length ≤ 100000) (hsh : ∀ x ∈ l, x.short) : Pur cx.P 29 [v] C fun r C' => RankRes C' l r := by
  obtain ⟨A, hA⟩ : ∃ A, arcsOf l = A := ⟨_, rfl⟩
  obtain ⟨N, hN⟩ : ∃ N, unitsL l = N := ⟨_, rfl⟩
  have hok := gok_of hl
  rw [hA, hN] at hok
  refine Fn.introM (by kernel_rfl) Tryd.func29 rfl 123 rfl rfl (fun w0 => ?_)
  refine G.region rfl (fun R hR => ?_)
  refine D.pure rfl rfl rfl rfl rfl rfl ?_
  refine D.alloc rfl rfl rfl rfl rfl (fun _ => rfl) (fun b3 => ?_)
  refine D.pure rfl rfl rfl rfl rfl rfl ?_
  refine D.done [(0, [], _), (3, [], _)] ⟨rfl, rfl, trivial⟩ (hR _ _ _ rfl ?_); clear hR R
  refine G.region rfl (fun R hR => ?_)
  refine D.pure rfl rfl rfl rfl rfl rfl ?_
  refine D.gives2 (check_fn _ _ l hv hl hsh) rfl rfl rfl rfl rfl rfl rfl (fun _ => rfl) ?_
  refine D.pure rfl rfl rfl rfl rfl rfl ?_
  refine D.done [(0, [], _), (3, [], _), (5, [], _)] ⟨rfl, rfl, rfl, trivial⟩ (hR _ _ _ rfl ?_); clear hR R
  refine G.region rfl (fun R hR => ?_)
  iterate 2 refine D.pure rfl rfl rfl rfl rfl rfl ?_
  refine D.done [(0, [], _), (3, [], _), (5, [], _), (22, [], _)] ⟨rfl, rfl, rfl, rfl, trivial⟩ (hR _ _ _ rfl ?_); clear hR R
  refine G.cond rfl (fun h22 => ?_) (fun h22 => ?_)
  · skip
    have h22' : errU l ≠ 0 := by simpa using h22
    refine G.region rfl (fun R hR => ?_)
    iterate 2 refine D.pure rfl rfl rfl rfl rfl rfl ?_
    refine D.store (j := 0) rfl rfl rfl rfl rfl rfl rfl rfl rfl rfl rfl rfl ?_
    refine D.pure rfl rfl rfl rfl rfl rfl ?_
    refine D.done [(2, [], _), (3, [], _), (4, [], _)] ⟨rfl, rfl, rfl, trivial⟩ (hR _ _ _ rfl ?_); clear hR R
    refine G.retN (G.finR (res_tct (.head _) rfl rfl rfl rfl rfl rfl) ?_ endsM)
    exact ⟨rfl, .inl ⟨h22', rfl⟩⟩
  · skip
    have h22' : errU l = 0 := by simpa using h22
    refine G.region rfl (fun R hR => ?_)
    refine D.pure rfl rfl rfl rfl rfl rfl ?_
    refine D.callP (build_fn _ _ l (hv.mono (by (repeat (first | exact Mem.le.refl _ | assumption | (apply Mem.le.trans; rotate_left; assumption))))) hl) rfl rfl rfl rfl rfl rfl rfl (fun _ => rfl) (fun v25 C25 hle25 hq25 => ?_)
    have hgr : Graph C25 v25 N A := by rw [← hA, ← hN]; exact hq25
    obtain ⟨b, bm, vn, va0, vx, vs, hgp, hobj, hnames, hat, harcs, hnx, hlen, hrows⟩ := id hgr
    subst hgp
    obtain ⟨Ax, cxx, rfl, _⟩ := id hnx
    simp only [List.length_map] at hobj hnx
    refine D.alloc rfl rfl rfl rfl rfl (fun _ => rfl) (fun b6 => ?_)
    refine D.store (j := 0) rfl rfl rfl rfl rfl rfl rfl rfl rfl rfl rfl rfl ?_
    refine D.done [(3, [], _), (6, [], _)] ⟨rfl, rfl, trivial⟩ (hR _ _ _ rfl ?_); clear hR R
    refine G.region rfl (fun R hR => ?_)
    refine D.loadL (.head _) rfl rfl rfl rfl rfl rfl rfl rfl rfl ?_
    refine D.callP (sorted_fn _ _ N A hgr hok) rfl rfl rfl rfl rfl rfl rfl (fun _ => rfl) (fun v28 C28 hle28 hq28 => ?_)
    obtain ⟨vo, o, ok, rfl, hso, hol, hon, hout⟩ := hq28
    iterate 5 refine D.pure rfl rfl rfl rfl rfl rfl ?_
    refine D.done [(3, [], _), (6, [], _), (7, [], _), (8, [], _)] ⟨rfl, rfl, rfl, rfl, trivial⟩ (hR _ _ _ rfl ?_); clear hR R
    refine G.region rfl (fun R hR => ?_)
    iterate 2 refine D.pure rfl rfl rfl rfl rfl rfl ?_
    refine D.done [(3, [], _), (6, [], _), (7, [], _), (32, [], _)] ⟨rfl, rfl, rfl, rfl, trivial⟩ (hR _ _ _ rfl ?_); clear hR R
    refine G.cond rfl (fun h32 => ?_) (fun h32 => ?_)
    · skip
      have h32' : ok = false := by simpa using h32
      subst h32'
      refine G.region rfl (fun R hR => ?_)
      refine D.pure rfl rfl rfl rfl rfl rfl ?_
      refine D.store (j := 1) rfl rfl rfl rfl rfl rfl rfl rfl rfl rfl rfl rfl ?_
      refine D.pure rfl rfl rfl rfl rfl rfl ?_
      refine D.done [(2, [], _), (3, [], _), (4, [], _)] ⟨rfl, rfl, rfl, trivial⟩ (hR _ _ _ rfl ?_); clear hR R
      refine G.retN (G.finR (res_tct (.head _) rfl rfl rfl rfl rfl rfl) ?_ endsM)
      refine ⟨rfl, .inr (.inl ⟨h22', ?_, rfl⟩)⟩
      rw [hA]
      rcases hout with ⟨h, _⟩ | ⟨_, h⟩
      · cases h
      · exact h
    · skip
      have h32' : ok = true := by simpa using h32
      subst h32'
      have htl : TopoLeast A N.length o := by
        rcases hout with ⟨_, h⟩ | ⟨h, _⟩
        · exact h
        · cases h
      have hb := hok.below
      have ht := htl.1
      have hol2 : o.length = N.length := ht.1
      have hNl := hok.names
      have hAl := hok.arcs
      have hnb : ¬ Back A := fun ⟨k, w, h1, h2⟩ => htl.1.acyc hb k w h1 h2
      obtain ⟨Ao, co, rfl, _⟩ := id hso
      simp only [List.length_map] at hso ⊢
      refine G.drawT (.cut [0, 1, 3, 4] (.alt 2 (.fin [6, 5, 7]) (.alt 5 (.fin [2, 6, 7]) .stop))) [] rfl rfl (by kernel_rfl) (fun R hB hR hH => ?_)
      refine G.share2 hR (fun b35 b38 => [(2, [], qS b35 o.length o.length), (3, [], .pointer (some ⟨b3, 0, none⟩)), (6, [], .pointer (some ⟨b6, 0, none⟩)), (7, [], .slice Ao o.length co)]) (fun b35 b38 => [.obj b3 (.cells ⟨[qS b38 o.length o.length]⟩ 48 (0, 0)), .arr (qS b35 o.length o.length) 3 1 o.length (zrow [.int .i64 0] o.length), .arr (qS b38 o.length o.length) 3 1 o.length (zrow [.int .i64 0] o.length), .obj b6 (.cells ⟨[.pointer (some ⟨b, 0, none⟩)]⟩ 69 (0, 0))]) (fun hc => ?_) (fun b35 b38 => ?_)
      · skip
        iterate 4 refine D.pure rfl rfl rfl rfl rfl rfl ?_
        refine D.fork hH rfl ⟨?_, ?_, trivial⟩
        · skip
          refine D.makeArr rfl rfl rfl rfl rfl rfl rfl rfl rfl (Nat.le_refl _) (by show 8 * o.length ≤ 281474976710656; omega) (by simp only [maxLen]; omega) (fun _ => rfl) (fun b35 => ?_)
          refine D.pure rfl rfl rfl rfl rfl rfl ?_
          refine D.makeArr rfl rfl rfl rfl rfl rfl rfl rfl rfl (Nat.le_refl _) (by show 8 * o.length ≤ 281474976710656; omega) (by simp only [maxLen]; omega) (fun _ => rfl) (fun b38 => ?_)
          refine D.store (j := 3) rfl rfl rfl rfl rfl rfl rfl rfl rfl rfl rfl rfl ?_
          exact D.done [(2, [], _), (3, [], _), (6, [], _), (7, [], _)] ⟨rfl, rfl, rfl, rfl, trivial⟩ (hR _ _ _ rfl (G.perm _ (by first | exact List.Perm.refl _ | exact (List.Perm.swap _ _ _).cons _) (hc b35 b38)))
        · skip
          refine D.makeArr rfl rfl rfl rfl rfl rfl rfl rfl rfl (Nat.le_refl _) (by show 8 * o.length ≤ 281474976710656; omega) (by simp only [maxLen]; omega) (fun _ => rfl) (fun b38 => ?_)
          refine D.makeArr rfl rfl rfl rfl rfl rfl rfl rfl rfl (Nat.le_refl _) (by show 8 * o.length ≤ 281474976710656; omega) (by simp only [maxLen]; omega) (fun _ => rfl) (fun b35 => ?_)
          refine D.pure rfl rfl rfl rfl rfl rfl ?_
          refine D.store (j := 3) rfl rfl rfl rfl rfl rfl rfl rfl rfl rfl rfl rfl ?_
          exact D.done [(2, [], _), (3, [], _), (6, [], _), (7, [], _)] ⟨rfl, rfl, rfl, rfl, trivial⟩ (hR _ _ _ rfl (G.perm _ (by first | exact List.Perm.refl _ | exact (List.Perm.swap _ _ _).cons _) (hc b35 b38)))
      clear hR hH hB R
      refine G.region rfl (fun R hR => ?_)
      refine D.pure rfl rfl rfl rfl rfl rfl ?_
      refine D.done [(2, [], _), (3, [], _), (6, [], _), (7, [], _), (9, [], _)] ⟨rfl, rfl, rfl, rfl, rfl, trivial⟩ (hR _ _ _ rfl ?_); clear hR R
      refine G.region rfl (fun R hR => ?_)
      iterate 3 refine D.pure rfl rfl rfl rfl rfl rfl ?_
      refine D.done [(2, [], _), (3, [], _), (6, [], _), (7, [], _), (9, [], _), (39, [], _), (40, [], _), (41, [], _)] ⟨rfl, rfl, rfl, rfl, rfl, rfl, rfl, rfl, trivial⟩ (hR _ _ _ rfl ?_); clear hR R
      have hac : Acyc A := ht.acyc hb
      refine G.perm (L' := [.arr (qS b35 o.length o.length) 3 1 o.length ((List.replicate N.length 0).map intN), .obj b6 (.cells ⟨[.pointer (some ⟨b, 0, none⟩)]⟩ 69 (0, 0)), .obj b3 (.cells ⟨[qS b38 o.length o.length]⟩ 48 (0, 0)), .arr (qS b38 o.length o.length) 3 1 o.length ((List.replicate N.length 0).map intN)]) (by rw [← hol2, ← nats_rep]; (refine (ent_perm (j := 1) rfl).trans (List.Perm.cons _ ?_); refine (ent_perm (j := 2) rfl).trans (List.Perm.cons _ ?_); refine (ent_perm (j := 0) rfl).trans (List.Perm.cons _ ?_); refine (ent_perm (j := 0) rfl).trans (List.Perm.cons _ ?_); exact List.Perm.refl _)) ?_
      refine G.loop (fun fr C' L' μ => ∃ (k m : Nat) (es : List Nat), (k ≤ o.length ∧ RankS A N.length (fun b => b.lo ∈ o.take k) es ∧ IsMost es (o.take k) m) ∧ fr = [(2, [], qS b35 o.length o.length), (3, [], .pointer (some ⟨b3, 0, none⟩)), (6, [], .pointer (some ⟨b6, 0, none⟩)), (7, [], .slice Ao o.length co), (9, [], .int .i64 m), (39, [], .slice Ao o.length co), (40, [], .int .i64 o.length), (41, [], .int .i64 k)] ∧ L' = [.arr (qS b35 o.length o.length) 3 1 o.length (es.map intN), .obj b6 (.cells ⟨[.pointer (some ⟨b, 0, none⟩)]⟩ 69 (0, 0)), .obj b3 (.cells ⟨[qS b38 o.length o.length]⟩ 48 (0, 0)), .arr (qS b38 o.length o.length) 3 1 o.length ((List.replicate N.length 0).map intN)] ∧ μ = o.length - k) (fr' := [(2, [], _), (3, [], _), (6, [], _), (7, [], _), (9, [], _), (39, [], _), (40, [], _), (41, [], _)]) ⟨rfl, rfl, rfl, rfl, rfl, rfl, rfl, rfl, trivial⟩ ⟨0, 0, _, ⟨Nat.zero_le _, RankS.start.mono (fun a _ h => by simp at h), fun x hx => by simp at hx, .inl rfl⟩, rfl, rfl, rfl⟩ (fun fr C0' L0' m hle0 hI => ?_)
      obtain ⟨k, m, es, ⟨hk, hrs, hmo⟩, rfl, rfl, rfl⟩ := hI
      refine G.region rfl (fun R hR => ?_)
      refine D.pure rfl rfl rfl rfl rfl rfl ?_
      refine D.done [(2, [], _), (3, [], _), (6, [], _), (7, [], _), (9, [], _), (39, [], _), (40, [], _), (41, [], _), (42, [], _)] ⟨rfl, rfl, rfl, rfl, rfl, rfl, rfl, rfl, rfl, trivial⟩ (hR _ _ _ rfl ?_); clear hR R
      refine G.cond rfl (fun h42 => ?_) (fun h42 => ?_)
      · skip
        simp only [decide_eq_true_eq] at h42
        have hkl : k < o.length := by omega
        obtain ⟨i, hi⟩ : ∃ i, o[k]? = some i := ⟨o[k], List.getElem?_eq_getElem hkl⟩
        have hin : i < N.length := hon i (List.mem_of_getElem? hi)
        have hro : (o.map encN)[k]? = some (encN i) := by rw [List.getElem?_map, hi]; rfl
        obtain ⟨v, hv2⟩ : ∃ v, vs[i]? = some v := ⟨vs[i]'(by omega), List.getElem?_eq_getElem (by omega)⟩
        have hvr := hrows i v hv2
        obtain ⟨Av, cv, rfl, _⟩ := id hvr
        simp only [List.length_map] at hvr hv2
        have hnl : (nexts A i).length ≤ A.length := List.length_filter_le _ _
        have hrv : (vs.map fun v => [v])[i]? = some [Value.slice Av (nexts A i).length cv] := by rw [List.getElem?_map, hv2]; rfl
        refine G.region rfl (fun R hR => ?_)
        refine D.index0 (hso.mono (by (repeat (first | exact Mem.le.refl _ | assumption | (apply Mem.le.trans; rotate_left; assumption))))) rfl rfl rfl rfl rfl rfl rfl rfl rfl rfl (by omega) hro (fun _ => rfl) (fun p43 hp43 => ?_)
        refine D.loadP0 hp43 rfl rfl rfl rfl rfl rfl rfl rfl ?_
        refine D.pure rfl rfl rfl rfl rfl rfl ?_
        refine D.done [(2, [], _), (3, [], _), (6, [], _), (7, [], _), (9, [], _), (11, [], _), (39, [], _), (40, [], _), (41, [], _)] ⟨rfl, rfl, rfl, rfl, rfl, rfl, rfl, rfl, rfl, trivial⟩ (hR _ _ _ rfl ?_); clear hR R
        refine G.region rfl (fun R hR => ?_)
        refine D.loadL (.tail _ (.head _)) rfl rfl rfl rfl rfl rfl rfl rfl rfl ?_
        iterate 2 refine D.pure rfl rfl rfl rfl rfl rfl ?_
        refine D.loadP0 (PtrTo.block (Mem.get hobj (by (repeat (first | exact Mem.le.refl _ | assumption | (apply Mem.le.trans; rotate_left; assumption))))) _) rfl rfl rfl rfl rfl rfl rfl rfl ?_
        refine D.pure rfl rfl rfl rfl rfl rfl ?_
        refine D.index0 (hnx.mono (by (repeat (first | exact Mem.le.refl _ | assumption | (apply Mem.le.trans; rotate_left; assumption))))) rfl rfl rfl rfl rfl rfl rfl rfl rfl rfl (by omega) hrv (fun _ => rfl) (fun p50 hp50 => ?_)
        refine D.loadP0 hp50 rfl rfl rfl rfl rfl rfl rfl rfl ?_
        iterate 2 refine D.pure rfl rfl rfl rfl rfl rfl ?_
        refine D.done [(2, [], _), (3, [], _), (6, [], _), (7, [], _), (9, [], _), (11, [], _), (39, [], _), (40, [], _), (41, [], _), (51, [], _), (52, [], _), (53, [], _)] ⟨rfl, rfl, rfl, rfl, rfl, rfl, rfl, rfl, rfl, rfl, rfl, rfl, trivial⟩ (hR _ _ _ rfl ?_); clear hR R
        refine G.loop (fun fr C' L' μ => ∃ (q : Nat) (es2 : List Nat), (q ≤ (nexts A i).length ∧ RankS A N.length (fun b => b.lo ∈ o.take k ∨ b ∈ (nexts A i).take q) es2 ∧ ∀ x ∈ o.take (k + 1), hAt es2 x = hAt es x) ∧ fr = [(2, [], qS b35 o.length o.length), (3, [], .pointer (some ⟨b3, 0, none⟩)), (6, [], .pointer (some ⟨b6, 0, none⟩)), (7, [], .slice Ao o.length co), (9, [], .int .i64 m), (11, [], .int .i64 i), (39, [], .slice Ao o.length co), (40, [], .int .i64 o.length), (41, [], .int .i64 k), (51, [], .slice Av (nexts A i).length cv), (52, [], .int .i64 (nexts A i).length), (53, [], .int .i64 q)] ∧ L' = [.arr (qS b35 o.length o.length) 3 1 o.length (es2.map intN), .obj b6 (.cells ⟨[.pointer (some ⟨b, 0, none⟩)]⟩ 69 (0, 0)), .obj b3 (.cells ⟨[qS b38 o.length o.length]⟩ 48 (0, 0)), .arr (qS b38 o.length o.length) 3 1 o.length ((List.replicate N.length 0).map intN)] ∧ μ = (nexts A i).length - q) (fr' := [(2, [], _), (3, [], _), (6, [], _), (7, [], _), (9, [], _), (11, [], _), (39, [], _), (40, [], _), (41, [], _), (51, [], _), (52, [], _), (53, [], _)]) ⟨rfl, rfl, rfl, rfl, rfl, rfl, rfl, rfl, rfl, rfl, rfl, rfl, trivial⟩ ⟨0, es, ⟨Nat.zero_le _, hrs.mono (fun b _ h => h.elim id (fun h2 => by simp at h2)), fun x _ => rfl⟩, rfl, rfl, rfl⟩ (fun fr C1' L1' m hle1 hI => ?_)
        obtain ⟨q, es2, ⟨hq, hrs2, hsame⟩, rfl, rfl, rfl⟩ := hI
        have hes2 : es2.length = o.length := hrs2.len.trans hol2.symm
        have hbd : ∀ x, x < N.length → hAt es2 x ≤ N.length := fun x hx => let ⟨u, hu⟩ := hrs2.sound x hx; acyc_short hac hb hu
        have hbi := hbd i hin
        refine G.region rfl (fun R hR => ?_)
        refine D.pure rfl rfl rfl rfl rfl rfl ?_
        refine D.done [(2, [], _), (3, [], _), (6, [], _), (7, [], _), (9, [], _), (11, [], _), (39, [], _), (40, [], _), (41, [], _), (51, [], _), (52, [], _), (53, [], _), (54, [], _)] ⟨rfl, rfl, rfl, rfl, rfl, rfl, rfl, rfl, rfl, rfl, rfl, rfl, rfl, trivial⟩ (hR _ _ _ rfl ?_); clear hR R
        refine G.cond rfl (fun h54 => ?_) (fun h54 => ?_)
        · skip
          simp only [decide_eq_true_eq] at h54
          have hql : q < (nexts A i).length := by omega
          obtain ⟨a, ha⟩ : ∃ a, (nexts A i)[q]? = some a := ⟨(nexts A i)[q], List.getElem?_eq_getElem hql⟩
          have hamem : a ∈ A := (mem_nexts.1 (List.mem_of_getElem? ha)).1
          obtain ⟨hlo, hup⟩ := hb a hamem
          have hra : ((nexts A i).map Arc3.enc)[q]? = some (Arc3.enc a) := by rw [List.getElem?_map, ha]; rfl
          have hst := fwd_step ht hb hi ha hrs2
          refine G.region rfl (fun R hR => ?_)
          refine D.index0 (hvr.mono (by (repeat (first | exact Mem.le.refl _ | assumption | (apply Mem.le.trans; rotate_left; assumption))))) rfl rfl rfl rfl rfl rfl rfl rfl rfl rfl (by omega) hra (fun _ => rfl) (fun p55 hp55 => ?_)
          refine D.loadP0 hp55 rfl rfl rfl rfl rfl rfl rfl rfl ?_
          refine D.alloc rfl rfl rfl rfl rfl (fun _ => rfl) (fun b13 => ?_)
          refine D.store (j := 0) rfl rfl rfl rfl rfl rfl rfl rfl rfl rfl rfl rfl ?_
          refine D.done [(2, [], _), (3, [], _), (6, [], _), (7, [], _), (9, [], _), (11, [], _), (13, [], _), (39, [], _), (40, [], _), (41, [], _), (51, [], _), (52, [], _), (53, [], _)] ⟨rfl, rfl, rfl, rfl, rfl, rfl, rfl, rfl, rfl, rfl, rfl, rfl, rfl, trivial⟩ (hR _ _ _ rfl ?_); clear hR R
          refine G.draw [0, 1, 2, 3, 4, 5, 6, 7, 8, 9, 10, 11, 12, 13, 14, 15] [] rfl (by kernel_rfl) (fun R hB hR => ?_)
          iterate 2 refine D.pure rfl rfl rfl rfl rfl rfl ?_
          refine D.loadL (.head _) rfl rfl rfl rfl rfl rfl rfl rfl rfl ?_
          iterate 2 refine D.pure rfl rfl rfl rfl rfl rfl ?_
          refine D.loadL (.head _) rfl rfl rfl rfl rfl rfl rfl rfl rfl ?_
          refine D.indexS (a.up) rfl rfl rfl rfl rfl rfl rfl rfl rfl rfl (fun _ => ⟨by omega, by omega, (by simp)⟩) rfl rfl ?_
          refine D.loadArr (.tail _ (.head _)) rfl rfl rfl rfl rfl rfl (fun _ => (by rw [nats_at (by omega)]; rfl)) rfl rfl ?_
          iterate 2 refine D.pure rfl rfl rfl rfl rfl rfl ?_
          refine D.indexS (i) rfl rfl rfl rfl rfl rfl rfl rfl rfl rfl (fun _ => ⟨by omega, by omega, (by simp)⟩) rfl rfl ?_
          refine D.loadArr (.tail _ (.head _)) rfl rfl rfl rfl rfl rfl (fun _ => (by rw [nats_at (by omega)]; rfl)) rfl rfl ?_
          refine D.i64 _ rfl rfl rfl rfl rfl (by omega) (by omega) rfl rfl ?_
          refine D.max (((max (hAt es2 a.up) (hAt es2 i + 1) : Nat) : Int)) rfl rfl rfl rfl rfl rfl (by omega) rfl rfl ?_
          refine D.indexS (a.up) rfl rfl rfl rfl rfl rfl rfl rfl rfl rfl (fun _ => ⟨by omega, by omega, (by simp)⟩) rfl rfl ?_
          refine D.storeArr (j := 1) rfl rfl rfl rfl rfl rfl rfl rfl rfl rfl rfl (by simp; omega) ?_
          refine D.done [(2, [], _), (3, [], _), (6, [], _), (7, [], _), (9, [], _), (11, [], _), (39, [], _), (40, [], _), (41, [], _), (51, [], _), (52, [], _), (53, [], _)] ⟨rfl, rfl, rfl, rfl, rfl, rfl, rfl, rfl, rfl, rfl, rfl, rfl, trivial⟩ (hR _ _ _ rfl ?_); clear hR hB R
          refine G.region rfl (fun R hR => ?_)
          refine D.i64 _ rfl rfl rfl rfl rfl (by omega) (by omega) rfl rfl ?_
          refine D.pure rfl rfl rfl rfl rfl rfl ?_
          refine D.done [(2, [], _), (3, [], _), (6, [], _), (7, [], _), (9, [], _), (11, [], _), (39, [], _), (40, [], _), (41, [], _), (51, [], _), (52, [], _), (53, [], _)] ⟨rfl, rfl, rfl, rfl, rfl, rfl, rfl, rfl, rfl, rfl, rfl, rfl, trivial⟩ (hR _ _ _ rfl ?_); clear hR R
          refine G.dropE 1 rfl ?_
          refine G.eqL (L' := [.arr (qS b35 o.length o.length) 3 1 o.length ((es2.set a.up (max (hAt es2 a.up) (hAt es2 i + 1))).map intN), .obj b6 (.cells ⟨[.pointer (some ⟨b, 0, none⟩)]⟩ 69 (0, 0)), .obj b3 (.cells ⟨[qS b38 o.length o.length]⟩ 48 (0, 0)), .arr (qS b38 o.length o.length) 3 1 o.length ((List.replicate N.length 0).map intN)]) (by rw [← nats_set (by omega)]; rfl) ?_
          refine G.again (m' := (nexts A i).length - (q + 1)) (by omega) (by (repeat (first | exact Mem.le.refl _ | assumption | (apply Mem.le.trans; rotate_left; assumption)))) (fr' := [(2, [], _), (3, [], _), (6, [], _), (7, [], _), (9, [], _), (11, [], _), (39, [], _), (40, [], _), (41, [], _), (51, [], _), (52, [], _), (53, [], _)]) ⟨rfl, rfl, rfl, rfl, rfl, rfl, rfl, rfl, rfl, rfl, rfl, rfl, trivial⟩ ⟨q + 1, es2.set a.up (max (hAt es2 a.up) (hAt es2 i + 1)), ⟨by omega, hst.1, fun x hx => by
            have hne : x ≠ a.up := fun e => hst.2 (e ▸ hx)
            rw [hAt_set (by omega), if_neg hne]; exact hsame x hx⟩, rfl, rfl, rfl⟩
        · skip
          simp only [decide_eq_false_iff_not] at h54
          have hql : q = (nexts A i).length := by omega
          subst hql
          rw [List.take_length] at hrs2
          have hrs3 := fwd_next hi hrs2
          have hmo2 : IsMost es2 (o.take (k + 1)) (max m (hAt es2 i)) := by
            rw [List.take_add_one, hi] at hsame ⊢
            exact (hmo.cong (fun x hx => hsame x (List.mem_append_left _ hx))).snoc
          refine G.region rfl (fun R hR => ?_)
          iterate 3 refine D.pure rfl rfl rfl rfl rfl rfl ?_
          refine D.indexS (i) rfl rfl rfl rfl rfl rfl rfl rfl rfl rfl (fun _ => ⟨by omega, by omega, (by simp)⟩) rfl rfl ?_
          refine D.loadArr (.head _) rfl rfl rfl rfl rfl rfl (fun _ => (by rw [nats_at (by omega)]; rfl)) rfl rfl ?_
          refine D.max (((max m (hAt es2 i) : Nat) : Int)) rfl rfl rfl rfl rfl rfl (by omega) rfl rfl ?_
          refine D.pure rfl rfl rfl rfl rfl rfl ?_
          refine D.done [(2, [], _), (3, [], _), (6, [], _), (7, [], _), (9, [], _), (39, [], _), (40, [], _), (41, [], _)] ⟨rfl, rfl, rfl, rfl, rfl, rfl, rfl, rfl, trivial⟩ (hR _ _ _ rfl ?_); clear hR R
          refine G.region rfl (fun R hR => ?_)
          refine D.i64 _ rfl rfl rfl rfl rfl (by omega) (by omega) rfl rfl ?_
          refine D.pure rfl rfl rfl rfl rfl rfl ?_
          refine D.done [(2, [], _), (3, [], _), (6, [], _), (7, [], _), (9, [], _), (39, [], _), (40, [], _), (41, [], _)] ⟨rfl, rfl, rfl, rfl, rfl, rfl, rfl, rfl, trivial⟩ (hR _ _ _ rfl ?_); clear hR R
          refine G.again (m' := o.length - (k + 1)) (by omega) (by (repeat (first | exact Mem.le.refl _ | assumption | (apply Mem.le.trans; rotate_left; assumption)))) (fr' := [(2, [], _), (3, [], _), (6, [], _), (7, [], _), (9, [], _), (39, [], _), (40, [], _), (41, [], _)]) ⟨rfl, rfl, rfl, rfl, rfl, rfl, rfl, rfl, trivial⟩ ⟨k + 1, max m (hAt es2 i), es2, ⟨by omega, hrs3, hmo2⟩, rfl, rfl, rfl⟩
      · skip
        simp only [decide_eq_false_iff_not] at h42
        have hkl : k = o.length := by omega
        subst hkl
        rw [List.take_length] at hrs hmo
        have hes : es.length = o.length := hrs.len.trans hol2.symm
        have hmN : m ≤ N.length := by
          rcases hmo.2 with h | ⟨x, hx, h⟩
          · omega
          · obtain ⟨u, hu⟩ := hrs.sound x (ht.2.2.1 x hx)
            rw [← h]; exact acyc_short hac hb hu
        refine G.region rfl (fun R hR => ?_)
        refine D.loadL (.tail _ (.tail _ (.head _))) rfl rfl rfl rfl rfl rfl rfl rfl rfl ?_
        iterate 2 refine D.pure rfl rfl rfl rfl rfl rfl ?_
        refine D.done [(2, [], _), (3, [], _), (6, [], _), (7, [], _), (9, [], _), (81, [], _), (82, [], _)] ⟨rfl, rfl, rfl, rfl, rfl, rfl, rfl, trivial⟩ (hR _ _ _ rfl ?_); clear hR R
        refine G.loop (fun fr C' L' μ => ∃ (k2 : Nat) (xs : List Nat), (k2 ≤ o.length ∧ xs.length = o.length ∧ ∀ j, j < k2 → hAt xs j = m) ∧ fr = [(2, [], qS b35 o.length o.length), (3, [], .pointer (some ⟨b3, 0, none⟩)), (6, [], .pointer (some ⟨b6, 0, none⟩)), (7, [], .slice Ao o.length co), (9, [], .int .i64 m), (81, [], .int .i64 o.length), (82, [], .int .i64 k2)] ∧ L' = [.arr (qS b35 o.length o.length) 3 1 o.length (es.map intN), .obj b6 (.cells ⟨[.pointer (some ⟨b, 0, none⟩)]⟩ 69 (0, 0)), .obj b3 (.cells ⟨[qS b38 o.length o.length]⟩ 48 (0, 0)), .arr (qS b38 o.length o.length) 3 1 o.length (xs.map intN)] ∧ μ = o.length - k2) (fr' := [(2, [], _), (3, [], _), (6, [], _), (7, [], _), (9, [], _), (81, [], _), (82, [], _)]) ⟨rfl, rfl, rfl, rfl, rfl, rfl, rfl, trivial⟩ ⟨0, _, ⟨Nat.zero_le _, by rw [List.length_replicate]; exact hol2.symm, fun j h => by omega⟩, rfl, rfl, rfl⟩ (fun fr C2' L2' m hle2 hI => ?_)
        obtain ⟨k2, xs, ⟨hk2, hxl, hxs⟩, rfl, rfl, rfl⟩ := hI
        refine G.region rfl (fun R hR => ?_)
        refine D.pure rfl rfl rfl rfl rfl rfl ?_
        refine D.done [(2, [], _), (3, [], _), (6, [], _), (7, [], _), (9, [], _), (81, [], _), (82, [], _), (83, [], _)] ⟨rfl, rfl, rfl, rfl, rfl, rfl, rfl, rfl, trivial⟩ (hR _ _ _ rfl ?_); clear hR R
        refine G.cond rfl (fun h83 => ?_) (fun h83 => ?_)
        · skip
          simp only [decide_eq_true_eq] at h83
          have hkl2 : k2 < o.length := by omega
          refine G.region rfl (fun R hR => ?_)
          iterate 2 refine D.pure rfl rfl rfl rfl rfl rfl ?_
          refine D.done [(2, [], _), (3, [], _), (6, [], _), (7, [], _), (9, [], _), (14, [], _), (81, [], _), (82, [], _)] ⟨rfl, rfl, rfl, rfl, rfl, rfl, rfl, rfl, trivial⟩ (hR _ _ _ rfl ?_); clear hR R
          refine G.region rfl (fun R hR => ?_)
          refine D.loadL (.tail _ (.tail _ (.head _))) rfl rfl rfl rfl rfl rfl rfl rfl rfl ?_
          iterate 2 refine D.pure rfl rfl rfl rfl rfl rfl ?_
          refine D.indexS (k2) rfl rfl rfl rfl rfl rfl rfl rfl rfl rfl (fun _ => ⟨by omega, by omega, (by simp)⟩) rfl rfl ?_
          refine D.storeArr (j := 3) rfl rfl rfl rfl rfl rfl rfl rfl rfl rfl rfl (by simp; omega) ?_
          refine D.done [(2, [], _), (3, [], _), (6, [], _), (7, [], _), (9, [], _), (81, [], _), (82, [], _)] ⟨rfl, rfl, rfl, rfl, rfl, rfl, rfl, trivial⟩ (hR _ _ _ rfl ?_); clear hR R
          refine G.region rfl (fun R hR => ?_)
          refine D.i64 _ rfl rfl rfl rfl rfl (by omega) (by omega) rfl rfl ?_
          refine D.pure rfl rfl rfl rfl rfl rfl ?_
          refine D.done [(2, [], _), (3, [], _), (6, [], _), (7, [], _), (9, [], _), (81, [], _), (82, [], _)] ⟨rfl, rfl, rfl, rfl, rfl, rfl, rfl, trivial⟩ (hR _ _ _ rfl ?_); clear hR R
          refine G.perm (L' := [.arr (qS b35 o.length o.length) 3 1 o.length (es.map intN), .obj b6 (.cells ⟨[.pointer (some ⟨b, 0, none⟩)]⟩ 69 (0, 0)), .obj b3 (.cells ⟨[qS b38 o.length o.length]⟩ 48 (0, 0)), .arr (qS b38 o.length o.length) 3 1 o.length (storeInto (xs.map intN) [intN m] k2)]) (by (refine (ent_perm (j := 1) rfl).trans (List.Perm.cons _ ?_); refine (ent_perm (j := 1) rfl).trans (List.Perm.cons _ ?_); refine (ent_perm (j := 1) rfl).trans (List.Perm.cons _ ?_); refine (ent_perm (j := 0) rfl).trans (List.Perm.cons _ ?_); exact List.Perm.refl _)) ?_
          refine G.eqL (L' := [.arr (qS b35 o.length o.length) 3 1 o.length (es.map intN), .obj b6 (.cells ⟨[.pointer (some ⟨b, 0, none⟩)]⟩ 69 (0, 0)), .obj b3 (.cells ⟨[qS b38 o.length o.length]⟩ 48 (0, 0)), .arr (qS b38 o.length o.length) 3 1 o.length ((xs.set k2 m).map intN)]) (by rw [← nats_set (by omega)]) ?_
          refine G.again (m' := o.length - (k2 + 1)) (by omega) (by (repeat (first | exact Mem.le.refl _ | assumption | (apply Mem.le.trans; rotate_left; assumption)))) (fr' := [(2, [], _), (3, [], _), (6, [], _), (7, [], _), (9, [], _), (81, [], _), (82, [], _)]) ⟨rfl, rfl, rfl, rfl, rfl, rfl, rfl, trivial⟩ ⟨k2 + 1, xs.set k2 m, ⟨by omega, by rw [List.length_set]; exact hxl, fun j hj => by
            rw [hAt_set (by omega)]
            by_cases e : j = k2
            · rw [if_pos e]
            · rw [if_neg e]; exact hxs j (by omega)⟩, rfl, rfl, rfl⟩
        · skip
          simp only [decide_eq_false_iff_not] at h83
          have hkl2 : k2 = o.length := by omega
          subst hkl2
          have hxe : xs.map intN = (latL m (List.replicate N.length 0)).map intV := by
            refine List.ext_getElem (by simp [latL, hxl, hol2]) (fun j h1 h2 => ?_)
            have h3 := hxs j (by simpa [hxl] using h1)
            have h4 : j < xs.length := by simpa using h1
            have h5 : xs[j] = m := by rw [← h3, hAt_get (List.getElem?_eq_getElem h4)]
            simp [latL, h5, intN, intV]
          refine G.region rfl (fun R hR => ?_)
          refine D.pure rfl rfl rfl rfl rfl rfl ?_
          refine D.callP (backward_fn _ Ao o.length co) rfl rfl rfl rfl rfl rfl rfl (fun _ => rfl) (fun v91 C91 hle91 hq91 => ?_)
          refine D.done [(2, [], _), (3, [], _), (6, [], _), (91, [], _)] ⟨rfl, rfl, rfl, rfl, trivial⟩ (hR _ _ _ rfl ?_); clear hR R
          obtain ⟨bb, rfl, hbb⟩ := hq91
          refine G.eqL (L' := [.arr (qS b35 o.length o.length) 3 1 o.length (es.map intN), .obj b6 (.cells ⟨[.pointer (some ⟨b, 0, none⟩)]⟩ 69 (0, 0)), .obj b3 (.cells ⟨[qS b38 o.length o.length]⟩ 48 (0, 0)), .arr (qS b38 o.length o.length) 3 1 o.length ((latL m (List.replicate N.length 0)).map intV)]) (by rw [hxe]) ?_
          refine G.rangeFunc rfl rfl rfl (by kernel_rfl) (backward_iter _ bb _ _ o hbb (hso.mono (by (repeat (first | exact Mem.le.refl _ | assumption | (apply Mem.le.trans; rotate_left; assumption))))) (by omega)) (fun j L' => ∃ (fs : List Nat), (RankS (A.map rev3) N.length (fun b => b.up ∈ o.drop (o.length - j)) fs) ∧ L' = [.arr (qS b35 o.length o.length) 3 1 o.length (es.map intN), .obj b6 (.cells ⟨[.pointer (some ⟨b, 0, none⟩)]⟩ 69 (0, 0)), .obj b3 (.cells ⟨[qS b38 o.length o.length]⟩ 48 (0, 0)), .arr (qS b38 o.length o.length) 3 1 o.length ((latL m fs).map intV)]) ⟨_, RankS.start.mono (fun a _ h => by simp at h), rfl⟩ rfl (fun _ _ => rfl) (fun u v => [(3, [], .pointer (some ⟨b3, 0, none⟩)), (6, [], .pointer (some ⟨b6, 0, none⟩)), (16, [], v)]) (fun l u v W1 L' => ?_) (fun l j u v L' W1 hI hj => ?_) (fun bD L' hI => ?_)
          · skip
            refine G.region rfl (fun R hR => ?_)
            refine D.pure rfl rfl rfl rfl rfl rfl ?_
            refine D.done [(3, [], _), (6, [], _), (16, [], _)] ⟨rfl, rfl, rfl, trivial⟩ (hR _ _ _ rfl ?_); clear hR R
            exact G.assignEnd ⟨rfl, rfl, rfl, trivial⟩
          · skip
            obtain ⟨fs, hrf, rfl⟩ := hI
            have hjl : j < o.length := by have := (List.getElem?_eq_some_iff.1 hj).1; rwa [backV_len] at this
            rw [backV_at hjl] at hj
            cases hj
            obtain ⟨i, hi0⟩ : ∃ i, o.getD (o.length - 1 - j) 0 = i := ⟨_, rfl⟩
            rw [hi0]
            have hi : o[o.length - 1 - j]? = some i := by
              rw [← hi0, List.getD_eq_getElem?_getD, List.getElem?_eq_getElem (by omega)]; rfl
            have hin : i < N.length := hon i (List.mem_of_getElem? hi)
            obtain ⟨v, hv2⟩ : ∃ v, vs[i]? = some v := ⟨vs[i]'(by omega), List.getElem?_eq_getElem (by omega)⟩
            have hvr := hrows i v hv2
            obtain ⟨Av, cv, rfl, _⟩ := id hvr
            simp only [List.length_map] at hvr hv2
            have hnl : (nexts A i).length ≤ A.length := List.length_filter_le _ _
            have hrv : (vs.map fun v => [v])[i]? = some [Value.slice Av (nexts A i).length cv] := by rw [List.getElem?_map, hv2]; rfl
            refine G.region rfl (fun R hR => ?_)
            refine D.loadL (.tail _ (.head _)) rfl rfl rfl rfl rfl rfl rfl rfl rfl ?_
            iterate 2 refine D.pure rfl rfl rfl rfl rfl rfl ?_
            refine D.loadP0 (PtrTo.block (Mem.get hobj (by (repeat (first | exact Mem.le.refl _ | assumption | (apply Mem.le.trans; rotate_left; assumption))))) _) rfl rfl rfl rfl rfl rfl rfl rfl ?_
            refine D.pure rfl rfl rfl rfl rfl rfl ?_
            refine D.index0 (hnx.mono (by (repeat (first | exact Mem.le.refl _ | assumption | (apply Mem.le.trans; rotate_left; assumption))))) rfl rfl rfl rfl rfl rfl rfl rfl rfl rfl (by omega) hrv (fun _ => rfl) (fun p99 hp99 => ?_)
            refine D.loadP0 hp99 rfl rfl rfl rfl rfl rfl rfl rfl ?_
            iterate 2 refine D.pure rfl rfl rfl rfl rfl rfl ?_
            refine D.done [(3, [], _), (16, [], _), (100, [], _), (101, [], _), (102, [], _)] ⟨rfl, rfl, rfl, rfl, rfl, trivial⟩ (hR _ _ _ rfl ?_); clear hR R
            refine G.loop (fun fr C' L' μ => ∃ (q : Nat) (fs2 : List Nat), (q ≤ (nexts A i).length ∧ RankS (A.map rev3) N.length (fun b => b.up ∈ o.drop (o.length - 1 - j + 1) ∨ b ∈ ((nexts A i).take q).map rev3) fs2) ∧ fr = [(3, [], .pointer (some ⟨b3, 0, none⟩)), (16, [], .int .i64 i), (100, [], .slice Av (nexts A i).length cv), (101, [], .int .i64 (nexts A i).length), (102, [], .int .i64 q)] ∧ L' = [.arr (qS b35 o.length o.length) 3 1 o.length (es.map intN), .obj b6 (.cells ⟨[.pointer (some ⟨b, 0, none⟩)]⟩ 69 (0, 0)), .obj b3 (.cells ⟨[qS b38 o.length o.length]⟩ 48 (0, 0)), .arr (qS b38 o.length o.length) 3 1 o.length ((latL m fs2).map intV)] ∧ μ = (nexts A i).length - q) (fr' := [(3, [], _), (16, [], _), (100, [], _), (101, [], _), (102, [], _)]) ⟨rfl, rfl, rfl, rfl, rfl, trivial⟩ ⟨0, fs, ⟨Nat.zero_le _, hrf.mono (fun b _ h => by
              rw [show o.length - j = o.length - 1 - j + 1 by omega]
              exact h.elim id (fun h2 => by simp at h2))⟩, rfl, rfl, rfl⟩ (fun fr C3' L3' m hle3 hI => ?_)
            obtain ⟨q, fs2, ⟨hq, hrf2⟩, rfl, rfl, rfl⟩ := hI
            have hfs2 : fs2.length = o.length := hrf2.len.trans hol2.symm
            have hbd : ∀ x, x < N.length → hAt fs2 x ≤ N.length := fun x hx => by
              obtain ⟨u, hu⟩ := hrf2.sound x hx
              have h1 := walk_rev hu
              rw [rev_rev] at h1
              exact acyc_short hac hb h1
            have hbi := hbd i hin
            refine G.region rfl (fun R hR => ?_)
            refine D.pure rfl rfl rfl rfl rfl rfl ?_
            refine D.done [(3, [], _), (16, [], _), (100, [], _), (101, [], _), (102, [], _), (103, [], _)] ⟨rfl, rfl, rfl, rfl, rfl, rfl, trivial⟩ (hR _ _ _ rfl ?_); clear hR R
            refine G.cond rfl (fun h103 => ?_) (fun h103 => ?_)
            · skip
              simp only [decide_eq_true_eq] at h103
              have hql : q < (nexts A i).length := by omega
              obtain ⟨a, ha⟩ : ∃ a, (nexts A i)[q]? = some a := ⟨(nexts A i)[q], List.getElem?_eq_getElem hql⟩
              have hamem : a ∈ A := (mem_nexts.1 (List.mem_of_getElem? ha)).1
              obtain ⟨hlo, hup⟩ := hb a hamem
              have hra : ((nexts A i).map Arc3.enc)[q]? = some (Arc3.enc a) := by rw [List.getElem?_map, ha]; rfl
              have hst := bwd_step ht hb hi ha hrf2
              have hbu := hbd a.up hup
              refine G.region rfl (fun R hR => ?_)
              refine D.index0 (hvr.mono (by (repeat (first | exact Mem.le.refl _ | assumption | (apply Mem.le.trans; rotate_left; assumption))))) rfl rfl rfl rfl rfl rfl rfl rfl rfl rfl (by omega) hra (fun _ => rfl) (fun p104 hp104 => ?_)
              refine D.loadP0 hp104 rfl rfl rfl rfl rfl rfl rfl rfl ?_
              refine D.alloc rfl rfl rfl rfl rfl (fun _ => rfl) (fun b18 => ?_)
              refine D.store (j := 0) rfl rfl rfl rfl rfl rfl rfl rfl rfl rfl rfl rfl ?_
              refine D.done [(3, [], _), (16, [], _), (18, [], _), (100, [], _), (101, [], _), (102, [], _)] ⟨rfl, rfl, rfl, rfl, rfl, rfl, trivial⟩ (hR _ _ _ rfl ?_); clear hR R
              refine G.draw [0, 1, 2, 3, 4, 5, 6, 7, 8, 9, 10, 11, 12, 13, 14] [] rfl (by kernel_rfl) (fun R hB hR => ?_)
              refine D.loadL (.tail _ (.tail _ (.tail _ (.head _)))) rfl rfl rfl rfl rfl rfl rfl rfl rfl ?_
              refine D.pure rfl rfl rfl rfl rfl rfl ?_
              refine D.loadL (.tail _ (.tail _ (.tail _ (.head _)))) rfl rfl rfl rfl rfl rfl rfl rfl rfl ?_
              refine D.pure rfl rfl rfl rfl rfl rfl ?_
              refine D.indexS (i) rfl rfl rfl rfl rfl rfl rfl rfl rfl rfl (fun _ => ⟨by omega, by omega, (by simp)⟩) rfl rfl ?_
              refine D.loadArr (.tail _ (.tail _ (.tail _ (.tail _ (.head _))))) rfl rfl rfl rfl rfl rfl (fun _ => (by rw [ints_at (by rw [latL_len]; omega), latL_at (by omega)]; rfl)) rfl rfl ?_
              refine D.loadL (.tail _ (.tail _ (.tail _ (.head _)))) rfl rfl rfl rfl rfl rfl rfl rfl rfl ?_
              refine D.pure rfl rfl rfl rfl rfl rfl ?_
              refine D.loadL (.head _) rfl rfl rfl rfl rfl rfl rfl rfl rfl ?_
              refine D.indexS (a.up) rfl rfl rfl rfl rfl rfl rfl rfl rfl rfl (fun _ => ⟨by omega, by omega, (by simp)⟩) rfl rfl ?_
              refine D.loadArr (.tail _ (.tail _ (.tail _ (.tail _ (.head _))))) rfl rfl rfl rfl rfl rfl (fun _ => (by rw [ints_at (by rw [latL_len]; omega), latL_at (by omega)]; rfl)) rfl rfl ?_
              refine D.i64 _ rfl rfl rfl rfl rfl (by omega) (by omega) rfl rfl ?_
              refine D.min (((m : Int) - (max (hAt fs2 i) (hAt fs2 a.up + 1) : Nat))) rfl rfl rfl rfl rfl rfl (by omega) rfl rfl ?_
              refine D.indexS (i) rfl rfl rfl rfl rfl rfl rfl rfl rfl rfl (fun _ => ⟨by omega, by omega, (by simp)⟩) rfl rfl ?_
              refine D.storeArr (j := 4) rfl rfl rfl rfl rfl rfl rfl rfl rfl rfl rfl (by simp [latL_len]; omega) ?_
              refine D.done [(3, [], _), (16, [], _), (100, [], _), (101, [], _), (102, [], _)] ⟨rfl, rfl, rfl, rfl, rfl, trivial⟩ (hR _ _ _ rfl ?_); clear hR hB R
              refine G.region rfl (fun R hR => ?_)
              refine D.i64 _ rfl rfl rfl rfl rfl (by omega) (by omega) rfl rfl ?_
              refine D.pure rfl rfl rfl rfl rfl rfl ?_
              refine D.done [(3, [], _), (16, [], _), (100, [], _), (101, [], _), (102, [], _)] ⟨rfl, rfl, rfl, rfl, rfl, trivial⟩ (hR _ _ _ rfl ?_); clear hR R
              refine G.dropE 1 rfl ?_
              refine G.perm (L' := [.arr (qS b35 o.length o.length) 3 1 o.length (es.map intN), .obj b6 (.cells ⟨[.pointer (some ⟨b, 0, none⟩)]⟩ 69 (0, 0)), .obj b3 (.cells ⟨[qS b38 o.length o.length]⟩ 48 (0, 0)), .arr (qS b38 o.length o.length) 3 1 o.length (storeInto ((latL m fs2).map intV) [intV ((m : Int) - (max (hAt fs2 i) (hAt fs2 a.up + 1) : Nat))] i)]) (by (refine (ent_perm (j := 1) rfl).trans (List.Perm.cons _ ?_); refine (ent_perm (j := 1) rfl).trans (List.Perm.cons _ ?_); refine (ent_perm (j := 1) rfl).trans (List.Perm.cons _ ?_); refine (ent_perm (j := 0) rfl).trans (List.Perm.cons _ ?_); exact List.Perm.refl _)) ?_
              refine G.eqL (L' := [.arr (qS b35 o.length o.length) 3 1 o.length (es.map intN), .obj b6 (.cells ⟨[.pointer (some ⟨b, 0, none⟩)]⟩ 69 (0, 0)), .obj b3 (.cells ⟨[qS b38 o.length o.length]⟩ 48 (0, 0)), .arr (qS b38 o.length o.length) 3 1 o.length ((latL m (fs2.set i (max (hAt fs2 i) (hAt fs2 a.up + 1)))).map intV)]) (by rw [← latL_set, ← ints_set (by rw [latL_len]; omega)]) ?_
              refine G.again (m' := (nexts A i).length - (q + 1)) (by omega) (by (repeat (first | exact Mem.le.refl _ | assumption | (apply Mem.le.trans; rotate_left; assumption)))) (fr' := [(3, [], _), (16, [], _), (100, [], _), (101, [], _), (102, [], _)]) ⟨rfl, rfl, rfl, rfl, rfl, trivial⟩ ⟨q + 1, fs2.set i (max (hAt fs2 i) (hAt fs2 a.up + 1)), ⟨by omega, hst⟩, rfl, rfl, rfl⟩
            · skip
              simp only [decide_eq_false_iff_not] at h103
              have hql : q = (nexts A i).length := by omega
              subst hql
              rw [List.take_length] at hrf2
              have hrf3 := bwd_next hi hrf2
              rw [show o.length - 1 - j = o.length - (j + 1) by omega] at hrf3
              exact G.roundEnd (R := fun L' => ∃ (fs : List Nat), (RankS (A.map rev3) N.length (fun b => b.up ∈ o.drop (o.length - (j + 1))) fs) ∧ L' = [.arr (qS b35 o.length o.length) 3 1 o.length (es.map intN), .obj b6 (.cells ⟨[.pointer (some ⟨b, 0, none⟩)]⟩ 69 (0, 0)), .obj b3 (.cells ⟨[qS b38 o.length o.length]⟩ 48 (0, 0)), .arr (qS b38 o.length o.length) 3 1 o.length ((latL m fs).map intV)]) (List.Perm.refl _) ⟨fs2, hrf3, rfl⟩
          · skip
            obtain ⟨fs, hrf, rfl⟩ := hI
            rw [backV_len, Nat.sub_self, List.drop_zero] at hrf
            refine G.draw [0, 1, 2, 3, 4] [] rfl (by kernel_rfl) (fun R hB hR => ?_)
            refine D.pure rfl rfl rfl rfl rfl rfl ?_
            refine D.loadL (.tail _ (.tail _ (.tail _ (.head _)))) rfl rfl rfl rfl rfl rfl rfl rfl rfl ?_
            refine D.pure rfl rfl rfl rfl rfl rfl ?_
            refine D.store (j := 3) rfl rfl rfl rfl rfl rfl rfl rfl rfl rfl rfl rfl ?_
            refine D.pure rfl rfl rfl rfl rfl rfl ?_
            refine D.done [(2, [], _), (3, [], _), (4, [], _)] ⟨rfl, rfl, rfl, trivial⟩ (hR _ _ _ rfl ?_); clear hR hB R
            refine G.perm (L' := [.obj bD (.deferred (some [])), .obj b3 (.cells ⟨[qS b38 o.length o.length]⟩ 48 (0, 0)), .arr (qS b35 o.length o.length) 3 1 o.length (es.map intN), .arr (qS b38 o.length o.length) 3 1 o.length ((latL m fs).map intV), .obj b6 (.cells ⟨[.pointer (some ⟨b, 0, none⟩)]⟩ 69 (0, 0))]) (by (refine (ent_perm (j := 1) rfl).trans (List.Perm.cons _ ?_); refine (ent_perm (j := 0) rfl).trans (List.Perm.cons _ ?_); refine (ent_perm (j := 0) rfl).trans (List.Perm.cons _ ?_); refine (ent_perm (j := 1) rfl).trans (List.Perm.cons _ ?_); refine (ent_perm (j := 0) rfl).trans (List.Perm.cons _ ?_); exact List.Perm.refl _)) ?_
            refine G.eqL (L' := [.obj bD (.deferred (some [])), .obj b3 (.cells ⟨[qS b38 o.length o.length]⟩ 48 (0, 0)), .arr (qS b35 o.length o.length) 3 1 o.length (es.map encN).flatten, .arr (qS b38 o.length o.length) 3 1 o.length ((latL m fs).map encI).flatten, .obj b6 (.cells ⟨[.pointer (some ⟨b, 0, none⟩)]⟩ 69 (0, 0))]) (by rw [show (es.map encN).flatten = es.map intN from flatten_map1 intN _, ints_flat]) ?_
            refine G.freezeArr 2 (es.map encN) rfl rfl (by intro r hr; obtain ⟨y, _, rfl⟩ := List.mem_map.1 hr; rfl) (by simp; omega) (fun Cf hf hsd => ?_)
            refine G.freezeArr 2 ((latL m fs).map encI) rfl rfl (by intro r hr; obtain ⟨y, _, rfl⟩ := List.mem_map.1 hr; rfl) (by have := hrf.len; simp [latL_len]; omega) (fun Cg hg hsd2 => ?_)
            refine G.retN (G.finM (res_tct (.head _) rfl rfl rfl rfl rfl rfl) ?_)
            refine ⟨rfl, .inr (.inr ⟨h22', by rw [hA]; exact hnb, m, es, latL m fs, _, _, ?_, rfl, hsd.mono hg, hsd2⟩)⟩
            rw [hA, hN]
            refine ⟨hrs.len, fun v hv => hrs.done hb (fun a ha => ht.mem (hb a ha).1) hv, ⟨fun x hx => hmo.1 x (ht.mem (List.mem_range.1 hx)), hmo.2.elim .inl (fun ⟨x, hx, e⟩ => .inr ⟨x, List.mem_range.2 (ht.2.2.1 x hx), e⟩)⟩, by rw [latL_len]; exact hrf.len, fun v hv => ⟨hAt fs v, longFrom_rev (hrf.done (below_rev hb) (fun a ha => ht.mem (below_rev hb a ha).2) hv), latL_at (by rw [hrf.len]; exact hv)⟩⟩
end Go.Proofs.YtddjibfmnkcalaaDoor
namespace Go.Proofs.YtddjibfmnkcalaaDoor
open Go Go.Jog
set_option maxRecDepth 100000

theorem ins_mem {s : Str} : ∀ {N : List Str}, N.Pairwise (fun x y => cmpS x y < 0) → s ∈ N → ins cmpS s N = N
  | y :: N, hp, h => by
    rw [List.pairwise_cons] at hp
    simp only [ins]
    rcases List.mem_cons.1 h with e | h
    · subst e
      rw [if_neg (by have := (tot_cmpS.eq s s).2 rfl; omega), if_pos rfl]
    · rw [if_pos (hp.1 s h), ins_mem hp.2 h]
theorem ins_at {s : Str} : ∀ {N : List Str} {p : Nat}, N.Pairwise (fun x y => cmpS x y < 0) → p ≤ N.length → (∀ j x, N[j]? = some x → j < p → cmpS x s < 0) → (∀ j x, N[j]? = some x → p ≤ j → ¬ cmpS x s < 0) → s ∉ N → ins cmpS s N = N.take p ++ s :: N.drop p
  | [], p, _, hp, _, _, _ => by simp [ins]
  | y :: N, 0, hs, _, h1, h2, h3 => by
    have := h2 0 y rfl (Nat.le_refl _)
    simp only [List.mem_cons, not_or] at h3
    simp [ins, this, Ne.symm h3.1]
  | y :: N, p + 1, hs, hp, h1, h2, h3 => by
    simp only [List.mem_cons, not_or] at h3
    simp only [ins]
    rw [if_pos (h1 0 y rfl (by omega)), ins_at (p := p) (List.pairwise_cons.1 hs).2 (by simpa using hp) (fun j x hx hj => h1 (j + 1) x (by simpa using hx) (by omega)) (fun j x hx hj => h2 (j + 1) x (by simpa using hx) (by omega)) h3.2]
    rfl
theorem setL_snoc {l : List Str} {s : Str} : setL cmpS (l ++ [s]) = ins cmpS s (setL cmpS l) := by simp [setL]

theorem setL_len (l : List Str) : (setL cmpS l).length ≤ l.length := by
  refine List.Nodup.length_le_of_subset ?_ (fun s hs => mem_setL.1 hs)
  rw [List.nodup_iff_pairwise_ne]
  refine (tot_cmpS.setL_strict l).imp (fun {a b} h e => ?_)
  subst e
  have := (tot_cmpS.eq a a).2 rfl
  omega

set_option maxHeartbeats 2000000 in
theorem lunits_fn (C : Mem) (v : Value) (l : List Rel) (hv : Sl C 3 v (l.map Rel.enc)) (hl : l.length ≤ 100000) : Pur cx.P 26 [v] C fun u C' => Sl C' 1 u ((unitsL l).map encS) := by
  have hv0 := hv
  obtain ⟨A, c, rfl, _⟩ := hv0
  simp only [List.length_map] at hv ⊢
  refine Fn.intro (by kernel_rfl) Tryd.func26 rfl 72 rfl rfl (fun w0 => ?_)
  refine G.region rfl (fun R hR => ?_)
  refine D.pure rfl rfl rfl rfl rfl rfl ?_
  refine D.done [(0, [], _)] ⟨rfl, trivial⟩ (hR _ _ _ rfl ?_); clear hR R
  refine G.region rfl (fun R hR => ?_)
  refine D.pure rfl rfl rfl rfl rfl rfl ?_
  refine D.done [(0, [], _), (3, [], _)] ⟨rfl, rfl, trivial⟩ (hR _ _ _ rfl ?_); clear hR R
  refine G.region rfl (fun R hR => ?_)
  refine D.pure rfl rfl rfl rfl rfl rfl ?_
  refine D.done [(0, [], _), (3, [], _), (4, [], _)] ⟨rfl, rfl, rfl, trivial⟩ (hR _ _ _ rfl ?_); clear hR R
  refine G.loop (fun fr C' L' μ => ∃ (k : Nat) (w : Value), (k ≤ l.length ∧ Sl C' 1 w ((setL cmpS (namesOf (l.take k))).map encS)) ∧ fr = [(0, [], .slice A l.length c), (3, [], w), (4, [], .int .i64 k)] ∧ L' = [] ∧ μ = l.length - k) (fr' := [(0, [], _), (3, [], _), (4, [], _)]) ⟨rfl, rfl, rfl, trivial⟩ ⟨0, _, ⟨Nat.zero_le _, Sl.nilS _ _⟩, rfl, rfl, rfl⟩ (fun fr C0' L0' m hle0 hI => ?_)
  obtain ⟨k, w, ⟨hk, hw⟩, rfl, rfl, rfl⟩ := hI
  refine G.region rfl (fun R hR => ?_)
  iterate 4 refine D.pure rfl rfl rfl rfl rfl rfl ?_
  refine D.done [(0, [], _), (3, [], _), (4, [], _), (14, [], _)] ⟨rfl, rfl, rfl, rfl, trivial⟩ (hR _ _ _ rfl ?_); clear hR R
  refine G.cond rfl (fun h14 => ?_) (fun h14 => ?_)
  · skip
    simp only [decide_eq_true_eq] at h14
    have hkl : k < l.length := by omega
    obtain ⟨x, hx⟩ : ∃ x, l[k]? = some x := ⟨l[k], List.getElem?_eq_getElem hkl⟩
    have htk : namesOf (l.take (k + 1)) = namesOf (l.take k) ++ [x.upper, x.lower] := by
      have : l.take (k + 1) = l.take k ++ [x] := by rw [List.take_add_one, hx]; rfl
      rw [this, namesOf, List.map_append, List.flatten_append]; simp [namesOf]
    refine G.draw [0, 1, 2, 3, 4, 5, 6, 7, 8, 9, 12, 10, 11] [] rfl (by kernel_rfl) (fun R hB hR => ?_)
    iterate 2 refine D.pure rfl rfl rfl rfl rfl rfl ?_
    refine D.index0 (hv.mono (by (repeat (first | exact Mem.le.refl _ | assumption | (apply Mem.le.trans; rotate_left; assumption))))) rfl rfl rfl rfl rfl rfl rfl rfl rfl rfl (by omega) (row := x.enc) (by simp [hx]) (fun _ => rfl) (fun p19 hp19 => ?_)
    refine D.fieldP0 hp19 rfl rfl rfl rfl rfl rfl rfl rfl rfl rfl (fun _ => rfl) (fun p20 hp20 => ?_)
    refine D.loadP0 hp20 rfl rfl rfl rfl rfl rfl rfl rfl ?_
    iterate 2 refine D.pure rfl rfl rfl rfl rfl rfl ?_
    refine D.index0 (hv.mono (by (repeat (first | exact Mem.le.refl _ | assumption | (apply Mem.le.trans; rotate_left; assumption))))) rfl rfl rfl rfl rfl rfl rfl rfl rfl rfl (by omega) (row := x.enc) (by simp [hx]) (fun _ => rfl) (fun p24 hp24 => ?_)
    refine D.fieldP0 hp24 rfl rfl rfl rfl rfl rfl rfl rfl rfl rfl (fun _ => rfl) (fun p25 hp25 => ?_)
    refine D.loadP0 hp25 rfl rfl rfl rfl rfl rfl rfl rfl ?_
    refine D.pure rfl rfl rfl rfl rfl rfl ?_
    refine D.buildSlice [encS x.upper, encS x.lower] rfl rfl rfl rfl rfl rfl rfl rfl rfl rfl rfl rfl (fun _ => rfl) (fun p27 C27 hle27 hs27 => ?_)
    obtain ⟨A27, c27, rfl, _⟩ := id hs27
    refine D.pure rfl rfl rfl rfl rfl rfl ?_
    refine D.done [(0, [], _), (3, [], _), (4, [], _), (27, [], _), (28, [], _), (29, [], _)] ⟨rfl, rfl, rfl, rfl, rfl, rfl, trivial⟩ (hR _ _ _ rfl ?_); clear hR hB R
    refine G.loop (fun fr C' L' μ => ∃ (q : Nat) (w2 : Value), (q ≤ 2 ∧ Sl C' 1 w2 ((setL cmpS (namesOf (l.take k) ++ [x.upper, x.lower].take q)).map encS)) ∧ fr = [(0, [], .slice A l.length c), (3, [], w2), (4, [], .int .i64 k), (27, [], .slice A27 2 c27), (28, [], .int .i64 2), (29, [], .int .i64 q)] ∧ L' = [] ∧ μ = 2 - q) (fr' := [(0, [], _), (3, [], _), (4, [], _), (27, [], _), (28, [], _), (29, [], _)]) ⟨rfl, rfl, rfl, rfl, rfl, rfl, trivial⟩ ⟨0, _, ⟨Nat.zero_le _, by simpa using hw.mono (by (repeat (first | exact Mem.le.refl _ | assumption | (apply Mem.le.trans; rotate_left; assumption))))⟩, rfl, rfl, rfl⟩ (fun fr C1' L1' m hle1 hI => ?_)
    obtain ⟨q, w2, ⟨hq, hw2⟩, rfl, rfl, rfl⟩ := hI
    refine G.region rfl (fun R hR => ?_)
    refine D.pure rfl rfl rfl rfl rfl rfl ?_
    refine D.done [(0, [], _), (3, [], _), (4, [], _), (27, [], _), (28, [], _), (29, [], _), (30, [], _)] ⟨rfl, rfl, rfl, rfl, rfl, rfl, rfl, trivial⟩ (hR _ _ _ rfl ?_); clear hR R
    refine G.cond rfl (fun h30 => ?_) (fun h30 => ?_)
    · skip
      simp only [decide_eq_true_eq] at h30
      have hql : q < 2 := by omega
      obtain ⟨s, hs⟩ : ∃ s, [x.upper, x.lower][q]? = some s := ⟨[x.upper, x.lower][q], List.getElem?_eq_getElem hql⟩
      have hsr : [encS x.upper, encS x.lower][q]? = some (encS s) := by
        have : [encS x.upper, encS x.lower] = [x.upper, x.lower].map encS := rfl
        rw [this, List.getElem?_map, hs]; rfl
      have htq : [x.upper, x.lower].take (q + 1) = [x.upper, x.lower].take q ++ [s] := by rw [List.take_add_one, hs]; rfl
      have hstr : (setL cmpS (namesOf (l.take k) ++ [x.upper, x.lower].take q)).Pairwise (fun x y => cmpS x y < 0) := tot_cmpS.setL_strict _
      obtain ⟨N2, hN2⟩ : ∃ N2, setL cmpS (namesOf (l.take k) ++ [x.upper, x.lower].take q) = N2 := ⟨_, rfl⟩
      have hN2l : N2.length ≤ 300000 := by
        have h1 := setL_len (namesOf (l.take k) ++ [x.upper, x.lower].take q)
        rw [hN2, List.length_append, namesOf_len, List.length_take, List.length_take] at h1
        simp at h1; omega
      rw [hN2] at hw2 hstr
      obtain ⟨Aw, cw, rfl, hlc, _⟩ := id hw2
      simp only [List.length_map] at hw2 hlc ⊢
      refine G.region rfl (fun R hR => ?_)
      refine D.index0 (hs27.mono (by (repeat (first | exact Mem.le.refl _ | assumption | (apply Mem.le.trans; rotate_left; assumption))))) rfl rfl rfl rfl rfl rfl rfl rfl rfl rfl (by omega) hsr (fun _ => rfl) (fun p31 hp31 => ?_)
      refine D.loadP0 hp31 rfl rfl rfl rfl rfl rfl rfl rfl ?_
      refine D.pure rfl rfl rfl rfl rfl rfl ?_
      refine D.done [(0, [], _), (3, [], _), (4, [], _), (6, [], _), (27, [], _), (28, [], _), (29, [], _)] ⟨rfl, rfl, rfl, rfl, rfl, rfl, rfl, trivial⟩ (hR _ _ _ rfl ?_); clear hR R
      refine G.region rfl (fun R hR => ?_)
      iterate 2 refine D.pure rfl rfl rfl rfl rfl rfl ?_
      refine D.done [(0, [], _), (3, [], _), (4, [], _), (6, [], _), (7, [], _), (8, [], _), (27, [], _), (28, [], _), (29, [], _)] ⟨rfl, rfl, rfl, rfl, rfl, rfl, rfl, rfl, rfl, trivial⟩ (hR _ _ _ rfl ?_); clear hR R
      refine G.region rfl (fun R hR => ?_)
      refine D.pure rfl rfl rfl rfl rfl rfl ?_
      refine D.done [(0, [], _), (3, [], _), (4, [], _), (6, [], _), (7, [], _), (8, [], _), (9, [], _), (27, [], _), (28, [], _), (29, [], _)] ⟨rfl, rfl, rfl, rfl, rfl, rfl, rfl, rfl, rfl, rfl, trivial⟩ (hR _ _ _ rfl ?_); clear hR R
      refine G.loop (fun fr C' L' μ => ∃ (j a : Nat) (h : Bool), (j ≤ N2.length ∧ a ≤ j ∧ (h = true ↔ s ∈ N2.take j) ∧ (∀ i y, N2[i]? = some y → a ≤ i → i < j → ¬ cmpS y s < 0) ∧ (∀ y, N2[a - 1]? = some y → 0 < a → cmpS y s < 0)) ∧ fr = [(0, [], .slice A l.length c), (3, [], .slice Aw N2.length cw), (4, [], .int .i64 k), (6, [], strV s), (7, [], .int .i64 a), (8, [], .bool h), (9, [], .int .i64 j), (27, [], .slice A27 2 c27), (28, [], .int .i64 2), (29, [], .int .i64 q)] ∧ L' = [] ∧ μ = N2.length - j) (fr' := [(0, [], _), (3, [], _), (4, [], _), (6, [], _), (7, [], _), (8, [], _), (9, [], _), (27, [], _), (28, [], _), (29, [], _)]) ⟨rfl, rfl, rfl, rfl, rfl, rfl, rfl, rfl, rfl, rfl, trivial⟩ ⟨0, 0, false, ⟨Nat.zero_le _, Nat.zero_le _, by simp, fun i y _ _ h => absurd h (by omega), fun y _ h => absurd h (by omega)⟩, rfl, rfl, rfl⟩ (fun fr C2' L2' m hle2 hI => ?_)
      obtain ⟨j, a, h, ⟨hj, haj, hh, hge, hlt⟩, rfl, rfl, rfl⟩ := hI
      refine G.region rfl (fun R hR => ?_)
      iterate 4 refine D.pure rfl rfl rfl rfl rfl rfl ?_
      refine D.done [(0, [], _), (3, [], _), (4, [], _), (6, [], _), (7, [], _), (8, [], _), (9, [], _), (27, [], _), (28, [], _), (29, [], _), (36, [], _)] ⟨rfl, rfl, rfl, rfl, rfl, rfl, rfl, rfl, rfl, rfl, rfl, trivial⟩ (hR _ _ _ rfl ?_); clear hR R
      refine G.cond rfl (fun h36 => ?_) (fun h36 => ?_)
      · skip
        simp only [decide_eq_true_eq] at h36
        have hjl : j < N2.length := by omega
        obtain ⟨y, hy⟩ : ∃ y, N2[j]? = some y := ⟨N2[j], List.getElem?_eq_getElem hjl⟩
        have hry : (N2.map encS)[j]? = some (encS y) := by rw [List.getElem?_map, hy]; rfl
        have htj : N2.take (j + 1) = N2.take j ++ [y] := by rw [List.take_add_one, hy]; rfl
        refine G.region rfl (fun R hR => ?_)
        iterate 4 refine D.pure rfl rfl rfl rfl rfl rfl ?_
        refine D.index rfl rfl rfl rfl rfl rfl rfl rfl rfl rfl (fun hg => ⟨(hw2.mono (by (repeat (first | exact Mem.le.refl _ | assumption | (apply Mem.le.trans; rotate_left; assumption))))), by omega, hry⟩) (fun _ => rfl) rfl (fun p43 hp43 => ?_)
        refine D.loadP rfl rfl rfl rfl rfl rfl hp43 rfl rfl rfl ?_
        iterate 2 refine D.pure rfl rfl rfl rfl rfl rfl ?_
        refine D.pickOr rfl rfl rfl rfl rfl rfl rfl rfl ?_
        refine D.pure rfl rfl rfl rfl rfl rfl ?_
        refine D.done [(0, [], _), (3, [], _), (4, [], _), (6, [], _), (7, [], _), (8, [], _), (9, [], _), (27, [], _), (28, [], _), (29, [], _)] ⟨rfl, rfl, rfl, rfl, rfl, rfl, rfl, rfl, rfl, rfl, trivial⟩ (hR _ _ _ rfl ?_); clear hR R
        refine G.region rfl (fun R hR => ?_)
        iterate 2 refine D.pure rfl rfl rfl rfl rfl rfl ?_
        refine D.index0 (hw2.mono (by (repeat (first | exact Mem.le.refl _ | assumption | (apply Mem.le.trans; rotate_left; assumption))))) rfl rfl rfl rfl rfl rfl rfl rfl rfl rfl (by omega) hry (fun _ => rfl) (fun p50 hp50 => ?_)
        refine D.loadP0 hp50 rfl rfl rfl rfl rfl rfl rfl rfl ?_
        iterate 2 refine D.pure rfl rfl rfl rfl rfl rfl ?_
        refine D.done [(0, [], _), (3, [], _), (4, [], _), (6, [], _), (7, [], _), (8, [], _), (9, [], _), (27, [], _), (28, [], _), (29, [], _), (53, [], _)] ⟨rfl, rfl, rfl, rfl, rfl, rfl, rfl, rfl, rfl, rfl, rfl, trivial⟩ (hR _ _ _ rfl ?_); clear hR R
        refine G.cond rfl (fun h53 => ?_) (fun h53 => ?_)
        · skip
          have h53' : cmpS y s < 0 := (cmpS_neg y s).2 h53
          refine G.region rfl (fun R hR => ?_)
          refine D.pure rfl rfl rfl rfl rfl rfl ?_
          refine D.i64 _ rfl rfl rfl rfl rfl (by omega) (by omega) rfl rfl ?_
          refine D.pure rfl rfl rfl rfl rfl rfl ?_
          refine D.done [(0, [], _), (3, [], _), (4, [], _), (6, [], _), (7, [], _), (8, [], _), (9, [], _), (27, [], _), (28, [], _), (29, [], _)] ⟨rfl, rfl, rfl, rfl, rfl, rfl, rfl, rfl, rfl, rfl, trivial⟩ (hR _ _ _ rfl ?_); clear hR R
          refine G.region rfl (fun R hR => ?_)
          refine D.pure rfl rfl rfl rfl rfl rfl ?_
          refine D.i64 _ rfl rfl rfl rfl rfl (by omega) (by omega) rfl rfl ?_
          refine D.pure rfl rfl rfl rfl rfl rfl ?_
          refine D.done [(0, [], _), (3, [], _), (4, [], _), (6, [], _), (7, [], _), (8, [], _), (9, [], _), (27, [], _), (28, [], _), (29, [], _)] ⟨rfl, rfl, rfl, rfl, rfl, rfl, rfl, rfl, rfl, rfl, trivial⟩ (hR _ _ _ rfl ?_); clear hR R
          refine G.again (m' := N2.length - (j + 1)) (by omega) (by (repeat (first | exact Mem.le.refl _ | assumption | (apply Mem.le.trans; rotate_left; assumption)))) (fr' := [(0, [], _), (3, [], _), (4, [], _), (6, [], _), (7, [], _), (8, [], _), (9, [], _), (27, [], _), (28, [], _), (29, [], _)]) ⟨rfl, rfl, rfl, rfl, rfl, rfl, rfl, rfl, rfl, rfl, trivial⟩ ⟨j + 1, j + 1, (h || y == s), ⟨by omega, Nat.le_refl _, by rw [Bool.or_eq_true, hh, htj, List.mem_append, List.mem_singleton, beq_iff_eq, eq_comm (a := y)], fun i z _ h1 h2 => absurd h1 (by omega), fun z hz _ => by rw [Nat.add_sub_cancel, hy] at hz; cases hz; exact h53'⟩, rfl, rfl, rfl⟩
        · skip
          have h53' : ¬ cmpS y s < 0 := fun h => by have := (cmpS_neg y s).1 h; rw [h53] at this; cases this
          refine G.region rfl (fun R hR => ?_)
          refine D.pure rfl rfl rfl rfl rfl rfl ?_
          refine D.i64 _ rfl rfl rfl rfl rfl (by omega) (by omega) rfl rfl ?_
          refine D.pure rfl rfl rfl rfl rfl rfl ?_
          refine D.done [(0, [], _), (3, [], _), (4, [], _), (6, [], _), (7, [], _), (8, [], _), (9, [], _), (27, [], _), (28, [], _), (29, [], _)] ⟨rfl, rfl, rfl, rfl, rfl, rfl, rfl, rfl, rfl, rfl, trivial⟩ (hR _ _ _ rfl ?_); clear hR R
          refine G.again (m' := N2.length - (j + 1)) (by omega) (by (repeat (first | exact Mem.le.refl _ | assumption | (apply Mem.le.trans; rotate_left; assumption)))) (fr' := [(0, [], _), (3, [], _), (4, [], _), (6, [], _), (7, [], _), (8, [], _), (9, [], _), (27, [], _), (28, [], _), (29, [], _)]) ⟨rfl, rfl, rfl, rfl, rfl, rfl, rfl, rfl, rfl, rfl, trivial⟩ ⟨j + 1, a, (h || y == s), ⟨by omega, by omega, by rw [Bool.or_eq_true, hh, htj, List.mem_append, List.mem_singleton, beq_iff_eq, eq_comm (a := y)], fun i z hz h1 h2 => by
            by_cases e : i = j
            · subst e; rw [hy] at hz; cases hz; exact h53'
            · exact hge i z hz h1 (by omega), hlt⟩, rfl, rfl, rfl⟩
      · skip
        simp only [decide_eq_false_iff_not] at h36
        have hjl : j = N2.length := by omega
        subst hjl
        rw [List.take_length] at hh
        have hstep : setL cmpS (namesOf (l.take k) ++ [x.upper, x.lower].take (q + 1)) = ins cmpS s N2 := by rw [htq, ← List.append_assoc, setL_snoc, hN2]
        refine G.region rfl (fun R hR => ?_)
        iterate 2 refine D.pure rfl rfl rfl rfl rfl rfl ?_
        refine D.done [(0, [], _), (3, [], _), (4, [], _), (6, [], _), (7, [], _), (27, [], _), (28, [], _), (29, [], _), (57, [], _)] ⟨rfl, rfl, rfl, rfl, rfl, rfl, rfl, rfl, rfl, trivial⟩ (hR _ _ _ rfl ?_); clear hR R
        refine G.cond rfl (fun h57 => ?_) (fun h57 => ?_)
        · skip
          have h57' : h = false := by simpa using h57
          have hsn : s ∉ N2 := fun hm => by rw [hh.2 hm] at h57'; cases h57'
          have hins : ins cmpS s N2 = N2.take a ++ s :: N2.drop a := ins_at hstr haj (fun i y hy h1 => by
            have ha : a - 1 < N2.length := by omega
            have h2 := hlt _ (List.getElem?_eq_getElem ha) (by omega)
            rcases Nat.lt_or_ge i (a - 1) with h3 | h3
            · obtain ⟨h4, h5⟩ := List.getElem?_eq_some_iff.1 hy
              have h6 := List.pairwise_iff_getElem.1 hstr i (a - 1) h4 ha h3
              rw [h5] at h6
              exact tot_cmpS.trans _ _ _ h6 h2
            · have e : i = a - 1 := by omega
              subst e
              rw [List.getElem?_eq_getElem ha] at hy
              cases hy; exact h2) (fun i y hy h1 => hge i y hy h1 (List.getElem?_eq_some_iff.1 hy).1) hsn
          refine G.region rfl (fun R hR => ?_)
          refine D.pure rfl rfl rfl rfl rfl rfl ?_
          refine D.done [(0, [], _), (3, [], _), (4, [], _), (6, [], _), (7, [], _), (10, [], _), (27, [], _), (28, [], _), (29, [], _)] ⟨rfl, rfl, rfl, rfl, rfl, rfl, rfl, rfl, rfl, trivial⟩ (hR _ _ _ rfl ?_); clear hR R
          refine G.nilArr 9 1 ?_
          have hsub1 := hw2.sub (l := 0) (h := a) (m := cw) (Nat.zero_le _) (by simpa using haj) (by omega) (Nat.le_refl _)
          rw [List.drop_zero, ← List.map_take] at hsub1
          have hsub2 := hw2.sub (l := a) (h := N2.length) (m := cw) haj (by simp) hlc (Nat.le_refl _)
          rw [List.take_of_length_le (by simp), ← List.map_drop] at hsub2
          have hla : (N2.take a).length = a := by rw [List.length_take]; omega
          have hla2 : (N2.drop a).length = N2.length - a := List.length_drop
          refine G.cut (fun fr C' L' μ => ∃ (w3 : Value), (Sl C' 1 w3 ((ins cmpS s N2).map encS)) ∧ fr = [(0, [], .slice A l.length c), (3, [], w3), (4, [], .int .i64 k), (27, [], .slice A27 2 c27), (28, [], .int .i64 2), (29, [], .int .i64 q)] ∧ L' = []) ?_ (fun fr Cr17 Lr17 μ hler17 hI => ?_)
          · skip
            refine G.drawT (.cut [0, 1, 2, 3, 5, 8, 9, 10] (.alt 4 (.fin [6, 7, 11, 12]) (.alt 6 (.fin [4, 7, 11, 12]) .stop))) [] rfl rfl (by kernel_rfl) (fun R hB hR hH => ?_)
            iterate 3 refine D.pure rfl rfl rfl rfl rfl rfl ?_
            refine D.sliceV 0 a cw rfl rfl rfl rfl rfl rfl rfl rfl rfl rfl rfl rfl (fun _ => ⟨.inl ⟨rfl, rfl⟩, .inr ⟨_, rfl⟩, .inl ⟨rfl, rfl⟩, by omega, by omega, Nat.le_refl _⟩) rfl rfl ?_
            iterate 3 refine D.pure rfl rfl rfl rfl rfl rfl ?_
            refine D.sliceV a N2.length cw rfl rfl rfl rfl rfl rfl rfl rfl rfl rfl rfl rfl (fun _ => ⟨.inr ⟨_, rfl⟩, .inl ⟨rfl, rfl⟩, .inl ⟨rfl, rfl⟩, by omega, hlc, Nat.le_refl _⟩) rfl rfl ?_
            refine D.fork hH rfl ⟨?_, ?_, trivial⟩
            · skip
              refine D.append (j := 0) rfl rfl rfl rfl rfl rfl rfl rfl rfl rfl rfl (hsub1.mono (by (repeat (first | exact Mem.le.refl _ | assumption | (apply Mem.le.trans; rotate_left; assumption))))) (str_oneB _) (by simp only [List.length_map, maxLen]; omega) (by simp only [List.length_map]; omega) (fun _ => rfl) (fun v62 => ?_)
              refine D.buildSlice [encS s] rfl rfl rfl rfl rfl rfl rfl rfl rfl rfl rfl rfl (fun _ => rfl) (fun p64 C64 hle64 hs64 => ?_)
              refine D.append (j := 0) rfl rfl rfl rfl rfl rfl rfl rfl rfl rfl rfl (hs64.mono (by (repeat (first | exact Mem.le.refl _ | assumption | (apply Mem.le.trans; rotate_left; assumption))))) rfl (by simp only [List.length_map, List.length_singleton, maxLen]; omega) (by simp only [List.length_map, List.length_singleton]; omega) (fun _ => rfl) (fun v65 => ?_)
              refine D.append (j := 0) rfl rfl rfl rfl rfl rfl rfl rfl rfl rfl rfl (hsub2.mono (by (repeat (first | exact Mem.le.refl _ | assumption | (apply Mem.le.trans; rotate_left; assumption))))) (str_oneB _) (by simp only [List.length_map, List.length_singleton, maxLen]; omega) (by simp only [List.length_map, List.length_singleton]; omega) (fun _ => rfl) (fun v69 => ?_)
              refine D.pure rfl rfl rfl rfl rfl rfl ?_
              refine D.done [(0, [], _), (3, [], _), (4, [], _), (27, [], _), (28, [], _), (29, [], _)] ⟨rfl, rfl, rfl, rfl, rfl, rfl, trivial⟩ (hR _ _ _ rfl ?_); clear hR hB hH R
              refine G.eqL (L' := [.arr v69 9 1 (ins cmpS s N2).length ((ins cmpS s N2).map encS).flatten]) (by rw [hins]; simp [hla, hla2]; omega) ?_
              refine G.freezeArr 0 ((ins cmpS s N2).map encS) rfl rfl (by intro r hr; obtain ⟨y, _, rfl⟩ := List.mem_map.1 hr; rfl) (by simp) (fun Cf hf hsd => ?_)
              exact G.meet 0 (by (repeat (first | exact Mem.le.refl _ | assumption | (apply Mem.le.trans; rotate_left; assumption)))) (fr' := [(0, [], _), (3, [], _), (4, [], _), (27, [], _), (28, [], _), (29, [], _)]) ⟨rfl, rfl, rfl, rfl, rfl, rfl, trivial⟩ ⟨_, hsd, rfl, rfl⟩
            · skip
              refine D.buildSlice [encS s] rfl rfl rfl rfl rfl rfl rfl rfl rfl rfl rfl rfl (fun _ => rfl) (fun p64 C64 hle64 hs64 => ?_)
              refine D.append (j := 0) rfl rfl rfl rfl rfl rfl rfl rfl rfl rfl rfl (hsub1.mono (by (repeat (first | exact Mem.le.refl _ | assumption | (apply Mem.le.trans; rotate_left; assumption))))) (str_oneB _) (by simp only [List.length_map, maxLen]; omega) (by simp only [List.length_map]; omega) (fun _ => rfl) (fun v62 => ?_)
              refine D.append (j := 0) rfl rfl rfl rfl rfl rfl rfl rfl rfl rfl rfl (hs64.mono (by (repeat (first | exact Mem.le.refl _ | assumption | (apply Mem.le.trans; rotate_left; assumption))))) rfl (by simp only [List.length_map, List.length_singleton, maxLen]; omega) (by simp only [List.length_map, List.length_singleton]; omega) (fun _ => rfl) (fun v65 => ?_)
              refine D.append (j := 0) rfl rfl rfl rfl rfl rfl rfl rfl rfl rfl rfl (hsub2.mono (by (repeat (first | exact Mem.le.refl _ | assumption | (apply Mem.le.trans; rotate_left; assumption))))) (str_oneB _) (by simp only [List.length_map, List.length_singleton, maxLen]; omega) (by simp only [List.length_map, List.length_singleton]; omega) (fun _ => rfl) (fun v69 => ?_)
              refine D.pure rfl rfl rfl rfl rfl rfl ?_
              refine D.done [(0, [], _), (3, [], _), (4, [], _), (27, [], _), (28, [], _), (29, [], _)] ⟨rfl, rfl, rfl, rfl, rfl, rfl, trivial⟩ (hR _ _ _ rfl ?_); clear hR hB hH R
              refine G.eqL (L' := [.arr v69 9 1 (ins cmpS s N2).length ((ins cmpS s N2).map encS).flatten]) (by rw [hins]; simp [hla, hla2]; omega) ?_
              refine G.freezeArr 0 ((ins cmpS s N2).map encS) rfl rfl (by intro r hr; obtain ⟨y, _, rfl⟩ := List.mem_map.1 hr; rfl) (by simp) (fun Cf hf hsd => ?_)
              exact G.meet 0 (by (repeat (first | exact Mem.le.refl _ | assumption | (apply Mem.le.trans; rotate_left; assumption)))) (fr' := [(0, [], _), (3, [], _), (4, [], _), (27, [], _), (28, [], _), (29, [], _)]) ⟨rfl, rfl, rfl, rfl, rfl, rfl, trivial⟩ ⟨_, hsd, rfl, rfl⟩
          obtain ⟨w3, hw3, rfl, rfl⟩ := hI
          refine G.region rfl (fun R hR => ?_)
          refine D.i64 _ rfl rfl rfl rfl rfl (by omega) (by omega) rfl rfl ?_
          refine D.pure rfl rfl rfl rfl rfl rfl ?_
          refine D.done [(0, [], _), (3, [], _), (4, [], _), (27, [], _), (28, [], _), (29, [], _)] ⟨rfl, rfl, rfl, rfl, rfl, rfl, trivial⟩ (hR _ _ _ rfl ?_); clear hR R
          refine G.again (m' := 2 - (q + 1)) (by omega) (by (repeat (first | exact Mem.le.refl _ | assumption | (apply Mem.le.trans; rotate_left; assumption)))) (fr' := [(0, [], _), (3, [], _), (4, [], _), (27, [], _), (28, [], _), (29, [], _)]) ⟨rfl, rfl, rfl, rfl, rfl, rfl, trivial⟩ ⟨q + 1, w3, ⟨by omega, by rw [hstep]; exact hw3.mono (by (repeat (first | exact Mem.le.refl _ | assumption | (apply Mem.le.trans; rotate_left; assumption))))⟩, rfl, rfl, rfl⟩
        · skip
          have h57' : h = true := by simpa using h57
          have hsn : s ∈ N2 := hh.1 h57'
          refine G.region rfl (fun R hR => ?_)
          refine D.i64 _ rfl rfl rfl rfl rfl (by omega) (by omega) rfl rfl ?_
          refine D.pure rfl rfl rfl rfl rfl rfl ?_
          refine D.done [(0, [], _), (3, [], _), (4, [], _), (27, [], _), (28, [], _), (29, [], _)] ⟨rfl, rfl, rfl, rfl, rfl, rfl, trivial⟩ (hR _ _ _ rfl ?_); clear hR R
          refine G.again (m' := 2 - (q + 1)) (by omega) (by (repeat (first | exact Mem.le.refl _ | assumption | (apply Mem.le.trans; rotate_left; assumption)))) (fr' := [(0, [], _), (3, [], _), (4, [], _), (27, [], _), (28, [], _), (29, [], _)]) ⟨rfl, rfl, rfl, rfl, rfl, rfl, trivial⟩ ⟨q + 1, _, ⟨by omega, by rw [hstep, ins_mem hstr hsn]; exact hw2.mono (by (repeat (first | exact Mem.le.refl _ | assumption | (apply Mem.le.trans; rotate_left; assumption))))⟩, rfl, rfl, rfl⟩
    · skip
      simp only [decide_eq_false_iff_not] at h30
      have hql : q = 2 := by omega
      subst hql
      refine G.region rfl (fun R hR => ?_)
      refine D.pure rfl rfl rfl rfl rfl rfl ?_
      refine D.i64 _ rfl rfl rfl rfl rfl (by omega) (by omega) rfl rfl ?_
      refine D.pure rfl rfl rfl rfl rfl rfl ?_
      refine D.done [(0, [], _), (3, [], _), (4, [], _)] ⟨rfl, rfl, rfl, trivial⟩ (hR _ _ _ rfl ?_); clear hR R
      refine G.again (m' := l.length - (k + 1)) (by omega) (by (repeat (first | exact Mem.le.refl _ | assumption | (apply Mem.le.trans; rotate_left; assumption)))) (fr' := [(0, [], _), (3, [], _), (4, [], _)]) ⟨rfl, rfl, rfl, trivial⟩ ⟨k + 1, w2, ⟨by omega, by rw [htk]; exact hw2⟩, rfl, rfl, rfl⟩
  · skip
    simp only [decide_eq_false_iff_not] at h14
    have hkl : k = l.length := by omega
    subst hkl
    rw [List.take_length] at hw
    refine G.region rfl (fun R hR => ?_)
    iterate 2 refine D.pure rfl rfl rfl rfl rfl rfl ?_
    refine D.done [(2, [], _)] ⟨rfl, trivial⟩ (hR _ _ _ rfl ?_); clear hR R
    refine G.retN (G.dropAll (G.fin1 rfl rfl ?_))
    exact ⟨rfl, hw⟩
end Go.Proofs.YtddjibfmnkcalaaDoor
namespace Go.Proofs.YtddjibfmnkcalaaDoor
open Go Go.Jog
set_option maxRecDepth 100000

def rowN (r : Value × List Nat) : Ent := .arr r.1 3 1 r.2.length (r.2.map intN)
theorem rowsN_perm : ∀ {R : List (Value × List Nat)} {i : Nat} {r r' : Value × List Nat}, R[i]? = some r → (rowN r' :: (R.map rowN).eraseIdx i).Perm ((R.set i r').map rowN)
  | [], _, _, _, h => by simp at h
  | x :: R, 0, r, r', _ => by simp
  | x :: R, i + 1, r, r', h => by
    have := rowsN_perm (R := R) (i := i) (r := r) (r' := r') (by simpa using h)
    simp only [List.map_cons, List.eraseIdx_cons_succ, List.set_cons_succ]
    exact (List.Perm.swap _ _ _).trans (this.cons _)
theorem G.freezeRowsN {F : Fx} {k : List KI} {fr : Fr} {e : Exit} : ∀ (R : List (Value × List Nat)) {C : Mem} {L : List Ent}, (∀ C', C.le C' → (∀ r ∈ R, Sl C' 1 r.1 (r.2.map encN)) → G F k e fr C' L) → G F k e fr C (R.map rowN ++ L)
  | [], C, L, h => h C (Mem.le.refl _) (fun r hr => by cases hr)
  | r :: R, C, L, h => by
    refine G.freezeArr 0 (r.2.map encN) rfl (flatten_map1 intN _).symm (by intro x hx; obtain ⟨y, _, rfl⟩ := List.mem_map.1 hx; rfl) (by simp) (fun C' hle hs => ?_)
    refine G.freezeRowsN R (fun C'' hle2 hR => h C'' (hle.trans hle2) (fun x hx => ?_))
    rcases List.mem_cons.1 hx with rfl | hx
    · exact hs.mono hle2
    · exact hR x hx

/-- A table, read. -/
def Tbl (C : Mem) (w : Value) (n : Nat) (T : Nat → Nat → Nat) : Prop := ∃ vs : List Value, vs.length = n ∧ Sl C 1 w (vs.map fun v => [v]) ∧ ∀ i v, vs[i]? = some v → Sl C 1 v (((List.range n).map (T i)).map encN)
theorem Tbl.mono {C D : Mem} {w : Value} {n : Nat} {T : Nat → Nat → Nat} (h : Tbl C w n T) (hl : C.le D) : Tbl D w n T :=
  let ⟨vs, h1, h2, h3⟩ := h
  ⟨vs, h1, h2.mono hl, fun i v hv => (h3 i v hv).mono hl⟩
/-- Its rows, while they are made. -/
def RowsAre (R : List (Value × List Nat)) (ws : List Value) (n : Nat) (g : Nat → Nat → Nat) : Prop := R.map (·.1) = ws ∧ ∀ j r, R[j]? = some r → r.2 = (List.range n).map (g j)
theorem RowsAre.cong {R : List (Value × List Nat)} {ws : List Value} {n : Nat} {g g' : Nat → Nat → Nat} (h : RowsAre R ws n g) (hc : ∀ j v, j < ws.length → v < n → g j v = g' j v) : RowsAre R ws n g' :=
  ⟨h.1, fun j r hr => by
    rw [h.2 j r hr]
    have hj : j < ws.length := by rw [← h.1, List.length_map]; exact (List.getElem?_eq_some_iff.1 hr).1
    exact List.map_congr_left (fun v hv => hc j v hj (List.mem_range.1 hv))⟩
theorem map_range_set {n b y : Nat} {f : Nat → Nat} (hb : b < n) : ((List.range n).map f).set b y = (List.range n).map (fun v => if v = b then y else f v) := by
  refine List.ext_getElem (by simp) (fun i h1 h2 => ?_)
  simp only [List.getElem_set, List.getElem_map, List.getElem_range]
  by_cases e : b = i
  · subst e; simp
  · rw [if_neg e, if_neg (Ne.symm e)]
theorem RowsAre.set {R : List (Value × List Nat)} {ws : List Value} {n c b y : Nat} {g : Nat → Nat → Nat} {r : Value × List Nat} (h : RowsAre R ws n g) (hr : R[c]? = some r) (hb : b < n) :
    RowsAre (R.set c (r.1, r.2.set b y)) ws n (fun j v => if j = c ∧ v = b then y else g j v) := by
  refine ⟨?_, fun j r' hr' => ?_⟩
  · rw [← h.1, List.map_set]
    have h1 : (R.map (·.1))[c]? = some r.1 := by rw [List.getElem?_map, hr]; rfl
    obtain ⟨h2, h3⟩ := List.getElem?_eq_some_iff.1 h1
    simp only
    rw [← h3]; exact List.set_getElem_self h2
  · rw [List.getElem?_set] at hr'
    split at hr'
    · rename_i e
      subst e
      split at hr'
      · cases hr'
        simp only
        rw [h.2 c r hr, map_range_set hb]
        exact List.map_congr_left (fun v _ => by simp)
      · cases hr'
    · rename_i e
      rw [h.2 j r' hr']
      exact List.map_congr_left (fun v _ => by simp only; rw [if_neg (fun h => e h.1.symm)])
theorem rowT_snoc {f : Nat → Nat → Nat} {c v : Nat} {a : Arc3} : ∀ {l : List Arc3} {x : Nat}, Jog.rowT f c v (l ++ [a]) x = if a.up = v then addW (f c a.lo) (decide (c = a.lo)) (Jog.rowT f c v l x) else Jog.rowT f c v l x
  | [], x => rfl
  | b :: l, x => by simp only [List.cons_append, Jog.rowT]; exact rowT_snoc
theorem tab_le (A : List Arc3) {k : Nat} (hk : k ≤ 8) (c v : Nat) : Jog.tab A k c v ≤ 8 := by
  rcases tab_long A k hk c v with ⟨h, _⟩ | ⟨_, h, _⟩ <;> omega
theorem nats_flat (l : List Nat) : (l.map encN).flatten = l.map intN := flatten_map1 intN l

theorem hAt_self {l : List Nat} {p : Nat} (h : p < l.length) : l.set p (hAt l p) = l := by
  have h1 := get_hAt h
  obtain ⟨h2, h3⟩ := List.getElem?_eq_some_iff.1 h1
  conv => lhs; rw [← h3]
  exact List.set_getElem_self h2
theorem nil_rep (n : Nat) : zrow [Value.slice none 0 0] n = List.replicate n (Value.slice none 0 0) := by rw [zrow_rep]
theorem nat_oneB (l : List Nat) : (l.map encN).all (fun r => r.all oneB) = true := by simp [encN, oneB]
theorem fillv {vs : List Value} {n i : Nat} {x : Value} (hl : vs.length = i) (hi : i < n) : storeInto (vs ++ List.replicate (n - i) (Value.slice none 0 0)) [x] i = (vs ++ [x]) ++ List.replicate (n - (i + 1)) (Value.slice none 0 0) := by
  obtain ⟨d, hd⟩ : ∃ d, n - i = d + 1 := ⟨n - i - 1, by omega⟩
  rw [hd, show n - (i + 1) = d by omega, List.replicate_succ]
  have h1 := row_write (enc := fun v : Value => [v]) (s := 1) (fun _ => rfl) (l := vs ++ Value.slice none 0 0 :: List.replicate d (Value.slice none 0 0)) (i := i) x (by simp [hl])
  rw [row1, row1, Nat.mul_one] at h1
  rw [h1, List.set_append_right _ _ (by omega), hl, Nat.sub_self]
  simp
theorem Tbl.zero {C : Mem} {w : Value} {n : Nat} {A : List Arc3} {vs : List Value} (hl : vs.length = n) (hw : Sl C 1 w (vs.map fun v => [v])) (h : ∀ v ∈ vs, Sl C 1 v ((List.replicate n 0).map encN)) : Tbl C w n (Jog.tab A 0) :=
  ⟨vs, hl, hw, fun i v hv => by
    have e : (List.range n).map (Jog.tab A 0 i) = List.replicate n 0 := by
      refine List.ext_getElem (by simp) (fun j h1 h2 => ?_)
      simp [Jog.tab]
    rw [e]; exact h v (List.mem_of_getElem? hv)⟩
theorem idxS_pos {N : List Str} {s : Str} (h : s ∈ N) : idxS N s = (posS N s : Int) := by unfold idxS; rw [if_pos h]

theorem lindex_pos (C : Mem) (v : Value) (N : List Str) (s : Str) {p : Nat} (hv : Sl C 1 v (N.map encS)) (hl : N.length ≤ 1000000) (h : s ∈ N) (hp : posS N s = p) : Gives cx.P 43 [v, strV s] C (.int .i64 (p : Int)) := by
  have := lindex_fn C v N s hv hl
  rw [idxS_pos h, hp] at this
  exact this

set_option maxHeartbeats 8000000 in
theorem reach_fn (C : Mem) (v : Value) (l : List Rel) (hv : Sl C 3 v (l.map Rel.enc)) (hl : l.length ≤ 100000) : Pur cx.P 42 [v] C fun u C' => Tbl C' u (unitsL l).length (Jog.tab (arcsOf l) 8) := by
  obtain ⟨A, hA⟩ : ∃ A, arcsOf l = A := ⟨_, rfl⟩
  obtain ⟨N, hN⟩ : ∃ N, unitsL l = N := ⟨_, rfl⟩
  have hok := gok_of hl
  rw [hA, hN] at hok ⊢
  have hb := hok.below
  have hNl := hok.names
  have hv0 := hv
  obtain ⟨Al, cl, rfl, _⟩ := hv0
  simp only [List.length_map] at hv ⊢
  refine Fn.intro (by kernel_rfl) Tryd.func42 rfl 134 rfl rfl (fun w0 => ?_)
  refine G.region rfl (fun R hR => ?_)
  refine D.pure rfl rfl rfl rfl rfl rfl ?_
  refine D.done [(0, [], _)] ⟨rfl, trivial⟩ (hR _ _ _ rfl ?_); clear hR R
  refine G.region rfl (fun R hR => ?_)
  refine D.pure rfl rfl rfl rfl rfl rfl ?_
  refine D.callP (lunits_fn _ _ l hv hl) rfl rfl rfl rfl rfl rfl rfl (fun _ => rfl) (fun v14 C14 hle14 hq14 => ?_)
  rw [hN] at hq14
  obtain ⟨An, cn, rfl, _⟩ := id hq14
  simp only [List.length_map] at hq14 ⊢
  refine D.pure rfl rfl rfl rfl rfl rfl ?_
  refine D.done [(0, [], _), (3, [], _)] ⟨rfl, rfl, trivial⟩ (hR _ _ _ rfl ?_); clear hR R
  refine G.region rfl (fun R hR => ?_)
  iterate 2 refine D.pure rfl rfl rfl rfl rfl rfl ?_
  refine D.makeArr rfl rfl rfl rfl rfl rfl rfl rfl rfl (Nat.le_refl _) (by show 24 * N.length ≤ 281474976710656; omega) (by simp only [maxLen]; omega) (fun _ => rfl) (fun b17 => ?_)
  refine D.pure rfl rfl rfl rfl rfl rfl ?_
  refine D.done [(0, [], _), (3, [], _), (4, [], _)] ⟨rfl, rfl, rfl, trivial⟩ (hR _ _ _ rfl ?_); clear hR R
  refine G.region rfl (fun R hR => ?_)
  refine D.pure rfl rfl rfl rfl rfl rfl ?_
  refine D.done [(0, [], _), (3, [], _), (4, [], _), (5, [], _)] ⟨rfl, rfl, rfl, rfl, trivial⟩ (hR _ _ _ rfl ?_); clear hR R
  refine G.eqL (L' := [.arr (.slice (some ⟨b17, 0, none⟩) N.length N.length) 48 1 N.length ([] ++ List.replicate (N.length - 0) (.slice none 0 0))]) (by rw [Nat.sub_zero, List.nil_append, ← nil_rep]; rfl) ?_
  refine G.loop (fun fr C' L' μ => ∃ (i : Nat) (vs : List Value), (i ≤ N.length ∧ vs.length = i ∧ ∀ v ∈ vs, Sl C' 1 v ((List.replicate N.length 0).map encN)) ∧ fr = [(0, [], .slice Al l.length cl), (3, [], .slice An N.length cn), (4, [], .slice (some ⟨b17, 0, none⟩) N.length N.length), (5, [], .int .i64 i)] ∧ L' = [.arr (.slice (some ⟨b17, 0, none⟩) N.length N.length) 48 1 N.length (vs ++ List.replicate (N.length - i) (.slice none 0 0))] ∧ μ = N.length - i) (fr' := [(0, [], _), (3, [], _), (4, [], _), (5, [], _)]) ⟨rfl, rfl, rfl, rfl, trivial⟩ ⟨0, [], ⟨Nat.zero_le _, rfl, fun v hv => by cases hv⟩, rfl, rfl, rfl⟩ (fun fr C0' L0' m hle0 hI => ?_)
  obtain ⟨i, vs, ⟨hi, hvl, hvs⟩, rfl, rfl, rfl⟩ := hI
  refine G.region rfl (fun R hR => ?_)
  iterate 4 refine D.pure rfl rfl rfl rfl rfl rfl ?_
  refine D.done [(0, [], _), (3, [], _), (4, [], _), (5, [], _), (21, [], _)] ⟨rfl, rfl, rfl, rfl, rfl, trivial⟩ (hR _ _ _ rfl ?_); clear hR R
  refine G.cond rfl (fun h21 => ?_) (fun h21 => ?_)
  · skip
    simp only [decide_eq_true_eq] at h21
    have hil : i < N.length := by omega
    refine G.region rfl (fun R hR => ?_)
    iterate 4 refine D.pure rfl rfl rfl rfl rfl rfl ?_
    refine D.makeArr rfl rfl rfl rfl rfl rfl rfl rfl rfl (Nat.le_refl _) (by show 8 * N.length ≤ 281474976710656; omega) (by simp only [maxLen]; omega) (fun _ => rfl) (fun b28 => ?_)
    refine D.indexS (i) rfl rfl rfl rfl rfl rfl rfl rfl rfl rfl (fun _ => ⟨by omega, by omega, (by simp)⟩) rfl rfl ?_
    refine D.storeArr (j := 1) rfl rfl rfl rfl rfl rfl rfl rfl rfl rfl rfl (by simp [hvl]; omega) ?_
    refine D.done [(0, [], _), (3, [], _), (4, [], _), (5, [], _)] ⟨rfl, rfl, rfl, rfl, trivial⟩ (hR _ _ _ rfl ?_); clear hR R
    refine G.region rfl (fun R hR => ?_)
    refine D.pure rfl rfl rfl rfl rfl rfl ?_
    refine D.i64 _ rfl rfl rfl rfl rfl (by omega) (by omega) rfl rfl ?_
    refine D.pure rfl rfl rfl rfl rfl rfl ?_
    refine D.done [(0, [], _), (3, [], _), (4, [], _), (5, [], _)] ⟨rfl, rfl, rfl, rfl, trivial⟩ (hR _ _ _ rfl ?_); clear hR R
    refine G.eqL (L' := [.arr (.slice (some ⟨b17, 0, none⟩) N.length N.length) 48 1 N.length ((vs ++ [.slice (some ⟨b28, 0, none⟩) N.length N.length]) ++ List.replicate (N.length - (i + 1)) (.slice none 0 0)), .arr (.slice (some ⟨b28, 0, none⟩) N.length N.length) 3 1 N.length ((List.replicate N.length 0).map encN).flatten]) (by
      rw [nats_flat, ← nats_rep, ← fillv hvl hil]; rfl) ?_
    refine G.freezeArr 1 ((List.replicate N.length 0).map encN) rfl rfl (by intro r hr; obtain ⟨y, _, rfl⟩ := List.mem_map.1 hr; rfl) (by simp) (fun Cf hf hsd => ?_)
    refine G.again (m' := N.length - (i + 1)) (by omega) (by (repeat (first | exact Mem.le.refl _ | assumption | (apply Mem.le.trans; rotate_left; assumption)))) (fr' := [(0, [], _), (3, [], _), (4, [], _), (5, [], _)]) ⟨rfl, rfl, rfl, rfl, trivial⟩ ⟨i + 1, vs ++ [.slice (some ⟨b28, 0, none⟩) N.length N.length], ⟨by omega, by simp [hvl], fun v hv => by
      rcases List.mem_append.1 hv with h | h
      · exact (hvs v h).mono (by (repeat (first | exact Mem.le.refl _ | assumption | (apply Mem.le.trans; rotate_left; assumption))))
      · rw [List.mem_singleton.1 h]; exact hsd⟩, rfl, rfl, rfl⟩
  · skip
    simp only [decide_eq_false_iff_not] at h21
    have hil : i = N.length := by omega
    subst hil
    refine G.region rfl (fun R hR => ?_)
    refine D.pure rfl rfl rfl rfl rfl rfl ?_
    refine D.done [(0, [], _), (3, [], _), (4, [], _), (6, [], _)] ⟨rfl, rfl, rfl, rfl, trivial⟩ (hR _ _ _ rfl ?_); clear hR R
    refine G.eqL (L' := [.arr (.slice (some ⟨b17, 0, none⟩) N.length N.length) 48 1 N.length ((vs.map fun v => [v]).flatten)]) (by rw [row1, Nat.sub_self]; simp) ?_
    refine G.freezeArr 0 (vs.map fun v => [v]) rfl rfl (by intro r hr; obtain ⟨y, _, rfl⟩ := List.mem_map.1 hr; rfl) (by simp [hvl]) (fun Cf1 hf1 hso => ?_)
    have ht0 : Tbl Cf1 (.slice (some ⟨b17, 0, none⟩) N.length N.length) N.length (Jog.tab A 0) := Tbl.zero hvl hso (fun v hv => (hvs v hv).mono hf1)
    refine G.loop (fun fr C' L' μ => ∃ (k : Nat) (w : Value), (k ≤ 8 ∧ Tbl C' w N.length (Jog.tab A k)) ∧ fr = [(0, [], .slice Al l.length cl), (3, [], .slice An N.length cn), (4, [], w), (6, [], .int .i64 ((k + 1 : Nat) : Int))] ∧ L' = [] ∧ μ = 8 - k) (fr' := [(0, [], _), (3, [], _), (4, [], _), (6, [], _)]) ⟨rfl, rfl, rfl, rfl, trivial⟩ ⟨0, _, ⟨Nat.zero_le _, ht0⟩, rfl, rfl, rfl⟩ (fun fr C1' L1' m hle1 hI => ?_)
    obtain ⟨k, w, ⟨hk8, hT⟩, rfl, rfl, rfl⟩ := hI
    refine G.region rfl (fun R hR => ?_)
    iterate 2 refine D.pure rfl rfl rfl rfl rfl rfl ?_
    refine D.done [(0, [], _), (3, [], _), (4, [], _), (6, [], _), (31, [], _)] ⟨rfl, rfl, rfl, rfl, rfl, trivial⟩ (hR _ _ _ rfl ?_); clear hR R
    refine G.cond rfl (fun h31 => ?_) (fun h31 => ?_)
    · skip
      simp only [decide_eq_true_eq] at h31
      have hk7 : k < 8 := by omega
      have hTk := tab_le A hk8
      obtain ⟨T, hTT⟩ : ∃ T, Jog.tab A k = T := ⟨_, rfl⟩
      rw [hTT] at hT hTk
      obtain ⟨vs2, hvl2, hw, hrow⟩ := hT
      obtain ⟨Aw, cw, rfl, _⟩ := id hw
      simp only [List.length_map, hvl2] at hw ⊢
      refine G.region rfl (fun R hR => ?_)
      iterate 2 refine D.pure rfl rfl rfl rfl rfl rfl ?_
      refine D.makeArr rfl rfl rfl rfl rfl rfl rfl rfl rfl (Nat.le_refl _) (by show 24 * N.length ≤ 281474976710656; omega) (by simp only [maxLen]; omega) (fun _ => rfl) (fun b36 => ?_)
      refine D.pure rfl rfl rfl rfl rfl rfl ?_
      refine D.done [(0, [], _), (3, [], _), (4, [], _), (6, [], _), (7, [], _)] ⟨rfl, rfl, rfl, rfl, rfl, trivial⟩ (hR _ _ _ rfl ?_); clear hR R
      refine G.region rfl (fun R hR => ?_)
      refine D.pure rfl rfl rfl rfl rfl rfl ?_
      refine D.done [(0, [], _), (3, [], _), (4, [], _), (6, [], _), (7, [], _), (8, [], _)] ⟨rfl, rfl, rfl, rfl, rfl, rfl, trivial⟩ (hR _ _ _ rfl ?_); clear hR R
      refine G.eqL (L' := .arr (.slice (some ⟨b36, 0, none⟩) N.length N.length) 48 1 N.length (([] : List (Value × List Nat)).map (·.1) ++ List.replicate (N.length - 0) (.slice none 0 0)) :: ([] : List (Value × List Nat)).map rowN) (by rw [Nat.sub_zero, List.map_nil, List.map_nil, List.nil_append, ← nil_rep]; rfl) ?_
      refine G.loop (fun fr C' L' μ => ∃ (i : Nat) (R : List (Value × List Nat)), (i ≤ N.length ∧ R.length = i ∧ ∀ j r, R[j]? = some r → r.2 = (List.range N.length).map (T j)) ∧ fr = [(0, [], .slice Al l.length cl), (3, [], .slice An N.length cn), (4, [], .slice Aw N.length cw), (6, [], .int .i64 ((k + 1 : Nat) : Int)), (7, [], .slice (some ⟨b36, 0, none⟩) N.length N.length), (8, [], .int .i64 i)] ∧ L' = .arr (.slice (some ⟨b36, 0, none⟩) N.length N.length) 48 1 N.length (R.map (·.1) ++ List.replicate (N.length - i) (.slice none 0 0)) :: R.map rowN ∧ μ = N.length - i) (fr' := [(0, [], _), (3, [], _), (4, [], _), (6, [], _), (7, [], _), (8, [], _)]) ⟨rfl, rfl, rfl, rfl, rfl, rfl, trivial⟩ ⟨0, [], ⟨Nat.zero_le _, rfl, fun j r hr => by simp at hr⟩, rfl, rfl, rfl⟩ (fun fr C2' L2' m hle2 hI => ?_)
      obtain ⟨i, R, ⟨hi2, hRl, hR⟩, rfl, rfl, rfl⟩ := hI
      refine G.region rfl (fun R hR => ?_)
      iterate 4 refine D.pure rfl rfl rfl rfl rfl rfl ?_
      refine D.done [(0, [], _), (3, [], _), (4, [], _), (6, [], _), (7, [], _), (8, [], _), (40, [], _)] ⟨rfl, rfl, rfl, rfl, rfl, rfl, rfl, trivial⟩ (hR _ _ _ rfl ?_); clear hR R
      refine G.cond rfl (fun h40 => ?_) (fun h40 => ?_)
      · skip
        simp only [decide_eq_true_eq] at h40
        have hil : i < N.length := by omega
        obtain ⟨vi, hvi⟩ : ∃ vi, vs2[i]? = some vi := ⟨vs2[i]'(by omega), List.getElem?_eq_getElem (by omega)⟩
        have hri := hrow i vi hvi
        obtain ⟨Ai, ci, rfl, _⟩ := id hri
        simp only [List.length_map, List.length_range] at hri hvi
        have hrv : (vs2.map fun v => [v])[i]? = some [Value.slice Ai N.length ci] := by rw [List.getElem?_map, hvi]; rfl
        refine G.region rfl (fun R hR => ?_)
        iterate 2 refine D.pure rfl rfl rfl rfl rfl rfl ?_
        refine D.buildArr [] rfl rfl rfl rfl rfl rfl rfl rfl rfl rfl rfl rfl (fun _ => rfl) (fun b45 => ?_)
        iterate 2 refine D.pure rfl rfl rfl rfl rfl rfl ?_
        refine D.index0 (hw.mono (by (repeat (first | exact Mem.le.refl _ | assumption | (apply Mem.le.trans; rotate_left; assumption))))) rfl rfl rfl rfl rfl rfl rfl rfl rfl rfl (by omega) hrv (fun _ => rfl) (fun p48 hp48 => ?_)
        refine D.loadP0 hp48 rfl rfl rfl rfl rfl rfl rfl rfl ?_
        refine D.appendF (j := 0) rfl rfl rfl rfl rfl rfl rfl rfl rfl rfl rfl (hri.mono (by (repeat (first | exact Mem.le.refl _ | assumption | (apply Mem.le.trans; rotate_left; assumption))))) (nat_oneB _) (by simp only [List.length_map, List.length_range, List.length_nil, maxLen]; omega) (by simp only [List.length_map, List.length_range, List.length_nil]; omega) (fun _ => rfl) (fun A50 n50 c50 => ?_)
        refine D.indexS (i) rfl rfl rfl rfl rfl rfl rfl rfl rfl rfl (fun _ => ⟨by omega, by omega, (by simp)⟩) rfl rfl ?_
        refine D.storeArr (j := 1) rfl rfl rfl rfl rfl rfl rfl rfl rfl rfl rfl (by simp [hRl]; omega) ?_
        refine D.done [(0, [], _), (3, [], _), (4, [], _), (6, [], _), (7, [], _), (8, [], _)] ⟨rfl, rfl, rfl, rfl, rfl, rfl, trivial⟩ (hR _ _ _ rfl ?_); clear hR R
        refine G.region rfl (fun R hR => ?_)
        refine D.pure rfl rfl rfl rfl rfl rfl ?_
        refine D.i64 _ rfl rfl rfl rfl rfl (by omega) (by omega) rfl rfl ?_
        refine D.pure rfl rfl rfl rfl rfl rfl ?_
        refine D.done [(0, [], _), (3, [], _), (4, [], _), (6, [], _), (7, [], _), (8, [], _)] ⟨rfl, rfl, rfl, rfl, rfl, rfl, trivial⟩ (hR _ _ _ rfl ?_); clear hR R
        refine G.eqL (L' := .arr (.slice (some ⟨b36, 0, none⟩) N.length N.length) 48 1 N.length ((R ++ [(Value.slice A50 n50 c50, (List.range N.length).map (T i))]).map (·.1) ++ List.replicate (N.length - (i + 1)) (.slice none 0 0)) :: rowN (Value.slice A50 n50 c50, (List.range N.length).map (T i)) :: R.map rowN) (by
          rw [List.map_append, List.map_cons, List.map_nil, ← fillv (by rw [List.length_map]; exact hRl) hil]
          simp only [rowN, nats_flat]
          simp) ?_
        refine G.perm (L' := .arr (.slice (some ⟨b36, 0, none⟩) N.length N.length) 48 1 N.length ((R ++ [(Value.slice A50 n50 c50, (List.range N.length).map (T i))]).map (·.1) ++ List.replicate (N.length - (i + 1)) (.slice none 0 0)) :: (R ++ [(Value.slice A50 n50 c50, (List.range N.length).map (T i))]).map rowN) (by rw [List.map_append (f := rowN)]; exact ((List.perm_append_singleton _ _).symm).cons _) ?_
        refine G.again (m' := N.length - (i + 1)) (by omega) (by (repeat (first | exact Mem.le.refl _ | assumption | (apply Mem.le.trans; rotate_left; assumption)))) (fr' := [(0, [], _), (3, [], _), (4, [], _), (6, [], _), (7, [], _), (8, [], _)]) ⟨rfl, rfl, rfl, rfl, rfl, rfl, trivial⟩ ⟨i + 1, R ++ [(Value.slice A50 n50 c50, (List.range N.length).map (T i))], ⟨by omega, by simp [hRl], fun j r hr => by
          rw [List.getElem?_append] at hr
          split at hr
          · exact hR j r hr
          · rename_i h
            rw [List.getElem?_singleton] at hr
            split at hr
            · cases hr
              have : j = i := by omega
              subst this; rfl
            · cases hr⟩, rfl, rfl, rfl⟩
      · skip
        simp only [decide_eq_false_iff_not] at h40
        have hil : i = N.length := by omega
        refine G.region rfl (fun R hR => ?_)
        refine D.pure rfl rfl rfl rfl rfl rfl ?_
        refine D.done [(0, [], _), (3, [], _), (4, [], _), (6, [], _), (7, [], _), (9, [], _)] ⟨rfl, rfl, rfl, rfl, rfl, rfl, trivial⟩ (hR _ _ _ rfl ?_); clear hR R
        refine G.eqL (L' := .arr (.slice (some ⟨b36, 0, none⟩) N.length N.length) 48 1 N.length (((R.map (·.1)).map fun v => [v]).flatten) :: R.map rowN) (by rw [row1, hil, Nat.sub_self]; simp) ?_
        refine G.freezeArr 0 ((R.map (·.1)).map fun v => [v]) rfl rfl (by intro r hr; obtain ⟨y, _, rfl⟩ := List.mem_map.1 hr; rfl) (by simp [hRl, hil]) (fun Cf2 hf2 hnx => ?_)
        have hwl : (R.map (·.1)).length = N.length := by rw [List.length_map, hRl, hil]
        obtain ⟨ws, hws⟩ : ∃ ws, R.map (·.1) = ws := ⟨_, rfl⟩
        rw [hws] at hnx hwl
        refine G.loop (fun fr C' L' μ => ∃ (m : Nat) (R3 : List (Value × List Nat)), (m ≤ l.length ∧ RowsAre R3 ws N.length (fun j v => Jog.rowT T j v (cat (arcAt N l) m) (T j v))) ∧ fr = [(0, [], .slice Al l.length cl), (3, [], .slice An N.length cn), (4, [], .slice Aw N.length cw), (6, [], .int .i64 ((k + 1 : Nat) : Int)), (7, [], .slice (some ⟨b36, 0, none⟩) N.length N.length), (9, [], .int .i64 m)] ∧ L' = R3.map rowN ∧ μ = l.length - m) (fr' := [(0, [], _), (3, [], _), (4, [], _), (6, [], _), (7, [], _), (9, [], _)]) ⟨rfl, rfl, rfl, rfl, rfl, rfl, trivial⟩ ⟨0, R, ⟨Nat.zero_le _, hws, fun j r hr => hR j r hr⟩, rfl, rfl, rfl⟩ (fun fr C3' L3' m hle3 hI => ?_)
        obtain ⟨m, R3, ⟨hm, hR3⟩, rfl, rfl, rfl⟩ := hI
        refine G.region rfl (fun R hR => ?_)
        iterate 4 refine D.pure rfl rfl rfl rfl rfl rfl ?_
        refine D.done [(0, [], _), (3, [], _), (4, [], _), (6, [], _), (7, [], _), (9, [], _), (55, [], _)] ⟨rfl, rfl, rfl, rfl, rfl, rfl, rfl, trivial⟩ (hR _ _ _ rfl ?_); clear hR R
        refine G.cond rfl (fun h55 => ?_) (fun h55 => ?_)
        · skip
          simp only [decide_eq_true_eq] at h55
          have hml : m < l.length := by omega
          obtain ⟨x, hx⟩ : ∃ x, l[m]? = some x := ⟨l[m], List.getElem?_eq_getElem hml⟩
          have hmu := mem_units (List.mem_of_getElem? hx)
          rw [hN] at hmu
          refine G.region rfl (fun R hR => ?_)
          iterate 2 refine D.pure rfl rfl rfl rfl rfl rfl ?_
          refine D.index0 (hv.mono (by (repeat (first | exact Mem.le.refl _ | assumption | (apply Mem.le.trans; rotate_left; assumption))))) rfl rfl rfl rfl rfl rfl rfl rfl rfl rfl (by omega) (row := x.enc) (by simp [hx]) (fun _ => rfl) (fun p60 hp60 => ?_)
          refine D.loadP0 hp60 rfl rfl rfl rfl rfl rfl rfl rfl ?_
          refine D.gives2 (larc_fn _ x) rfl rfl rfl rfl rfl rfl rfl (fun _ => rfl) ?_
          refine D.pure rfl rfl rfl rfl rfl rfl ?_
          refine D.done [(0, [], _), (3, [], _), (4, [], _), (6, [], _), (7, [], _), (9, [], _), (63, [], _)] ⟨rfl, rfl, rfl, rfl, rfl, rfl, rfl, trivial⟩ (hR _ _ _ rfl ?_); clear hR R
          refine G.cond rfl (fun h63 => ?_) (fun h63 => ?_)
          · skip
            have h63' : x.kind = 4 := by simpa using h63
            have hcs : cat (arcAt N l) (m + 1) = cat (arcAt N l) m := by
              rw [cat_succ]; unfold arcAt; rw [hx]; simp [h63', oneIf]
            refine G.region rfl (fun R hR => ?_)
            refine D.pure rfl rfl rfl rfl rfl rfl ?_
            refine D.i64 _ rfl rfl rfl rfl rfl (by omega) (by omega) rfl rfl ?_
            refine D.pure rfl rfl rfl rfl rfl rfl ?_
            refine D.done [(0, [], _), (3, [], _), (4, [], _), (6, [], _), (7, [], _), (9, [], _)] ⟨rfl, rfl, rfl, rfl, rfl, rfl, trivial⟩ (hR _ _ _ rfl ?_); clear hR R
            refine G.again (m' := l.length - (m + 1)) (by omega) (by (repeat (first | exact Mem.le.refl _ | assumption | (apply Mem.le.trans; rotate_left; assumption)))) (fr' := [(0, [], _), (3, [], _), (4, [], _), (6, [], _), (7, [], _), (9, [], _)]) ⟨rfl, rfl, rfl, rfl, rfl, rfl, trivial⟩ ⟨m + 1, R3, ⟨by omega, by rw [hcs]; exact hR3⟩, rfl, rfl, rfl⟩
          · skip
            have h63' : ¬ x.kind = 4 := by simpa using h63
            have hcs : cat (arcAt N l) (m + 1) = cat (arcAt N l) m ++ [⟨m, posS N x.lower, posS N x.upper⟩] := by
              rw [cat_succ]; unfold arcAt; rw [hx]; simp [h63', oneIf]
            obtain ⟨pl, hpl⟩ : ∃ pl, posS N x.lower = pl := ⟨_, rfl⟩
            obtain ⟨pb, hpb⟩ : ∃ pb, posS N x.upper = pb := ⟨_, rfl⟩
            have hpl2 : pl < N.length := by rw [← hpl]; exact posS_lt hmu.1
            have hpb2 : pb < N.length := by rw [← hpb]; exact posS_lt hmu.2
            rw [hpl, hpb] at hcs
            refine G.draw [0, 1, 2, 3, 4, 5, 6, 7, 8, 9, 10, 11, 12, 13, 14, 15] [(6, 1), (13, 1)] rfl (by kernel_rfl) (fun R hB hR => ?_)
            iterate 3 refine D.pure rfl rfl rfl rfl rfl rfl ?_
            refine D.index0 (hv.mono (by (repeat (first | exact Mem.le.refl _ | assumption | (apply Mem.le.trans; rotate_left; assumption))))) rfl rfl rfl rfl rfl rfl rfl rfl rfl rfl (by omega) (row := x.enc) (by simp [hx]) (fun _ => rfl) (fun p67 hp67 => ?_)
            refine D.fieldP0 hp67 rfl rfl rfl rfl rfl rfl rfl rfl rfl rfl (fun _ => rfl) (fun p68 hp68 => ?_)
            refine D.loadP0 hp68 rfl rfl rfl rfl rfl rfl rfl rfl ?_
            refine D.gives (fun _ => (lindex_pos _ _ N x.lower (hq14.mono (by (repeat (first | exact Mem.le.refl _ | assumption | (apply Mem.le.trans; rotate_left; assumption))))) (by omega) hmu.1 hpl)) rfl rfl rfl rfl rfl rfl rfl rfl rfl ?_
            iterate 3 refine D.pure rfl rfl rfl rfl rfl rfl ?_
            refine D.index0 (hv.mono (by (repeat (first | exact Mem.le.refl _ | assumption | (apply Mem.le.trans; rotate_left; assumption))))) rfl rfl rfl rfl rfl rfl rfl rfl rfl rfl (by omega) (row := x.enc) (by simp [hx]) (fun _ => rfl) (fun p74 hp74 => ?_)
            refine D.fieldP0 hp74 rfl rfl rfl rfl rfl rfl rfl rfl rfl rfl (fun _ => rfl) (fun p75 hp75 => ?_)
            refine D.loadP0 hp75 rfl rfl rfl rfl rfl rfl rfl rfl ?_
            refine D.gives (fun _ => (lindex_pos _ _ N x.upper (hq14.mono (by (repeat (first | exact Mem.le.refl _ | assumption | (apply Mem.le.trans; rotate_left; assumption))))) (by omega) hmu.2 hpb)) rfl rfl rfl rfl rfl rfl rfl rfl rfl ?_
            iterate 2 refine D.pure rfl rfl rfl rfl rfl rfl ?_
            refine D.done [(0, [], _), (3, [], _), (4, [], _), (6, [], _), (7, [], _), (9, [], _), (10, [], _), (11, [], _)] ⟨rfl, rfl, rfl, rfl, rfl, rfl, rfl, rfl, trivial⟩ (hR _ _ _ rfl ?_); clear hR hB R
            refine G.region rfl (fun R hR => ?_)
            refine D.pure rfl rfl rfl rfl rfl rfl ?_
            refine D.done [(0, [], _), (3, [], _), (4, [], _), (6, [], _), (7, [], _), (9, [], _), (10, [], _), (11, [], _), (12, [], _)] ⟨rfl, rfl, rfl, rfl, rfl, rfl, rfl, rfl, rfl, trivial⟩ (hR _ _ _ rfl ?_); clear hR R
            obtain ⟨TO, hTO⟩ : ∃ TO : Nat → Nat → Nat, (fun j v => Jog.rowT T j v (cat (arcAt N l) m) (T j v)) = TO := ⟨_, rfl⟩
            rw [hTO] at hR3
            obtain ⟨TN, hTN⟩ : ∃ TN : Nat → Nat → Nat, (fun j v => if v = pb then addW (T j pl) (decide (j = pl)) (TO j v) else TO j v) = TN := ⟨_, rfl⟩
            have hTN2 : (fun j v => Jog.rowT T j v (cat (arcAt N l) (m + 1)) (T j v)) = TN := by
              rw [← hTN, ← hTO]
              funext j v
              rw [hcs, rowT_snoc]
              simp only
              by_cases e : v = pb
              · rw [if_pos e, if_pos e.symm]
              · rw [if_neg e, if_neg (Ne.symm e)]
            refine G.loop (fun fr C' L' μ => ∃ (c : Nat) (R4 : List (Value × List Nat)), (c ≤ N.length ∧ RowsAre R4 ws N.length (fun j v => if j < c then TN j v else TO j v)) ∧ fr = [(0, [], .slice Al l.length cl), (3, [], .slice An N.length cn), (4, [], .slice Aw N.length cw), (6, [], .int .i64 ((k + 1 : Nat) : Int)), (7, [], .slice (some ⟨b36, 0, none⟩) N.length N.length), (9, [], .int .i64 m), (10, [], .int .i64 pl), (11, [], .int .i64 pb), (12, [], .int .i64 c)] ∧ L' = R4.map rowN ∧ μ = N.length - c) (fr' := [(0, [], _), (3, [], _), (4, [], _), (6, [], _), (7, [], _), (9, [], _), (10, [], _), (11, [], _), (12, [], _)]) ⟨rfl, rfl, rfl, rfl, rfl, rfl, rfl, rfl, rfl, trivial⟩ ⟨0, R3, ⟨Nat.zero_le _, hR3.cong (fun j v _ _ => by simp)⟩, rfl, rfl, rfl⟩ (fun fr C4' L4' m hle4 hI => ?_)
            obtain ⟨c, R4, ⟨hc, hR4⟩, rfl, rfl, rfl⟩ := hI
            refine G.region rfl (fun R hR => ?_)
            iterate 4 refine D.pure rfl rfl rfl rfl rfl rfl ?_
            refine D.done [(0, [], _), (3, [], _), (4, [], _), (6, [], _), (7, [], _), (9, [], _), (10, [], _), (11, [], _), (12, [], _), (81, [], _)] ⟨rfl, rfl, rfl, rfl, rfl, rfl, rfl, rfl, rfl, rfl, trivial⟩ (hR _ _ _ rfl ?_); clear hR R
            refine G.cond rfl (fun h81 => ?_) (fun h81 => ?_)
            · skip
              simp only [decide_eq_true_eq] at h81
              have hcl : c < N.length := by omega
              have hR4l : R4.length = N.length := by rw [← hwl, ← hR4.1, List.length_map]
              obtain ⟨⟨r1, row⟩, hr⟩ : ∃ r, R4[c]? = some r := ⟨R4[c]'(by omega), List.getElem?_eq_getElem (by omega)⟩
              have hrn : row = (List.range N.length).map (TO c) := by
                have := hR4.2 c _ hr
                simp only [Nat.lt_irrefl, if_false] at this
                exact this
              have hrl : row.length = N.length := by rw [hrn]; simp
              have hx0 : hAt row pb = TO c pb := by rw [hrn]; simp [hAt, List.getD_eq_getElem?_getD, hpb2]
              have hwc : (ws.map fun v => [v])[c]? = some [r1] := by rw [← hR4.1, List.getElem?_map, List.getElem?_map, hr]; rfl
              obtain ⟨vc, hvc⟩ : ∃ vc, vs2[c]? = some vc := ⟨vs2[c]'(by omega), List.getElem?_eq_getElem (by omega)⟩
              have hrc := hrow c vc hvc
              obtain ⟨Ac, cc2, rfl, _⟩ := id hrc
              simp only [List.length_map, List.length_range] at hrc hvc
              have hrcv : (vs2.map fun v => [v])[c]? = some [Value.slice Ac N.length cc2] := by rw [List.getElem?_map, hvc]; rfl
              have hrcell : (((List.range N.length).map (T c)).map encN)[pl]? = some (encN (T c pl)) := by simp [hpl2]
              have hT8 := hTk c pl
              have key : ∀ y, y = addW (T c pl) (decide (c = pl)) (hAt row pb) → RowsAre (R4.set c (r1, row.set pb y)) ws N.length (fun j v => if j < c + 1 then TN j v else TO j v) := fun y hy => (hR4.set hr hpb2).cong (fun j v _ _ => by
                rcases Nat.lt_trichotomy j c with h | h | h
                · rw [if_neg (by omega), if_pos h, if_pos (by omega)]
                · subst h
                  rw [if_pos (Nat.lt_succ_self _), ← hTN]
                  by_cases e : v = pb
                  · subst e; rw [if_pos ⟨rfl, rfl⟩]; simp only [if_true]; rw [hy, hx0]
                  · rw [if_neg (fun h => e h.2), if_neg (Nat.lt_irrefl _)]; simp only; rw [if_neg e]
                · rw [if_neg (by omega), if_neg (by omega), if_neg (by omega)])
              refine G.perm (L' := rowN (r1, row) :: (R4.map rowN).eraseIdx c) (ent_perm (by rw [List.getElem?_map, hr]; rfl)) ?_
              have hfin : ∀ y, (rowN (r1, row.set pb y) :: (R4.map rowN).eraseIdx c).Perm ((R4.set c (r1, row.set pb y)).map rowN) := fun y => rowsN_perm hr
              obtain ⟨rest, hrest⟩ : ∃ rest, (R4.map rowN).eraseIdx c = rest := ⟨_, rfl⟩
              rw [hrest] at hfin ⊢
              refine G.rowForm 0 (m := N.length - 1) (v := r1) (t := 3) (s := 1) (xs := row.map intN) (by show some (rowN (r1, row)) = _; unfold rowN; simp only [hrl]; rw [show N.length - 1 + 1 = N.length by omega]) (fun g0 cc hgc => ?_)
              rw [show N.length - 1 + 1 = N.length by omega] at hgc
              subst hgc
              refine G.eqL (L' := .arr (.slice (some ⟨g0, 0, none⟩) N.length cc) 3 1 N.length (row.map intN) :: rest) (by unfold rowN; simp only [hrl]) ?_
              refine G.region rfl (fun R hR => ?_)
              iterate 3 refine D.pure rfl rfl rfl rfl rfl rfl ?_
              refine D.done [(0, [], _), (3, [], _), (4, [], _), (6, [], _), (7, [], _), (9, [], _), (10, [], _), (11, [], _), (12, [], _), (86, [], _)] ⟨rfl, rfl, rfl, rfl, rfl, rfl, rfl, rfl, rfl, rfl, trivial⟩ (hR _ _ _ rfl ?_); clear hR R
              refine G.cut (fun fr C' L' μ => ∃ (y : Nat), (y = (if decide (c = pl) = true then max (hAt row pb) 1 else hAt row pb)) ∧ fr = [(0, [], .slice Al l.length cl), (3, [], .slice An N.length cn), (4, [], .slice Aw N.length cw), (6, [], .int .i64 ((k + 1 : Nat) : Int)), (7, [], .slice (some ⟨b36, 0, none⟩) N.length N.length), (9, [], .int .i64 m), (10, [], .int .i64 pl), (11, [], .int .i64 pb), (12, [], .int .i64 c)] ∧ L' = .arr (.slice (some ⟨g0, 0, none⟩) N.length cc) 3 1 N.length ((row.set pb y).map intN) :: rest) ?_ (fun fr C86 L86 μ hle86 hI => ?_)
              · skip
                refine G.cond rfl (fun h86 => ?_) (fun h86 => ?_)
                · skip
                  have h86' : c = pl := by
                    have : (c : Int) = pl := by simpa using h86
                    omega
                  refine G.draw [0, 1, 2, 3, 4, 5, 6, 7, 8, 9, 10, 11, 12, 13, 14] [] rfl (by kernel_rfl) (fun R hB hR => ?_)
                  iterate 2 refine D.pure rfl rfl rfl rfl rfl rfl ?_
                  refine D.index0 (hnx.mono (by (repeat (first | exact Mem.le.refl _ | assumption | (apply Mem.le.trans; rotate_left; assumption))))) rfl rfl rfl rfl rfl rfl rfl rfl rfl rfl (by omega) hwc (fun _ => rfl) (fun p89 hp89 => ?_)
                  refine D.loadP0 hp89 rfl rfl rfl rfl rfl rfl rfl rfl ?_
                  iterate 3 refine D.pure rfl rfl rfl rfl rfl rfl ?_
                  refine D.index0 (hnx.mono (by (repeat (first | exact Mem.le.refl _ | assumption | (apply Mem.le.trans; rotate_left; assumption))))) rfl rfl rfl rfl rfl rfl rfl rfl rfl rfl (by omega) hwc (fun _ => rfl) (fun p94 hp94 => ?_)
                  refine D.loadP0 hp94 rfl rfl rfl rfl rfl rfl rfl rfl ?_
                  refine D.pure rfl rfl rfl rfl rfl rfl ?_
                  refine D.indexS (pb) rfl rfl rfl rfl rfl rfl rfl rfl rfl rfl (fun _ => ⟨by omega, by omega, (by simp)⟩) rfl rfl ?_
                  refine D.loadArr (.head _) rfl rfl rfl rfl rfl rfl (fun _ => (by rw [nats_at (by omega)]; rfl)) rfl rfl ?_
                  refine D.max (((max (hAt row pb) 1 : Nat) : Int)) rfl rfl rfl rfl rfl rfl (by omega) rfl rfl ?_
                  refine D.indexS (pb) rfl rfl rfl rfl rfl rfl rfl rfl rfl rfl (fun _ => ⟨by omega, by omega, (by simp)⟩) rfl rfl ?_
                  refine D.storeArr (j := 0) rfl rfl rfl rfl rfl rfl rfl rfl rfl rfl rfl (by simp; omega) ?_
                  refine D.done [(0, [], _), (3, [], _), (4, [], _), (6, [], _), (7, [], _), (9, [], _), (10, [], _), (11, [], _), (12, [], _)] ⟨rfl, rfl, rfl, rfl, rfl, rfl, rfl, rfl, rfl, trivial⟩ (hR _ _ _ rfl ?_); clear hR hB R
                  refine G.eqL (L' := .arr (.slice (some ⟨g0, 0, none⟩) N.length cc) 3 1 N.length ((row.set pb (max (hAt row pb) 1)).map intN) :: rest) (by rw [← nats_set (by omega)]; rfl) ?_
                  refine G.meet 0 (Mem.le.refl _) (fr' := [(0, [], _), (3, [], _), (4, [], _), (6, [], _), (7, [], _), (9, [], _), (10, [], _), (11, [], _), (12, [], _)]) ⟨rfl, rfl, rfl, rfl, rfl, rfl, rfl, rfl, rfl, trivial⟩ ⟨_, by rw [if_pos (decide_eq_true h86')], rfl, rfl⟩
                · skip
                  have h86' : ¬ c = pl := fun e => by
                    have : ((c : Int) == pl) = true := by simp [e]
                    have h2 : (false : Bool) = true := by rw [← h86]; simpa using this
                    cases h2
                  refine G.eqL (L' := .arr (.slice (some ⟨g0, 0, none⟩) N.length cc) 3 1 N.length ((row.set pb (hAt row pb)).map intN) :: rest) (by rw [hAt_self (by omega)]) ?_
                  refine G.meet 0 (Mem.le.refl _) (fr' := [(0, [], _), (3, [], _), (4, [], _), (6, [], _), (7, [], _), (9, [], _), (10, [], _), (11, [], _), (12, [], _)]) ⟨rfl, rfl, rfl, rfl, rfl, rfl, rfl, rfl, rfl, trivial⟩ ⟨_, by rw [if_neg (by simp [h86'])], rfl, rfl⟩
              · skip
                obtain ⟨y, hy, rfl, rfl⟩ := hI
                refine G.region rfl (fun R hR => ?_)
                iterate 2 refine D.pure rfl rfl rfl rfl rfl rfl ?_
                refine D.index0 (hw.mono (by (repeat (first | exact Mem.le.refl _ | assumption | (apply Mem.le.trans; rotate_left; assumption))))) rfl rfl rfl rfl rfl rfl rfl rfl rfl rfl (by omega) hrcv (fun _ => rfl) (fun p103 hp103 => ?_)
                refine D.loadP0 hp103 rfl rfl rfl rfl rfl rfl rfl rfl ?_
                refine D.pure rfl rfl rfl rfl rfl rfl ?_
                refine D.index0 (hrc.mono (by (repeat (first | exact Mem.le.refl _ | assumption | (apply Mem.le.trans; rotate_left; assumption))))) rfl rfl rfl rfl rfl rfl rfl rfl rfl rfl (by omega) hrcell (fun _ => rfl) (fun p106 hp106 => ?_)
                refine D.loadP0 hp106 rfl rfl rfl rfl rfl rfl rfl rfl ?_
                refine D.pure rfl rfl rfl rfl rfl rfl ?_
                refine D.done [(0, [], _), (3, [], _), (4, [], _), (6, [], _), (7, [], _), (9, [], _), (10, [], _), (11, [], _), (12, [], _), (108, [], _)] ⟨rfl, rfl, rfl, rfl, rfl, rfl, rfl, rfl, rfl, rfl, trivial⟩ (hR _ _ _ rfl ?_); clear hR R
                refine G.cond rfl (fun h108 => ?_) (fun h108 => ?_)
                · skip
                  have h108' : 0 < T c pl := by
                    have : (0 : Int) < (T c pl : Nat) := by simpa using h108
                    omega
                  refine G.draw [0, 1, 2, 3, 4, 5, 6, 7, 8, 9, 10, 11, 12, 13, 14, 15, 16, 17, 18, 19, 20, 21, 22, 23] [] rfl (by kernel_rfl) (fun R hB hR => ?_)
                  iterate 2 refine D.pure rfl rfl rfl rfl rfl rfl ?_
                  refine D.index0 (hnx.mono (by (repeat (first | exact Mem.le.refl _ | assumption | (apply Mem.le.trans; rotate_left; assumption))))) rfl rfl rfl rfl rfl rfl rfl rfl rfl rfl (by omega) hwc (fun _ => rfl) (fun p111 hp111 => ?_)
                  refine D.loadP0 hp111 rfl rfl rfl rfl rfl rfl rfl rfl ?_
                  iterate 3 refine D.pure rfl rfl rfl rfl rfl rfl ?_
                  refine D.index0 (hnx.mono (by (repeat (first | exact Mem.le.refl _ | assumption | (apply Mem.le.trans; rotate_left; assumption))))) rfl rfl rfl rfl rfl rfl rfl rfl rfl rfl (by omega) hwc (fun _ => rfl) (fun p116 hp116 => ?_)
                  refine D.loadP0 hp116 rfl rfl rfl rfl rfl rfl rfl rfl ?_
                  refine D.pure rfl rfl rfl rfl rfl rfl ?_
                  refine D.indexS (pb) rfl rfl rfl rfl rfl rfl rfl rfl rfl rfl (fun _ => ⟨by omega, by omega, (by simp)⟩) rfl rfl ?_
                  refine D.loadArr (.head _) rfl rfl rfl rfl rfl rfl (fun _ => (by rw [nats_at (by rw [List.length_set]; omega), hAt_set (by omega), if_pos rfl]; rfl)) rfl rfl ?_
                  iterate 2 refine D.pure rfl rfl rfl rfl rfl rfl ?_
                  refine D.index0 (hw.mono (by (repeat (first | exact Mem.le.refl _ | assumption | (apply Mem.le.trans; rotate_left; assumption))))) rfl rfl rfl rfl rfl rfl rfl rfl rfl rfl (by omega) hrcv (fun _ => rfl) (fun p123 hp123 => ?_)
                  refine D.loadP0 hp123 rfl rfl rfl rfl rfl rfl rfl rfl ?_
                  refine D.pure rfl rfl rfl rfl rfl rfl ?_
                  refine D.index0 (hrc.mono (by (repeat (first | exact Mem.le.refl _ | assumption | (apply Mem.le.trans; rotate_left; assumption))))) rfl rfl rfl rfl rfl rfl rfl rfl rfl rfl (by omega) hrcell (fun _ => rfl) (fun p126 hp126 => ?_)
                  refine D.loadP0 hp126 rfl rfl rfl rfl rfl rfl rfl rfl ?_
                  refine D.i64 _ rfl rfl rfl rfl rfl (by omega) (by omega) rfl rfl ?_
                  refine D.min (((min 8 (T c pl + 1) : Nat) : Int)) rfl rfl rfl rfl rfl rfl (by omega) rfl rfl ?_
                  refine D.max (((max y (min 8 (T c pl + 1)) : Nat) : Int)) rfl rfl rfl rfl rfl rfl (by omega) rfl rfl ?_
                  refine D.indexS (pb) rfl rfl rfl rfl rfl rfl rfl rfl rfl rfl (fun _ => ⟨by omega, by omega, (by simp)⟩) rfl rfl ?_
                  refine D.storeArr (j := 0) rfl rfl rfl rfl rfl rfl rfl rfl rfl rfl rfl (by simp; omega) ?_
                  refine D.done [(0, [], _), (3, [], _), (4, [], _), (6, [], _), (7, [], _), (9, [], _), (10, [], _), (11, [], _), (12, [], _)] ⟨rfl, rfl, rfl, rfl, rfl, rfl, rfl, rfl, rfl, trivial⟩ (hR _ _ _ rfl ?_); clear hR hB R
                  refine G.region rfl (fun R hR => ?_)
                  refine D.pure rfl rfl rfl rfl rfl rfl ?_
                  refine D.i64 _ rfl rfl rfl rfl rfl (by omega) (by omega) rfl rfl ?_
                  refine D.pure rfl rfl rfl rfl rfl rfl ?_
                  refine D.done [(0, [], _), (3, [], _), (4, [], _), (6, [], _), (7, [], _), (9, [], _), (10, [], _), (11, [], _), (12, [], _)] ⟨rfl, rfl, rfl, rfl, rfl, rfl, rfl, rfl, rfl, trivial⟩ (hR _ _ _ rfl ?_); clear hR R
                  have hyy : max y (min 8 (T c pl + 1)) = addW (T c pl) (decide (c = pl)) (hAt row pb) := by unfold addW; rw [hy, if_pos h108']
                  refine G.eqL (L' := rowN (.slice (some ⟨g0, 0, none⟩) N.length cc, row.set pb (max y (min 8 (T c pl + 1)))) :: rest) (by
                    unfold rowN
                    simp only [List.length_set, hrl]
                    rw [show row.set pb (max y (min 8 (T c pl + 1))) = (row.set pb y).set pb (max y (min 8 (T c pl + 1))) by rw [List.set_set], ← nats_set (l := row.set pb y) (by rw [List.length_set]; omega)]; rfl) ?_
                  refine G.perm _ (hfin _) ?_
                  refine G.again (m' := N.length - (c + 1)) (by omega) (by (repeat (first | exact Mem.le.refl _ | assumption | (apply Mem.le.trans; rotate_left; assumption)))) (fr' := [(0, [], _), (3, [], _), (4, [], _), (6, [], _), (7, [], _), (9, [], _), (10, [], _), (11, [], _), (12, [], _)]) ⟨rfl, rfl, rfl, rfl, rfl, rfl, rfl, rfl, rfl, trivial⟩ ⟨c + 1, _, ⟨by omega, key _ hyy⟩, rfl, rfl, rfl⟩
                · skip
                  have h108' : T c pl = 0 := by
                    have : ¬ (0 : Int) < (T c pl : Nat) := by simpa using h108
                    omega
                  refine G.region rfl (fun R hR => ?_)
                  refine D.pure rfl rfl rfl rfl rfl rfl ?_
                  refine D.i64 _ rfl rfl rfl rfl rfl (by omega) (by omega) rfl rfl ?_
                  refine D.pure rfl rfl rfl rfl rfl rfl ?_
                  refine D.done [(0, [], _), (3, [], _), (4, [], _), (6, [], _), (7, [], _), (9, [], _), (10, [], _), (11, [], _), (12, [], _)] ⟨rfl, rfl, rfl, rfl, rfl, rfl, rfl, rfl, rfl, trivial⟩ (hR _ _ _ rfl ?_); clear hR R
                  have hyy : y = addW (T c pl) (decide (c = pl)) (hAt row pb) := by unfold addW; rw [h108', hy]; simp
                  refine G.eqL (L' := rowN (.slice (some ⟨g0, 0, none⟩) N.length cc, row.set pb y) :: rest) (by unfold rowN; simp only [List.length_set, hrl]) ?_
                  refine G.perm _ (hfin _) ?_
                  refine G.again (m' := N.length - (c + 1)) (by omega) (by (repeat (first | exact Mem.le.refl _ | assumption | (apply Mem.le.trans; rotate_left; assumption)))) (fr' := [(0, [], _), (3, [], _), (4, [], _), (6, [], _), (7, [], _), (9, [], _), (10, [], _), (11, [], _), (12, [], _)]) ⟨rfl, rfl, rfl, rfl, rfl, rfl, rfl, rfl, rfl, trivial⟩ ⟨c + 1, _, ⟨by omega, key _ hyy⟩, rfl, rfl, rfl⟩
            · skip
              simp only [decide_eq_false_iff_not] at h81
              have hcl : c = N.length := by omega
              refine G.region rfl (fun R hR => ?_)
              refine D.pure rfl rfl rfl rfl rfl rfl ?_
              refine D.i64 _ rfl rfl rfl rfl rfl (by omega) (by omega) rfl rfl ?_
              refine D.pure rfl rfl rfl rfl rfl rfl ?_
              refine D.done [(0, [], _), (3, [], _), (4, [], _), (6, [], _), (7, [], _), (9, [], _)] ⟨rfl, rfl, rfl, rfl, rfl, rfl, trivial⟩ (hR _ _ _ rfl ?_); clear hR R
              refine G.again (m' := l.length - (m + 1)) (by omega) (by (repeat (first | exact Mem.le.refl _ | assumption | (apply Mem.le.trans; rotate_left; assumption)))) (fr' := [(0, [], _), (3, [], _), (4, [], _), (6, [], _), (7, [], _), (9, [], _)]) ⟨rfl, rfl, rfl, rfl, rfl, rfl, trivial⟩ ⟨m + 1, R4, ⟨by omega, by rw [hTN2]; exact hR4.cong (fun j v hj _ => by rw [if_pos (by omega)])⟩, rfl, rfl, rfl⟩
        · skip
          simp only [decide_eq_false_iff_not] at h55
          have hml : m = l.length := by omega
          have hcA : cat (arcAt N l) m = A := by rw [hml, ← hA, arcsOf, hN]; rfl
          rw [hcA] at hR3
          refine G.region rfl (fun R hR => ?_)
          iterate 2 refine D.pure rfl rfl rfl rfl rfl rfl ?_
          refine D.done [(0, [], _), (3, [], _), (4, [], _), (6, [], _)] ⟨rfl, rfl, rfl, rfl, trivial⟩ (hR _ _ _ rfl ?_); clear hR R
          refine G.region rfl (fun R hR => ?_)
          refine D.pure rfl rfl rfl rfl rfl rfl ?_
          refine D.i64 _ rfl rfl rfl rfl rfl (by omega) (by omega) rfl rfl ?_
          refine D.pure rfl rfl rfl rfl rfl rfl ?_
          refine D.done [(0, [], _), (3, [], _), (4, [], _), (6, [], _)] ⟨rfl, rfl, rfl, rfl, trivial⟩ (hR _ _ _ rfl ?_); clear hR R
          refine G.eqL (L' := R3.map rowN ++ []) (by simp) (G.freezeRowsN R3 (fun Cf3 hf3 hsr => ?_))
          refine G.again (m' := 8 - (k + 1)) (by omega) (by (repeat (first | exact Mem.le.refl _ | assumption | (apply Mem.le.trans; rotate_left; assumption)))) (fr' := [(0, [], _), (3, [], _), (4, [], _), (6, [], _)]) ⟨rfl, rfl, rfl, rfl, trivial⟩ ⟨k + 1, _, ⟨by omega, ws, hwl, hnx.mono (by (repeat (first | exact Mem.le.refl _ | assumption | (apply Mem.le.trans; rotate_left; assumption)))), fun i v hv => by
            rw [← hR3.1, List.getElem?_map] at hv
            cases hr : R3[i]? with
            | none => rw [hr] at hv; cases hv
            | some r =>
              rw [hr] at hv
              cases hv
              have h1 := hsr r (List.mem_of_getElem? hr)
              rw [hR3.2 i r hr] at h1
              rw [show Jog.tab A (k + 1) i = fun v => Jog.rowT T i v A (T i v) by rw [← hTT]; rfl]
              exact h1⟩, rfl, rfl, rfl⟩
    · skip
      simp only [decide_eq_false_iff_not] at h31
      have hk : k = 8 := by omega
      subst hk
      refine G.region rfl (fun R hR => ?_)
      iterate 2 refine D.pure rfl rfl rfl rfl rfl rfl ?_
      refine D.done [(2, [], _)] ⟨rfl, trivial⟩ (hR _ _ _ rfl ?_); clear hR R
      refine G.retN (G.dropAll (G.fin1 rfl rfl ?_))
      exact ⟨rfl, hT⟩
end Go.Proofs.YtddjibfmnkcalaaDoor
namespace Go.Proofs.YtddjibfmnkcalaaDoor
open Go Go.Jog
set_option maxRecDepth 100000

theorem arcsOf_len (l : List Rel) : (arcsOf l).length ≤ l.length := arcAt_len (unitsL l) l l.length
theorem back_small {A : List Arc3} (hinj : ∀ a ∈ A, ∀ b ∈ A, a.i = b.i → a = b) (h : Back A) : ∃ k w, 0 < k ∧ k ≤ A.length ∧ Walk A k w w := by
  obtain ⟨k, w, h1, h2⟩ := h
  obtain ⟨p, hc, _, hnd⟩ := cyc_of_walk h1 h2 hinj
  obtain ⟨u, h3, h4⟩ := hc.walk
  refine ⟨p.length, u, h3, ?_, h4⟩
  obtain ⟨a, q, rfl, hi, _, _⟩ := hc
  have hn : (a :: q).Nodup := by
    have : ((a :: q).map (·.lo)).Nodup := hnd
    exact List.Pairwise.of_map _ (fun x y h e => h (by rw [e])) this
  exact List.Nodup.length_le_of_subset hn (fun x hx => hi x hx)
theorem tab_back {A : List Arc3} {n : Nat} (hb : Below n A) (hinj : ∀ a ∈ A, ∀ b ∈ A, a.i = b.i → a = b) (h8 : A.length ≤ 8) : Back A ↔ ∃ i, i < n ∧ 0 < Jog.tab A 8 i i := by
  constructor
  · intro h
    obtain ⟨k, w, h1, h2, h3⟩ := back_small hinj h
    refine ⟨w, ?_, ?_⟩
    · obtain ⟨j, rfl⟩ : ∃ j, k = j + 1 := ⟨k - 1, by omega⟩
      obtain ⟨a, ha, rfl, _⟩ := Walk.succ.1 h3
      exact (hb a ha).1
    · rcases tab_long A 8 (Nat.le_refl _) w w with ⟨_, h4⟩ | ⟨h4, _⟩
      · exact absurd h3 (h4 k h1 (by omega))
      · omega
  · rintro ⟨i, _, h⟩
    rcases tab_long A 8 (Nat.le_refl _) i i with ⟨h4, _⟩ | ⟨h4, _, h5, _⟩
    · omega
    · exact ⟨_, i, h4, h5⟩

theorem cyclic_fn (C : Mem) (v : Value) (l : List Rel) (hv : Sl C 3 v (l.map Rel.enc)) (hl : l.length ≤ 8) : Pur cx.P 17 [v] C fun u _ => ∃ b, u = .bool b ∧ (b = true ↔ Back (arcsOf l)) := by
  obtain ⟨n, hn⟩ : ∃ n, (unitsL l).length = n := ⟨_, rfl⟩
  have hok := gok_of (l := l) (by omega)
  have hiff := tab_back hok.below (fun a ha b hb => hok.ix.inj a ha b hb) (by have := arcsOf_len l; omega)
  rw [hn] at hiff
  have hNl := hok.names
  rw [hn] at hNl
  refine Fn.intro (by kernel_rfl) Tryd.func17 rfl 21 rfl rfl (fun w0 => ?_)
  refine G.region rfl (fun R hR => ?_)
  refine D.pure rfl rfl rfl rfl rfl rfl ?_
  refine D.done [(0, [], _)] ⟨rfl, trivial⟩ (hR _ _ _ rfl ?_); clear hR R
  refine G.region rfl (fun R hR => ?_)
  refine D.pure rfl rfl rfl rfl rfl rfl ?_
  refine D.callP (reach_fn _ _ l hv (by omega)) rfl rfl rfl rfl rfl rfl rfl (fun _ => rfl) (fun v6 C6 hle6 hq6 => ?_)
  rw [hn] at hq6
  obtain ⟨vs, hvl, hw, hrow⟩ := hq6
  obtain ⟨Aw, cw, rfl, _⟩ := id hw
  simp only [List.length_map, hvl] at hw ⊢
  refine D.pure rfl rfl rfl rfl rfl rfl ?_
  refine D.done [(3, [], _)] ⟨rfl, trivial⟩ (hR _ _ _ rfl ?_); clear hR R
  refine G.region rfl (fun R hR => ?_)
  refine D.pure rfl rfl rfl rfl rfl rfl ?_
  refine D.done [(3, [], _), (4, [], _)] ⟨rfl, rfl, trivial⟩ (hR _ _ _ rfl ?_); clear hR R
  refine G.loop (fun fr C' L' μ => ∃ (i : Nat), (i ≤ n ∧ ∀ j, j < i → Jog.tab (arcsOf l) 8 j j = 0) ∧ fr = [(3, [], .slice Aw n cw), (4, [], .int .i64 i)] ∧ L' = [] ∧ μ = n - i) (fr' := [(3, [], _), (4, [], _)]) ⟨rfl, rfl, trivial⟩ ⟨0, ⟨Nat.zero_le _, fun j h => by omega⟩, rfl, rfl, rfl⟩ (fun fr C0' L0' m hle0 hI => ?_)
  obtain ⟨i, ⟨hi, hz⟩, rfl, rfl, rfl⟩ := hI
  refine G.region rfl (fun R hR => ?_)
  iterate 4 refine D.pure rfl rfl rfl rfl rfl rfl ?_
  refine D.done [(3, [], _), (4, [], _), (10, [], _)] ⟨rfl, rfl, rfl, trivial⟩ (hR _ _ _ rfl ?_); clear hR R
  refine G.cond rfl (fun h10 => ?_) (fun h10 => ?_)
  · skip
    simp only [decide_eq_true_eq] at h10
    have hil : i < n := by omega
    obtain ⟨vc, hvc⟩ : ∃ vc, vs[i]? = some vc := ⟨vs[i]'(by omega), List.getElem?_eq_getElem (by omega)⟩
    have hrc := hrow i vc hvc
    obtain ⟨Ac, cc2, rfl, _⟩ := id hrc
    simp only [List.length_map, List.length_range] at hrc hvc
    have hrcv : (vs.map fun v => [v])[i]? = some [Value.slice Ac n cc2] := by rw [List.getElem?_map, hvc]; rfl
    have hrcell : (((List.range n).map (Jog.tab (arcsOf l) 8 i)).map encN)[i]? = some (encN (Jog.tab (arcsOf l) 8 i i)) := by simp [hil]
    refine G.region rfl (fun R hR => ?_)
    iterate 2 refine D.pure rfl rfl rfl rfl rfl rfl ?_
    refine D.index0 (hw.mono (by (repeat (first | exact Mem.le.refl _ | assumption | (apply Mem.le.trans; rotate_left; assumption))))) rfl rfl rfl rfl rfl rfl rfl rfl rfl rfl (by omega) hrcv (fun _ => rfl) (fun p15 hp15 => ?_)
    refine D.loadP0 hp15 rfl rfl rfl rfl rfl rfl rfl rfl ?_
    refine D.pure rfl rfl rfl rfl rfl rfl ?_
    refine D.index0 (hrc.mono (by (repeat (first | exact Mem.le.refl _ | assumption | (apply Mem.le.trans; rotate_left; assumption))))) rfl rfl rfl rfl rfl rfl rfl rfl rfl rfl (by omega) hrcell (fun _ => rfl) (fun p18 hp18 => ?_)
    refine D.loadP0 hp18 rfl rfl rfl rfl rfl rfl rfl rfl ?_
    refine D.pure rfl rfl rfl rfl rfl rfl ?_
    refine D.done [(3, [], _), (4, [], _), (20, [], _)] ⟨rfl, rfl, rfl, trivial⟩ (hR _ _ _ rfl ?_); clear hR R
    refine G.cond rfl (fun h20 => ?_) (fun h20 => ?_)
    · skip
      have h20' : 0 < Jog.tab (arcsOf l) 8 i i := by
        have : (0 : Int) < (Jog.tab (arcsOf l) 8 i i : Nat) := by simpa using h20
        omega
      refine G.region rfl (fun R hR => ?_)
      refine D.pure rfl rfl rfl rfl rfl rfl ?_
      refine D.done [(2, [], _)] ⟨rfl, trivial⟩ (hR _ _ _ rfl ?_); clear hR R
      refine G.retN (G.dropAll (G.fin1 rfl rfl ?_))
      exact ⟨rfl, true, rfl, by simp only [true_iff]; exact hiff.2 ⟨i, hil, h20'⟩⟩
    · skip
      have h20' : Jog.tab (arcsOf l) 8 i i = 0 := by
        have : ¬ (0 : Int) < (Jog.tab (arcsOf l) 8 i i : Nat) := by simpa using h20
        omega
      refine G.region rfl (fun R hR => ?_)
      refine D.pure rfl rfl rfl rfl rfl rfl ?_
      refine D.i64 _ rfl rfl rfl rfl rfl (by omega) (by omega) rfl rfl ?_
      refine D.pure rfl rfl rfl rfl rfl rfl ?_
      refine D.done [(3, [], _), (4, [], _)] ⟨rfl, rfl, trivial⟩ (hR _ _ _ rfl ?_); clear hR R
      refine G.again (m' := n - (i + 1)) (by omega) (by (repeat (first | exact Mem.le.refl _ | assumption | (apply Mem.le.trans; rotate_left; assumption)))) (fr' := [(3, [], _), (4, [], _)]) ⟨rfl, rfl, trivial⟩ ⟨i + 1, ⟨by omega, fun j hj => by
        by_cases e : j = i
        · rw [e]; exact h20'
        · exact hz j (by omega)⟩, rfl, rfl, rfl⟩
  · skip
    simp only [decide_eq_false_iff_not] at h10
    have hil : i = n := by omega
    subst hil
    refine G.region rfl (fun R hR => ?_)
    refine D.pure rfl rfl rfl rfl rfl rfl ?_
    refine D.done [(2, [], _)] ⟨rfl, trivial⟩ (hR _ _ _ rfl ?_); clear hR R
    refine G.retN (G.dropAll (G.fin1 rfl rfl ?_))
    exact ⟨rfl, false, rfl, by
      simp only [Bool.false_eq_true, false_iff]
      intro h
      obtain ⟨j, h1, h2⟩ := hiff.1 h
      have := hz j h1
      omega⟩
end Go.Proofs.YtddjibfmnkcalaaDoor
namespace Go.Proofs.YtddjibfmnkcalaaDoor
open Go Go.Jog

structure Pth (A p : List Arc3) (a z : Arc3) : Prop where
  first : p.head? = some a
  last : p.getLast? = some z
  inA : In A p
  gt : ∀ b ∈ p.tail, a.i < b.i
  nd : (lows p).Nodup
  ch : Chain a.lo p z.up
def CycN (A c : List Arc3) : Prop := Cyc A c ∧ (lows c).Nodup
def Comp (A p : List Arc3) (len : Nat) (c : List Arc3) : Prop := ∃ s, c = p ++ s ∧ c.length = len ∧ CycN A c
theorem Pth.ne {A p : List Arc3} {a z : Arc3} (h : Pth A p a z) : ∃ q, p = a :: q := by
  cases p with
  | nil => have := h.first; simp at this
  | cons x q => have := h.first; simp at this; exact ⟨q, by rw [this]⟩
theorem Pth.one {A : List Arc3} {a : Arc3} (h : a ∈ A) : Pth A [a] a a := ⟨rfl, rfl, fun x hx => by rw [List.mem_singleton.1 hx]; exact h, fun b hb => by simp at hb, by simp [lows], rfl, rfl⟩
/-- What may come next. -/
def NextOk (A p : List Arc3) (a z b : Arc3) : Prop := b ∈ A ∧ b.lo = z.up ∧ a.i < b.i ∧ b.lo ∉ lows p
theorem Pth.snoc {A p : List Arc3} {a z b : Arc3} (h : Pth A p a z) (hb : NextOk A p a z b) : Pth A (p ++ [b]) a b := by
  obtain ⟨q, rfl⟩ := h.ne
  obtain ⟨h1, h2, h3, h4⟩ := hb
  refine ⟨rfl, List.getLast?_concat, ?_, ?_, ?_, ?_⟩
  · exact In.append.2 ⟨h.inA, fun x hx => by rw [List.mem_singleton.1 hx]; exact h1⟩
  · intro x hx
    have hx' : x ∈ q ++ [b] := hx
    rcases List.mem_append.1 hx' with h5 | h5
    · exact h.gt x h5
    · rw [List.mem_singleton.1 h5]; exact h3
  · have e : lows (a :: q ++ [b]) = lows (a :: q) ++ [b.lo] := by simp [lows]
    rw [e, List.nodup_append]
    exact ⟨h.nd, by simp, fun x hx y hy e => by rw [List.mem_singleton.1 hy] at e; subst e; exact h4 hx⟩
  · exact Chain.append.2 ⟨z.up, h.ch, h2, rfl⟩
theorem Pth.full {A p : List Arc3} {a z : Arc3} {len : Nat} (h : Pth A p a z) (hl : p.length = len) {c : List Arc3} : Comp A p len c ↔ c = p ∧ z.up = a.lo := by
  obtain ⟨q, rfl⟩ := h.ne
  constructor
  · rintro ⟨s, h1, h2, ⟨h3, _⟩⟩
    have hs : s = [] := by
      rw [h1, List.length_append] at h2
      exact List.eq_nil_of_length_eq_zero (by omega)
    subst hs
    rw [List.append_nil] at h1
    refine ⟨h1, ?_⟩
    subst h1
    obtain ⟨a', q', he, _, hc, _⟩ := h3
    cases he
    exact h.ch.ends hc
  · rintro ⟨rfl, h1⟩
    refine ⟨[], by simp, hl, ⟨a, q, rfl, h.inA, ?_, h.gt⟩, h.nd⟩
    have := h.ch
    rw [h1] at this
    exact this
theorem Pth.step {A p : List Arc3} {a z : Arc3} {len : Nat} (h : Pth A p a z) (hl : p.length < len) {c : List Arc3} : Comp A p len c ↔ ∃ b, NextOk A p a z b ∧ Comp A (p ++ [b]) len c := by
  obtain ⟨q, hq⟩ := h.ne
  constructor
  · rintro ⟨s, h1, h2, h3, h4⟩
    cases s with
    | nil => rw [List.append_nil] at h1; rw [h1] at h2; omega
    | cons b s =>
      have h5 : c = p ++ [b] ++ s := by rw [h1]; simp
      refine ⟨b, ?_, s, h5, h2, h3, h4⟩
      obtain ⟨a', q', he, hi, hc, hgt⟩ := h3
      have ha : a' = a := by
        rw [h1, hq] at he
        simp only [List.cons_append, List.cons.injEq] at he
        exact he.1.symm
      subst ha
      have hb : b ∈ q' := by
        rw [h1, hq] at he
        simp only [List.cons_append, List.cons.injEq] at he
        rw [← he.2]; simp
      refine ⟨hi b (by rw [h1]; simp), ?_, hgt b hb, fun hm => ?_⟩
      · rw [h1] at hc
        obtain ⟨w, h6, h7⟩ := Chain.append.1 hc
        have := h6.ends h.ch
        rw [← this]; exact h7.1
      · have e : lows c = lows p ++ b.lo :: lows s := by rw [h1]; simp [lows]
        rw [e, List.nodup_append] at h4
        exact h4.2.2 _ hm _ (by simp) rfl
  · rintro ⟨b, _, s, h1, h2, h3⟩
    exact ⟨b :: s, by rw [h1]; simp, h2, h3⟩

/-- What is handed back: the least that goes on so, or nothing. -/
def CloL (A p : List Arc3) (len : Nat) (r : List Nat) : Prop := (r = [] ∧ ∀ c, ¬ Comp A p len c) ∨ ∃ c, Comp A p len c ∧ r = nums c ∧ ∀ c', Comp A p len c' → LeL (nums c) (nums c')
theorem CloL.yes {A p : List Arc3} {a z : Arc3} {len : Nat} (h : Pth A p a z) (hl : p.length = len) (he : z.up = a.lo) : CloL A p len (nums p) :=
  .inr ⟨p, (h.full hl).2 ⟨rfl, he⟩, rfl, fun c hc => by rw [((h.full hl).1 hc).1]; exact .inl rfl⟩
theorem CloL.no {A p : List Arc3} {a z : Arc3} {len : Nat} (h : Pth A p a z) (hl : p.length = len) (he : z.up ≠ a.lo) : CloL A p len [] :=
  .inl ⟨rfl, fun c hc => he ((h.full hl).1 hc).2⟩
theorem comp_ne {A p : List Arc3} {len : Nat} {c : List Arc3} (h : Comp A p len c) : nums c ≠ [] := fun e => by
  obtain ⟨s, _, _, ⟨a, q, he, _⟩, _⟩ := h
  rw [he] at e; simp [nums] at e
theorem CloL.found {A p : List Arc3} {a z b : Arc3} {len : Nat} {r : List Nat} (h : Pth A p a z) (hl : p.length < len) (hb : NextOk A p a z b) (hr : CloL A (p ++ [b]) len r) (hne : r ≠ []) (hinj : ∀ x ∈ A, ∀ y ∈ A, x.i = y.i → x = y)
    (hno : ∀ b', NextOk A p a z b' → b'.i < b.i → ∀ c, ¬ Comp A (p ++ [b']) len c) : CloL A p len r := by
  rcases hr with ⟨h1, _⟩ | ⟨c, h1, h2, h3⟩
  · exact absurd h1 hne
  · refine .inr ⟨c, (h.step hl).2 ⟨b, hb, h1⟩, h2, fun c' hc' => ?_⟩
    obtain ⟨b', hb', hc2⟩ := (h.step hl).1 hc'
    rcases Nat.lt_trichotomy b'.i b.i with h4 | h4 | h4
    · exact absurd hc2 (hno b' hb' h4 c')
    · have := hinj b' hb'.1 b hb.1 h4
      subst this
      exact h3 c' hc2
    · obtain ⟨s, e1, _⟩ := h1
      obtain ⟨s', e2, _⟩ := hc2
      refine .inr ⟨nums p, b.i, b'.i, nums s, nums s', ?_, ?_, h4⟩
      · rw [e1]; simp [nums]
      · rw [e2]; simp [nums]
theorem CloL.none {A p : List Arc3} {a z : Arc3} {len : Nat} (h : Pth A p a z) (hl : p.length < len) (hno : ∀ b', NextOk A p a z b' → ∀ c, ¬ Comp A (p ++ [b']) len c) : CloL A p len [] :=
  .inl ⟨rfl, fun c hc => by obtain ⟨b, hb, hc2⟩ := (h.step hl).1 hc; exact hno b hb c hc2⟩
end Go.Proofs.YtddjibfmnkcalaaDoor
namespace Go.Jog
open Go
theorem Fn.frozen {P : Program} {f : FuncId} {args : List Value} {C : Mem} {L : List Ent} {v : Value} {t size len : Nat} {xs : List Value} {post : Value → Mem → List Ent → Prop} (rows : List (List Value)) (hen : Enters P f = true) (hx : xs = rows.flatten) (hl : ∀ r ∈ rows, r.length = size) (hn : rows.length = len)
    (h : ∀ C', C.le C' → Sl C' size v rows → Fn P f args C' L post) : Fn P f args C (.arr v t size len xs :: L) post := by
  subst hx
  refine ⟨hen, fun w hw => ?_⟩
  obtain ⟨C', h1, h2, h3⟩ := St.freezeArr (St.start hw) hl hn
  refine ((h C' h1 h2).2 w h3.sep).mono fun e w' ⟨v, C'', L'', e1, h4, h5⟩ => ⟨v, C'', L'', e1, ?_, h5⟩
  have := St.call (Lr := []) (by rw [List.append_nil]; exact h3) h4
  rwa [List.append_nil] at this

/-- Each guard's own operation bears the guards behind it. -/
def chG (ds : List (Option Nat)) (fr : Fr) : GL → Bool
  | [] => true
  | (j, _) :: r => (match ((ds[j]?).bind id).bind fr.get with
    | some (g', .bool _) => g' == r
    | _ => false) && chG ds fr r
theorem GH_of_GT {n : Nat} {ds : List (Option Nat)} {fr : Fr} {a : Act} {dd : List Deferred} (h : FrOk n ds dd fr a) : ∀ {g : GL}, chG ds fr g = true → GT ds fr g → GH ds a.tmps g
  | [], _, _ => fun p hp => by cases hp
  | (j, w) :: r, hc, hg => by
    simp only [chG, Bool.and_eq_true] at hc
    have ih := GH_of_GT h hc.2 hg.2
    have h1 := hg.1
    have h2 := hc.1
    cases hd : (ds[j]?).bind id with
    | none => rw [hd] at h2; simp at h2
    | some d =>
      rw [hd] at h1 h2
      simp only [Option.bind_some] at h1 h2
      split at h2
      · rename_i g' b hb
        rw [hb] at h1
        simp only at h1
        simp only [beq_iff_eq] at h2
        subst h2
        subst h1
        intro p hp
        rcases List.mem_cons.1 hp with rfl | hp
        · unfold yld
          rw [hd]
          have := (h.ent d g' (.bool b) hb).1 ih
          simp [this]
        · exact ih p hp
      · cases h2
section
variable {cx : Cx} {n : Nat} {ds : List (Option Nat)} {R : Rg n ds} {its : List It} {fr : Fr} {C : Mem} {L : List Ent} {i k d : Nat} {o : Oper} {g : GL}
/-- A guarded call that makes memory. -/
theorem D.callPG {β : Type} [Inhabited β] (f0 : β → Value) {post : β → Mem → Prop} {f : Operand} {args : Array Operand} {ts : Array TypeId} {fid : FuncId} {fi ca : Array Value} {vs args' : List Value}
    (c : GT ds fr g → Pur cx.P fid args' C fun v C' => ∃ b, v = f0 b ∧ post b C') (hk : Nat.ble k 1 = false) (hd : o.dst = some d) (hg : gOf ds fr o.guard = some g) (hop : o.op = .call ⟨.value f, args, ts⟩) (hf : ev fr g f = some (.func (.func fid) fi ca))
    (hargs : listO (ev fr g) args.toList = some vs) (he : fi.toList ++ vs ++ ca.toList = args') (hp : ∀ b, okPut n ds ((d, g, f0 b) :: fr) d = true) (hwf : wfG ds fr g = true) (hch : chG ds fr g = true)
    (h : ∀ b C', C.le C' → (GT ds fr g → post b C') → D cx R its ((d, g, f0 b) :: fr) C' L) : D cx R ((i, k, o) :: its) fr C L := by
  intro hC0 hits a ha
  obtain ⟨hkd, ho⟩ := hits (i, k, o) (by simp)
  simp only at hkd ho
  have hk1 : ¬ k ≤ 1 := fun hle => by rw [← Nat.ble_eq] at hle; rw [hle] at hk; cases hk
  simp only [List.map_cons, DU]
  unfold stepU
  simp only [ho, hkd, hk1, if_false]
  intro w hw
  unfold wpOp
  simp only [ho]
  have hwt := wanted_iff R.hy ha hg
  by_cases hG : GH ds a.tmps g
  · have hGT := GT_of ha hG (wfG_spec hwf)
    have hon : Region.wanted o (yielded R.ops a.tmps) = true := hwt.2 hG
    simp only [hon, if_true]
    refine .inl ?_
    unfold Oper.wp
    rw [run_call hop (ev_spec ha hG hf) (listO_spec (fun x y => ev_spec ha hG) hargs) he (c hGT).1 w]
    simp only [Oper.upon]
    refine ((c hGT).callAt (Lp := []) (Lr := L) hw).mono fun e w' ⟨v, C', L', e1, h1, h2, h3, b, h4, h5⟩ => ?_
    subst h3; subst h4; subst e1
    refine ⟨(C', L), fun _ => ⟨h1, fun _ hx => hx⟩, h2, ?_⟩
    rw [hd]
    exact h b C' h1 (fun _ => h5) (hC0.trans h1) (fun x hx => hits x (by simp [hx])) _ (ha.put (hp b) ⟨fun _ => rfl, fun hn => absurd hG hn⟩)
  · have hoff : Region.wanted o (yielded R.ops a.tmps) = false := by
      cases hx : Region.wanted o (yielded R.ops a.tmps) with
      | false => rfl
      | true => exact absurd (hwt.1 hx) hG
    simp only [hoff, Bool.false_eq_true, if_false]
    refine ⟨(C, L), fun _ => kle.refl _, hw, ?_⟩
    rw [hd]
    exact h default C (Mem.le.refl _) (fun hGT => absurd (GH_of_GT ha hch hGT) hG) hC0 (fun x hx => hits x (by simp [hx])) _ (ha.put (hp default) ⟨fun hn => absurd hn hG, fun _ => rfl⟩)
end
end Go.Jog
namespace Go.Proofs.YtddjibfmnkcalaaDoor
open Go Go.Jog
set_option maxRecDepth 100000

theorem posS_inj {N : List Str} {s t : Str} (hs : s ∈ N) (ht : t ∈ N) (h : posS N s = posS N t) : s = t := by
  have h1 := posS_at hs
  rw [h, posS_at ht] at h1
  cases h1; rfl
theorem arc_at {l : List Rel} {b : Arc3} (h : b ∈ arcsOf l) : ∃ x, l[b.i]? = some x ∧ x.kind ≠ 4 ∧ b.lo = posS (unitsL l) x.lower ∧ b.up = posS (unitsL l) x.upper ∧ x.lower ∈ unitsL l ∧ x.upper ∈ unitsL l := by
  obtain ⟨x, h1, h2, h3⟩ := mem_arcs3.1 h
  have hm := mem_units (List.mem_of_getElem? h1)
  refine ⟨x, h1, h2, ?_, ?_, hm⟩
  · rw [h3]
  · rw [h3]
theorem Pth.at {A p : List Arc3} {a z : Arc3} (h : Pth A p a z) : (nums p)[0]? = some a.i ∧ (nums p)[p.length - 1]? = some z.i ∧ 0 < p.length ∧ a ∈ A ∧ z ∈ A := by
  obtain ⟨q, rfl⟩ := h.ne
  have hl := h.last
  rw [List.getLast?_eq_getElem?] at hl
  exact ⟨rfl, by rw [nums, List.getElem?_map, hl]; rfl, by simp, h.inA a (by simp), h.inA z (List.mem_of_getElem? hl)⟩

end Go.Proofs.YtddjibfmnkcalaaDoor
namespace Go.Proofs.YtddjibfmnkcalaaDoor
open Go Go.Jog
set_option maxRecDepth 100000

theorem comp_one {A : List Arc3} {len : Nat} {c : List Arc3} : (∃ a ∈ A, Comp A [a] len c) ↔ CycN A c ∧ c.length = len := by
  constructor
  · rintro ⟨a, _, s, h1, h2, h3⟩; exact ⟨h3, h2⟩
  · rintro ⟨h1, h2⟩
    obtain ⟨a, q, rfl, hi, _, _⟩ := id h1.1
    exact ⟨a, hi a (by simp), q, rfl, h2, h1⟩
theorem cycN_of_back {A : List Arc3} (hinj : ∀ a ∈ A, ∀ b ∈ A, a.i = b.i → a = b) {k w : Nat} (hk : 0 < k) (hw : Walk A k w w) : ∃ c, CycN A c ∧ c.length ≤ k := by
  obtain ⟨p, h1, h2, h3⟩ := cyc_of_walk hk hw hinj
  exact ⟨p, ⟨h1, h3⟩, h2 k w hk hw⟩
theorem least_found {A : List Arc3} {a : Arc3} {len : Nat} {c : List Arc3} (hinj : ∀ a ∈ A, ∀ b ∈ A, a.i = b.i → a = b) (hlow : ∀ c, CycN A c → len ≤ c.length) (hno : ∀ b ∈ A, b.i < a.i → ∀ c, ¬ Comp A [b] len c)
    (ha : a ∈ A) (hc : Comp A [a] len c) (hm : ∀ c', Comp A [a] len c' → LeL (nums c) (nums c')) : LeastCyc A c := by
  obtain ⟨hcn, hcl⟩ := comp_one.1 ⟨a, ha, hc⟩
  have hmin : ∀ k w, 0 < k → Walk A k w w → c.length ≤ k := fun k w hk hw => by
    obtain ⟨p, h1, h2⟩ := cycN_of_back hinj hk hw
    have := hlow p h1
    omega
  refine ⟨hcn.1, hmin, fun q hq hql => ?_⟩
  have hqn : CycN A q := by
    refine ⟨hq, ?_⟩
    obtain ⟨b, s, rfl, hi, hch, _⟩ := hq
    exact short_nodup hi hch (fun k w hk hw => by rw [hql]; exact hmin k w hk hw)
  obtain ⟨b, hbA, hb⟩ := comp_one.2 ⟨hqn, hql.trans hcl⟩
  rcases Nat.lt_trichotomy b.i a.i with h | h | h
  · exact absurd hb (hno b hbA h q)
  · have := hinj b hbA a ha h
    subst this
    exact hm q hb
  · obtain ⟨s, e1, _⟩ := hc
    obtain ⟨s', e2, _⟩ := hb
    refine .inr ?_
    rw [e1, e2]
    exact Beats.head h

end Go.Proofs.YtddjibfmnkcalaaDoor
namespace Go.Proofs.YtddjibfmnkcalaaDoor
open Go Go.Jog
set_option maxRecDepth 100000

theorem shortest_nodup {A p : List Arc3} {u v : Nat} (hi : In A p) (hc : Chain u p v) (hmin : ∀ k, 0 < k → Walk A k u v → p.length ≤ k) : p.Nodup := by
  rw [List.nodup_iff_pairwise_ne, List.pairwise_iff_getElem]
  intro i j h1 h2 hij he
  have hi1 := hc.split (List.getElem?_eq_getElem h1)
  have hj1 := hc.split (List.getElem?_eq_getElem h2)
  rw [← he] at hj1
  have hw : Walk A (p.take i ++ p.drop j).length u v := ⟨_, fun a ha => by
    rcases List.mem_append.1 ha with h | h
    · exact hi a (List.mem_of_mem_take h)
    · exact hi a (List.mem_of_mem_drop h), rfl, Chain.append.2 ⟨_, hi1.1, hj1.2⟩⟩
  have h3 : (p.take i ++ p.drop j).length = i + (p.length - j) := by rw [List.length_append, List.length_take, List.length_drop]; omega
  have := hmin _ (by omega) hw
  omega
theorem reach_tab {A : List Arc3} (h8 : A.length ≤ 8) {u v : Nat} : Reach A u v ↔ 0 < Jog.tab A 8 u v := by
  constructor
  · intro h
    obtain ⟨m, ⟨hm, p, hi, hl, hc⟩, hmin⟩ := leastN (p := fun k => 0 < k ∧ Walk A k u v) h
    have hn := shortest_nodup hi hc (fun k hk hw => by rw [hl]; exact hmin k ⟨hk, hw⟩)
    have hle := List.Nodup.length_le_of_subset hn (fun x hx => hi x hx)
    rcases tab_long A 8 (Nat.le_refl _) u v with ⟨_, h1⟩ | ⟨h1, _⟩
    · exact absurd ⟨p, hi, hl, hc⟩ (h1 m hm (by omega))
    · exact h1
  · intro h
    rcases tab_long A 8 (Nat.le_refl _) u v with ⟨h1, _⟩ | ⟨h1, _, h2, _⟩
    · omega
    · exact ⟨_, h1, h2⟩
theorem sublist_filter {α : Type} {P : α → Prop} [DecidablePred P] : ∀ {T q : List α}, T.Nodup → q.Sublist T → (∀ a ∈ T, a ∈ q ↔ P a) → q = T.filter fun a => decide (P a)
  | [], q, _, hs, _ => by cases hs; rfl
  | x :: T, q, hn, hs, h => by
    have hn' := List.nodup_cons.1 hn
    cases hs with
    | cons _ hs =>
      have hx : x ∉ q := fun hm => hn'.1 (hs.subset hm)
      have hP : ¬ P x := fun hp => hx ((h x (by simp)).2 hp)
      rw [List.filter_cons_of_neg (by simpa using hP)]
      exact sublist_filter hn'.2 hs (fun a ha => h a (by simp [ha]))
    | cons_cons _ hs =>
      rename_i q
      have hP : P x := (h x (by simp)).1 (by simp)
      rw [List.filter_cons_of_pos (by simpa using hP)]
      congr 1
      refine sublist_filter hn'.2 hs (fun a ha => ?_)
      rw [← h a (by simp [ha]), List.mem_cons]
      exact ⟨.inr, fun h => h.elim (fun e => absurd (e ▸ ha) hn'.1) id⟩
theorem Ix.nodup {A : List Arc3} (h : Ix A) : A.Nodup := by
  rw [List.nodup_iff_pairwise_ne]
  exact h.imp (fun {a b} h e => by rw [e] at h; omega)

/-! ### The examples of the chapter -/
def kA : Str := [65]
def kB : Str := [66]
def kC : Str := [67]
def kD : Str := [68]
def kl : List Rel := [⟨1, kB, kA⟩, ⟨2, kC, kB⟩, ⟨1, kD, kA⟩]
def kl2 : List Rel := kl ++ [⟨1, kA, kC⟩]
def kl3 : List Rel := kl ++ [⟨1, kC, kA⟩]
theorem kl_err : errU kl = 0 := by kernel_rfl
theorem kl2_err : errU kl2 = 0 := by kernel_rfl
theorem kl3_err : errU kl3 = 0 := by kernel_rfl
theorem kl_units : unitsL kl = [kA, kB, kC, kD] := by kernel_rfl
theorem kl_arcs : arcsOf kl = [⟨0, 0, 1⟩, ⟨1, 1, 2⟩, ⟨2, 0, 3⟩] := by kernel_rfl
theorem kl2_arcs : arcsOf kl2 = [⟨0, 0, 1⟩, ⟨1, 1, 2⟩, ⟨2, 0, 3⟩, ⟨3, 2, 0⟩] := by kernel_rfl
theorem kl3_arcs : arcsOf kl3 = [⟨0, 0, 1⟩, ⟨1, 1, 2⟩, ⟨2, 0, 3⟩, ⟨3, 0, 2⟩] := by kernel_rfl
theorem kl_exts : extsOf kl = [[0, 1, 2, 3], [0, 1, 3, 2], [0, 3, 1, 2]] := by kernel_rfl
end Go.Proofs.YtddjibfmnkcalaaDoor
namespace Go.Proofs.YtddjibfmnkcalaaDoor
open Go Go.Jog
set_option maxRecDepth 100000

theorem kl_len4 : (unitsL kl).length = 4 := by rw [kl_units]; rfl
theorem kl_topo : TopoLeast (arcsOf kl) 4 [0, 1, 2, 3] := by
  refine extF_head (r := [[0, 1, 3, 2], [0, 3, 1, 2]]) ?_
  have := kl_exts
  rw [extsOf, kl_len4] at this
  exact this
theorem kl_below : Below 4 (arcsOf kl) := by
  have := (gok_of (l := kl) (by decide)).below
  rw [kl_len4] at this
  exact this
theorem kl_noback : ¬ Back (arcsOf kl) := fun ⟨k, w, h1, h2⟩ => kl_topo.1.acyc kl_below k w h1 h2
theorem kl_short : ∀ x ∈ kl, x.short := by unfold Rel.short; decide
theorem kl2_short : ∀ x ∈ kl2, x.short := by unfold Rel.short; decide
theorem kl3_short : ∀ x ∈ kl3, x.short := by unfold Rel.short; decide
theorem kl_order {C : Mem} {r : Value} (h : OrdRes C kl r) : ∃ v, r = .tuple #[v, .int .i64 0] ∧ Sl C 1 v ([kA, kB, kC, kD].map encS) := by
  rcases h with ⟨h, _⟩ | ⟨_, h, _⟩ | ⟨_, o, v, h1, h2, h3⟩
  · exact absurd kl_err h
  · exact absurd h kl_noback
  · rw [kl_len4] at h1
    have := TopoLeast.unique h1 kl_topo
    subst this
    refine ⟨v, h2, ?_⟩
    rw [show namesOfO kl [0, 1, 2, 3] = [kA, kB, kC, kD] by unfold namesOfO; rw [kl_units]; rfl] at h3
    exact h3
theorem kl_early : RankS (arcsOf kl) 4 (fun _ => True) [0, 1, 2, 1] := by
  rw [kl_arcs]
  refine ⟨rfl, fun v hv => ?_, by decide⟩
  rcases v with _ | _ | _ | _ | v
  · exact ⟨0, [], In.nil, rfl, rfl⟩
  · exact ⟨0, [⟨0, 0, 1⟩], by simp [In], rfl, by simp [Chain]⟩
  · exact ⟨0, [⟨0, 0, 1⟩, ⟨1, 1, 2⟩], by simp [In], rfl, by simp [Chain]⟩
  · exact ⟨0, [⟨2, 0, 3⟩], by simp [In], rfl, by simp [Chain]⟩
  · omega
theorem kl_late : RankS ((arcsOf kl).map rev3) 4 (fun _ => True) [2, 1, 0, 0] := by
  rw [kl_arcs]
  refine ⟨rfl, fun v hv => ?_, by decide⟩
  rcases v with _ | _ | _ | _ | v
  · exact ⟨2, [⟨1, 2, 1⟩, ⟨0, 1, 0⟩], by simp [In, rev3], rfl, by simp [Chain]⟩
  · exact ⟨2, [⟨1, 2, 1⟩], by simp [In, rev3], rfl, by simp [Chain]⟩
  · exact ⟨2, [], In.nil, rfl, rfl⟩
  · exact ⟨3, [], In.nil, rfl, rfl⟩
  · omega
theorem list4 {l m : List Nat} (hl : l.length = 4) (hm : m.length = 4) (h : ∀ v, v < 4 → hAt l v = hAt m v) : l = m := by
  refine List.ext_getElem (by omega) (fun i h1 h2 => ?_)
  have := h i (by omega)
  rw [hAt_get (List.getElem?_eq_getElem h1), hAt_get (List.getElem?_eq_getElem h2)] at this
  exact this
theorem kl_ranks {C : Mem} {r : Value} (h : RankRes C kl r) : ∃ va vb, r = .tuple #[va, vb, .int .i64 0] ∧ Sl C 1 va (([0, 1, 2, 1] : List Nat).map encN) ∧ Sl C 1 vb (([0, 1, 2, 2] : List Nat).map encN) := by
  rcases h with ⟨h, _⟩ | ⟨_, h, _⟩ | ⟨_, _, m, es, ls, va, vb, ⟨h1, h2, h3, h4, h5⟩, h6, h7, h8⟩
  · exact absurd kl_err h
  · exact absurd h kl_noback
  · rw [kl_len4] at h1 h2 h3 h4 h5
    have hes : es = [0, 1, 2, 1] := list4 h1 rfl (fun v hv => (h2 v hv).unique (kl_early.done kl_below (fun _ _ => trivial) hv))
    subst hes
    have hm : m = 2 := by
      have h9 := h3.1 2 (by simp)
      have h9' : 2 ≤ m := h9
      rcases h3.2 with h | ⟨x, hx, h⟩
      · omega
      · have := List.mem_range.1 hx
        rcases x with _ | _ | _ | _ | x <;> simp [hAt] at h <;> omega
    subst hm
    have hls : ls = [0, 1, 2, 2] := by
      refine List.ext_getElem (by simp [h4]) (fun i h9 h10 => ?_)
      obtain ⟨d, h11, h12⟩ := h5 i (by omega)
      have h13 := h11.unique (longFrom_rev (kl_late.done (below_rev kl_below) (fun _ _ => trivial) (v := i) (by omega)))
      rw [dAt_get (List.getElem?_eq_getElem h9), h13] at h12
      rw [h12]
      have : i < 4 := by omega
      rcases i with _ | _ | _ | _ | i
      · rfl
      · rfl
      · rfl
      · rfl
      · omega
    subst hls
    exact ⟨va, vb, h6, h7, h8⟩
theorem kl_ext {C : Mem} {r : Value} (h : ExtRes C kl 10 r) : ∃ v rows, r = .tuple #[v, .int .i64 0] ∧ Sl C 1 v rows ∧ rows.length = 3 := by
  rcases h with ⟨h, _⟩ | ⟨_, h, _⟩ | ⟨_, _, _, ⟨h, _⟩ | ⟨_, h, _⟩ | ⟨_, _, v, ov, h1, h2, h3⟩⟩
  · exact absurd kl_err h
  · omega
  · exact absurd h kl_noback
  · rw [kl_exts] at h; simp at h
  · exact ⟨v, _, h1, h2, by rw [List.length_map, h3.1, kl_exts]; rfl⟩

/-! Cycle -/
def kcyc : List Arc3 := [⟨0, 0, 1⟩, ⟨1, 1, 2⟩, ⟨3, 2, 0⟩]
theorem kl2_least : LeastCyc (arcsOf kl2) kcyc := by
  rw [kl2_arcs]
  refine ⟨⟨⟨0, 0, 1⟩, [⟨1, 1, 2⟩, ⟨3, 2, 0⟩], rfl, by simp [In, kcyc], by simp [Chain, kcyc], by simp⟩, fun k w hk hw => ?_, fun q hq hl => ?_⟩
  · show 3 ≤ k
    rcases k with _ | _ | _ | k
    · omega
    · obtain ⟨a, ha, h1, h2⟩ := Walk.succ.1 hw
      have h3 := Walk.zero.1 h2
      rw [← h1] at h3
      exfalso
      have key : ∀ a ∈ ([⟨0, 0, 1⟩, ⟨1, 1, 2⟩, ⟨2, 0, 3⟩, ⟨3, 2, 0⟩] : List Arc3), ¬ a.up = a.lo := by decide
      exact key a ha h3
    · obtain ⟨a, ha, h1, h2⟩ := Walk.succ.1 hw
      obtain ⟨b, hb, h4, h5⟩ := Walk.succ.1 h2
      have h3 := Walk.zero.1 h5
      rw [← h1] at h3
      exfalso
      have key : ∀ a ∈ ([⟨0, 0, 1⟩, ⟨1, 1, 2⟩, ⟨2, 0, 3⟩, ⟨3, 2, 0⟩] : List Arc3), ∀ b ∈ ([⟨0, 0, 1⟩, ⟨1, 1, 2⟩, ⟨2, 0, 3⟩, ⟨3, 2, 0⟩] : List Arc3), b.lo = a.up → ¬ b.up = a.lo := by decide
      exact key a ha b hb h4 h3
    · omega
  · obtain ⟨a, q, rfl, hi, hc, hgt⟩ := hq
    match q, hl with
    | [b, c], _ =>
      obtain ⟨_, h1, h2, h3⟩ := hc
      have key : ∀ a ∈ ([⟨0, 0, 1⟩, ⟨1, 1, 2⟩, ⟨2, 0, 3⟩, ⟨3, 2, 0⟩] : List Arc3), ∀ b ∈ ([⟨0, 0, 1⟩, ⟨1, 1, 2⟩, ⟨2, 0, 3⟩, ⟨3, 2, 0⟩] : List Arc3), ∀ c ∈ ([⟨0, 0, 1⟩, ⟨1, 1, 2⟩, ⟨2, 0, 3⟩, ⟨3, 2, 0⟩] : List Arc3), b.lo = a.up → c.lo = b.up → c.up = a.lo → a.i < b.i → a.i < c.i → [0, 1, 3] = [a.i, b.i, c.i] := by decide
      exact .inl (key a (hi a (by simp)) b (hi b (by simp)) c (hi c (by simp)) h1 h2 h3 (hgt b (by simp)) (hgt c (by simp)))
theorem kl2_cyc {C : Mem} {r : Value} (h : CycRes C kl2 r) : ∃ v, r = .tuple #[v, .bool true, .int .i64 0] ∧ Sl C 1 v (([0, 1, 3] : List Nat).map encN) := by
  rcases h with ⟨h, _⟩ | ⟨_, h, _⟩ | ⟨_, q, v, h1, h2, h3⟩
  · exact absurd kl2_err h
  · obtain ⟨u, h1, h2⟩ := kl2_least.1.walk
    exact absurd h2 (h _ u h1)
  · have := h1.unique kl2_least
    rw [this] at h3
    exact ⟨v, h2, h3⟩
/-! Reduction -/
theorem kl3_imp : ∀ a ∈ arcsOf kl3, Implied (arcsOf kl3) a ↔ a.i = 3 := by
  have h8 : (arcsOf kl3).length ≤ 8 := by rw [kl3_arcs]; decide
  have key : ∀ a ∈ arcsOf kl3, (∃ b ∈ nexts (arcsOf kl3) a.lo, (b.up = a.up ∧ b.i < a.i) ∨ (b.up ≠ a.up ∧ 0 < Jog.tab (arcsOf kl3) 8 b.up a.up)) ↔ a.i = 3 := by
    rw [kl3_arcs]; decide
  intro a ha
  rw [← key a ha]
  unfold Implied ImpBy
  constructor
  · rintro ⟨b, hb, h⟩
    exact ⟨b, hb, h.imp id (fun ⟨h1, h2⟩ => ⟨h1, (reach_tab h8).1 h2⟩)⟩
  · rintro ⟨b, hb, h⟩
    exact ⟨b, hb, h.imp id (fun ⟨h1, h2⟩ => ⟨h1, (reach_tab h8).2 h2⟩)⟩
theorem kl3_topo : ¬ Back (arcsOf kl3) := fun h => by
  have h8 : (arcsOf kl3).length ≤ 8 := by rw [kl3_arcs]; decide
  have hok := gok_of (l := kl3) (by decide)
  have hb : Below 4 (arcsOf kl3) := by rw [kl3_arcs]; unfold Below; decide
  obtain ⟨i, h1, h2⟩ := (tab_back hb (fun a ha b hb => hok.ix.inj a ha b hb) h8).1 h
  have key : ∀ i, i < 4 → ¬ 0 < Jog.tab (arcsOf kl3) 8 i i := by rw [kl3_arcs]; decide
  exact key i h1 h2
theorem kl3_red {C : Mem} {r : Value} (h : RedRes C kl3 r) : ∃ v, r = .tuple #[v, .int .i64 0] ∧ Sl C 1 v (([0, 1, 2] : List Nat).map encN) := by
  rcases h with ⟨h, _⟩ | ⟨_, h, _⟩ | ⟨_, _, q, v, ⟨h1, h2⟩, h3, h4⟩
  · exact absurd kl3_err h
  · exact absurd h kl3_topo
  · have hq := sublist_filter (P := fun a => ¬ a.i = 3) (arcs3_ix.nodup) h1 (fun a ha => by rw [h2 a ha, kl3_imp a ha])
    have hn : nums q = [0, 1, 2] := by
      rw [hq, show arcs3 (unitsL kl3) kl3 = arcsOf kl3 from rfl, kl3_arcs]; rfl
    rw [hn] at h4
    exact ⟨v, h3, h4⟩

/-! known -/
theorem sameNames_t (C : Mem) (va vb : Value) (x : List Str) (ha : Sl C 1 va (x.map encS)) (hb : Sl C 1 vb (x.map encS)) (hl : x.length ≤ 1000000) : Gives cx.P 19 [va, vb] C (.bool true) := by
  have := sameNames_fn C va vb x x ha hb hl
  simpa using this
theorem sameInts_t (C : Mem) (va vb : Value) (x : List Nat) (ha : Sl C 1 va (x.map encN)) (hb : Sl C 1 vb (x.map encN)) (hl : x.length ≤ 1000000) : Gives cx.P 30 [va, vb] C (.bool true) := by
  rw [encN_I] at ha hb
  have := sameInts_fn C va vb _ _ ha hb (by simpa using hl)
  simpa using this

set_option maxHeartbeats 4000000 in
theorem known_fn (C : Mem) : Pur cx.P 7 [] C fun u _ => u = .bool true := by
  refine Fn.intro (by kernel_rfl) Tryd.func7 rfl 102 rfl rfl (fun w0 => ?_)
  refine G.region rfl (fun R hR => ?_)
  refine D.pure rfl rfl rfl rfl rfl rfl ?_
  refine D.done [] trivial (hR _ _ _ rfl ?_); clear hR R
  refine G.region rfl (fun R hR => ?_)
  refine D.gives2 (over_fn _ kB kA) rfl rfl rfl rfl rfl rfl rfl (fun _ => rfl) ?_
  refine D.build [.int .i64 2, strV kC, strV kB] rfl rfl rfl rfl rfl rfl rfl rfl ?_
  refine D.gives2 (over_fn _ kD kA) rfl rfl rfl rfl rfl rfl rfl (fun _ => rfl) ?_
  refine D.buildSliceV (kl.map Rel.enc) rfl rfl rfl rfl rfl rfl rfl rfl rfl rfl rfl rfl (fun _ => rfl) (fun b17 C17 hle17 hs17 => ?_)
  refine D.pure rfl rfl rfl rfl rfl rfl ?_
  refine D.done [(1, [], _)] ⟨rfl, trivial⟩ (hR _ _ _ rfl ?_); clear hR R
  refine G.region rfl (fun R hR => ?_)
  refine D.pure rfl rfl rfl rfl rfl rfl ?_
  refine D.callP (order_fn _ _ kl hs17 (by decide) kl_short) rfl rfl rfl rfl rfl rfl rfl (fun _ => rfl) (fun v20 C20 hle20 hq20 => ?_)
  obtain ⟨vo, rfl, hvo⟩ := kl_order hq20
  iterate 5 refine D.pure rfl rfl rfl rfl rfl rfl ?_
  refine D.done [(1, [], _), (2, [], _), (3, [], _)] ⟨rfl, rfl, rfl, trivial⟩ (hR _ _ _ rfl ?_); clear hR R
  refine G.region rfl (fun R hR => ?_)
  refine D.pure rfl rfl rfl rfl rfl rfl ?_
  refine D.callP (ranks_fn _ _ kl (hs17.mono (by (repeat (first | exact Mem.le.refl _ | assumption | (apply Mem.le.trans; rotate_left; assumption))))) (by decide) kl_short) rfl rfl rfl rfl rfl rfl rfl (fun _ => rfl) (fun v25 C25 hle25 hq25 => ?_)
  obtain ⟨ve, vl, rfl, hve, hvl⟩ := kl_ranks hq25
  iterate 7 refine D.pure rfl rfl rfl rfl rfl rfl ?_
  refine D.done [(1, [], _), (2, [], _), (3, [], _), (4, [], _), (5, [], _), (6, [], _)] ⟨rfl, rfl, rfl, rfl, rfl, rfl, trivial⟩ (hR _ _ _ rfl ?_); clear hR R
  refine G.region rfl (fun R hR => ?_)
  refine D.pure rfl rfl rfl rfl rfl rfl ?_
  refine D.callP (extensions_fn _ _ kl 10 (hs17.mono (by (repeat (first | exact Mem.le.refl _ | assumption | (apply Mem.le.trans; rotate_left; assumption))))) (by decide) kl_short) rfl rfl rfl rfl rfl rfl rfl (fun _ => rfl) (fun v31 C31 hle31 hq31 => ?_)
  obtain ⟨vx, xrows, rfl, hvx, hxl⟩ := kl_ext hq31
  obtain ⟨Ax, cx2, rfl, _⟩ := id hvx
  rw [hxl]
  iterate 5 refine D.pure rfl rfl rfl rfl rfl rfl ?_
  refine D.done [(1, [], _), (2, [], _), (3, [], _), (4, [], _), (5, [], _), (6, [], _), (7, [], _), (8, [], _)] ⟨rfl, rfl, rfl, rfl, rfl, rfl, rfl, rfl, trivial⟩ (hR _ _ _ rfl ?_); clear hR R
  refine G.region rfl (fun R hR => ?_)
  refine D.pure rfl rfl rfl rfl rfl rfl ?_
  refine D.gives2 (over_fn _ kA kC) rfl rfl rfl rfl rfl rfl rfl (fun _ => rfl) ?_
  refine D.buildSlice [Rel.enc ⟨1, kA, kC⟩] rfl rfl rfl rfl rfl rfl rfl rfl rfl rfl rfl rfl (fun _ => rfl) (fun p37 C37 hle37 hs37 => ?_)
  refine D.appendC rfl rfl rfl rfl rfl rfl rfl rfl rfl rfl (hs17.mono (by (repeat (first | exact Mem.le.refl _ | assumption | (apply Mem.le.trans; rotate_left; assumption))))) hs37 (.inr (by decide)) (by decide) (by decide) (fun _ => rfl) (fun v38 C38 hle38 hs38 => ?_)
  refine D.callP (cycle_fn _ _ kl2 hs38 (by decide) kl2_short) rfl rfl rfl rfl rfl rfl rfl (fun _ => rfl) (fun v39 C39 hle39 hq39 => ?_)
  obtain ⟨vc, rfl, hvc⟩ := kl2_cyc hq39
  iterate 7 refine D.pure rfl rfl rfl rfl rfl rfl ?_
  refine D.done [(1, [], _), (2, [], _), (3, [], _), (4, [], _), (5, [], _), (6, [], _), (7, [], _), (8, [], _), (9, [], _), (10, [], _), (11, [], _)] ⟨rfl, rfl, rfl, rfl, rfl, rfl, rfl, rfl, rfl, rfl, rfl, trivial⟩ (hR _ _ _ rfl ?_); clear hR R
  refine G.region rfl (fun R hR => ?_)
  refine D.pure rfl rfl rfl rfl rfl rfl ?_
  refine D.gives2 (over_fn _ kC kA) rfl rfl rfl rfl rfl rfl rfl (fun _ => rfl) ?_
  refine D.buildSlice [Rel.enc ⟨1, kC, kA⟩] rfl rfl rfl rfl rfl rfl rfl rfl rfl rfl rfl rfl (fun _ => rfl) (fun p46 C46 hle46 hs46 => ?_)
  refine D.appendC rfl rfl rfl rfl rfl rfl rfl rfl rfl rfl (hs17.mono (by (repeat (first | exact Mem.le.refl _ | assumption | (apply Mem.le.trans; rotate_left; assumption))))) hs46 (.inr (by decide)) (by decide) (by decide) (fun _ => rfl) (fun v47 C47 hle47 hs47 => ?_)
  refine D.callP (reduction_fn _ _ kl3 hs47 (by decide) kl3_short) rfl rfl rfl rfl rfl rfl rfl (fun _ => rfl) (fun v48 C48 hle48 hq48 => ?_)
  obtain ⟨vr, rfl, hvr⟩ := kl3_red hq48
  iterate 5 refine D.pure rfl rfl rfl rfl rfl rfl ?_
  refine D.done [(2, [], _), (3, [], _), (4, [], _), (5, [], _), (6, [], _), (7, [], _), (8, [], _), (9, [], _), (10, [], _), (11, [], _), (12, [], _), (13, [], _)] ⟨rfl, rfl, rfl, rfl, rfl, rfl, rfl, rfl, rfl, rfl, rfl, rfl, trivial⟩ (hR _ _ _ rfl ?_); clear hR R
  refine G.region rfl (fun R hR => ?_)
  iterate 4 refine D.pure rfl rfl rfl rfl rfl rfl ?_
  refine D.buildSlice ([kA, kB, kC, kD].map encS) rfl rfl rfl rfl rfl rfl rfl rfl rfl rfl rfl rfl (fun _ => rfl) (fun p55 C55 hle55 hs55 => ?_)
  refine D.gives (fun _ => (sameNames_t _ _ _ [kA, kB, kC, kD] (hvo.mono (by (repeat (first | exact Mem.le.refl _ | assumption | (apply Mem.le.trans; rotate_left; assumption))))) (hs55.mono (by (repeat (first | exact Mem.le.refl _ | assumption | (apply Mem.le.trans; rotate_left; assumption))))) (by decide))) rfl rfl rfl rfl rfl rfl rfl rfl rfl ?_
  refine D.pickAnd rfl rfl rfl rfl rfl rfl rfl rfl ?_
  iterate 3 refine D.pure rfl rfl rfl rfl rfl rfl ?_
  refine D.pickAnd rfl rfl rfl rfl rfl rfl rfl rfl ?_
  iterate 2 refine D.pure rfl rfl rfl rfl rfl rfl ?_
  refine D.buildSlice (([0, 1, 2, 1] : List Nat).map encN) rfl rfl rfl rfl rfl rfl rfl rfl rfl rfl rfl rfl (fun _ => rfl) (fun p64 C64 hle64 hs64 => ?_)
  refine D.gives (fun _ => (sameInts_t _ _ _ [0, 1, 2, 1] (hve.mono (by (repeat (first | exact Mem.le.refl _ | assumption | (apply Mem.le.trans; rotate_left; assumption))))) (hs64.mono (by (repeat (first | exact Mem.le.refl _ | assumption | (apply Mem.le.trans; rotate_left; assumption))))) (by decide))) rfl rfl rfl rfl rfl rfl rfl rfl rfl ?_
  refine D.pickAnd rfl rfl rfl rfl rfl rfl rfl rfl ?_
  iterate 2 refine D.pure rfl rfl rfl rfl rfl rfl ?_
  refine D.buildSlice (([0, 1, 2, 2] : List Nat).map encN) rfl rfl rfl rfl rfl rfl rfl rfl rfl rfl rfl rfl (fun _ => rfl) (fun p69 C69 hle69 hs69 => ?_)
  refine D.gives (fun _ => (sameInts_t _ _ _ [0, 1, 2, 2] (hvl.mono (by (repeat (first | exact Mem.le.refl _ | assumption | (apply Mem.le.trans; rotate_left; assumption))))) (hs69.mono (by (repeat (first | exact Mem.le.refl _ | assumption | (apply Mem.le.trans; rotate_left; assumption))))) (by decide))) rfl rfl rfl rfl rfl rfl rfl rfl rfl ?_
  refine D.pickAnd rfl rfl rfl rfl rfl rfl rfl rfl ?_
  iterate 3 refine D.pure rfl rfl rfl rfl rfl rfl ?_
  refine D.pickAnd rfl rfl rfl rfl rfl rfl rfl rfl ?_
  iterate 4 refine D.pure rfl rfl rfl rfl rfl rfl ?_
  refine D.pickAnd rfl rfl rfl rfl rfl rfl rfl rfl ?_
  iterate 3 refine D.pure rfl rfl rfl rfl rfl rfl ?_
  refine D.pickAnd rfl rfl rfl rfl rfl rfl rfl rfl ?_
  iterate 2 refine D.pure rfl rfl rfl rfl rfl rfl ?_
  refine D.pickAnd rfl rfl rfl rfl rfl rfl rfl rfl ?_
  iterate 2 refine D.pure rfl rfl rfl rfl rfl rfl ?_
  refine D.buildSlice (([0, 1, 3] : List Nat).map encN) rfl rfl rfl rfl rfl rfl rfl rfl rfl rfl rfl rfl (fun _ => rfl) (fun p90 C90 hle90 hs90 => ?_)
  refine D.gives (fun _ => (sameInts_t _ _ _ [0, 1, 3] (hvc.mono (by (repeat (first | exact Mem.le.refl _ | assumption | (apply Mem.le.trans; rotate_left; assumption))))) (hs90.mono (by (repeat (first | exact Mem.le.refl _ | assumption | (apply Mem.le.trans; rotate_left; assumption))))) (by decide))) rfl rfl rfl rfl rfl rfl rfl rfl rfl ?_
  refine D.pickAnd rfl rfl rfl rfl rfl rfl rfl rfl ?_
  iterate 3 refine D.pure rfl rfl rfl rfl rfl rfl ?_
  refine D.pickAnd rfl rfl rfl rfl rfl rfl rfl rfl ?_
  iterate 2 refine D.pure rfl rfl rfl rfl rfl rfl ?_
  refine D.buildSlice (([0, 1, 2] : List Nat).map encN) rfl rfl rfl rfl rfl rfl rfl rfl rfl rfl rfl rfl (fun _ => rfl) (fun p99 C99 hle99 hs99 => ?_)
  refine D.gives (fun _ => (sameInts_t _ _ _ [0, 1, 2] (hvr.mono (by (repeat (first | exact Mem.le.refl _ | assumption | (apply Mem.le.trans; rotate_left; assumption))))) (hs99.mono (by (repeat (first | exact Mem.le.refl _ | assumption | (apply Mem.le.trans; rotate_left; assumption))))) (by decide))) rfl rfl rfl rfl rfl rfl rfl rfl rfl ?_
  refine D.pickAnd rfl rfl rfl rfl rfl rfl rfl rfl ?_
  refine D.pure rfl rfl rfl rfl rfl rfl ?_
  refine D.done [(0, [], _)] ⟨rfl, trivial⟩ (hR _ _ _ rfl ?_); clear hR R
  refine G.retN (G.dropAll (G.fin1 rfl rfl ?_))
  exact ⟨rfl, rfl⟩
end Go.Proofs.YtddjibfmnkcalaaDoor
namespace Go.Proofs.YtddjibfmnkcalaaDoor
open Go Go.Jog
set_option maxRecDepth 100000

theorem upN_lt (x : Seen) : upN x < 6 := Nat.mod_lt _ (by decide)
theorem lowN_lt (x : Seen) : lowN x < 6 := by
  unfold lowN; split
  · exact Nat.mod_lt _ (by decide)
  · exact Nat.mod_lt _ (by decide)
theorem lowN_ne (x : Seen) : upN x ≠ lowN x := by
  unfold lowN upN
  split
  · have : x.b.toNat % 6 < 6 := Nat.mod_lt _ (by decide)
    omega
  · assumption
theorem nameI_inj : ∀ i, i < 6 → ∀ j, j < 6 → nameI i = nameI j → i = j := by decide
theorem nameI_ok : ∀ i, i < 6 → isNameB (nameI i) = true := by decide
theorem nameI_len : ∀ i, i < 6 → (nameI i).length < 1000000 := by decide
theorem mem_makeL {s : List Seen} {x : Rel} (h : x ∈ makeL s) : ∃ y : Seen, x = mkR y := by
  obtain ⟨y, _, rfl⟩ := List.mem_map.1 h
  exact ⟨y, rfl⟩
/-- A relation as Make makes it. -/
def MadeR (x : Rel) : Prop := 1 ≤ x.kind ∧ x.kind ≤ 4 ∧ ∃ i j, i < 6 ∧ j < 6 ∧ i ≠ j ∧ x.upper = nameI i ∧ x.lower = nameI j
def Made (l : List Rel) : Prop := l.length ≤ 8 ∧ ∀ x ∈ l, MadeR x
theorem made_makeL (s : List Seen) : Made (makeL s) := by
  refine ⟨by simp [makeL]; omega, fun x hx => ?_⟩
  obtain ⟨y, rfl⟩ := mem_makeL hx
  refine ⟨?_, ?_, upN y, lowN y, upN_lt y, lowN_lt y, lowN_ne y, rfl, rfl⟩
  · show (1 : Int) ≤ ((1 + y.a.toNat % 4 : Nat) : Int); omega
  · show ((1 + y.a.toNat % 4 : Nat) : Int) ≤ 4
    have : y.a.toNat % 4 < 4 := Nat.mod_lt _ (by decide)
    omega
theorem Made.take {l : List Rel} (h : Made l) (k : Nat) : Made (l.take k) := ⟨by rw [List.length_take]; have := h.1; omega, fun x hx => h.2 x (List.mem_of_mem_take hx)⟩
theorem Made.short {l : List Rel} (h : Made l) : ∀ x ∈ l, x.short := fun x hx => by
  obtain ⟨_, _, i, j, hi, hj, _, h1, h2⟩ := h.2 x hx
  exact ⟨by rw [h1]; exact nameI_len i hi, by rw [h2]; exact nameI_len j hj⟩
theorem Made.errOf {l : List Rel} (h : Made l) : ∀ x ∈ l, errOf x = 0 := fun x hx => by
  obtain ⟨h3, h4, i, j, hi, hj, hij, h1, h2⟩ := h.2 x hx
  unfold Proofs.YtddjibfmnkcalaaDoor.errOf
  rw [if_neg (by omega), if_neg (by rw [h1, h2, nameI_ok i hi, nameI_ok j hj]; simp), if_neg]
  intro e
  rw [h1, h2] at e
  exact hij (nameI_inj i hi j hj e)
theorem Made.units {l : List Rel} (h : Made l) : (unitsL l).length ≤ 6 := by
  have : (unitsL l).length ≤ ((List.range 6).map nameI).length := List.Nodup.length_le_of_subset (unitsL_nodup l) (fun s hs => by
    rw [unitsL, mem_setL, mem_namesOf] at hs
    obtain ⟨x, hx, hs⟩ := hs
    obtain ⟨_, _, i, j, hi, hj, _, h1, h2⟩ := h.2 x hx
    rcases hs with rfl | rfl
    · exact List.mem_map.2 ⟨i, List.mem_range.2 hi, h1.symm⟩
    · exact List.mem_map.2 ⟨j, List.mem_range.2 hj, h2.symm⟩)
  simpa using this
theorem Made.err {l : List Rel} (h : Made l) : errU l = 0 := by
  have h1 := h.1
  have h2 := h.units
  unfold errU
  rw [if_neg (by omega), if_neg (by rw [errs_zero h.errOf]; simp), if_neg (by omega)]
theorem Made.self {l : List Rel} (h : Made l) : ∀ a ∈ arcsOf l, a.up ≠ a.lo := fun a ha e => by
  obtain ⟨x, h1, _, h3, h4, h5, h6⟩ := arc_at ha
  obtain ⟨_, _, i, j, hi, hj, hij, h7, h8⟩ := h.2 x (List.mem_of_getElem? h1)
  rw [h3, h4] at e
  have := posS_inj h6 h5 e
  rw [h7, h8] at this
  exact hij (nameI_inj i hi j hj this)
theorem Made.arcs8 {l : List Rel} (h : Made l) : (arcsOf l).length ≤ 8 := by have := arcsOf_len l; have := h.1; omega
theorem Made.sub {l m : List Rel} (h : Made l) (hm : m.length ≤ 8) (hs : ∀ x ∈ m, x ∈ l) : Made m := ⟨hm, fun x hx => h.2 x (hs x hx)⟩
end Go.Proofs.YtddjibfmnkcalaaDoor
namespace Go.Proofs.YtddjibfmnkcalaaDoor
open Go Go.Jog
set_option maxRecDepth 100000

theorem walk_map {A B : List Arc3} {φ : Nat → Nat} (h : ∀ a ∈ A, ∃ b ∈ B, b.lo = φ a.lo ∧ b.up = φ a.up) : ∀ {k u v : Nat}, Walk A k u v → Walk B k (φ u) (φ v)
  | 0, u, v, hw => by rw [Walk.zero] at hw ⊢; rw [hw]
  | k + 1, u, v, hw => by
    obtain ⟨a, ha, rfl, h2⟩ := Walk.succ.1 hw
    obtain ⟨b, hb, h3, h4⟩ := h a ha
    exact Walk.succ.2 ⟨b, hb, h3, by rw [h4]; exact walk_map h h2⟩
theorem nameAt_pos {N : List Str} {s : Str} (h : s ∈ N) : nameAt N (posS N s) = s := by
  have h1 := posS_at h
  have h2 := nameAt_get (posS_lt h)
  rw [h1] at h2
  exact (Option.some.inj h2).symm
theorem back_take {l : List Rel} {k : Nat} (h : Back (arcsOf (l.take k))) : Back (arcsOf l) := by
  obtain ⟨j, w, h1, h2⟩ := h
  refine ⟨j, posS (unitsL l) (nameAt (unitsL (l.take k)) w), h1, walk_map (φ := fun u => posS (unitsL l) (nameAt (unitsL (l.take k)) u)) (fun a ha => ?_) h2⟩
  obtain ⟨x, hx, hk, h3, h4, h5, h6⟩ := arc_at ha
  have hx' : l[a.i]? = some x := by
    rw [List.getElem?_take] at hx
    split at hx
    · exact hx
    · cases hx
  refine ⟨⟨a.i, posS (unitsL l) x.lower, posS (unitsL l) x.upper⟩, mem_arcs3.2 ⟨x, hx', hk, rfl⟩, ?_, ?_⟩
  · show posS (unitsL l) x.lower = posS (unitsL l) (nameAt (unitsL (l.take k)) a.lo)
    rw [h3, nameAt_pos h5]
  · show posS (unitsL l) x.upper = posS (unitsL l) (nameAt (unitsL (l.take k)) a.up)
    rw [h4, nameAt_pos h6]
theorem back_nil : ¬ Back (arcsOf []) := fun ⟨k, w, h1, h2⟩ => by
  obtain ⟨j, rfl⟩ : ∃ j, k = j + 1 := ⟨k - 1, by omega⟩
  obtain ⟨a, ha, _⟩ := Walk.succ.1 h2
  obtain ⟨x, hx, _⟩ := arc_at ha
  simp at hx

theorem cyc_made {C : Mem} {l : List Rel} {r : Value} (hM : Made l) (h : CycRes C l r) : ∃ A c f r0, r = .tuple #[.slice A (r0.length) c, .bool f, .int .i64 0] ∧ Sl C 1 (.slice A r0.length c) (r0.map encN) ∧
    ((f = false ∧ r0 = [] ∧ ¬ Back (arcsOf l)) ∨ (f = true ∧ Back (arcsOf l) ∧ ∃ q, LeastCyc (arcsOf l) q ∧ r0 = nums q)) := by
  rcases h with ⟨h, _⟩ | ⟨_, h, rfl⟩ | ⟨_, q, v, h1, rfl, h3⟩
  · exact absurd hM.err h
  · exact ⟨none, 0, false, [], rfl, Sl.nilS _ _, .inl ⟨rfl, rfl, fun ⟨k, w, h1, h2⟩ => h k w h1 h2⟩⟩
  · obtain ⟨A, c, rfl, _⟩ := id h3
    obtain ⟨u, h4, h5⟩ := h1.1.walk
    have e : ((nums q).map encN).length = (nums q).length := by simp
    refine ⟨A, c, true, nums q, by rw [e], by rw [← e]; exact h3, .inr ⟨rfl, ⟨_, u, h4, h5⟩, q, h1, rfl⟩⟩
theorem first_made {l : List Rel} {r : Value} (hM : Made l) (h : FirstRes l r) : ∃ (n : Nat) (f : Bool), r = .tuple #[.int .i64 n, .bool f, .int .i64 0] ∧
    ((f = false ∧ n = 0 ∧ ¬ Back (arcsOf l)) ∨ (f = true ∧ n < l.length ∧ Back (arcsOf l) ∧ Back (arcsOf (l.take (n + 1))) ∧ ∀ j, j < n → ¬ Back (arcsOf (l.take (j + 1))))) := by
  rcases h with ⟨h, _⟩ | ⟨_, h, rfl⟩ | ⟨_, i, h1, h2, h3, rfl⟩
  · exact absurd hM.err h
  · refine ⟨0, false, rfl, .inl ⟨rfl, rfl, fun hb => ?_⟩⟩
    rcases Nat.eq_zero_or_pos l.length with e | e
    · rw [List.eq_nil_of_length_eq_zero e] at hb; exact back_nil hb
    · have := h (l.length - 1) (by omega)
      rw [show l.length - 1 + 1 = l.length by omega, List.take_length] at this
      exact this hb
  · exact ⟨i, true, rfl, .inr ⟨rfl, h1, back_take h2, h2, h3⟩⟩
theorem gt_lt {i n : Nat} (h : decide ((i : Int) < (n : Nat)) = true) : i < n := by simpa using h
theorem slb_of {len cap i : Nat} (h : i < len) (hlc : len ≤ cap) : SlB len cap none (some (.int .i64 ((i : Int) + 1))) none 0 (i + 1) cap := ⟨.inl ⟨rfl, rfl⟩, .inr ⟨_, rfl⟩, .inl ⟨rfl, rfl⟩, by omega, by omega, Nat.le_refl _⟩
theorem subTake {C : Mem} {A : Option Addr} {cap i : Nat} {l : List Rel} (hv : Sl C 3 (.slice A l.length cap) (l.map Rel.enc)) (h : i < l.length) (hlc : l.length ≤ cap) :
    Sl C 3 (.slice (if cap = 0 then A else A.map (·.add (0 * 3))) (i + 1 - 0) (cap - 0)) ((l.take (i + 1)).map Rel.enc) := by
  have := hv.sub (l := 0) (h := i + 1) (m := cap) (Nat.zero_le _) (by rw [List.length_map]; omega) (by omega) (Nat.le_refl _)
  rwa [List.drop_zero, ← List.map_take] at this
theorem cycle_nonempty {A q : List Arc3} (h : LeastCyc A q) : nums q ≠ [] := fun e => by
  obtain ⟨a, q', rfl, _⟩ := h.1
  simp [nums] at e

end Go.Proofs.YtddjibfmnkcalaaDoor
namespace Go.Proofs.YtddjibfmnkcalaaDoor
open Go Go.Jog
set_option maxRecDepth 100000

theorem old_made {l : List Rel} {a b : Str} {r : Value} (hM : Made l) (h : OldRes l a b r) : (r = .tuple #[.bool false, .int .i64 10] ∧ (a ∉ unitsL l ∨ b ∉ unitsL l)) ∨
    ∃ t, r = .tuple #[.bool t, .int .i64 0] ∧ a ∈ unitsL l ∧ b ∈ unitsL l ∧ (t = true ↔ 0 < Jog.tab (arcsOf l) 8 (posS (unitsL l) a) (posS (unitsL l) b)) := by
  rcases h with ⟨h, _⟩ | ⟨_, h, rfl⟩ | ⟨_, h1, h2, t, h3, h4⟩
  · exact absurd hM.err h
  · exact .inl ⟨rfl, h⟩
  · exact .inr ⟨t, h3, h1, h2, by rw [h4]; exact reach_tab hM.arcs8⟩
theorem idxS_neg {N : List Str} {s : Str} (h : s ∉ N) : idxS N s = -1 := by unfold idxS; rw [if_neg h]

theorem reach_fnG (C : Mem) (v : Value) (l : List Rel) (hv : Sl C 3 v (l.map Rel.enc)) (hl : l.length ≤ 100000) : Pur cx.P 42 [v] C fun u C' => ∃ x : Option Addr × Nat, u = .slice x.1 (unitsL l).length x.2 ∧ Tbl C' (.slice x.1 (unitsL l).length x.2) (unitsL l).length (Jog.tab (arcsOf l) 8) :=
  Fn.mono (reach_fn C v l hv hl) (fun u C' L' _ ⟨h0, vs, h1, h2, h3⟩ => ⟨h0, by
    obtain ⟨A, c, rfl, _⟩ := id h2
    refine ⟨(A, c), by simp [h1], vs, h1, ?_, h3⟩
    simpa [h1] using h2⟩)

end Go.Proofs.YtddjibfmnkcalaaDoor
namespace Go.Proofs.YtddjibfmnkcalaaDoor
open Go Go.Jog
set_option maxRecDepth 100000

/-- The greatest of the first so many. -/
def mx (f : Nat → Nat) : Nat → Nat
  | 0 => 0
  | k + 1 => max (mx f k) (f k)
theorem mx_spec (f : Nat → Nat) : ∀ n, (∀ k, k < n → f k ≤ mx f n) ∧ (mx f n = 0 ∨ ∃ k, k < n ∧ f k = mx f n)
  | 0 => ⟨fun k h => by omega, .inl rfl⟩
  | n + 1 => by
    obtain ⟨h1, h2⟩ := mx_spec f n
    refine ⟨fun k hk => ?_, ?_⟩
    · simp only [mx]
      rcases Nat.lt_or_ge k n with h | h
      · have := h1 k h; omega
      · have : k = n := by omega
        subst this; omega
    · simp only [mx]
      rcases Nat.le_total (mx f n) (f n) with h | h
      · exact .inr ⟨n, by omega, by omega⟩
      · rw [Nat.max_eq_left h]
        rcases h2 with h2 | ⟨k, h3, h4⟩
        · exact .inl h2
        · exact .inr ⟨k, by omega, h4⟩
theorem long_mx {A : List Arc3} {n i : Nat} (hac : Acyc A) (hb : Below n A) (hn : n ≤ 8) (hi : i < n) : LongTo A i (mx (fun k => Jog.tab A 8 k i) n) := by
  obtain ⟨h1, h2⟩ := mx_spec (fun k => Jog.tab A 8 k i) n
  refine ⟨?_, fun k v hw => ?_⟩
  · rcases h2 with h2 | ⟨k, h3, h4⟩
    · rw [h2]; exact ⟨i, Walk.zero.2 rfl⟩
    · rw [← h4]
      rcases tab_long A 8 (Nat.le_refl _) k i with ⟨h5, _⟩ | ⟨_, _, h5, _⟩
      · rw [h5]; exact ⟨i, Walk.zero.2 rfl⟩
      · exact ⟨k, h5⟩
  · rcases Nat.eq_zero_or_pos k with e | e
    · omega
    · obtain ⟨j, rfl⟩ : ∃ j, k = j + 1 := ⟨k - 1, by omega⟩
      have hv : v < n := by
        obtain ⟨a, ha, rfl, _⟩ := Walk.succ.1 hw
        exact (hb a ha).1
      have hk := acyc_lt hac hb hw hi
      have h6 := h1 v hv
      rcases tab_long A 8 (Nat.le_refl _) v i with ⟨_, h5⟩ | ⟨_, _, _, h5⟩
      · exact absurd hw (h5 _ e (by omega))
      · have := h5 _ (by omega) hw
        omega
theorem long_from_mx {A : List Arc3} {n i : Nat} (hac : Acyc A) (hb : Below n A) (hn : n ≤ 8) (hi : i < n) : LongFrom A i (mx (fun k => Jog.tab A 8 i k) n) := by
  obtain ⟨h1, h2⟩ := mx_spec (fun k => Jog.tab A 8 i k) n
  refine ⟨?_, fun k v hw => ?_⟩
  · rcases h2 with h2 | ⟨k, h3, h4⟩
    · rw [h2]; exact ⟨i, Walk.zero.2 rfl⟩
    · rw [← h4]
      rcases tab_long A 8 (Nat.le_refl _) i k with ⟨h5, _⟩ | ⟨_, _, h5, _⟩
      · rw [h5]; exact ⟨i, Walk.zero.2 rfl⟩
      · exact ⟨k, h5⟩
  · rcases Nat.eq_zero_or_pos k with e | e
    · omega
    · obtain ⟨j, rfl⟩ : ∃ j, k = j + 1 := ⟨k - 1, by omega⟩
      have hv : v < n := by
        obtain ⟨a, ha, rfl, _⟩ := Walk.snoc.1 hw
        exact (hb a ha).2
      have hk := acyc_lt hac hb hw hv
      have h6 := h1 v hv
      rcases tab_long A 8 (Nat.le_refl _) i v with ⟨_, h5⟩ | ⟨_, _, _, h5⟩
      · exact absurd hw (h5 _ e (by omega))
      · have := h5 _ (by omega) hw
        omega
/-- The earliest rank, and how long the longest way on is. -/
def eaR (A : List Arc3) (n i : Nat) : Nat := mx (fun k => Jog.tab A 8 k i) n
def onR (A : List Arc3) (n i : Nat) : Nat := mx (fun k => Jog.tab A 8 i k) n
theorem rank_ok {A : List Arc3} {n i : Nat} (hac : Acyc A) (hb : Below n A) (hn : n ≤ 8) (hi : i < n) : eaR A n i + onR A n i ≤ mx (eaR A n) n := by
  obtain ⟨⟨u, hu⟩, _⟩ := long_mx hac hb hn hi
  obtain ⟨⟨v, hv⟩, _⟩ := long_from_mx hac hb hn hi
  have hw := Walk.add hu hv
  rcases Nat.eq_zero_or_pos (onR A n i) with e | e
  · rw [e]; exact (mx_spec (eaR A n) n).1 i hi
  · have hvn : v < n := by
      obtain ⟨j, hj⟩ : ∃ j, onR A n i = j + 1 := ⟨onR A n i - 1, by omega⟩
      have hv' : Walk A (onR A n i) i v := hv
      rw [hj] at hv'
      obtain ⟨a, ha, rfl, _⟩ := Walk.snoc.1 hv'
      exact (hb a ha).2
    have h1 := (long_mx hac hb hn hvn).2 _ _ hw
    have h2 := (mx_spec (eaR A n) n).1 v hvn
    exact Nat.le_trans h1 h2
theorem ranks_made {C : Mem} {l : List Rel} {r : Value} (hM : Made l) (h : RankRes C l r) : (Back (arcsOf l) ∧ r = .tuple #[nilV, nilV, .int .i64 27]) ∨
    (¬ Back (arcsOf l) ∧ ∃ va vb, r = .tuple #[va, vb, .int .i64 0] ∧ Sl C 1 va (((List.range (unitsL l).length).map (eaR (arcsOf l) (unitsL l).length)).map encN) ∧
      Sl C 1 vb (((List.range (unitsL l).length).map fun i => ((mx (eaR (arcsOf l) (unitsL l).length) (unitsL l).length : Nat) : Int) - (onR (arcsOf l) (unitsL l).length i : Nat)).map encI)) := by
  rcases h with ⟨h, _⟩ | ⟨_, h1, h2⟩ | ⟨_, h0, m, es, ls, va, vb, ⟨h1, h2, h3, h4, h5⟩, h6, h7, h8⟩
  · exact absurd hM.err h
  · exact .inl ⟨h1, h2⟩
  · refine .inr ⟨h0, va, vb, h6, ?_, ?_⟩
    all_goals
      have hac : Acyc (arcsOf l) := fun k u h9 h10 => h0 ⟨k, u, h9, h10⟩
      have hb := (gok_of (l := l) (by have := hM.1; omega)).below
      have hn : (unitsL l).length ≤ 8 := by have := hM.units; omega
      have hv : ∀ v, v < (unitsL l).length → hAt es v = eaR (arcsOf l) (unitsL l).length v := fun v hv => (h2 v hv).unique (long_mx hac hb hn hv)
    · have : es = (List.range (unitsL l).length).map (eaR (arcsOf l) (unitsL l).length) := by
        refine List.ext_getElem (by simp [h1]) (fun i h9 h10 => ?_)
        have := hv i (by omega)
        rw [hAt_get (List.getElem?_eq_getElem h9)] at this
        rw [this]; simp
      rw [← this]; exact h7
    · have hm : m = mx (eaR (arcsOf l) (unitsL l).length) (unitsL l).length := by
        obtain ⟨h9, h10⟩ := mx_spec (eaR (arcsOf l) (unitsL l).length) (unitsL l).length
        apply Nat.le_antisymm
        · rcases h3.2 with h | ⟨x, hx, h⟩
          · omega
          · rw [← h, hv x (List.mem_range.1 hx)]; exact h9 x (List.mem_range.1 hx)
        · rcases h10 with h | ⟨k, hk, h⟩
          · omega
          · rw [← h, ← hv k hk]; exact h3.1 k (List.mem_range.2 hk)
      have : ls = (List.range (unitsL l).length).map fun i => ((mx (eaR (arcsOf l) (unitsL l).length) (unitsL l).length : Nat) : Int) - (onR (arcsOf l) (unitsL l).length i : Nat) := by
        refine List.ext_getElem (by simp [h4]) (fun i h9 h10 => ?_)
        obtain ⟨d, h11, h12⟩ := h5 i (by omega)
        have h13 := h11.unique (long_from_mx hac hb hn (by omega))
        rw [dAt_get (List.getElem?_eq_getElem h9), h13, hm] at h12
        rw [h12]; simp [onR]
      rw [← this]; exact h8
theorem sameInts_tI (C : Mem) (va vb : Value) (x : List Int) (ha : Sl C 1 va (x.map encI)) (hb : Sl C 1 vb (x.map encI)) (hl : x.length ≤ 1000000) : Gives cx.P 30 [va, vb] C (.bool true) := by
  have := sameInts_fn C va vb _ _ ha hb hl
  simpa using this

theorem mx_le {f : Nat → Nat} {b : Nat} (h : ∀ k, f k ≤ b) (n : Nat) : mx f n ≤ b := by
  rcases (mx_spec f n).2 with h1 | ⟨k, _, h1⟩
  · omega
  · rw [← h1]; exact h k

end Go.Proofs.YtddjibfmnkcalaaDoor
namespace Go.Proofs.YtddjibfmnkcalaaDoor
open Go Go.Jog
set_option maxRecDepth 100000

theorem chain_next : ∀ {p : List Arc3} {u v i : Nat} {x y : Arc3}, Chain u p v → p[i]? = some x → p[i + 1]? = some y → x.up = y.lo
  | [], _, _, _, _, _, _, h, _ => by simp at h
  | a :: p, u, v, 0, x, y, hc, h1, h2 => by
    simp only [List.getElem?_cons_zero, Option.some.injEq] at h1
    subst h1
    cases p with
    | nil => simp at h2
    | cons b p =>
      simp at h2
      subst h2
      exact hc.2.1.symm
  | a :: p, u, v, i + 1, x, y, hc, h1, h2 => chain_next (i := i) hc.2 (by simpa using h1) (by simpa using h2)
theorem chain_last : ∀ {p : List Arc3} {u v : Nat} {x : Arc3}, Chain u p v → p[p.length - 1]? = some x → 0 < p.length → x.up = v
  | [a], u, v, x, hc, h1, _ => by simp at h1; subst h1; exact hc.2
  | a :: b :: p, u, v, x, hc, h1, _ => chain_last (p := b :: p) hc.2 (by simpa using h1) (by simp)
theorem cyc_next {A q : List Arc3} (h : Cyc A q) {i : Nat} {x y : Arc3} (hx : q[i]? = some x) (hy : q[(i + 1) % q.length]? = some y) : x.up = y.lo := by
  obtain ⟨a, q', rfl, hi, hc, _⟩ := h
  have hlt := (List.getElem?_eq_some_iff.1 hx).1
  rcases Nat.lt_or_ge (i + 1) (a :: q').length with h1 | h1
  · rw [Nat.mod_eq_of_lt h1] at hy
    exact chain_next hc hx hy
  · have e : i + 1 = (a :: q').length := by omega
    rw [e, Nat.mod_self] at hy
    simp only [List.getElem?_cons_zero, Option.some.injEq] at hy
    subst hy
    exact chain_last hc (by rw [show (a :: q').length - 1 = i by omega]; exact hx) (by simp)
theorem cyc_two {A q : List Arc3} (h : Cyc A q) (hs : ∀ a ∈ A, a.up ≠ a.lo) : 2 ≤ q.length := by
  obtain ⟨a, q', rfl, hi, hc, _⟩ := h
  cases q' with
  | nil => exact absurd hc.2 (hs a (hi a (by simp)))
  | cons b q' => simp
/-- The relations of a list of arcs. -/
def relsOf (l : List Rel) (q : List Arc3) : List Rel := q.map fun a => l.getD a.i ⟨0, [], []⟩
theorem relsOf_at {l : List Rel} {q : List Arc3} {i : Nat} {a : Arc3} {x : Rel} (h : q[i]? = some a) (hx : l[a.i]? = some x) : (relsOf l q)[i]? = some x := by
  rw [relsOf, List.getElem?_map, h]
  simp [List.getD_eq_getElem?_getD, hx]
theorem erase_step {α : Type} {l : List α} {k i : Nat} {x : α} (h : l[k]? = some x) : (l.take (k + 1)).eraseIdx i = (l.take k).eraseIdx i ++ (if k = i then [] else [x]) := by
  have hlt := (List.getElem?_eq_some_iff.1 h).1
  rw [List.take_add_one, h]
  simp only [Option.toList_some]
  rw [List.eraseIdx_append]
  have hl : (l.take k).length = k := by rw [List.length_take]; omega
  rw [hl]
  split
  · rename_i h1
    rw [if_neg (by omega)]
  · rename_i h1
    by_cases e : k = i
    · subst e
      rw [Nat.sub_self, if_pos rfl, List.append_nil, List.eraseIdx_of_length_le (l := l.take k) (by omega)]
      simp
    · rw [if_neg e, List.eraseIdx_of_length_le (l := l.take k) (by omega), List.eraseIdx_of_length_le (by simp; omega)]
theorem erase_map {α β : Type} {f : α → β} : ∀ {l : List α} {i : Nat}, (l.map f).eraseIdx i = (l.eraseIdx i).map f
  | [], _ => rfl
  | _ :: _, 0 => rfl
  | _ :: l, i + 1 => by simp only [List.map_cons, List.eraseIdx_cons_succ]; rw [erase_map]
theorem turn_free {l : List Rel} {q : List Arc3} {i : Nat} (h : LeastCyc (arcsOf l) q) (hi : i < q.length) (hl : l.length ≤ 100000) : ¬ Back (arcsOf ((relsOf l q).eraseIdx i)) := by
  intro hb
  have hin : In (arcsOf l) q := by obtain ⟨a, q', rfl, hi, _⟩ := h.1; exact hi
  have hB : Back (q.eraseIdx i) := by
    obtain ⟨j, w, h1, h2⟩ := hb
    refine ⟨j, _, h1, walk_map (φ := fun u => posS (unitsL l) (nameAt (unitsL ((relsOf l q).eraseIdx i)) u)) (fun a ha => ?_) h2⟩
    obtain ⟨x, hx, hk, h3, h4, h5, h6⟩ := arc_at ha
    rw [relsOf, erase_map] at hx
    rw [List.getElem?_map] at hx
    cases hb2 : (q.eraseIdx i)[a.i]? with
    | none => rw [hb2] at hx; cases hx
    | some b =>
      rw [hb2] at hx
      have hbm := List.mem_of_getElem? hb2
      have hbA := hin b (List.mem_of_mem_eraseIdx hbm)
      obtain ⟨y, h7, _, h8, h9, _, _⟩ := arc_at hbA
      have hxy : x = y := by
        simp only [Option.map_some, Option.some.injEq] at hx
        rw [← hx, List.getD_eq_getElem?_getD, h7]; rfl
      subst hxy
      refine ⟨b, hbm, ?_, ?_⟩
      · rw [h8, h3, nameAt_pos h5]
      · rw [h9, h4, nameAt_pos h6]
  have hix := (gok_of (l := l) hl).ix
  obtain ⟨k, w, h1, h2, h3⟩ := back_small (A := q.eraseIdx i) (fun a ha b hb e => hix.inj a (hin a (List.mem_of_mem_eraseIdx ha)) b (hin b (List.mem_of_mem_eraseIdx hb)) e) hB
  have h4 := h.2.1 k w h1 (h3.mono (fun a ha => hin a (List.mem_of_mem_eraseIdx ha)))
  rw [List.length_eraseIdx] at h2
  split at h2 <;> omega
theorem ord_made {C : Mem} {l : List Rel} {r : Value} (hM : Made l) (h : OrdRes C l r) : (Back (arcsOf l) ∧ r = .tuple #[nilV, .int .i64 27]) ∨ (¬ Back (arcsOf l) ∧ ∃ o v, TopoLeast (arcsOf l) (unitsL l).length o ∧ r = .tuple #[v, .int .i64 0] ∧ Sl C 1 v ((namesOfO l o).map encS)) := by
  rcases h with ⟨h, _⟩ | ⟨_, h, h2⟩ | ⟨_, o, v, h1, h2, h3⟩
  · exact absurd hM.err h
  · exact .inl ⟨h, h2⟩
  · refine .inr ⟨fun ⟨k, w, h4, h5⟩ => ?_, o, v, h1, h2, h3⟩
    have := (gok_of (l := l) (by have := hM.1; omega)).below
    exact h1.1.acyc this k w h4 h5

end Go.Proofs.YtddjibfmnkcalaaDoor
namespace Go.Proofs.YtddjibfmnkcalaaDoor
open Go Go.Jog
set_option maxRecDepth 100000

theorem cat_at2 {α : Type} {f : Nat → List α} {i n : Nat} {pre : List α} {x : α} (h : i < n) (he : pre ++ [x] <+: f i) : (cat f n)[(cat f i).length + pre.length]? = some x := by
  obtain ⟨post, h2⟩ := he
  exact cat_at h (by rw [← h2]; simp; rfl)
theorem clo_at {t : Nat → Nat → Bool} {n i k : Nat} (hi : i < n) (hk : k < n) (ht : t i k = true) : (cloL t n n)[(cloL t n i).length + (cloRow t i k).length]? = some (i, k) := by
  refine cat_at2 (f := fun i => cloRow t i n) hi ?_
  have h1 : cloRow t i (k + 1) = cloRow t i k ++ [(i, k)] := by unfold cloRow; rw [cat_succ, oneIf_true ht]
  rw [← h1]
  exact cat_prefix (by omega)
theorem clo_made {C : Mem} {l : List Rel} {r : Value} (hM : Made l) (h : CloRes C l r) : ∃ v, r = .tuple #[v, .int .i64 0] ∧ Sl C 2 v ((cloL (fun i k => decide (0 < Jog.tab (arcsOf l) 8 i k)) (unitsL l).length (unitsL l).length).map (pairE (unitsL l))) := by
  rcases h with ⟨h, _⟩ | ⟨_, t, v, h1, h2, h3⟩
  · exact absurd hM.err h
  · have : t = fun i k => decide (0 < Jog.tab (arcsOf l) 8 i k) := by
      funext i k
      rw [Bool.eq_iff_iff, h1, reach_tab hM.arcs8, decide_eq_true_iff]
    exact ⟨v, h2, this ▸ h3⟩
/-- The law's own test: a longer way, or an earlier arc between the same two. -/
def impC (A : List Arc3) (a : Arc3) : Bool := decide (1 < Jog.tab A 8 a.lo a.up) || A.any fun b => decide (b.lo = a.lo ∧ b.up = a.up ∧ b.i < a.i)
theorem implied_iff {A : List Arc3} {n : Nat} (hac : Acyc A) (hb : Below n A) (hn : n ≤ 8) {a : Arc3} : Implied A a ↔ impC A a = true := by
  simp only [impC, Bool.or_eq_true, decide_eq_true_eq, List.any_eq_true, Implied, ImpBy, mem_nexts]
  constructor
  · rintro ⟨b, ⟨h1, h2⟩, ⟨h3, h4⟩ | ⟨h3, m, h4, h5⟩⟩
    · exact .inr ⟨b, h1, h2, h3, h4⟩
    · left
      have hw : Walk A (m + 1) a.lo a.up := Walk.succ.2 ⟨b, h1, h2, h5⟩
      have hs := acyc_short hac hb hw
      rcases tab_long A 8 (Nat.le_refl _) a.lo a.up with ⟨_, h6⟩ | ⟨_, _, _, h6⟩
      · exact absurd hw (h6 _ (by omega) (by omega))
      · have := h6 _ (by omega) hw
        omega
  · rintro (h | ⟨b, h1, h2, h3, h4⟩)
    · rcases tab_long A 8 (Nat.le_refl _) a.lo a.up with ⟨h6, _⟩ | ⟨_, _, h6, _⟩
      · omega
      · obtain ⟨m, hm⟩ : ∃ m, Jog.tab A 8 a.lo a.up = m + 2 := ⟨Jog.tab A 8 a.lo a.up - 2, by omega⟩
        rw [hm] at h6
        obtain ⟨b, h7, h8, h9⟩ := Walk.succ.1 h6
        refine ⟨b, ⟨h7, h8⟩, .inr ⟨fun e => ?_, m + 1, by omega, h9⟩⟩
        rw [e] at h9
        exact hac _ _ (by omega) h9
    · exact ⟨b, ⟨h1, h2⟩, .inl ⟨h3, h4⟩⟩
theorem red_made {C : Mem} {l : List Rel} {r : Value} (hM : Made l) (h : RedRes C l r) : (Back (arcsOf l) ∧ r = .tuple #[nilV, .int .i64 27]) ∨
    (¬ Back (arcsOf l) ∧ ∃ v, r = .tuple #[v, .int .i64 0] ∧ Sl C 1 v ((nums ((arcsOf l).filter fun a => !impC (arcsOf l) a)).map encN)) := by
  rcases h with ⟨h, _⟩ | ⟨_, h, h2⟩ | ⟨_, hnb, q, v, ⟨h1, h2⟩, h3, h4⟩
  · exact absurd hM.err h
  · exact .inl ⟨h, h2⟩
  · refine .inr ⟨hnb, v, h3, ?_⟩
    have hok := gok_of (l := l) (by have := hM.1; omega)
    have hac : Acyc (arcsOf l) := fun k u h5 h6 => hnb ⟨k, u, h5, h6⟩
    have e : q = (arcsOf l).filter fun a => !impC (arcsOf l) a := by
      have := sublist_filter (P := fun a => impC (arcsOf l) a = false) hok.ix.nodup h1 (fun a ha => by
        rw [h2 a ha, implied_iff hac hok.below (by have := hM.units; omega)]; simp)
      rw [this]
      congr 1
      funext a
      cases impC (arcsOf l) a <;> rfl
    rw [← e]; exact h4
def wantL (l : List Rel) (i : Nat) : List Nat := nums ((cat (arcAt (unitsL l) l) i).filter fun a => !impC (arcsOf l) a)
def Want (l : List Rel) (x : Rel) (k : Nat) : Prop := x.kind = 4 ∨ 1 < Jog.tab (arcsOf l) 8 (posS (unitsL l) x.lower) (posS (unitsL l) x.upper) ∨ ∃ j y, j < k ∧ l[j]? = some y ∧ y.kind ≠ 4 ∧ y.upper = x.upper ∧ y.lower = x.lower
theorem want_step {l : List Rel} {i : Nat} {x : Rel} {b : Bool} (hx : l[i]? = some x) (hb : b = true ↔ Want l x i) : wantL l (i + 1) = wantL l i ++ (if b then [] else [i]) := by
  have hm := mem_units (List.mem_of_getElem? hx)
  have e : arcAt (unitsL l) l i = oneIf (!(x.kind == 4)) ⟨i, posS (unitsL l) x.lower, posS (unitsL l) x.upper⟩ := by unfold arcAt; rw [hx]
  unfold wantL
  rw [cat_succ, e, List.filter_append, nums, nums, List.map_append]
  congr 1
  by_cases hk : x.kind = 4
  · rw [hb.2 (.inl hk)]
    simp [hk, oneIf]
  · have hq : impC (arcsOf l) ⟨i, posS (unitsL l) x.lower, posS (unitsL l) x.upper⟩ = b := by
      rw [Bool.eq_iff_iff, hb]
      simp only [impC, Bool.or_eq_true, decide_eq_true_eq, List.any_eq_true]
      constructor
      · rintro (h | ⟨a, h1, h2, h3, h4⟩)
        · exact .inr (.inl h)
        · obtain ⟨y, h5, h6, h7, h8, h9, h10⟩ := arc_at h1
          exact .inr (.inr ⟨a.i, y, h4, h5, h6, posS_inj h10 hm.2 (by rw [← h8]; exact h3), posS_inj h9 hm.1 (by rw [← h7]; exact h2)⟩)
      · rintro (h | h | ⟨j, y, h1, h2, h3, h4, h5⟩)
        · exact absurd h hk
        · exact .inl h
        · refine .inr ⟨⟨j, posS (unitsL l) y.lower, posS (unitsL l) y.upper⟩, mem_arcs3.2 ⟨y, h2, h3, rfl⟩, by rw [h5], by rw [h4], h1⟩
    have hk2 : (!(x.kind == 4)) = true := by simp [hk]
    rw [hk2, oneIf_true rfl]
    cases b <;> simp [hq]
theorem want_next {l : List Rel} {x y : Rel} {k : Nat} {b b' : Bool} (hy : l[k]? = some y) (hb : b = true ↔ Want l x k) (hb' : b' = true ↔ b = true ∨ y.kind ≠ 4 ∧ y.upper = x.upper ∧ y.lower = x.lower) : b' = true ↔ Want l x (k + 1) := by
  rw [hb', hb]
  unfold Want
  constructor
  · rintro ((h | h | ⟨j, z, h1, h2⟩) | h)
    · exact .inl h
    · exact .inr (.inl h)
    · exact .inr (.inr ⟨j, z, by omega, h2⟩)
    · exact .inr (.inr ⟨k, y, by omega, hy, h⟩)
  · rintro (h | h | ⟨j, z, h1, h2, h3⟩)
    · exact .inl (.inl h)
    · exact .inl (.inr (.inl h))
    · rcases Nat.lt_or_ge j k with h4 | h4
      · exact .inl (.inr (.inr ⟨j, z, h4, h2, h3⟩))
      · have : j = k := by omega
        subst this
        rw [hy] at h2
        cases h2
        exact .inr h3
theorem wantL_len (l : List Rel) (i : Nat) : (wantL l i).length ≤ i := by
  have h1 := arcAt_len (unitsL l) l i
  have h2 := List.length_filter_le (fun a => !impC (arcsOf l) a) (cat (arcAt (unitsL l) l) i)
  unfold wantL nums
  rw [List.length_map]
  omega

end Go.Proofs.YtddjibfmnkcalaaDoor
namespace Go.Proofs.YtddjibfmnkcalaaDoor
open Go Go.Jog
set_option maxRecDepth 100000

theorem posS_le : ∀ {N : List Str} {s : Str} {k : Nat}, N[k]? = some s → posS N s ≤ k
  | [], _, _, h => by simp at h
  | x :: N, s, 0, h => by simp at h; simp [posS, h]
  | x :: N, s, k + 1, h => by
    have := posS_le (N := N) (s := s) (k := k) (by simpa using h)
    unfold posS
    split <;> omega
theorem idx_early {N : List Str} {s : Str} {i : Nat} (h : N[i]? = some s) : idxS N s < (i : Int) ↔ s ∈ N.take i := by
  rw [idxS_pos (List.mem_of_getElem? h)]
  constructor
  · intro hlt
    rcases Classical.em (s ∈ N.take i) with h2 | h2
    · exact h2
    · have := posS_take h h2
      omega
  · intro h2
    obtain ⟨j, h3⟩ := List.getElem?_of_mem h2
    have hj : j < i := by have := (List.getElem?_eq_some_iff.1 h3).1; rw [List.length_take] at this; omega
    rw [List.getElem?_take, if_pos hj] at h3
    have := posS_le h3
    omega
theorem take_nodup {N : List Str} {s : Str} {i : Nat} (h : N[i]? = some s) : (N.take (i + 1)).Nodup ↔ (N.take i).Nodup ∧ s ∉ N.take i := by
  have e : N.take (i + 1) = N.take i ++ [s] := by rw [List.take_add_one, h]; rfl
  rw [e]
  constructor
  · intro h2
    rw [List.nodup_append] at h2
    exact ⟨h2.1, fun hm => h2.2.2 s hm s (by simp) rfl⟩
  · exact fun ⟨h2, h3⟩ => nodup_snoc h2 h3
def MissTo (N o : List Str) (i : Nat) : Prop := ∃ k s, k < i ∧ N[k]? = some s ∧ s ∉ o
theorem miss_next {N o : List Str} {s : Str} {i : Nat} {b b' : Bool} (h : N[i]? = some s) (hb : b = true ↔ MissTo N o i) (hb' : b' = true ↔ b = true ∨ s ∉ o) : b' = true ↔ MissTo N o (i + 1) := by
  rw [hb', hb]
  constructor
  · rintro (⟨k, t, h1, h2⟩ | h1)
    · exact ⟨k, t, by omega, h2⟩
    · exact ⟨i, s, by omega, h, h1⟩
  · rintro ⟨k, t, h1, h2, h3⟩
    rcases Nat.lt_or_ge k i with h4 | h4
    · exact .inl ⟨k, t, h4, h2, h3⟩
    · have : k = i := by omega
      subst this
      rw [h] at h2
      cases h2
      exact .inr h3
theorem idx_lt0 {o : List Str} {s : Str} : idxS o s < 0 ↔ s ∉ o := by
  unfold idxS
  split
  · rename_i h
    exact ⟨fun h2 => by omega, fun h2 => absurd h h2⟩
  · rename_i h
    exact ⟨fun _ => h, fun _ => by omega⟩
theorem bad_iff {l : List Rel} {o : List Str} {x : Rel} (hM : Made l) (hx : x ∈ l) (ha : ∀ s ∈ unitsL l, s ∈ o) : Bad o x ↔ x.kind ≠ 4 ∧ idxS o x.upper < idxS o x.lower := by
  have hm := mem_units hx
  have h1 := ha _ hm.1
  have h2 := ha _ hm.2
  unfold Bad
  rw [idxS_pos h1, idxS_pos h2, posZ, posZ, if_pos h1, if_pos h2]
  refine and_congr_right (fun _ => ⟨fun h => ?_, fun h => by omega⟩)
  have : posS o x.upper ≠ posS o x.lower := fun e => by
    have e2 := posS_inj h2 h1 e
    obtain ⟨_, _, i, j, h3, h4, h5, h6, h7⟩ := hM.2 x hx
    rw [h6, h7] at e2
    exact h5 (nameI_inj i h3 j h4 e2)
  omega

end Go.Proofs.YtddjibfmnkcalaaDoor
namespace Go.Jog
open Go Go.Proofs Go.Shelf

/-- A variable of the library's, as memory that nobody writes. -/
def VarC (P : Program) (C : Mem) (name : String) (cs : Array Value) : Prop := ∃ g e fz, P.globalNamed name = some g ∧ C g = some (.cells cs e fz)
theorem VarC.mono {P : Program} {C D : Mem} {name : String} {cs : Array Value} (h : VarC P C name cs) (hl : C.le D) : VarC P D name cs :=
  let ⟨g, e, fz, h1, h2⟩ := h
  ⟨g, e, fz, h1, hl _ _ h2⟩
theorem VarC.var {P : Program} {C : Mem} {name : String} {cs : Array Value} (h : VarC P C name cs) {L : List Ent} {w : World} (hw : Sep C L w) : w.var? P name = some cs := by
  obtain ⟨g, e, fz, h1, h2⟩ := h
  have h3 := hw.c _ _ h2
  simp [World.var?, h1, h3]
theorem VarC.ofWorld {P : Program} {W : World} {name : String} {cs : Array Value} (h : W.var? P name = some cs) : VarC P (memOf W) name cs := by
  unfold World.var? at h
  cases hg : P.globalNamed name with
  | none => rw [hg] at h; cases h
  | some g =>
    rw [hg] at h
    simp only [Option.bind_some] at h
    split at h
    · rename_i cs' e fz hb
      simp only [Option.some.injEq] at h
      subst h
      exact ⟨g, e, fz, hg, hb⟩
    · cases h

theorem St.grown {C : Mem} {w : World} (hw : Sep C [] w) (q : Nat) (os : Array Obj) : St w C [] C [] (Sort.grow (w.drewN q) os) :=
  ⟨⟨fun b o hb => by rw [Sort.heap_grow_old (w.drewN q) os (lt_of_heap (hw.c b o hb) : b < (w.drewN q).heap.size)]; exact hw.c b o hb, fun x hx => (by cases hx), List.Pairwise.nil, hw.n⟩,
    ⟨rfl, rfl, rfl, by simp [Sort.grow], fun k hk _ => Sort.heap_grow_old (w.drewN q) os hk, Nat.le_add_right _ _⟩, Mem.le.refl _, fun _ _ hk => .inl hk, fun _ hk => .inr hk⟩

section
variable {P : Program} {ρ : Ren}
/-- strconv.Itoa. -/
theorem itoa_fn (L : LaysM.n171 P ρ) (n : Int) (h0 : -9223372036854775808 ≤ n) (h1 : n ≤ 9223372036854775807) (C : Mem) (hT : VarC P C "internal/strconv.uint64pow10" (Lib.pow10Tab.map fun z => Value.int .u64 z).toArray) (hen : Enters P (ρ.f 171) = true) :
    Gives P (ρ.f 171) [.int .i64 n] C (strV (Lib.itoa n)) :=
  ⟨hen, fun w hw => (Any.strconv_Itoa L n h0 h1 w (hT.var hw)).mono fun e w' ⟨h2, q, os, h3⟩ => by
    subst h3
    exact ⟨_, C, [], h2, St.grown hw q os, rfl, rfl⟩⟩
/-- math/bits.TrailingZeros. -/
theorem tz_fn (L : Lays7.n27 P ρ) (x : Nat) (hx : x < 18446744073709551616) (C : Mem) (hg : P.globalNamed "math/bits.deBruijn64tab" = some (ρ.g 1)) (hT : VarC P C "math/bits.deBruijn64tab" (Lib.deBruijn64tab.map fun z : Nat => Value.int .u8 (z : Int)).toArray) (hen : Enters P (ρ.f 27) = true) :
    Gives P (ρ.f 27) [.int .u64 x] C (.int .i64 (Lib.ctz 64 x)) :=
  ⟨hen, fun w hw => (Any7.bits_TrailingZeros L x hx w (fun _ j hj => by
    rw [World.var?_cell hg (hT.var hw)]
    simp [List.getD, hj])).mono fun e w' ⟨h2, h3⟩ => by
    subst h3
    exact ⟨_, C, [], h2, St.start hw, rfl, rfl⟩⟩
end
end Go.Jog
namespace Go.Jog
open Go

/-- a without the bits of b. -/
def andN (a b : Nat) : Nat := a &&& (18446744073709551616 - (b + 1))
theorem andN_bit {a b j : Nat} (hb : b < 18446744073709551616) : (andN a b).testBit j = (a.testBit j && (decide (j < 64) && !b.testBit j)) := by
  unfold andN
  rw [Nat.testBit_and, show (18446744073709551616 : Nat) = 2 ^ 64 from rfl, Nat.testBit_two_pow_sub_succ (by omega)]

section
variable {cx : Cx} {n : Nat} {ds : List (Option Nat)} {R : Rg n ds} {its : List It} {fr : Fr} {C : Mem} {L : List Ent} {i k d : Nat} {o : Oper} {g : GL}
theorem ofInt_u64 {a : Nat} (ha : a < 18446744073709551616) : (BitVec.ofInt 64 (a : Int)).toNat = a := by
  rw [BitVec.ofInt_natCast, BitVec.toNat_ofNat]; exact Nat.mod_eq_of_lt (by omega)
theorem D.and64 (a b : Nat) {t ty : Nat} {x y : Operand} {p q : Int} (hk : Nat.ble k 1 = true) (hd : o.dst = some d) (hop : o.op = .binOp .and t x y ty) (hg : gOf ds fr o.guard = some g) (hx : ev fr g x = some (.int .u64 p)) (hy : ev fr g y = some (.int .u64 q))
    (hpa : p = a) (hqb : q = b) (ha : a < 18446744073709551616) (hb : b < 18446744073709551616) (hp : okPut n ds ((d, g, .int .u64 ((a &&& b : Nat) : Int)) :: fr) d = true) (hwf : wfG ds fr g = true)
    (h : D cx R its ((d, g, .int .u64 ((a &&& b : Nat) : Int)) :: fr) C L) : D cx R ((i, k, o) :: its) fr C L :=
  D.run _ hk hd hg (fun _ A hs w => by
    subst hpa hqb
    rw [exec_binOp hop (hs _ _ hx) (hs _ _ hy) (fun _ _ => .inl (by simp)) (.inl (by simp)) w]
    have e : IntKind.u64.wrap ((BitVec.ofInt 64 (a : Int) &&& BitVec.ofInt 64 (b : Int)).toNat : Int) = ((a &&& b : Nat) : Int) := bits_and_u64_nat a b ha hb
    simp [binOp, Op.intBits, IntKind.bits]
    exact e) hp hwf h
theorem D.or64 (a b : Nat) {t ty : Nat} {x y : Operand} {p q : Int} (hk : Nat.ble k 1 = true) (hd : o.dst = some d) (hop : o.op = .binOp .or t x y ty) (hg : gOf ds fr o.guard = some g) (hx : ev fr g x = some (.int .u64 p)) (hy : ev fr g y = some (.int .u64 q))
    (hpa : p = a) (hqb : q = b) (ha : a < 18446744073709551616) (hb : b < 18446744073709551616) (hp : okPut n ds ((d, g, .int .u64 ((a ||| b : Nat) : Int)) :: fr) d = true) (hwf : wfG ds fr g = true)
    (h : D cx R its ((d, g, .int .u64 ((a ||| b : Nat) : Int)) :: fr) C L) : D cx R ((i, k, o) :: its) fr C L :=
  D.run _ hk hd hg (fun _ A hs w => by
    subst hpa hqb
    rw [exec_binOp hop (hs _ _ hx) (hs _ _ hy) (fun _ _ => .inl (by simp)) (.inl (by simp)) w]
    have e : IntKind.u64.wrap ((BitVec.ofInt 64 (a : Int) ||| BitVec.ofInt 64 (b : Int)).toNat : Int) = ((a ||| b : Nat) : Int) := bits_or_u64_nat a b ha hb
    simp [binOp, Op.intBits, IntKind.bits]
    exact e) hp hwf h
theorem bits_andNot_u64 (a b : Nat) (ha : a < 18446744073709551616) (hb : b < 18446744073709551616) : IntKind.u64.wrap ((BitVec.ofInt 64 (a : Int) &&& ~~~ BitVec.ofInt 64 (b : Int)).toNat : Int) = ((andN a b : Nat) : Int) := by
  have hx : andN a b < 2 ^ 64 := Nat.and_lt_two_pow _ (by omega)
  rw [BitVec.toNat_and, BitVec.toNat_not, ofInt_u64 ha, ofInt_u64 hb, IntKind.wrap_u64]
  have e : 2 ^ 64 - 1 - b = 18446744073709551616 - (b + 1) := by omega
  rw [e]
  show ((andN a b : Nat) : Int) % _ = _
  omega
theorem D.andNot64 (a b : Nat) {t ty : Nat} {x y : Operand} {p q : Int} (hk : Nat.ble k 1 = true) (hd : o.dst = some d) (hop : o.op = .binOp .andNot t x y ty) (hg : gOf ds fr o.guard = some g) (hx : ev fr g x = some (.int .u64 p)) (hy : ev fr g y = some (.int .u64 q))
    (hpa : p = a) (hqb : q = b) (ha : a < 18446744073709551616) (hb : b < 18446744073709551616) (hp : okPut n ds ((d, g, .int .u64 ((andN a b : Nat) : Int)) :: fr) d = true) (hwf : wfG ds fr g = true)
    (h : D cx R its ((d, g, .int .u64 ((andN a b : Nat) : Int)) :: fr) C L) : D cx R ((i, k, o) :: its) fr C L :=
  D.run _ hk hd hg (fun _ A hs w => by
    subst hpa hqb
    rw [exec_binOp hop (hs _ _ hx) (hs _ _ hy) (fun _ _ => .inl (by simp)) (.inl (by simp)) w]
    have e := bits_andNot_u64 a b ha hb
    simp [binOp, Op.intBits, IntKind.bits]
    exact e) hp hwf h
/-- 1, shifted. -/
theorem D.shl1 (m : Nat) {ki kj : IntKind} {t ty : Nat} {x y : Operand} {q : Int} (hk : Nat.ble k 1 = true) (hd : o.dst = some d) (hop : o.op = .binOp .shl t x y ty) (hg : gOf ds fr o.guard = some g) (hx : ev fr g x = some (.int ki 1)) (hy : ev fr g y = some (.int kj q))
    (hki : ki = .u64 ∨ ki = .i64) (hq : q = m) (hm : m ≤ 62) (hp : okPut n ds ((d, g, .int ki ((2 ^ m : Nat) : Int)) :: fr) d = true) (hwf : wfG ds fr g = true)
    (h : D cx R its ((d, g, .int ki ((2 ^ m : Nat) : Int)) :: fr) C L) : D cx R ((i, k, o) :: its) fr C L :=
  D.run _ hk hd hg (fun _ A hs w => by
    subst hq
    rw [exec_binOp hop (hs _ _ hx) (hs _ _ hy) (fun _ _ => .inl (by simp)) (.inl (by simp)) w]
    have h0 : ¬ ((m : Int) < 0) := by omega
    have hb : ki.bits = 64 := by rcases hki with rfl | rfl <;> rfl
    have hmin : Min.min m 64 = m := by omega
    have hle : 2 ^ m ≤ 2 ^ 62 := Nat.pow_le_pow_right (by decide) hm
    have e : ki.wrap (1 * 2 ^ m) = ((2 ^ m : Nat) : Int) := by
      have e1 : (1 : Int) * 2 ^ m = ((2 ^ m : Nat) : Int) := by rw [Int.one_mul]; norm_cast
      rw [e1]
      have hle2 : 2 ^ m ≤ 4611686018427387904 := hle
      generalize 2 ^ m = P at hle2
      rcases hki with rfl | rfl
      · rw [IntKind.wrap_u64]; omega
      · exact wrap_i64 (by omega) (by omega)
    simp only [binOp, Op.shift, h0, if_false, Int.toNat_natCast, hb, hmin, Sem.run_pure, Result.andThen_ok]
    rw [e]) hp hwf h
end

/-! ### The lowest bit -/
theorem low_off {x k m : Nat} (h : x = 2 ^ k * (2 * m + 1)) (j : Nat) : (x &&& (x - 1)).testBit j = (x.testBit j && !decide (j = k)) := by
  have e1 : x = 2 ^ k * (2 * m + 1) + 0 := by omega
  have hk : 0 < 2 ^ k := Nat.two_pow_pos k
  have e2 : x - 1 = 2 ^ k * (2 * m) + (2 ^ k - 1) := by
    rw [h, Nat.mul_add]
    omega
  rw [Nat.testBit_and, e2, Nat.testBit_two_pow_mul_add _ (by omega)]
  conv => lhs; lhs; rw [e1]
  conv => rhs; lhs; rw [e1]
  rw [Nat.testBit_two_pow_mul_add _ (by omega)]
  by_cases hjk : j < k
  · simp [hjk]
  · simp only [hjk, if_false]
    by_cases e : j = k
    · subst e; simp
    · obtain ⟨q, hq⟩ : ∃ q, j - k = q + 1 := ⟨j - k - 1, by omega⟩
      rw [hq, Nat.testBit_succ, Nat.testBit_succ]
      have d1 : (2 * m + 1) / 2 = m := by omega
      have d2 : 2 * m / 2 = m := by omega
      rw [d1, d2]
      simp [e]
theorem low_bit {x k m : Nat} (h : x = 2 ^ k * (2 * m + 1)) : x.testBit k = true := by
  have e1 : x = 2 ^ k * (2 * m + 1) + 0 := by omega
  rw [e1, Nat.testBit_two_pow_mul_add _ (Nat.two_pow_pos k)]
  simp
end Go.Jog
namespace Go.Proofs.YtddjibfmnkcalaaDoor
open Go Go.Jog
set_option maxRecDepth 100000

/-- The library's two tables that the seat reads. -/
structure Tabs (C : Mem) : Prop where
  pow : VarC cx.P C "internal/strconv.uint64pow10" (Lib.pow10Tab.map fun z => Value.int .u64 z).toArray
  db : VarC cx.P C "math/bits.deBruijn64tab" (Lib.deBruijn64tab.map fun z : Nat => Value.int .u8 (z : Int)).toArray
theorem Tabs.mono {C D : Mem} (h : Tabs C) (hl : C.le D) : Tabs D := ⟨h.pow.mono hl, h.db.mono hl⟩
theorem itoa_g (C : Mem) (hT : Tabs C) (n : Int) (h0 : -9223372036854775808 ≤ n) (h1 : n ≤ 9223372036854775807) : Gives cx.P 33 [.int .i64 n] C (strV (Lib.itoa n)) :=
  itoa_fn Tryd.itoa n h0 h1 C hT.pow (by kernel_rfl)
theorem tz_g (C : Mem) (hT : Tabs C) (x : Nat) (hx : x < 18446744073709551616) : Gives cx.P 36 [.int .u64 x] C (.int .i64 (Lib.ctz 64 x)) :=
  tz_fn Tryd.tz x hx C (by kernel_rfl) hT.db (by kernel_rfl)
theorem ofr_fn (C : Mem) (hT : Tabs C) (n : Int) (h0 : -9223372036854775808 ≤ n) (h1 : n ≤ 9223372036854775807) : Gives cx.P 11 [.int .i64 n] C (strV (Lib.itoa n)) := by
  refine Fn.intro (by kernel_rfl) Tryd.func11 rfl 5 rfl rfl (fun w0 => ?_)
  refine G.region rfl (fun R hR => ?_)
  refine D.pure rfl rfl rfl rfl rfl rfl ?_
  refine D.done [(0, [], _)] ⟨rfl, trivial⟩ (hR _ _ _ rfl ?_); clear hR R
  refine G.region rfl (fun R hR => ?_)
  refine D.pure rfl rfl rfl rfl rfl rfl ?_
  refine D.gives2 (itoa_g _ hT n h0 h1) rfl rfl rfl rfl rfl rfl rfl (fun _ => rfl) ?_
  refine D.pure rfl rfl rfl rfl rfl rfl ?_
  refine D.done [(2, [], _)] ⟨rfl, trivial⟩ (hR _ _ _ rfl ?_); clear hR R
  refine G.retN (G.dropAll (G.fin1 rfl rfl ?_))
  exact ⟨rfl, rfl⟩
theorem ofi_fn (C : Mem) (hT : Tabs C) (n : Int) (h0 : -9223372036854775808 ≤ n) (h1 : n ≤ 9223372036854775807) : Gives cx.P 37 [.int .i64 n] C (strV (Lib.itoa n)) := by
  refine Fn.intro (by kernel_rfl) Tryd.func37 rfl 5 rfl rfl (fun w0 => ?_)
  refine G.region rfl (fun R hR => ?_)
  refine D.pure rfl rfl rfl rfl rfl rfl ?_
  refine D.done [(0, [], _)] ⟨rfl, trivial⟩ (hR _ _ _ rfl ?_); clear hR R
  refine G.region rfl (fun R hR => ?_)
  refine D.pure rfl rfl rfl rfl rfl rfl ?_
  refine D.gives2 (itoa_g _ hT n h0 h1) rfl rfl rfl rfl rfl rfl rfl (fun _ => rfl) ?_
  refine D.pure rfl rfl rfl rfl rfl rfl ?_
  refine D.done [(2, [], _)] ⟨rfl, trivial⟩ (hR _ _ _ rfl ?_); clear hR R
  refine G.retN (G.dropAll (G.fin1 rfl rfl ?_))
  exact ⟨rfl, rfl⟩

def UnitsRes (C : Mem) (l : List Rel) (r : Value) : Prop :=
  (errU l ≠ 0 ∧ r = .tuple #[nilV, .int .i64 (errU l)]) ∨ (errU l = 0 ∧ ∃ v, r = .tuple #[v, .int .i64 0] ∧ Sl C 1 v ((unitsL l).map encS))
theorem unitsR_fn (C : Mem) (v : Value) (l : List Rel) (hv : Sl C 3 v (l.map Rel.enc)) (hl : l.length ≤ 100000) (hsh : ∀ x ∈ l, x.short) : Pur cx.P 25 [v] C fun r C' => UnitsRes C' l r := by
  obtain ⟨A0, c0, rfl, _⟩ := id hv
  refine Fn.intro (by kernel_rfl) Tryd.func25 rfl 12 rfl rfl (fun w0 => ?_)
  refine G.region rfl (fun R hR => ?_)
  iterate 2 refine D.pure rfl rfl rfl rfl rfl rfl ?_
  refine D.done [(0, [], _)] ⟨rfl, trivial⟩ (hR _ _ _ rfl ?_); clear hR R
  refine G.region rfl (fun R hR => ?_)
  refine D.pure rfl rfl rfl rfl rfl rfl ?_
  refine D.gives2 (check_fn _ _ l hv hl hsh) rfl rfl rfl rfl rfl rfl rfl (fun _ => rfl) ?_
  refine D.pure rfl rfl rfl rfl rfl rfl ?_
  refine D.done [(0, [], _), (4, [], _)] ⟨rfl, rfl, trivial⟩ (hR _ _ _ rfl ?_); clear hR R
  refine G.region rfl (fun R hR => ?_)
  iterate 2 refine D.pure rfl rfl rfl rfl rfl rfl ?_
  refine D.done [(0, [], _), (4, [], _), (8, [], _)] ⟨rfl, rfl, rfl, trivial⟩ (hR _ _ _ rfl ?_); clear hR R
  refine G.cond rfl (fun h8 => ?_) (fun h8 => ?_)
  · skip
    have h8' : errU l ≠ 0 := by simpa using h8
    refine G.region rfl (fun R hR => ?_)
    iterate 3 refine D.pure rfl rfl rfl rfl rfl rfl ?_
    refine D.done [(2, [], _), (3, [], _)] ⟨rfl, rfl, trivial⟩ (hR _ _ _ rfl ?_); clear hR R
    refine G.retN (G.dropAll (G.fin2 rfl rfl rfl ?_))
    exact ⟨rfl, .inl ⟨h8', rfl⟩⟩
  · skip
    have h8' : errU l = 0 := by simpa using h8
    refine G.region rfl (fun R hR => ?_)
    refine D.pure rfl rfl rfl rfl rfl rfl ?_
    refine D.callP (units_fn _ _ l (hv.mono (by (repeat (first | exact Mem.le.refl _ | assumption | (apply Mem.le.trans; rotate_left; assumption))))) hl) rfl rfl rfl rfl rfl rfl rfl (fun _ => rfl) (fun v11 C11 hle11 hq11 => ?_)
    iterate 2 refine D.pure rfl rfl rfl rfl rfl rfl ?_
    refine D.done [(2, [], _), (3, [], _)] ⟨rfl, rfl, trivial⟩ (hR _ _ _ rfl ?_); clear hR R
    refine G.retN (G.dropAll (G.fin2 rfl rfl rfl ?_))
    exact ⟨rfl, .inr ⟨h8', _, rfl, hq11⟩⟩

theorem lcheck_fn (C : Mem) (v : Value) (l : List Rel) (hv : Sl C 3 v (l.map Rel.enc)) (hl : l.length ≤ 100000) (hsh : ∀ x ∈ l, x.short) : Gives cx.P 24 [v] C (.int .i64 (errU l)) := by
  obtain ⟨A, c, rfl, _⟩ := id hv
  refine Fn.intro (by kernel_rfl) Tryd.func24 rfl 26 rfl rfl (fun w0 => ?_)
  refine G.region rfl (fun R hR => ?_)
  refine D.pure rfl rfl rfl rfl rfl rfl ?_
  refine D.done [(0, [], _)] ⟨rfl, trivial⟩ (hR _ _ _ rfl ?_); clear hR R
  refine G.region rfl (fun R hR => ?_)
  iterate 3 refine D.pure rfl rfl rfl rfl rfl rfl ?_
  refine D.done [(0, [], _), (7, [], _)] ⟨rfl, rfl, trivial⟩ (hR _ _ _ rfl ?_); clear hR R
  refine G.cond rfl (fun h7 => ?_) (fun h7 => ?_)
  · skip
    simp at h7
    refine G.region rfl (fun R hR => ?_)
    refine D.pure rfl rfl rfl rfl rfl rfl ?_
    refine D.done [(2, [], _)] ⟨rfl, trivial⟩ (hR _ _ _ rfl ?_); clear hR R
    refine G.retN (G.dropAll (G.fin1 rfl rfl ?_))
    refine ⟨?_, rfl⟩
    rw [errU, if_pos (by omega)]
  · skip
    simp at h7
    refine G.region rfl (fun R hR => ?_)
    refine D.pure rfl rfl rfl rfl rfl rfl ?_
    refine D.done [(0, [], _), (3, [], _)] ⟨rfl, rfl, trivial⟩ (hR _ _ _ rfl ?_); clear hR R
    refine G.loop (fun fr C' L' μ => ∃ (k : Nat), (k ≤ l.length ∧ ∀ y ∈ l.take k, errOf y = 0) ∧ fr = [(0, [], .slice A (l.map Rel.enc).length c), (3, [], .int .i64 k)] ∧ L' = [] ∧ μ = l.length - k) (fr' := [(0, [], _), (3, [], _)]) ⟨rfl, rfl, trivial⟩ ⟨0, ⟨Nat.zero_le _, fun y hy => by simp at hy⟩, rfl, rfl, rfl⟩ (fun fr C0' L0' m hle0 hI => ?_)
    obtain ⟨k, ⟨hk, hz⟩, rfl, rfl, rfl⟩ := hI
    refine G.region rfl (fun R hR => ?_)
    iterate 4 refine D.pure rfl rfl rfl rfl rfl rfl ?_
    refine D.done [(0, [], _), (3, [], _), (11, [], _)] ⟨rfl, rfl, rfl, trivial⟩ (hR _ _ _ rfl ?_); clear hR R
    refine G.cond rfl (fun h11 => ?_) (fun h11 => ?_)
    · skip
      simp only [List.length_map, decide_eq_true_eq] at h11
      have hkl : k < l.length := by omega
      obtain ⟨x, hx⟩ : ∃ x, l[k]? = some x := ⟨l[k], List.getElem?_eq_getElem hkl⟩
      have hxs := hsh x (List.mem_of_getElem? hx)
      have htk : l.take (k + 1) = l.take k ++ [x] := by rw [List.take_add_one, hx]; rfl
      refine G.region rfl (fun R hR => ?_)
      iterate 2 refine D.pure rfl rfl rfl rfl rfl rfl ?_
      refine D.index0 (hv.mono (by (repeat (first | exact Mem.le.refl _ | assumption | (apply Mem.le.trans; rotate_left; assumption))))) rfl rfl rfl rfl rfl rfl rfl rfl rfl rfl (by omega) (row := x.enc) (by simp [hx]) (fun _ => rfl) (fun p16 hp16 => ?_)
      refine D.loadP0 hp16 rfl rfl rfl rfl rfl rfl rfl rfl ?_
      refine D.gives2 (check_spec _ x hxs.1 hxs.2) rfl rfl rfl rfl rfl rfl rfl (fun _ => rfl) ?_
      refine D.pure rfl rfl rfl rfl rfl rfl ?_
      refine D.done [(0, [], _), (3, [], _), (4, [], _)] ⟨rfl, rfl, rfl, trivial⟩ (hR _ _ _ rfl ?_); clear hR R
      refine G.region rfl (fun R hR => ?_)
      iterate 2 refine D.pure rfl rfl rfl rfl rfl rfl ?_
      refine D.done [(0, [], _), (3, [], _), (4, [], _), (20, [], _)] ⟨rfl, rfl, rfl, rfl, trivial⟩ (hR _ _ _ rfl ?_); clear hR R
      refine G.cond rfl (fun h20 => ?_) (fun h20 => ?_)
      · skip
        have h20' : errOf x ≠ 0 := by simpa using h20
        have he := errs_at hx hz h20'
        refine G.region rfl (fun R hR => ?_)
        iterate 2 refine D.pure rfl rfl rfl rfl rfl rfl ?_
        refine D.done [(2, [], _)] ⟨rfl, trivial⟩ (hR _ _ _ rfl ?_); clear hR R
        refine G.retN (G.dropAll (G.fin1 rfl rfl ?_))
        refine ⟨?_, rfl⟩
        rw [errU, if_neg (by omega), he, if_pos h20']
      · skip
        have h20' : errOf x = 0 := by simpa using h20
        refine G.region rfl (fun R hR => ?_)
        refine D.pure rfl rfl rfl rfl rfl rfl ?_
        refine D.i64 _ rfl rfl rfl rfl rfl (by omega) (by omega) rfl rfl ?_
        refine D.pure rfl rfl rfl rfl rfl rfl ?_
        refine D.done [(0, [], _), (3, [], _)] ⟨rfl, rfl, trivial⟩ (hR _ _ _ rfl ?_); clear hR R
        refine G.again (m' := l.length - (k + 1)) (by omega) (by (repeat (first | exact Mem.le.refl _ | assumption | (apply Mem.le.trans; rotate_left; assumption)))) (fr' := [(0, [], _), (3, [], _)]) ⟨rfl, rfl, trivial⟩ ⟨k + 1, ⟨by omega, fun y hy => by
          rw [htk] at hy
          rcases List.mem_append.1 hy with h | h
          · exact hz y h
          · rw [List.mem_singleton.1 h]; exact h20'⟩, rfl, rfl, rfl⟩
    · skip
      simp only [List.length_map, decide_eq_false_iff_not] at h11
      have hkl : k = l.length := by omega
      subst hkl
      rw [List.take_length] at hz
      have he := errs_zero hz
      refine G.region rfl (fun R hR => ?_)
      refine D.pure rfl rfl rfl rfl rfl rfl ?_
      refine D.callP (lunits_fn _ _ l (hv.mono (by (repeat (first | exact Mem.le.refl _ | assumption | (apply Mem.le.trans; rotate_left; assumption))))) hl) rfl rfl rfl rfl rfl rfl rfl (fun _ => rfl) (fun v23 C23 hle23 hq23 => ?_)
      obtain ⟨Au, cu, hvu, _⟩ := id hq23
      subst hvu
      iterate 2 refine D.pure rfl rfl rfl rfl rfl rfl ?_
      refine D.done [(25, [], _)] ⟨rfl, trivial⟩ (hR _ _ _ rfl ?_); clear hR R
      refine G.cond rfl (fun h25 => ?_) (fun h25 => ?_)
      · skip
        simp at h25
        refine G.region rfl (fun R hR => ?_)
        refine D.pure rfl rfl rfl rfl rfl rfl ?_
        refine D.done [(2, [], _)] ⟨rfl, trivial⟩ (hR _ _ _ rfl ?_); clear hR R
        refine G.retN (G.dropAll (G.fin1 rfl rfl ?_))
        refine ⟨?_, rfl⟩
        rw [errU, if_neg (by omega), if_neg (by rw [he]; simp), if_pos (by omega)]
      · skip
        simp at h25
        refine G.region rfl (fun R hR => ?_)
        refine D.pure rfl rfl rfl rfl rfl rfl ?_
        refine D.done [(2, [], _)] ⟨rfl, trivial⟩ (hR _ _ _ rfl ?_); clear hR R
        refine G.retN (G.dropAll (G.fin1 rfl rfl ?_))
        refine ⟨?_, rfl⟩
        rw [errU, if_neg (by omega), if_neg (by rw [he]; simp), if_neg (by omega)]
end Go.Proofs.YtddjibfmnkcalaaDoor
namespace Go.Proofs.YtddjibfmnkcalaaDoor
open Go Go.Jog Go.ChangeShapes Go.WideShapes Go.ChangeAt Go.RowKit
set_option maxRecDepth 100000

theorem own : ownKnob Tryd.prog.godebug = none := by kernel_rfl
section
variable {H : Type} {enc : TypeId × Value → H} {W : World} {spare : Nat → Bool} {held : Bool}
theorem u8_of {n : Nat} {c : Value} {y : DataW H × List MemPlace} (h : DataW.trod enc Tryd.prog W 0 spare held n 5 [c] = some y) : ∃ b : UInt8, c = .int .u8 b.toNat := by
  obtain ⟨m, h1, _, h3⟩ := DataW.trod_int Tryd.underlying5 h
  simp only [List.cons.injEq, and_true] at h1
  subst h1
  have hb : 0 ≤ m ∧ m < 256 := by
    simp [Lit.wf, IntKind.min, IntKind.max, IntKind.signed, IntKind.bits] at h3
    omega
  refine ⟨UInt8.ofNat m.toNat, ?_⟩
  congr 1
  simp only [UInt8.toNat_ofNat']
  omega
theorem seen_of {n : Nat} {cs : List Value} {y : DataW H × List MemPlace} (h : DataW.trod enc Tryd.prog W 0 spare held n 84 cs = some y) : ∃ z : Seen, cs = z.enc := by
  obtain ⟨y0, y1, y2, n', _, hl, h0, h1, h2⟩ := Go.Deep.trod_struct3 Tryd.underlying84 h
  have hc : Tryd.prog.cellsOf 84 = 3 := by kernel_rfl
  have hi : Tryd.prog.cellsOf 5 = 1 := by kernel_rfl
  rw [hc] at hl
  match cs, hl with
  | [c0, c1, c2], _ =>
    simp only [hi] at h0 h1 h2
    obtain ⟨b0, rfl⟩ := u8_of h0
    obtain ⟨b1, rfl⟩ := u8_of h1
    obtain ⟨b2, rfl⟩ := u8_of h2
    exact ⟨⟨b0, b1, b2⟩, rfl⟩
theorem seens_of {fuel : Nat} {v : Value} {x : DataW H × List MemPlace} (h : DataW.trod enc Tryd.prog W 0 spare held fuel 35 [v] = some x) : ∃ l : List Seen, Sl (memOf W) 3 v (l.map Seen.enc) :=
  sl_of_arg Seen.enc Tryd.underlying35 (by kernel_rfl) (by decide) (fun n cs y hl hy => seen_of hy) h
end

def layCells (cs : Array Value) : Obj → Obj
  | .cells _ t frozen => .cells cs t frozen
  | o => o
def db32Cells : Array Value := (Lib.deBruijn32tab.map fun z : Nat => Value.int .u8 (z : Int)).toArray
def db64Cells : Array Value := (Lib.deBruijn64tab.map fun z : Nat => Value.int .u8 (z : Int)).toArray
def pow10Cells : Array Value := (Lib.pow10Tab.map fun z => Value.int .u64 z).toArray
/-- A world for the witness: the library's tables as the text lays them. -/
noncomputable def laidWorld (os : Os) : World :=
  { World.holding Tryd.prog os ⟨#[], #[], []⟩ with heap := (((World.holding Tryd.prog os ⟨#[], #[], []⟩).heap.modify 0 (layCells db32Cells)).modify 1 (layCells db64Cells)).modify 2 (layCells pow10Cells) }
theorem tabs_of {W : World} (h : laidMet Tryd.prog [("math/bits.deBruijn32tab", Rows.laid_math_bits_deBruijn32tab), ("math/bits.deBruijn64tab", Rows.laid_math_bits_deBruijn64tab), ("internal/strconv.uint64pow10", Rows.laid_internal_strconv_uint64pow10)] W) : Tabs (memOf W) := by
  have h1 := h.tail
  have h2 := h1.tail
  have e1 : (Rows.laid_math_bits_deBruijn64tab : DataW Unit) = Lib.tabData .u8 (Lib.deBruijn64tab.map fun z : Nat => (z : Int)) := by rfl
  have e2 : (Rows.laid_internal_strconv_uint64pow10 : DataW Unit) = Lib.tabData .u64 Lib.pow10Tab := by rfl
  rw [e1] at h1
  rw [e2] at h2
  have t1 := Lib.tabIs_of_head (g := 1) (t := 127) (e := 5) (n := 64) (by kernel_rfl) (by kernel_rfl) Tryd.underlying127 Tryd.underlying5 (by kernel_rfl) (by kernel_rfl) h1
  have t2 := Lib.tabIs_of_head (g := 2) (t := 152) (e := 111) (n := 20) (by kernel_rfl) (by kernel_rfl) Tryd.underlying152 Tryd.underlying111 (by kernel_rfl) (by kernel_rfl) h2
  refine ⟨VarC.ofWorld t2, ?_⟩
  unfold Lib.TabIs at t1
  rw [List.map_map] at t1
  exact VarC.ofWorld t1
theorem laidOut' : laidOutB Tryd.prog = true := by kernel_rfl
section
variable {H : Type} {enc : TypeId × Value → H} {W : World} {spare : Nat → Bool} {held : Bool}
theorem str_of {n : Nat} {c : Value} {y : DataW H × List MemPlace} (h : DataW.trod enc Tryd.prog W 0 spare held n 9 [c] = some y) : ∃ s : Str, c = strV s := by
  obtain ⟨⟨⟨l⟩⟩, h1, _⟩ := DataW.trod_string Tryd.underlying9 h
  simp only [List.cons.injEq, and_true] at h1
  exact ⟨l, h1⟩
theorem strs_of {fuel : Nat} {v : Value} {x : DataW H × List MemPlace} (h : DataW.trod enc Tryd.prog W 0 spare held fuel 38 [v] = some x) : ∃ l : List Str, Sl (memOf W) 1 v (l.map encS) :=
  sl_of_arg encS Tryd.underlying38 (by kernel_rfl) (by decide) (fun n cs y hl hy => by
    match cs, hl with
    | [c], _ =>
      obtain ⟨s, rfl⟩ := str_of hy
      exact ⟨s, rfl⟩) h
end
section
variable {H : Type} {enc : TypeId × Value → H} {W : World} {spare : Nat → Bool} {held : Bool}
theorem int_of {n : Nat} {c : Value} {y : DataW H × List MemPlace} (h : DataW.trod enc Tryd.prog W 0 spare held n 3 [c] = some y) : ∃ m : Int, c = .int .i64 m := by
  obtain ⟨m, h1, _⟩ := DataW.trod_int Tryd.underlying3 h
  simp only [List.cons.injEq, and_true] at h1
  exact ⟨m, h1⟩
theorem rel_of {n : Nat} {cs : List Value} {y : DataW H × List MemPlace} (h : DataW.trod enc Tryd.prog W 0 spare held n 25 cs = some y) : ∃ z : Rel, cs = z.enc := by
  obtain ⟨y0, y1, y2, n', _, hl, h0, h1, h2⟩ := Go.Deep.trod_struct3 Tryd.underlying25 h
  have hc : Tryd.prog.cellsOf 25 = 3 := by kernel_rfl
  have hi : Tryd.prog.cellsOf 3 = 1 := by kernel_rfl
  have hs : Tryd.prog.cellsOf 9 = 1 := by kernel_rfl
  rw [hc] at hl
  match cs, hl with
  | [c0, c1, c2], _ =>
    simp only [hi, hs] at h0 h1 h2
    obtain ⟨m, rfl⟩ := int_of h0
    obtain ⟨u, rfl⟩ := str_of h1
    obtain ⟨l, rfl⟩ := str_of h2
    exact ⟨⟨m, u, l⟩, rfl⟩
theorem rels_of {fuel : Nat} {v : Value} {x : DataW H × List MemPlace} (h : DataW.trod enc Tryd.prog W 0 spare held fuel 23 [v] = some x) : ∃ l : List Rel, Sl (memOf W) 3 v (l.map Rel.enc) :=
  sl_of_arg Rel.enc Tryd.underlying23 (by kernel_rfl) (by decide) (fun n cs y hl hy => rel_of hy) h
end
theorem gives_of {f : FuncId} {args : List Value} {C : Mem} (h : Pur cx.P f args C fun u _ => u = .bool true) : Gives cx.P f args C (.bool true) := Fn.mono h (fun v C' L' _ ⟨h1, h2⟩ => ⟨h2, h1⟩)
end Go.Proofs.YtddjibfmnkcalaaDoor
