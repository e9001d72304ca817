/- Layer 20: the law's own functions. -/
import Derived.Test.YtjmfjobfmdhbfaaDoorK20e
namespace Go.Proofs.YtjmfjobfmdhbfaaDoor
open Go Go.Jog
set_option maxRecDepth 100000

/-! ### The described relations -/
structure Seen where
  a : UInt8
  b : UInt8
  c : UInt8
  deriving Inhabited
def Seen.enc (x : Seen) : List Value := [.int .u8 x.a.toNat, .int .u8 x.b.toNat, .int .u8 x.c.toNat]
def unitS (n : Int) : Str := [UInt8.ofNat (97 + n % 8).toNat]
def lowI (x : Seen) : Int := if (x.c.toNat : Int) % 8 = (x.b.toNat : Int) % 8 then (x.c.toNat : Int) % 8 + 1 else (x.c.toNat : Int) % 8
def mkR (x : Seen) : Rel := ⟨1 + (x.a.toNat : Int) % 4, unitS x.b.toNat, unitS (lowI x)⟩
def makeL (l : List Seen) : List Rel := (l.take 12).map mkR

theorem wrap_u8 {n : Int} (h1 : 0 ≤ n) (h2 : n < 256) : IntKind.u8.wrap n = n := by
  simp only [IntKind.wrap, IntKind.bits, IntKind.signed]
  simp
  omega
theorem wrap_i64' {n : Int} (h1 : 0 ≤ n) (h2 : n < 256) : IntKind.i64.wrap n = n := wrap_i64 (by omega) (by omega)

theorem unit_spec (C : Mem) (n : Int) (h0 : 0 ≤ n) (h1 : n ≤ 255) : Gives cx.P 22 [.int .u8 n] C (strV (unitS n)) := by
  refine Fn.intro (by kernel_rfl) Tryd.func22 rfl 8 rfl rfl (fun w0 => ?_)
  refine G.region rfl (fun R hR => ?_)
  refine D.pure rfl rfl rfl rfl rfl rfl ?_
  refine D.done [(0, [], _)] ⟨rfl, trivial⟩ (hR _ _ _ rfl ?_); clear hR R
  refine G.region rfl (fun R hR => ?_)
  refine D.pure rfl rfl rfl rfl rfl rfl ?_
  refine D.rem rfl rfl rfl rfl rfl rfl (by omega) (by omega) rfl rfl ?_
  refine D.int (97 + n % 8) rfl rfl rfl rfl (wrap_u8 (by omega) (by omega)) rfl rfl ?_
  refine D.buildSlice [[.int .u8 (97 + n % 8)]] rfl rfl rfl rfl rfl rfl rfl rfl rfl rfl rfl rfl (fun _ => rfl) (fun p6 C6 hle6 hs6 => ?_)
  have hu : ([[Value.int .u8 (97 + n % 8)]] : List (List Value)) = (unitS n).map fun b => [Value.int .u8 b.toNat] := by
    simp only [unitS, List.map_cons, List.map_nil, UInt8.toNat_ofNat']
    congr 3
    omega
  rw [hu] at hs6
  refine D.strOf hs6 rfl rfl rfl rfl rfl rfl rfl rfl rfl rfl rfl (fun _ => rfl) ?_
  refine D.pure rfl rfl rfl rfl rfl rfl ?_
  refine D.done [(2, [], _)] ⟨rfl, trivial⟩ (hR _ _ _ rfl ?_); clear hR R
  refine G.retN (G.dropAll (G.fin1 rfl rfl ?_))
  exact ⟨rfl, rfl⟩

theorem make_spec (C : Mem) (v : Value) (l : List Seen) (hv : Sl C 3 v (l.map Seen.enc)) : Pur cx.P 13 [v] C fun u C' => Sl C' 3 u ((makeL l).map Rel.enc) := by
  have hv0 := hv
  obtain ⟨A, c, rfl, _⟩ := hv0
  refine Fn.intro (by kernel_rfl) Tryd.func13 rfl 53 rfl rfl (fun w0 => ?_)
  refine G.region rfl (fun R hR => ?_)
  refine D.pure rfl rfl rfl rfl rfl rfl ?_
  refine D.done [(0, [], _)] ⟨rfl, trivial⟩ (hR _ _ _ rfl ?_); clear hR R
  refine G.region rfl (fun R hR => ?_)
  refine D.pure rfl rfl rfl rfl rfl rfl ?_
  refine D.done [(0, [], _), (3, [], _)] ⟨rfl, rfl, trivial⟩ (hR _ _ _ rfl ?_); clear hR R
  refine G.region rfl (fun R hR => ?_)
  refine D.pure rfl rfl rfl rfl rfl rfl ?_
  refine D.done [(0, [], _), (3, [], _), (4, [], _)] ⟨rfl, rfl, rfl, trivial⟩ (hR _ _ _ rfl ?_); clear hR R
  refine G.nilArr 33 3 ?_
  refine G.loop (fun fr C' L' μ => ∃ (k : Nat) (w3 : Value), (k ≤ l.length ∧ k ≤ 12) ∧ fr = [(0, [], .slice A (l.map Seen.enc).length c), (3, [], w3), (4, [], .int .i64 k)] ∧ L' = [.arr w3 33 3 k (((l.take k).map mkR).map Rel.enc).flatten] ∧ μ = 12 - k) (fr' := [(0, [], _), (3, [], _), (4, [], _)]) ⟨rfl, rfl, rfl, trivial⟩ ⟨0, .slice none 0 0, ⟨Nat.zero_le _, by omega⟩, rfl, rfl, rfl⟩ (fun fr C0' L0' m hle0 hI => ?_)
  obtain ⟨k, w3, ⟨hk, hk12⟩, rfl, rfl, rfl⟩ := hI
  refine G.region rfl (fun R hR => ?_)
  iterate 7 refine D.pure rfl rfl rfl rfl rfl rfl ?_
  refine D.pickAnd rfl rfl rfl rfl rfl rfl rfl rfl ?_
  refine D.done [(0, [], _), (3, [], _), (4, [], _), (13, [], _)] ⟨rfl, rfl, rfl, rfl, trivial⟩ (hR _ _ _ rfl ?_); clear hR R
  refine G.cond rfl (fun h13 => ?_) (fun h13 => ?_)
  · skip
    simp only [List.length_map, Bool.and_eq_true, decide_eq_true_eq] at h13
    have hkl : k < l.length := by omega
    obtain ⟨x, hx⟩ : ∃ x, l[k]? = some x := ⟨l[k], List.getElem?_eq_getElem hkl⟩
    have hrow : (l.map Seen.enc)[k]? = some x.enc := by simp [hx]
    have hv1 := hv.mono hle0
    have hxa := x.a.toNat_lt
    have hxb := x.b.toNat_lt
    have hxc := x.c.toNat_lt
    have htk : (l.take (k + 1)).map mkR = (l.take k).map mkR ++ [mkR x] := by rw [List.take_add_one, hx]; simp
    refine G.region rfl (fun R hR => ?_)
    iterate 2 refine D.pure rfl rfl rfl rfl rfl rfl ?_
    refine D.index0 hv1 rfl rfl rfl rfl rfl rfl rfl rfl rfl rfl (by omega) hrow (fun _ => rfl) (fun p18 hp18 => ?_)
    refine D.indexA rfl rfl rfl rfl rfl rfl rfl rfl rfl (fun _ => hp18) (fun _ => ⟨by omega, (by omega)⟩) (fun _ => rfl) rfl (fun p19 hp190 => ?_)
    have hp19 := hp190 trivial
    refine D.loadP0 hp19 rfl rfl rfl rfl rfl rfl rfl rfl ?_
    refine D.rem rfl rfl rfl rfl rfl rfl (by omega) (by omega) rfl rfl ?_
    refine D.pure rfl rfl rfl rfl rfl rfl ?_
    refine D.done [(0, [], _), (3, [], _), (4, [], _), (5, [], _)] ⟨rfl, rfl, rfl, rfl, trivial⟩ (hR _ _ _ rfl ?_); clear hR R
    refine G.region rfl (fun R hR => ?_)
    iterate 3 refine D.pure rfl rfl rfl rfl rfl rfl ?_
    refine D.index0 hv1 rfl rfl rfl rfl rfl rfl rfl rfl rfl rfl (by omega) hrow (fun _ => rfl) (fun p25 hp25 => ?_)
    refine D.indexA rfl rfl rfl rfl rfl rfl rfl rfl rfl (fun _ => hp25) (fun _ => ⟨by omega, (by omega)⟩) (fun _ => rfl) rfl (fun p26 hp260 => ?_)
    have hp26 := hp260 trivial
    refine D.loadP0 hp26 rfl rfl rfl rfl rfl rfl rfl rfl ?_
    refine D.rem rfl rfl rfl rfl rfl rfl (by omega) (by omega) rfl rfl ?_
    refine D.pure rfl rfl rfl rfl rfl rfl ?_
    refine D.done [(0, [], _), (3, [], _), (4, [], _), (5, [], _), (29, [], _)] ⟨rfl, rfl, rfl, rfl, rfl, trivial⟩ (hR _ _ _ rfl ?_); clear hR R
    refine G.cut (fun fr C' L' μ => (True) ∧ fr = [(0, [], .slice A (l.map Seen.enc).length c), (3, [], w3), (4, [], .int .i64 k), (5, [], .int .u8 (lowI x))] ∧ L' = [.arr w3 33 3 k (((l.take k).map mkR).map Rel.enc).flatten]) ?_ (fun fr C29 L29 μ hle29 hI => ?_)
    · skip
      refine G.cond rfl (fun h29 => ?_) (fun h29 => ?_)
      · skip
        have h29' : (x.c.toNat : Int) % 8 = (x.b.toNat : Int) % 8 := by simpa using h29
        refine G.region rfl (fun R hR => ?_)
        refine D.pure rfl rfl rfl rfl rfl rfl ?_
        refine D.int (lowI x) rfl rfl rfl rfl (by rw [wrap_u8 (by omega) (by omega), lowI, if_pos h29']) rfl rfl ?_
        refine D.pure rfl rfl rfl rfl rfl rfl ?_
        refine D.done [(0, [], _), (3, [], _), (4, [], _), (5, [], _)] ⟨rfl, rfl, rfl, rfl, trivial⟩ (hR _ _ _ rfl ?_); clear hR R
        refine G.meet 0 (Mem.le.refl _) (fr' := [(0, [], _), (3, [], _), (4, [], _), (5, [], _)]) ⟨rfl, rfl, rfl, rfl, trivial⟩ ⟨trivial, rfl, rfl⟩
      · skip
        have h29' : ¬ (x.c.toNat : Int) % 8 = (x.b.toNat : Int) % 8 := by simpa using h29
        have hlow : (x.c.toNat : Int) % 8 = lowI x := by rw [lowI, if_neg h29']
        refine G.meet 0 (Mem.le.refl _) (fr' := [(0, [], _), (3, [], _), (4, [], _), (5, [], _)]) ⟨rfl, rfl, rfl, rfl, trivial⟩ ⟨trivial, by rw [← hlow], rfl⟩
    · skip
      obtain ⟨htriv, rfl, rfl⟩ := hI
      have hlow : 0 ≤ lowI x ∧ lowI x ≤ 255 := by unfold lowI; split <;> omega
      have hv2 := hv1.mono hle29
      refine G.draw [0, 1, 2, 3, 4, 5, 6, 7, 8, 9, 10, 11, 12, 13, 14, 15, 16, 17, 18, 19, 20] [(14, 1), (16, 1), (7, 0)] rfl (by kernel_rfl) (fun R hB hR => ?_)
      iterate 3 refine D.pure rfl rfl rfl rfl rfl rfl ?_
      refine D.index0 hv2 rfl rfl rfl rfl rfl rfl rfl rfl rfl rfl (by omega) hrow (fun _ => rfl) (fun p35 hp35 => ?_)
      refine D.indexA rfl rfl rfl rfl rfl rfl rfl rfl rfl (fun _ => hp35) (fun _ => ⟨by omega, (by omega)⟩) (fun _ => rfl) rfl (fun p36 hp360 => ?_)
      have hp36 := hp360 trivial
      refine D.loadP0 hp36 rfl rfl rfl rfl rfl rfl rfl rfl ?_
      refine D.rem rfl rfl rfl rfl rfl rfl (by omega) (by omega) rfl rfl ?_
      refine D.convQ (c := (x.a.toNat : Int) % 4) rfl rfl rfl rfl rfl rfl rfl rfl (wrap_i64' (by omega) (by omega)) rfl rfl ?_
      refine D.i64 ((1 + (x.a.toNat : Int) % 4)) rfl rfl rfl rfl rfl (by omega) (by omega) rfl rfl ?_
      iterate 2 refine D.pure rfl rfl rfl rfl rfl rfl ?_
      refine D.index0 hv2 rfl rfl rfl rfl rfl rfl rfl rfl rfl rfl (by omega) hrow (fun _ => rfl) (fun p43 hp43 => ?_)
      refine D.indexA rfl rfl rfl rfl rfl rfl rfl rfl rfl (fun _ => hp43) (fun _ => ⟨by omega, (by omega)⟩) (fun _ => rfl) rfl (fun p44 hp440 => ?_)
      have hp44 := hp440 trivial
      refine D.loadP0 hp44 rfl rfl rfl rfl rfl rfl rfl rfl ?_
      refine D.gives (fun _ => (unit_spec _ _ (by omega) (by omega))) rfl rfl rfl rfl rfl rfl rfl rfl rfl ?_
      refine D.pure rfl rfl rfl rfl rfl rfl ?_
      refine D.gives (fun _ => (unit_spec _ _ hlow.1 hlow.2)) rfl rfl rfl rfl rfl rfl rfl rfl rfl ?_
      refine D.build (mkR x).enc rfl rfl rfl rfl rfl rfl rfl rfl ?_
      refine D.buildSlice [(mkR x).enc] rfl rfl rfl rfl rfl rfl rfl rfl rfl rfl rfl rfl (fun _ => rfl) (fun p50 C50 hle50 hs50 => ?_)
      refine D.append (j := 0) rfl rfl rfl rfl rfl rfl rfl rfl rfl rfl rfl hs50 rfl (by simp only [List.length_singleton, maxLen]; omega) (by simp only [List.length_singleton]; omega) (fun _ => rfl) (fun v51 => ?_)
      refine D.pure rfl rfl rfl rfl rfl rfl ?_
      refine D.done [(0, [], _), (3, [], _), (4, [], _)] ⟨rfl, rfl, rfl, trivial⟩ (hR _ _ _ rfl ?_); clear hR hB R
      refine G.region rfl (fun R hR => ?_)
      refine D.pure rfl rfl rfl rfl rfl rfl ?_
      refine D.i64 (((k + 1 : Nat) : Int)) rfl rfl rfl rfl (by omega) (by omega) (by omega) rfl rfl ?_
      refine D.pure rfl rfl rfl rfl rfl rfl ?_
      refine D.done [(0, [], _), (3, [], _), (4, [], _)] ⟨rfl, rfl, rfl, trivial⟩ (hR _ _ _ rfl ?_); clear hR R
      refine G.eqL (L' := [.arr v51 33 3 (k + 1) (((l.take (k + 1)).map mkR).map Rel.enc).flatten]) (by rw [htk]; simp) ?_
      refine G.again (m' := 12 - (k + 1)) (by omega) (hle0.trans (hle29.trans hle50)) (fr' := [(0, [], _), (3, [], _), (4, [], _)]) ⟨rfl, rfl, rfl, trivial⟩ ⟨k + 1, v51, ⟨by omega, by omega⟩, rfl, rfl, rfl⟩
  · skip
    simp only [List.length_map, Bool.and_eq_false_iff, decide_eq_false_iff_not] at h13
    refine G.region rfl (fun R hR => ?_)
    iterate 2 refine D.pure rfl rfl rfl rfl rfl rfl ?_
    refine D.done [(2, [], _)] ⟨rfl, trivial⟩ (hR _ _ _ rfl ?_); clear hR R
    refine G.freezeArr 0 (((l.take k).map mkR).map Rel.enc) rfl rfl (by intro r hr; obtain ⟨y, _, rfl⟩ := List.mem_map.1 hr; exact rel_len y) (by simp; omega) (fun Cf hlef hsf => G.retN (G.fin1 rfl rfl ?_))
    refine ⟨rfl, ?_⟩
    have e : l.take k = l.take 12 := by
      rcases h13 with h | h
      · rw [List.take_of_length_le (by omega), List.take_of_length_le (by omega)]
      · congr 1; omega
    rw [makeL, ← e]
    exact hsf

/-! ### same, before -/
theorem same_spec (C : Mem) (v v' : Value) (l l' : List Rel) (hv : Sl C 3 v (l.map Rel.enc)) (hv' : Sl C 3 v' (l'.map Rel.enc)) (hl : l.length ≤ 1000000) (hl' : l'.length ≤ 1000000) : Gives cx.P 14 [v, v'] C (.bool (decide (l = l'))) := by
  have hv0 := hv
  obtain ⟨A, c, rfl, _⟩ := hv0
  have hv0' := hv'
  obtain ⟨A', c', rfl, _⟩ := hv0'
  refine Fn.intro (by kernel_rfl) Tryd.func14 rfl 26 rfl rfl (fun w0 => ?_)
  refine G.region rfl (fun R hR => ?_)
  refine D.pure rfl rfl rfl rfl rfl rfl ?_
  refine D.done [(0, [], _), (1, [], _)] ⟨rfl, rfl, trivial⟩ (hR _ _ _ rfl ?_); clear hR R
  refine G.region rfl (fun R hR => ?_)
  iterate 5 refine D.pure rfl rfl rfl rfl rfl rfl ?_
  refine D.done [(0, [], _), (1, [], _), (10, [], _)] ⟨rfl, rfl, rfl, trivial⟩ (hR _ _ _ rfl ?_); clear hR R
  refine G.cond rfl (fun h10 => ?_) (fun h10 => ?_)
  · skip
    simp only [List.length_map, bne_iff_ne, ne_eq] at h10
    refine G.region rfl (fun R hR => ?_)
    refine D.pure rfl rfl rfl rfl rfl rfl ?_
    refine D.done [(4, [], _)] ⟨rfl, trivial⟩ (hR _ _ _ rfl ?_); clear hR R
    refine G.retN (G.dropAll (G.fin1 rfl rfl ?_))
    refine ⟨?_, rfl⟩
    have : ¬ l = l' := fun e => h10 (by rw [e])
    rw [decide_eq_false this]
  · skip
    simp only [List.length_map, bne_eq_false_iff_eq] at h10
    have hlen : l.length = l'.length := by omega
    refine G.region rfl (fun R hR => ?_)
    refine D.pure rfl rfl rfl rfl rfl rfl ?_
    refine D.done [(0, [], _), (1, [], _), (5, [], _)] ⟨rfl, rfl, rfl, trivial⟩ (hR _ _ _ rfl ?_); clear hR R
    refine G.loop (fun fr C' L' μ => ∃ (k : Nat), (k ≤ l.length ∧ ∀ i, i < k → l[i]? = l'[i]?) ∧ fr = [(0, [], .slice A (l.map Rel.enc).length c), (1, [], .slice A' (l'.map Rel.enc).length c'), (5, [], .int .i64 k)] ∧ L' = [] ∧ μ = l.length - k) (fr' := [(0, [], _), (1, [], _), (5, [], _)]) ⟨rfl, rfl, rfl, trivial⟩ ⟨0, ⟨Nat.zero_le _, by intro i hi; omega⟩, rfl, rfl, rfl⟩ (fun fr C0' L0' m hle0 hI => ?_)
    obtain ⟨k, ⟨hk, hall⟩, rfl, rfl, rfl⟩ := hI
    refine G.region rfl (fun R hR => ?_)
    iterate 4 refine D.pure rfl rfl rfl rfl rfl rfl ?_
    refine D.done [(0, [], _), (1, [], _), (5, [], _), (14, [], _)] ⟨rfl, rfl, rfl, rfl, trivial⟩ (hR _ _ _ rfl ?_); clear hR R
    refine G.cond rfl (fun h14 => ?_) (fun h14 => ?_)
    · skip
      simp only [List.length_map, decide_eq_true_eq] at h14
      have hkl : k < l.length := by omega
      obtain ⟨x, hx⟩ : ∃ x, l[k]? = some x := ⟨l[k], List.getElem?_eq_getElem hkl⟩
      obtain ⟨y, hy⟩ : ∃ x, l'[k]? = some x := ⟨l'[k]'(by omega), List.getElem?_eq_getElem (by omega)⟩
      have hv1 := hv.mono hle0
      have hv1' := hv'.mono hle0
      refine G.draw [0, 1, 2, 3, 4, 5, 6, 7, 8] [] rfl (by kernel_rfl) (fun R hB hR => ?_)
      iterate 2 refine D.pure rfl rfl rfl rfl rfl rfl ?_
      refine D.index0 hv1 rfl rfl rfl rfl rfl rfl rfl rfl rfl rfl (by omega) (row := x.enc) (by simp [hx]) (fun _ => rfl) (fun p19 hp19 => ?_)
      refine D.loadP0 hp19 rfl rfl rfl rfl rfl rfl rfl rfl ?_
      iterate 2 refine D.pure rfl rfl rfl rfl rfl rfl ?_
      refine D.index0 hv1' rfl rfl rfl rfl rfl rfl rfl rfl rfl rfl (by omega) (row := y.enc) (by simp [hy]) (fun _ => rfl) (fun p23 hp23 => ?_)
      refine D.loadP0 hp23 rfl rfl rfl rfl rfl rfl rfl rfl ?_
      refine D.neAgg (!decide (x = y)) (by kernel_rfl) rfl rfl rfl rfl rfl rfl rfl rfl (fun _ => congrArg (fun q => !q) (eqRow_rel _ _)) rfl rfl ?_
      refine D.done [(0, [], _), (1, [], _), (5, [], _), (25, [], _)] ⟨rfl, rfl, rfl, rfl, trivial⟩ (hR _ _ _ rfl ?_); clear hR hB R
      refine G.cond rfl (fun h25 => ?_) (fun h25 => ?_)
      · skip
        have h25' : ¬ x = y := by simpa using h25
        refine G.region rfl (fun R hR => ?_)
        refine D.pure rfl rfl rfl rfl rfl rfl ?_
        refine D.done [(4, [], _)] ⟨rfl, trivial⟩ (hR _ _ _ rfl ?_); clear hR R
        refine G.retN (G.dropAll (G.fin1 rfl rfl ?_))
        refine ⟨?_, rfl⟩
        have : ¬ l = l' := fun e => by rw [e, hy] at hx; cases hx; exact h25' rfl
        rw [decide_eq_false this]
      · skip
        have h25' : x = y := by simpa using h25
        refine G.region rfl (fun R hR => ?_)
        refine D.pure rfl rfl rfl rfl rfl rfl ?_
        refine D.i64 (((k + 1 : Nat) : Int)) rfl rfl rfl rfl (by omega) (by omega) (by omega) rfl rfl ?_
        refine D.pure rfl rfl rfl rfl rfl rfl ?_
        refine D.done [(0, [], _), (1, [], _), (5, [], _)] ⟨rfl, rfl, rfl, trivial⟩ (hR _ _ _ rfl ?_); clear hR R
        refine G.again (m' := l.length - (k + 1)) (by omega) hle0 (fr' := [(0, [], _), (1, [], _), (5, [], _)]) ⟨rfl, rfl, rfl, trivial⟩ ⟨k + 1, ⟨by omega, fun i hi => by
          by_cases hik : i < k
          · exact hall i hik
          · have : i = k := by omega
            subst this
            rw [hx, hy, h25']⟩, rfl, rfl, rfl⟩
    · skip
      simp only [List.length_map, decide_eq_false_iff_not] at h14
      refine G.region rfl (fun R hR => ?_)
      refine D.pure rfl rfl rfl rfl rfl rfl ?_
      refine D.done [(4, [], _)] ⟨rfl, trivial⟩ (hR _ _ _ rfl ?_); clear hR R
      refine G.retN (G.dropAll (G.fin1 rfl rfl ?_))
      refine ⟨?_, rfl⟩
      have : l = l' := List.ext_getElem? (fun i => by
        by_cases hik : i < k
        · exact hall i hik
        · rw [List.getElem?_eq_none (by omega), List.getElem?_eq_none (by omega)])
      rw [decide_eq_true this]
theorem before_spec (C : Mem) (x y : Rel) : Gives cx.P 35 [.agg ⟨x.enc⟩, .agg ⟨y.enc⟩] C (.bool (decide (cmpR x y < 0))) := by
  have hS : ∀ a b : Str, decide (cmpS a b < 0) = Op.bytesLess a b := fun a b => by
    cases h : Op.bytesLess a b with
    | true => exact decide_eq_true ((cmpS_neg a b).2 h)
    | false => exact decide_eq_false (fun h2 => by rw [(cmpS_neg a b).1 h2] at h; cases h)
  refine Fn.intro (by kernel_rfl) Tryd.func35 rfl 30 rfl rfl (fun w0 => ?_)
  refine G.region rfl (fun R hR => ?_)
  refine D.box rfl rfl rfl rfl rfl rfl (fun _ => rfl) (fun b2 => ?_)
  refine D.box rfl rfl rfl rfl rfl rfl (fun _ => rfl) (fun b3 => ?_)
  refine D.pure rfl rfl rfl rfl rfl rfl ?_
  refine D.done [(2, [], _), (3, [], _)] ⟨rfl, rfl, trivial⟩ (hR _ _ _ rfl ?_); clear hR R
  refine G.region rfl (fun R hR => ?_)
  refine D.pure rfl rfl rfl rfl rfl rfl ?_
  refine D.loadL (.tail _ (.head _)) rfl rfl rfl rfl rfl rfl rfl rfl rfl ?_
  refine D.pure rfl rfl rfl rfl rfl rfl ?_
  refine D.loadL (.head _) rfl rfl rfl rfl rfl rfl rfl rfl rfl ?_
  refine D.pure rfl rfl rfl rfl rfl rfl ?_
  refine D.done [(2, [], _), (3, [], _), (9, [], _)] ⟨rfl, rfl, rfl, trivial⟩ (hR _ _ _ rfl ?_); clear hR R
  refine G.cond rfl (fun h9 => ?_) (fun h9 => ?_)
  · skip
    have h9' : ¬ x.kind = y.kind := by simpa using h9
    refine G.region rfl (fun R hR => ?_)
    refine D.pure rfl rfl rfl rfl rfl rfl ?_
    refine D.loadL (.tail _ (.head _)) rfl rfl rfl rfl rfl rfl rfl rfl rfl ?_
    refine D.pure rfl rfl rfl rfl rfl rfl ?_
    refine D.loadL (.head _) rfl rfl rfl rfl rfl rfl rfl rfl rfl ?_
    iterate 2 refine D.pure rfl rfl rfl rfl rfl rfl ?_
    refine D.done [(4, [], _)] ⟨rfl, trivial⟩ (hR _ _ _ rfl ?_); clear hR R
    refine G.retN (G.dropAll (G.fin1 rfl rfl ?_))
    refine ⟨?_, rfl⟩
    have e : decide (cmpR x y < 0) = decide (x.kind < y.kind) := by
      rw [cmpR, orI_cons, if_neg (mt (tot_cmpI.eq _ _).1 h9'), cmpI]
      by_cases h : x.kind < y.kind
      · simp [h]
      · simp [h, h9']
    rw [e]
  · skip
    have h9' : x.kind = y.kind := by simpa using h9
    refine G.region rfl (fun R hR => ?_)
    refine D.pure rfl rfl rfl rfl rfl rfl ?_
    refine D.loadL (.tail _ (.head _)) rfl rfl rfl rfl rfl rfl rfl rfl rfl ?_
    refine D.pure rfl rfl rfl rfl rfl rfl ?_
    refine D.loadL (.head _) rfl rfl rfl rfl rfl rfl rfl rfl rfl ?_
    refine D.pure rfl rfl rfl rfl rfl rfl ?_
    refine D.done [(2, [], _), (3, [], _), (19, [], _)] ⟨rfl, rfl, rfl, trivial⟩ (hR _ _ _ rfl ?_); clear hR R
    refine G.cond rfl (fun h19 => ?_) (fun h19 => ?_)
    · skip
      have h19' : ¬ x.upper = y.upper := by simpa using h19
      refine G.region rfl (fun R hR => ?_)
      refine D.pure rfl rfl rfl rfl rfl rfl ?_
      refine D.loadL (.tail _ (.head _)) rfl rfl rfl rfl rfl rfl rfl rfl rfl ?_
      refine D.pure rfl rfl rfl rfl rfl rfl ?_
      refine D.loadL (.head _) rfl rfl rfl rfl rfl rfl rfl rfl rfl ?_
      iterate 2 refine D.pure rfl rfl rfl rfl rfl rfl ?_
      refine D.done [(4, [], _)] ⟨rfl, trivial⟩ (hR _ _ _ rfl ?_); clear hR R
      refine G.retN (G.dropAll (G.fin1 rfl rfl ?_))
      refine ⟨?_, rfl⟩
      rw [cmpR, orI_cons, if_pos ((tot_cmpI.eq _ _).2 h9'), orI_cons, if_neg (mt (tot_cmpS.eq _ _).1 h19'), hS]
    · skip
      have h19' : x.upper = y.upper := by simpa using h19
      refine G.region rfl (fun R hR => ?_)
      refine D.pure rfl rfl rfl rfl rfl rfl ?_
      refine D.loadL (.tail _ (.head _)) rfl rfl rfl rfl rfl rfl rfl rfl rfl ?_
      refine D.pure rfl rfl rfl rfl rfl rfl ?_
      refine D.loadL (.head _) rfl rfl rfl rfl rfl rfl rfl rfl rfl ?_
      iterate 2 refine D.pure rfl rfl rfl rfl rfl rfl ?_
      refine D.done [(4, [], _)] ⟨rfl, trivial⟩ (hR _ _ _ rfl ?_); clear hR R
      refine G.retN (G.dropAll (G.fin1 rfl rfl ?_))
      refine ⟨?_, rfl⟩
      rw [cmpR, orI_cons, if_pos ((tot_cmpI.eq _ _).2 h9'), orI_cons, if_pos ((tot_cmpS.eq _ _).2 h19'), orI_cons]
      have e : (if cmpS x.lower y.lower = 0 then orI [] else cmpS x.lower y.lower) = cmpS x.lower y.lower := by split <;> simp_all [orI]
      rw [e, hS]

/-! ### normal -/
theorem ins_skip {f : Rel → Rel → Int} {x : Rel} : ∀ {l : List Rel} {i : Nat}, (∀ j y, j < i → l[j]? = some y → f y x < 0) → i ≤ l.length → ins f x l = l.take i ++ ins f x (l.drop i)
  | l, 0, _, _ => by simp
  | [], i + 1, _, h => by simp at h
  | y :: l, i + 1, ha, h => by
    have h0 := ha 0 y (by omega) (by simp)
    have ih := ins_skip (l := l) (i := i) (fun j z hj hz => ha (j + 1) z (by omega) (by simpa using hz)) (by simpa using h)
    simp only [ins, if_pos h0, List.take_succ_cons, List.drop_succ_cons, List.cons_append, ih]
theorem ins_put {f : Rel → Rel → Int} {x : Rel} {l : List Rel} {i : Nat} (ha : ∀ j y, j < i → l[j]? = some y → f y x < 0) (hi : i ≤ l.length) (hn : i = l.length ∨ ∃ y, l[i]? = some y ∧ ¬ f y x < 0 ∧ y ≠ x) : ins f x l = l.take i ++ ([x] ++ l.drop i) := by
  rw [ins_skip ha hi]
  congr 1
  rcases hn with h | ⟨y, h1, h2, h3⟩
  · subst h; simp [ins]
  · obtain ⟨h4, h5⟩ := List.getElem?_eq_some_iff.1 h1
    rw [List.drop_eq_getElem_cons h4, h5]
    simp only [ins, if_neg h2, if_neg h3]
    simp
theorem ins_there {f : Rel → Rel → Int} {x : Rel} {l : List Rel} {i : Nat} (ha : ∀ j y, j < i → l[j]? = some y → f y x < 0) (hi : l[i]? = some x) (hn : ¬ f x x < 0) : ins f x l = l := by
  obtain ⟨h4, h5⟩ := List.getElem?_eq_some_iff.1 hi
  rw [ins_skip ha (by omega), List.drop_eq_getElem_cons h4, h5]
  simp only [ins, if_neg hn, if_true]
  rw [← h5, ← List.drop_eq_getElem_cons h4, List.take_append_drop]
theorem ins_length {f : Rel → Rel → Int} {x : Rel} : ∀ {l : List Rel}, (ins f x l).length ≤ l.length + 1
  | [] => by simp [ins]
  | y :: l => by
    simp only [ins]
    split
    · have := ins_length (f := f) (x := x) (l := l); simp; omega
    · split <;> simp

def accL (l : List Rel) (k : Nat) : List Rel := ((l.take k).map canon).foldl (fun a x => ins cmpR x a) []
theorem accL_succ {l : List Rel} {k : Nat} {x : Rel} (h : l[k]? = some x) : accL l (k + 1) = ins cmpR (canon x) (accL l k) := by
  rw [accL, List.take_add_one, h]
  simp [accL]
theorem accL_len (l : List Rel) : ∀ k, (accL l k).length ≤ k
  | 0 => by simp [accL]
  | k + 1 => by
    cases h : l[k]? with
    | none =>
      have h2 := List.getElem?_eq_none_iff.1 h
      have : accL l (k + 1) = accL l k := by rw [accL, accL, List.take_of_length_le (by omega), List.take_of_length_le h2]
      rw [this]; have := accL_len l k; omega
    | some x =>
      rw [accL_succ h]
      have := accL_len l k
      have := ins_length (f := cmpR) (x := canon x) (l := accL l k)
      omega

theorem normal_law (C : Mem) (v : Value) (l : List Rel) (hv : Sl C 3 v (l.map Rel.enc)) (hl : l.length ≤ 1000000) : Pur cx.P 15 [v] C fun u C' => Sl C' 3 u ((normalL l).map Rel.enc) := by
  have hv0 := hv
  obtain ⟨A, c, rfl, _⟩ := hv0
  refine Fn.intro (by kernel_rfl) Tryd.func15 rfl 71 rfl rfl (fun w0 => ?_)
  refine G.region rfl (fun R hR => ?_)
  refine D.pure rfl rfl rfl rfl rfl rfl ?_
  refine D.done [(0, [], _)] ⟨rfl, trivial⟩ (hR _ _ _ rfl ?_); clear hR R
  refine G.region rfl (fun R hR => ?_)
  refine D.pure rfl rfl rfl rfl rfl rfl ?_
  refine D.done [(0, [], _), (3, [], _)] ⟨rfl, rfl, trivial⟩ (hR _ _ _ rfl ?_); clear hR R
  refine G.region rfl (fun R hR => ?_)
  refine D.pure rfl rfl rfl rfl rfl rfl ?_
  refine D.done [(0, [], _), (3, [], _), (4, [], _)] ⟨rfl, rfl, rfl, trivial⟩ (hR _ _ _ rfl ?_); clear hR R
  refine G.loop (fun fr C' L' μ => ∃ (k : Nat) (A3 : Option Addr) (c3 : Nat), (k ≤ l.length ∧ Sl C' 3 (.slice A3 (accL l k).length c3) ((accL l k).map Rel.enc)) ∧ fr = [(0, [], .slice A (l.map Rel.enc).length c), (3, [], .slice A3 (accL l k).length c3), (4, [], .int .i64 k)] ∧ L' = [] ∧ μ = l.length - k) (fr' := [(0, [], _), (3, [], _), (4, [], _)]) ⟨rfl, rfl, rfl, trivial⟩ ⟨0, none, 0, ⟨Nat.zero_le _, Sl.nil _ _⟩, rfl, rfl, rfl⟩ (fun fr C0' L0' m hle0 hI => ?_)
  obtain ⟨k, A3, c3, ⟨hk, hs3⟩, rfl, rfl, rfl⟩ := hI
  refine G.region rfl (fun R hR => ?_)
  iterate 4 refine D.pure rfl rfl rfl rfl rfl rfl ?_
  refine D.done [(0, [], _), (3, [], _), (4, [], _), (10, [], _)] ⟨rfl, rfl, rfl, rfl, trivial⟩ (hR _ _ _ rfl ?_); clear hR R
  refine G.cond rfl (fun h10 => ?_) (fun h10 => ?_)
  · skip
    simp only [List.length_map, decide_eq_true_eq] at h10
    have hkl : k < l.length := by omega
    obtain ⟨x, hx⟩ : ∃ x, l[k]? = some x := ⟨l[k], List.getElem?_eq_getElem hkl⟩
    have hv1 := hv.mono hle0
    have hal := accL_len l k
    have hsucc := accL_succ hx
    refine G.region rfl (fun R hR => ?_)
    iterate 2 refine D.pure rfl rfl rfl rfl rfl rfl ?_
    refine D.index0 hv1 rfl rfl rfl rfl rfl rfl rfl rfl rfl rfl (by omega) (row := x.enc) (by simp [hx]) (fun _ => rfl) (fun p15 hp15 => ?_)
    refine D.loadP0 hp15 rfl rfl rfl rfl rfl rfl rfl rfl ?_
    refine D.alloc rfl rfl rfl rfl rfl (fun _ => rfl) (fun b5 => ?_)
    refine D.store (j := 0) rfl rfl rfl rfl rfl rfl rfl rfl rfl rfl rfl rfl ?_
    refine D.done [(0, [], _), (3, [], _), (4, [], _), (5, [], _)] ⟨rfl, rfl, rfl, rfl, trivial⟩ (hR _ _ _ rfl ?_); clear hR R
    refine G.region rfl (fun R hR => ?_)
    refine D.pure rfl rfl rfl rfl rfl rfl ?_
    refine D.loadL (.head _) rfl rfl rfl rfl rfl rfl rfl rfl rfl ?_
    iterate 3 refine D.pure rfl rfl rfl rfl rfl rfl ?_
    refine D.loadL (.head _) rfl rfl rfl rfl rfl rfl rfl rfl rfl ?_
    refine D.pure rfl rfl rfl rfl rfl rfl ?_
    refine D.loadL (.head _) rfl rfl rfl rfl rfl rfl rfl rfl rfl ?_
    refine D.pure rfl rfl rfl rfl rfl rfl ?_
    refine D.pickAnd rfl rfl rfl rfl rfl rfl rfl rfl ?_
    refine D.done [(0, [], _), (3, [], _), (4, [], _), (5, [], _), (26, [], (.bool ((x.kind == 4) && (Op.bytesLess x.lower x.upper))))] ⟨rfl, rfl, rfl, rfl, rfl, trivial⟩ (hR _ _ _ rfl ?_); clear hR R
    refine G.cut (fun fr C' L' μ => (True) ∧ fr = [(0, [], .slice A (l.map Rel.enc).length c), (3, [], .slice A3 (accL l k).length c3), (4, [], .int .i64 k), (5, [], .pointer (some ⟨b5, 0, none⟩))] ∧ L' = [.obj b5 (.cells ⟨(canon x).enc⟩ 33 (0, 0))]) ?_ (fun fr C26 L26 μ hle26 hI => ?_)
    · skip
      refine G.cond rfl (fun h26 => ?_) (fun h26 => ?_)
      · skip
        have hc : canon x = ⟨x.kind, x.lower, x.upper⟩ := by simp only [Bool.and_eq_true, beq_iff_eq] at h26; rw [canon, if_pos h26]
        refine G.region rfl (fun R hR => ?_)
        refine D.pure rfl rfl rfl rfl rfl rfl ?_
        refine D.loadL (.head _) rfl rfl rfl rfl rfl rfl rfl rfl rfl ?_
        refine D.pure rfl rfl rfl rfl rfl rfl ?_
        refine D.loadL (.head _) rfl rfl rfl rfl rfl rfl rfl rfl rfl ?_
        refine D.pure rfl rfl rfl rfl rfl rfl ?_
        refine D.store (j := 0) rfl rfl rfl rfl rfl rfl rfl rfl rfl rfl rfl rfl ?_
        refine D.pure rfl rfl rfl rfl rfl rfl ?_
        refine D.store (j := 0) rfl rfl rfl rfl rfl rfl rfl rfl rfl rfl rfl rfl ?_
        refine D.done [(0, [], _), (3, [], _), (4, [], _), (5, [], _)] ⟨rfl, rfl, rfl, rfl, trivial⟩ (hR _ _ _ rfl ?_); clear hR R
        refine G.meet 0 (Mem.le.refl _) (fr' := [(0, [], _), (3, [], _), (4, [], _), (5, [], _)]) ⟨rfl, rfl, rfl, rfl, trivial⟩ ⟨trivial, rfl, by rw [hc]; rfl⟩
      · skip
        have hc : canon x = x := by
          rw [canon, if_neg]
          rintro ⟨h1, h2⟩
          rw [h1, h2] at h26
          cases h26
        refine G.meet 0 (Mem.le.refl _) (fr' := [(0, [], _), (3, [], _), (4, [], _), (5, [], _)]) ⟨rfl, rfl, rfl, rfl, trivial⟩ ⟨trivial, rfl, by rw [hc]; rfl⟩
    · skip
      obtain ⟨htriv, rfl, rfl⟩ := hI
      have hs4 := hs3.mono hle26
      refine G.region rfl (fun R hR => ?_)
      refine D.pure rfl rfl rfl rfl rfl rfl ?_
      refine D.done [(0, [], _), (3, [], _), (4, [], _), (5, [], _), (6, [], _)] ⟨rfl, rfl, rfl, rfl, rfl, trivial⟩ (hR _ _ _ rfl ?_); clear hR R
      refine G.loop (fun fr C' L' μ => ∃ (i : Nat), (i ≤ (accL l k).length ∧ ∀ j y, j < i → (accL l k)[j]? = some y → cmpR y (canon x) < 0) ∧ fr = [(0, [], .slice A (l.map Rel.enc).length c), (3, [], .slice A3 (accL l k).length c3), (4, [], .int .i64 k), (5, [], .pointer (some ⟨b5, 0, none⟩)), (6, [], .int .i64 i)] ∧ L' = [.obj b5 (.cells ⟨(canon x).enc⟩ 33 (0, 0))] ∧ μ = (accL l k).length - i) (fr' := [(0, [], _), (3, [], _), (4, [], _), (5, [], _), (6, [], _)]) ⟨rfl, rfl, rfl, rfl, rfl, trivial⟩ ⟨0, ⟨Nat.zero_le _, by intro j y hj; omega⟩, rfl, rfl, rfl⟩ (fun fr C1' L1' m hle1 hI => ?_)
      obtain ⟨i, ⟨hi, hbef⟩, rfl, rfl, rfl⟩ := hI
      have hs5 := hs4.mono hle1
      have hrow : i < (accL l k).length → ((accL l k).map Rel.enc)[i]? = some ((accL l k).getD i default).enc := fun h => by
        rw [List.getElem?_map, List.getElem?_eq_getElem h, List.getD_eq_getElem?_getD, List.getElem?_eq_getElem h]; rfl
      refine G.draw [0, 1, 2, 3, 4, 5, 6, 7, 8, 9, 10, 11] [] rfl (by kernel_rfl) (fun R hB hR => ?_)
      iterate 7 refine D.pure rfl rfl rfl rfl rfl rfl ?_
      refine D.index rfl rfl rfl rfl rfl rfl rfl rfl rfl rfl (fun hg => ⟨hs5, by omega, hrow (by have h4 : decide ((i : Int) < ((accL l k).length : Int)) = true := hg.1; simp only [decide_eq_true_eq] at h4; omega)⟩) (fun _ => rfl) rfl (fun p40 hp40 => ?_)
      refine D.loadP rfl rfl rfl rfl rfl rfl hp40 rfl rfl rfl ?_
      refine D.loadL (.head _) rfl rfl rfl rfl rfl rfl rfl rfl rfl ?_
      refine D.gives (fun _ => (before_spec _ _ _)) rfl rfl rfl rfl rfl rfl rfl rfl rfl ?_
      refine D.pickAnd rfl rfl rfl rfl rfl rfl rfl rfl ?_
      refine D.done [(0, [], _), (3, [], _), (4, [], _), (5, [], _), (6, [], _), (44, [], (.bool (decide ((i : Int) < ((accL l k).length : Int)) && decide (cmpR ((accL l k).getD i default) (canon x) < 0))))] ⟨rfl, rfl, rfl, rfl, rfl, rfl, trivial⟩ (hR _ _ _ rfl ?_); clear hR hB R
      refine G.cond rfl (fun h44 => ?_) (fun h44 => ?_)
      · skip
        simp only [Bool.and_eq_true, decide_eq_true_eq] at h44
        have hil : i < (accL l k).length := by omega
        refine G.region rfl (fun R hR => ?_)
        refine D.pure rfl rfl rfl rfl rfl rfl ?_
        refine D.i64 (((i + 1 : Nat) : Int)) rfl rfl rfl rfl (by omega) (by omega) (by omega) rfl rfl ?_
        refine D.pure rfl rfl rfl rfl rfl rfl ?_
        refine D.done [(0, [], _), (3, [], _), (4, [], _), (5, [], _), (6, [], _)] ⟨rfl, rfl, rfl, rfl, rfl, trivial⟩ (hR _ _ _ rfl ?_); clear hR R
        refine G.again (m' := (accL l k).length - (i + 1)) (by omega) hle1 (fr' := [(0, [], _), (3, [], _), (4, [], _), (5, [], _), (6, [], _)]) ⟨rfl, rfl, rfl, rfl, rfl, trivial⟩ ⟨i + 1, ⟨by omega, fun j y hj hy => by
          by_cases hji : j < i
          · exact hbef j y hji hy
          · have : j = i := by omega
            subst this
            have h4 := h44.2
            rw [List.getD_eq_getElem?_getD, hy] at h4
            exact h4⟩, rfl, rfl, rfl⟩
      · skip
        have hstop : i = (accL l k).length ∨ (i < (accL l k).length ∧ ¬ cmpR ((accL l k).getD i default) (canon x) < 0) := by
          simp only [Bool.and_eq_false_iff, decide_eq_false_iff_not] at h44
          rcases h44 with h | h
          · exact .inl (by omega)
          · by_cases h5 : i < (accL l k).length
            · exact .inr ⟨h5, h⟩
            · exact .inl (by omega)
        refine G.draw [0, 1, 2, 3, 4, 5, 6, 7, 8, 9, 10, 11] [] rfl (by kernel_rfl) (fun R hB hR => ?_)
        iterate 7 refine D.pure rfl rfl rfl rfl rfl rfl ?_
        refine D.index rfl rfl rfl rfl rfl rfl rfl rfl rfl rfl (fun hg => ⟨hs5, by omega, hrow (by have h4 : ((i : Int) == ((accL l k).length : Int)) = false := hg.1; have h5 : ¬ (i : Int) = ((accL l k).length : Int) := (by simpa using h4); omega)⟩) (fun _ => rfl) rfl (fun p54 hp54 => ?_)
        refine D.loadP rfl rfl rfl rfl rfl rfl hp54 rfl rfl rfl ?_
        refine D.loadL (.head _) rfl rfl rfl rfl rfl rfl rfl rfl rfl ?_
        refine D.neAgg (!decide ((accL l k).getD i default = canon x)) (by kernel_rfl) rfl rfl rfl rfl rfl rfl rfl rfl (fun _ => congrArg (fun q => !q) (eqRow_rel _ _)) rfl rfl ?_
        refine D.pickOr rfl rfl rfl rfl rfl rfl rfl rfl ?_
        refine D.done [(0, [], _), (3, [], _), (4, [], _), (5, [], _), (6, [], _), (58, [], (.bool (((i : Int) == ((accL l k).length : Int)) || (!decide ((accL l k).getD i default = canon x)))))] ⟨rfl, rfl, rfl, rfl, rfl, rfl, trivial⟩ (hR _ _ _ rfl ?_); clear hR hB R
        refine G.cond rfl (fun h58 => ?_) (fun h58 => ?_)
        · skip
          have hput : ins cmpR (canon x) (accL l k) = (accL l k).take i ++ ([canon x] ++ (accL l k).drop i) := by
            refine ins_put hbef hi ?_
            rcases hstop with h | ⟨h1, h2⟩
            · exact .inl h
            · refine .inr ⟨(accL l k).getD i default, by rw [List.getD_eq_getElem?_getD, List.getElem?_eq_getElem h1]; rfl, h2, ?_⟩
              simp only [Bool.or_eq_true, beq_iff_eq, Bool.not_eq_true', decide_eq_false_iff_not] at h58
              rcases h58 with h | h
              · omega
              · exact h
          obtain ⟨_, hcc, hcm⟩ := Sl.cap hs5
          refine G.draw [0, 1, 2, 3, 4, 6, 7, 8, 5, 9, 10, 11] [] rfl (by kernel_rfl) (fun R hB hR => ?_)
          iterate 3 refine D.pure rfl rfl rfl rfl rfl rfl ?_
          refine D.sliceV 0 i i rfl rfl rfl rfl rfl rfl rfl rfl rfl rfl rfl rfl (fun _ => ⟨.inl ⟨rfl, rfl⟩, .inr ⟨_, rfl⟩, .inr ⟨⟨_, rfl⟩, by simp⟩, by omega, by omega, by omega⟩) rfl rfl ?_
          refine D.loadL (.head _) rfl rfl rfl rfl rfl rfl rfl rfl rfl ?_
          iterate 2 refine D.pure rfl rfl rfl rfl rfl rfl ?_
          refine D.sliceV i (accL l k).length c3 rfl rfl rfl rfl rfl rfl rfl rfl rfl rfl rfl rfl (fun _ => ⟨.inr ⟨_, rfl⟩, .inl ⟨rfl, rfl⟩, .inl ⟨rfl, rfl⟩, by omega, by omega, by omega⟩) rfl rfl ?_
          refine D.buildSliceV [(canon x).enc] rfl rfl rfl rfl rfl rfl rfl rfl rfl rfl rfl rfl (fun _ => rfl) (fun b64 C64 hle64 hs64 => ?_)
          have hsA := (Sl.sub (l := 0) (h := i) (m := i) hs5 (by omega) (by simp; omega) (by omega) (by omega)).mono hle64
          have hsB := (Sl.sub (l := i) (h := (accL l k).length) (m := c3) hs5 (by omega) (by simp) (by omega) (by omega)).mono hle64
          refine D.appendC rfl rfl rfl rfl rfl rfl rfl rfl rfl rfl hs64 hsB (by
            by_cases hz : i = (accL l k).length
            · left; simp [hz]
            · right; simp; omega) (by simp only [List.length_singleton, List.length_drop, List.length_take, List.length_map, maxLen]; omega) (by simp only [List.length_singleton, List.length_drop, List.length_take, List.length_map]; omega) (fun _ => rfl) (fun v68 C68 hle68 hs68 => ?_)
          refine D.appendC rfl rfl rfl rfl rfl rfl rfl rfl rfl rfl (hsA.mono hle68) hs68 (.inr (by simp; omega)) (by simp only [List.length_append, List.length_singleton, List.length_drop, List.length_take, List.length_map, maxLen]; omega) (by simp only [List.length_append, List.length_singleton, List.length_drop, List.length_take, List.length_map]; omega) (fun _ => rfl) (fun v69 C69 hle69 hs69 => ?_)
          refine D.pure rfl rfl rfl rfl rfl rfl ?_
          refine D.done [(0, [], _), (3, [], _), (4, [], _)] ⟨rfl, rfl, rfl, trivial⟩ (hR _ _ _ rfl ?_); clear hR hB R
          have hfin : ((((accL l k).map Rel.enc).take i).drop 0 ++ ([(canon x).enc] ++ (((accL l k).map Rel.enc).take (accL l k).length).drop i)) = (accL l (k + 1)).map Rel.enc := by
            rw [hsucc, hput, List.drop_zero, List.take_of_length_le (l := (accL l k).map Rel.enc) (i := (accL l k).length) (by simp)]
            simp
          have hs7 : Sl C69 3 v69 ((accL l (k + 1)).map Rel.enc) := by rw [← hfin]; exact hs69
          have hs8 := hs7
          obtain ⟨A6, c6, hv69, _⟩ := hs8
          simp only [List.length_map] at hv69
          subst hv69
          refine G.region rfl (fun R hR => ?_)
          refine D.pure rfl rfl rfl rfl rfl rfl ?_
          refine D.i64 (((k + 1 : Nat) : Int)) rfl rfl rfl rfl (by omega) (by omega) (by omega) rfl rfl ?_
          refine D.pure rfl rfl rfl rfl rfl rfl ?_
          refine D.done [(0, [], _), (3, [], _), (4, [], _)] ⟨rfl, rfl, rfl, trivial⟩ (hR _ _ _ rfl ?_); clear hR R
          refine G.dropE 0 rfl ?_
          refine G.again (m' := l.length - (k + 1)) (by omega) (hle0.trans (hle26.trans (hle1.trans (hle64.trans (hle68.trans hle69))))) (fr' := [(0, [], _), (3, [], _), (4, [], _)]) ⟨rfl, rfl, rfl, trivial⟩ ⟨k + 1, A6, c6, ⟨by omega, hs7⟩, rfl, rfl, rfl⟩
        · skip
          have hthere : accL l (k + 1) = accL l k := by
            simp only [Bool.or_eq_false_iff, beq_eq_false_iff_ne, ne_eq, Bool.not_eq_false', decide_eq_true_eq] at h58
            have h1 : i < (accL l k).length := by omega
            have h2 : (accL l k)[i]? = some (canon x) := by
              rw [← h58.2, List.getD_eq_getElem?_getD, List.getElem?_eq_getElem h1]; rfl
            rw [hsucc]
            exact ins_there hbef h2 (by rw [tot_cmpR.refl]; omega)
          refine G.region rfl (fun R hR => ?_)
          refine D.pure rfl rfl rfl rfl rfl rfl ?_
          refine D.i64 (((k + 1 : Nat) : Int)) rfl rfl rfl rfl (by omega) (by omega) (by omega) rfl rfl ?_
          refine D.pure rfl rfl rfl rfl rfl rfl ?_
          refine D.done [(0, [], _), (3, [], _), (4, [], _)] ⟨rfl, rfl, rfl, trivial⟩ (hR _ _ _ rfl ?_); clear hR R
          refine G.dropE 0 rfl ?_
          rw [← hthere]
          refine G.again (m' := l.length - (k + 1)) (by omega) (hle0.trans (hle26.trans hle1)) (fr' := [(0, [], _), (3, [], _), (4, [], _)]) ⟨rfl, rfl, rfl, trivial⟩ ⟨k + 1, A3, c3, ⟨by omega, by rw [hthere]; exact hs5⟩, rfl, rfl, rfl⟩
  · skip
    simp only [List.length_map, decide_eq_false_iff_not] at h10
    refine G.region rfl (fun R hR => ?_)
    iterate 2 refine D.pure rfl rfl rfl rfl rfl rfl ?_
    refine D.done [(2, [], _)] ⟨rfl, trivial⟩ (hR _ _ _ rfl ?_); clear hR R
    refine G.retN (G.dropAll (G.fin1 rfl rfl ?_))
    refine ⟨rfl, ?_⟩
    have e : accL l k = normalL l := by rw [accL, List.take_of_length_le (by omega)]; rfl
    rw [← e]
    exact hs3
end Go.Proofs.YtjmfjobfmdhbfaaDoor
