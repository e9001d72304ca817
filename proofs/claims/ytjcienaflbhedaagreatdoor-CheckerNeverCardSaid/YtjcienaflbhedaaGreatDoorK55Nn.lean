/- FOR ANY DESCRIPTIONS AND ANY LIST OF TEXTS CheckerNever ANSWERS true, and leaves them as they were. -/
import Derived.Test.YtjcienaflbhedaaGreatDoorG6
import Derived.Test.YtjcienaflbhedaaGreatDoorShelf
namespace Go.Proofs.YtjcienaflbhedaaGreatDoor
open Go Go.Jog
set_option maxRecDepth 100000

theorem upN_lt (x : Seen) : upN x < 6 := Nat.mod_lt _ (by decide)
theorem lowN_lt (x : Seen) : lowN x < 6 := by
  unfold lowN; split
  · exact Nat.mod_lt _ (by decide)
  · exact Nat.mod_lt _ (by decide)
theorem lowN_ne (x : Seen) : upN x ≠ lowN x := by
  unfold lowN upN
  split
  · have : x.b.toNat % 6 < 6 := Nat.mod_lt _ (by decide)
    omega
  · assumption
theorem mem_makeL {s : List Seen} {x : Rel} (h : x ∈ makeL s) : ∃ y : Seen, x = mkR y := by
  obtain ⟨y, _, rfl⟩ := List.mem_map.1 h
  exact ⟨y, rfl⟩
/-- A relation as Make makes it. -/
def MadeR (x : Rel) : Prop := 1 ≤ x.kind ∧ x.kind ≤ 4 ∧ ∃ i j, i < 6 ∧ j < 6 ∧ i ≠ j ∧ x.upper = nameI i ∧ x.lower = nameI j
def Made (l : List Rel) : Prop := l.length ≤ 8 ∧ ∀ x ∈ l, MadeR x
theorem made_makeL (s : List Seen) : Made (makeL s) := by
  refine ⟨by simp [makeL]; omega, fun x hx => ?_⟩
  obtain ⟨y, rfl⟩ := mem_makeL hx
  refine ⟨?_, ?_, upN y, lowN y, upN_lt y, lowN_lt y, lowN_ne y, rfl, rfl⟩
  · show (1 : Int) ≤ ((1 + y.a.toNat % 4 : Nat) : Int); omega
  · show ((1 + y.a.toNat % 4 : Nat) : Int) ≤ 4
    have : y.a.toNat % 4 < 4 := Nat.mod_lt _ (by decide)
    omega
theorem Made.take {l : List Rel} (h : Made l) (k : Nat) : Made (l.take k) := ⟨by rw [List.length_take]; have := h.1; omega, fun x hx => h.2 x (List.mem_of_mem_take hx)⟩
theorem Made.sub {l m : List Rel} (h : Made l) (hm : m.length ≤ 8) (hs : ∀ x ∈ m, x ∈ l) : Made m := ⟨hm, fun x hx => h.2 x (hs x hx)⟩
end Go.Proofs.YtjcienaflbhedaaGreatDoor
namespace Go.Proofs.YtjcienaflbhedaaGreatDoor
open Go Go.Jog
set_option maxRecDepth 100000

theorem cycB_iff {l : List Rel} {c : List Int} : cycB l c = true ↔ 0 < c.length ∧ (∀ x ∈ c, arcB l x = true) ∧ ∀ k, k < c.length → stepB l c k = true := by
  unfold cycB
  simp only [Bool.and_eq_true, Bool.not_eq_true', decide_eq_false_iff_not, List.all_eq_true, List.mem_range, and_assoc]
  constructor
  · rintro ⟨h1, h2, h3⟩; exact ⟨by omega, h2, h3⟩
  · rintro ⟨h1, h2, h3⟩; exact ⟨by omega, h2, h3⟩
theorem cI_mem {c : List Int} {k : Nat} (h : k < c.length) : cI c k ∈ c := List.mem_of_getElem? (cI_at h)
/-- The place before, around. -/
theorem prev_at {n k : Nat} (hk : k < n) : (k + n - 1) % n = if k = 0 then n - 1 else k - 1 := by
  split
  · rename_i h
    subst h
    rw [Nat.zero_add]
    exact Nat.mod_eq_of_lt (by omega)
  · rw [show k + n - 1 = (k - 1) + n by omega, Nat.add_mod_right]
    exact Nat.mod_eq_of_lt (by omega)
theorem ord_no_cyc {l : List Rel} {o : List Str} {c : List Int} (ho : ordB l o = true) : cycB l c = false := by
  cases h : cycB l c with
  | false => rfl
  | true =>
    exfalso
    obtain ⟨hn, harc, hst⟩ := cycB_iff.1 h
    have hkept : ∀ i : Int, arcB l i = true → posZ o (gR l i).lower < posZ o (gR l i).upper := fun i hi => by
      obtain ⟨h0, h1⟩ := arcB_in hi
      unfold ordB at ho
      simp only [Bool.and_eq_true, List.all_eq_true, List.mem_range] at ho
      have hk := ho.2 i.toNat (by omega)
      unfold keptB at hk
      rw [Int.toNat_of_nonneg h0, hi] at hk
      simp at hk
      omega
    have hstep : ∀ k, k < c.length → posZ o (gR l (cI c ((k + c.length - 1) % c.length))).lower < posZ o (gR l (cI c k)).lower := fun k hk => by
      have h1 := hkept _ (harc _ (cI_mem (Nat.mod_lt (k + c.length - 1) hn)))
      have h2 := hst k hk
      unfold stepB at h2
      simp at h2
      rw [h2.1] at h1
      exact h1
    have hmono : ∀ k, k < c.length → posZ o (gR l (cI c 0)).lower ≤ posZ o (gR l (cI c k)).lower := fun k => by
      induction k with
      | zero => intro _; exact Nat.le_refl _
      | succ k ih =>
        intro hk
        have h1 := hstep (k + 1) hk
        rw [prev_at hk, if_neg (by omega), Nat.add_sub_cancel] at h1
        have := ih (by omega)
        omega
    have h1 := hstep 0 hn
    rw [prev_at hn, if_pos rfl] at h1
    have h2 := hmono (c.length - 1) (by omega)
    omega

end Go.Proofs.YtjcienaflbhedaaGreatDoor
namespace Go.Proofs.YtjcienaflbhedaaGreatDoor
open Go Go.Jog
set_option maxRecDepth 100000

theorem wrapN {n : Nat} (h : n ≤ 9223372036854775807) : IntKind.i64.wrap (n : Int) = n := by rw [IntKind.wrap_i64]; omega
theorem noCyc {C : Mem} {v vc : Value} {l : List Rel} {o : List Str} (c : List Int) (ho : ordB l o = true) (hv : Sl C 3 v (l.map Rel.enc)) (hc : Sl C 1 vc (c.map encI)) (hcl : c.length ≤ 1000000) : Gives cx.P 12 [v, vc] C (.bool false) := by
  have h := ccycle_fn C v vc l c hv hc hcl
  rw [ord_no_cyc ho] at h
  exact h
set_option maxHeartbeats 4000000 in
theorem never_fn (C : Mem) (hT : Tabs C) (v vn : Value) (s : List Seen) (names : List Str) (hv : Sl C 3 v (s.map Seen.enc)) (hn : Sl C 1 vn (names.map encS)) : Gives cx.P 4 [v, vn] C (.bool true) := by
  obtain ⟨A, c, rfl, _⟩ := id hv
  obtain ⟨An, cn, rfl, _⟩ := id hn
  simp only [List.length_map] at hv hn ⊢
  refine Fn.intro (by kernel_rfl) Tryz.func4 rfl 75 rfl rfl (fun w0 => ?_)
  refine G.region rfl (fun R hR => ?_)
  refine D.pure rfl rfl rfl rfl rfl rfl ?_
  refine D.done [(0, [], _), (1, [], _)] ⟨rfl, rfl, trivial⟩ (hR _ _ _ rfl ?_); clear hR R
  refine G.region rfl (fun R hR => ?_)
  refine D.gives2 (known_fn _ (hT.mono (by (repeat (first | exact Mem.le.refl _ | assumption | (apply Mem.le.trans; rotate_left; assumption)))))) rfl rfl rfl rfl rfl rfl rfl (fun _ => rfl) ?_
  iterate 3 refine D.pure rfl rfl rfl rfl rfl rfl ?_
  refine D.gives (fun _ => (fits_fn _ A s.length c)) rfl rfl rfl rfl rfl rfl rfl rfl rfl ?_
  refine D.pure rfl rfl rfl rfl rfl rfl ?_
  refine D.pickOr rfl rfl rfl rfl rfl rfl rfl rfl ?_
  iterate 4 refine D.pure rfl rfl rfl rfl rfl rfl ?_
  refine D.pickOr rfl rfl rfl rfl rfl rfl rfl rfl ?_
  refine D.done [(0, [], _), (1, [], _), (19, [], _)] ⟨rfl, rfl, rfl, trivial⟩ (hR _ _ _ rfl ?_); clear hR R
  refine G.cond rfl (fun h19 => ?_) (fun h19 => ?_)
  · skip
    refine G.region rfl (fun R hR => ?_)
    refine D.gives2 (known_fn _ (hT.mono (by (repeat (first | exact Mem.le.refl _ | assumption | (apply Mem.le.trans; rotate_left; assumption)))))) rfl rfl rfl rfl rfl rfl rfl (fun _ => rfl) ?_
    refine D.pure rfl rfl rfl rfl rfl rfl ?_
    refine D.done [(4, [], _)] ⟨rfl, trivial⟩ (hR _ _ _ rfl ?_); clear hR R
    refine G.retN (G.dropAll (G.fin1 rfl rfl ?_))
    exact ⟨rfl, rfl⟩
  · skip
    refine G.region rfl (fun R hR => ?_)
    refine D.pure rfl rfl rfl rfl rfl rfl ?_
    refine D.callP (make_fn _ _ s (hv.mono (by (repeat (first | exact Mem.le.refl _ | assumption | (apply Mem.le.trans; rotate_left; assumption)))))) rfl rfl rfl rfl rfl rfl rfl (fun _ => rfl) (fun v22 C22 hle22 hq22 => ?_)
    obtain ⟨Am, cm, rfl, _⟩ := id hq22
    have hma := made_makeL s
    obtain ⟨l, hl⟩ : ∃ l, makeL s = l := ⟨_, rfl⟩
    rw [hl] at hq22 hma
    have hl8 := hma.1
    rw [List.length_map] at hq22
    rw [hl, List.length_map]
    refine D.pure rfl rfl rfl rfl rfl rfl ?_
    refine D.done [(1, [], _), (5, [], _)] ⟨rfl, rfl, trivial⟩ (hR _ _ _ rfl ?_); clear hR R
    refine G.region rfl (fun R hR => ?_)
    iterate 2 refine D.pure rfl rfl rfl rfl rfl rfl ?_
    refine D.gives2 (order_fn _ _ _ l names (hq22.mono (by (repeat (first | exact Mem.le.refl _ | assumption | (apply Mem.le.trans; rotate_left; assumption))))) (hn.mono (by (repeat (first | exact Mem.le.refl _ | assumption | (apply Mem.le.trans; rotate_left; assumption)))))) rfl rfl rfl rfl rfl rfl rfl (fun _ => rfl) ?_
    refine D.pure rfl rfl rfl rfl rfl rfl ?_
    refine D.done [(5, [], _), (26, [], _)] ⟨rfl, rfl, trivial⟩ (hR _ _ _ rfl ?_); clear hR R
    refine G.cond rfl (fun h26 => ?_) (fun h26 => ?_)
    · skip
      refine G.region rfl (fun R hR => ?_)
      refine D.pure rfl rfl rfl rfl rfl rfl ?_
      refine D.done [(4, [], _)] ⟨rfl, trivial⟩ (hR _ _ _ rfl ?_); clear hR R
      refine G.retN (G.dropAll (G.fin1 rfl rfl ?_))
      exact ⟨rfl, rfl⟩
    · skip
      have ho : ordB l names = true := by
        cases h : ordB l names with
        | true => rfl
        | false => rw [h] at h26; cases h26
      refine G.region rfl (fun R hR => ?_)
      iterate 3 refine D.pure rfl rfl rfl rfl rfl rfl ?_
      refine D.done [(5, [], _), (6, [], _)] ⟨rfl, rfl, trivial⟩ (hR _ _ _ rfl ?_); clear hR R
      refine G.region rfl (fun R hR => ?_)
      refine D.pure rfl rfl rfl rfl rfl rfl ?_
      refine D.done [(5, [], _), (6, [], _), (7, [], _)] ⟨rfl, rfl, rfl, trivial⟩ (hR _ _ _ rfl ?_); clear hR R
      refine G.loop (fun fr C' L' μ => ∃ (i : Nat), (i ≤ l.length * l.length * l.length) ∧ fr = [(5, [], .slice Am l.length cm), (6, [], .int .i64 l.length), (7, [], .int .i64 i)] ∧ L' = [] ∧ μ = l.length * l.length * l.length - i) (fr' := [(5, [], _), (6, [], _), (7, [], _)]) ⟨rfl, rfl, rfl, trivial⟩ ⟨0, Nat.zero_le _, rfl, rfl, rfl⟩ (fun fr C0' L0' m hle0 hI => ?_)
      obtain ⟨i, hi, rfl, rfl, rfl⟩ := hI
      have hsq : l.length * l.length ≤ 8 * 8 := Nat.mul_le_mul hl8 hl8
      have hcb : l.length * l.length * l.length ≤ 8 * 8 * 8 := Nat.mul_le_mul hsq hl8
      refine G.region rfl (fun R hR => ?_)
      iterate 3 refine D.pure rfl rfl rfl rfl rfl rfl ?_
      refine D.i64 (((l.length * l.length : Nat) : Int)) rfl rfl rfl rfl (by simp only [Int.natCast_mul]) (by omega) (by omega) rfl rfl ?_
      refine D.pure rfl rfl rfl rfl rfl rfl ?_
      refine D.i64 (((l.length * l.length * l.length : Nat) : Int)) rfl rfl rfl rfl (by simp only [Int.natCast_mul]) (by omega) (by omega) rfl rfl ?_
      refine D.pure rfl rfl rfl rfl rfl rfl ?_
      refine D.done [(5, [], _), (6, [], _), (7, [], _), (35, [], _)] ⟨rfl, rfl, rfl, rfl, trivial⟩ (hR _ _ _ rfl ?_); clear hR R
      refine G.cond rfl (fun h35 => ?_) (fun h35 => ?_)
      · skip
        have hil : i < l.length * l.length * l.length := Int.ofNat_lt.1 (of_decide_eq_true h35)
        have hl0 : 0 < l.length := by
          rcases Nat.eq_zero_or_pos l.length with h | h
          · rw [h] at hil; simp at hil
          · exact h
        refine G.draw [0, 1, 2, 3, 4, 5, 6, 7, 8, 9, 10, 11, 12, 13, 14, 15, 16, 17, 18, 19, 20, 21, 22, 23, 24, 25, 26, 27, 28, 29, 30, 31, 32, 33, 34, 35, 36] [(5, 1)] rfl (by kernel_rfl) (fun R hB hR => ?_)
        iterate 3 refine D.pure rfl rfl rfl rfl rfl rfl ?_
        have hq0 := Nat.div_le_self i l.length
        refine D.rem rfl rfl rfl rfl rfl rfl (by omega) (by omega) rfl rfl ?_
        refine D.buildSlice [[.int .i64 ((i : Int) % (l.length : Int))]] rfl rfl rfl rfl rfl rfl rfl rfl rfl rfl rfl rfl (fun _ => rfl) (fun p42 C42 hle42 hs42 => ?_)
        refine D.gives (fun _ => (noCyc [(i : Int) % (l.length : Int)] ho (hq22.mono (by (repeat (first | exact Mem.le.refl _ | assumption | (apply Mem.le.trans; rotate_left; assumption))))) (hs42.mono (by (repeat (first | exact Mem.le.refl _ | assumption | (apply Mem.le.trans; rotate_left; assumption))))) (by simp))) rfl rfl rfl rfl rfl rfl rfl rfl rfl ?_
        iterate 4 refine D.pure rfl rfl rfl rfl rfl rfl ?_
        refine D.rem rfl rfl rfl rfl rfl rfl (by omega) (by omega) rfl rfl ?_
        iterate 2 refine D.pure rfl rfl rfl rfl rfl rfl ?_
        refine D.quoT ((i / l.length : Nat) : Int) rfl rfl rfl rfl rfl rfl (by omega) rfl (wrapN (by omega)) rfl rfl ?_
        refine D.pure rfl rfl rfl rfl rfl rfl ?_
        have hq1 := Nat.div_le_self (i / l.length) l.length
        refine D.rem rfl rfl rfl rfl rfl rfl (by omega) (Int.natCast_nonneg _) rfl rfl ?_
        refine D.buildSliceG [[.int .i64 ((i : Int) % (l.length : Int))], [.int .i64 (((i / l.length : Nat) : Int) % (l.length : Int))]] rfl rfl rfl rfl rfl rfl rfl rfl rfl rfl rfl rfl (fun _ => rfl) rfl rfl (fun b54 C54 hle54 hs54 => ?_)
        refine D.gives (fun hg => (noCyc [(i : Int) % (l.length : Int), ((i / l.length : Nat) : Int) % (l.length : Int)] ho (hq22.mono (by (repeat (first | exact Mem.le.refl _ | assumption | (apply Mem.le.trans; rotate_left; assumption))))) ((hs54 ⟨rfl, trivial⟩).mono (by (repeat (first | exact Mem.le.refl _ | assumption | (apply Mem.le.trans; rotate_left; assumption))))) (by simp))) rfl rfl rfl rfl rfl rfl rfl rfl rfl ?_
        refine D.pickOr rfl rfl rfl rfl rfl rfl rfl rfl ?_
        iterate 4 refine D.pure rfl rfl rfl rfl rfl rfl ?_
        refine D.rem rfl rfl rfl rfl rfl rfl (by omega) (by omega) rfl rfl ?_
        iterate 2 refine D.pure rfl rfl rfl rfl rfl rfl ?_
        refine D.quoT ((i / l.length : Nat) : Int) rfl rfl rfl rfl rfl rfl (by omega) rfl (wrapN (by omega)) rfl rfl ?_
        refine D.pure rfl rfl rfl rfl rfl rfl ?_
        refine D.rem rfl rfl rfl rfl rfl rfl (by omega) (Int.natCast_nonneg _) rfl rfl ?_
        iterate 2 refine D.pure rfl rfl rfl rfl rfl rfl ?_
        refine D.quoT ((i / l.length : Nat) : Int) rfl rfl rfl rfl rfl rfl (by omega) rfl (wrapN (by omega)) rfl rfl ?_
        refine D.pure rfl rfl rfl rfl rfl rfl ?_
        refine D.quoT ((i / l.length / l.length : Nat) : Int) rfl rfl rfl rfl rfl rfl (by omega) rfl (wrapN (by omega)) rfl rfl ?_
        refine D.buildSliceG [[.int .i64 ((i : Int) % (l.length : Int))], [.int .i64 (((i / l.length : Nat) : Int) % (l.length : Int))], [.int .i64 ((i / l.length / l.length : Nat) : Int)]] rfl rfl rfl rfl rfl rfl rfl rfl rfl rfl rfl rfl (fun _ => rfl) rfl rfl (fun b72 C72 hle72 hs72 => ?_)
        refine D.gives (fun hg => (noCyc [(i : Int) % (l.length : Int), ((i / l.length : Nat) : Int) % (l.length : Int), ((i / l.length / l.length : Nat) : Int)] ho (hq22.mono (by (repeat (first | exact Mem.le.refl _ | assumption | (apply Mem.le.trans; rotate_left; assumption))))) ((hs72 ⟨rfl, trivial⟩).mono (by (repeat (first | exact Mem.le.refl _ | assumption | (apply Mem.le.trans; rotate_left; assumption))))) (by simp))) rfl rfl rfl rfl rfl rfl rfl rfl rfl ?_
        refine D.pickOr rfl rfl rfl rfl rfl rfl rfl rfl ?_
        refine D.done [(5, [], _), (6, [], _), (7, [], _), (74, [], _)] ⟨rfl, rfl, rfl, rfl, trivial⟩ (hR _ _ _ rfl ?_); clear hR hB R
        refine G.cond rfl (fun h74 => ?_) (fun h74 => ?_)
        · skip
          exact absurd h74 (by decide)
        · skip
          refine G.region rfl (fun R hR => ?_)
          refine D.pure rfl rfl rfl rfl rfl rfl ?_
          refine D.i64 _ rfl rfl rfl rfl rfl (by omega) (by omega) rfl rfl ?_
          refine D.pure rfl rfl rfl rfl rfl rfl ?_
          refine D.done [(5, [], _), (6, [], _), (7, [], _)] ⟨rfl, rfl, rfl, trivial⟩ (hR _ _ _ rfl ?_); clear hR R
          refine G.again (m' := l.length * l.length * l.length - (i + 1)) (by omega) (by (repeat (first | exact Mem.le.refl _ | assumption | (apply Mem.le.trans; rotate_left; assumption)))) (fr' := [(5, [], _), (6, [], _), (7, [], _)]) ⟨rfl, rfl, rfl, trivial⟩ ⟨i + 1, by omega, rfl, rfl, rfl⟩
      · skip
        refine G.region rfl (fun R hR => ?_)
        refine D.pure rfl rfl rfl rfl rfl rfl ?_
        refine D.done [(4, [], _)] ⟨rfl, trivial⟩ (hR _ _ _ rfl ?_); clear hR R
        refine G.retN (G.dropAll (G.fin1 rfl rfl ?_))
        exact ⟨rfl, rfl⟩
end Go.Proofs.YtjcienaflbhedaaGreatDoor
namespace Go.Proofs.YtjcienaflbhedaaGreatDoor
open Go Go.Jog Go.ChangeShapes Go.WideShapes Go.ChangeAt Go.RowKit
set_option maxRecDepth 100000

namespace lawCheckerNever
theorem laid_met (os : Os) (args : Array Value) : laidMetH Tryz.prog Rows.checkerNeverRow.laid ((laidWorld os).forCall (fun _ _ => 0) ⟨#[], args, []⟩).memory :=
  laidMet_of_run' 8 (by kernel_rfl) (by kernel_rfl)
theorem contract (H : Type) (enc : TypeId × Value → H) (W : World) (base : Nat) (args : Array Value) (ds gs : List (DataW H)) (before : List MemPlace)
    (hval : ∀ (j : Nat) t v, Tryz.f4.params[j]? = some t → args[j]? = some v → Value.okWide Tryz.prog W .any base t v)
    (hW : DataW.Whole enc Tryz.prog Tryz.f4.params.toList Rows.checkerNeverSpec.vars false W args.toList ds gs before) (hL : laidMet Tryz.prog Rows.checkerNeverRow.laid W) :
    Calls Tryz.prog 4 args W fun e W' => ∃ v, e = .returned v ∧ Rows.checkerNeverSpec.post enc Tryz.prog Tryz.f4 false true false false W args v W' := by
  have hW' := hW
  obtain ⟨p, q, hA0, hV, rfl, hfz, hnd⟩ := hW
  have hA : DataW.TrodAll enc Tryz.prog W 0 (fun _ => true) true Tryz.f4.params.toList args.toList ds p := hA0
  rw [Tryz.params4] at hA hval
  obtain ⟨v0, vs0, d0, ds0, p0, q0, hargs0, rfl, rfl, h0, r0⟩ := trodAll_cons hA
  obtain ⟨v1, vs1, d1, ds1, p1, q1, hargs1, rfl, rfl, h1, r1⟩ := trodAll_cons r0
  obtain ⟨rfl, rfl, rfl⟩ := trodAll_nil r1
  obtain rfl : args = #[v0, v1] := by cases args; simp_all
  obtain ⟨rfl, rfl⟩ := trodVars_none hV
  obtain ⟨a0, len0, cap0, rfl⟩ := okWide_slice Tryz.underlying25 (hval 0 25 v0 rfl rfl)
  obtain ⟨l0, hl0⟩ : ∃ l : List Seen, Sl (memOf W) 3 (.slice a0 len0 cap0) (l.map Seen.enc) := by
    obtain ⟨n, hn⟩ := (id h0)
    exact seens_of hn
  obtain ⟨a1, len1, cap1, rfl⟩ := okWide_slice Tryz.underlying26 (hval 1 26 v1 rfl rfl)
  obtain ⟨l1, hl1⟩ : ∃ l : List Str, Sl (memOf W) 1 (.slice a1 len1 cap1) (l.map encS) := by
    obtain ⟨n, hn⟩ := (id h1)
    exact strs_of hn
  simp only [List.append_nil] at hW'
  have hlt0 : ∀ x ∈ p0, x.block < W.heap.size := fun x hx => hW'.lt x (by simp [hx])
  have hlt1 : ∀ x ∈ p1, x.block < W.heap.size := fun x hx => hW'.lt x (by simp [hx])
  have main := gives_below (never_fn (memOf W) (tabs_of hL) _ _ l0 l1 hl0 hl1)
  refine Calls.mono main fun e W' ⟨he, hb⟩ => ?_
  subst he
  refine ⟨_, rfl, post_of_below (pa := p0 ++ (p1 ++ ([]))) (pv := []) hW' (fun _ _ _ => trodAll_cons_mk (shut_bool Tryz.underlying4 _) trodAll_mk0) (fun sp hsp => ?_) (fun _ _ => rfl) (by simp) hb (ok_one (by kernel_rfl) rfl (okWide_bool_mk Tryz.underlying4 _))⟩
  exact trodAll_cons_mk (WideElems.Trod_stays laidOut' (by kernel_rfl) (of_decide_eq_true (by kernel_rfl)) h0 (fun x hx => hb.same (hlt0 x hx)) (fun x hx => hsp x (by simp [hx]))) (trodAll_cons_mk (WideElems.Trod_stays laidOut' (by kernel_rfl) (of_decide_eq_true (by kernel_rfl)) h1 (fun x hx => hb.same (hlt1 x hx)) (fun x hx => hsp x (by simp [hx]))) (trodAll_mk0))

theorem reads (os : Os) {H : Type} (enc : TypeId × Value → H) : ∃ places, DataW.whole enc Tryz.prog ((laidWorld os).forCall (fun _ _ => 0) ⟨#[], #[.slice none 0 0, .slice none 0 0], []⟩).memory Tryz.f4.params.toList Rows.checkerNeverSpec.vars false (#[.slice none 0 0, .slice none 0 0] : Array Value).toList 8 = some ([.nil, .nil], [], places) :=
  ⟨[], by kernel_rfl⟩

theorem lifted (os : Os) (started : os.Started) (H : Type) (enc : TypeId × Value → H) (F : Stop.Interp) :
    ReturnsInHanded {} Tryz.checked os 4 .any ((OpenSpec.ofChange Rows.checkerNeverSpec).preRow enc Tryz.prog Tryz.f4 Rows.checkerNeverRow.domain false Rows.checkerNeverRow.laid) (((OpenSpec.ofChange Rows.checkerNeverSpec).at F).post enc Tryz.prog Tryz.f4 false true false false) := by
  obtain ⟨places, hx⟩ := reads os enc
  refine returnsInHanded_of_row (C := Tryz.checked) (s := OpenSpec.ofChange Rows.checkerNeverSpec) own started (by kernel_rfl) Tryz.func4
    (witness_row_at (enc := enc) (C := Tryz.checked) false (laidWorld os) #[.slice none 0 0, .slice none 0 0] rfl (by kernel_rfl) (by kernel_rfl) (by kernel_rfl)
      (OpenSpec.preRow_of_cond 8 hx (by kernel_rfl) (fun k hk => by cases hk) (by kernel_rfl) (laid_met os _))) ?_
  intro W base args ds gs before hval hW _ _ _ hL _ _
  exact contract H enc W base args ds gs before hval hW hL

theorem said : Rows.CheckerNeverSaid :=
  OpenClaim.holds_of_cond 4 Tryz.f4 rfl rfl rfl rfl rfl rfl rfl ⟨rfl, rfl, rfl, rfl, rfl⟩ rfl rfl rfl rfl rfl (by kernel_rfl) Tryz.func4 (by kernel_rfl)
    (of_decide_eq_true (by kernel_rfl)) (by unfold Func.isWrapper; first | (rw [if_pos (by decide +kernel)]; kernel_rfl) | (rw [if_neg (by decide +kernel)]; exact ⟨rfl, rfl⟩))
    (fun os started H enc _ F => by rw [OpenClaim.pre_eq_preRow]; exact lifted os started H enc F)

theorem plain (f : FuncId) (fn : Func) (hf : Tryz.pinned.checked.prog.funcNamed "klippe/klippelaw55.CheckerNever" = some f) (hfn : Tryz.pinned.checked.prog.funcs[f]? = some fn) :
    false = Tryz.pinned.checked.prog.looks [] ∧ ∀ (j : Nat) t, fn.params[j]? = some t → Tryz.pinned.checked.prog.wantsStandIn t = false := by
  obtain rfl : f = 4 := Option.some.inj ((show Tryz.prog.funcNamed "klippe/klippelaw55.CheckerNever" = some 4 by kernel_rfl).symm.trans hf) |>.symm
  obtain rfl : fn = Tryz.f4 := (Option.some.inj (Tryz.func4.symm.trans hfn)).symm
  refine ⟨by kernel_rfl, fun j t ht => ?_⟩
  rw [Tryz.params4] at ht
  have hm := Array.mem_of_getElem? ht
  simp only [List.mem_toArray, List.mem_cons, List.not_mem_nil, or_false] at hm
  rcases hm with rfl | rfl
  · exact (show Tryz.prog.wantsStandIn 25 = false by kernel_rfl)
  · exact (show Tryz.prog.wantsStandIn 26 = false by kernel_rfl)
end lawCheckerNever

/-- FOR ANY DESCRIPTIONS AND ANY LIST OF TEXTS CheckerNever ANSWERS true, and leaves them as they were. The listed tables as the program's text lays them (the card ties them). -/
theorem checkerNever_card : Rows.CheckerNeverCardSaid :=
  Claim7.holds_tied_plain_at .later [] _ _ _ _ lawCheckerNever.said (fun _ h => by cases h) (by kernel_rfl) (fun _ h => by cases h) checkerNever_row_tie rfl ⟨rfl, rfl⟩ (by kernel_rfl) rfl lawCheckerNever.plain (by kernel_rfl)
#print axioms checkerNever_card
end Go.Proofs.YtjcienaflbhedaaGreatDoor
