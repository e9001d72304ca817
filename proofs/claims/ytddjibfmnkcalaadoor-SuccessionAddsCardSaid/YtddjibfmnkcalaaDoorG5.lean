/- Laws that the proofs of this seat share, part 5. -/
import Derived.Test.YtddjibfmnkcalaaDoorG4
import Derived.RangeFuncBox
import Derived.RangeFuncLeaves
import Derived.Shelf.Abstract
import Derived.WalkKit
import Derived.OwnWalkIn
import Derived.TacticsInMore
import Derived.LoopNIn
import Derived.LoopIn
import Derived.Test.YtddjibfmnkcalaaDoorProg
namespace Go.Proofs.YtddjibfmnkcalaaDoor
open Go Go.Jog Go.RowKit Go.Shelf
attribute [local go_sem] Oper.semAt_some

set_option maxRecDepth 100000 in
set_option maxHeartbeats 2000000 in
theorem backward_in (l Bs b off len cap : Nat) (zs : Nat → Int) (hlen : len < 1000000) (J : Nat → World → Prop)
    (hJ : ∀ k W, J k W → W.cell? ⟨Bs, 0, none⟩ = some (.slice (some ⟨b, off, none⟩) len cap) ∧ ∀ j, j < len → W.cell? ⟨b, off + j, none⟩ = some (.int .i64 (zs j)))
    (hY : ∀ k W, J k W → k < len → YieldAt Fence.wide 1 Tryd.prog l #[.int .i64 ((len - 1 - k : Nat) : Int), .int .i64 (zs (len - 1 - k))] W fun e W' => e = .returned (.bool true) ∧ J (k + 1) W')
    (W : World) (h0 : J 0 W) :
    CallsIn Fence.wide 2 Tryd.prog 62 #[.func (.yield l) #[] #[], .pointer (some ⟨Bs, 0, none⟩)] W fun e W' => (∃ v, e = .returned v) ∧ J len W' := by
  refine callsIn_of_wp Tryd.func62 rfl trivial ?_ rfl
  simp only [Tryd.ntmps62, List.size_toArray, List.length_cons, List.length_nil, Nat.reduceAdd, Nat.reduceSub, Array.replicate_succ, Array.replicate_zero, List.push_toArray, List.append_toArray, List.nil_append, List.cons_append]
  have hBs := (hJ 0 W h0).1
  gi_wp2
  gi_loopw [3] (fun i wr => ∃ k : Nat, k ≤ len ∧ i = .int .i64 ((len : Int) - 1 - k) ∧ J k wr) (fun i _ => (intOf i + 1).toNat)
  case atStart => exact ⟨0, Nat.zero_le _, by simp, h0⟩
  case round =>
    obtain ⟨k, hk, rfl, hJs⟩ := hrel
    obtain ⟨hB2, hcx⟩ := hJ k wr hJs
    by_cases hlt : k < len
    · obtain ⟨fn, tmps, assign, body, hy, hR⟩ := hY k wr hJs hlt
      have hcx' := hcx (len - 1 - k) (by omega)
      have e1 : ((len - 1 - k : Nat) : Int) = (len : Int) - 1 - k := by omega
      rw [e1] at hy
      gi_wp2
      refine hR.mono ?_
      rintro e W3 ⟨rfl, hJ3⟩
      gi_wp2
      go_roundw
      case rel => exact ⟨k + 1, by omega, by congr 1; omega, hJ3⟩
      case measure => simp [intOf]; omega
    · obtain rfl : k = len := by omega
      gi_wp2
      go_end0
      exact ⟨⟨_, rfl⟩, hJs⟩

set_option maxRecDepth 100000 in
set_option maxHeartbeats 1000000 in
theorem backward_nil_in (l Bs : Nat) (A : Option Addr) (cap : Nat) (J : Nat → World → Prop) (W : World) (hBs : W.cell? ⟨Bs, 0, none⟩ = some (.slice A 0 cap)) (h0 : J 0 W) :
    CallsIn Fence.wide 2 Tryd.prog 62 #[.func (.yield l) #[] #[], .pointer (some ⟨Bs, 0, none⟩)] W fun e W' => (∃ v, e = .returned v) ∧ J 0 W' := by
  refine callsIn_of_wp Tryd.func62 rfl trivial ?_ rfl
  simp only [Tryd.ntmps62, List.size_toArray, List.length_cons, List.length_nil, Nat.reduceAdd, Nat.reduceSub, Array.replicate_succ, Array.replicate_zero, List.push_toArray, List.append_toArray, List.nil_append, List.cons_append]
  gi_wp2
  gi_loopw [3] (fun i wr => i = .int .i64 (-1) ∧ J 0 wr) (fun _ _ => 0)
  case atStart => exact ⟨rfl, h0⟩
  case round =>
    obtain ⟨rfl, hJs⟩ := hrel
    gi_wp2
    go_end0
    exact ⟨⟨_, rfl⟩, hJs⟩

/-- What slices.Backward hands on, from behind. -/
def backV (xs : List Nat) : List (Value × Value) := (List.range xs.length).map fun k => (.int .i64 ((xs.length - 1 - k : Nat) : Int), .int .i64 ((xs.getD (xs.length - 1 - k) 0 : Nat) : Int))
theorem backV_len (xs : List Nat) : (backV xs).length = xs.length := by simp [backV]
theorem backV_at {xs : List Nat} {k : Nat} (h : k < xs.length) : (backV xs)[k]? = some (.int .i64 ((xs.length - 1 - k : Nat) : Int), .int .i64 ((xs.getD (xs.length - 1 - k) 0 : Nat) : Int)) := by
  simp [backV, h]
theorem backward_iter (C : Mem) (b t : Nat) (v : Value) (xs : List Nat) (hb : C b = some (.cells ⟨[v]⟩ t (0, 0))) (hv : Sl C 1 v (xs.map fun n : Nat => [Value.int .i64 (n : Int)])) (hl : xs.length < 1000000) :
    Iter Tryd.prog 62 #[.pointer (some ⟨b, 0, none⟩)] C (backV xs) := by
  intro l J W hC hD hY h0
  obtain ⟨A, cap, rfl, hlc, _, _, hcells⟩ := hv
  rw [List.length_map] at *
  have hcell : ∀ {W : World} {k : Nat}, J k W → W.cell? ⟨b, 0, none⟩ = some (.slice A xs.length cap) := fun {W k} hj => by
    simp [World.cell?, hC k W hj b _ hb]
  rw [backV_len]
  rcases Nat.eq_zero_or_pos xs.length with h | h
  · have h1 := hcell h0
    rw [h] at h1 ⊢
    exact backward_nil_in l b A cap J W h1 h0
  · obtain ⟨ad, rfl, hsp, _⟩ := hcells 0 _ (List.getElem?_eq_getElem (by simpa using h))
    obtain ⟨ab, ao, asp⟩ := ad
    simp only at hsp
    subst hsp
    refine backward_in l b ab ao xs.length cap (fun j => ((xs.getD j 0 : Nat) : Int)) hl J (fun k W hj => ⟨hcell hj, fun j hj2 => ?_⟩) (fun k W hj hk => hY k _ W hj (backV_at hk)) W h0
    have h3 : (xs.map fun n : Nat => [Value.int .i64 (n : Int)])[j]? = some [Value.int .i64 ((xs.getD j 0 : Nat) : Int)] := by
      simp [hj2]
    obtain ⟨a2, h4, _, h5⟩ := hcells j _ h3
    cases h4
    have h6 := h5 0 _ rfl
    rw [Addr.add_lit] at h6
    obtain ⟨_, blk, t2, fz, h7, h8⟩ := h6
    simp only at h7
    simp only [World.cell?, hC k W hj ab _ h7]
    simpa using h8
end Go.Proofs.YtddjibfmnkcalaaDoor
