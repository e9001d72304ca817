/- Layer 20: Normal, Arcs, Units, Parse, Text. -/
import Derived.Test.YtjmfjobfmdhbfaaDoorK20m
namespace Go.Proofs.YtjmfjobfmdhbfaaDoor
open Go Go.Jog
set_option maxRecDepth 100000

/-! ### Normal -/
def canon (x : Rel) : Rel := if x.kind = 4 ∧ Op.bytesLess x.lower x.upper = true then ⟨x.kind, x.lower, x.upper⟩ else x
def normalL (l : List Rel) : List Rel := setL cmpR (l.map canon)

theorem bl_gtr (a b : Str) : (!(Op.bytesLess a b || a == b)) = Op.bytesLess b a := by
  by_cases e : a = b
  · subst e; rw [bl_irrefl]; simp
  · have e' : (a == b) = false := by simpa using e
    rw [e', Bool.or_false]
    rcases bl_total a b e with h | h
    · have : Op.bytesLess b a = false := by
        cases hx : Op.bytesLess b a with
        | false => rfl
        | true => have := bl_trans _ _ _ h hx; rw [bl_irrefl] at this; cases this
      rw [h, this]; rfl
    · have : Op.bytesLess a b = false := by
        cases hx : Op.bytesLess a b with
        | false => rfl
        | true => have := bl_trans _ _ _ hx h; rw [bl_irrefl] at this; cases this
      rw [h, this]; rfl

theorem sortRel_fn (C : Mem) (v : Value) (l : List Rel) (hl : l.length ≤ 1000000) : Jog.Fn cx.P 32 [v, .func (.func 33) #[] #[]] C [.arr v 33 3 l.length (l.map Rel.enc).flatten]
    fun u C' L' => ∃ l' : List Rel, u = .tuple #[] ∧ L' = [.arr v 33 3 l.length (l'.map Rel.enc).flatten] ∧ l'.Perm l ∧ l'.Pairwise (fun x y => ltOf cmpR y x = false) :=
  sortFunc_fn (P := cx.P) (T := tab) Tryd.sortRel cx.hT (te := ⟨.struct [(3, 0), (9, 1), (9, 2)], 3, 40, [.int .i64, .str, .str], true⟩) rfl rfl Rel.enc (fun _ => rfl) (fun x => rfl) cmpR tot_cmpR.swo 33 [] C (fun x y C' _ => relCompare C' x y) v 33 l (by omega) (by kernel_rfl) (by kernel_rfl)
theorem sortArc_fn (C : Mem) (v : Value) (l : List ArcE) (hl : l.length ≤ 1000000) : Jog.Fn cx.P 46 [v, .func (.func 47) #[] #[]] C [.arr v 61 2 l.length (l.map ArcE.enc).flatten]
    fun u C' L' => ∃ l' : List ArcE, u = .tuple #[] ∧ L' = [.arr v 61 2 l.length (l'.map ArcE.enc).flatten] ∧ l'.Perm l ∧ l'.Pairwise (fun x y => ltOf cmpA y x = false) :=
  sortFunc_fn (P := cx.P) (T := tab) Tryd.sortArc cx.hT (te := ⟨.struct [(9, 0), (9, 1)], 2, 32, [.str, .str], true⟩) rfl rfl ArcE.enc (fun _ => rfl) (fun x => rfl) cmpA tot_cmpA.swo 47 [] C (fun x y C' _ => arcCompare C' x y) v 61 l (by omega) (by kernel_rfl) (by kernel_rfl)

def errRes (e : Int) : Value := .tuple #[.slice none 0 0, .int .i64 e]
theorem normal_fn (C : Mem) (v : Value) (l : List Rel) (hv : Sl C 3 v (l.map Rel.enc)) (hl : l.length ≤ 1000000) (hok : ∀ x ∈ l, x.short) : Pur cx.P 12 [v] C fun r C' =>
    (errAll l ≠ 0 ∧ r = errRes (errAll l)) ∨ (errAll l = 0 ∧ ∃ u, r = .tuple #[u, .int .i64 0] ∧ Sl C' 3 u ((normalL l).map Rel.enc)) := by
  refine Fn.intro (by kernel_rfl) Tryd.func12 rfl 49 rfl rfl (fun w0 => ?_)
  refine G.region rfl (fun R hR => ?_)
  iterate 2 refine D.pure rfl rfl rfl rfl rfl rfl ?_
  refine D.done [(0, [], _)] ⟨rfl, trivial⟩ (hR _ _ _ rfl ?_); clear hR R
  refine G.region rfl (fun R hR => ?_)
  refine D.pure rfl rfl rfl rfl rfl rfl ?_
  refine D.gives2 (checkAll_spec _ l _ hv hok) rfl rfl rfl rfl rfl rfl rfl (fun _ => rfl) ?_
  refine D.pure rfl rfl rfl rfl rfl rfl ?_
  refine D.done [(0, [], _), (4, [], _)] ⟨rfl, rfl, trivial⟩ (hR _ _ _ rfl ?_); clear hR R
  refine G.region rfl (fun R hR => ?_)
  iterate 2 refine D.pure rfl rfl rfl rfl rfl rfl ?_
  refine D.done [(0, [], _), (4, [], _), (11, [], _)] ⟨rfl, rfl, rfl, trivial⟩ (hR _ _ _ rfl ?_); clear hR R
  refine G.cond rfl (fun h11 => ?_) (fun h11 => ?_)
  · skip
    simp only [bne_iff_ne, ne_eq] at h11
    refine G.region rfl (fun R hR => ?_)
    iterate 3 refine D.pure rfl rfl rfl rfl rfl rfl ?_
    refine D.done [(2, [], _), (3, [], _)] ⟨rfl, rfl, trivial⟩ (hR _ _ _ rfl ?_); clear hR R
    refine G.retN (G.dropAll (G.fin2 rfl rfl rfl ?_))
    exact ⟨rfl, .inl ⟨h11, rfl⟩⟩
  · skip
    simp only [bne_eq_false_iff_eq] at h11
    refine G.regionO [(1, 3)] rfl (fun R hR => ?_)
    refine D.pure rfl rfl rfl rfl rfl rfl ?_
    refine D.call (clone_rel _ _ l hv hl) rfl (.inl rfl) rfl rfl rfl rfl rfl rfl (List.Perm.refl _) (fun _ => rfl) (fun v14 C14 L14 hle14 hq14 => ?_)
    refine D.pure rfl rfl rfl rfl rfl rfl ?_
    refine D.done [(5, [], _)] ⟨rfl, trivial⟩ (hR _ _ _ rfl ?_); clear hR R
    subst hq14
    refine G.form (.head _) (fun hform hxl => ?_)
    obtain ⟨A, c0, hv14⟩ : ∃ A c0, v14 = .slice A l.length c0 := by
      rcases hform with ⟨h1, h2⟩ | ⟨g, c, h1, _⟩
      · exact ⟨none, 0, by rw [h1, h2]⟩
      · exact ⟨_, c, h1⟩
    subst hv14
    refine G.region rfl (fun R hR => ?_)
    iterate 3 refine D.pure rfl rfl rfl rfl rfl rfl ?_
    refine D.done [(5, [], _), (15, [], _), (16, [], _), (17, [], _)] ⟨rfl, rfl, rfl, rfl, trivial⟩ (hR _ _ _ rfl ?_); clear hR R
    refine G.loop (fun fr C' L' μ => ∃ (k : Nat), (k ≤ l.length) ∧ fr = [(5, [], .slice A l.length c0), (15, [], .slice A l.length c0), (16, [], .int .i64 l.length), (17, [], .int .i64 k)] ∧ L' = [.arr (.slice A l.length c0) 33 3 l.length (((l.take k).map canon ++ l.drop k).map Rel.enc).flatten] ∧ μ = l.length - k) (fr' := [(5, [], _), (15, [], _), (16, [], _), (17, [], _)]) ⟨rfl, rfl, rfl, rfl, trivial⟩ ⟨0, Nat.zero_le _, rfl, rfl, rfl⟩ (fun fr C0' L0' m hle0 hI => ?_)
    obtain ⟨k, hk, rfl, rfl, rfl⟩ := hI
    refine G.region rfl (fun R hR => ?_)
    refine D.pure rfl rfl rfl rfl rfl rfl ?_
    refine D.done [(5, [], _), (15, [], _), (16, [], _), (17, [], _), (18, [], _)] ⟨rfl, rfl, rfl, rfl, rfl, trivial⟩ (hR _ _ _ rfl ?_); clear hR R
    refine G.cond rfl (fun h18 => ?_) (fun h18 => ?_)
    · skip
      simp only [decide_eq_true_eq] at h18
      have hkl : k < l.length := by omega
      obtain ⟨x, hx⟩ : ∃ x, l[k]? = some x := ⟨l[k], List.getElem?_eq_getElem hkl⟩
      have hrk := map_at (f := canon) hx
      obtain ⟨g, c, hgc⟩ : ∃ g c, (Value.slice A l.length c0) = .slice (some ⟨g, 0, none⟩) l.length c := by
        rcases hform with ⟨h1, h2⟩ | ⟨g, c, h1, _⟩
        · omega
        · exact ⟨g, c, h1⟩
      obtain ⟨rfl, rfl⟩ : some (⟨g, 0, none⟩ : Addr) = A ∧ c = c0 := by cases hgc; exact ⟨rfl, rfl⟩
      have hstep := map_step (f := canon) hx
      refine G.region rfl (fun R hR => ?_)
      refine D.pure rfl rfl rfl rfl rfl rfl ?_
      refine D.indexS (k * 3) rfl rfl rfl rfl rfl rfl rfl rfl rfl rfl (fun _ => ⟨by omega, by omega, rfl⟩) rfl rfl ?_
      refine D.loadArr (.head _) rfl rfl rfl rfl rfl rfl (fun _ => (by rw [row_read rel_len hrk]; rfl)) rfl rfl ?_
      refine D.alloc rfl rfl rfl rfl rfl (fun _ => rfl) (fun b7 => ?_)
      refine D.pure rfl rfl rfl rfl rfl rfl ?_
      refine D.store (j := 0) rfl rfl rfl rfl rfl rfl rfl rfl rfl rfl rfl rfl ?_
      refine D.done [(5, [], _), (6, [], _), (7, [], _), (15, [], _), (16, [], _), (17, [], _)] ⟨rfl, rfl, rfl, rfl, rfl, rfl, trivial⟩ (hR _ _ _ rfl ?_); clear hR R
      refine G.region rfl (fun R hR => ?_)
      refine D.pure rfl rfl rfl rfl rfl rfl ?_
      refine D.loadL (.head _) rfl rfl rfl rfl rfl rfl rfl rfl rfl ?_
      iterate 3 refine D.pure rfl rfl rfl rfl rfl rfl ?_
      refine D.loadL (.head _) rfl rfl rfl rfl rfl rfl rfl rfl rfl ?_
      refine D.pure rfl rfl rfl rfl rfl rfl ?_
      refine D.loadL (.head _) rfl rfl rfl rfl rfl rfl rfl rfl rfl ?_
      refine D.pure rfl rfl rfl rfl rfl rfl ?_
      refine D.pickAnd rfl rfl rfl rfl rfl rfl rfl rfl ?_
      refine D.done [(5, [], _), (6, [], _), (7, [], _), (15, [], _), (16, [], _), (17, [], _), (31, [], (.bool ((x.kind == 4) && (!(Op.bytesLess x.upper x.lower || x.upper == x.lower)))))] ⟨rfl, rfl, rfl, rfl, rfl, rfl, rfl, trivial⟩ (hR _ _ _ rfl ?_); clear hR R
      refine G.cond rfl (fun h31 => ?_) (fun h31 => ?_)
      · skip
        simp only [bl_gtr, Bool.and_eq_true, beq_iff_eq] at h31
        have hc : canon x = ⟨x.kind, x.lower, x.upper⟩ := by rw [canon, if_pos h31]
        have hw1 : storeInto (((l.take k).map canon ++ l.drop k).map Rel.enc).flatten [strV x.lower] (k * 3 + 1) = ((((l.take k).map canon ++ l.drop k).set k ⟨x.kind, x.lower, x.lower⟩).map Rel.enc).flatten := row_part rel_len hrk rfl (by simp)
        have hw2 : storeInto ((((l.take k).map canon ++ l.drop k).set k ⟨x.kind, x.lower, x.lower⟩).map Rel.enc).flatten [strV x.upper] (k * 3 + 2) = (((((l.take k).map canon ++ l.drop k).set k ⟨x.kind, x.lower, x.lower⟩).set k (canon x)).map Rel.enc).flatten :=
          row_part rel_len (x := ⟨x.kind, x.lower, x.lower⟩) (by rw [List.getElem?_set_self (by rw [map_len]; exact hkl)]) (by rw [hc]; rfl) (by simp)
        have hlen := map_len (f := canon) l k
        have hfit : k * 3 + 3 ≤ (((l.take k).map canon ++ l.drop k).map Rel.enc).flatten.length := by
          rw [rows_len rel_len, hlen]; omega
        refine G.freeze 0 rfl (fun Cz hlez hbz => ?_)
        refine G.draw [0, 1, 2, 3, 4, 5, 6, 7, 8, 9, 10, 11, 12, 13] [(5, 0), (7, 0)] rfl (by kernel_rfl) (fun R hB hR => ?_)
        iterate 5 refine D.pure rfl rfl rfl rfl rfl rfl ?_
        refine D.loadB (fun _ => ((PtrTo.block hbz 2).mono hB)) rfl rfl rfl rfl rfl rfl rfl rfl rfl ?_
        refine D.pure rfl rfl rfl rfl rfl rfl ?_
        refine D.loadB (fun _ => ((PtrTo.block hbz 1).mono hB)) rfl rfl rfl rfl rfl rfl rfl rfl rfl ?_
        refine D.indexS (k * 3) rfl rfl rfl rfl rfl rfl rfl rfl rfl rfl (fun _ => ⟨by omega, by omega, rfl⟩) rfl rfl ?_
        refine D.pure rfl rfl rfl rfl rfl rfl ?_
        refine D.storeArr (j := 0) rfl rfl rfl rfl rfl rfl rfl rfl rfl rfl rfl (by simp only [List.length_singleton]; exact Nat.le_trans (by omega) hfit) ?_
        refine D.indexS (k * 3) rfl rfl rfl rfl rfl rfl rfl rfl rfl rfl (fun _ => ⟨by omega, by omega, rfl⟩) rfl rfl ?_
        refine D.pure rfl rfl rfl rfl rfl rfl ?_
        refine D.storeArr (j := 0) rfl rfl rfl rfl rfl rfl rfl rfl rfl rfl rfl (by rw [storeInto_length (by simp only [List.length_singleton]; exact Nat.le_trans (by omega) hfit)]; exact hfit) ?_
        refine D.done [(5, [], _), (15, [], _), (16, [], _), (17, [], _)] ⟨rfl, rfl, rfl, rfl, trivial⟩ (hR _ _ _ rfl ?_); clear hR hB R
        refine G.region rfl (fun R hR => ?_)
        refine D.i64 (((k + 1 : Nat) : Int)) rfl rfl rfl rfl (by omega) (by omega) (by omega) rfl rfl ?_
        refine D.pure rfl rfl rfl rfl rfl rfl ?_
        refine D.done [(5, [], _), (15, [], _), (16, [], _), (17, [], _)] ⟨rfl, rfl, rfl, rfl, trivial⟩ (hR _ _ _ rfl ?_); clear hR R
        refine G.eqL (L' := [.arr (.slice (some ⟨g, 0, none⟩) l.length c) 33 3 l.length (((l.take (k + 1)).map canon ++ l.drop (k + 1)).map Rel.enc).flatten]) (by
          rw [← hstep]
          refine congrArg (fun q => [Ent.arr (.slice (some ⟨g, 0, none⟩) l.length c) 33 3 l.length q]) ?_
          refine Eq.trans (congrArg (fun q => storeInto q [strV x.upper] (k * 3 + 2)) hw1) (Eq.trans hw2 ?_)
          rw [List.set_set]) ?_
        refine G.again (m' := l.length - (k + 1)) (by omega) (hle0.trans hlez) (fr' := [(5, [], _), (15, [], _), (16, [], _), (17, [], _)]) ⟨rfl, rfl, rfl, rfl, trivial⟩ ⟨k + 1, by omega, rfl, rfl, rfl⟩
      · skip
        simp only [bl_gtr] at h31
        have hc : canon x = x := by
          rw [canon, if_neg]
          rintro ⟨h1, h2⟩
          rw [h1, h2] at h31
          cases h31
        refine G.region rfl (fun R hR => ?_)
        refine D.i64 (((k + 1 : Nat) : Int)) rfl rfl rfl rfl (by omega) (by omega) (by omega) rfl rfl ?_
        refine D.pure rfl rfl rfl rfl rfl rfl ?_
        refine D.done [(5, [], _), (15, [], _), (16, [], _), (17, [], _)] ⟨rfl, rfl, rfl, rfl, trivial⟩ (hR _ _ _ rfl ?_); clear hR R
        refine G.dropE 0 rfl ?_
        refine G.eqL (L' := [.arr (.slice (some ⟨g, 0, none⟩) l.length c) 33 3 l.length (((l.take (k + 1)).map canon ++ l.drop (k + 1)).map Rel.enc).flatten]) (by
          rw [← hstep, hc]
          have e : ((l.take k).map canon ++ l.drop k).set k x = (l.take k).map canon ++ l.drop k := by
            apply List.ext_getElem?
            intro j
            rw [List.getElem?_set]
            split
            · rename_i e; subst e; rw [if_pos (by rw [map_len]; exact hkl), hrk]
            · rfl
          rw [e]; rfl) ?_
        refine G.again (m' := l.length - (k + 1)) (by omega) hle0 (fr' := [(5, [], _), (15, [], _), (16, [], _), (17, [], _)]) ⟨rfl, rfl, rfl, rfl, trivial⟩ ⟨k + 1, by omega, rfl, rfl, rfl⟩
    · skip
      simp only [decide_eq_false_iff_not] at h18
      have hkl : k = l.length := by omega
      subst hkl
      refine G.eqL (L' := [.arr (.slice A l.length c0) 33 3 (l.map canon).length ((l.map canon).map Rel.enc).flatten]) (by simp) ?_
      refine G.regionO [(1, 3)] rfl (fun R hR => ?_)
      refine D.pure rfl rfl rfl rfl rfl rfl ?_
      refine D.call (sortRel_fn _ _ (l.map canon) (by simpa using hl)) rfl (.inr (by decide)) rfl rfl rfl rfl rfl rfl (List.Perm.refl _) (fun _ => rfl) (fun v46 C46 L46 hle46 hq46 => ?_)
      refine D.done [(5, [], _)] ⟨rfl, trivial⟩ (hR _ _ _ rfl ?_); clear hR R
      obtain ⟨l', rfl, rfl, hperm, hsorted⟩ := hq46
      have hl'len := hperm.length_eq
      refine G.eqL (L' := [.arr (.slice A l.length c0) 33 3 l'.length (l'.map Rel.enc).flatten]) (by rw [hl'len]; rfl) ?_
      refine G.regionO [(1, 3)] rfl (fun R hR => ?_)
      refine D.pure rfl rfl rfl rfl rfl rfl ?_
      refine D.call (compact_rel _ _ l' (by rw [hl'len]; simpa using hl)) rfl (.inr (by decide)) rfl rfl rfl rfl rfl rfl (List.Perm.refl _) (fun _ => rfl) (fun v48 C48 L48 hle48 hq48 => ?_)
      obtain ⟨rfl, hcs⟩ := hq48
      iterate 2 refine D.pure rfl rfl rfl rfl rfl rfl ?_
      refine D.done [(2, [], _), (3, [], _)] ⟨rfl, rfl, trivial⟩ (hR _ _ _ rfl ?_); clear hR R
      refine G.retN (G.dropAll (G.fin2 rfl rfl rfl ?_))
      refine ⟨rfl, .inr ⟨h11, _, rfl, ?_⟩⟩
      rw [normalL, ← tot_cmpR.compact_eq hperm hsorted]
      exact hcs
end Go.Proofs.YtjmfjobfmdhbfaaDoor
