/-
  Layer 20: the document's lists and bytes.
-/
import Derived.Test.YtgihkocnmgkihaaRef3
namespace Go.Proofs.Ytgihkocnmgkihaa
open Go.HL
set_option linter.unusedSimpArgs false
set_option linter.unusedVariables false
set_option maxRecDepth 8000
set_option maxHeartbeats 8000000 in
theorem ref_list (b : Nat) (E : Go.TypeId) (rest : List Go.Value) (ks vs ns : Go.Value) (n : Nat) (l : PM) (d : TDeed) (hi : RI n l) (hn : n ≤ 10000) (hk : d.Kind = 5) :
    Ct Try.prog 19 [Ptr b 0, A d.c] (rfE b E rest ks vs ns (canon l)) (fun r σ' => ∃ v, r = A (Caucusref20Reply.c ⟨0, [], 0, v⟩) ∧ σ' = rfE b E rest ks vs ns (canon l) ++ [rows strc v 9 1 (listL d.Key l)]) := by
  have hl := hi.len
  have hcl := canon_len l
  rw [listL_canon hi]
  have hB (k : List UInt8) := ref_about d k
  simp only [about, if_pos hk] at hB
  unfold rfE
  dsimp only [List.cons_append, List.nil_append]
  refine Ct.enter Try.func19 rfl rfl fun W => ?_
  refine Wp.fact (rowsRd (f := strc) (v := ks) (l := (canon l).map (·.Key)) (E := 9) (sz := 1) (fun _ => rfl) (by repeat first | exact List.Mem.head _ | apply List.Mem.tail)) fun hvv => ?_
  obtain ⟨ao1, cap1, bk1, off1, rfl, hR1⟩ := hvv
  refine Wp.fact (rowsRd (f := strc) (v := vs) (l := (canon l).map (·.Value)) (E := 9) (sz := 1) (fun _ => rfl) (by repeat first | exact List.Mem.head _ | apply List.Mem.tail)) fun hvv => ?_
  obtain ⟨ao2, cap2, bk2, off2, rfl, hR2⟩ := hvv
  refine Wp.fact (rowsRd (f := i64c) (v := ns) (l := (canon l).map (·.Version)) (E := 3) (sz := 1) (fun _ => rfl) (by repeat first | exact List.Mem.head _ | apply List.Mem.tail)) fun hvv => ?_
  obtain ⟨ao3, cap3, bk3, off3, rfl, hR3⟩ := hvv
  have hl1 : ((canon l).map (·.Key)).length = (canon l).length := List.length_map ..
  have hl2 : ((canon l).map (·.Value)).length = (canon l).length := List.length_map ..
  have hl3 : ((canon l).map (·.Version)).length = (canon l).length := List.length_map ..
  refine Wp.nilRows strc 9 1 ?_
  cases hg : mget l d.Key with
  | none =>
    have hA := ref_at_no b E rest (.slice ao1 ((canon l).map (·.Key)).length cap1) (.slice ao2 ((canon l).map (·.Value)).length cap2) (.slice ao3 ((canon l).map (·.Version)).length cap3) (canon l) d.Key (canon_none hi hg)
    unfold rfE at hA
    apply Wp.seq
    apply Wp.region
    refine WpL.o (O.bxA (fun p3 => ?_))
    refine WpL.o (O.al tb (fun p4 => ?_))
    apply WpL.nil
    apply Out.seqN
    apply Wp.seq
    apply Wp.seq
    apply Wp.region
    refine WpL.v (V.fa tb) ?_
    refine WpL.v (V.ld1 tb) ?_
    refine WpL.v (V.cmp) ?_
    refine WpL.v (V.mv) ?_
    refine WpL.pt (fun h0 => ?_) (fun h0 => ?_)
    (try simp only [decide_eq_true_eq, decide_eq_false_iff_not, Bool.not_eq_true', Bool.not_eq_false', Bool.not_eq_true, Bool.not_eq_false, not_true_eq_false, not_false_eq_true, reduceCtorEq] at h0)
    (exfalso; omega)
    (try simp only [decide_eq_true_eq, decide_eq_false_iff_not, Bool.not_eq_true', Bool.not_eq_false', Bool.not_eq_true, Bool.not_eq_false, not_true_eq_false, not_false_eq_true, reduceCtorEq] at h0)
    refine WpL.v (V.fa tb) ?_
    refine WpL.v (V.ld1 tb) ?_
    refine WpL.v (V.cmp) ?_
    refine WpL.v (V.pF) ?_
    apply WpL.nil
    apply Out.seqN
    refine Wp.c (fun h1 => ?_) (fun h1 => ?_)
    (try simp only [decide_eq_true_eq, decide_eq_false_iff_not, Bool.not_eq_true', Bool.not_eq_false', Bool.not_eq_true, Bool.not_eq_false, not_true_eq_false, not_false_eq_true, reduceCtorEq] at h1)
    (exfalso; omega)
    (try simp only [decide_eq_true_eq, decide_eq_false_iff_not, Bool.not_eq_true', Bool.not_eq_false', Bool.not_eq_true, Bool.not_eq_false, not_true_eq_false, not_false_eq_true, reduceCtorEq] at h1)
    apply Wp.skip
    apply Out.seqN
    apply Wp.seq
    apply Wp.region
    refine WpL.v (V.mv) ?_
    refine WpL.v (V.fa tb) ?_
    refine WpL.v (V.ld1 tb) ?_
    refine WpL.o (Op1.callT rfl (hA) (by (repeat (first | exact Sel.nil | exact Rem.here | apply Sel.cons | apply Rem.there))) ?_)
    rintro v2 s3 ⟨rfl, rfl⟩
    refine incat ?_
    refine WpL.v (V.as) ?_
    apply WpL.nil
    apply Out.seqN
    apply Wp.seq
    apply Wp.region
    refine WpL.v (V.as) ?_
    apply WpL.nil
    apply Out.seqN
    apply Wp.seq
    apply Wp.region
    refine WpL.v (V.as) ?_
    apply WpL.nil
    apply Out.seqN
    apply Wp.seq
    apply Wp.seq
    apply Wp.region
    refine WpL.v (V.mv) ?_
    refine WpL.v (V.cmp) ?_
    apply WpL.nil
    apply Out.seqN
    refine Wp.cF ?_
    apply Wp.skip
    apply Out.seqN
    apply Wp.seq
    apply Wp.seq
    apply Wp.region
    refine WpL.v (V.fa tb) ?_
    refine WpL.v (V.ld1 tb) ?_
    apply WpL.nil
    apply Out.seqN
    apply Wp.block
    apply Wp.seq
    apply Wp.region
    refine WpL.v (V.cmp) ?_
    refine WpL.v (V.as) ?_
    apply WpL.nil
    apply Out.seqN
    refine Wp.c (fun h4 => ?_) (fun h4 => ?_)
    (try simp only [decide_eq_true_eq, decide_eq_false_iff_not, Bool.not_eq_true', Bool.not_eq_false', Bool.not_eq_true, Bool.not_eq_false, not_true_eq_false, not_false_eq_true, reduceCtorEq] at h4)
    (exfalso; omega)
    (try simp only [decide_eq_true_eq, decide_eq_false_iff_not, Bool.not_eq_true', Bool.not_eq_false', Bool.not_eq_true, Bool.not_eq_false, not_true_eq_false, not_false_eq_true, reduceCtorEq] at h4)
    apply Wp.seq
    apply Wp.seq
    apply Wp.region
    refine WpL.v (V.cmp) ?_
    refine WpL.v (V.as) ?_
    apply WpL.nil
    apply Out.seqN
    refine Wp.c (fun h5 => ?_) (fun h5 => ?_)
    (try simp only [decide_eq_true_eq, decide_eq_false_iff_not, Bool.not_eq_true', Bool.not_eq_false', Bool.not_eq_true, Bool.not_eq_false, not_true_eq_false, not_false_eq_true, reduceCtorEq] at h5)
    (exfalso; omega)
    (try simp only [decide_eq_true_eq, decide_eq_false_iff_not, Bool.not_eq_true', Bool.not_eq_false', Bool.not_eq_true, Bool.not_eq_false, not_true_eq_false, not_false_eq_true, reduceCtorEq] at h5)
    apply Wp.region
    refine WpL.v (V.cmp) ?_
    refine WpL.v (V.as) ?_
    apply WpL.nil
    apply Out.seqN
    refine Wp.c (fun h6 => ?_) (fun h6 => ?_)
    (try simp only [decide_eq_true_eq, decide_eq_false_iff_not, Bool.not_eq_true', Bool.not_eq_false', Bool.not_eq_true, Bool.not_eq_false, not_true_eq_false, not_false_eq_true, reduceCtorEq] at h6)
    (exfalso; omega)
    (try simp only [decide_eq_true_eq, decide_eq_false_iff_not, Bool.not_eq_true', Bool.not_eq_false', Bool.not_eq_true, Bool.not_eq_false, not_true_eq_false, not_false_eq_true, reduceCtorEq] at h6)
    apply Wp.seq
    apply Wp.region
    refine WpL.v (V.cmp) ?_
    refine WpL.v (V.as) ?_
    apply WpL.nil
    apply Out.seqN
    refine Wp.c (fun h7 => ?_) (fun h7 => ?_)
    (try simp only [decide_eq_true_eq, decide_eq_false_iff_not, Bool.not_eq_true', Bool.not_eq_false', Bool.not_eq_true, Bool.not_eq_false, not_true_eq_false, not_false_eq_true, reduceCtorEq] at h7)
    apply Wp.seq
    apply Wp.region
    refine WpL.v (V.as) ?_
    apply WpL.nil
    apply Out.seqN
    apply Wp.seq
    apply Wp.seq
    apply Wp.region
    refine WpL.v (V.mv) ?_
    refine WpL.v (V.nc) ?_
    refine WpL.v (V.fa tb) ?_
    refine WpL.v (V.ld1 tb) ?_
    refine WpL.v (V.lenL tb) ?_
    refine WpL.v (V.mv) ?_
    apply WpL.nil
    apply Out.seqN
    apply Wp.block
    rotate_left
    (try simp only [decide_eq_true_eq, decide_eq_false_iff_not, Bool.not_eq_true', Bool.not_eq_false', Bool.not_eq_true, Bool.not_eq_false, not_true_eq_false, not_false_eq_true, reduceCtorEq] at h7)
    (exfalso; omega)
    refine Wp.lp [76, 75, 3, 0, 4] (fun y : Nat × Go.Value × List (List UInt8) => y.1 ≤ (canon l).length ∧ y.2.2 = (((canon l).map (·.Key)).take y.1).filter (pfx d.Key)) (fun y => [(77, I (y.1 : Int)), (8, y.2.1)]) (fun y => [rows strc y.2.1 9 1 y.2.2]) (fun y => (canon l).length - y.1) (0, .slice none 0 0, []) ⟨Nat.zero_le _, rfl⟩ ?_
    rintro ⟨k, v1, l1⟩ ⟨hk1, he1⟩ K hK
    dsimp only at hk1 he1
    dsimp only [List.cons_append, List.nil_append]
    have hfl := filter_len_take ((canon l).map (·.Key)) k (pfx d.Key)
    rw [← he1] at hfl
    by_cases hlt : k < (canon l).length
    · obtain ⟨x, hx⟩ := getS (show k < ((canon l).map (·.Key)).length by omega)
      have hBx := hB x
      have hfs := filter_snoc hx (pfx d.Key)
      rw [← he1] at hfs
      cases hp : pfx d.Key x with
      | true =>
        rw [hp] at hBx hfs
        simp only [if_true] at hfs
        apply Wp.seq
        apply Wp.region
        refine WpL.v (V.cmp) ?_
        apply WpL.nil
        apply Out.seqN
        apply Wp.seq
        refine Wp.c (fun h0 => ?_) (fun h0 => ?_)
        (try simp only [decide_eq_true_eq, decide_eq_false_iff_not, Bool.not_eq_true', Bool.not_eq_false', Bool.not_eq_true, Bool.not_eq_false, not_true_eq_false, not_false_eq_true, reduceCtorEq] at h0)
        apply Wp.skip
        apply Out.seqN
        apply Wp.seq
        apply Wp.block
        apply Wp.seq
        apply Wp.region
        refine WpL.v (V.ixR tb rfl rfl (by assumption)) ?_
        refine WpL.v (V.ldR1 tb rfl hR1 (getMapS hx)) ?_
        refine WpL.v (V.as) ?_
        apply WpL.nil
        apply Out.seqN
        apply Wp.seq
        apply Wp.region
        refine WpL.v (V.ldA tb) ?_
        refine WpL.v (V.mv) ?_
        refine WpL.o (Op1.fn rfl (hBx) ?_)
        apply WpL.nil
        apply Out.seqN
        refine Wp.cT ?_
        apply Wp.region
        refine WpL.v (V.mv) ?_
        refine WpL.v (V.mv) ?_
        refine WpL.o (O.lit tb (fun p86 => ?_))
        refine WpL.o (O.apL tb rfl rfl (by (intro _; repeat first | exact Upd.here _ _ _ | apply Upd.there)) (SrcL.one (f := strc) (a := x) tb (by (repeat first | exact List.Mem.head _ | apply List.Mem.tail)) (fun _ => rfl)) (fun g87 cap87 => ?_))
        refine WpL.v (V.as) ?_
        apply WpL.nil
        apply Out.blockN
        apply Out.seqN
        apply Wp.region
        refine WpL.v (V.add) ?_
        refine WpL.v (V.mv) ?_
        apply WpL.nil
        rotate_left
        (try simp only [decide_eq_true_eq, decide_eq_false_iff_not, Bool.not_eq_true', Bool.not_eq_false', Bool.not_eq_true, Bool.not_eq_false, not_true_eq_false, not_false_eq_true, reduceCtorEq] at h0)
        (exfalso; omega)
        exact Out.ag hK (k + 1, _, l1 ++ [x]) ⟨by show k + 1 ≤ _; omega, hfs.symm⟩ (by show (canon l).length - (k + 1) < (canon l).length - k; omega)
      | false =>
        rw [hp] at hBx hfs
        simp only [Bool.false_eq_true, if_false, List.append_nil] at hfs
        apply Wp.seq
        apply Wp.region
        refine WpL.v (V.cmp) ?_
        apply WpL.nil
        apply Out.seqN
        apply Wp.seq
        refine Wp.c (fun h0 => ?_) (fun h0 => ?_)
        (try simp only [decide_eq_true_eq, decide_eq_false_iff_not, Bool.not_eq_true', Bool.not_eq_false', Bool.not_eq_true, Bool.not_eq_false, not_true_eq_false, not_false_eq_true, reduceCtorEq] at h0)
        apply Wp.skip
        apply Out.seqN
        apply Wp.seq
        apply Wp.block
        apply Wp.seq
        apply Wp.region
        refine WpL.v (V.ixR tb rfl rfl (by assumption)) ?_
        refine WpL.v (V.ldR1 tb rfl hR1 (getMapS hx)) ?_
        refine WpL.v (V.as) ?_
        apply WpL.nil
        apply Out.seqN
        apply Wp.seq
        apply Wp.region
        refine WpL.v (V.ldA tb) ?_
        refine WpL.v (V.mv) ?_
        refine WpL.o (Op1.fn rfl (hBx) ?_)
        apply WpL.nil
        apply Out.seqN
        refine Wp.cF ?_
        apply Wp.skip
        apply Out.blockN
        apply Out.seqN
        apply Wp.region
        refine WpL.v (V.add) ?_
        refine WpL.v (V.mv) ?_
        apply WpL.nil
        rotate_left
        (try simp only [decide_eq_true_eq, decide_eq_false_iff_not, Bool.not_eq_true', Bool.not_eq_false', Bool.not_eq_true, Bool.not_eq_false, not_true_eq_false, not_false_eq_true, reduceCtorEq] at h0)
        (exfalso; omega)
        exact Out.ag hK (k + 1, v1, l1) ⟨by show k + 1 ≤ _; omega, hfs.symm⟩ (by show (canon l).length - (k + 1) < (canon l).length - k; omega)
    · obtain rfl : k = (canon l).length := by omega
      rw [List.take_of_length_le (by omega)] at he1
      subst he1
      clear hK
      refine Wp.fact (rowsRd (f := strc) (v := v1) (E := 9) (sz := 1) (fun _ => rfl) (List.Mem.head _)) fun hvv => ?_
      obtain ⟨_, _, _, _, rfl, _⟩ := hvv
      apply Wp.seq
      apply Wp.region
      refine WpL.v (V.cmp) ?_
      apply WpL.nil
      apply Out.seqN
      apply Wp.seq
      refine Wp.c (fun h0 => ?_) (fun h0 => ?_)
      (try simp only [decide_eq_true_eq, decide_eq_false_iff_not, Bool.not_eq_true', Bool.not_eq_false', Bool.not_eq_true, Bool.not_eq_false, not_true_eq_false, not_false_eq_true, reduceCtorEq] at h0)
      (exfalso; omega)
      (try simp only [decide_eq_true_eq, decide_eq_false_iff_not, Bool.not_eq_true', Bool.not_eq_false', Bool.not_eq_true, Bool.not_eq_false, not_true_eq_false, not_false_eq_true, reduceCtorEq] at h0)
      apply Wp.exit
      apply Out.seqE
      apply Out.seqE
      apply Out.blockE
      apply Out.seqN
      apply Wp.seq
      apply Wp.region
      refine WpL.v (V.mv) ?_
      refine WpL.v (V.bld tb) ?_
      refine WpL.o (O.stA tb ?_)
      apply WpL.nil
      apply Out.seqN
      apply Wp.ret
      apply Out.blockR
      apply Out.seqR
      refine Out.e1 rfl (ResIs.ca tb) ?_
      exact ⟨_, _, ⟨_, rfl, rfl⟩, (by (repeat (first | exact Sel.nil | exact Rem.here | apply Sel.cons | apply Rem.there)))⟩
  | some p =>
    obtain ⟨j, hj, hjk, hjb⟩ := canon_find hi hg
    have hA := ref_at_yes b E rest (.slice ao1 ((canon l).map (·.Key)).length cap1) (.slice ao2 ((canon l).map (·.Value)).length cap2) (.slice ao3 ((canon l).map (·.Version)).length cap3) (canon l) d.Key j p hj hjk hjb
    have hjl := (List.getElem?_eq_some_iff.1 hj).1
    have hq2 : ((canon l).map (·.Value))[j]? = some p.Value := by rw [List.getElem?_map, hj]; rfl
    have hq3 : ((canon l).map (·.Version))[j]? = some p.Version := by rw [List.getElem?_map, hj]; rfl
    unfold rfE at hA
    apply Wp.seq
    apply Wp.region
    refine WpL.o (O.bxA (fun p3 => ?_))
    refine WpL.o (O.al tb (fun p4 => ?_))
    apply WpL.nil
    apply Out.seqN
    apply Wp.seq
    apply Wp.seq
    apply Wp.region
    refine WpL.v (V.fa tb) ?_
    refine WpL.v (V.ld1 tb) ?_
    refine WpL.v (V.cmp) ?_
    refine WpL.v (V.mv) ?_
    refine WpL.pt (fun h0 => ?_) (fun h0 => ?_)
    (try simp only [decide_eq_true_eq, decide_eq_false_iff_not, Bool.not_eq_true', Bool.not_eq_false', Bool.not_eq_true, Bool.not_eq_false, not_true_eq_false, not_false_eq_true, reduceCtorEq] at h0)
    (exfalso; omega)
    (try simp only [decide_eq_true_eq, decide_eq_false_iff_not, Bool.not_eq_true', Bool.not_eq_false', Bool.not_eq_true, Bool.not_eq_false, not_true_eq_false, not_false_eq_true, reduceCtorEq] at h0)
    refine WpL.v (V.fa tb) ?_
    refine WpL.v (V.ld1 tb) ?_
    refine WpL.v (V.cmp) ?_
    refine WpL.v (V.pF) ?_
    apply WpL.nil
    apply Out.seqN
    refine Wp.c (fun h1 => ?_) (fun h1 => ?_)
    (try simp only [decide_eq_true_eq, decide_eq_false_iff_not, Bool.not_eq_true', Bool.not_eq_false', Bool.not_eq_true, Bool.not_eq_false, not_true_eq_false, not_false_eq_true, reduceCtorEq] at h1)
    (exfalso; omega)
    (try simp only [decide_eq_true_eq, decide_eq_false_iff_not, Bool.not_eq_true', Bool.not_eq_false', Bool.not_eq_true, Bool.not_eq_false, not_true_eq_false, not_false_eq_true, reduceCtorEq] at h1)
    apply Wp.skip
    apply Out.seqN
    apply Wp.seq
    apply Wp.region
    refine WpL.v (V.mv) ?_
    refine WpL.v (V.fa tb) ?_
    refine WpL.v (V.ld1 tb) ?_
    refine WpL.o (Op1.callT rfl (hA) (by (repeat (first | exact Sel.nil | exact Rem.here | apply Sel.cons | apply Rem.there))) ?_)
    rintro v2 s3 ⟨rfl, rfl⟩
    refine incat ?_
    refine WpL.v (V.as) ?_
    apply WpL.nil
    apply Out.seqN
    apply Wp.seq
    apply Wp.region
    refine WpL.v (V.as) ?_
    apply WpL.nil
    apply Out.seqN
    apply Wp.seq
    apply Wp.region
    refine WpL.v (V.as) ?_
    apply WpL.nil
    apply Out.seqN
    apply Wp.seq
    apply Wp.seq
    apply Wp.region
    refine WpL.v (V.mv) ?_
    refine WpL.v (V.cmp) ?_
    apply WpL.nil
    apply Out.seqN
    refine Wp.c (fun h4 => ?_) (fun h4 => ?_)
    (try simp only [decide_eq_true_eq, decide_eq_false_iff_not, Bool.not_eq_true', Bool.not_eq_false', Bool.not_eq_true, Bool.not_eq_false, not_true_eq_false, not_false_eq_true, reduceCtorEq] at h4)
    apply Wp.seq
    apply Wp.region
    refine WpL.v (V.mv) ?_
    refine WpL.v (V.nc) ?_
    refine WpL.v (V.fa tb) ?_
    refine WpL.v (V.ld1 tb) ?_
    refine WpL.v (V.mv) ?_
    refine WpL.v (V.ixR tb rfl rfl (by assumption)) ?_
    refine WpL.v (V.ldR1 tb rfl hR3 (getMapS hq3)) ?_
    refine WpL.v (V.as) ?_
    apply WpL.nil
    apply Out.seqN
    apply Wp.region
    refine WpL.v (V.mv) ?_
    refine WpL.v (V.nc) ?_
    refine WpL.v (V.fa tb) ?_
    refine WpL.v (V.ld1 tb) ?_
    refine WpL.v (V.mv) ?_
    refine WpL.v (V.ixR tb rfl rfl (by assumption)) ?_
    refine WpL.v (V.ldR1 tb rfl hR2 (getMapS hq2)) ?_
    refine WpL.v (V.as) ?_
    apply WpL.nil
    apply Out.seqN
    apply Wp.seq
    apply Wp.seq
    apply Wp.region
    refine WpL.v (V.fa tb) ?_
    refine WpL.v (V.ld1 tb) ?_
    apply WpL.nil
    apply Out.seqN
    apply Wp.block
    apply Wp.seq
    apply Wp.region
    refine WpL.v (V.cmp) ?_
    refine WpL.v (V.as) ?_
    apply WpL.nil
    apply Out.seqN
    refine Wp.c (fun h5 => ?_) (fun h5 => ?_)
    (try simp only [decide_eq_true_eq, decide_eq_false_iff_not, Bool.not_eq_true', Bool.not_eq_false', Bool.not_eq_true, Bool.not_eq_false, not_true_eq_false, not_false_eq_true, reduceCtorEq] at h5)
    (exfalso; omega)
    (try simp only [decide_eq_true_eq, decide_eq_false_iff_not, Bool.not_eq_true', Bool.not_eq_false', Bool.not_eq_true, Bool.not_eq_false, not_true_eq_false, not_false_eq_true, reduceCtorEq] at h5)
    apply Wp.seq
    apply Wp.seq
    apply Wp.region
    refine WpL.v (V.cmp) ?_
    refine WpL.v (V.as) ?_
    apply WpL.nil
    apply Out.seqN
    refine Wp.c (fun h6 => ?_) (fun h6 => ?_)
    (try simp only [decide_eq_true_eq, decide_eq_false_iff_not, Bool.not_eq_true', Bool.not_eq_false', Bool.not_eq_true, Bool.not_eq_false, not_true_eq_false, not_false_eq_true, reduceCtorEq] at h6)
    (exfalso; omega)
    (try simp only [decide_eq_true_eq, decide_eq_false_iff_not, Bool.not_eq_true', Bool.not_eq_false', Bool.not_eq_true, Bool.not_eq_false, not_true_eq_false, not_false_eq_true, reduceCtorEq] at h6)
    apply Wp.region
    refine WpL.v (V.cmp) ?_
    refine WpL.v (V.as) ?_
    apply WpL.nil
    apply Out.seqN
    refine Wp.c (fun h7 => ?_) (fun h7 => ?_)
    (try simp only [decide_eq_true_eq, decide_eq_false_iff_not, Bool.not_eq_true', Bool.not_eq_false', Bool.not_eq_true, Bool.not_eq_false, not_true_eq_false, not_false_eq_true, reduceCtorEq] at h7)
    (exfalso; omega)
    (try simp only [decide_eq_true_eq, decide_eq_false_iff_not, Bool.not_eq_true', Bool.not_eq_false', Bool.not_eq_true, Bool.not_eq_false, not_true_eq_false, not_false_eq_true, reduceCtorEq] at h7)
    apply Wp.seq
    apply Wp.region
    refine WpL.v (V.cmp) ?_
    refine WpL.v (V.as) ?_
    apply WpL.nil
    apply Out.seqN
    refine Wp.c (fun h8 => ?_) (fun h8 => ?_)
    (try simp only [decide_eq_true_eq, decide_eq_false_iff_not, Bool.not_eq_true', Bool.not_eq_false', Bool.not_eq_true, Bool.not_eq_false, not_true_eq_false, not_false_eq_true, reduceCtorEq] at h8)
    apply Wp.seq
    apply Wp.region
    refine WpL.v (V.as) ?_
    apply WpL.nil
    apply Out.seqN
    apply Wp.seq
    apply Wp.seq
    apply Wp.region
    refine WpL.v (V.mv) ?_
    refine WpL.v (V.nc) ?_
    refine WpL.v (V.fa tb) ?_
    refine WpL.v (V.ld1 tb) ?_
    refine WpL.v (V.lenL tb) ?_
    refine WpL.v (V.mv) ?_
    apply WpL.nil
    apply Out.seqN
    apply Wp.block
    rotate_left
    (try simp only [decide_eq_true_eq, decide_eq_false_iff_not, Bool.not_eq_true', Bool.not_eq_false', Bool.not_eq_true, Bool.not_eq_false, not_true_eq_false, not_false_eq_true, reduceCtorEq] at h8)
    (exfalso; omega)
    (try simp only [decide_eq_true_eq, decide_eq_false_iff_not, Bool.not_eq_true', Bool.not_eq_false', Bool.not_eq_true, Bool.not_eq_false, not_true_eq_false, not_false_eq_true, reduceCtorEq] at h4)
    (exfalso; omega)
    refine Wp.lp [76, 75, 3, 0, 4] (fun y : Nat × Go.Value × List (List UInt8) => y.1 ≤ (canon l).length ∧ y.2.2 = (((canon l).map (·.Key)).take y.1).filter (pfx d.Key)) (fun y => [(77, I (y.1 : Int)), (8, y.2.1)]) (fun y => [rows strc y.2.1 9 1 y.2.2]) (fun y => (canon l).length - y.1) (0, .slice none 0 0, []) ⟨Nat.zero_le _, rfl⟩ ?_
    rintro ⟨k, v1, l1⟩ ⟨hk1, he1⟩ K hK
    dsimp only at hk1 he1
    dsimp only [List.cons_append, List.nil_append]
    have hfl := filter_len_take ((canon l).map (·.Key)) k (pfx d.Key)
    rw [← he1] at hfl
    by_cases hlt : k < (canon l).length
    · obtain ⟨x, hx⟩ := getS (show k < ((canon l).map (·.Key)).length by omega)
      have hBx := hB x
      have hfs := filter_snoc hx (pfx d.Key)
      rw [← he1] at hfs
      cases hp : pfx d.Key x with
      | true =>
        rw [hp] at hBx hfs
        simp only [if_true] at hfs
        apply Wp.seq
        apply Wp.region
        refine WpL.v (V.cmp) ?_
        apply WpL.nil
        apply Out.seqN
        apply Wp.seq
        refine Wp.c (fun h0 => ?_) (fun h0 => ?_)
        (try simp only [decide_eq_true_eq, decide_eq_false_iff_not, Bool.not_eq_true', Bool.not_eq_false', Bool.not_eq_true, Bool.not_eq_false, not_true_eq_false, not_false_eq_true, reduceCtorEq] at h0)
        apply Wp.skip
        apply Out.seqN
        apply Wp.seq
        apply Wp.block
        apply Wp.seq
        apply Wp.region
        refine WpL.v (V.ixR tb rfl rfl (by assumption)) ?_
        refine WpL.v (V.ldR1 tb rfl hR1 (getMapS hx)) ?_
        refine WpL.v (V.as) ?_
        apply WpL.nil
        apply Out.seqN
        apply Wp.seq
        apply Wp.region
        refine WpL.v (V.ldA tb) ?_
        refine WpL.v (V.mv) ?_
        refine WpL.o (Op1.fn rfl (hBx) ?_)
        apply WpL.nil
        apply Out.seqN
        refine Wp.cT ?_
        apply Wp.region
        refine WpL.v (V.mv) ?_
        refine WpL.v (V.mv) ?_
        refine WpL.o (O.lit tb (fun p86 => ?_))
        refine WpL.o (O.apL tb rfl rfl (by (intro _; repeat first | exact Upd.here _ _ _ | apply Upd.there)) (SrcL.one (f := strc) (a := x) tb (by (repeat first | exact List.Mem.head _ | apply List.Mem.tail)) (fun _ => rfl)) (fun g87 cap87 => ?_))
        refine WpL.v (V.as) ?_
        apply WpL.nil
        apply Out.blockN
        apply Out.seqN
        apply Wp.region
        refine WpL.v (V.add) ?_
        refine WpL.v (V.mv) ?_
        apply WpL.nil
        rotate_left
        (try simp only [decide_eq_true_eq, decide_eq_false_iff_not, Bool.not_eq_true', Bool.not_eq_false', Bool.not_eq_true, Bool.not_eq_false, not_true_eq_false, not_false_eq_true, reduceCtorEq] at h0)
        (exfalso; omega)
        exact Out.ag hK (k + 1, _, l1 ++ [x]) ⟨by show k + 1 ≤ _; omega, hfs.symm⟩ (by show (canon l).length - (k + 1) < (canon l).length - k; omega)
      | false =>
        rw [hp] at hBx hfs
        simp only [Bool.false_eq_true, if_false, List.append_nil] at hfs
        apply Wp.seq
        apply Wp.region
        refine WpL.v (V.cmp) ?_
        apply WpL.nil
        apply Out.seqN
        apply Wp.seq
        refine Wp.c (fun h0 => ?_) (fun h0 => ?_)
        (try simp only [decide_eq_true_eq, decide_eq_false_iff_not, Bool.not_eq_true', Bool.not_eq_false', Bool.not_eq_true, Bool.not_eq_false, not_true_eq_false, not_false_eq_true, reduceCtorEq] at h0)
        apply Wp.skip
        apply Out.seqN
        apply Wp.seq
        apply Wp.block
        apply Wp.seq
        apply Wp.region
        refine WpL.v (V.ixR tb rfl rfl (by assumption)) ?_
        refine WpL.v (V.ldR1 tb rfl hR1 (getMapS hx)) ?_
        refine WpL.v (V.as) ?_
        apply WpL.nil
        apply Out.seqN
        apply Wp.seq
        apply Wp.region
        refine WpL.v (V.ldA tb) ?_
        refine WpL.v (V.mv) ?_
        refine WpL.o (Op1.fn rfl (hBx) ?_)
        apply WpL.nil
        apply Out.seqN
        refine Wp.cF ?_
        apply Wp.skip
        apply Out.blockN
        apply Out.seqN
        apply Wp.region
        refine WpL.v (V.add) ?_
        refine WpL.v (V.mv) ?_
        apply WpL.nil
        rotate_left
        (try simp only [decide_eq_true_eq, decide_eq_false_iff_not, Bool.not_eq_true', Bool.not_eq_false', Bool.not_eq_true, Bool.not_eq_false, not_true_eq_false, not_false_eq_true, reduceCtorEq] at h0)
        (exfalso; omega)
        exact Out.ag hK (k + 1, v1, l1) ⟨by show k + 1 ≤ _; omega, hfs.symm⟩ (by show (canon l).length - (k + 1) < (canon l).length - k; omega)
    · obtain rfl : k = (canon l).length := by omega
      rw [List.take_of_length_le (by omega)] at he1
      subst he1
      clear hK
      refine Wp.fact (rowsRd (f := strc) (v := v1) (E := 9) (sz := 1) (fun _ => rfl) (List.Mem.head _)) fun hvv => ?_
      obtain ⟨_, _, _, _, rfl, _⟩ := hvv
      apply Wp.seq
      apply Wp.region
      refine WpL.v (V.cmp) ?_
      apply WpL.nil
      apply Out.seqN
      apply Wp.seq
      refine Wp.c (fun h0 => ?_) (fun h0 => ?_)
      (try simp only [decide_eq_true_eq, decide_eq_false_iff_not, Bool.not_eq_true', Bool.not_eq_false', Bool.not_eq_true, Bool.not_eq_false, not_true_eq_false, not_false_eq_true, reduceCtorEq] at h0)
      (exfalso; omega)
      (try simp only [decide_eq_true_eq, decide_eq_false_iff_not, Bool.not_eq_true', Bool.not_eq_false', Bool.not_eq_true, Bool.not_eq_false, not_true_eq_false, not_false_eq_true, reduceCtorEq] at h0)
      apply Wp.exit
      apply Out.seqE
      apply Out.seqE
      apply Out.blockE
      apply Out.seqN
      apply Wp.seq
      apply Wp.region
      refine WpL.v (V.mv) ?_
      refine WpL.v (V.bld tb) ?_
      refine WpL.o (O.stA tb ?_)
      apply WpL.nil
      apply Out.seqN
      apply Wp.ret
      apply Out.blockR
      apply Out.seqR
      refine Out.e1 rfl (ResIs.ca tb) ?_
      exact ⟨_, _, ⟨_, rfl, rfl⟩, (by (repeat (first | exact Sel.nil | exact Rem.here | apply Sel.cons | apply Rem.there)))⟩
def pairB (p : RegistryPair) : List UInt8 := natI p.Key.length ++ p.Key ++ (natI p.Value.length ++ p.Value) ++ natI p.Version
def bytesR (R : RL) : List UInt8 := R.flatMap pairB
theorem pairB_len {p : RegistryPair} (h : p.Key.length + p.Value.length ≤ 100) (hv : p.Version ≤ 1000000) : (pairB p).length ≤ 127 := by
  unfold pairB
  have h1 := natI_len (n := (p.Key.length : Int)) (by omega)
  have h2 := natI_len (n := (p.Value.length : Int)) (by omega)
  have h3 := natI_len (n := p.Version) (by omega)
  simp only [List.length_append]
  omega
def Small (R : RL) : Prop := ∀ p ∈ R, p.Key.length + p.Value.length ≤ 100 ∧ p.Version ≤ 1000000
theorem bytesR_len : ∀ {R : RL}, Small R → (bytesR R).length ≤ 127 * R.length
  | [], _ => by simp [bytesR]
  | p :: R, h => by
    have h1 := h p (by simp)
    have h2 := pairB_len h1.1 h1.2
    have h3 := bytesR_len (R := R) fun q hq => h q (by simp [hq])
    unfold bytesR at *
    rw [List.flatMap_cons, List.length_append, List.length_cons]
    omega
theorem bytesR_snoc (R : RL) (p : RegistryPair) : bytesR (R ++ [p]) = bytesR R ++ pairB p := by simp [bytesR]
theorem Small.take {R : RL} (h : Small R) (k : Nat) : Small (R.take k) := fun p hp => h p (List.mem_of_mem_take hp)
theorem Small.canon {n : Nat} {l : PM} (hi : RI n l) (hz : RZ l) (hn : n ≤ 1000000) : Small (canon l) := fun p hp => by
  have := hz.mem hi hp
  omega
set_option maxHeartbeats 4000000 in
theorem ref_bytes (b : Nat) (E : Go.TypeId) (rest : List Go.Value) (ks vs ns : Go.Value) (R : RL) (hs : Small R) (hl : R.length ≤ 1000) :
    Ct Try.prog 22 [Ptr b 0] (rfE b E rest ks vs ns R) (fun r σ' => r = S (bytesR R) ∧ σ' = rfE b E rest ks vs ns R) := by
  unfold rfE
  refine Ct.enter Try.func22 rfl rfl fun W => ?_
  refine Wp.fact (rowsRd (f := strc) (v := ks) (l := R.map (·.Key)) (E := 9) (sz := 1) (fun _ => rfl) (by repeat first | exact List.Mem.head _ | apply List.Mem.tail)) fun hvv => ?_
  obtain ⟨ao1, cap1, bk1, off1, rfl, hR1⟩ := hvv
  refine Wp.fact (rowsRd (f := strc) (v := vs) (l := R.map (·.Value)) (E := 9) (sz := 1) (fun _ => rfl) (by repeat first | exact List.Mem.head _ | apply List.Mem.tail)) fun hvv => ?_
  obtain ⟨ao2, cap2, bk2, off2, rfl, hR2⟩ := hvv
  refine Wp.fact (rowsRd (f := i64c) (v := ns) (l := R.map (·.Version)) (E := 3) (sz := 1) (fun _ => rfl) (by repeat first | exact List.Mem.head _ | apply List.Mem.tail)) fun hvv => ?_
  obtain ⟨ao3, cap3, bk3, off3, rfl, hR3⟩ := hvv
  have hl1 : (R.map (·.Key)).length = R.length := List.length_map ..
  have hl2 : (R.map (·.Value)).length = R.length := List.length_map ..
  have hl3 : (R.map (·.Version)).length = R.length := List.length_map ..
  apply Wp.seq
  apply Wp.region
  refine WpL.v (V.as) ?_
  apply WpL.nil
  apply Out.seqN
  apply Wp.seq
  apply Wp.region
  refine WpL.v (V.as) ?_
  apply WpL.nil
  apply Out.seqN
  apply Wp.seq
  apply Wp.seq
  apply Wp.region
  refine WpL.v (V.mv) ?_
  refine WpL.v (V.nc) ?_
  refine WpL.v (V.fa tb) ?_
  refine WpL.v (V.ld1 tb) ?_
  refine WpL.v (V.lenL tb) ?_
  refine WpL.v (V.mv) ?_
  apply WpL.nil
  apply Out.seqN
  apply Wp.block
  refine Wp.lp [10, 9, 0] (fun k : Nat => k ≤ R.length) (fun k => [(11, I (k : Int)), (3, S (bytesR (R.take k)))]) (fun _ => []) (fun k => R.length - k) 0 (Nat.zero_le _) ?_
  intro k hk K hK
  dsimp only [List.cons_append, List.nil_append]
  have hlen := bytesR_len (hs.take k)
  rw [List.length_take] at hlen
  by_cases hlt : k < R.length
  · obtain ⟨q, hq⟩ := getS hlt
    have hq1 : (R.map (·.Key))[k]? = some q.Key := by rw [List.getElem?_map, hq]; rfl
    have hq2 : (R.map (·.Value))[k]? = some q.Value := by rw [List.getElem?_map, hq]; rfl
    have hq3 : (R.map (·.Version))[k]? = some q.Version := by rw [List.getElem?_map, hq]; rfl
    have hqs := hs q (List.mem_of_getElem? hq)
    have hT1 := refText q.Key (by omega)
    have hT2 := refText q.Value (by omega)
    have hT3 := refNat q.Version (by omega)
    have hn1 := natI_len (n := (q.Key.length : Int)) (by omega)
    have hn2 := natI_len (n := (q.Value.length : Int)) (by omega)
    have hn3 := natI_len (n := q.Version) (by omega)
    have hsn : bytesR (R.take (k + 1)) = bytesR (R.take k) ++ (natI q.Key.length ++ q.Key) ++ (natI q.Value.length ++ q.Value) ++ natI q.Version := by
      rw [take_snocS hq, bytesR_snoc]
      unfold pairB
      simp only [List.append_assoc]
    apply Wp.seq
    apply Wp.region
    refine WpL.v (V.cmp) ?_
    apply WpL.nil
    apply Out.seqN
    apply Wp.seq
    refine Wp.c (fun h0 => ?_) (fun h0 => ?_)
    (try simp only [decide_eq_true_eq, decide_eq_false_iff_not, Bool.not_eq_true', Bool.not_eq_false', Bool.not_eq_true, Bool.not_eq_false, not_true_eq_false, not_false_eq_true, reduceCtorEq] at h0)
    apply Wp.skip
    apply Out.seqN
    apply Wp.seq
    apply Wp.block
    apply Wp.seq
    apply Wp.region
    refine WpL.v (V.mv) ?_
    refine WpL.v (V.ixR tb rfl rfl (by assumption)) ?_
    refine WpL.v (V.ldR1 tb rfl hR1 (getMapS hq1)) ?_
    refine WpL.v (V.as) ?_
    refine WpL.v (V.as) ?_
    apply WpL.nil
    apply Out.seqN
    refine Wp.dG [] ?_ (List.Sublist.cons_cons _ (List.Sublist.cons_cons _ (List.Sublist.cons_cons _ (List.Sublist.cons_cons _ List.Sublist.slnil)))) (List.Sublist.cons_cons _ (List.Sublist.cons_cons _ (List.Sublist.cons_cons _ (List.Sublist.cons_cons _ List.Sublist.slnil))))
    refine WpA.tF 0 rfl (V.mv) ?_
    refine WpA.tF 1 rfl (V.mv) ?_
    refine WpA.tF 4 rfl (V.mv) ?_
    refine WpA.tF 5 rfl (V.nc) ?_
    refine WpA.tF 6 rfl (V.fa tb) ?_
    refine WpA.tF 7 rfl (V.ld1 tb) ?_
    refine WpA.tF 8 rfl (V.mv) ?_
    refine WpA.tF 9 rfl (V.ixR tb rfl rfl (by assumption)) ?_
    refine WpA.tF 10 rfl (V.ldR1 tb rfl hR2 (getMapS hq2)) ?_
    refine WpA.tF 13 rfl (V.mv) ?_
    refine WpA.tF 14 rfl (V.nc) ?_
    refine WpA.tF 15 rfl (V.fa tb) ?_
    refine WpA.tF 16 rfl (V.ld1 tb) ?_
    refine WpA.tF 17 rfl (V.mv) ?_
    refine WpA.tF 18 rfl (V.ixR tb rfl rfl (by assumption)) ?_
    refine WpA.tF 19 rfl (V.ldR1 tb rfl hR3 (getMapS hq3)) ?_
    refine WpA.oS 2 rfl (Op1.fn rfl (hT1) ⟨?_, ?_, ?_⟩)
    exact holdT
    exact holdT
    refine WpA.tF 3 rfl (V.cat) ?_
    refine WpA.oS 11 rfl (Op1.fn rfl (hT2) ⟨?_, ?_, ?_⟩)
    exact holdT
    exact holdT
    refine WpA.tF 12 rfl (V.cat) ?_
    refine WpA.oS 20 rfl (Op1.fn rfl (hT3) ⟨?_, ?_, ?_⟩)
    exact holdT
    exact holdT
    refine WpA.tF 21 rfl (V.cat) ?_
    refine WpA.tF 22 rfl (V.as) ?_
    refine WpA.ou ?_
    apply Out.blockN
    apply Out.seqN
    apply Wp.region
    refine WpL.v (V.add) ?_
    refine WpL.v (V.mv) ?_
    apply WpL.nil
    rotate_left
    (try simp only [decide_eq_true_eq, decide_eq_false_iff_not, Bool.not_eq_true', Bool.not_eq_false', Bool.not_eq_true, Bool.not_eq_false, not_true_eq_false, not_false_eq_true, reduceCtorEq] at h0)
    (exfalso; omega)
    rw [← hsn]
    exact Out.ag hK (k + 1) (by omega) (by omega)
  · obtain rfl : k = R.length := by omega
    rw [List.take_length]
    clear hK
    apply Wp.seq
    apply Wp.region
    refine WpL.v (V.cmp) ?_
    apply WpL.nil
    apply Out.seqN
    apply Wp.seq
    refine Wp.c (fun h0 => ?_) (fun h0 => ?_)
    (try simp only [decide_eq_true_eq, decide_eq_false_iff_not, Bool.not_eq_true', Bool.not_eq_false', Bool.not_eq_true, Bool.not_eq_false, not_true_eq_false, not_false_eq_true, reduceCtorEq] at h0)
    (exfalso; omega)
    (try simp only [decide_eq_true_eq, decide_eq_false_iff_not, Bool.not_eq_true', Bool.not_eq_false', Bool.not_eq_true, Bool.not_eq_false, not_true_eq_false, not_false_eq_true, reduceCtorEq] at h0)
    apply Wp.exit
    apply Out.seqE
    apply Out.seqE
    apply Out.blockE
    apply Out.seqN
    apply Wp.seq
    apply Wp.region
    refine WpL.v (V.mv) ?_
    refine WpL.v (V.as) ?_
    apply WpL.nil
    apply Out.seqN
    apply Wp.ret
    refine Out.f1 rfl ResIs.t ⟨?_, rfl⟩
    exact rfl
end Go.Proofs.Ytgihkocnmgkihaa
