/-
  The statement RegistryVersions of layer 20: a key's version goes up by one with each value it gets; what reads changes nothing; a Cas at a version that isn't the key's changes nothing. Proved for every input.
-/
import Derived.Test.YtgihkocnmgkihaaHead
import Derived.Test.YtgihkocnmgkihaaAny
namespace Go.Proofs.Ytgihkocnmgkihaa
open Go.HL
set_option linter.unusedSimpArgs false
set_option linter.unusedVariables false
set_option maxRecDepth 8000
theorem sameR_self (x : DR) (v v' : Go.Value) : sameR ⟨x.err, x.val, x.ver, v⟩ ⟨x.err, x.val, x.ver, v'⟩ x.keys x.keys = true := by simp [sameR]
theorem doA_get_ver (l : PM) (k : List UInt8) : (doA l ⟨1, k, [], 0, 0, 0⟩).ver = (look l k).Version := by
  rw [doA_get]
  cases hg : mget l k with
  | none => rw [look_none hg]; rfl
  | some p => rfl
structure RV20 where
  k : Nat
  l : PM
set_option maxHeartbeats 4000000 in
theorem registryVersions_walk (e : Ent) (ao : Option Go.Addr) (cap b off : Nat) (xs : List TDeed) (d : TDeed) (hw : ∀ x ∈ xs, x.Key.length ≤ 140737488351232 ∧ x.Value.length ≤ 140737488351232) (hd : d.Key.length ≤ 140737488351232 ∧ d.Value.length ≤ 140737488351232) (hR : Rd e ao xs.length b off 6 (xs.map TDeed.c)) :
    Ct Try.prog 7 [.slice ao xs.length cap, A d.c] [e] (fun r σ' => r = B true ∧ σ' = [e]) := by
  have hm := hR.small
  simp only [Go.maxLen] at hm
  have hG := great20z e ao cap b off xs hw hR
  have hG1 (g : Nat) := great20z (row (.slice (some ⟨g, 0, none⟩) 1 1) 28 6 1 d.c) (some ⟨g, 0, none⟩) 1 g 0 [d] (by simpa using hd) (Rd.lits (E := 28) (cap := 1) TDeed.c [d] rfl (by simp) TDeed.len (by simp))
  have hN := reg_new
  unfold rgE mE at hN
  refine Ct.enter Try.func7 rfl rfl fun W => ?_
  apply Wp.seq
  apply Wp.region
  refine WpL.o (O.bxA (fun p3 => ?_))
  refine WpL.v (V.as) ?_
  apply WpL.nil
  apply Out.seqN
  apply Wp.seq
  apply Wp.seq
  apply Wp.region
  refine WpL.o (Op1.fn rfl (alive20) ?_)
  refine WpL.v (V.not) ?_
  apply WpL.nil
  apply Out.seqN
  refine Wp.cF ?_
  apply Wp.skip
  apply Out.seqN
  apply Wp.seq
  apply Wp.seq
  apply Wp.region
  refine WpL.v (V.mv) ?_
  refine WpL.o (Op1.callT rfl (hG) (by (repeat (first | exact Sel.nil | exact Rem.here | apply Sel.cons | apply Rem.there))) ?_)
  rintro v1 s2 ⟨t16, ⟨hx0, ⟨rfl, rfl⟩⟩⟩
  refine incat ?_
  refine WpL.v (V.mv) ?_
  refine WpL.pt (fun hv03 => ?_) (fun hv03 => ?_)
  (try simp only [decide_eq_true_eq, decide_eq_false_iff_not, Bool.not_eq_true', Bool.not_eq_false', Bool.not_eq_true, Bool.not_eq_false, not_true_eq_false, not_false_eq_true, reduceCtorEq] at hv03)
  refine WpL.sk ?_
  refine WpL.sk ?_
  refine WpL.sk ?_
  refine WpL.v (V.pT) ?_
  apply WpL.nil
  apply Out.seqN
  refine Wp.cT ?_
  apply Wp.seq
  apply Wp.region
  refine WpL.v (V.as) ?_
  apply WpL.nil
  apply Out.seqN
  apply Wp.ret
  apply Out.seqR
  refine Out.f1 rfl ResIs.t ⟨?_, rfl⟩
  exact rfl
  (try simp only [decide_eq_true_eq, decide_eq_false_iff_not, Bool.not_eq_true', Bool.not_eq_false', Bool.not_eq_true, Bool.not_eq_false, not_true_eq_false, not_false_eq_true, reduceCtorEq] at hv03)
  refine WpL.v (V.ldA tb) ?_
  refine WpL.o (O.lit tb (fun p19 => ?_))
  refine WpL.o (Op1.callT rfl (hG1 _) (by (repeat (first | exact Sel.nil | exact Rem.here | apply Sel.cons | apply Rem.there))) ?_)
  rintro v5 s6 ⟨t20, ⟨hx4, ⟨rfl, rfl⟩⟩⟩
  refine incat ?_
  refine WpL.v (V.pF) ?_
  apply WpL.nil
  apply Out.seqN
  refine Wp.c (fun hv07 => ?_) (fun hv07 => ?_)
  (try simp only [decide_eq_true_eq, decide_eq_false_iff_not, Bool.not_eq_true', Bool.not_eq_false', Bool.not_eq_true, Bool.not_eq_false, not_true_eq_false, not_false_eq_true, reduceCtorEq] at hv07)
  apply Wp.seq
  apply Wp.region
  refine WpL.v (V.as) ?_
  apply WpL.nil
  apply Out.seqN
  apply Wp.ret
  apply Out.seqR
  refine Out.f1 rfl ResIs.t ⟨?_, rfl⟩
  exact rfl
  (try simp only [decide_eq_true_eq, decide_eq_false_iff_not, Bool.not_eq_true', Bool.not_eq_false', Bool.not_eq_true, Bool.not_eq_false, not_true_eq_false, not_false_eq_true, reduceCtorEq] at hv07)
  apply Wp.skip
  apply Out.seqN
  apply Wp.seq
  apply Wp.region
  refine WpL.o (Op1.callT rfl (hN) (by (repeat (first | exact Sel.nil | exact Rem.here | apply Sel.cons | apply Rem.there))) ?_)
  rintro v8 s9 ⟨b22, ⟨m22, ⟨rfl, rfl⟩⟩⟩
  refine incat ?_
  refine WpL.v (V.as) ?_
  apply WpL.nil
  apply Out.seqN
  apply Wp.seq
  apply Wp.seq
  apply Wp.region
  refine WpL.v (V.mv) ?_
  refine WpL.v (V.lenL tb) ?_
  refine WpL.v (V.mv) ?_
  apply WpL.nil
  apply Out.seqN
  apply Wp.block
  obtain ⟨hx80, hxs⟩ := hx0 hv03
  have hds := (hx4 hv07).2 d (by simp)
  refine Wp.lp [24, 23, 5, 3] (fun y : RV20 => y.k ≤ xs.length ∧ RI y.k y.l ∧ RZ y.l) (fun y => [(25, I (y.k : Int))]) (fun y => [mapK kS vP m22 y.l]) (fun y => xs.length - y.k) ⟨0, []⟩ ⟨Nat.zero_le _, RI.zero, RZ.zero⟩ ?_
  rintro ⟨k, l⟩ ⟨hk, hi, hz⟩ K hK
  dsimp only at hk hi hz
  dsimp only [List.cons_append, List.nil_append]
  by_cases hlt : k < xs.length
  · obtain ⟨x, hx⟩ := getS hlt
    have hA := reg_any b22 m22 k l x hi (by omega)
    unfold mE at hA
    have hi2 := hi.any x
    have hz2 := hz.any hi (hxs x (List.mem_of_getElem? hx))
    apply Wp.seq
    apply Wp.region
    refine WpL.v (V.cmp) ?_
    apply WpL.nil
    apply Out.seqN
    apply Wp.seq
    refine Wp.c (fun hv10 => ?_) (fun hv10 => ?_)
    (try simp only [decide_eq_true_eq, decide_eq_false_iff_not, Bool.not_eq_true', Bool.not_eq_false', Bool.not_eq_true, Bool.not_eq_false, not_true_eq_false, not_false_eq_true, reduceCtorEq] at hv10)
    apply Wp.skip
    apply Out.seqN
    apply Wp.seq
    apply Wp.block
    apply Wp.seq
    apply Wp.region
    refine WpL.v (V.ixR tb rfl rfl (by assumption)) ?_
    refine WpL.v (V.ldRA tb rfl (by assumption) (getMapS (by assumption))) ?_
    refine WpL.o (O.al tb (fun p7 => ?_))
    refine WpL.o (O.stA tb ?_)
    apply WpL.nil
    apply Out.seqN
    apply Wp.region
    refine WpL.v (V.mv) ?_
    refine WpL.v (V.ldA tb) ?_
    refine WpL.o (Op1.callT rfl (hA) (by (repeat (first | exact Sel.nil | exact Rem.here | apply Sel.cons | apply Rem.there))) ?_)
    rintro v1 s2 ⟨ao31, ⟨len31, ⟨cap31, ⟨rfl, rfl⟩⟩⟩⟩
    refine incat ?_
    apply WpL.nil
    apply Out.blockN
    apply Out.seqN
    apply Wp.region
    refine WpL.v (V.add) ?_
    refine WpL.v (V.mv) ?_
    apply WpL.nil
    rotate_left
    (try simp only [decide_eq_true_eq, decide_eq_false_iff_not, Bool.not_eq_true', Bool.not_eq_false', Bool.not_eq_true, Bool.not_eq_false, not_true_eq_false, not_false_eq_true, reduceCtorEq] at hv10)
    (exfalso; omega)
    exact Out.ag hK ⟨k + 1, (doA l x).l⟩ ⟨by show k + 1 ≤ _; omega, hi2, hz2⟩ (by show xs.length - (k + 1) < xs.length - k; omega)
  · obtain rfl : k = xs.length := by omega
    clear hK
    have hi2 := hi.any d
    have hz2 := hz.any hi hds
    have hB := reg_bytes b22 m22 _ l hi hz (by omega)
    have hA1 := reg_any b22 m22 _ l ⟨1, d.Key, [], 0, 0, 0⟩ hi (by omega)
    have hA2 := reg_any b22 m22 _ l d hi (by omega)
    have hB2 := reg_bytes b22 m22 _ (doA l d).l hi2 hz2 (by omega)
    have hA3 := reg_any b22 m22 _ (doA l d).l ⟨1, d.Key, [], 0, 0, 0⟩ hi2 (by omega)
    have hW := ref_writes d
    unfold rgE mE at hB hB2
    unfold mE at hA1 hA2 hA3
    have hv := hi.ver d.Key
    have hgl : (doA l ⟨1, d.Key, [], 0, 0, 0⟩).l = l := doA_nop rfl
    rw [hgl] at hA1
    have hgl2 : (doA (doA l d).l ⟨1, d.Key, [], 0, 0, 0⟩).l = (doA l d).l := doA_nop rfl
    rw [hgl2] at hA3
    cases hwr : writes d with
    | false =>
      have e1 : (doA l d).l = l := doA_nop hwr
      rw [e1] at hA2
      rw [hwr] at hW
      clear hA3 hB2
      generalize doA l d = x2 at *
      generalize doA l ⟨1, d.Key, [], 0, 0, 0⟩ = x1 at *
      apply Wp.seq
      apply Wp.region
      refine WpL.v (V.cmp) ?_
      apply WpL.nil
      apply Out.seqN
      apply Wp.seq
      refine Wp.c (fun hv20 => ?_) (fun hv20 => ?_)
      (try simp only [decide_eq_true_eq, decide_eq_false_iff_not, Bool.not_eq_true', Bool.not_eq_false', Bool.not_eq_true, Bool.not_eq_false, not_true_eq_false, not_false_eq_true, reduceCtorEq] at hv20)
      (exfalso; omega)
      (try simp only [decide_eq_true_eq, decide_eq_false_iff_not, Bool.not_eq_true', Bool.not_eq_false', Bool.not_eq_true, Bool.not_eq_false, not_true_eq_false, not_false_eq_true, reduceCtorEq] at hv20)
      apply Wp.exit
      apply Out.seqE
      apply Out.seqE
      apply Out.blockE
      apply Out.seqN
      apply Wp.seq
      apply Wp.region
      refine WpL.v (V.mv) ?_
      refine WpL.o (Op1.callT rfl (hB) (by (repeat (first | exact Sel.nil | exact Rem.here | apply Sel.cons | apply Rem.there))) ?_)
      rintro v1 s2 ⟨rfl, rfl⟩
      refine incat ?_
      refine WpL.v (V.as) ?_
      apply WpL.nil
      apply Out.seqN
      apply Wp.seq
      apply Wp.region
      refine WpL.v (V.fa tb) ?_
      refine WpL.v (V.ld1 tb) ?_
      refine WpL.v (V.bld tb (c' := TDeed.c ⟨1, d.Key, [], 0, 0, 0⟩)) ?_
      refine WpL.o (O.al tb (fun p9 => ?_))
      refine WpL.o (O.stA tb ?_)
      apply WpL.nil
      apply Out.seqN
      apply Wp.seq
      apply Wp.region
      refine WpL.v (V.mv) ?_
      refine WpL.v (V.ldA tb) ?_
      refine WpL.o (Op1.callT rfl (hA1) (by (repeat (first | exact Sel.nil | exact Rem.here | apply Sel.cons | apply Rem.there))) ?_)
      rintro v3 s4 ⟨ao40, ⟨len40, ⟨cap40, ⟨rfl, rfl⟩⟩⟩⟩
      refine incat ?_
      refine WpL.o (O.al tb (fun p10 => ?_))
      refine WpL.o (O.stA tb ?_)
      apply WpL.nil
      apply Out.seqN
      apply Wp.seq
      apply Wp.region
      refine WpL.v (V.mv) ?_
      refine WpL.v (V.ldA tb) ?_
      refine WpL.o (Op1.callT rfl (hA2) (by (repeat (first | exact Sel.nil | exact Rem.here | apply Sel.cons | apply Rem.there))) ?_)
      rintro v5 s6 ⟨ao43, ⟨len43, ⟨cap43, ⟨rfl, rfl⟩⟩⟩⟩
      refine incat ?_
      refine WpL.o (O.al tb (fun p11 => ?_))
      refine WpL.o (O.stA tb ?_)
      apply WpL.nil
      apply Out.seqN
      apply Wp.seq
      apply Wp.region
      refine WpL.v (V.mv) ?_
      refine WpL.v (V.ldA tb) ?_
      refine WpL.o (Op1.callT rfl (hA1) (by (repeat (first | exact Sel.nil | exact Rem.here | apply Sel.cons | apply Rem.there))) ?_)
      rintro v7 s8 ⟨ao46, ⟨len46, ⟨cap46, ⟨rfl, rfl⟩⟩⟩⟩
      refine incat ?_
      refine WpL.o (O.al tb (fun p12 => ?_))
      refine WpL.o (O.stA tb ?_)
      apply WpL.nil
      apply Out.seqN
      apply Wp.seq
      apply Wp.seq
      apply Wp.region
      refine WpL.v (V.ldA tb) ?_
      refine WpL.o (Op1.fn rfl (hW) ?_)
      refine WpL.v (V.not) ?_
      refine WpL.v (V.mv) ?_
      refine WpL.sk ?_
      refine WpL.sk ?_
      refine WpL.sk ?_
      refine WpL.v (V.pT) ?_
      apply WpL.nil
      apply Out.seqN
      refine Wp.cT ?_
      apply Wp.seq
      apply Wp.region
      refine WpL.v (V.mv) ?_
      refine WpL.o (Op1.callT rfl (hB) (by (repeat (first | exact Sel.nil | exact Rem.here | apply Sel.cons | apply Rem.there))) ?_)
      rintro v9 s10 ⟨rfl, rfl⟩
      refine incat ?_
      refine WpL.v (V.mv) ?_
      refine WpL.v (V.cmpS) ?_
      refine WpL.v (V.mv) ?_
      refine WpL.pt (fun hv211 => ?_) (fun hv211 => ?_)
      (try simp only [decide_eq_true_eq, decide_eq_false_iff_not, Bool.not_eq_true', Bool.not_eq_false', Bool.not_eq_true, Bool.not_eq_false, not_true_eq_false, not_false_eq_true, reduceCtorEq] at hv211)
      refine WpL.v (V.ldA tb) ?_
      refine WpL.v (V.ldA tb) ?_
      refine WpL.o (Op1.callT rfl (same_rows ⟨x1.err, x1.val, x1.ver, _⟩ ⟨x1.err, x1.val, x1.ver, _⟩ x1.keys x1.keys) (by (repeat (first | exact Sel.nil | exact Rem.here | apply Sel.cons | apply Rem.there))) ?_)
      rintro v12 s13 ⟨rfl, rfl⟩
      refine incat ?_
      refine WpL.v (V.pT) ?_
      refine WpL.v (V.as) ?_
      apply WpL.nil
      apply Out.seqN
      apply Wp.ret
      apply Out.seqR
      refine Out.f1 rfl ResIs.t ⟨?_, rfl⟩
      rotate_left
      (try simp only [decide_eq_true_eq, decide_eq_false_iff_not, Bool.not_eq_true', Bool.not_eq_false', Bool.not_eq_true, Bool.not_eq_false, not_true_eq_false, not_false_eq_true, reduceCtorEq] at hv211)
      · rw [sameR_self]
    | true =>
      rw [hwr] at hW
      by_cases he : (doA l d).err = 0
      · have hok := doA_ok hwr he
        have hkv := doA_get_ver l d.Key
        rcases hok with ⟨k4, hs, e2⟩ | ⟨k4, hver, e2⟩
        · rw [e2] at hA2 hA3 hi2
          dsimp only at hA2 hA3 hi2
          rw [doA_get, show mget (mdel l d.Key) d.Key = none by rw [mget_mdel hi.nod, if_pos rfl]] at hA3
          simp only [Option.isSome_none, Bool.false_eq_true, if_false] at hA3
          clear hB2 e2
          generalize doA l ⟨1, d.Key, [], 0, 0, 0⟩ = x1 at *
          generalize mdel l d.Key = l2 at *
          generalize (look l d.Key).Version = ver at *
          apply Wp.seq
          apply Wp.region
          refine WpL.v (V.cmp) ?_
          apply WpL.nil
          apply Out.seqN
          apply Wp.seq
          refine Wp.c (fun hv30 => ?_) (fun hv30 => ?_)
          (try simp only [decide_eq_true_eq, decide_eq_false_iff_not, Bool.not_eq_true', Bool.not_eq_false', Bool.not_eq_true, Bool.not_eq_false, not_true_eq_false, not_false_eq_true, reduceCtorEq] at hv30)
          (exfalso; omega)
          (try simp only [decide_eq_true_eq, decide_eq_false_iff_not, Bool.not_eq_true', Bool.not_eq_false', Bool.not_eq_true, Bool.not_eq_false, not_true_eq_false, not_false_eq_true, reduceCtorEq] at hv30)
          apply Wp.exit
          apply Out.seqE
          apply Out.seqE
          apply Out.blockE
          apply Out.seqN
          apply Wp.seq
          apply Wp.region
          refine WpL.v (V.mv) ?_
          refine WpL.o (Op1.callT rfl (hB) (by (repeat (first | exact Sel.nil | exact Rem.here | apply Sel.cons | apply Rem.there))) ?_)
          rintro v1 s2 ⟨rfl, rfl⟩
          refine incat ?_
          refine WpL.v (V.as) ?_
          apply WpL.nil
          apply Out.seqN
          apply Wp.seq
          apply Wp.region
          refine WpL.v (V.fa tb) ?_
          refine WpL.v (V.ld1 tb) ?_
          refine WpL.v (V.bld tb (c' := TDeed.c ⟨1, d.Key, [], 0, 0, 0⟩)) ?_
          refine WpL.o (O.al tb (fun p9 => ?_))
          refine WpL.o (O.stA tb ?_)
          apply WpL.nil
          apply Out.seqN
          apply Wp.seq
          apply Wp.region
          refine WpL.v (V.mv) ?_
          refine WpL.v (V.ldA tb) ?_
          refine WpL.o (Op1.callT rfl (hA1) (by (repeat (first | exact Sel.nil | exact Rem.here | apply Sel.cons | apply Rem.there))) ?_)
          rintro v3 s4 ⟨ao40, ⟨len40, ⟨cap40, ⟨rfl, rfl⟩⟩⟩⟩
          refine incat ?_
          refine WpL.o (O.al tb (fun p10 => ?_))
          refine WpL.o (O.stA tb ?_)
          apply WpL.nil
          apply Out.seqN
          apply Wp.seq
          apply Wp.region
          refine WpL.v (V.mv) ?_
          refine WpL.v (V.ldA tb) ?_
          refine WpL.o (Op1.callT rfl (hA2) (by (repeat (first | exact Sel.nil | exact Rem.here | apply Sel.cons | apply Rem.there))) ?_)
          rintro v5 s6 ⟨ao43, ⟨len43, ⟨cap43, ⟨rfl, rfl⟩⟩⟩⟩
          refine incat ?_
          refine WpL.o (O.al tb (fun p11 => ?_))
          refine WpL.o (O.stA tb ?_)
          apply WpL.nil
          apply Out.seqN
          apply Wp.seq
          apply Wp.region
          refine WpL.v (V.mv) ?_
          refine WpL.v (V.ldA tb) ?_
          refine WpL.o (Op1.callT rfl (hA3) (by (repeat (first | exact Sel.nil | exact Rem.here | apply Sel.cons | apply Rem.there))) ?_)
          rintro v7 s8 ⟨ao46, ⟨len46, ⟨cap46, ⟨rfl, rfl⟩⟩⟩⟩
          refine incat ?_
          refine WpL.o (O.al tb (fun p12 => ?_))
          refine WpL.o (O.stA tb ?_)
          apply WpL.nil
          apply Out.seqN
          apply Wp.seq
          apply Wp.seq
          apply Wp.region
          refine WpL.v (V.ldA tb) ?_
          refine WpL.o (Op1.fn rfl (hW) ?_)
          refine WpL.v (V.not) ?_
          refine WpL.v (V.mv) ?_
          refine WpL.v (V.fa tb) ?_
          refine WpL.v (V.ld1 tb) ?_
          refine WpL.v (V.cmp) ?_
          refine WpL.v (V.pF) ?_
          apply WpL.nil
          apply Out.seqN
          refine Wp.c (fun hv39 => ?_) (fun hv39 => ?_)
          (try simp only [decide_eq_true_eq, decide_eq_false_iff_not, Bool.not_eq_true', Bool.not_eq_false', Bool.not_eq_true, Bool.not_eq_false, not_true_eq_false, not_false_eq_true, reduceCtorEq] at hv39)
          (try simp only [decide_eq_true_eq, decide_eq_false_iff_not, Bool.not_eq_true', Bool.not_eq_false', Bool.not_eq_true, Bool.not_eq_false, not_true_eq_false, not_false_eq_true, reduceCtorEq] at hv39)
          apply Wp.skip
          apply Out.seqN
          apply Wp.seq
          apply Wp.seq
          apply Wp.region
          refine WpL.v (V.fa tb) ?_
          refine WpL.v (V.ld1 tb) ?_
          refine WpL.v (V.cmp) ?_
          apply WpL.nil
          apply Out.seqN
          refine Wp.c (fun hv310 => ?_) (fun hv310 => ?_)
          (try simp only [decide_eq_true_eq, decide_eq_false_iff_not, Bool.not_eq_true', Bool.not_eq_false', Bool.not_eq_true, Bool.not_eq_false, not_true_eq_false, not_false_eq_true, reduceCtorEq] at hv310)
          apply Wp.seq
          apply Wp.region
          refine WpL.v (V.fa tb) ?_
          refine WpL.v (V.ld1 tb) ?_
          refine WpL.v (V.cmp) ?_
          refine WpL.v (V.mv) ?_
          refine WpL.pt (fun hv311 => ?_) (fun hv311 => ?_)
          (try simp only [decide_eq_true_eq, decide_eq_false_iff_not, Bool.not_eq_true', Bool.not_eq_false', Bool.not_eq_true, Bool.not_eq_false, not_true_eq_false, not_false_eq_true, reduceCtorEq] at hv311)
          refine WpL.v (V.fa tb) ?_
          refine WpL.v (V.ld1 tb) ?_
          refine WpL.v (V.fa tb) ?_
          refine WpL.v (V.ld1 tb) ?_
          refine WpL.v (V.cmp) ?_
          refine WpL.v (V.pT) ?_
          refine WpL.v (V.as) ?_
          apply WpL.nil
          apply Out.seqN
          apply Wp.ret
          apply Out.seqR
          refine Out.f1 rfl ResIs.t ⟨?_, rfl⟩
          rotate_left
          (try simp only [decide_eq_true_eq, decide_eq_false_iff_not, Bool.not_eq_true', Bool.not_eq_false', Bool.not_eq_true, Bool.not_eq_false, not_true_eq_false, not_false_eq_true, reduceCtorEq] at hv311)
          (try simp only [decide_eq_true_eq, decide_eq_false_iff_not, Bool.not_eq_true', Bool.not_eq_false', Bool.not_eq_true, Bool.not_eq_false, not_true_eq_false, not_false_eq_true, reduceCtorEq] at hv310)
          (exfalso; omega)
          · simp [hkv]
        · rw [e2] at hA2 hA3 hi2
          dsimp only at hA2 hA3 hi2
          have hmg : mget (putL l d.Key d.Value) d.Key = some ⟨d.Key, d.Value, (look l d.Key).Version + 1⟩ := by
            unfold putL
            rw [mget_mput, if_pos rfl]
          rw [doA_get, hmg, look_some hmg] at hA3
          simp only [Option.isSome_some, if_true] at hA3
          clear hB2 e2 hmg
          generalize doA l ⟨1, d.Key, [], 0, 0, 0⟩ = x1 at *
          generalize putL l d.Key d.Value = l2 at *
          generalize (look l d.Key).Version = ver at *
          by_cases k3 : d.Kind = 3
          · have hv3 := hver k3
            apply Wp.seq
            apply Wp.region
            refine WpL.v (V.cmp) ?_
            apply WpL.nil
            apply Out.seqN
            apply Wp.seq
            refine Wp.c (fun hv40 => ?_) (fun hv40 => ?_)
            (try simp only [decide_eq_true_eq, decide_eq_false_iff_not, Bool.not_eq_true', Bool.not_eq_false', Bool.not_eq_true, Bool.not_eq_false, not_true_eq_false, not_false_eq_true, reduceCtorEq] at hv40)
            (exfalso; omega)
            (try simp only [decide_eq_true_eq, decide_eq_false_iff_not, Bool.not_eq_true', Bool.not_eq_false', Bool.not_eq_true, Bool.not_eq_false, not_true_eq_false, not_false_eq_true, reduceCtorEq] at hv40)
            apply Wp.exit
            apply Out.seqE
            apply Out.seqE
            apply Out.blockE
            apply Out.seqN
            apply Wp.seq
            apply Wp.region
            refine WpL.v (V.mv) ?_
            refine WpL.o (Op1.callT rfl (hB) (by (repeat (first | exact Sel.nil | exact Rem.here | apply Sel.cons | apply Rem.there))) ?_)
            rintro v1 s2 ⟨rfl, rfl⟩
            refine incat ?_
            refine WpL.v (V.as) ?_
            apply WpL.nil
            apply Out.seqN
            apply Wp.seq
            apply Wp.region
            refine WpL.v (V.fa tb) ?_
            refine WpL.v (V.ld1 tb) ?_
            refine WpL.v (V.bld tb (c' := TDeed.c ⟨1, d.Key, [], 0, 0, 0⟩)) ?_
            refine WpL.o (O.al tb (fun p9 => ?_))
            refine WpL.o (O.stA tb ?_)
            apply WpL.nil
            apply Out.seqN
            apply Wp.seq
            apply Wp.region
            refine WpL.v (V.mv) ?_
            refine WpL.v (V.ldA tb) ?_
            refine WpL.o (Op1.callT rfl (hA1) (by (repeat (first | exact Sel.nil | exact Rem.here | apply Sel.cons | apply Rem.there))) ?_)
            rintro v3 s4 ⟨ao40, ⟨len40, ⟨cap40, ⟨rfl, rfl⟩⟩⟩⟩
            refine incat ?_
            refine WpL.o (O.al tb (fun p10 => ?_))
            refine WpL.o (O.stA tb ?_)
            apply WpL.nil
            apply Out.seqN
            apply Wp.seq
            apply Wp.region
            refine WpL.v (V.mv) ?_
            refine WpL.v (V.ldA tb) ?_
            refine WpL.o (Op1.callT rfl (hA2) (by (repeat (first | exact Sel.nil | exact Rem.here | apply Sel.cons | apply Rem.there))) ?_)
            rintro v5 s6 ⟨ao43, ⟨len43, ⟨cap43, ⟨rfl, rfl⟩⟩⟩⟩
            refine incat ?_
            refine WpL.o (O.al tb (fun p11 => ?_))
            refine WpL.o (O.stA tb ?_)
            apply WpL.nil
            apply Out.seqN
            apply Wp.seq
            apply Wp.region
            refine WpL.v (V.mv) ?_
            refine WpL.v (V.ldA tb) ?_
            refine WpL.o (Op1.callT rfl (hA3) (by (repeat (first | exact Sel.nil | exact Rem.here | apply Sel.cons | apply Rem.there))) ?_)
            rintro v7 s8 ⟨ao46, ⟨len46, ⟨cap46, ⟨rfl, rfl⟩⟩⟩⟩
            refine incat ?_
            refine WpL.o (O.al tb (fun p12 => ?_))
            refine WpL.o (O.stA tb ?_)
            apply WpL.nil
            apply Out.seqN
            apply Wp.seq
            apply Wp.seq
            apply Wp.region
            refine WpL.v (V.ldA tb) ?_
            refine WpL.o (Op1.fn rfl (hW) ?_)
            refine WpL.v (V.not) ?_
            refine WpL.v (V.mv) ?_
            refine WpL.v (V.fa tb) ?_
            refine WpL.v (V.ld1 tb) ?_
            refine WpL.v (V.cmp) ?_
            refine WpL.v (V.pF) ?_
            apply WpL.nil
            apply Out.seqN
            refine Wp.c (fun hv49 => ?_) (fun hv49 => ?_)
            (try simp only [decide_eq_true_eq, decide_eq_false_iff_not, Bool.not_eq_true', Bool.not_eq_false', Bool.not_eq_true, Bool.not_eq_false, not_true_eq_false, not_false_eq_true, reduceCtorEq] at hv49)
            (try simp only [decide_eq_true_eq, decide_eq_false_iff_not, Bool.not_eq_true', Bool.not_eq_false', Bool.not_eq_true, Bool.not_eq_false, not_true_eq_false, not_false_eq_true, reduceCtorEq] at hv49)
            apply Wp.skip
            apply Out.seqN
            apply Wp.seq
            apply Wp.seq
            apply Wp.region
            refine WpL.v (V.fa tb) ?_
            refine WpL.v (V.ld1 tb) ?_
            refine WpL.v (V.cmp) ?_
            apply WpL.nil
            apply Out.seqN
            refine Wp.c (fun hv410 => ?_) (fun hv410 => ?_)
            (try simp only [decide_eq_true_eq, decide_eq_false_iff_not, Bool.not_eq_true', Bool.not_eq_false', Bool.not_eq_true, Bool.not_eq_false, not_true_eq_false, not_false_eq_true, reduceCtorEq] at hv410)
            (exfalso; omega)
            (try simp only [decide_eq_true_eq, decide_eq_false_iff_not, Bool.not_eq_true', Bool.not_eq_false', Bool.not_eq_true, Bool.not_eq_false, not_true_eq_false, not_false_eq_true, reduceCtorEq] at hv410)
            apply Wp.skip
            apply Out.seqN
            apply Wp.seq
            apply Wp.region
            refine WpL.v (V.fa tb) ?_
            refine WpL.v (V.ld1 tb) ?_
            refine WpL.v (V.fa tb) ?_
            refine WpL.v (V.ld1 tb) ?_
            refine WpL.v (V.add) ?_
            refine WpL.v (V.cmp) ?_
            refine WpL.v (V.mv) ?_
            refine WpL.pt (fun hv411 => ?_) (fun hv411 => ?_)
            (try simp only [decide_eq_true_eq, decide_eq_false_iff_not, Bool.not_eq_true', Bool.not_eq_false', Bool.not_eq_true, Bool.not_eq_false, not_true_eq_false, not_false_eq_true, reduceCtorEq] at hv411)
            refine WpL.v (V.fa tb) ?_
            refine WpL.v (V.ld1 tb) ?_
            refine WpL.v (V.fa tb) ?_
            refine WpL.v (V.ld1 tb) ?_
            refine WpL.v (V.cmpS) ?_
            refine WpL.v (V.pT) ?_
            refine WpL.v (V.mv) ?_
            refine WpL.pt (fun hv412 => ?_) (fun hv412 => ?_)
            (try simp only [decide_eq_true_eq, decide_eq_false_iff_not, Bool.not_eq_true', Bool.not_eq_false', Bool.not_eq_true, Bool.not_eq_false, not_true_eq_false, not_false_eq_true, reduceCtorEq] at hv412)
            refine WpL.v (V.fa tb) ?_
            refine WpL.v (V.ld1 tb) ?_
            refine WpL.v (V.fa tb) ?_
            refine WpL.v (V.ld1 tb) ?_
            refine WpL.v (V.cmp) ?_
            refine WpL.v (V.pT) ?_
            refine WpL.v (V.mv) ?_
            refine WpL.pt (fun hv413 => ?_) (fun hv413 => ?_)
            (try simp only [decide_eq_true_eq, decide_eq_false_iff_not, Bool.not_eq_true', Bool.not_eq_false', Bool.not_eq_true, Bool.not_eq_false, not_true_eq_false, not_false_eq_true, reduceCtorEq] at hv413)
            refine WpL.v (V.fa tb) ?_
            refine WpL.v (V.ld1 tb) ?_
            refine WpL.v (V.cmp) ?_
            refine WpL.v (V.mv) ?_
            refine WpL.pt (fun hv414 => ?_) (fun hv414 => ?_)
            (try simp only [decide_eq_true_eq, decide_eq_false_iff_not, Bool.not_eq_true', Bool.not_eq_false', Bool.not_eq_true, Bool.not_eq_false, not_true_eq_false, not_false_eq_true, reduceCtorEq] at hv414)
            (exfalso; omega)
            (try simp only [decide_eq_true_eq, decide_eq_false_iff_not, Bool.not_eq_true', Bool.not_eq_false', Bool.not_eq_true, Bool.not_eq_false, not_true_eq_false, not_false_eq_true, reduceCtorEq] at hv414)
            refine WpL.v (V.fa tb) ?_
            refine WpL.v (V.ld1 tb) ?_
            refine WpL.v (V.fa tb) ?_
            refine WpL.v (V.ld1 tb) ?_
            refine WpL.v (V.cmp) ?_
            refine WpL.v (V.pF) ?_
            refine WpL.v (V.pT) ?_
            refine WpL.v (V.as) ?_
            apply WpL.nil
            apply Out.seqN
            apply Wp.ret
            refine Out.f1 rfl ResIs.t ⟨?_, rfl⟩
            rotate_left
            (try simp only [decide_eq_true_eq, decide_eq_false_iff_not, Bool.not_eq_true', Bool.not_eq_false', Bool.not_eq_true, Bool.not_eq_false, not_true_eq_false, not_false_eq_true, reduceCtorEq] at hv413)
            (try simp only [decide_eq_true_eq, decide_eq_false_iff_not, Bool.not_eq_true', Bool.not_eq_false', Bool.not_eq_true, Bool.not_eq_false, not_true_eq_false, not_false_eq_true, reduceCtorEq] at hv412)
            (try simp only [decide_eq_true_eq, decide_eq_false_iff_not, Bool.not_eq_true', Bool.not_eq_false', Bool.not_eq_true, Bool.not_eq_false, not_true_eq_false, not_false_eq_true, reduceCtorEq] at hv411)
            (exfalso; omega)
            · simp [hkv, hv3]
          · apply Wp.seq
            apply Wp.region
            refine WpL.v (V.cmp) ?_
            apply WpL.nil
            apply Out.seqN
            apply Wp.seq
            refine Wp.c (fun hv50 => ?_) (fun hv50 => ?_)
            (try simp only [decide_eq_true_eq, decide_eq_false_iff_not, Bool.not_eq_true', Bool.not_eq_false', Bool.not_eq_true, Bool.not_eq_false, not_true_eq_false, not_false_eq_true, reduceCtorEq] at hv50)
            (exfalso; omega)
            (try simp only [decide_eq_true_eq, decide_eq_false_iff_not, Bool.not_eq_true', Bool.not_eq_false', Bool.not_eq_true, Bool.not_eq_false, not_true_eq_false, not_false_eq_true, reduceCtorEq] at hv50)
            apply Wp.exit
            apply Out.seqE
            apply Out.seqE
            apply Out.blockE
            apply Out.seqN
            apply Wp.seq
            apply Wp.region
            refine WpL.v (V.mv) ?_
            refine WpL.o (Op1.callT rfl (hB) (by (repeat (first | exact Sel.nil | exact Rem.here | apply Sel.cons | apply Rem.there))) ?_)
            rintro v1 s2 ⟨rfl, rfl⟩
            refine incat ?_
            refine WpL.v (V.as) ?_
            apply WpL.nil
            apply Out.seqN
            apply Wp.seq
            apply Wp.region
            refine WpL.v (V.fa tb) ?_
            refine WpL.v (V.ld1 tb) ?_
            refine WpL.v (V.bld tb (c' := TDeed.c ⟨1, d.Key, [], 0, 0, 0⟩)) ?_
            refine WpL.o (O.al tb (fun p9 => ?_))
            refine WpL.o (O.stA tb ?_)
            apply WpL.nil
            apply Out.seqN
            apply Wp.seq
            apply Wp.region
            refine WpL.v (V.mv) ?_
            refine WpL.v (V.ldA tb) ?_
            refine WpL.o (Op1.callT rfl (hA1) (by (repeat (first | exact Sel.nil | exact Rem.here | apply Sel.cons | apply Rem.there))) ?_)
            rintro v3 s4 ⟨ao40, ⟨len40, ⟨cap40, ⟨rfl, rfl⟩⟩⟩⟩
            refine incat ?_
            refine WpL.o (O.al tb (fun p10 => ?_))
            refine WpL.o (O.stA tb ?_)
            apply WpL.nil
            apply Out.seqN
            apply Wp.seq
            apply Wp.region
            refine WpL.v (V.mv) ?_
            refine WpL.v (V.ldA tb) ?_
            refine WpL.o (Op1.callT rfl (hA2) (by (repeat (first | exact Sel.nil | exact Rem.here | apply Sel.cons | apply Rem.there))) ?_)
            rintro v5 s6 ⟨ao43, ⟨len43, ⟨cap43, ⟨rfl, rfl⟩⟩⟩⟩
            refine incat ?_
            refine WpL.o (O.al tb (fun p11 => ?_))
            refine WpL.o (O.stA tb ?_)
            apply WpL.nil
            apply Out.seqN
            apply Wp.seq
            apply Wp.region
            refine WpL.v (V.mv) ?_
            refine WpL.v (V.ldA tb) ?_
            refine WpL.o (Op1.callT rfl (hA3) (by (repeat (first | exact Sel.nil | exact Rem.here | apply Sel.cons | apply Rem.there))) ?_)
            rintro v7 s8 ⟨ao46, ⟨len46, ⟨cap46, ⟨rfl, rfl⟩⟩⟩⟩
            refine incat ?_
            refine WpL.o (O.al tb (fun p12 => ?_))
            refine WpL.o (O.stA tb ?_)
            apply WpL.nil
            apply Out.seqN
            apply Wp.seq
            apply Wp.seq
            apply Wp.region
            refine WpL.v (V.ldA tb) ?_
            refine WpL.o (Op1.fn rfl (hW) ?_)
            refine WpL.v (V.not) ?_
            refine WpL.v (V.mv) ?_
            refine WpL.v (V.fa tb) ?_
            refine WpL.v (V.ld1 tb) ?_
            refine WpL.v (V.cmp) ?_
            refine WpL.v (V.pF) ?_
            apply WpL.nil
            apply Out.seqN
            refine Wp.c (fun hv59 => ?_) (fun hv59 => ?_)
            (try simp only [decide_eq_true_eq, decide_eq_false_iff_not, Bool.not_eq_true', Bool.not_eq_false', Bool.not_eq_true, Bool.not_eq_false, not_true_eq_false, not_false_eq_true, reduceCtorEq] at hv59)
            (try simp only [decide_eq_true_eq, decide_eq_false_iff_not, Bool.not_eq_true', Bool.not_eq_false', Bool.not_eq_true, Bool.not_eq_false, not_true_eq_false, not_false_eq_true, reduceCtorEq] at hv59)
            apply Wp.skip
            apply Out.seqN
            apply Wp.seq
            apply Wp.seq
            apply Wp.region
            refine WpL.v (V.fa tb) ?_
            refine WpL.v (V.ld1 tb) ?_
            refine WpL.v (V.cmp) ?_
            apply WpL.nil
            apply Out.seqN
            refine Wp.c (fun hv510 => ?_) (fun hv510 => ?_)
            (try simp only [decide_eq_true_eq, decide_eq_false_iff_not, Bool.not_eq_true', Bool.not_eq_false', Bool.not_eq_true, Bool.not_eq_false, not_true_eq_false, not_false_eq_true, reduceCtorEq] at hv510)
            (exfalso; omega)
            (try simp only [decide_eq_true_eq, decide_eq_false_iff_not, Bool.not_eq_true', Bool.not_eq_false', Bool.not_eq_true, Bool.not_eq_false, not_true_eq_false, not_false_eq_true, reduceCtorEq] at hv510)
            apply Wp.skip
            apply Out.seqN
            apply Wp.seq
            apply Wp.region
            refine WpL.v (V.fa tb) ?_
            refine WpL.v (V.ld1 tb) ?_
            refine WpL.v (V.fa tb) ?_
            refine WpL.v (V.ld1 tb) ?_
            refine WpL.v (V.add) ?_
            refine WpL.v (V.cmp) ?_
            refine WpL.v (V.mv) ?_
            refine WpL.pt (fun hv511 => ?_) (fun hv511 => ?_)
            (try simp only [decide_eq_true_eq, decide_eq_false_iff_not, Bool.not_eq_true', Bool.not_eq_false', Bool.not_eq_true, Bool.not_eq_false, not_true_eq_false, not_false_eq_true, reduceCtorEq] at hv511)
            refine WpL.v (V.fa tb) ?_
            refine WpL.v (V.ld1 tb) ?_
            refine WpL.v (V.fa tb) ?_
            refine WpL.v (V.ld1 tb) ?_
            refine WpL.v (V.cmpS) ?_
            refine WpL.v (V.pT) ?_
            refine WpL.v (V.mv) ?_
            refine WpL.pt (fun hv512 => ?_) (fun hv512 => ?_)
            (try simp only [decide_eq_true_eq, decide_eq_false_iff_not, Bool.not_eq_true', Bool.not_eq_false', Bool.not_eq_true, Bool.not_eq_false, not_true_eq_false, not_false_eq_true, reduceCtorEq] at hv512)
            refine WpL.v (V.fa tb) ?_
            refine WpL.v (V.ld1 tb) ?_
            refine WpL.v (V.fa tb) ?_
            refine WpL.v (V.ld1 tb) ?_
            refine WpL.v (V.cmp) ?_
            refine WpL.v (V.pT) ?_
            refine WpL.v (V.mv) ?_
            refine WpL.pt (fun hv513 => ?_) (fun hv513 => ?_)
            (try simp only [decide_eq_true_eq, decide_eq_false_iff_not, Bool.not_eq_true', Bool.not_eq_false', Bool.not_eq_true, Bool.not_eq_false, not_true_eq_false, not_false_eq_true, reduceCtorEq] at hv513)
            refine WpL.v (V.fa tb) ?_
            refine WpL.v (V.ld1 tb) ?_
            refine WpL.v (V.cmp) ?_
            refine WpL.v (V.mv) ?_
            refine WpL.pt (fun hv514 => ?_) (fun hv514 => ?_)
            (try simp only [decide_eq_true_eq, decide_eq_false_iff_not, Bool.not_eq_true', Bool.not_eq_false', Bool.not_eq_true, Bool.not_eq_false, not_true_eq_false, not_false_eq_true, reduceCtorEq] at hv514)
            refine WpL.sk ?_
            refine WpL.sk ?_
            refine WpL.sk ?_
            refine WpL.sk ?_
            refine WpL.sk ?_
            refine WpL.v (V.pT) ?_
            refine WpL.v (V.pT) ?_
            refine WpL.v (V.as) ?_
            apply WpL.nil
            apply Out.seqN
            apply Wp.ret
            refine Out.f1 rfl ResIs.t ⟨?_, rfl⟩
            exact rfl
            (try simp only [decide_eq_true_eq, decide_eq_false_iff_not, Bool.not_eq_true', Bool.not_eq_false', Bool.not_eq_true, Bool.not_eq_false, not_true_eq_false, not_false_eq_true, reduceCtorEq] at hv514)
            (exfalso; omega)
            (try simp only [decide_eq_true_eq, decide_eq_false_iff_not, Bool.not_eq_true', Bool.not_eq_false', Bool.not_eq_true, Bool.not_eq_false, not_true_eq_false, not_false_eq_true, reduceCtorEq] at hv513)
            (try simp only [decide_eq_true_eq, decide_eq_false_iff_not, Bool.not_eq_true', Bool.not_eq_false', Bool.not_eq_true, Bool.not_eq_false, not_true_eq_false, not_false_eq_true, reduceCtorEq] at hv512)
            (try simp only [decide_eq_true_eq, decide_eq_false_iff_not, Bool.not_eq_true', Bool.not_eq_false', Bool.not_eq_true, Bool.not_eq_false, not_true_eq_false, not_false_eq_true, reduceCtorEq] at hv511)
            (exfalso; omega)
      · have e1 : (doA l d).l = l := doA_err he
        rw [e1] at hA2
        clear hA3 hB2
        generalize doA l d = x2 at *
        generalize doA l ⟨1, d.Key, [], 0, 0, 0⟩ = x1 at *
        apply Wp.seq
        apply Wp.region
        refine WpL.v (V.cmp) ?_
        apply WpL.nil
        apply Out.seqN
        apply Wp.seq
        refine Wp.c (fun hv60 => ?_) (fun hv60 => ?_)
        (try simp only [decide_eq_true_eq, decide_eq_false_iff_not, Bool.not_eq_true', Bool.not_eq_false', Bool.not_eq_true, Bool.not_eq_false, not_true_eq_false, not_false_eq_true, reduceCtorEq] at hv60)
        (exfalso; omega)
        (try simp only [decide_eq_true_eq, decide_eq_false_iff_not, Bool.not_eq_true', Bool.not_eq_false', Bool.not_eq_true, Bool.not_eq_false, not_true_eq_false, not_false_eq_true, reduceCtorEq] at hv60)
        apply Wp.exit
        apply Out.seqE
        apply Out.seqE
        apply Out.blockE
        apply Out.seqN
        apply Wp.seq
        apply Wp.region
        refine WpL.v (V.mv) ?_
        refine WpL.o (Op1.callT rfl (hB) (by (repeat (first | exact Sel.nil | exact Rem.here | apply Sel.cons | apply Rem.there))) ?_)
        rintro v1 s2 ⟨rfl, rfl⟩
        refine incat ?_
        refine WpL.v (V.as) ?_
        apply WpL.nil
        apply Out.seqN
        apply Wp.seq
        apply Wp.region
        refine WpL.v (V.fa tb) ?_
        refine WpL.v (V.ld1 tb) ?_
        refine WpL.v (V.bld tb (c' := TDeed.c ⟨1, d.Key, [], 0, 0, 0⟩)) ?_
        refine WpL.o (O.al tb (fun p9 => ?_))
        refine WpL.o (O.stA tb ?_)
        apply WpL.nil
        apply Out.seqN
        apply Wp.seq
        apply Wp.region
        refine WpL.v (V.mv) ?_
        refine WpL.v (V.ldA tb) ?_
        refine WpL.o (Op1.callT rfl (hA1) (by (repeat (first | exact Sel.nil | exact Rem.here | apply Sel.cons | apply Rem.there))) ?_)
        rintro v3 s4 ⟨ao40, ⟨len40, ⟨cap40, ⟨rfl, rfl⟩⟩⟩⟩
        refine incat ?_
        refine WpL.o (O.al tb (fun p10 => ?_))
        refine WpL.o (O.stA tb ?_)
        apply WpL.nil
        apply Out.seqN
        apply Wp.seq
        apply Wp.region
        refine WpL.v (V.mv) ?_
        refine WpL.v (V.ldA tb) ?_
        refine WpL.o (Op1.callT rfl (hA2) (by (repeat (first | exact Sel.nil | exact Rem.here | apply Sel.cons | apply Rem.there))) ?_)
        rintro v5 s6 ⟨ao43, ⟨len43, ⟨cap43, ⟨rfl, rfl⟩⟩⟩⟩
        refine incat ?_
        refine WpL.o (O.al tb (fun p11 => ?_))
        refine WpL.o (O.stA tb ?_)
        apply WpL.nil
        apply Out.seqN
        apply Wp.seq
        apply Wp.region
        refine WpL.v (V.mv) ?_
        refine WpL.v (V.ldA tb) ?_
        refine WpL.o (Op1.callT rfl (hA1) (by (repeat (first | exact Sel.nil | exact Rem.here | apply Sel.cons | apply Rem.there))) ?_)
        rintro v7 s8 ⟨ao46, ⟨len46, ⟨cap46, ⟨rfl, rfl⟩⟩⟩⟩
        refine incat ?_
        refine WpL.o (O.al tb (fun p12 => ?_))
        refine WpL.o (O.stA tb ?_)
        apply WpL.nil
        apply Out.seqN
        apply Wp.seq
        apply Wp.seq
        apply Wp.region
        refine WpL.v (V.ldA tb) ?_
        refine WpL.o (Op1.fn rfl (hW) ?_)
        refine WpL.v (V.not) ?_
        refine WpL.v (V.mv) ?_
        refine WpL.v (V.fa tb) ?_
        refine WpL.v (V.ld1 tb) ?_
        refine WpL.v (V.cmp) ?_
        refine WpL.v (V.pF) ?_
        apply WpL.nil
        apply Out.seqN
        refine Wp.c (fun hv69 => ?_) (fun hv69 => ?_)
        (try simp only [decide_eq_true_eq, decide_eq_false_iff_not, Bool.not_eq_true', Bool.not_eq_false', Bool.not_eq_true, Bool.not_eq_false, not_true_eq_false, not_false_eq_true, reduceCtorEq] at hv69)
        apply Wp.seq
        apply Wp.region
        refine WpL.v (V.mv) ?_
        refine WpL.o (Op1.callT rfl (hB) (by (repeat (first | exact Sel.nil | exact Rem.here | apply Sel.cons | apply Rem.there))) ?_)
        rintro v10 s11 ⟨rfl, rfl⟩
        refine incat ?_
        refine WpL.v (V.mv) ?_
        refine WpL.v (V.cmpS) ?_
        refine WpL.v (V.mv) ?_
        refine WpL.pt (fun hv612 => ?_) (fun hv612 => ?_)
        (try simp only [decide_eq_true_eq, decide_eq_false_iff_not, Bool.not_eq_true', Bool.not_eq_false', Bool.not_eq_true, Bool.not_eq_false, not_true_eq_false, not_false_eq_true, reduceCtorEq] at hv612)
        refine WpL.v (V.ldA tb) ?_
        refine WpL.v (V.ldA tb) ?_
        refine WpL.o (Op1.callT rfl (same_rows ⟨x1.err, x1.val, x1.ver, _⟩ ⟨x1.err, x1.val, x1.ver, _⟩ x1.keys x1.keys) (by (repeat (first | exact Sel.nil | exact Rem.here | apply Sel.cons | apply Rem.there))) ?_)
        rintro v13 s14 ⟨rfl, rfl⟩
        refine incat ?_
        refine WpL.v (V.pT) ?_
        refine WpL.v (V.as) ?_
        apply WpL.nil
        apply Out.seqN
        apply Wp.ret
        apply Out.seqR
        refine Out.f1 rfl ResIs.t ⟨?_, rfl⟩
        rotate_left
        (try simp only [decide_eq_true_eq, decide_eq_false_iff_not, Bool.not_eq_true', Bool.not_eq_false', Bool.not_eq_true, Bool.not_eq_false, not_true_eq_false, not_false_eq_true, reduceCtorEq] at hv612)
        (try simp only [decide_eq_true_eq, decide_eq_false_iff_not, Bool.not_eq_true', Bool.not_eq_false', Bool.not_eq_true, Bool.not_eq_false, not_true_eq_false, not_false_eq_true, reduceCtorEq] at hv69)
        (exfalso; omega)
        · rw [sameR_self]
open Go Go.ChangeShapes Go.WideShapes Go.ChangeAt Go.RowKit
theorem registryVersions_read : (Try.f7.params.toList.all fun t => Try.prog.readableRec t && decide (t < Try.prog.types.size)) = true := by kernel_rfl
theorem registryVersions_lifted (os : Go.Os) (started : os.Started) (H : Type) (enc : Go.TypeId × Go.Value → H) :
    ReturnsInHanded {} Try.checked os 7 .any (Rows.registryVersionsSpec.pre6 enc Try.prog Try.f7 Rows.registryVersionsRow.domain false) (Rows.registryVersionsSpec.post enc Try.prog Try.f7 false true false false) := by
  refine returnsInHanded_of_change_sized (C := Try.checked) own started (by kernel_rfl) Try.func7
    (ChangeSpec.witness6 (enc := enc) (C := Try.checked) false ⟨#[], #[.slice none 0 0, A TDeed.z.c], []⟩ 8 (by kernel_rfl) (by kernel_rfl) (by kernel_rfl) (by kernel_rfl)) ?_
  intro W base args ds gs before hval0 hW hcnd hsz0 _
  have hsz : (DataW.weightsEach Try.prog (Try.f7.params.toList ++ Rows.registryVersionsSpec.plain.varTypes Try.prog) (ds ++ gs)).all (· ≤ reachBytes) = true := hsz0
  have hval : ∀ (j : Nat) t v, Try.f7.params[j]? = some t → args[j]? = some v → Value.okWide Try.prog W .any base t v := hval0
  have hW' := hW
  obtain ⟨p, q, hA0, hV, rfl, hfz, hnd⟩ := hW
  have hA1 : DataW.TrodAll enc Try.prog W 0 (fun _ => true) true Try.f7.params.toList args.toList ds p := hA0
  have hA := hA1
  rw [Try.params7] at hA hval hsz
  obtain ⟨v0, vs0, d0, ds0, p0, q0, hargs, rfl, rfl, h0, r0⟩ := trodAll_cons hA
  obtain ⟨v1, vs1, d1, ds1, p1, q1, rfl, rfl, rfl, h1, r1⟩ := trodAll_cons r0
  obtain ⟨rfl, rfl, rfl⟩ := trodAll_nil r1
  obtain rfl : args = #[v0, v1] := by cases args; simp_all
  obtain ⟨rfl, rfl⟩ := trodVars_none hV
  obtain ⟨ao0, b0, off0, len0, cap0, xs0, rfl, hl0, hlc0, hcm0, ha0, hs0, hf0, hby0⟩ := open_slice_plain Try.underlying22 TDeed.leaves (by kernel_rfl) (by decide) (hval 0 22 v0 rfl rfl) h0 (sizedAll hsz 0 rfl rfl)
  obtain ⟨x0, rfl, w0⟩ := fits_map TDeed.c TDeed.wf hf0 TDeed.fit
  obtain rfl : len0 = x0.length := by simpa using hl0.symm
  obtain ⟨c1, rfl, f1⟩ := open_plain TDeed.leaves ⟨_, Try.underlying28⟩ (hval 1 28 v1 rfl rfl) h1 (sizedAll hsz 1 rfl rfl)
  obtain ⟨x1, rfl, w1⟩ := TDeed.fit f1
  simp only [List.append_nil] at hW' hA1
  have hbl : ∀ p : Nat × Nat, p ∈ [(x0.length, b0)] → 0 < p.1 → p.2 < W.heap.size := by
    intro p hp h0
    simp only [List.mem_cons, List.mem_nil_iff, or_false] at hp
    rcases hp with rfl
    · exact (ha0 h0).2
  have hR0 : Rd (snap W (blocksOf [(x0.length, b0)])) ao0 x0.length b0 off0 6 (x0.map TDeed.c) := Rd.snap (by simp) (Nat.le_trans hlc0 hcm0) ha0 hs0 (fun h => blocksOf_mem (len := x0.length) (by simp) h)
  refine (Ct.runSnap (blocksOf_nodup _) (blocksOf_lt hbl) (registryVersions_walk _ _ _ _ _ x0 x1 (fun x hx => ⟨(w0 x hx).2.1, (w0 x hx).2.2.1⟩) ⟨w1.2.1, w1.2.2.1⟩ hR0)).mono fun e W' hh => ?_
  obtain ⟨rfl, hS⟩ := hh
  exact ⟨_, rfl, post_law (P := Try.prog) (f := Try.f7) (tbool := 4) hW' hA1 rfl rfl hS laid registryVersions_read rfl Try.underlying4⟩
theorem registryVersions_joined : joinedFacts Try.prog 7 Try.f7 Rows.registryVersionsSpec Rows.registryVersionsRow = true := by
  unfold joinedFacts
  rewrite [head_enter, head_lift, head_make]
  kernel_rfl
theorem registryVersions_over : Rows.registryVersionsRow.holds Try.pinned (OpenSpec.ofChange Rows.registryVersionsSpec) :=
  OpenClaim.holds_of_wide 7 Try.f7 rfl rfl rfl rfl rfl rfl rfl ⟨rfl, rfl, rfl, rfl, rfl⟩ rfl rfl rfl rfl rfl (by kernel_rfl) Try.func7 registryVersions_joined
    (of_decide_eq_true (by kernel_rfl)) (by unfold Func.isWrapper; first | (rw [if_pos (by decide +kernel)]; kernel_rfl) | (rw [if_neg (by decide +kernel)]; exact ⟨rfl, rfl⟩))
    (fun os started H enc _ => registryVersions_lifted os started H enc)
/-- THE STATEMENT. -/
theorem registryVersions_proved : Rows.RegistryVersionsSaid := registryVersions_over
#print axioms registryVersions_proved

end Go.Proofs.Ytgihkocnmgkihaa
