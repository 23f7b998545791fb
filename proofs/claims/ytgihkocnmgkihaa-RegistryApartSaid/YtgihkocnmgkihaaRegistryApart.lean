/-
  The statement RegistryApart of layer 20: two deeds that don't clash come to the same replies, and the same registry, in either order. Proved for every input.
-/
import Derived.Test.YtgihkocnmgkihaaHead
import Derived.Test.YtgihkocnmgkihaaApa
import Derived.Test.YtgihkocnmgkihaaHeapQ
namespace Go.Proofs.Ytgihkocnmgkihaa
open Go.HL
set_option linter.unusedSimpArgs false
set_option linter.unusedVariables false
set_option maxRecDepth 8000
structure RA20 where
  k : Nat
  l : PM
theorem DR.Eqs.same {x y : DR} (h : x.Eqs y) (v v' : Go.Value) : sameR ⟨x.err, x.val, x.ver, v⟩ ⟨y.err, y.val, y.ver, v'⟩ x.keys y.keys = true := by
  unfold sameR
  simp [h.err, h.val, h.ver, h.keys]
set_option maxHeartbeats 4000000 in
theorem registryApart_walk (e : Ent) (ao : Option Go.Addr) (cap b off : Nat) (xs : List TDeed) (d1 d2 : TDeed) (hw : ∀ x ∈ xs, x.Key.length ≤ 140737488351232 ∧ x.Value.length ≤ 140737488351232) (hd1 : d1.Key.length ≤ 140737488351232 ∧ d1.Value.length ≤ 140737488351232) (hd2 : d2.Key.length ≤ 140737488351232 ∧ d2.Value.length ≤ 140737488351232) (hR : Rd e ao xs.length b off 6 (xs.map TDeed.c)) :
    Ct Try.prog 6 [.slice ao xs.length cap, A d1.c, A d2.c] [e] (fun r σ' => r = B true ∧ σ' = [e]) := by
  have hm := hR.small
  simp only [Go.maxLen] at hm
  have hG := great20z e ao cap b off xs hw hR
  have hG1 (g : Nat) := great20z (row (.slice (some ⟨g, 0, none⟩) 2 2) 28 6 2 (d1.c ++ d2.c)) (some ⟨g, 0, none⟩) 2 g 0 [d1, d2] (by intro q hq; simp at hq; rcases hq with rfl | rfl <;> assumption) (Rd.lits (E := 28) (cap := 2) TDeed.c [d1, d2] rfl (by simp) TDeed.len (by simp))
  have hN := reg_new
  have hC := ref_clash d1 d2
  unfold rgE mE at hN
  refine Ct.enter Try.func6 rfl rfl fun W => ?_
  apply Wp.seq
  apply Wp.region
  refine WpL.o (O.bxA (fun p4 => ?_))
  refine WpL.o (O.bxA (fun p5 => ?_))
  refine WpL.v (V.as) ?_
  apply WpL.nil
  apply Out.seqN
  apply Wp.seq
  apply Wp.seq
  apply Wp.region
  refine WpL.o (Op1.fn rfl (alive20) ?_)
  refine WpL.v (V.not) ?_
  apply WpL.nil
  apply Out.seqN
  refine Wp.cF ?_
  apply Wp.skip
  apply Out.seqN
  apply Wp.seq
  apply Wp.seq
  apply Wp.region
  refine WpL.v (V.mv) ?_
  refine WpL.o (Op1.callT rfl (hG) (by (repeat (first | exact Sel.nil | exact Rem.here | apply Sel.cons | apply Rem.there))) ?_)
  rintro v1 s2 ⟨t18, ⟨hx0, ⟨rfl, rfl⟩⟩⟩
  refine incat ?_
  refine WpL.v (V.mv) ?_
  refine WpL.pt (fun hp03 => ?_) (fun hp03 => ?_)
  (try simp only [decide_eq_true_eq, decide_eq_false_iff_not, Bool.not_eq_true', Bool.not_eq_false', Bool.not_eq_true, Bool.not_eq_false, not_true_eq_false, not_false_eq_true, reduceCtorEq] at hp03)
  refine WpL.sk ?_
  refine WpL.sk ?_
  refine WpL.sk ?_
  refine WpL.sk ?_
  refine WpL.v (V.pT) ?_
  refine WpL.v (V.mv) ?_
  refine WpL.sk ?_
  refine WpL.sk ?_
  refine WpL.sk ?_
  refine WpL.v (V.pT) ?_
  refine WpL.v (V.mv) ?_
  refine WpL.sk ?_
  refine WpL.sk ?_
  refine WpL.sk ?_
  refine WpL.v (V.pT) ?_
  refine WpL.v (V.mv) ?_
  refine WpL.sk ?_
  refine WpL.sk ?_
  refine WpL.sk ?_
  refine WpL.v (V.pT) ?_
  refine WpL.v (V.mv) ?_
  refine WpL.sk ?_
  refine WpL.sk ?_
  refine WpL.sk ?_
  refine WpL.v (V.pT) ?_
  refine WpL.v (V.mv) ?_
  refine WpL.sk ?_
  refine WpL.sk ?_
  refine WpL.sk ?_
  refine WpL.v (V.pT) ?_
  apply WpL.nil
  apply Out.seqN
  refine Wp.cT ?_
  apply Wp.seq
  apply Wp.region
  refine WpL.v (V.as) ?_
  apply WpL.nil
  apply Out.seqN
  apply Wp.ret
  apply Out.seqR
  refine Out.f1 rfl ResIs.t ⟨?_, rfl⟩
  exact rfl
  (try simp only [decide_eq_true_eq, decide_eq_false_iff_not, Bool.not_eq_true', Bool.not_eq_false', Bool.not_eq_true, Bool.not_eq_false, not_true_eq_false, not_false_eq_true, reduceCtorEq] at hp03)
  refine WpL.v (V.ldA tb) ?_
  refine WpL.v (V.ldA tb) ?_
  refine WpL.o (O.lit tb (fun p22 => ?_))
  refine WpL.o (Op1.callT rfl (hG1 _) (by (repeat (first | exact Sel.nil | exact Rem.here | apply Sel.cons | apply Rem.there))) ?_)
  rintro v5 s6 ⟨t23, ⟨hx4, ⟨rfl, rfl⟩⟩⟩
  refine incat ?_
  refine WpL.v (V.pF) ?_
  refine WpL.v (V.mv) ?_
  refine WpL.pt (fun hp07 => ?_) (fun hp07 => ?_)
  (try simp only [decide_eq_true_eq, decide_eq_false_iff_not, Bool.not_eq_true', Bool.not_eq_false', Bool.not_eq_true, Bool.not_eq_false, not_true_eq_false, not_false_eq_true, reduceCtorEq] at hp07)
  refine WpL.sk ?_
  refine WpL.sk ?_
  refine WpL.sk ?_
  refine WpL.v (V.pT) ?_
  refine WpL.v (V.mv) ?_
  refine WpL.sk ?_
  refine WpL.sk ?_
  refine WpL.sk ?_
  refine WpL.v (V.pT) ?_
  refine WpL.v (V.mv) ?_
  refine WpL.sk ?_
  refine WpL.sk ?_
  refine WpL.sk ?_
  refine WpL.v (V.pT) ?_
  refine WpL.v (V.mv) ?_
  refine WpL.sk ?_
  refine WpL.sk ?_
  refine WpL.sk ?_
  refine WpL.v (V.pT) ?_
  refine WpL.v (V.mv) ?_
  refine WpL.sk ?_
  refine WpL.sk ?_
  refine WpL.sk ?_
  refine WpL.v (V.pT) ?_
  apply WpL.nil
  apply Out.seqN
  refine Wp.cT ?_
  apply Wp.seq
  apply Wp.region
  refine WpL.v (V.as) ?_
  apply WpL.nil
  apply Out.seqN
  apply Wp.ret
  apply Out.seqR
  refine Out.f1 rfl ResIs.t ⟨?_, rfl⟩
  exact rfl
  (try simp only [decide_eq_true_eq, decide_eq_false_iff_not, Bool.not_eq_true', Bool.not_eq_false', Bool.not_eq_true, Bool.not_eq_false, not_true_eq_false, not_false_eq_true, reduceCtorEq] at hp07)
  refine WpL.v (V.ldA tb) ?_
  refine WpL.v (V.ldA tb) ?_
  refine WpL.o (Op1.fn rfl (hC) ?_)
  refine WpL.v (V.pF) ?_
  refine WpL.v (V.mv) ?_
  refine WpL.pt (fun hp08 => ?_) (fun hp08 => ?_)
  (try simp only [decide_eq_true_eq, decide_eq_false_iff_not, Bool.not_eq_true', Bool.not_eq_false', Bool.not_eq_true, Bool.not_eq_false, not_true_eq_false, not_false_eq_true, reduceCtorEq] at hp08)
  refine WpL.sk ?_
  refine WpL.sk ?_
  refine WpL.sk ?_
  refine WpL.v (V.pT) ?_
  refine WpL.v (V.mv) ?_
  refine WpL.sk ?_
  refine WpL.sk ?_
  refine WpL.sk ?_
  refine WpL.v (V.pT) ?_
  refine WpL.v (V.mv) ?_
  refine WpL.sk ?_
  refine WpL.sk ?_
  refine WpL.sk ?_
  refine WpL.v (V.pT) ?_
  refine WpL.v (V.mv) ?_
  refine WpL.sk ?_
  refine WpL.sk ?_
  refine WpL.sk ?_
  refine WpL.v (V.pT) ?_
  apply WpL.nil
  apply Out.seqN
  refine Wp.cT ?_
  apply Wp.seq
  apply Wp.region
  refine WpL.v (V.as) ?_
  apply WpL.nil
  apply Out.seqN
  apply Wp.ret
  apply Out.seqR
  refine Out.f1 rfl ResIs.t ⟨?_, rfl⟩
  exact rfl
  (try simp only [decide_eq_true_eq, decide_eq_false_iff_not, Bool.not_eq_true', Bool.not_eq_false', Bool.not_eq_true, Bool.not_eq_false, not_true_eq_false, not_false_eq_true, reduceCtorEq] at hp08)
  refine WpL.v (V.fa tb) ?_
  refine WpL.v (V.ld1 tb) ?_
  refine WpL.v (V.cmp) ?_
  refine WpL.v (V.pF) ?_
  refine WpL.v (V.mv) ?_
  refine WpL.pt (fun hp09 => ?_) (fun hp09 => ?_)
  (try simp only [decide_eq_true_eq, decide_eq_false_iff_not, Bool.not_eq_true', Bool.not_eq_false', Bool.not_eq_true, Bool.not_eq_false, not_true_eq_false, not_false_eq_true, reduceCtorEq] at hp09)
  refine WpL.sk ?_
  refine WpL.sk ?_
  refine WpL.sk ?_
  refine WpL.v (V.pT) ?_
  refine WpL.v (V.mv) ?_
  refine WpL.sk ?_
  refine WpL.sk ?_
  refine WpL.sk ?_
  refine WpL.v (V.pT) ?_
  refine WpL.v (V.mv) ?_
  refine WpL.sk ?_
  refine WpL.sk ?_
  refine WpL.sk ?_
  refine WpL.v (V.pT) ?_
  apply WpL.nil
  apply Out.seqN
  refine Wp.cT ?_
  apply Wp.seq
  apply Wp.region
  refine WpL.v (V.as) ?_
  apply WpL.nil
  apply Out.seqN
  apply Wp.ret
  apply Out.seqR
  refine Out.f1 rfl ResIs.t ⟨?_, rfl⟩
  exact rfl
  (try simp only [decide_eq_true_eq, decide_eq_false_iff_not, Bool.not_eq_true', Bool.not_eq_false', Bool.not_eq_true, Bool.not_eq_false, not_true_eq_false, not_false_eq_true, reduceCtorEq] at hp09)
  refine WpL.v (V.fa tb) ?_
  refine WpL.v (V.ld1 tb) ?_
  refine WpL.v (V.cmp) ?_
  refine WpL.v (V.pF) ?_
  refine WpL.v (V.mv) ?_
  refine WpL.pt (fun hp010 => ?_) (fun hp010 => ?_)
  (try simp only [decide_eq_true_eq, decide_eq_false_iff_not, Bool.not_eq_true', Bool.not_eq_false', Bool.not_eq_true, Bool.not_eq_false, not_true_eq_false, not_false_eq_true, reduceCtorEq] at hp010)
  refine WpL.sk ?_
  refine WpL.sk ?_
  refine WpL.sk ?_
  refine WpL.v (V.pT) ?_
  refine WpL.v (V.mv) ?_
  refine WpL.sk ?_
  refine WpL.sk ?_
  refine WpL.sk ?_
  refine WpL.v (V.pT) ?_
  apply WpL.nil
  apply Out.seqN
  refine Wp.cT ?_
  apply Wp.seq
  apply Wp.region
  refine WpL.v (V.as) ?_
  apply WpL.nil
  apply Out.seqN
  apply Wp.ret
  apply Out.seqR
  refine Out.f1 rfl ResIs.t ⟨?_, rfl⟩
  exact rfl
  (try simp only [decide_eq_true_eq, decide_eq_false_iff_not, Bool.not_eq_true', Bool.not_eq_false', Bool.not_eq_true, Bool.not_eq_false, not_true_eq_false, not_false_eq_true, reduceCtorEq] at hp010)
  refine WpL.v (V.fa tb) ?_
  refine WpL.v (V.ld1 tb) ?_
  refine WpL.v (V.cmp) ?_
  refine WpL.v (V.pF) ?_
  refine WpL.v (V.mv) ?_
  refine WpL.pt (fun hp011 => ?_) (fun hp011 => ?_)
  (try simp only [decide_eq_true_eq, decide_eq_false_iff_not, Bool.not_eq_true', Bool.not_eq_false', Bool.not_eq_true, Bool.not_eq_false, not_true_eq_false, not_false_eq_true, reduceCtorEq] at hp011)
  refine WpL.sk ?_
  refine WpL.sk ?_
  refine WpL.sk ?_
  refine WpL.v (V.pT) ?_
  apply WpL.nil
  apply Out.seqN
  refine Wp.cT ?_
  apply Wp.seq
  apply Wp.region
  refine WpL.v (V.as) ?_
  apply WpL.nil
  apply Out.seqN
  apply Wp.ret
  apply Out.seqR
  refine Out.f1 rfl ResIs.t ⟨?_, rfl⟩
  exact rfl
  (try simp only [decide_eq_true_eq, decide_eq_false_iff_not, Bool.not_eq_true', Bool.not_eq_false', Bool.not_eq_true, Bool.not_eq_false, not_true_eq_false, not_false_eq_true, reduceCtorEq] at hp011)
  refine WpL.v (V.fa tb) ?_
  refine WpL.v (V.ld1 tb) ?_
  refine WpL.v (V.cmp) ?_
  refine WpL.v (V.pF) ?_
  apply WpL.nil
  apply Out.seqN
  refine Wp.c (fun hp012 => ?_) (fun hp012 => ?_)
  (try simp only [decide_eq_true_eq, decide_eq_false_iff_not, Bool.not_eq_true', Bool.not_eq_false', Bool.not_eq_true, Bool.not_eq_false, not_true_eq_false, not_false_eq_true, reduceCtorEq] at hp012)
  apply Wp.seq
  apply Wp.region
  refine WpL.v (V.as) ?_
  apply WpL.nil
  apply Out.seqN
  apply Wp.ret
  apply Out.seqR
  refine Out.f1 rfl ResIs.t ⟨?_, rfl⟩
  exact rfl
  (try simp only [decide_eq_true_eq, decide_eq_false_iff_not, Bool.not_eq_true', Bool.not_eq_false', Bool.not_eq_true, Bool.not_eq_false, not_true_eq_false, not_false_eq_true, reduceCtorEq] at hp012)
  apply Wp.skip
  apply Out.seqN
  apply Wp.seq
  apply Wp.region
  refine WpL.o (Op1.callT rfl (hN) (by (repeat (first | exact Sel.nil | exact Rem.here | apply Sel.cons | apply Rem.there))) ?_)
  rintro v13 s14 ⟨b50, ⟨m50, ⟨rfl, rfl⟩⟩⟩
  refine incat ?_
  refine WpL.o (Op1.callT rfl (hN) (by (repeat (first | exact Sel.nil | exact Rem.here | apply Sel.cons | apply Rem.there))) ?_)
  rintro v15 s16 ⟨b51, ⟨m51, ⟨rfl, rfl⟩⟩⟩
  refine incat ?_
  refine WpL.v (V.as) ?_
  refine WpL.v (V.as) ?_
  apply WpL.nil
  apply Out.seqN
  apply Wp.seq
  apply Wp.seq
  apply Wp.region
  refine WpL.v (V.mv) ?_
  refine WpL.v (V.lenL tb) ?_
  refine WpL.v (V.mv) ?_
  apply WpL.nil
  apply Out.seqN
  apply Wp.block
  have hcl : clash d1 d2 = false := by assumption
  obtain ⟨hx80, hxs⟩ := hx0 (by assumption)
  have hds := (hx4 (by assumption)).2
  have hds1 := hds d1 (by simp)
  have hds2 := hds d2 (by simp)
  refine Wp.lp [53, 52, 8, 7, 5, 4] (fun y : RA20 => y.k ≤ xs.length ∧ RI y.k y.l ∧ RZ y.l) (fun y => [(54, I (y.k : Int))]) (fun y => [mapK kS vP m51 y.l, mapK kS vP m50 y.l]) (fun y => xs.length - y.k) ⟨0, []⟩ ⟨Nat.zero_le _, RI.zero, RZ.zero⟩ ?_
  rintro ⟨k, l⟩ ⟨hk, hi, hz⟩ K hK
  dsimp only at hk hi hz
  dsimp only [List.cons_append, List.nil_append]
  by_cases hlt : k < xs.length
  · obtain ⟨x, hx⟩ := getS hlt
    have hA := reg_any b50 m50 k l x hi (by omega)
    have hB := reg_any b51 m51 k l x hi (by omega)
    unfold mE at hA hB
    have hi2 := hi.any x
    have hz2 := hz.any hi (hxs x (List.mem_of_getElem? hx))
    apply Wp.seq
    apply Wp.region
    refine WpL.v (V.cmp) ?_
    apply WpL.nil
    apply Out.seqN
    apply Wp.seq
    refine Wp.c (fun hp10 => ?_) (fun hp10 => ?_)
    (try simp only [decide_eq_true_eq, decide_eq_false_iff_not, Bool.not_eq_true', Bool.not_eq_false', Bool.not_eq_true, Bool.not_eq_false, not_true_eq_false, not_false_eq_true, reduceCtorEq] at hp10)
    apply Wp.skip
    apply Out.seqN
    apply Wp.seq
    apply Wp.block
    apply Wp.seq
    apply Wp.region
    refine WpL.v (V.ixR tb rfl rfl (by assumption)) ?_
    refine WpL.v (V.ldRA tb rfl (by assumption) (getMapS (by assumption))) ?_
    refine WpL.o (O.al tb (fun p10 => ?_))
    refine WpL.o (O.stA tb ?_)
    apply WpL.nil
    apply Out.seqN
    apply Wp.seq
    apply Wp.region
    refine WpL.v (V.mv) ?_
    refine WpL.v (V.ldA tb) ?_
    refine WpL.o (Op1.callT rfl (hA) (by (repeat (first | exact Sel.nil | exact Rem.here | apply Sel.cons | apply Rem.there))) ?_)
    rintro v1 s2 ⟨ao60, ⟨len60, ⟨cap60, ⟨rfl, rfl⟩⟩⟩⟩
    refine incat ?_
    apply WpL.nil
    apply Out.seqN
    apply Wp.region
    refine WpL.v (V.mv) ?_
    refine WpL.v (V.ldA tb) ?_
    refine WpL.o (Op1.callT rfl (hB) (by (repeat (first | exact Sel.nil | exact Rem.here | apply Sel.cons | apply Rem.there))) ?_)
    rintro v3 s4 ⟨ao63, ⟨len63, ⟨cap63, ⟨rfl, rfl⟩⟩⟩⟩
    refine incat ?_
    apply WpL.nil
    apply Out.blockN
    apply Out.seqN
    apply Wp.region
    refine WpL.v (V.add) ?_
    refine WpL.v (V.mv) ?_
    apply WpL.nil
    rotate_left
    (try simp only [decide_eq_true_eq, decide_eq_false_iff_not, Bool.not_eq_true', Bool.not_eq_false', Bool.not_eq_true, Bool.not_eq_false, not_true_eq_false, not_false_eq_true, reduceCtorEq] at hp10)
    (exfalso; omega)
    exact Out.ag hK ⟨k + 1, (doA l x).l⟩ ⟨by show k + 1 ≤ _; omega, hi2, hz2⟩ (by show xs.length - (k + 1) < xs.length - k; omega)
  · obtain rfl : k = xs.length := by omega
    clear hK
    obtain ⟨e1, e2, e3⟩ := apart_law hi d1 d2 hcl
    have hia := hi.any d1
    have hza := hz.any hi hds1
    have hib := hi.any d2
    have hzb := hz.any hi hds2
    have hA1 := reg_any b50 m50 _ l d1 hi (by omega)
    have hA2 := reg_any b50 m50 _ (doA l d1).l d2 hia (by omega)
    have hB1 := reg_any b51 m51 _ l d2 hi (by omega)
    have hB2 := reg_any b51 m51 _ (doA l d2).l d1 hib (by omega)
    have hY1 := reg_bytes b50 m50 _ _ (hia.any d2) (hza.any hia hds2) (by omega)
    have hY2 := reg_bytes b51 m51 _ _ (hib.any d1) (hzb.any hib hds1) (by omega)
    rw [← e3] at hY2
    unfold mE at hA1 hA2 hB1 hB2
    unfold rgE mE at hY1 hY2
    generalize doA (doA l d1).l d2 = y at *
    generalize doA (doA l d2).l d1 = u at *
    generalize doA l d1 = x at *
    generalize doA l d2 = v at *
    apply Wp.seq
    apply Wp.region
    refine WpL.v (V.cmp) ?_
    apply WpL.nil
    apply Out.seqN
    apply Wp.seq
    refine Wp.c (fun hp20 => ?_) (fun hp20 => ?_)
    (try simp only [decide_eq_true_eq, decide_eq_false_iff_not, Bool.not_eq_true', Bool.not_eq_false', Bool.not_eq_true, Bool.not_eq_false, not_true_eq_false, not_false_eq_true, reduceCtorEq] at hp20)
    (exfalso; omega)
    (try simp only [decide_eq_true_eq, decide_eq_false_iff_not, Bool.not_eq_true', Bool.not_eq_false', Bool.not_eq_true, Bool.not_eq_false, not_true_eq_false, not_false_eq_true, reduceCtorEq] at hp20)
    apply Wp.exit
    apply Out.seqE
    apply Out.seqE
    apply Out.blockE
    apply Out.seqN
    refine Wp.mt [8, 7, 5, 4] (fun z : (Option Go.Addr × Nat × Nat) × (Option Go.Addr × Nat × Nat) × Nat × Nat => True) (fun z => [(11, Ptr z.2.2.1 0), (12, Ptr z.2.2.2 0)]) (fun z => [cells z.2.2.1 32 (RegistryReply.c ⟨x.err, x.val, x.ver, .slice z.1.1 z.1.2.1 z.1.2.2⟩), cells z.2.2.2 32 (RegistryReply.c ⟨y.err, y.val, y.ver, .slice z.2.1.1 z.2.1.2.1 z.2.1.2.2⟩), rows strc (.slice z.1.1 z.1.2.1 z.1.2.2) 9 1 x.keys, rows strc (.slice z.2.1.1 z.2.1.2.1 z.2.1.2.2) 9 1 y.keys, mapK kS vP m50 y.l]) (σ1 := [mapK kS vP m50 l]) ?_ ?_
    · intro K2 hK2
      refine Wp.dG [] ?_ (List.Sublist.cons _ (List.Sublist.cons _ (List.Sublist.cons _ (List.Sublist.cons _ (List.Sublist.cons _ (List.Sublist.cons _ (List.Sublist.cons_cons _ (List.Sublist.cons_cons _ List.Sublist.slnil)))))))) (List.Sublist.cons _ (List.Sublist.cons _ (List.Sublist.cons _ (List.Sublist.cons _ (List.Sublist.cons _ (List.Sublist.cons _ (List.Sublist.cons_cons _ (List.Sublist.cons_cons _ List.Sublist.slnil))))))))
      refine WpA.tF 0 rfl (V.mv) ?_
      refine WpA.tF 1 rfl (V.ldA tb) ?_
      refine WpA.tF 3 rfl (V.mv) ?_
      refine WpA.tF 4 rfl (V.ldA tb) ?_
      refine WpA.e3 2 6 7 rfl rfl rfl ?_ ?_ ?_
      refine Op1.callT rfl (hA1) (by (repeat (first | exact Sel.nil | exact Rem.here | apply Sel.cons | apply Rem.there))) ?_
      rintro v0 s1 ⟨ao67, ⟨len67, ⟨cap67, ⟨rfl, rfl⟩⟩⟩⟩
      refine incat ⟨?_, ?_, ?_⟩
      exact holdT
      exact holdT
      refine WpA.e3 5 6 7 rfl rfl rfl ?_ ?_ ?_
      refine Op1.callT rfl (hA2) (by (repeat (first | exact Sel.nil | exact Rem.here | apply Sel.cons | apply Rem.there))) ?_
      rintro v2 s3 ⟨ao70, ⟨len70, ⟨cap70, ⟨rfl, rfl⟩⟩⟩⟩
      refine incat ⟨?_, ?_, ?_⟩
      exact holdT
      exact holdT
      refine WpA.e2 6 7 rfl rfl ?_ ?_
      refine O.al tb (fun p11 => ⟨?_, ?_, ?_⟩)
      exact holdT
      exact holdT
      refine WpA.oS 7 rfl (O.al tb (fun p12 => ⟨?_, ?_, ?_⟩))
      exact holdT
      exact holdT
      refine WpA.oS 8 rfl (O.stA tb ⟨?_, ?_, ?_⟩)
      exact holdT
      exact holdT
      refine WpA.oS 9 rfl (O.stA tb ⟨?_, ?_, ?_⟩)
      exact holdT
      exact holdT
      refine WpA.ou ?_
      rotate_left
      refine O.al tb (fun p12 => ⟨?_, ?_, ?_⟩)
      exact holdT
      exact holdT
      refine WpA.oS 6 rfl (O.al tb (fun p11 => ⟨?_, ?_, ?_⟩))
      exact holdT
      exact holdT
      refine WpA.oS 8 rfl (O.stA tb ⟨?_, ?_, ?_⟩)
      exact holdT
      exact holdT
      refine WpA.oS 9 rfl (O.stA tb ⟨?_, ?_, ?_⟩)
      exact holdT
      exact holdT
      refine WpA.ou ?_
      rotate_left
      refine O.al tb (fun p11 => ⟨?_, ?_, ?_⟩)
      exact holdT
      exact holdT
      refine WpA.e2 5 7 rfl rfl ?_ ?_
      refine Op1.callT rfl (hA2) (by (repeat (first | exact Sel.nil | exact Rem.here | apply Sel.cons | apply Rem.there))) ?_
      rintro v7 s8 ⟨ao70_4, ⟨len70_5, ⟨cap70_6, ⟨rfl, rfl⟩⟩⟩⟩
      refine incat ⟨?_, ?_, ?_⟩
      exact holdT
      exact holdT
      refine WpA.oS 7 rfl (O.al tb (fun p12 => ⟨?_, ?_, ?_⟩))
      exact holdT
      exact holdT
      refine WpA.oS 8 rfl (O.stA tb ⟨?_, ?_, ?_⟩)
      exact holdT
      exact holdT
      refine WpA.oS 9 rfl (O.stA tb ⟨?_, ?_, ?_⟩)
      exact holdT
      exact holdT
      refine WpA.ou ?_
      rotate_left
      refine O.al tb (fun p12 => ⟨?_, ?_, ?_⟩)
      exact holdT
      exact holdT
      refine WpA.oS 5 rfl (Op1.callT rfl (hA2) (by (repeat (first | exact Sel.nil | exact Rem.here | apply Sel.cons | apply Rem.there))) ?_)
      rintro v12 s13 ⟨ao70_9, ⟨len70_10, ⟨cap70_11, ⟨rfl, rfl⟩⟩⟩⟩
      refine incat ⟨?_, ?_, ?_⟩
      exact holdT
      exact holdT
      refine WpA.oS 8 rfl (O.stA tb ⟨?_, ?_, ?_⟩)
      exact holdT
      exact holdT
      refine WpA.oS 9 rfl (O.stA tb ⟨?_, ?_, ?_⟩)
      exact holdT
      exact holdT
      refine WpA.ou ?_
      rotate_left
      refine O.al tb (fun p12 => ⟨?_, ?_, ?_⟩)
      exact holdT
      exact holdT
      refine WpA.e2 5 6 rfl rfl ?_ ?_
      refine Op1.callT rfl (hA2) (by (repeat (first | exact Sel.nil | exact Rem.here | apply Sel.cons | apply Rem.there))) ?_
      rintro v17 s18 ⟨ao70_14, ⟨len70_15, ⟨cap70_16, ⟨rfl, rfl⟩⟩⟩⟩
      refine incat ⟨?_, ?_, ?_⟩
      exact holdT
      exact holdT
      refine WpA.oS 6 rfl (O.al tb (fun p11 => ⟨?_, ?_, ?_⟩))
      exact holdT
      exact holdT
      refine WpA.oS 8 rfl (O.stA tb ⟨?_, ?_, ?_⟩)
      exact holdT
      exact holdT
      refine WpA.oS 9 rfl (O.stA tb ⟨?_, ?_, ?_⟩)
      exact holdT
      exact holdT
      refine WpA.ou ?_
      rotate_left
      refine O.al tb (fun p11 => ⟨?_, ?_, ?_⟩)
      exact holdT
      exact holdT
      refine WpA.oS 5 rfl (Op1.callT rfl (hA2) (by (repeat (first | exact Sel.nil | exact Rem.here | apply Sel.cons | apply Rem.there))) ?_)
      rintro v22 s23 ⟨ao70_19, ⟨len70_20, ⟨cap70_21, ⟨rfl, rfl⟩⟩⟩⟩
      refine incat ⟨?_, ?_, ?_⟩
      exact holdT
      exact holdT
      refine WpA.oS 8 rfl (O.stA tb ⟨?_, ?_, ?_⟩)
      exact holdT
      exact holdT
      refine WpA.oS 9 rfl (O.stA tb ⟨?_, ?_, ?_⟩)
      exact holdT
      exact holdT
      refine WpA.ou ?_
      rotate_left
      refine O.al tb (fun p11 => ⟨?_, ?_, ?_⟩)
      exact holdT
      exact holdT
      refine WpA.e2 2 7 rfl rfl ?_ ?_
      refine Op1.callT rfl (hA1) (by (repeat (first | exact Sel.nil | exact Rem.here | apply Sel.cons | apply Rem.there))) ?_
      rintro v27 s28 ⟨ao67_24, ⟨len67_25, ⟨cap67_26, ⟨rfl, rfl⟩⟩⟩⟩
      refine incat ⟨?_, ?_, ?_⟩
      exact holdT
      exact holdT
      refine WpA.e2 5 7 rfl rfl ?_ ?_
      refine Op1.callT rfl (hA2) (by (repeat (first | exact Sel.nil | exact Rem.here | apply Sel.cons | apply Rem.there))) ?_
      rintro v32 s33 ⟨ao70_29, ⟨len70_30, ⟨cap70_31, ⟨rfl, rfl⟩⟩⟩⟩
      refine incat ⟨?_, ?_, ?_⟩
      exact holdT
      exact holdT
      refine WpA.oS 7 rfl (O.al tb (fun p12 => ⟨?_, ?_, ?_⟩))
      exact holdT
      exact holdT
      refine WpA.oS 8 rfl (O.stA tb ⟨?_, ?_, ?_⟩)
      exact holdT
      exact holdT
      refine WpA.oS 9 rfl (O.stA tb ⟨?_, ?_, ?_⟩)
      exact holdT
      exact holdT
      refine WpA.ou ?_
      rotate_left
      refine O.al tb (fun p12 => ⟨?_, ?_, ?_⟩)
      exact holdT
      exact holdT
      refine WpA.oS 5 rfl (Op1.callT rfl (hA2) (by (repeat (first | exact Sel.nil | exact Rem.here | apply Sel.cons | apply Rem.there))) ?_)
      rintro v37 s38 ⟨ao70_34, ⟨len70_35, ⟨cap70_36, ⟨rfl, rfl⟩⟩⟩⟩
      refine incat ⟨?_, ?_, ?_⟩
      exact holdT
      exact holdT
      refine WpA.oS 8 rfl (O.stA tb ⟨?_, ?_, ?_⟩)
      exact holdT
      exact holdT
      refine WpA.oS 9 rfl (O.stA tb ⟨?_, ?_, ?_⟩)
      exact holdT
      exact holdT
      refine WpA.ou ?_
      rotate_left
      refine O.al tb (fun p12 => ⟨?_, ?_, ?_⟩)
      exact holdT
      exact holdT
      refine WpA.oS 2 rfl (Op1.callT rfl (hA1) (by (repeat (first | exact Sel.nil | exact Rem.here | apply Sel.cons | apply Rem.there))) ?_)
      rintro v42 s43 ⟨ao67_39, ⟨len67_40, ⟨cap67_41, ⟨rfl, rfl⟩⟩⟩⟩
      refine incat ⟨?_, ?_, ?_⟩
      exact holdT
      exact holdT
      refine WpA.oS 5 rfl (Op1.callT rfl (hA2) (by (repeat (first | exact Sel.nil | exact Rem.here | apply Sel.cons | apply Rem.there))) ?_)
      rintro v47 s48 ⟨ao70_44, ⟨len70_45, ⟨cap70_46, ⟨rfl, rfl⟩⟩⟩⟩
      refine incat ⟨?_, ?_, ?_⟩
      exact holdT
      exact holdT
      refine WpA.oS 8 rfl (O.stA tb ⟨?_, ?_, ?_⟩)
      exact holdT
      exact holdT
      refine WpA.oS 9 rfl (O.stA tb ⟨?_, ?_, ?_⟩)
      exact holdT
      exact holdT
      refine WpA.ou ?_
      rotate_left
      refine O.al tb (fun p12 => ⟨?_, ?_, ?_⟩)
      exact holdT
      exact holdT
      refine WpA.e2 2 6 rfl rfl ?_ ?_
      refine Op1.callT rfl (hA1) (by (repeat (first | exact Sel.nil | exact Rem.here | apply Sel.cons | apply Rem.there))) ?_
      rintro v52 s53 ⟨ao67_49, ⟨len67_50, ⟨cap67_51, ⟨rfl, rfl⟩⟩⟩⟩
      refine incat ⟨?_, ?_, ?_⟩
      exact holdT
      exact holdT
      refine WpA.e2 5 6 rfl rfl ?_ ?_
      refine Op1.callT rfl (hA2) (by (repeat (first | exact Sel.nil | exact Rem.here | apply Sel.cons | apply Rem.there))) ?_
      rintro v57 s58 ⟨ao70_54, ⟨len70_55, ⟨cap70_56, ⟨rfl, rfl⟩⟩⟩⟩
      refine incat ⟨?_, ?_, ?_⟩
      exact holdT
      exact holdT
      refine WpA.oS 6 rfl (O.al tb (fun p11 => ⟨?_, ?_, ?_⟩))
      exact holdT
      exact holdT
      refine WpA.oS 8 rfl (O.stA tb ⟨?_, ?_, ?_⟩)
      exact holdT
      exact holdT
      refine WpA.oS 9 rfl (O.stA tb ⟨?_, ?_, ?_⟩)
      exact holdT
      exact holdT
      refine WpA.ou ?_
      rotate_left
      refine O.al tb (fun p11 => ⟨?_, ?_, ?_⟩)
      exact holdT
      exact holdT
      refine WpA.oS 5 rfl (Op1.callT rfl (hA2) (by (repeat (first | exact Sel.nil | exact Rem.here | apply Sel.cons | apply Rem.there))) ?_)
      rintro v62 s63 ⟨ao70_59, ⟨len70_60, ⟨cap70_61, ⟨rfl, rfl⟩⟩⟩⟩
      refine incat ⟨?_, ?_, ?_⟩
      exact holdT
      exact holdT
      refine WpA.oS 8 rfl (O.stA tb ⟨?_, ?_, ?_⟩)
      exact holdT
      exact holdT
      refine WpA.oS 9 rfl (O.stA tb ⟨?_, ?_, ?_⟩)
      exact holdT
      exact holdT
      refine WpA.ou ?_
      rotate_left
      refine O.al tb (fun p11 => ⟨?_, ?_, ?_⟩)
      exact holdT
      exact holdT
      refine WpA.oS 2 rfl (Op1.callT rfl (hA1) (by (repeat (first | exact Sel.nil | exact Rem.here | apply Sel.cons | apply Rem.there))) ?_)
      rintro v67 s68 ⟨ao67_64, ⟨len67_65, ⟨cap67_66, ⟨rfl, rfl⟩⟩⟩⟩
      refine incat ⟨?_, ?_, ?_⟩
      exact holdT
      exact holdT
      refine WpA.oS 5 rfl (Op1.callT rfl (hA2) (by (repeat (first | exact Sel.nil | exact Rem.here | apply Sel.cons | apply Rem.there))) ?_)
      rintro v72 s73 ⟨ao70_69, ⟨len70_70, ⟨cap70_71, ⟨rfl, rfl⟩⟩⟩⟩
      refine incat ⟨?_, ?_, ?_⟩
      exact holdT
      exact holdT
      refine WpA.oS 8 rfl (O.stA tb ⟨?_, ?_, ?_⟩)
      exact holdT
      exact holdT
      refine WpA.oS 9 rfl (O.stA tb ⟨?_, ?_, ?_⟩)
      exact holdT
      exact holdT
      refine WpA.ou ?_
      rotate_left
      all_goals exact Out.ag hK2 ((_, _, _), (_, _, _), _, _) trivial trivial
    · rintro ⟨⟨ao1, len1, cap1⟩, ⟨ao2, len2, cap2⟩, q11, q12⟩ _
      dsimp only
      dsimp only [List.cons_append, List.nil_append]
      refine Wp.mt [12, 11, 8, 7, 5, 4] (fun z : (Option Go.Addr × Nat × Nat) × (Option Go.Addr × Nat × Nat) × Nat × Nat => True) (fun z => [(13, Ptr z.2.2.1 0), (14, Ptr z.2.2.2 0)]) (fun z => [cells z.2.2.1 32 (RegistryReply.c ⟨v.err, v.val, v.ver, .slice z.1.1 z.1.2.1 z.1.2.2⟩), cells z.2.2.2 32 (RegistryReply.c ⟨u.err, u.val, u.ver, .slice z.2.1.1 z.2.1.2.1 z.2.1.2.2⟩), rows strc (.slice z.1.1 z.1.2.1 z.1.2.2) 9 1 v.keys, rows strc (.slice z.2.1.1 z.2.1.2.1 z.2.1.2.2) 9 1 u.keys, mapK kS vP m51 u.l]) (σ1 := [mapK kS vP m51 l]) ?_ ?_
      · intro K2 hK2
        refine Wp.dG [] ?_ (List.Sublist.cons _ (List.Sublist.cons _ (List.Sublist.cons _ (List.Sublist.cons _ (List.Sublist.cons _ (List.Sublist.cons _ (List.Sublist.cons _ (List.Sublist.cons _ (List.Sublist.cons _ (List.Sublist.cons _ (List.Sublist.cons_cons _ (List.Sublist.cons_cons _ List.Sublist.slnil)))))))))))) (List.Sublist.cons _ (List.Sublist.cons _ (List.Sublist.cons _ (List.Sublist.cons _ (List.Sublist.cons _ (List.Sublist.cons _ (List.Sublist.cons _ (List.Sublist.cons _ (List.Sublist.cons _ (List.Sublist.cons _ (List.Sublist.cons_cons _ (List.Sublist.cons_cons _ List.Sublist.slnil))))))))))))
        refine WpA.tF 0 rfl (V.mv) ?_
        refine WpA.tF 1 rfl (V.ldA tb) ?_
        refine WpA.tF 3 rfl (V.mv) ?_
        refine WpA.tF 4 rfl (V.ldA tb) ?_
        refine WpA.e3 2 6 7 rfl rfl rfl ?_ ?_ ?_
        refine Op1.callT rfl (hB1) (by (repeat (first | exact Sel.nil | exact Rem.here | apply Sel.cons | apply Rem.there))) ?_
        rintro v0 s1 ⟨ao73, ⟨len73, ⟨cap73, ⟨rfl, rfl⟩⟩⟩⟩
        refine incat ⟨?_, ?_, ?_⟩
        exact holdT
        exact holdT
        refine WpA.e3 5 6 7 rfl rfl rfl ?_ ?_ ?_
        refine Op1.callT rfl (hB2) (by (repeat (first | exact Sel.nil | exact Rem.here | apply Sel.cons | apply Rem.there))) ?_
        rintro v2 s3 ⟨ao76, ⟨len76, ⟨cap76, ⟨rfl, rfl⟩⟩⟩⟩
        refine incat ⟨?_, ?_, ?_⟩
        exact holdT
        exact holdT
        refine WpA.e2 6 7 rfl rfl ?_ ?_
        refine O.al tb (fun p13 => ⟨?_, ?_, ?_⟩)
        exact holdT
        exact holdT
        refine WpA.oS 7 rfl (O.al tb (fun p14 => ⟨?_, ?_, ?_⟩))
        exact holdT
        exact holdT
        refine WpA.oS 8 rfl (O.stA tb ⟨?_, ?_, ?_⟩)
        exact holdT
        exact holdT
        refine WpA.oS 9 rfl (O.stA tb ⟨?_, ?_, ?_⟩)
        exact holdT
        exact holdT
        refine WpA.ou ?_
        rotate_left
        refine O.al tb (fun p14 => ⟨?_, ?_, ?_⟩)
        exact holdT
        exact holdT
        refine WpA.oS 6 rfl (O.al tb (fun p13 => ⟨?_, ?_, ?_⟩))
        exact holdT
        exact holdT
        refine WpA.oS 8 rfl (O.stA tb ⟨?_, ?_, ?_⟩)
        exact holdT
        exact holdT
        refine WpA.oS 9 rfl (O.stA tb ⟨?_, ?_, ?_⟩)
        exact holdT
        exact holdT
        refine WpA.ou ?_
        rotate_left
        refine O.al tb (fun p13 => ⟨?_, ?_, ?_⟩)
        exact holdT
        exact holdT
        refine WpA.e2 5 7 rfl rfl ?_ ?_
        refine Op1.callT rfl (hB2) (by (repeat (first | exact Sel.nil | exact Rem.here | apply Sel.cons | apply Rem.there))) ?_
        rintro v7 s8 ⟨ao76_4, ⟨len76_5, ⟨cap76_6, ⟨rfl, rfl⟩⟩⟩⟩
        refine incat ⟨?_, ?_, ?_⟩
        exact holdT
        exact holdT
        refine WpA.oS 7 rfl (O.al tb (fun p14 => ⟨?_, ?_, ?_⟩))
        exact holdT
        exact holdT
        refine WpA.oS 8 rfl (O.stA tb ⟨?_, ?_, ?_⟩)
        exact holdT
        exact holdT
        refine WpA.oS 9 rfl (O.stA tb ⟨?_, ?_, ?_⟩)
        exact holdT
        exact holdT
        refine WpA.ou ?_
        rotate_left
        refine O.al tb (fun p14 => ⟨?_, ?_, ?_⟩)
        exact holdT
        exact holdT
        refine WpA.oS 5 rfl (Op1.callT rfl (hB2) (by (repeat (first | exact Sel.nil | exact Rem.here | apply Sel.cons | apply Rem.there))) ?_)
        rintro v12 s13 ⟨ao76_9, ⟨len76_10, ⟨cap76_11, ⟨rfl, rfl⟩⟩⟩⟩
        refine incat ⟨?_, ?_, ?_⟩
        exact holdT
        exact holdT
        refine WpA.oS 8 rfl (O.stA tb ⟨?_, ?_, ?_⟩)
        exact holdT
        exact holdT
        refine WpA.oS 9 rfl (O.stA tb ⟨?_, ?_, ?_⟩)
        exact holdT
        exact holdT
        refine WpA.ou ?_
        rotate_left
        refine O.al tb (fun p14 => ⟨?_, ?_, ?_⟩)
        exact holdT
        exact holdT
        refine WpA.e2 5 6 rfl rfl ?_ ?_
        refine Op1.callT rfl (hB2) (by (repeat (first | exact Sel.nil | exact Rem.here | apply Sel.cons | apply Rem.there))) ?_
        rintro v17 s18 ⟨ao76_14, ⟨len76_15, ⟨cap76_16, ⟨rfl, rfl⟩⟩⟩⟩
        refine incat ⟨?_, ?_, ?_⟩
        exact holdT
        exact holdT
        refine WpA.oS 6 rfl (O.al tb (fun p13 => ⟨?_, ?_, ?_⟩))
        exact holdT
        exact holdT
        refine WpA.oS 8 rfl (O.stA tb ⟨?_, ?_, ?_⟩)
        exact holdT
        exact holdT
        refine WpA.oS 9 rfl (O.stA tb ⟨?_, ?_, ?_⟩)
        exact holdT
        exact holdT
        refine WpA.ou ?_
        rotate_left
        refine O.al tb (fun p13 => ⟨?_, ?_, ?_⟩)
        exact holdT
        exact holdT
        refine WpA.oS 5 rfl (Op1.callT rfl (hB2) (by (repeat (first | exact Sel.nil | exact Rem.here | apply Sel.cons | apply Rem.there))) ?_)
        rintro v22 s23 ⟨ao76_19, ⟨len76_20, ⟨cap76_21, ⟨rfl, rfl⟩⟩⟩⟩
        refine incat ⟨?_, ?_, ?_⟩
        exact holdT
        exact holdT
        refine WpA.oS 8 rfl (O.stA tb ⟨?_, ?_, ?_⟩)
        exact holdT
        exact holdT
        refine WpA.oS 9 rfl (O.stA tb ⟨?_, ?_, ?_⟩)
        exact holdT
        exact holdT
        refine WpA.ou ?_
        rotate_left
        refine O.al tb (fun p13 => ⟨?_, ?_, ?_⟩)
        exact holdT
        exact holdT
        refine WpA.e2 2 7 rfl rfl ?_ ?_
        refine Op1.callT rfl (hB1) (by (repeat (first | exact Sel.nil | exact Rem.here | apply Sel.cons | apply Rem.there))) ?_
        rintro v27 s28 ⟨ao73_24, ⟨len73_25, ⟨cap73_26, ⟨rfl, rfl⟩⟩⟩⟩
        refine incat ⟨?_, ?_, ?_⟩
        exact holdT
        exact holdT
        refine WpA.e2 5 7 rfl rfl ?_ ?_
        refine Op1.callT rfl (hB2) (by (repeat (first | exact Sel.nil | exact Rem.here | apply Sel.cons | apply Rem.there))) ?_
        rintro v32 s33 ⟨ao76_29, ⟨len76_30, ⟨cap76_31, ⟨rfl, rfl⟩⟩⟩⟩
        refine incat ⟨?_, ?_, ?_⟩
        exact holdT
        exact holdT
        refine WpA.oS 7 rfl (O.al tb (fun p14 => ⟨?_, ?_, ?_⟩))
        exact holdT
        exact holdT
        refine WpA.oS 8 rfl (O.stA tb ⟨?_, ?_, ?_⟩)
        exact holdT
        exact holdT
        refine WpA.oS 9 rfl (O.stA tb ⟨?_, ?_, ?_⟩)
        exact holdT
        exact holdT
        refine WpA.ou ?_
        rotate_left
        refine O.al tb (fun p14 => ⟨?_, ?_, ?_⟩)
        exact holdT
        exact holdT
        refine WpA.oS 5 rfl (Op1.callT rfl (hB2) (by (repeat (first | exact Sel.nil | exact Rem.here | apply Sel.cons | apply Rem.there))) ?_)
        rintro v37 s38 ⟨ao76_34, ⟨len76_35, ⟨cap76_36, ⟨rfl, rfl⟩⟩⟩⟩
        refine incat ⟨?_, ?_, ?_⟩
        exact holdT
        exact holdT
        refine WpA.oS 8 rfl (O.stA tb ⟨?_, ?_, ?_⟩)
        exact holdT
        exact holdT
        refine WpA.oS 9 rfl (O.stA tb ⟨?_, ?_, ?_⟩)
        exact holdT
        exact holdT
        refine WpA.ou ?_
        rotate_left
        refine O.al tb (fun p14 => ⟨?_, ?_, ?_⟩)
        exact holdT
        exact holdT
        refine WpA.oS 2 rfl (Op1.callT rfl (hB1) (by (repeat (first | exact Sel.nil | exact Rem.here | apply Sel.cons | apply Rem.there))) ?_)
        rintro v42 s43 ⟨ao73_39, ⟨len73_40, ⟨cap73_41, ⟨rfl, rfl⟩⟩⟩⟩
        refine incat ⟨?_, ?_, ?_⟩
        exact holdT
        exact holdT
        refine WpA.oS 5 rfl (Op1.callT rfl (hB2) (by (repeat (first | exact Sel.nil | exact Rem.here | apply Sel.cons | apply Rem.there))) ?_)
        rintro v47 s48 ⟨ao76_44, ⟨len76_45, ⟨cap76_46, ⟨rfl, rfl⟩⟩⟩⟩
        refine incat ⟨?_, ?_, ?_⟩
        exact holdT
        exact holdT
        refine WpA.oS 8 rfl (O.stA tb ⟨?_, ?_, ?_⟩)
        exact holdT
        exact holdT
        refine WpA.oS 9 rfl (O.stA tb ⟨?_, ?_, ?_⟩)
        exact holdT
        exact holdT
        refine WpA.ou ?_
        rotate_left
        refine O.al tb (fun p14 => ⟨?_, ?_, ?_⟩)
        exact holdT
        exact holdT
        refine WpA.e2 2 6 rfl rfl ?_ ?_
        refine Op1.callT rfl (hB1) (by (repeat (first | exact Sel.nil | exact Rem.here | apply Sel.cons | apply Rem.there))) ?_
        rintro v52 s53 ⟨ao73_49, ⟨len73_50, ⟨cap73_51, ⟨rfl, rfl⟩⟩⟩⟩
        refine incat ⟨?_, ?_, ?_⟩
        exact holdT
        exact holdT
        refine WpA.e2 5 6 rfl rfl ?_ ?_
        refine Op1.callT rfl (hB2) (by (repeat (first | exact Sel.nil | exact Rem.here | apply Sel.cons | apply Rem.there))) ?_
        rintro v57 s58 ⟨ao76_54, ⟨len76_55, ⟨cap76_56, ⟨rfl, rfl⟩⟩⟩⟩
        refine incat ⟨?_, ?_, ?_⟩
        exact holdT
        exact holdT
        refine WpA.oS 6 rfl (O.al tb (fun p13 => ⟨?_, ?_, ?_⟩))
        exact holdT
        exact holdT
        refine WpA.oS 8 rfl (O.stA tb ⟨?_, ?_, ?_⟩)
        exact holdT
        exact holdT
        refine WpA.oS 9 rfl (O.stA tb ⟨?_, ?_, ?_⟩)
        exact holdT
        exact holdT
        refine WpA.ou ?_
        rotate_left
        refine O.al tb (fun p13 => ⟨?_, ?_, ?_⟩)
        exact holdT
        exact holdT
        refine WpA.oS 5 rfl (Op1.callT rfl (hB2) (by (repeat (first | exact Sel.nil | exact Rem.here | apply Sel.cons | apply Rem.there))) ?_)
        rintro v62 s63 ⟨ao76_59, ⟨len76_60, ⟨cap76_61, ⟨rfl, rfl⟩⟩⟩⟩
        refine incat ⟨?_, ?_, ?_⟩
        exact holdT
        exact holdT
        refine WpA.oS 8 rfl (O.stA tb ⟨?_, ?_, ?_⟩)
        exact holdT
        exact holdT
        refine WpA.oS 9 rfl (O.stA tb ⟨?_, ?_, ?_⟩)
        exact holdT
        exact holdT
        refine WpA.ou ?_
        rotate_left
        refine O.al tb (fun p13 => ⟨?_, ?_, ?_⟩)
        exact holdT
        exact holdT
        refine WpA.oS 2 rfl (Op1.callT rfl (hB1) (by (repeat (first | exact Sel.nil | exact Rem.here | apply Sel.cons | apply Rem.there))) ?_)
        rintro v67 s68 ⟨ao73_64, ⟨len73_65, ⟨cap73_66, ⟨rfl, rfl⟩⟩⟩⟩
        refine incat ⟨?_, ?_, ?_⟩
        exact holdT
        exact holdT
        refine WpA.oS 5 rfl (Op1.callT rfl (hB2) (by (repeat (first | exact Sel.nil | exact Rem.here | apply Sel.cons | apply Rem.there))) ?_)
        rintro v72 s73 ⟨ao76_69, ⟨len76_70, ⟨cap76_71, ⟨rfl, rfl⟩⟩⟩⟩
        refine incat ⟨?_, ?_, ?_⟩
        exact holdT
        exact holdT
        refine WpA.oS 8 rfl (O.stA tb ⟨?_, ?_, ?_⟩)
        exact holdT
        exact holdT
        refine WpA.oS 9 rfl (O.stA tb ⟨?_, ?_, ?_⟩)
        exact holdT
        exact holdT
        refine WpA.ou ?_
        rotate_left
        all_goals exact Out.ag hK2 ((_, _, _), (_, _, _), _, _) trivial trivial
      · rintro ⟨⟨ao3, len3, cap3⟩, ⟨ao4, len4, cap4⟩, q13, q14⟩ _
        dsimp only
        dsimp only [List.cons_append, List.nil_append]
        have hS1 := same_rows ⟨x.err, x.val, x.ver, .slice ao1 len1 cap1⟩ ⟨u.err, u.val, u.ver, .slice ao4 len4 cap4⟩ x.keys u.keys
        have hS2 := same_rows ⟨y.err, y.val, y.ver, .slice ao2 len2 cap2⟩ ⟨v.err, v.val, v.ver, .slice ao3 len3 cap3⟩ y.keys v.keys
        rw [e1.same] at hS1
        rw [e2.same] at hS2
        apply Wp.seq
        apply Wp.region
        refine WpL.v (V.ldA tb) ?_
        refine WpL.v (V.ldA tb) ?_
        refine WpL.o (Op1.callT rfl (hS1) (by (repeat (first | exact Sel.nil | exact Rem.here | apply Sel.cons | apply Rem.there))) ?_)
        rintro v0 s1 ⟨rfl, rfl⟩
        refine incat ?_
        refine WpL.v (V.mv) ?_
        refine WpL.v (V.ldA tb) ?_
        refine WpL.v (V.ldA tb) ?_
        refine WpL.o (Op1.callT rfl (hS2) (by (repeat (first | exact Sel.nil | exact Rem.here | apply Sel.cons | apply Rem.there))) ?_)
        rintro v2 s3 ⟨rfl, rfl⟩
        refine incat ?_
        refine WpL.v (V.pT) ?_
        refine WpL.v (V.mv) ?_
        refine WpL.v (V.mv) ?_
        refine WpL.o (Op1.callT rfl (hY1) (by (repeat (first | exact Sel.nil | exact Rem.here | apply Sel.cons | apply Rem.there))) ?_)
        rintro v4 s5 ⟨rfl, rfl⟩
        refine incat ?_
        refine WpL.v (V.mv) ?_
        refine WpL.o (Op1.callT rfl (hY2) (by (repeat (first | exact Sel.nil | exact Rem.here | apply Sel.cons | apply Rem.there))) ?_)
        rintro v6 s7 ⟨rfl, rfl⟩
        refine incat ?_
        refine WpL.v (V.cmpS) ?_
        refine WpL.v (V.pT) ?_
        refine WpL.v (V.as) ?_
        apply WpL.nil
        apply Out.seqN
        apply Wp.ret
        refine Out.f1 rfl ResIs.t ⟨?_, rfl⟩
        · simp
open Go Go.ChangeShapes Go.WideShapes Go.ChangeAt Go.RowKit
theorem registryApart_read : (Try.f6.params.toList.all fun t => Try.prog.readableRec t && decide (t < Try.prog.types.size)) = true := by kernel_rfl
theorem registryApart_lifted (os : Go.Os) (started : os.Started) (H : Type) (enc : Go.TypeId × Go.Value → H) :
    ReturnsInHanded {} Try.checked os 6 .any (Rows.registryApartSpec.pre6 enc Try.prog Try.f6 Rows.registryApartRow.domain false) (Rows.registryApartSpec.post enc Try.prog Try.f6 false true false false) := by
  refine returnsInHanded_of_change_sized (C := Try.checked) own started (by kernel_rfl) Try.func6
    (ChangeSpec.witness6 (enc := enc) (C := Try.checked) false ⟨#[], #[.slice none 0 0, A TDeed.z.c, A TDeed.z.c], []⟩ 8 (by kernel_rfl) (by kernel_rfl) (by kernel_rfl) (by kernel_rfl)) ?_
  intro W base args ds gs before hval0 hW hcnd hsz0 _
  have hsz : (DataW.weightsEach Try.prog (Try.f6.params.toList ++ Rows.registryApartSpec.plain.varTypes Try.prog) (ds ++ gs)).all (· ≤ reachBytes) = true := hsz0
  have hval : ∀ (j : Nat) t v, Try.f6.params[j]? = some t → args[j]? = some v → Value.okWide Try.prog W .any base t v := hval0
  have hW' := hW
  obtain ⟨p, q, hA0, hV, rfl, hfz, hnd⟩ := hW
  have hA1 : DataW.TrodAll enc Try.prog W 0 (fun _ => true) true Try.f6.params.toList args.toList ds p := hA0
  have hA := hA1
  rw [Try.params6] at hA hval hsz
  obtain ⟨v0, vs0, d0, ds0, p0, q0, hargs, rfl, rfl, h0, r0⟩ := trodAll_cons hA
  obtain ⟨v1, vs1, d1, ds1, p1, q1, rfl, rfl, rfl, h1, r1⟩ := trodAll_cons r0
  obtain ⟨v2, vs2, d2, ds2, p2, q2, rfl, rfl, rfl, h2, r2⟩ := trodAll_cons r1
  obtain ⟨rfl, rfl, rfl⟩ := trodAll_nil r2
  obtain rfl : args = #[v0, v1, v2] := by cases args; simp_all
  obtain ⟨rfl, rfl⟩ := trodVars_none hV
  obtain ⟨ao0, b0, off0, len0, cap0, xs0, rfl, hl0, hlc0, hcm0, ha0, hs0, hf0, hby0⟩ := open_slice_plain Try.underlying22 TDeed.leaves (by kernel_rfl) (by decide) (hval 0 22 v0 rfl rfl) h0 (sizedAll hsz 0 rfl rfl)
  obtain ⟨x0, rfl, w0⟩ := fits_map TDeed.c TDeed.wf hf0 TDeed.fit
  obtain rfl : len0 = x0.length := by simpa using hl0.symm
  obtain ⟨c1, rfl, f1⟩ := open_plain TDeed.leaves ⟨_, Try.underlying28⟩ (hval 1 28 v1 rfl rfl) h1 (sizedAll hsz 1 rfl rfl)
  obtain ⟨x1, rfl, w1⟩ := TDeed.fit f1
  obtain ⟨c2, rfl, f2⟩ := open_plain TDeed.leaves ⟨_, Try.underlying28⟩ (hval 2 28 v2 rfl rfl) h2 (sizedAll hsz 2 rfl rfl)
  obtain ⟨x2, rfl, w2⟩ := TDeed.fit f2
  simp only [List.append_nil] at hW' hA1
  have hbl : ∀ p : Nat × Nat, p ∈ [(x0.length, b0)] → 0 < p.1 → p.2 < W.heap.size := by
    intro p hp h0
    simp only [List.mem_cons, List.mem_nil_iff, or_false] at hp
    rcases hp with rfl
    · exact (ha0 h0).2
  have hR0 : Rd (snap W (blocksOf [(x0.length, b0)])) ao0 x0.length b0 off0 6 (x0.map TDeed.c) := Rd.snap (by simp) (Nat.le_trans hlc0 hcm0) ha0 hs0 (fun h => blocksOf_mem (len := x0.length) (by simp) h)
  refine (Ct.runSnap (blocksOf_nodup _) (blocksOf_lt hbl) (registryApart_walk _ _ _ _ _ x0 x1 x2 (fun x hx => ⟨(w0 x hx).2.1, (w0 x hx).2.2.1⟩) ⟨w1.2.1, w1.2.2.1⟩ ⟨w2.2.1, w2.2.2.1⟩ hR0)).mono fun e W' hh => ?_
  obtain ⟨rfl, hS⟩ := hh
  exact ⟨_, rfl, post_law (P := Try.prog) (f := Try.f6) (tbool := 4) hW' hA1 rfl rfl hS laid registryApart_read rfl Try.underlying4⟩
theorem registryApart_joined : joinedFacts Try.prog 6 Try.f6 Rows.registryApartSpec Rows.registryApartRow = true := by
  unfold joinedFacts
  rewrite [head_enter, head_lift, head_make]
  kernel_rfl
theorem registryApart_over : Rows.registryApartRow.holds Try.pinned (OpenSpec.ofChange Rows.registryApartSpec) :=
  OpenClaim.holds_of_wide 6 Try.f6 rfl rfl rfl rfl rfl rfl rfl ⟨rfl, rfl, rfl, rfl, rfl⟩ rfl rfl rfl rfl rfl (by kernel_rfl) Try.func6 registryApart_joined
    (of_decide_eq_true (by kernel_rfl)) (by unfold Func.isWrapper; first | (rw [if_pos (by decide +kernel)]; kernel_rfl) | (rw [if_neg (by decide +kernel)]; exact ⟨rfl, rfl⟩))
    (fun os started H enc _ => registryApart_lifted os started H enc)
/-- THE STATEMENT. -/
theorem registryApart_proved : Rows.RegistryApartSaid := registryApart_over
#print axioms registryApart_proved

end Go.Proofs.Ytgihkocnmgkihaa
