/-
  The statement ItemBytes of layer 3: a place's bytes are what the document says; one that can be is got from them. Proved for every input.
-/
import Derived.Test.YtgbflapcadlelaaItem5
import Derived.Test.YtgbflapcadlelaaSrc
namespace Go.Proofs.Ytgbflapcadlelaa
open Go.HL
set_option linter.unusedSimpArgs false
set_option linter.unusedVariables false
set_option maxRecDepth 8000
theorem item_put (b : Nat) (v : Go.Value) (xs : List UInt8) (x : TItem) (h1 : x.Rep ≤ 9223372036854775807) (h2 : x.Num ≤ 9223372036854775807) (hx : xs.length ≤ 900000) :
    Ct Try.prog 57 [Ptr b 0, A x.c] [cells b 94 (OctaveSink.c ⟨v⟩), rows u8c v 5 1 xs] (fun r σ' => ∃ v', r = .tuple #[] ∧ σ' = [cells b 94 (OctaveSink.c ⟨v'⟩), rows u8c v' 5 1 (xs ++ (natI x.Rep ++ natI x.Num))]) := by
  refine Ct.enter Try.func57 rfl rfl fun W => ?_
  apply Wp.seq
  apply Wp.region
  refine WpL.o (O.bxA (fun p3 => ?_))
  apply WpL.nil
  apply Out.seqN
  apply Wp.region
  refine WpL.v (V.mv) ?_
  refine WpL.v (V.fa tb) ?_
  refine WpL.v (V.ld1 tb) ?_
  refine WpL.v (V.fa tb) ?_
  refine WpL.v (V.ld1 tb) ?_
  refine WpL.o (O.lit tb (fun p9 => ?_))
  refine WpL.o (Op1.callT rfl (sinkNat2 _ _ _ _ _ _ ?_ ?_ ?_) (by (repeat (first | exact Sel.nil | exact Rem.here | apply Sel.cons | apply Rem.there))) ?_)
  (first | with_reducible assumption | omega | (simp only [List.length_append, List.length_cons, List.length_nil, List.length_map] at *; omega) | (focus (simp; done)))
  (first | with_reducible assumption | omega | (simp only [List.length_append, List.length_cons, List.length_nil, List.length_map] at *; omega) | (focus (simp; done)))
  (first | with_reducible assumption | omega | (simp only [List.length_append, List.length_cons, List.length_nil, List.length_map] at *; omega) | (focus (simp; done)))
  rintro v0 s1 ⟨v'10, ⟨rfl, rfl⟩⟩
  refine incat ?_
  apply WpL.nil
  refine Out.e0 rfl  ?_
  exact ⟨_, _, ⟨_, rfl, rfl⟩, (by (repeat (first | exact Sel.nil | exact Rem.here | apply Sel.cons | apply Rem.there)))⟩
theorem item_get (b : Nat) (s : OctaveSource) (hs : s.in_.length ≤ 9223372036854775807) :
    Ct Try.prog 60 [Ptr b 0] [cells b 130 s.c] (fun r σ' => r = A (TItem.c ⟨(natS s 6).1, (natS (natS s 6).2 64).1⟩) ∧ σ' = [cells b 130 (natS (natS s 6).2 64).2.c]) := by
  have h1 := natS_len s 6
  refine Ct.enter Try.func60 rfl rfl fun W => ?_
  apply Wp.seq
  apply Wp.region
  refine WpL.o (O.al tb (fun p2 => ?_))
  apply WpL.nil
  apply Out.seqN
  apply Wp.seq
  apply Wp.region
  refine WpL.v (V.mv) ?_
  refine WpL.o (Op1.callT rfl (srcNat _ _ _ ?_) (by (repeat (first | exact Sel.nil | exact Rem.here | apply Sel.cons | apply Rem.there))) ?_)
  (first | with_reducible assumption | omega | (simp only [List.length_append, List.length_cons, List.length_nil, List.length_map] at *; omega) | (focus (simp; done)))
  rintro v0 s1 ⟨rfl, rfl⟩
  refine incat ?_
  refine WpL.v (V.mv) ?_
  refine WpL.o (Op1.callT rfl (srcNat _ _ _ ?_) (by (repeat (first | exact Sel.nil | exact Rem.here | apply Sel.cons | apply Rem.there))) ?_)
  (first | with_reducible assumption | omega | (simp only [List.length_append, List.length_cons, List.length_nil, List.length_map] at *; omega) | (focus (simp; done)))
  rintro v2 s3 ⟨rfl, rfl⟩
  refine incat ?_
  refine WpL.v (V.bld tb) ?_
  refine WpL.o (O.stA tb ?_)
  apply WpL.nil
  apply Out.seqN
  apply Wp.ret
  refine Out.f1 rfl (ResIs.ca tb) ⟨?_, rfl⟩
  exact rfl
theorem ref3_bytes (x : TItem) (h1 : x.Rep ≤ 9223372036854775807) (h2 : x.Num ≤ 9223372036854775807) : Fun Try.prog 61 [A x.c] (S (natI x.Rep ++ natI x.Num)) := by
  have l1 := natI_len h1
  have l2 := natI_len h2
  refine Ct.enter Try.func61 rfl rfl fun W => ?_
  apply Wp.seq
  apply Wp.region
  refine WpL.o (O.bxA (fun p1 => ?_))
  refine WpL.v (V.as) ?_
  apply WpL.nil
  apply Out.seqN
  apply Wp.seq
  refine Wp.dG [] ?_ (List.Sublist.cons_cons _ List.Sublist.slnil) (List.Sublist.cons_cons _ List.Sublist.slnil)
  refine WpA.tF 0 rfl (V.fa tb) ?_
  refine WpA.tF 1 rfl (V.ld1 tb) ?_
  refine WpA.tF 3 rfl (V.fa tb) ?_
  refine WpA.tF 4 rfl (V.ld1 tb) ?_
  refine WpA.oS 2 rfl (Op1.fn rfl (refNat _ ?_) ⟨?_, ?_, ?_⟩)
  (first | with_reducible assumption | omega | (simp only [List.length_append, List.length_cons, List.length_nil, List.length_map] at *; omega) | (focus (simp; done)))
  exact holdT
  exact holdT
  refine WpA.oS 5 rfl (Op1.fn rfl (refNat _ ?_) ⟨?_, ?_, ?_⟩)
  (first | with_reducible assumption | omega | (simp only [List.length_append, List.length_cons, List.length_nil, List.length_map] at *; omega) | (focus (simp; done)))
  exact holdT
  exact holdT
  refine WpA.tF 6 rfl (V.cat) ?_
  refine WpA.tF 7 rfl (V.as) ?_
  refine WpA.ou ?_
  apply Out.seqN
  apply Wp.ret
  refine Out.f1 rfl ResIs.t ⟨?_, rfl⟩
  exact rfl
theorem itemBytes_walk (x : TItem) (more : List UInt8) (h1 : x.Rep ≤ 9223372036854775807) (h2 : x.Num ≤ 9223372036854775807) : Fun Try.prog 15 [A x.c, S more] (B true) := by
  have l1 := natI_len h1
  have l2 := natI_len h2
  have hN : goodI x 7 = true → natS ⟨[] ++ (natI x.Rep ++ natI x.Num) ++ more, false⟩ 6 = (x.Rep, ⟨natI x.Num ++ more, false⟩) ∧ natS ⟨natI x.Num ++ more, false⟩ 64 = (x.Num, ⟨more, false⟩) := fun hg => by
    have h := goodI_spec hg
    rw [List.nil_append, List.append_assoc, natS_natI h1, natS_natI h2, if_neg (by omega), if_neg (by omega), Int.toNat_of_nonneg h.1, Int.toNat_of_nonneg (by omega)]
    exact ⟨rfl, rfl⟩
  refine Ct.enter Try.func15 rfl rfl fun W => ?_
  apply Wp.seq
  apply Wp.region
  refine WpL.o (O.bxR u8c 5 1 rfl (fun p2 => ?_))
  refine WpL.v (V.as) ?_
  apply WpL.nil
  apply Out.seqN
  apply Wp.seq
  apply Wp.seq
  apply Wp.region
  refine WpL.o (Op1.fn rfl (alive03) ?_)
  refine WpL.v (V.not) ?_
  apply WpL.nil
  apply Out.seqN
  refine Wp.cF ?_
  apply Wp.skip
  apply Out.seqN
  apply Wp.seq
  apply Wp.seq
  apply Wp.region
  refine WpL.v (V.mv) ?_
  refine WpL.v (V.lenS tb) ?_
  refine WpL.v (V.cmp) ?_
  apply WpL.nil
  apply Out.seqN
  refine Wp.c (fun ha0 => ?_) (fun ha0 => ?_)
  (try simp only [decide_eq_true_eq, decide_eq_false_iff_not, Bool.not_eq_true', Bool.not_eq_false', Bool.not_eq_true, Bool.not_eq_false, not_true_eq_false, not_false_eq_true, reduceCtorEq] at ha0)
  apply Wp.seq
  apply Wp.region
  refine WpL.v (V.as) ?_
  apply WpL.nil
  apply Out.seqN
  apply Wp.ret
  apply Out.seqR
  refine Out.f1 rfl ResIs.t ⟨?_, rfl⟩
  exact rfl
  (try simp only [decide_eq_true_eq, decide_eq_false_iff_not, Bool.not_eq_true', Bool.not_eq_false', Bool.not_eq_true, Bool.not_eq_false, not_true_eq_false, not_false_eq_true, reduceCtorEq] at ha0)
  apply Wp.skip
  apply Out.seqN
  apply Wp.seq
  apply Wp.region
  refine WpL.v (V.bld tb) ?_
  refine WpL.o (O.bxR u8c 5 1 rfl (fun p14 => ?_))
  refine WpL.v (V.as) ?_
  apply WpL.nil
  apply Out.seqN
  apply Wp.seq
  apply Wp.region
  refine WpL.v (V.mv) ?_
  refine WpL.v (V.ldA tb) ?_
  refine WpL.o (Op1.callT rfl (item_put _ _ _ _ ?_ ?_ ?_) (by (repeat (first | exact Sel.nil | exact Rem.here | apply Sel.cons | apply Rem.there))) ?_)
  (first | with_reducible assumption | omega | (simp only [List.length_append, List.length_cons, List.length_nil, List.length_map] at *; omega) | (focus (simp; done)))
  (first | with_reducible assumption | omega | (simp only [List.length_append, List.length_cons, List.length_nil, List.length_map] at *; omega) | (focus (simp; done)))
  (first | with_reducible assumption | omega | (simp only [List.length_append, List.length_cons, List.length_nil, List.length_map] at *; omega) | (focus (simp; done)))
  rintro v1 s2 ⟨v'17, ⟨rfl, rfl⟩⟩
  refine incat ?_
  apply WpL.nil
  apply Out.seqN
  apply Wp.seq
  apply Wp.region
  refine WpL.v (V.mv) ?_
  refine WpL.o (Op1.callT rfl (sinkBytes _ _ _) (by (repeat (first | exact Sel.nil | exact Rem.here | apply Sel.cons | apply Rem.there))) ?_)
  rintro v3 s4 ⟨rfl, rfl⟩
  refine incat ?_
  refine WpL.v (V.mv) ?_
  refine WpL.v (V.cat) ?_
  refine WpL.o (Op1.callT rfl (srcFrom _) (by (repeat (first | exact Sel.nil | exact Rem.here | apply Sel.cons | apply Rem.there))) ?_)
  rintro v5 s6 ⟨b22, ⟨rfl, rfl⟩⟩
  refine incat ?_
  refine WpL.v (V.as) ?_
  apply WpL.nil
  apply Out.seqN
  apply Wp.seq
  apply Wp.region
  refine WpL.v (V.mv) ?_
  refine WpL.o (Op1.callT rfl (item_get _ _ ?_) (by (repeat (first | exact Sel.nil | exact Rem.here | apply Sel.cons | apply Rem.there))) ?_)
  (first | with_reducible assumption | omega | (simp only [List.length_append, List.length_cons, List.length_nil, List.length_map] at *; omega) | (focus (simp; done)))
  rintro v7 s8 ⟨rfl, rfl⟩
  refine incat ?_
  refine WpL.o (O.al tb (fun p7 => ?_))
  refine WpL.o (O.stA tb ?_)
  apply WpL.nil
  apply Out.seqN
  apply Wp.seq
  refine Wp.dG [] ?_ (List.Sublist.cons_cons _ (List.Sublist.cons _ (List.Sublist.cons _ (List.Sublist.cons_cons _ (List.Sublist.cons_cons _ (List.Sublist.cons_cons _ List.Sublist.slnil)))))) (List.Sublist.cons_cons _ (List.Sublist.cons _ (List.Sublist.cons _ (List.Sublist.cons_cons _ (List.Sublist.cons_cons _ (List.Sublist.cons_cons _ List.Sublist.slnil))))))
  refine WpA.tF 0 rfl (V.mv) ?_
  refine WpA.tF 2 rfl (V.ldA tb) ?_
  refine WpA.oS 1 rfl (Op1.callT rfl (sinkBytes _ _ _) (by (repeat (first | exact Sel.nil | exact Rem.here | apply Sel.cons | apply Rem.there))) ?_)
  rintro v9 s10 ⟨rfl, rfl⟩
  refine incat ⟨?_, ?_, ?_⟩
  exact holdT
  exact holdT
  refine WpA.oS 3 rfl (Op1.fn rfl (ref3_bytes _ ?_ ?_) ⟨?_, ?_, ?_⟩)
  (first | with_reducible assumption | omega | (simp only [List.length_append, List.length_cons, List.length_nil, List.length_map] at *; omega) | (focus (simp; done)))
  (first | with_reducible assumption | omega | (simp only [List.length_append, List.length_cons, List.length_nil, List.length_map] at *; omega) | (focus (simp; done)))
  exact holdT
  exact holdT
  refine WpA.tF 4 rfl (V.cmpS) ?_
  refine WpA.tF 5 rfl (V.mv) ?_
  refine WpA.pt 30 (fun ha11 => ?_) (fun ha11 => ?_)
  (try simp only [decide_eq_true_eq, decide_eq_false_iff_not, Bool.not_eq_true', Bool.not_eq_false', Bool.not_eq_true, Bool.not_eq_false, not_true_eq_false, not_false_eq_true, reduceCtorEq] at ha11)
  refine WpA.tF 6 rfl (V.ldA tb) ?_
  refine WpA.oS 7 rfl (Op1.fn rfl (ref3_good _ _) ⟨?_, ?_, ?_⟩)
  exact holdT
  exact holdT
  refine WpA.tF 8 rfl (V.not) ?_
  refine WpA.tF 9 rfl (V.mv) ?_
  refine WpA.pt 34 (fun ha12 => ?_) (fun ha12 => ?_)
  (try simp only [decide_eq_true_eq, decide_eq_false_iff_not, Bool.not_eq_true', Bool.not_eq_false', Bool.not_eq_true, Bool.not_eq_false, not_true_eq_false, not_false_eq_true, reduceCtorEq] at ha12)
  refine WpA.s 10 rfl ?_
  refine WpA.s 11 rfl ?_
  refine WpA.s 12 rfl ?_
  refine WpA.s 13 rfl ?_
  refine WpA.s 14 rfl ?_
  refine WpA.s 15 rfl ?_
  refine WpA.s 16 rfl ?_
  refine WpA.s 17 rfl ?_
  refine WpA.s 18 rfl ?_
  refine WpA.s 19 rfl ?_
  refine WpA.s 20 rfl ?_
  refine WpA.s 21 rfl ?_
  refine WpA.s 22 rfl ?_
  refine WpA.s 23 rfl ?_
  refine WpA.s 24 rfl ?_
  refine WpA.tF 25 rfl (V.pT) ?_
  refine WpA.tF 26 rfl (V.pT) ?_
  refine WpA.tF 27 rfl (V.as) ?_
  refine WpA.ou ?_
  apply Out.seqN
  apply Wp.ret
  refine Out.f1 rfl ResIs.t ⟨?_, rfl⟩
  exact rfl
  (try simp only [decide_eq_true_eq, decide_eq_false_iff_not, Bool.not_eq_true', Bool.not_eq_false', Bool.not_eq_true, Bool.not_eq_false, not_true_eq_false, not_false_eq_true, reduceCtorEq] at ha12)
  refine WpA.tF 10 rfl (V.ldA tb) ?_
  refine WpA.tF 11 rfl (V.ldA tb) ?_
  refine WpA.tF 12 rfl (V.eq (TItem.eqT _ _ _)) ?_
  refine WpA.tF 13 rfl (V.mv) ?_
  refine WpA.pt 38 (fun ha13 => ?_) (fun ha13 => ?_)
  (try simp only [decide_eq_true_eq, decide_eq_false_iff_not, Bool.not_eq_true', Bool.not_eq_false', Bool.not_eq_true, Bool.not_eq_false, not_true_eq_false, not_false_eq_true, reduceCtorEq] at ha13)
  refine WpA.tF 14 rfl (V.mv) ?_
  refine WpA.tF 16 rfl (V.mv) ?_
  refine WpA.tF 17 rfl (V.lenS tb) ?_
  refine WpA.oS 15 rfl (Op1.callT rfl (srcLeft _ _) (by (repeat (first | exact Sel.nil | exact Rem.here | apply Sel.cons | apply Rem.there))) ?_)
  rintro v14 s15 ⟨rfl, rfl⟩
  refine incat ⟨?_, ?_, ?_⟩
  exact holdT
  exact holdT
  refine WpA.tF 18 rfl (V.cmp) ?_
  refine WpA.tF 19 rfl (V.pT) ?_
  refine WpA.tF 20 rfl (V.mv) ?_
  refine WpA.pt 45 (fun ha16 => ?_) (fun ha16 => ?_)
  (try simp only [decide_eq_true_eq, decide_eq_false_iff_not, Bool.not_eq_true', Bool.not_eq_false', Bool.not_eq_true, Bool.not_eq_false, not_true_eq_false, not_false_eq_true, reduceCtorEq] at ha16)
  refine WpA.tF 21 rfl (V.mv) ?_
  refine WpA.oS 22 rfl (Op1.callT rfl (srcDry _ _) (by (repeat (first | exact Sel.nil | exact Rem.here | apply Sel.cons | apply Rem.there))) ?_)
  rintro v17 s18 ⟨rfl, rfl⟩
  refine incat ⟨?_, ?_, ?_⟩
  exact holdT
  exact holdT
  refine WpA.tF 23 rfl (V.not) ?_
  refine WpA.tF 24 rfl (V.pT) ?_
  refine WpA.tF 25 rfl (V.pF) ?_
  refine WpA.tF 26 rfl (V.pT) ?_
  refine WpA.tF 27 rfl (V.as) ?_
  refine WpA.ou ?_
  apply Out.seqN
  apply Wp.ret
  refine Out.f1 rfl ResIs.t ⟨?_, rfl⟩
  focus ((first | (have hh := hN (by assumption); simp only [hh.1, hh.2] at *; simp_all; done) | (exfalso; have hh := hN (by assumption); simp only [hh.1, hh.2] at *; simp_all; done) | (simp_all; done)); done)
  (try simp only [decide_eq_true_eq, decide_eq_false_iff_not, Bool.not_eq_true', Bool.not_eq_false', Bool.not_eq_true, Bool.not_eq_false, not_true_eq_false, not_false_eq_true, reduceCtorEq] at ha16)
  refine WpA.s 21 rfl ?_
  refine WpA.s 22 rfl ?_
  refine WpA.s 23 rfl ?_
  refine WpA.tF 24 rfl (V.pF) ?_
  refine WpA.tF 25 rfl (V.pF) ?_
  refine WpA.tF 26 rfl (V.pT) ?_
  refine WpA.tF 27 rfl (V.as) ?_
  refine WpA.ou ?_
  apply Out.seqN
  apply Wp.ret
  refine Out.f1 rfl ResIs.t ⟨?_, rfl⟩
  focus ((first | (have hh := hN (by assumption); simp only [hh.1, hh.2] at *; simp_all; done) | (exfalso; have hh := hN (by assumption); simp only [hh.1, hh.2] at *; simp_all; done) | (simp_all; done)); done)
  (try simp only [decide_eq_true_eq, decide_eq_false_iff_not, Bool.not_eq_true', Bool.not_eq_false', Bool.not_eq_true, Bool.not_eq_false, not_true_eq_false, not_false_eq_true, reduceCtorEq] at ha13)
  refine WpA.s 14 rfl ?_
  refine WpA.s 15 rfl ?_
  refine WpA.s 16 rfl ?_
  refine WpA.s 17 rfl ?_
  refine WpA.s 18 rfl ?_
  refine WpA.tF 19 rfl (V.pF) ?_
  refine WpA.tF 20 rfl (V.mv) ?_
  refine WpA.s 21 rfl ?_
  refine WpA.s 22 rfl ?_
  refine WpA.s 23 rfl ?_
  refine WpA.tF 24 rfl (V.pF) ?_
  refine WpA.tF 25 rfl (V.pF) ?_
  refine WpA.tF 26 rfl (V.pT) ?_
  refine WpA.tF 27 rfl (V.as) ?_
  refine WpA.ou ?_
  apply Out.seqN
  apply Wp.ret
  refine Out.f1 rfl ResIs.t ⟨?_, rfl⟩
  focus ((first | (have hh := hN (by assumption); simp only [hh.1, hh.2] at *; simp_all; done) | (exfalso; have hh := hN (by assumption); simp only [hh.1, hh.2] at *; simp_all; done) | (simp_all; done)); done)
  (try simp only [decide_eq_true_eq, decide_eq_false_iff_not, Bool.not_eq_true', Bool.not_eq_false', Bool.not_eq_true, Bool.not_eq_false, not_true_eq_false, not_false_eq_true, reduceCtorEq] at ha11)
  (exfalso; simp at ha11; done)
open Go Go.ChangeShapes Go.WideShapes Go.ChangeAt Go.RowKit
theorem itemBytes_read : (Try.f15.params.toList.all fun t => Try.prog.readableRec t && decide (t < Try.prog.types.size)) = true := by kernel_rfl
theorem itemBytes_lifted (os : Go.Os) (started : os.Started) (H : Type) (enc : Go.TypeId × Go.Value → H) :
    ReturnsInHanded {} Try.checked os 15 .any (Rows.itemBytesSpec.pre6 enc Try.prog Try.f15 Rows.itemBytesRow.domain false) (Rows.itemBytesSpec.post enc Try.prog Try.f15 false true false false) := by
  refine returnsInHanded_of_change_sized (C := Try.checked) own started (by kernel_rfl) Try.func15
    (ChangeSpec.witness6 (enc := enc) (C := Try.checked) false ⟨#[], #[A TItem.z.c, S []], []⟩ 8 (by kernel_rfl) (by kernel_rfl) (by kernel_rfl) (by kernel_rfl)) ?_
  intro W base args ds gs before hval0 hW hcnd hsz0 _
  have hsz : (DataW.weightsEach Try.prog (Try.f15.params.toList ++ Rows.itemBytesSpec.plain.varTypes Try.prog) (ds ++ gs)).all (· ≤ reachBytes) = true := hsz0
  have hval : ∀ (j : Nat) t v, Try.f15.params[j]? = some t → args[j]? = some v → Value.okWide Try.prog W .any base t v := hval0
  have hW' := hW
  obtain ⟨p, q, hA0, hV, rfl, hfz, hnd⟩ := hW
  have hA1 : DataW.TrodAll enc Try.prog W 0 (fun _ => true) true Try.f15.params.toList args.toList ds p := hA0
  have hA := hA1
  rw [Try.params15] at hA hval hsz
  obtain ⟨v0, vs0, d0, ds0, p0, q0, hargs, rfl, rfl, h0, r0⟩ := trodAll_cons hA
  obtain ⟨v1, vs1, d1, ds1, p1, q1, rfl, rfl, rfl, h1, r1⟩ := trodAll_cons r0
  obtain ⟨rfl, rfl, rfl⟩ := trodAll_nil r1
  obtain rfl : args = #[v0, v1] := by cases args; simp_all
  obtain ⟨rfl, rfl⟩ := trodVars_none hV
  obtain ⟨c0, rfl, f0⟩ := open_plain TItem.leaves ⟨_, Try.underlying30⟩ (hval 0 30 v0 rfl rfl) h0 (sizedAll hsz 0 rfl rfl)
  obtain ⟨x0, rfl, w0⟩ := TItem.fit f0
  obtain ⟨x1, rfl, w1⟩ := open_str (P := Try.prog) Try.underlying9 h1 (string_cells (hval 1 9 v1 rfl rfl) Try.underlying9) (sizedAll hsz 1 rfl rfl)
  simp only [List.append_nil] at hW' hA1
  refine (Fun.run (itemBytes_walk x0 x1 (In.i64 w0.1).2 (In.i64 w0.2).2) W).mono fun e W' hh => ?_
  obtain ⟨rfl, hS⟩ := hh
  exact ⟨_, rfl, post_law (P := Try.prog) (f := Try.f15) (tbool := 4) hW' hA1 rfl rfl hS laid itemBytes_read rfl Try.underlying4⟩
theorem itemBytes_over : Rows.itemBytesRow.holds Try.pinned (OpenSpec.ofChange Rows.itemBytesSpec) :=
  OpenClaim.holds_of_wide 15 Try.f15 rfl rfl rfl rfl rfl rfl rfl ⟨rfl, rfl, rfl, rfl, rfl⟩ rfl rfl rfl rfl rfl (by kernel_rfl) Try.func15 (by kernel_rfl)
    (of_decide_eq_true (by kernel_rfl)) (by unfold Func.isWrapper; first | (rw [if_pos (by decide +kernel)]; kernel_rfl) | (rw [if_neg (by decide +kernel)]; exact ⟨rfl, rfl⟩))
    (fun os started H enc _ => itemBytes_lifted os started H enc)
/-- THE STATEMENT. -/
theorem itemBytes_proved : Rows.ItemBytesSaid := itemBytes_over
#print axioms itemBytes_proved

end Go.Proofs.Ytgbflapcadlelaa
