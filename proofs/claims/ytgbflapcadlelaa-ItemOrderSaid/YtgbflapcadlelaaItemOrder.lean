/-
  The statement ItemOrder of layer 3: Good and Less answer what the document says, of all places: an order. Proved for every input.
-/
import Derived.Test.YtgbflapcadlelaaItem4
namespace Go.Proofs.Ytgbflapcadlelaa
open Go.HL
set_option linter.unusedSimpArgs false
set_option linter.unusedVariables false
set_option maxRecDepth 8000
theorem lessI_spec (a b : TItem) : lessI a b = true ↔ (a.Num < b.Num ∨ a.Num = b.Num ∧ a.Rep < b.Rep) := by
  unfold lessI; split <;> simp <;> omega
theorem itemOrder_walk (a b c : TItem) (n : Int) : Fun Try.prog 8 [A a.c, A b.c, A c.c, I n] (B true) := by
  have ne : (a = b) ↔ (a.Rep = b.Rep ∧ a.Num = b.Num) := by cases a; cases b; simp
  have t1 : lessI a b = true → lessI b c = true → lessI a c = true := by
    simp only [lessI_spec]; omega
  have t2 : (lessI a b || lessI b a) = !decide (a = b) := by
    rw [Bool.eq_iff_iff]; simp only [Bool.or_eq_true, lessI_spec, Bool.not_eq_true', decide_eq_false_iff_not, ne]; omega
  have t3 : (lessI a b && lessI b a) = false := by
    rw [← Bool.not_eq_true]; simp only [Bool.and_eq_true, lessI_spec]; omega
  refine Ct.enter Try.func8 rfl rfl fun W => ?_
  apply Wp.seq
  apply Wp.region
  refine WpL.o (O.bxA (fun p4 => ?_))
  refine WpL.o (O.bxA (fun p5 => ?_))
  refine WpL.o (O.bxA (fun p6 => ?_))
  refine WpL.v (V.as) ?_
  apply WpL.nil
  apply Out.seqN
  apply Wp.seq
  apply Wp.seq
  apply Wp.region
  refine WpL.o (Op1.fn rfl (alive03) ?_)
  refine WpL.v (V.not) ?_
  apply WpL.nil
  apply Out.seqN
  refine Wp.cF ?_
  apply Wp.skip
  apply Out.seqN
  apply Wp.seq
  apply Wp.seq
  apply Wp.region
  refine WpL.v (V.ldA tb) ?_
  refine WpL.v (V.ldA tb) ?_
  refine WpL.o (Op1.fn rfl (item_less _ _) ?_)
  refine WpL.v (V.mv) ?_
  refine WpL.pt (fun ha0 => ?_) (fun ha0 => ?_)
  (try simp only [decide_eq_true_eq, decide_eq_false_iff_not, Bool.not_eq_true', Bool.not_eq_false', Bool.not_eq_true, Bool.not_eq_false, not_true_eq_false, not_false_eq_true, reduceCtorEq] at ha0)
  refine WpL.v (V.ldA tb) ?_
  refine WpL.v (V.ldA tb) ?_
  refine WpL.o (Op1.fn rfl (item_less _ _) ?_)
  refine WpL.v (V.pT) ?_
  refine WpL.v (V.mv) ?_
  refine WpL.pt (fun ha1 => ?_) (fun ha1 => ?_)
  (try simp only [decide_eq_true_eq, decide_eq_false_iff_not, Bool.not_eq_true', Bool.not_eq_false', Bool.not_eq_true, Bool.not_eq_false, not_true_eq_false, not_false_eq_true, reduceCtorEq] at ha1)
  refine WpL.v (V.ldA tb) ?_
  refine WpL.v (V.ldA tb) ?_
  refine WpL.o (Op1.fn rfl (item_less _ _) ?_)
  refine WpL.v (V.not) ?_
  refine WpL.v (V.pT) ?_
  apply WpL.nil
  apply Out.seqN
  refine Wp.c (fun ha2 => ?_) (fun ha2 => ?_)
  (try simp only [decide_eq_true_eq, decide_eq_false_iff_not, Bool.not_eq_true', Bool.not_eq_false', Bool.not_eq_true, Bool.not_eq_false, not_true_eq_false, not_false_eq_true, reduceCtorEq] at ha2)
  apply Wp.seq
  apply Wp.region
  refine WpL.v (V.as) ?_
  apply WpL.nil
  apply Out.seqN
  apply Wp.ret
  apply Out.seqR
  refine Out.f1 rfl ResIs.t ⟨?_, rfl⟩
  focus ((simp_all); done)
  (try simp only [decide_eq_true_eq, decide_eq_false_iff_not, Bool.not_eq_true', Bool.not_eq_false', Bool.not_eq_true, Bool.not_eq_false, not_true_eq_false, not_false_eq_true, reduceCtorEq] at ha2)
  apply Wp.skip
  apply Out.seqN
  apply Wp.seq
  refine Wp.dG [] ?_ (List.Sublist.cons _ (List.Sublist.cons_cons _ (List.Sublist.cons_cons _ List.Sublist.slnil))) (List.Sublist.cons _ (List.Sublist.cons_cons _ (List.Sublist.cons_cons _ List.Sublist.slnil)))
  refine WpA.tF 0 rfl (V.ldA tb) ?_
  refine WpA.tF 1 rfl (V.mv) ?_
  refine WpA.tF 3 rfl (V.ldA tb) ?_
  refine WpA.tF 4 rfl (V.mv) ?_
  refine WpA.oS 2 rfl (Op1.fn rfl (item_good _ _) ⟨?_, ?_, ?_⟩)
  exact holdT
  exact holdT
  refine WpA.oS 5 rfl (Op1.fn rfl (ref3_good _ _) ⟨?_, ?_, ?_⟩)
  exact holdT
  exact holdT
  refine WpA.tF 6 rfl (V.eqB tb) ?_
  refine WpA.tF 7 rfl (V.mv) ?_
  refine WpA.pt 32 (fun ha3 => ?_) (fun ha3 => ?_)
  (try simp only [decide_eq_true_eq, decide_eq_false_iff_not, Bool.not_eq_true', Bool.not_eq_false', Bool.not_eq_true, Bool.not_eq_false, not_true_eq_false, not_false_eq_true, reduceCtorEq] at ha3)
  refine WpA.tF 8 rfl (V.ldA tb) ?_
  refine WpA.tF 9 rfl (V.ldA tb) ?_
  refine WpA.tF 11 rfl (V.ldA tb) ?_
  refine WpA.tF 12 rfl (V.ldA tb) ?_
  refine WpA.oS 10 rfl (Op1.fn rfl (item_less _ _) ⟨?_, ?_, ?_⟩)
  exact holdT
  exact holdT
  refine WpA.oS 13 rfl (Op1.fn rfl (ref3_less _ _) ⟨?_, ?_, ?_⟩)
  exact holdT
  exact holdT
  refine WpA.tF 14 rfl (V.eqB tb) ?_
  refine WpA.tF 15 rfl (V.pT) ?_
  refine WpA.tF 16 rfl (V.mv) ?_
  refine WpA.pt 41 (fun ha4 => ?_) (fun ha4 => ?_)
  (try simp only [decide_eq_true_eq, decide_eq_false_iff_not, Bool.not_eq_true', Bool.not_eq_false', Bool.not_eq_true, Bool.not_eq_false, not_true_eq_false, not_false_eq_true, reduceCtorEq] at ha4)
  refine WpA.tF 17 rfl (V.ldA tb) ?_
  refine WpA.tF 18 rfl (V.ldA tb) ?_
  refine WpA.tF 25 rfl (V.ldA tb) ?_
  refine WpA.tF 26 rfl (V.ldA tb) ?_
  refine WpA.tF 27 rfl (V.ne (TItem.eqT _ _ _)) ?_
  refine WpA.oS 19 rfl (Op1.fn rfl (item_less _ _) ⟨?_, ?_, ?_⟩)
  exact holdT
  exact holdT
  refine WpA.tF 20 rfl (V.mv) ?_
  refine WpA.pt 45 (fun ha5 => ?_) (fun ha5 => ?_)
  (try simp only [decide_eq_true_eq, decide_eq_false_iff_not, Bool.not_eq_true', Bool.not_eq_false', Bool.not_eq_true, Bool.not_eq_false, not_true_eq_false, not_false_eq_true, reduceCtorEq] at ha5)
  refine WpA.s 21 rfl ?_
  refine WpA.s 22 rfl ?_
  refine WpA.s 23 rfl ?_
  refine WpA.tF 24 rfl (V.pT) ?_
  refine WpA.tF 28 rfl (V.eqB tb) ?_
  refine WpA.tF 29 rfl (V.pT) ?_
  refine WpA.tF 30 rfl (V.mv) ?_
  refine WpA.pt 55 (fun ha6 => ?_) (fun ha6 => ?_)
  (try simp only [decide_eq_true_eq, decide_eq_false_iff_not, Bool.not_eq_true', Bool.not_eq_false', Bool.not_eq_true, Bool.not_eq_false, not_true_eq_false, not_false_eq_true, reduceCtorEq] at ha6)
  refine WpA.tF 31 rfl (V.ldA tb) ?_
  refine WpA.tF 32 rfl (V.ldA tb) ?_
  refine WpA.oS 33 rfl (Op1.fn rfl (item_less _ _) ⟨?_, ?_, ?_⟩)
  exact holdT
  exact holdT
  refine WpA.tF 34 rfl (V.mv) ?_
  refine WpA.pt 59 (fun ha7 => ?_) (fun ha7 => ?_)
  (try simp only [decide_eq_true_eq, decide_eq_false_iff_not, Bool.not_eq_true', Bool.not_eq_false', Bool.not_eq_true, Bool.not_eq_false, not_true_eq_false, not_false_eq_true, reduceCtorEq] at ha7)
  refine WpA.tF 35 rfl (V.ldA tb) ?_
  refine WpA.tF 36 rfl (V.ldA tb) ?_
  refine WpA.oS 37 rfl (Op1.fn rfl (item_less _ _) ⟨?_, ?_, ?_⟩)
  exact holdT
  exact holdT
  refine WpA.tF 38 rfl (V.pT) ?_
  refine WpA.tF 39 rfl (V.not) ?_
  refine WpA.tF 40 rfl (V.pT) ?_
  refine WpA.tF 41 rfl (V.as) ?_
  refine WpA.ou ?_
  apply Out.seqN
  apply Wp.ret
  refine Out.f1 rfl ResIs.t ⟨?_, rfl⟩
  focus ((simp_all); done)
  (try simp only [decide_eq_true_eq, decide_eq_false_iff_not, Bool.not_eq_true', Bool.not_eq_false', Bool.not_eq_true, Bool.not_eq_false, not_true_eq_false, not_false_eq_true, reduceCtorEq] at ha7)
  refine WpA.s 35 rfl ?_
  refine WpA.s 36 rfl ?_
  refine WpA.s 37 rfl ?_
  refine WpA.tF 38 rfl (V.pF) ?_
  refine WpA.tF 39 rfl (V.not) ?_
  refine WpA.tF 40 rfl (V.pT) ?_
  refine WpA.tF 41 rfl (V.as) ?_
  refine WpA.ou ?_
  apply Out.seqN
  apply Wp.ret
  refine Out.f1 rfl ResIs.t ⟨?_, rfl⟩
  exact rfl
  (try simp only [decide_eq_true_eq, decide_eq_false_iff_not, Bool.not_eq_true', Bool.not_eq_false', Bool.not_eq_true, Bool.not_eq_false, not_true_eq_false, not_false_eq_true, reduceCtorEq] at ha6)
  refine WpA.s 31 rfl ?_
  refine WpA.s 32 rfl ?_
  refine WpA.s 33 rfl ?_
  refine WpA.s 34 rfl ?_
  refine WpA.s 35 rfl ?_
  refine WpA.s 36 rfl ?_
  refine WpA.s 37 rfl ?_
  refine WpA.s 38 rfl ?_
  refine WpA.s 39 rfl ?_
  refine WpA.tF 40 rfl (V.pF) ?_
  refine WpA.tF 41 rfl (V.as) ?_
  refine WpA.ou ?_
  apply Out.seqN
  apply Wp.ret
  refine Out.f1 rfl ResIs.t ⟨?_, rfl⟩
  focus ((simp_all); done)
  (try simp only [decide_eq_true_eq, decide_eq_false_iff_not, Bool.not_eq_true', Bool.not_eq_false', Bool.not_eq_true, Bool.not_eq_false, not_true_eq_false, not_false_eq_true, reduceCtorEq] at ha5)
  refine WpA.tF 21 rfl (V.ldA tb) ?_
  refine WpA.tF 22 rfl (V.ldA tb) ?_
  refine WpA.oS 23 rfl (Op1.fn rfl (item_less _ _) ⟨?_, ?_, ?_⟩)
  exact holdT
  exact holdT
  refine WpA.tF 24 rfl (V.pF) ?_
  refine WpA.tF 28 rfl (V.eqB tb) ?_
  refine WpA.tF 29 rfl (V.pT) ?_
  refine WpA.tF 30 rfl (V.mv) ?_
  refine WpA.pt 55 (fun ha8 => ?_) (fun ha8 => ?_)
  (try simp only [decide_eq_true_eq, decide_eq_false_iff_not, Bool.not_eq_true', Bool.not_eq_false', Bool.not_eq_true, Bool.not_eq_false, not_true_eq_false, not_false_eq_true, reduceCtorEq] at ha8)
  refine WpA.tF 31 rfl (V.ldA tb) ?_
  refine WpA.tF 32 rfl (V.ldA tb) ?_
  refine WpA.oS 33 rfl (Op1.fn rfl (item_less _ _) ⟨?_, ?_, ?_⟩)
  exact holdT
  exact holdT
  refine WpA.tF 34 rfl (V.mv) ?_
  refine WpA.pt 59 (fun ha9 => ?_) (fun ha9 => ?_)
  (try simp only [decide_eq_true_eq, decide_eq_false_iff_not, Bool.not_eq_true', Bool.not_eq_false', Bool.not_eq_true, Bool.not_eq_false, not_true_eq_false, not_false_eq_true, reduceCtorEq] at ha9)
  refine WpA.tF 35 rfl (V.ldA tb) ?_
  refine WpA.tF 36 rfl (V.ldA tb) ?_
  refine WpA.oS 37 rfl (Op1.fn rfl (item_less _ _) ⟨?_, ?_, ?_⟩)
  exact holdT
  exact holdT
  refine WpA.tF 38 rfl (V.pT) ?_
  refine WpA.tF 39 rfl (V.not) ?_
  refine WpA.tF 40 rfl (V.pT) ?_
  refine WpA.tF 41 rfl (V.as) ?_
  refine WpA.ou ?_
  apply Out.seqN
  apply Wp.ret
  refine Out.f1 rfl ResIs.t ⟨?_, rfl⟩
  focus ((simp_all); done)
  (try simp only [decide_eq_true_eq, decide_eq_false_iff_not, Bool.not_eq_true', Bool.not_eq_false', Bool.not_eq_true, Bool.not_eq_false, not_true_eq_false, not_false_eq_true, reduceCtorEq] at ha9)
  refine WpA.s 35 rfl ?_
  refine WpA.s 36 rfl ?_
  refine WpA.s 37 rfl ?_
  refine WpA.tF 38 rfl (V.pF) ?_
  refine WpA.tF 39 rfl (V.not) ?_
  refine WpA.tF 40 rfl (V.pT) ?_
  refine WpA.tF 41 rfl (V.as) ?_
  refine WpA.ou ?_
  apply Out.seqN
  apply Wp.ret
  refine Out.f1 rfl ResIs.t ⟨?_, rfl⟩
  exact rfl
  (try simp only [decide_eq_true_eq, decide_eq_false_iff_not, Bool.not_eq_true', Bool.not_eq_false', Bool.not_eq_true, Bool.not_eq_false, not_true_eq_false, not_false_eq_true, reduceCtorEq] at ha8)
  refine WpA.s 31 rfl ?_
  refine WpA.s 32 rfl ?_
  refine WpA.s 33 rfl ?_
  refine WpA.s 34 rfl ?_
  refine WpA.s 35 rfl ?_
  refine WpA.s 36 rfl ?_
  refine WpA.s 37 rfl ?_
  refine WpA.s 38 rfl ?_
  refine WpA.s 39 rfl ?_
  refine WpA.tF 40 rfl (V.pF) ?_
  refine WpA.tF 41 rfl (V.as) ?_
  refine WpA.ou ?_
  apply Out.seqN
  apply Wp.ret
  refine Out.f1 rfl ResIs.t ⟨?_, rfl⟩
  focus ((simp_all); done)
  (try simp only [decide_eq_true_eq, decide_eq_false_iff_not, Bool.not_eq_true', Bool.not_eq_false', Bool.not_eq_true, Bool.not_eq_false, not_true_eq_false, not_false_eq_true, reduceCtorEq] at ha4)
  refine WpA.s 17 rfl ?_
  refine WpA.s 18 rfl ?_
  refine WpA.s 19 rfl ?_
  refine WpA.s 20 rfl ?_
  refine WpA.s 21 rfl ?_
  refine WpA.s 22 rfl ?_
  refine WpA.s 23 rfl ?_
  refine WpA.s 24 rfl ?_
  refine WpA.s 25 rfl ?_
  refine WpA.s 26 rfl ?_
  refine WpA.s 27 rfl ?_
  refine WpA.s 28 rfl ?_
  refine WpA.tF 29 rfl (V.pF) ?_
  refine WpA.tF 30 rfl (V.mv) ?_
  refine WpA.s 31 rfl ?_
  refine WpA.s 32 rfl ?_
  refine WpA.s 33 rfl ?_
  refine WpA.s 34 rfl ?_
  refine WpA.s 35 rfl ?_
  refine WpA.s 36 rfl ?_
  refine WpA.s 37 rfl ?_
  refine WpA.s 38 rfl ?_
  refine WpA.s 39 rfl ?_
  refine WpA.tF 40 rfl (V.pF) ?_
  refine WpA.tF 41 rfl (V.as) ?_
  refine WpA.ou ?_
  apply Out.seqN
  apply Wp.ret
  refine Out.f1 rfl ResIs.t ⟨?_, rfl⟩
  focus ((simp_all); done)
  (try simp only [decide_eq_true_eq, decide_eq_false_iff_not, Bool.not_eq_true', Bool.not_eq_false', Bool.not_eq_true, Bool.not_eq_false, not_true_eq_false, not_false_eq_true, reduceCtorEq] at ha3)
  refine WpA.s 8 rfl ?_
  refine WpA.s 9 rfl ?_
  refine WpA.s 10 rfl ?_
  refine WpA.s 11 rfl ?_
  refine WpA.s 12 rfl ?_
  refine WpA.s 13 rfl ?_
  refine WpA.s 14 rfl ?_
  refine WpA.tF 15 rfl (V.pF) ?_
  refine WpA.tF 16 rfl (V.mv) ?_
  refine WpA.s 17 rfl ?_
  refine WpA.s 18 rfl ?_
  refine WpA.s 19 rfl ?_
  refine WpA.s 20 rfl ?_
  refine WpA.s 21 rfl ?_
  refine WpA.s 22 rfl ?_
  refine WpA.s 23 rfl ?_
  refine WpA.s 24 rfl ?_
  refine WpA.s 25 rfl ?_
  refine WpA.s 26 rfl ?_
  refine WpA.s 27 rfl ?_
  refine WpA.s 28 rfl ?_
  refine WpA.tF 29 rfl (V.pF) ?_
  refine WpA.tF 30 rfl (V.mv) ?_
  refine WpA.s 31 rfl ?_
  refine WpA.s 32 rfl ?_
  refine WpA.s 33 rfl ?_
  refine WpA.s 34 rfl ?_
  refine WpA.s 35 rfl ?_
  refine WpA.s 36 rfl ?_
  refine WpA.s 37 rfl ?_
  refine WpA.s 38 rfl ?_
  refine WpA.s 39 rfl ?_
  refine WpA.tF 40 rfl (V.pF) ?_
  refine WpA.tF 41 rfl (V.as) ?_
  refine WpA.ou ?_
  apply Out.seqN
  apply Wp.ret
  refine Out.f1 rfl ResIs.t ⟨?_, rfl⟩
  focus ((simp_all); done)
  (try simp only [decide_eq_true_eq, decide_eq_false_iff_not, Bool.not_eq_true', Bool.not_eq_false', Bool.not_eq_true, Bool.not_eq_false, not_true_eq_false, not_false_eq_true, reduceCtorEq] at ha1)
  refine WpL.sk ?_
  refine WpL.sk ?_
  refine WpL.sk ?_
  refine WpL.sk ?_
  refine WpL.v (V.pF) ?_
  apply WpL.nil
  apply Out.seqN
  refine Wp.cF ?_
  apply Wp.skip
  apply Out.seqN
  apply Wp.seq
  refine Wp.dG [] ?_ (List.Sublist.cons _ (List.Sublist.cons_cons _ (List.Sublist.cons_cons _ List.Sublist.slnil))) (List.Sublist.cons _ (List.Sublist.cons_cons _ (List.Sublist.cons_cons _ List.Sublist.slnil)))
  refine WpA.tF 0 rfl (V.ldA tb) ?_
  refine WpA.tF 1 rfl (V.mv) ?_
  refine WpA.tF 3 rfl (V.ldA tb) ?_
  refine WpA.tF 4 rfl (V.mv) ?_
  refine WpA.oS 2 rfl (Op1.fn rfl (item_good _ _) ⟨?_, ?_, ?_⟩)
  exact holdT
  exact holdT
  refine WpA.oS 5 rfl (Op1.fn rfl (ref3_good _ _) ⟨?_, ?_, ?_⟩)
  exact holdT
  exact holdT
  refine WpA.tF 6 rfl (V.eqB tb) ?_
  refine WpA.tF 7 rfl (V.mv) ?_
  refine WpA.pt 32 (fun ha10 => ?_) (fun ha10 => ?_)
  (try simp only [decide_eq_true_eq, decide_eq_false_iff_not, Bool.not_eq_true', Bool.not_eq_false', Bool.not_eq_true, Bool.not_eq_false, not_true_eq_false, not_false_eq_true, reduceCtorEq] at ha10)
  refine WpA.tF 8 rfl (V.ldA tb) ?_
  refine WpA.tF 9 rfl (V.ldA tb) ?_
  refine WpA.tF 11 rfl (V.ldA tb) ?_
  refine WpA.tF 12 rfl (V.ldA tb) ?_
  refine WpA.oS 10 rfl (Op1.fn rfl (item_less _ _) ⟨?_, ?_, ?_⟩)
  exact holdT
  exact holdT
  refine WpA.oS 13 rfl (Op1.fn rfl (ref3_less _ _) ⟨?_, ?_, ?_⟩)
  exact holdT
  exact holdT
  refine WpA.tF 14 rfl (V.eqB tb) ?_
  refine WpA.tF 15 rfl (V.pT) ?_
  refine WpA.tF 16 rfl (V.mv) ?_
  refine WpA.pt 41 (fun ha11 => ?_) (fun ha11 => ?_)
  (try simp only [decide_eq_true_eq, decide_eq_false_iff_not, Bool.not_eq_true', Bool.not_eq_false', Bool.not_eq_true, Bool.not_eq_false, not_true_eq_false, not_false_eq_true, reduceCtorEq] at ha11)
  refine WpA.tF 17 rfl (V.ldA tb) ?_
  refine WpA.tF 18 rfl (V.ldA tb) ?_
  refine WpA.tF 25 rfl (V.ldA tb) ?_
  refine WpA.tF 26 rfl (V.ldA tb) ?_
  refine WpA.tF 27 rfl (V.ne (TItem.eqT _ _ _)) ?_
  refine WpA.oS 19 rfl (Op1.fn rfl (item_less _ _) ⟨?_, ?_, ?_⟩)
  exact holdT
  exact holdT
  refine WpA.tF 20 rfl (V.mv) ?_
  refine WpA.pt 45 (fun ha12 => ?_) (fun ha12 => ?_)
  (try simp only [decide_eq_true_eq, decide_eq_false_iff_not, Bool.not_eq_true', Bool.not_eq_false', Bool.not_eq_true, Bool.not_eq_false, not_true_eq_false, not_false_eq_true, reduceCtorEq] at ha12)
  refine WpA.s 21 rfl ?_
  refine WpA.s 22 rfl ?_
  refine WpA.s 23 rfl ?_
  refine WpA.tF 24 rfl (V.pT) ?_
  refine WpA.tF 28 rfl (V.eqB tb) ?_
  refine WpA.tF 29 rfl (V.pT) ?_
  refine WpA.tF 30 rfl (V.mv) ?_
  refine WpA.pt 55 (fun ha13 => ?_) (fun ha13 => ?_)
  (try simp only [decide_eq_true_eq, decide_eq_false_iff_not, Bool.not_eq_true', Bool.not_eq_false', Bool.not_eq_true, Bool.not_eq_false, not_true_eq_false, not_false_eq_true, reduceCtorEq] at ha13)
  refine WpA.tF 31 rfl (V.ldA tb) ?_
  refine WpA.tF 32 rfl (V.ldA tb) ?_
  refine WpA.oS 33 rfl (Op1.fn rfl (item_less _ _) ⟨?_, ?_, ?_⟩)
  exact holdT
  exact holdT
  refine WpA.tF 34 rfl (V.mv) ?_
  refine WpA.pt 59 (fun ha14 => ?_) (fun ha14 => ?_)
  (try simp only [decide_eq_true_eq, decide_eq_false_iff_not, Bool.not_eq_true', Bool.not_eq_false', Bool.not_eq_true, Bool.not_eq_false, not_true_eq_false, not_false_eq_true, reduceCtorEq] at ha14)
  refine WpA.tF 35 rfl (V.ldA tb) ?_
  refine WpA.tF 36 rfl (V.ldA tb) ?_
  refine WpA.oS 37 rfl (Op1.fn rfl (item_less _ _) ⟨?_, ?_, ?_⟩)
  exact holdT
  exact holdT
  refine WpA.tF 38 rfl (V.pT) ?_
  refine WpA.tF 39 rfl (V.not) ?_
  refine WpA.tF 40 rfl (V.pT) ?_
  refine WpA.tF 41 rfl (V.as) ?_
  refine WpA.ou ?_
  apply Out.seqN
  apply Wp.ret
  refine Out.f1 rfl ResIs.t ⟨?_, rfl⟩
  focus ((simp_all); done)
  (try simp only [decide_eq_true_eq, decide_eq_false_iff_not, Bool.not_eq_true', Bool.not_eq_false', Bool.not_eq_true, Bool.not_eq_false, not_true_eq_false, not_false_eq_true, reduceCtorEq] at ha14)
  refine WpA.s 35 rfl ?_
  refine WpA.s 36 rfl ?_
  refine WpA.s 37 rfl ?_
  refine WpA.tF 38 rfl (V.pF) ?_
  refine WpA.tF 39 rfl (V.not) ?_
  refine WpA.tF 40 rfl (V.pT) ?_
  refine WpA.tF 41 rfl (V.as) ?_
  refine WpA.ou ?_
  apply Out.seqN
  apply Wp.ret
  refine Out.f1 rfl ResIs.t ⟨?_, rfl⟩
  exact rfl
  (try simp only [decide_eq_true_eq, decide_eq_false_iff_not, Bool.not_eq_true', Bool.not_eq_false', Bool.not_eq_true, Bool.not_eq_false, not_true_eq_false, not_false_eq_true, reduceCtorEq] at ha13)
  refine WpA.s 31 rfl ?_
  refine WpA.s 32 rfl ?_
  refine WpA.s 33 rfl ?_
  refine WpA.s 34 rfl ?_
  refine WpA.s 35 rfl ?_
  refine WpA.s 36 rfl ?_
  refine WpA.s 37 rfl ?_
  refine WpA.s 38 rfl ?_
  refine WpA.s 39 rfl ?_
  refine WpA.tF 40 rfl (V.pF) ?_
  refine WpA.tF 41 rfl (V.as) ?_
  refine WpA.ou ?_
  apply Out.seqN
  apply Wp.ret
  refine Out.f1 rfl ResIs.t ⟨?_, rfl⟩
  focus ((simp_all); done)
  (try simp only [decide_eq_true_eq, decide_eq_false_iff_not, Bool.not_eq_true', Bool.not_eq_false', Bool.not_eq_true, Bool.not_eq_false, not_true_eq_false, not_false_eq_true, reduceCtorEq] at ha12)
  refine WpA.tF 21 rfl (V.ldA tb) ?_
  refine WpA.tF 22 rfl (V.ldA tb) ?_
  refine WpA.oS 23 rfl (Op1.fn rfl (item_less _ _) ⟨?_, ?_, ?_⟩)
  exact holdT
  exact holdT
  refine WpA.tF 24 rfl (V.pF) ?_
  refine WpA.tF 28 rfl (V.eqB tb) ?_
  refine WpA.tF 29 rfl (V.pT) ?_
  refine WpA.tF 30 rfl (V.mv) ?_
  refine WpA.pt 55 (fun ha15 => ?_) (fun ha15 => ?_)
  (try simp only [decide_eq_true_eq, decide_eq_false_iff_not, Bool.not_eq_true', Bool.not_eq_false', Bool.not_eq_true, Bool.not_eq_false, not_true_eq_false, not_false_eq_true, reduceCtorEq] at ha15)
  refine WpA.tF 31 rfl (V.ldA tb) ?_
  refine WpA.tF 32 rfl (V.ldA tb) ?_
  refine WpA.oS 33 rfl (Op1.fn rfl (item_less _ _) ⟨?_, ?_, ?_⟩)
  exact holdT
  exact holdT
  refine WpA.tF 34 rfl (V.mv) ?_
  refine WpA.pt 59 (fun ha16 => ?_) (fun ha16 => ?_)
  (try simp only [decide_eq_true_eq, decide_eq_false_iff_not, Bool.not_eq_true', Bool.not_eq_false', Bool.not_eq_true, Bool.not_eq_false, not_true_eq_false, not_false_eq_true, reduceCtorEq] at ha16)
  refine WpA.tF 35 rfl (V.ldA tb) ?_
  refine WpA.tF 36 rfl (V.ldA tb) ?_
  refine WpA.oS 37 rfl (Op1.fn rfl (item_less _ _) ⟨?_, ?_, ?_⟩)
  exact holdT
  exact holdT
  refine WpA.tF 38 rfl (V.pT) ?_
  refine WpA.tF 39 rfl (V.not) ?_
  refine WpA.tF 40 rfl (V.pT) ?_
  refine WpA.tF 41 rfl (V.as) ?_
  refine WpA.ou ?_
  apply Out.seqN
  apply Wp.ret
  refine Out.f1 rfl ResIs.t ⟨?_, rfl⟩
  focus ((simp_all); done)
  (try simp only [decide_eq_true_eq, decide_eq_false_iff_not, Bool.not_eq_true', Bool.not_eq_false', Bool.not_eq_true, Bool.not_eq_false, not_true_eq_false, not_false_eq_true, reduceCtorEq] at ha16)
  refine WpA.s 35 rfl ?_
  refine WpA.s 36 rfl ?_
  refine WpA.s 37 rfl ?_
  refine WpA.tF 38 rfl (V.pF) ?_
  refine WpA.tF 39 rfl (V.not) ?_
  refine WpA.tF 40 rfl (V.pT) ?_
  refine WpA.tF 41 rfl (V.as) ?_
  refine WpA.ou ?_
  apply Out.seqN
  apply Wp.ret
  refine Out.f1 rfl ResIs.t ⟨?_, rfl⟩
  exact rfl
  (try simp only [decide_eq_true_eq, decide_eq_false_iff_not, Bool.not_eq_true', Bool.not_eq_false', Bool.not_eq_true, Bool.not_eq_false, not_true_eq_false, not_false_eq_true, reduceCtorEq] at ha15)
  refine WpA.s 31 rfl ?_
  refine WpA.s 32 rfl ?_
  refine WpA.s 33 rfl ?_
  refine WpA.s 34 rfl ?_
  refine WpA.s 35 rfl ?_
  refine WpA.s 36 rfl ?_
  refine WpA.s 37 rfl ?_
  refine WpA.s 38 rfl ?_
  refine WpA.s 39 rfl ?_
  refine WpA.tF 40 rfl (V.pF) ?_
  refine WpA.tF 41 rfl (V.as) ?_
  refine WpA.ou ?_
  apply Out.seqN
  apply Wp.ret
  refine Out.f1 rfl ResIs.t ⟨?_, rfl⟩
  focus ((simp_all); done)
  (try simp only [decide_eq_true_eq, decide_eq_false_iff_not, Bool.not_eq_true', Bool.not_eq_false', Bool.not_eq_true, Bool.not_eq_false, not_true_eq_false, not_false_eq_true, reduceCtorEq] at ha11)
  refine WpA.s 17 rfl ?_
  refine WpA.s 18 rfl ?_
  refine WpA.s 19 rfl ?_
  refine WpA.s 20 rfl ?_
  refine WpA.s 21 rfl ?_
  refine WpA.s 22 rfl ?_
  refine WpA.s 23 rfl ?_
  refine WpA.s 24 rfl ?_
  refine WpA.s 25 rfl ?_
  refine WpA.s 26 rfl ?_
  refine WpA.s 27 rfl ?_
  refine WpA.s 28 rfl ?_
  refine WpA.tF 29 rfl (V.pF) ?_
  refine WpA.tF 30 rfl (V.mv) ?_
  refine WpA.s 31 rfl ?_
  refine WpA.s 32 rfl ?_
  refine WpA.s 33 rfl ?_
  refine WpA.s 34 rfl ?_
  refine WpA.s 35 rfl ?_
  refine WpA.s 36 rfl ?_
  refine WpA.s 37 rfl ?_
  refine WpA.s 38 rfl ?_
  refine WpA.s 39 rfl ?_
  refine WpA.tF 40 rfl (V.pF) ?_
  refine WpA.tF 41 rfl (V.as) ?_
  refine WpA.ou ?_
  apply Out.seqN
  apply Wp.ret
  refine Out.f1 rfl ResIs.t ⟨?_, rfl⟩
  focus ((simp_all); done)
  (try simp only [decide_eq_true_eq, decide_eq_false_iff_not, Bool.not_eq_true', Bool.not_eq_false', Bool.not_eq_true, Bool.not_eq_false, not_true_eq_false, not_false_eq_true, reduceCtorEq] at ha10)
  refine WpA.s 8 rfl ?_
  refine WpA.s 9 rfl ?_
  refine WpA.s 10 rfl ?_
  refine WpA.s 11 rfl ?_
  refine WpA.s 12 rfl ?_
  refine WpA.s 13 rfl ?_
  refine WpA.s 14 rfl ?_
  refine WpA.tF 15 rfl (V.pF) ?_
  refine WpA.tF 16 rfl (V.mv) ?_
  refine WpA.s 17 rfl ?_
  refine WpA.s 18 rfl ?_
  refine WpA.s 19 rfl ?_
  refine WpA.s 20 rfl ?_
  refine WpA.s 21 rfl ?_
  refine WpA.s 22 rfl ?_
  refine WpA.s 23 rfl ?_
  refine WpA.s 24 rfl ?_
  refine WpA.s 25 rfl ?_
  refine WpA.s 26 rfl ?_
  refine WpA.s 27 rfl ?_
  refine WpA.s 28 rfl ?_
  refine WpA.tF 29 rfl (V.pF) ?_
  refine WpA.tF 30 rfl (V.mv) ?_
  refine WpA.s 31 rfl ?_
  refine WpA.s 32 rfl ?_
  refine WpA.s 33 rfl ?_
  refine WpA.s 34 rfl ?_
  refine WpA.s 35 rfl ?_
  refine WpA.s 36 rfl ?_
  refine WpA.s 37 rfl ?_
  refine WpA.s 38 rfl ?_
  refine WpA.s 39 rfl ?_
  refine WpA.tF 40 rfl (V.pF) ?_
  refine WpA.tF 41 rfl (V.as) ?_
  refine WpA.ou ?_
  apply Out.seqN
  apply Wp.ret
  refine Out.f1 rfl ResIs.t ⟨?_, rfl⟩
  focus ((simp_all); done)
  (try simp only [decide_eq_true_eq, decide_eq_false_iff_not, Bool.not_eq_true', Bool.not_eq_false', Bool.not_eq_true, Bool.not_eq_false, not_true_eq_false, not_false_eq_true, reduceCtorEq] at ha0)
  refine WpL.sk ?_
  refine WpL.sk ?_
  refine WpL.sk ?_
  refine WpL.v (V.pF) ?_
  refine WpL.v (V.mv) ?_
  refine WpL.sk ?_
  refine WpL.sk ?_
  refine WpL.sk ?_
  refine WpL.sk ?_
  refine WpL.v (V.pF) ?_
  apply WpL.nil
  apply Out.seqN
  refine Wp.cF ?_
  apply Wp.skip
  apply Out.seqN
  apply Wp.seq
  refine Wp.dG [] ?_ (List.Sublist.cons _ (List.Sublist.cons_cons _ (List.Sublist.cons_cons _ List.Sublist.slnil))) (List.Sublist.cons _ (List.Sublist.cons_cons _ (List.Sublist.cons_cons _ List.Sublist.slnil)))
  refine WpA.tF 0 rfl (V.ldA tb) ?_
  refine WpA.tF 1 rfl (V.mv) ?_
  refine WpA.tF 3 rfl (V.ldA tb) ?_
  refine WpA.tF 4 rfl (V.mv) ?_
  refine WpA.oS 2 rfl (Op1.fn rfl (item_good _ _) ⟨?_, ?_, ?_⟩)
  exact holdT
  exact holdT
  refine WpA.oS 5 rfl (Op1.fn rfl (ref3_good _ _) ⟨?_, ?_, ?_⟩)
  exact holdT
  exact holdT
  refine WpA.tF 6 rfl (V.eqB tb) ?_
  refine WpA.tF 7 rfl (V.mv) ?_
  refine WpA.pt 32 (fun ha17 => ?_) (fun ha17 => ?_)
  (try simp only [decide_eq_true_eq, decide_eq_false_iff_not, Bool.not_eq_true', Bool.not_eq_false', Bool.not_eq_true, Bool.not_eq_false, not_true_eq_false, not_false_eq_true, reduceCtorEq] at ha17)
  refine WpA.tF 8 rfl (V.ldA tb) ?_
  refine WpA.tF 9 rfl (V.ldA tb) ?_
  refine WpA.tF 11 rfl (V.ldA tb) ?_
  refine WpA.tF 12 rfl (V.ldA tb) ?_
  refine WpA.oS 10 rfl (Op1.fn rfl (item_less _ _) ⟨?_, ?_, ?_⟩)
  exact holdT
  exact holdT
  refine WpA.oS 13 rfl (Op1.fn rfl (ref3_less _ _) ⟨?_, ?_, ?_⟩)
  exact holdT
  exact holdT
  refine WpA.tF 14 rfl (V.eqB tb) ?_
  refine WpA.tF 15 rfl (V.pT) ?_
  refine WpA.tF 16 rfl (V.mv) ?_
  refine WpA.pt 41 (fun ha18 => ?_) (fun ha18 => ?_)
  (try simp only [decide_eq_true_eq, decide_eq_false_iff_not, Bool.not_eq_true', Bool.not_eq_false', Bool.not_eq_true, Bool.not_eq_false, not_true_eq_false, not_false_eq_true, reduceCtorEq] at ha18)
  refine WpA.tF 17 rfl (V.ldA tb) ?_
  refine WpA.tF 18 rfl (V.ldA tb) ?_
  refine WpA.tF 25 rfl (V.ldA tb) ?_
  refine WpA.tF 26 rfl (V.ldA tb) ?_
  refine WpA.tF 27 rfl (V.ne (TItem.eqT _ _ _)) ?_
  refine WpA.oS 19 rfl (Op1.fn rfl (item_less _ _) ⟨?_, ?_, ?_⟩)
  exact holdT
  exact holdT
  refine WpA.tF 20 rfl (V.mv) ?_
  refine WpA.pt 45 (fun ha19 => ?_) (fun ha19 => ?_)
  (try simp only [decide_eq_true_eq, decide_eq_false_iff_not, Bool.not_eq_true', Bool.not_eq_false', Bool.not_eq_true, Bool.not_eq_false, not_true_eq_false, not_false_eq_true, reduceCtorEq] at ha19)
  refine WpA.s 21 rfl ?_
  refine WpA.s 22 rfl ?_
  refine WpA.s 23 rfl ?_
  refine WpA.tF 24 rfl (V.pT) ?_
  refine WpA.tF 28 rfl (V.eqB tb) ?_
  refine WpA.tF 29 rfl (V.pT) ?_
  refine WpA.tF 30 rfl (V.mv) ?_
  refine WpA.pt 55 (fun ha20 => ?_) (fun ha20 => ?_)
  (try simp only [decide_eq_true_eq, decide_eq_false_iff_not, Bool.not_eq_true', Bool.not_eq_false', Bool.not_eq_true, Bool.not_eq_false, not_true_eq_false, not_false_eq_true, reduceCtorEq] at ha20)
  refine WpA.tF 31 rfl (V.ldA tb) ?_
  refine WpA.tF 32 rfl (V.ldA tb) ?_
  refine WpA.oS 33 rfl (Op1.fn rfl (item_less _ _) ⟨?_, ?_, ?_⟩)
  exact holdT
  exact holdT
  refine WpA.tF 34 rfl (V.mv) ?_
  refine WpA.pt 59 (fun ha21 => ?_) (fun ha21 => ?_)
  (try simp only [decide_eq_true_eq, decide_eq_false_iff_not, Bool.not_eq_true', Bool.not_eq_false', Bool.not_eq_true, Bool.not_eq_false, not_true_eq_false, not_false_eq_true, reduceCtorEq] at ha21)
  refine WpA.tF 35 rfl (V.ldA tb) ?_
  refine WpA.tF 36 rfl (V.ldA tb) ?_
  refine WpA.oS 37 rfl (Op1.fn rfl (item_less _ _) ⟨?_, ?_, ?_⟩)
  exact holdT
  exact holdT
  refine WpA.tF 38 rfl (V.pT) ?_
  refine WpA.tF 39 rfl (V.not) ?_
  refine WpA.tF 40 rfl (V.pT) ?_
  refine WpA.tF 41 rfl (V.as) ?_
  refine WpA.ou ?_
  apply Out.seqN
  apply Wp.ret
  refine Out.f1 rfl ResIs.t ⟨?_, rfl⟩
  focus ((simp_all); done)
  (try simp only [decide_eq_true_eq, decide_eq_false_iff_not, Bool.not_eq_true', Bool.not_eq_false', Bool.not_eq_true, Bool.not_eq_false, not_true_eq_false, not_false_eq_true, reduceCtorEq] at ha21)
  refine WpA.s 35 rfl ?_
  refine WpA.s 36 rfl ?_
  refine WpA.s 37 rfl ?_
  refine WpA.tF 38 rfl (V.pF) ?_
  refine WpA.tF 39 rfl (V.not) ?_
  refine WpA.tF 40 rfl (V.pT) ?_
  refine WpA.tF 41 rfl (V.as) ?_
  refine WpA.ou ?_
  apply Out.seqN
  apply Wp.ret
  refine Out.f1 rfl ResIs.t ⟨?_, rfl⟩
  exact rfl
  (try simp only [decide_eq_true_eq, decide_eq_false_iff_not, Bool.not_eq_true', Bool.not_eq_false', Bool.not_eq_true, Bool.not_eq_false, not_true_eq_false, not_false_eq_true, reduceCtorEq] at ha20)
  refine WpA.s 31 rfl ?_
  refine WpA.s 32 rfl ?_
  refine WpA.s 33 rfl ?_
  refine WpA.s 34 rfl ?_
  refine WpA.s 35 rfl ?_
  refine WpA.s 36 rfl ?_
  refine WpA.s 37 rfl ?_
  refine WpA.s 38 rfl ?_
  refine WpA.s 39 rfl ?_
  refine WpA.tF 40 rfl (V.pF) ?_
  refine WpA.tF 41 rfl (V.as) ?_
  refine WpA.ou ?_
  apply Out.seqN
  apply Wp.ret
  refine Out.f1 rfl ResIs.t ⟨?_, rfl⟩
  focus ((simp_all); done)
  (try simp only [decide_eq_true_eq, decide_eq_false_iff_not, Bool.not_eq_true', Bool.not_eq_false', Bool.not_eq_true, Bool.not_eq_false, not_true_eq_false, not_false_eq_true, reduceCtorEq] at ha19)
  refine WpA.tF 21 rfl (V.ldA tb) ?_
  refine WpA.tF 22 rfl (V.ldA tb) ?_
  refine WpA.oS 23 rfl (Op1.fn rfl (item_less _ _) ⟨?_, ?_, ?_⟩)
  exact holdT
  exact holdT
  refine WpA.tF 24 rfl (V.pF) ?_
  refine WpA.tF 28 rfl (V.eqB tb) ?_
  refine WpA.tF 29 rfl (V.pT) ?_
  refine WpA.tF 30 rfl (V.mv) ?_
  refine WpA.pt 55 (fun ha22 => ?_) (fun ha22 => ?_)
  (try simp only [decide_eq_true_eq, decide_eq_false_iff_not, Bool.not_eq_true', Bool.not_eq_false', Bool.not_eq_true, Bool.not_eq_false, not_true_eq_false, not_false_eq_true, reduceCtorEq] at ha22)
  refine WpA.tF 31 rfl (V.ldA tb) ?_
  refine WpA.tF 32 rfl (V.ldA tb) ?_
  refine WpA.oS 33 rfl (Op1.fn rfl (item_less _ _) ⟨?_, ?_, ?_⟩)
  exact holdT
  exact holdT
  refine WpA.tF 34 rfl (V.mv) ?_
  refine WpA.pt 59 (fun ha23 => ?_) (fun ha23 => ?_)
  (try simp only [decide_eq_true_eq, decide_eq_false_iff_not, Bool.not_eq_true', Bool.not_eq_false', Bool.not_eq_true, Bool.not_eq_false, not_true_eq_false, not_false_eq_true, reduceCtorEq] at ha23)
  refine WpA.tF 35 rfl (V.ldA tb) ?_
  refine WpA.tF 36 rfl (V.ldA tb) ?_
  refine WpA.oS 37 rfl (Op1.fn rfl (item_less _ _) ⟨?_, ?_, ?_⟩)
  exact holdT
  exact holdT
  refine WpA.tF 38 rfl (V.pT) ?_
  refine WpA.tF 39 rfl (V.not) ?_
  refine WpA.tF 40 rfl (V.pT) ?_
  refine WpA.tF 41 rfl (V.as) ?_
  refine WpA.ou ?_
  apply Out.seqN
  apply Wp.ret
  refine Out.f1 rfl ResIs.t ⟨?_, rfl⟩
  focus ((simp_all); done)
  (try simp only [decide_eq_true_eq, decide_eq_false_iff_not, Bool.not_eq_true', Bool.not_eq_false', Bool.not_eq_true, Bool.not_eq_false, not_true_eq_false, not_false_eq_true, reduceCtorEq] at ha23)
  refine WpA.s 35 rfl ?_
  refine WpA.s 36 rfl ?_
  refine WpA.s 37 rfl ?_
  refine WpA.tF 38 rfl (V.pF) ?_
  refine WpA.tF 39 rfl (V.not) ?_
  refine WpA.tF 40 rfl (V.pT) ?_
  refine WpA.tF 41 rfl (V.as) ?_
  refine WpA.ou ?_
  apply Out.seqN
  apply Wp.ret
  refine Out.f1 rfl ResIs.t ⟨?_, rfl⟩
  exact rfl
  (try simp only [decide_eq_true_eq, decide_eq_false_iff_not, Bool.not_eq_true', Bool.not_eq_false', Bool.not_eq_true, Bool.not_eq_false, not_true_eq_false, not_false_eq_true, reduceCtorEq] at ha22)
  refine WpA.s 31 rfl ?_
  refine WpA.s 32 rfl ?_
  refine WpA.s 33 rfl ?_
  refine WpA.s 34 rfl ?_
  refine WpA.s 35 rfl ?_
  refine WpA.s 36 rfl ?_
  refine WpA.s 37 rfl ?_
  refine WpA.s 38 rfl ?_
  refine WpA.s 39 rfl ?_
  refine WpA.tF 40 rfl (V.pF) ?_
  refine WpA.tF 41 rfl (V.as) ?_
  refine WpA.ou ?_
  apply Out.seqN
  apply Wp.ret
  refine Out.f1 rfl ResIs.t ⟨?_, rfl⟩
  focus ((simp_all); done)
  (try simp only [decide_eq_true_eq, decide_eq_false_iff_not, Bool.not_eq_true', Bool.not_eq_false', Bool.not_eq_true, Bool.not_eq_false, not_true_eq_false, not_false_eq_true, reduceCtorEq] at ha18)
  refine WpA.s 17 rfl ?_
  refine WpA.s 18 rfl ?_
  refine WpA.s 19 rfl ?_
  refine WpA.s 20 rfl ?_
  refine WpA.s 21 rfl ?_
  refine WpA.s 22 rfl ?_
  refine WpA.s 23 rfl ?_
  refine WpA.s 24 rfl ?_
  refine WpA.s 25 rfl ?_
  refine WpA.s 26 rfl ?_
  refine WpA.s 27 rfl ?_
  refine WpA.s 28 rfl ?_
  refine WpA.tF 29 rfl (V.pF) ?_
  refine WpA.tF 30 rfl (V.mv) ?_
  refine WpA.s 31 rfl ?_
  refine WpA.s 32 rfl ?_
  refine WpA.s 33 rfl ?_
  refine WpA.s 34 rfl ?_
  refine WpA.s 35 rfl ?_
  refine WpA.s 36 rfl ?_
  refine WpA.s 37 rfl ?_
  refine WpA.s 38 rfl ?_
  refine WpA.s 39 rfl ?_
  refine WpA.tF 40 rfl (V.pF) ?_
  refine WpA.tF 41 rfl (V.as) ?_
  refine WpA.ou ?_
  apply Out.seqN
  apply Wp.ret
  refine Out.f1 rfl ResIs.t ⟨?_, rfl⟩
  focus ((simp_all); done)
  (try simp only [decide_eq_true_eq, decide_eq_false_iff_not, Bool.not_eq_true', Bool.not_eq_false', Bool.not_eq_true, Bool.not_eq_false, not_true_eq_false, not_false_eq_true, reduceCtorEq] at ha17)
  refine WpA.s 8 rfl ?_
  refine WpA.s 9 rfl ?_
  refine WpA.s 10 rfl ?_
  refine WpA.s 11 rfl ?_
  refine WpA.s 12 rfl ?_
  refine WpA.s 13 rfl ?_
  refine WpA.s 14 rfl ?_
  refine WpA.tF 15 rfl (V.pF) ?_
  refine WpA.tF 16 rfl (V.mv) ?_
  refine WpA.s 17 rfl ?_
  refine WpA.s 18 rfl ?_
  refine WpA.s 19 rfl ?_
  refine WpA.s 20 rfl ?_
  refine WpA.s 21 rfl ?_
  refine WpA.s 22 rfl ?_
  refine WpA.s 23 rfl ?_
  refine WpA.s 24 rfl ?_
  refine WpA.s 25 rfl ?_
  refine WpA.s 26 rfl ?_
  refine WpA.s 27 rfl ?_
  refine WpA.s 28 rfl ?_
  refine WpA.tF 29 rfl (V.pF) ?_
  refine WpA.tF 30 rfl (V.mv) ?_
  refine WpA.s 31 rfl ?_
  refine WpA.s 32 rfl ?_
  refine WpA.s 33 rfl ?_
  refine WpA.s 34 rfl ?_
  refine WpA.s 35 rfl ?_
  refine WpA.s 36 rfl ?_
  refine WpA.s 37 rfl ?_
  refine WpA.s 38 rfl ?_
  refine WpA.s 39 rfl ?_
  refine WpA.tF 40 rfl (V.pF) ?_
  refine WpA.tF 41 rfl (V.as) ?_
  refine WpA.ou ?_
  apply Out.seqN
  apply Wp.ret
  refine Out.f1 rfl ResIs.t ⟨?_, rfl⟩
  focus ((simp_all); done)
open Go Go.ChangeShapes Go.WideShapes Go.ChangeAt Go.RowKit
theorem itemOrder_read : (Try.f8.params.toList.all fun t => Try.prog.readableRec t && decide (t < Try.prog.types.size)) = true := by kernel_rfl
theorem itemOrder_lifted (os : Go.Os) (started : os.Started) (H : Type) (enc : Go.TypeId × Go.Value → H) :
    ReturnsInHanded {} Try.checked os 8 .any (Rows.itemOrderSpec.pre6 enc Try.prog Try.f8 Rows.itemOrderRow.domain false) (Rows.itemOrderSpec.post enc Try.prog Try.f8 false true false false) := by
  refine returnsInHanded_of_change_sized (C := Try.checked) own started (by kernel_rfl) Try.func8
    (ChangeSpec.witness6 (enc := enc) (C := Try.checked) false ⟨#[], #[A TItem.z.c, A TItem.z.c, A TItem.z.c, I 0], []⟩ 8 (by kernel_rfl) (by kernel_rfl) (by kernel_rfl) (by kernel_rfl)) ?_
  intro W base args ds gs before hval0 hW hcnd hsz0 _
  have hsz : (DataW.weightsEach Try.prog (Try.f8.params.toList ++ Rows.itemOrderSpec.plain.varTypes Try.prog) (ds ++ gs)).all (· ≤ reachBytes) = true := hsz0
  have hval : ∀ (j : Nat) t v, Try.f8.params[j]? = some t → args[j]? = some v → Value.okWide Try.prog W .any base t v := hval0
  have hW' := hW
  obtain ⟨p, q, hA0, hV, rfl, hfz, hnd⟩ := hW
  have hA1 : DataW.TrodAll enc Try.prog W 0 (fun _ => true) true Try.f8.params.toList args.toList ds p := hA0
  have hA := hA1
  rw [Try.params8] at hA hval hsz
  obtain ⟨v0, vs0, d0, ds0, p0, q0, hargs, rfl, rfl, h0, r0⟩ := trodAll_cons hA
  obtain ⟨v1, vs1, d1, ds1, p1, q1, rfl, rfl, rfl, h1, r1⟩ := trodAll_cons r0
  obtain ⟨v2, vs2, d2, ds2, p2, q2, rfl, rfl, rfl, h2, r2⟩ := trodAll_cons r1
  obtain ⟨v3, vs3, d3, ds3, p3, q3, rfl, rfl, rfl, h3, r3⟩ := trodAll_cons r2
  obtain ⟨rfl, rfl, rfl⟩ := trodAll_nil r3
  obtain rfl : args = #[v0, v1, v2, v3] := by cases args; simp_all
  obtain ⟨rfl, rfl⟩ := trodVars_none hV
  obtain ⟨c0, rfl, f0⟩ := open_plain TItem.leaves ⟨_, Try.underlying30⟩ (hval 0 30 v0 rfl rfl) h0 (sizedAll hsz 0 rfl rfl)
  obtain ⟨x0, rfl, w0⟩ := TItem.fit f0
  obtain ⟨c1, rfl, f1⟩ := open_plain TItem.leaves ⟨_, Try.underlying30⟩ (hval 1 30 v1 rfl rfl) h1 (sizedAll hsz 1 rfl rfl)
  obtain ⟨x1, rfl, w1⟩ := TItem.fit f1
  obtain ⟨c2, rfl, f2⟩ := open_plain TItem.leaves ⟨_, Try.underlying30⟩ (hval 2 30 v2 rfl rfl) h2 (sizedAll hsz 2 rfl rfl)
  obtain ⟨x2, rfl, w2⟩ := TItem.fit f2
  obtain ⟨x3, rfl, rfl, rfl, w3⟩ := open_int Try.underlying3 (hval 3 3 v3 rfl rfl) h3
  simp only [List.append_nil] at hW' hA1
  refine (Fun.run (itemOrder_walk x0 x1 x2 x3) W).mono fun e W' hh => ?_
  obtain ⟨rfl, hS⟩ := hh
  exact ⟨_, rfl, post_law (P := Try.prog) (f := Try.f8) (tbool := 4) hW' hA1 rfl rfl hS laid itemOrder_read rfl Try.underlying4⟩
theorem itemOrder_over : Rows.itemOrderRow.holds Try.pinned (OpenSpec.ofChange Rows.itemOrderSpec) :=
  OpenClaim.holds_of_wide 8 Try.f8 rfl rfl rfl rfl rfl rfl rfl ⟨rfl, rfl, rfl, rfl, rfl⟩ rfl rfl rfl rfl rfl (by kernel_rfl) Try.func8 (by kernel_rfl)
    (of_decide_eq_true (by kernel_rfl)) (by unfold Func.isWrapper; first | (rw [if_pos (by decide +kernel)]; kernel_rfl) | (rw [if_neg (by decide +kernel)]; exact ⟨rfl, rfl⟩))
    (fun os started H enc _ => itemOrder_lifted os started H enc)
/-- THE STATEMENT. -/
theorem itemOrder_proved : Rows.ItemOrderSaid := itemOrder_over
#print axioms itemOrder_proved

end Go.Proofs.Ytgbflapcadlelaa
