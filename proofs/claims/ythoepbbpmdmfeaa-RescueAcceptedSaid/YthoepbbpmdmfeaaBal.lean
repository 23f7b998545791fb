/-
  Layers 2 and 5: ballots, majorities, rows of dependences, walked.
-/
import Derived.Test.YthoepbbpmdmfeaaTypes
import Derived.Test.YthoepbbpmdmfeaaHeapG
namespace Go.Proofs.Ythoepbbpmdmfeaa
open Go.HL
set_option linter.unusedSimpArgs false
set_option linter.unusedVariables false
set_option maxRecDepth 8000
/-- An order of ballots. -/
def bLt (a b : TBallot) : Bool := decide (a.Round < b.Round) || (decide (a.Round = b.Round) && decide (a.Rep < b.Rep))
def bCmp (a b : TBallot) : Int := if a = b then 0 else if bLt a b then -1 else 1
theorem bLt_iff {a b : TBallot} : bLt a b = true ↔ a.Round < b.Round ∨ a.Round = b.Round ∧ a.Rep < b.Rep := by simp [bLt]
theorem bEq_iff {a b : TBallot} : a = b ↔ a.Round = b.Round ∧ a.Rep = b.Rep := by
  cases a; cases b; simp
theorem ballot_compare (a b : TBallot) : Fun Try.prog 106 [A a.c, A b.c] (I (bCmp a b)) := by
  by_cases h : a = b
  · rw [show bCmp a b = 0 by simp [bCmp, h]]
    refine Ct.enter Try.func106 rfl rfl fun W => ?_
    apply Wp.seq
    apply Wp.region
    refine WpL.o (O.bxA (fun p2 => ?_))
    refine WpL.o (O.bxA (fun p3 => ?_))
    refine WpL.v (V.as) ?_
    apply WpL.nil
    apply Out.seqN
    apply Wp.seq
    apply Wp.block
    apply Wp.seq
    apply Wp.region
    refine WpL.v (V.ldA tb) ?_
    refine WpL.v (V.ldA tb) ?_
    refine WpL.v (V.eq (TBallot.eqT _ _ _)) ?_
    refine WpL.v (V.as) ?_
    apply WpL.nil
    apply Out.seqN
    refine Wp.c (fun hc10 => ?_) (fun hc10 => ?_)
    (try simp only [decide_eq_true_eq, decide_eq_false_iff_not, Bool.not_eq_true', Bool.not_eq_false', Bool.not_eq_true, Bool.not_eq_false, not_true_eq_false, not_false_eq_true, reduceCtorEq] at hc10)
    apply Wp.seq
    apply Wp.region
    refine WpL.v (V.as) ?_
    apply WpL.nil
    apply Out.seqN
    apply Wp.ret
    apply Out.blockR
    apply Out.seqR
    refine Out.f1 rfl ResIs.t ⟨?_, rfl⟩
    exact rfl
    (try simp only [decide_eq_true_eq, decide_eq_false_iff_not, Bool.not_eq_true', Bool.not_eq_false', Bool.not_eq_true, Bool.not_eq_false, not_true_eq_false, not_false_eq_true, reduceCtorEq] at hc10)
    contradiction
  · by_cases hl : bLt a b = true
    · rw [show bCmp a b = -1 by simp [bCmp, h, hl]]
      rw [bLt_iff] at hl
      refine Ct.enter Try.func106 rfl rfl fun W => ?_
      apply Wp.seq
      apply Wp.region
      refine WpL.o (O.bxA (fun p2 => ?_))
      refine WpL.o (O.bxA (fun p3 => ?_))
      refine WpL.v (V.as) ?_
      apply WpL.nil
      apply Out.seqN
      apply Wp.seq
      apply Wp.block
      apply Wp.seq
      apply Wp.region
      refine WpL.v (V.ldA tb) ?_
      refine WpL.v (V.ldA tb) ?_
      refine WpL.v (V.eq (TBallot.eqT _ _ _)) ?_
      refine WpL.v (V.as) ?_
      apply WpL.nil
      apply Out.seqN
      refine Wp.c (fun hc20 => ?_) (fun hc20 => ?_)
      (try simp only [decide_eq_true_eq, decide_eq_false_iff_not, Bool.not_eq_true', Bool.not_eq_false', Bool.not_eq_true, Bool.not_eq_false, not_true_eq_false, not_false_eq_true, reduceCtorEq] at hc20)
      contradiction
      (try simp only [decide_eq_true_eq, decide_eq_false_iff_not, Bool.not_eq_true', Bool.not_eq_false', Bool.not_eq_true, Bool.not_eq_false, not_true_eq_false, not_false_eq_true, reduceCtorEq] at hc20)
      apply Wp.seq
      apply Wp.region
      refine WpL.v (V.fa tb) ?_
      refine WpL.v (V.ld1 tb) ?_
      refine WpL.v (V.fa tb) ?_
      refine WpL.v (V.ld1 tb) ?_
      refine WpL.v (V.cmp) ?_
      refine WpL.v (V.mv) ?_
      refine WpL.pt (fun hc21 => ?_) (fun hc21 => ?_)
      (try simp only [decide_eq_true_eq, decide_eq_false_iff_not, Bool.not_eq_true', Bool.not_eq_false', Bool.not_eq_true, Bool.not_eq_false, not_true_eq_false, not_false_eq_true, reduceCtorEq] at hc21)
      refine WpL.sk ?_
      refine WpL.sk ?_
      refine WpL.sk ?_
      refine WpL.sk ?_
      refine WpL.sk ?_
      refine WpL.sk ?_
      refine WpL.sk ?_
      refine WpL.sk ?_
      refine WpL.sk ?_
      refine WpL.sk ?_
      refine WpL.sk ?_
      refine WpL.sk ?_
      refine WpL.v (V.pT) ?_
      refine WpL.v (V.as) ?_
      apply WpL.nil
      apply Out.seqN
      refine Wp.cT ?_
      apply Wp.seq
      apply Wp.region
      refine WpL.v (V.as) ?_
      apply WpL.nil
      apply Out.seqN
      apply Wp.ret
      apply Out.blockR
      apply Out.seqR
      refine Out.f1 rfl ResIs.t ⟨?_, rfl⟩
      exact rfl
      (try simp only [decide_eq_true_eq, decide_eq_false_iff_not, Bool.not_eq_true', Bool.not_eq_false', Bool.not_eq_true, Bool.not_eq_false, not_true_eq_false, not_false_eq_true, reduceCtorEq] at hc21)
      refine WpL.v (V.fa tb) ?_
      refine WpL.v (V.ld1 tb) ?_
      refine WpL.v (V.fa tb) ?_
      refine WpL.v (V.ld1 tb) ?_
      refine WpL.v (V.cmp) ?_
      refine WpL.v (V.mv) ?_
      refine WpL.pt (fun hc22 => ?_) (fun hc22 => ?_)
      (try simp only [decide_eq_true_eq, decide_eq_false_iff_not, Bool.not_eq_true', Bool.not_eq_false', Bool.not_eq_true, Bool.not_eq_false, not_true_eq_false, not_false_eq_true, reduceCtorEq] at hc22)
      refine WpL.v (V.fa tb) ?_
      refine WpL.v (V.ld1 tb) ?_
      refine WpL.v (V.fa tb) ?_
      refine WpL.v (V.ld1 tb) ?_
      refine WpL.v (V.cmp) ?_
      refine WpL.v (V.pT) ?_
      refine WpL.v (V.pF) ?_
      refine WpL.v (V.as) ?_
      apply WpL.nil
      apply Out.seqN
      refine Wp.c (fun hc23 => ?_) (fun hc23 => ?_)
      (try simp only [decide_eq_true_eq, decide_eq_false_iff_not, Bool.not_eq_true', Bool.not_eq_false', Bool.not_eq_true, Bool.not_eq_false, not_true_eq_false, not_false_eq_true, reduceCtorEq] at hc23)
      apply Wp.seq
      apply Wp.region
      refine WpL.v (V.as) ?_
      apply WpL.nil
      apply Out.seqN
      apply Wp.ret
      apply Out.blockR
      apply Out.seqR
      refine Out.f1 rfl ResIs.t ⟨?_, rfl⟩
      exact rfl
      (try simp only [decide_eq_true_eq, decide_eq_false_iff_not, Bool.not_eq_true', Bool.not_eq_false', Bool.not_eq_true, Bool.not_eq_false, not_true_eq_false, not_false_eq_true, reduceCtorEq] at hc23)
      (exfalso; omega)
      (try simp only [decide_eq_true_eq, decide_eq_false_iff_not, Bool.not_eq_true', Bool.not_eq_false', Bool.not_eq_true, Bool.not_eq_false, not_true_eq_false, not_false_eq_true, reduceCtorEq] at hc22)
      (exfalso; omega)
    · rw [show bCmp a b = 1 by simp [bCmp, h, hl]]
      rw [bLt_iff] at hl
      refine Ct.enter Try.func106 rfl rfl fun W => ?_
      apply Wp.seq
      apply Wp.region
      refine WpL.o (O.bxA (fun p2 => ?_))
      refine WpL.o (O.bxA (fun p3 => ?_))
      refine WpL.v (V.as) ?_
      apply WpL.nil
      apply Out.seqN
      apply Wp.seq
      apply Wp.block
      apply Wp.seq
      apply Wp.region
      refine WpL.v (V.ldA tb) ?_
      refine WpL.v (V.ldA tb) ?_
      refine WpL.v (V.eq (TBallot.eqT _ _ _)) ?_
      refine WpL.v (V.as) ?_
      apply WpL.nil
      apply Out.seqN
      refine Wp.c (fun hc30 => ?_) (fun hc30 => ?_)
      (try simp only [decide_eq_true_eq, decide_eq_false_iff_not, Bool.not_eq_true', Bool.not_eq_false', Bool.not_eq_true, Bool.not_eq_false, not_true_eq_false, not_false_eq_true, reduceCtorEq] at hc30)
      contradiction
      (try simp only [decide_eq_true_eq, decide_eq_false_iff_not, Bool.not_eq_true', Bool.not_eq_false', Bool.not_eq_true, Bool.not_eq_false, not_true_eq_false, not_false_eq_true, reduceCtorEq] at hc30)
      apply Wp.seq
      apply Wp.region
      refine WpL.v (V.fa tb) ?_
      refine WpL.v (V.ld1 tb) ?_
      refine WpL.v (V.fa tb) ?_
      refine WpL.v (V.ld1 tb) ?_
      refine WpL.v (V.cmp) ?_
      refine WpL.v (V.mv) ?_
      refine WpL.pt (fun hc31 => ?_) (fun hc31 => ?_)
      (try simp only [decide_eq_true_eq, decide_eq_false_iff_not, Bool.not_eq_true', Bool.not_eq_false', Bool.not_eq_true, Bool.not_eq_false, not_true_eq_false, not_false_eq_true, reduceCtorEq] at hc31)
      (exfalso; omega)
      (try simp only [decide_eq_true_eq, decide_eq_false_iff_not, Bool.not_eq_true', Bool.not_eq_false', Bool.not_eq_true, Bool.not_eq_false, not_true_eq_false, not_false_eq_true, reduceCtorEq] at hc31)
      refine WpL.v (V.fa tb) ?_
      refine WpL.v (V.ld1 tb) ?_
      refine WpL.v (V.fa tb) ?_
      refine WpL.v (V.ld1 tb) ?_
      refine WpL.v (V.cmp) ?_
      refine WpL.v (V.mv) ?_
      refine WpL.pt (fun hc32 => ?_) (fun hc32 => ?_)
      (try simp only [decide_eq_true_eq, decide_eq_false_iff_not, Bool.not_eq_true', Bool.not_eq_false', Bool.not_eq_true, Bool.not_eq_false, not_true_eq_false, not_false_eq_true, reduceCtorEq] at hc32)
      refine WpL.v (V.fa tb) ?_
      refine WpL.v (V.ld1 tb) ?_
      refine WpL.v (V.fa tb) ?_
      refine WpL.v (V.ld1 tb) ?_
      refine WpL.v (V.cmp) ?_
      refine WpL.v (V.pT) ?_
      refine WpL.v (V.pF) ?_
      refine WpL.v (V.as) ?_
      apply WpL.nil
      apply Out.seqN
      refine Wp.c (fun hc33 => ?_) (fun hc33 => ?_)
      (try simp only [decide_eq_true_eq, decide_eq_false_iff_not, Bool.not_eq_true', Bool.not_eq_false', Bool.not_eq_true, Bool.not_eq_false, not_true_eq_false, not_false_eq_true, reduceCtorEq] at hc33)
      (exfalso; omega)
      (try simp only [decide_eq_true_eq, decide_eq_false_iff_not, Bool.not_eq_true', Bool.not_eq_false', Bool.not_eq_true, Bool.not_eq_false, not_true_eq_false, not_false_eq_true, reduceCtorEq] at hc33)
      apply Wp.skip
      apply Out.blockN
      apply Out.seqN
      apply Wp.seq
      apply Wp.region
      refine WpL.v (V.as) ?_
      apply WpL.nil
      apply Out.seqN
      apply Wp.ret
      refine Out.f1 rfl ResIs.t ⟨?_, rfl⟩
      exact rfl
      (try simp only [decide_eq_true_eq, decide_eq_false_iff_not, Bool.not_eq_true', Bool.not_eq_false', Bool.not_eq_true, Bool.not_eq_false, not_true_eq_false, not_false_eq_true, reduceCtorEq] at hc32)
      refine WpL.sk ?_
      refine WpL.sk ?_
      refine WpL.sk ?_
      refine WpL.sk ?_
      refine WpL.sk ?_
      refine WpL.v (V.pF) ?_
      refine WpL.v (V.pF) ?_
      refine WpL.v (V.as) ?_
      apply WpL.nil
      apply Out.seqN
      refine Wp.cF ?_
      apply Wp.skip
      apply Out.blockN
      apply Out.seqN
      apply Wp.seq
      apply Wp.region
      refine WpL.v (V.as) ?_
      apply WpL.nil
      apply Out.seqN
      apply Wp.ret
      refine Out.f1 rfl ResIs.t ⟨?_, rfl⟩
      exact rfl
theorem bLt_irr {a : TBallot} : bLt a a = false := by
  rw [← Bool.not_eq_true, bLt_iff]; omega
theorem bCmp_neg (a b : TBallot) : decide (bCmp a b < 0) = bLt a b := by
  unfold bCmp
  by_cases h : a = b
  · subst h; rw [bLt_irr]; simp
  · cases hl : bLt a b <;> simp [h]
theorem ballot_less (a b : TBallot) : Fun Try.prog 77 [A a.c, A b.c] (B (bLt a b)) := by
  refine Ct.enter Try.func77 rfl rfl fun W => ?_
  apply Wp.seq
  apply Wp.region
  refine WpL.o (O.bxA (fun p2 => ?_))
  refine WpL.o (O.bxA (fun p3 => ?_))
  refine WpL.v (V.as) ?_
  apply WpL.nil
  apply Out.seqN
  apply Wp.seq
  apply Wp.region
  refine WpL.v (V.ldA tb) ?_
  refine WpL.v (V.ldA tb) ?_
  refine WpL.o (Op1.fn rfl (ballot_compare _ _) ?_)
  refine WpL.v (V.cmp) ?_
  refine WpL.v (V.as) ?_
  apply WpL.nil
  apply Out.seqN
  apply Wp.ret
  refine Out.f1 rfl ResIs.t ⟨?_, rfl⟩
  focus ((rw [← bCmp_neg]); done)
theorem ballot_first (n : Int) : Fun Try.prog 107 [I n] (A (TBallot.c ⟨0, n⟩)) := by
  refine Ct.enter Try.func107 rfl rfl fun W => ?_
  apply Wp.seq
  apply Wp.region
  refine WpL.o (O.al tb (fun p2 => ?_))
  apply WpL.nil
  apply Out.seqN
  apply Wp.seq
  apply Wp.region
  refine WpL.v (V.mv) ?_
  refine WpL.v (V.bld tb) ?_
  refine WpL.o (O.stA tb ?_)
  apply WpL.nil
  apply Out.seqN
  apply Wp.ret
  refine Out.f1 rfl (ResIs.ca tb) ⟨?_, rfl⟩
  exact rfl
def faults (n : Int) : Int := (Max.max n 1 - 1) / 2
theorem ballot_faults (n : Int) (hn : n ≤ 9223372036854775807) : Fun Try.prog 79 [I n] (I (faults n)) := by
  refine Ct.enter Try.func79 rfl rfl fun W => ?_
  apply Wp.seq
  apply Wp.region
  refine WpL.v (V.as) ?_
  apply WpL.nil
  apply Out.seqN
  apply Wp.seq
  apply Wp.region
  refine WpL.v (V.mv) ?_
  refine WpL.v (V.max) ?_
  refine WpL.v (V.sub) ?_
  refine WpL.v (V.quo) ?_
  refine WpL.v (V.as) ?_
  apply WpL.nil
  apply Out.seqN
  apply Wp.ret
  refine Out.f1 rfl ResIs.t ⟨?_, rfl⟩
  exact rfl
theorem ballot_most (n : Int) (hn : n ≤ 4611686018427387904) : Fun Try.prog 75 [I n] (I (faults n + 1)) := by
  have hf := ballot_faults n (by omega)
  have : 0 ≤ faults n ∧ faults n ≤ 4611686018427387904 := by unfold faults; omega
  refine Ct.enter Try.func75 rfl rfl fun W => ?_
  apply Wp.seq
  apply Wp.region
  refine WpL.v (V.as) ?_
  apply WpL.nil
  apply Out.seqN
  apply Wp.seq
  apply Wp.region
  refine WpL.v (V.mv) ?_
  refine WpL.o (Op1.fn rfl (hf) ?_)
  refine WpL.v (V.add) ?_
  refine WpL.v (V.as) ?_
  apply WpL.nil
  apply Out.seqN
  apply Wp.ret
  refine Out.f1 rfl ResIs.t ⟨?_, rfl⟩
  exact rfl
theorem ballot_fast (n : Int) (hn : n ≤ 4611686018427387904) (h0 : 0 ≤ n) : Fun Try.prog 111 [I n] (I (2 * faults n)) := by
  have hf := ballot_faults n (by omega)
  have : faults n ≤ 2305843009213693952 := by unfold faults; omega
  have : 0 ≤ faults n := by unfold faults; omega
  refine Ct.enter Try.func111 rfl rfl fun W => ?_
  apply Wp.seq
  apply Wp.region
  refine WpL.v (V.as) ?_
  apply WpL.nil
  apply Out.seqN
  apply Wp.seq
  apply Wp.region
  refine WpL.v (V.mv) ?_
  refine WpL.o (Op1.fn rfl (hf) ?_)
  refine WpL.v (V.mul) ?_
  refine WpL.v (V.as) ?_
  apply WpL.nil
  apply Out.seqN
  apply Wp.ret
  refine Out.f1 rfl ResIs.t ⟨?_, rfl⟩
  exact rfl
theorem ref_faults (n : Int) (hn : n ≤ 9223372036854775807) : Fun Try.prog 27 [I n] (I (faults n)) := by
  by_cases h : n < 1
  · rw [show faults n = 0 by unfold faults; omega]
    refine Ct.enter Try.func27 rfl rfl fun W => ?_
    apply Wp.seq
    apply Wp.region
    refine WpL.v (V.as) ?_
    apply WpL.nil
    apply Out.seqN
    apply Wp.seq
    apply Wp.seq
    apply Wp.region
    refine WpL.v (V.mv) ?_
    refine WpL.v (V.cmp) ?_
    apply WpL.nil
    apply Out.seqN
    refine Wp.c (fun hrf0 => ?_) (fun hrf0 => ?_)
    (try simp only [decide_eq_true_eq, decide_eq_false_iff_not, Bool.not_eq_true', Bool.not_eq_false', Bool.not_eq_true, Bool.not_eq_false, not_true_eq_false, not_false_eq_true, reduceCtorEq] at hrf0)
    apply Wp.seq
    apply Wp.region
    refine WpL.v (V.as) ?_
    apply WpL.nil
    apply Out.seqN
    apply Wp.ret
    apply Out.seqR
    refine Out.f1 rfl ResIs.t ⟨?_, rfl⟩
    exact rfl
    (try simp only [decide_eq_true_eq, decide_eq_false_iff_not, Bool.not_eq_true', Bool.not_eq_false', Bool.not_eq_true, Bool.not_eq_false, not_true_eq_false, not_false_eq_true, reduceCtorEq] at hrf0)
    (exfalso; omega)
  · rw [show faults n = (n - 1) / 2 by unfold faults; omega]
    refine Ct.enter Try.func27 rfl rfl fun W => ?_
    apply Wp.seq
    apply Wp.region
    refine WpL.v (V.as) ?_
    apply WpL.nil
    apply Out.seqN
    apply Wp.seq
    apply Wp.seq
    apply Wp.region
    refine WpL.v (V.mv) ?_
    refine WpL.v (V.cmp) ?_
    apply WpL.nil
    apply Out.seqN
    refine Wp.c (fun h0 => ?_) (fun h0 => ?_)
    (try simp only [decide_eq_true_eq, decide_eq_false_iff_not, Bool.not_eq_true', Bool.not_eq_false', Bool.not_eq_true, Bool.not_eq_false, not_true_eq_false, not_false_eq_true, reduceCtorEq] at h0)
    (exfalso; omega)
    (try simp only [decide_eq_true_eq, decide_eq_false_iff_not, Bool.not_eq_true', Bool.not_eq_false', Bool.not_eq_true, Bool.not_eq_false, not_true_eq_false, not_false_eq_true, reduceCtorEq] at h0)
    apply Wp.skip
    apply Out.seqN
    apply Wp.seq
    apply Wp.region
    refine WpL.v (V.mv) ?_
    refine WpL.v (V.sub) ?_
    refine WpL.v (V.quo) ?_
    refine WpL.v (V.as) ?_
    apply WpL.nil
    apply Out.seqN
    apply Wp.ret
    refine Out.f1 rfl ResIs.t ⟨?_, rfl⟩
    exact rfl
theorem ref_less (a b : TBallot) : Fun Try.prog 28 [A a.c, A b.c] (B (bLt a b)) := by
  refine Ct.enter Try.func28 rfl rfl fun W => ?_
  apply Wp.seq
  apply Wp.region
  refine WpL.o (O.bxA (fun p2 => ?_))
  refine WpL.o (O.bxA (fun p3 => ?_))
  refine WpL.v (V.as) ?_
  apply WpL.nil
  apply Out.seqN
  apply Wp.seq
  apply Wp.seq
  apply Wp.region
  refine WpL.v (V.fa tb) ?_
  refine WpL.v (V.ld1 tb) ?_
  refine WpL.v (V.fa tb) ?_
  refine WpL.v (V.ld1 tb) ?_
  refine WpL.v (V.cmp) ?_
  apply WpL.nil
  apply Out.seqN
  refine Wp.c (fun hrl0 => ?_) (fun hrl0 => ?_)
  (try simp only [decide_eq_true_eq, decide_eq_false_iff_not, Bool.not_eq_true', Bool.not_eq_false', Bool.not_eq_true, Bool.not_eq_false, not_true_eq_false, not_false_eq_true, reduceCtorEq] at hrl0)
  apply Wp.seq
  apply Wp.region
  refine WpL.v (V.fa tb) ?_
  refine WpL.v (V.ld1 tb) ?_
  refine WpL.v (V.fa tb) ?_
  refine WpL.v (V.ld1 tb) ?_
  refine WpL.v (V.cmp) ?_
  refine WpL.v (V.as) ?_
  apply WpL.nil
  apply Out.seqN
  apply Wp.ret
  apply Out.seqR
  refine Out.f1 rfl ResIs.t ⟨?_, rfl⟩
  focus ((rw [bLt]; first | (simp [*]; done) | (simp [*]; omega)); done)
  (try simp only [decide_eq_true_eq, decide_eq_false_iff_not, Bool.not_eq_true', Bool.not_eq_false', Bool.not_eq_true, Bool.not_eq_false, not_true_eq_false, not_false_eq_true, reduceCtorEq] at hrl0)
  apply Wp.skip
  apply Out.seqN
  apply Wp.seq
  apply Wp.region
  refine WpL.v (V.fa tb) ?_
  refine WpL.v (V.ld1 tb) ?_
  refine WpL.v (V.fa tb) ?_
  refine WpL.v (V.ld1 tb) ?_
  refine WpL.v (V.cmp) ?_
  refine WpL.v (V.as) ?_
  apply WpL.nil
  apply Out.seqN
  apply Wp.ret
  refine Out.f1 rfl ResIs.t ⟨?_, rfl⟩
  focus ((rw [bLt]; first | (simp [*]; done) | (simp [*]; omega)); done)
end Go.Proofs.Ythoepbbpmdmfeaa
