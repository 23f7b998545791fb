/-
  Layer 17: a wheel of items: the shelves' functions.
-/
import Derived.Test.YthoepbbpmdmfeaaTypes
import Derived.Test.YthoepbbpmdmfeaaHeapG
import Derived.Test.YthoepbbpmdmfeaaHeapK
namespace Go.Proofs.Ythoepbbpmdmfeaa
open Go.HL
set_option linter.unusedSimpArgs false
set_option linter.unusedVariables false
set_option maxRecDepth 8000
def Isp_lt (a b : WheelSpokeOfItem) : Bool := decide (a.due < b.due) || (decide (a.due = b.due) && decide (a.turn < b.turn))
def Isp_cmp (a b : WheelSpokeOfItem) : Int := if Isp_lt a b = true then -1 else if a.due = b.due ∧ a.turn = b.turn then 0 else 1
theorem Isp_lt_iff {a b : WheelSpokeOfItem} : Isp_lt a b = true ↔ a.due < b.due ∨ a.due = b.due ∧ a.turn < b.turn := by simp [Isp_lt]
theorem Iwheel_before (a b : WheelSpokeOfItem) : Fun Try.prog 119 [A a.c, A b.c] (I (Isp_cmp a b)) := by
  unfold Isp_cmp
  by_cases h1 : a.due < b.due
  · rw [if_pos (Isp_lt_iff.2 (.inl h1))]
    refine Ct.enter Try.func119 rfl rfl fun W => ?_
    apply Wp.seq
    apply Wp.region
    refine WpL.o (O.bxA (fun p2 => ?_))
    refine WpL.o (O.bxA (fun p3 => ?_))
    refine WpL.v (V.as) ?_
    apply WpL.nil
    apply Out.seqN
    apply Wp.seq
    apply Wp.block
    apply Wp.seq
    apply Wp.region
    refine WpL.v (V.fa tb) ?_
    refine WpL.v (V.ld1 tb) ?_
    refine WpL.v (V.fa tb) ?_
    refine WpL.v (V.ld1 tb) ?_
    refine WpL.v (V.cmp) ?_
    refine WpL.v (V.mv) ?_
    refine WpL.pt (fun hb10 => ?_) (fun hb10 => ?_)
    (try simp only [decide_eq_true_eq, decide_eq_false_iff_not, Bool.not_eq_true', Bool.not_eq_false', Bool.not_eq_true, Bool.not_eq_false, not_true_eq_false, not_false_eq_true, reduceCtorEq] at hb10)
    refine WpL.sk ?_
    refine WpL.sk ?_
    refine WpL.sk ?_
    refine WpL.sk ?_
    refine WpL.sk ?_
    refine WpL.sk ?_
    refine WpL.sk ?_
    refine WpL.sk ?_
    refine WpL.sk ?_
    refine WpL.sk ?_
    refine WpL.sk ?_
    refine WpL.sk ?_
    refine WpL.v (V.pT) ?_
    refine WpL.v (V.as) ?_
    apply WpL.nil
    apply Out.seqN
    refine Wp.cT ?_
    apply Wp.seq
    apply Wp.region
    refine WpL.v (V.as) ?_
    apply WpL.nil
    apply Out.seqN
    apply Wp.ret
    apply Out.blockR
    apply Out.seqR
    refine Out.f1 rfl ResIs.t ⟨?_, rfl⟩
    exact rfl
    (try simp only [decide_eq_true_eq, decide_eq_false_iff_not, Bool.not_eq_true', Bool.not_eq_false', Bool.not_eq_true, Bool.not_eq_false, not_true_eq_false, not_false_eq_true, reduceCtorEq] at hb10)
    (exfalso; omega)
  by_cases h2 : a.due = b.due
  · by_cases h3 : a.turn < b.turn
    · rw [if_pos (Isp_lt_iff.2 (.inr ⟨h2, h3⟩))]
      refine Ct.enter Try.func119 rfl rfl fun W => ?_
      apply Wp.seq
      apply Wp.region
      refine WpL.o (O.bxA (fun p2 => ?_))
      refine WpL.o (O.bxA (fun p3 => ?_))
      refine WpL.v (V.as) ?_
      apply WpL.nil
      apply Out.seqN
      apply Wp.seq
      apply Wp.block
      apply Wp.seq
      apply Wp.region
      refine WpL.v (V.fa tb) ?_
      refine WpL.v (V.ld1 tb) ?_
      refine WpL.v (V.fa tb) ?_
      refine WpL.v (V.ld1 tb) ?_
      refine WpL.v (V.cmp) ?_
      refine WpL.v (V.mv) ?_
      refine WpL.pt (fun hb20 => ?_) (fun hb20 => ?_)
      (try simp only [decide_eq_true_eq, decide_eq_false_iff_not, Bool.not_eq_true', Bool.not_eq_false', Bool.not_eq_true, Bool.not_eq_false, not_true_eq_false, not_false_eq_true, reduceCtorEq] at hb20)
      (exfalso; omega)
      (try simp only [decide_eq_true_eq, decide_eq_false_iff_not, Bool.not_eq_true', Bool.not_eq_false', Bool.not_eq_true, Bool.not_eq_false, not_true_eq_false, not_false_eq_true, reduceCtorEq] at hb20)
      refine WpL.v (V.fa tb) ?_
      refine WpL.v (V.ld1 tb) ?_
      refine WpL.v (V.fa tb) ?_
      refine WpL.v (V.ld1 tb) ?_
      refine WpL.v (V.cmp) ?_
      refine WpL.v (V.mv) ?_
      refine WpL.pt (fun hb21 => ?_) (fun hb21 => ?_)
      (try simp only [decide_eq_true_eq, decide_eq_false_iff_not, Bool.not_eq_true', Bool.not_eq_false', Bool.not_eq_true, Bool.not_eq_false, not_true_eq_false, not_false_eq_true, reduceCtorEq] at hb21)
      refine WpL.v (V.fa tb) ?_
      refine WpL.v (V.ld1 tb) ?_
      refine WpL.v (V.fa tb) ?_
      refine WpL.v (V.ld1 tb) ?_
      refine WpL.v (V.cmp) ?_
      refine WpL.v (V.pT) ?_
      refine WpL.v (V.pF) ?_
      refine WpL.v (V.as) ?_
      apply WpL.nil
      apply Out.seqN
      refine Wp.c (fun hb22 => ?_) (fun hb22 => ?_)
      (try simp only [decide_eq_true_eq, decide_eq_false_iff_not, Bool.not_eq_true', Bool.not_eq_false', Bool.not_eq_true, Bool.not_eq_false, not_true_eq_false, not_false_eq_true, reduceCtorEq] at hb22)
      apply Wp.seq
      apply Wp.region
      refine WpL.v (V.as) ?_
      apply WpL.nil
      apply Out.seqN
      apply Wp.ret
      apply Out.blockR
      apply Out.seqR
      refine Out.f1 rfl ResIs.t ⟨?_, rfl⟩
      exact rfl
      (try simp only [decide_eq_true_eq, decide_eq_false_iff_not, Bool.not_eq_true', Bool.not_eq_false', Bool.not_eq_true, Bool.not_eq_false, not_true_eq_false, not_false_eq_true, reduceCtorEq] at hb22)
      (exfalso; omega)
      (try simp only [decide_eq_true_eq, decide_eq_false_iff_not, Bool.not_eq_true', Bool.not_eq_false', Bool.not_eq_true, Bool.not_eq_false, not_true_eq_false, not_false_eq_true, reduceCtorEq] at hb21)
      (exfalso; omega)
    · rw [if_neg (fun h => by rcases Isp_lt_iff.1 h with h | h <;> omega)]
      by_cases h4 : a.turn = b.turn
      · rw [if_pos ⟨h2, h4⟩]
        refine Ct.enter Try.func119 rfl rfl fun W => ?_
        apply Wp.seq
        apply Wp.region
        refine WpL.o (O.bxA (fun p2 => ?_))
        refine WpL.o (O.bxA (fun p3 => ?_))
        refine WpL.v (V.as) ?_
        apply WpL.nil
        apply Out.seqN
        apply Wp.seq
        apply Wp.block
        apply Wp.seq
        apply Wp.region
        refine WpL.v (V.fa tb) ?_
        refine WpL.v (V.ld1 tb) ?_
        refine WpL.v (V.fa tb) ?_
        refine WpL.v (V.ld1 tb) ?_
        refine WpL.v (V.cmp) ?_
        refine WpL.v (V.mv) ?_
        refine WpL.pt (fun hb30 => ?_) (fun hb30 => ?_)
        (try simp only [decide_eq_true_eq, decide_eq_false_iff_not, Bool.not_eq_true', Bool.not_eq_false', Bool.not_eq_true, Bool.not_eq_false, not_true_eq_false, not_false_eq_true, reduceCtorEq] at hb30)
        (exfalso; omega)
        (try simp only [decide_eq_true_eq, decide_eq_false_iff_not, Bool.not_eq_true', Bool.not_eq_false', Bool.not_eq_true, Bool.not_eq_false, not_true_eq_false, not_false_eq_true, reduceCtorEq] at hb30)
        refine WpL.v (V.fa tb) ?_
        refine WpL.v (V.ld1 tb) ?_
        refine WpL.v (V.fa tb) ?_
        refine WpL.v (V.ld1 tb) ?_
        refine WpL.v (V.cmp) ?_
        refine WpL.v (V.mv) ?_
        refine WpL.pt (fun hb31 => ?_) (fun hb31 => ?_)
        (try simp only [decide_eq_true_eq, decide_eq_false_iff_not, Bool.not_eq_true', Bool.not_eq_false', Bool.not_eq_true, Bool.not_eq_false, not_true_eq_false, not_false_eq_true, reduceCtorEq] at hb31)
        refine WpL.v (V.fa tb) ?_
        refine WpL.v (V.ld1 tb) ?_
        refine WpL.v (V.fa tb) ?_
        refine WpL.v (V.ld1 tb) ?_
        refine WpL.v (V.cmp) ?_
        refine WpL.v (V.pT) ?_
        refine WpL.v (V.pF) ?_
        refine WpL.v (V.as) ?_
        apply WpL.nil
        apply Out.seqN
        refine Wp.c (fun hb32 => ?_) (fun hb32 => ?_)
        (try simp only [decide_eq_true_eq, decide_eq_false_iff_not, Bool.not_eq_true', Bool.not_eq_false', Bool.not_eq_true, Bool.not_eq_false, not_true_eq_false, not_false_eq_true, reduceCtorEq] at hb32)
        (exfalso; omega)
        (try simp only [decide_eq_true_eq, decide_eq_false_iff_not, Bool.not_eq_true', Bool.not_eq_false', Bool.not_eq_true, Bool.not_eq_false, not_true_eq_false, not_false_eq_true, reduceCtorEq] at hb32)
        apply Wp.seq
        apply Wp.region
        refine WpL.v (V.fa tb) ?_
        refine WpL.v (V.ld1 tb) ?_
        refine WpL.v (V.fa tb) ?_
        refine WpL.v (V.ld1 tb) ?_
        refine WpL.v (V.cmp) ?_
        refine WpL.v (V.mv) ?_
        refine WpL.pt (fun hb33 => ?_) (fun hb33 => ?_)
        (try simp only [decide_eq_true_eq, decide_eq_false_iff_not, Bool.not_eq_true', Bool.not_eq_false', Bool.not_eq_true, Bool.not_eq_false, not_true_eq_false, not_false_eq_true, reduceCtorEq] at hb33)
        refine WpL.v (V.fa tb) ?_
        refine WpL.v (V.ld1 tb) ?_
        refine WpL.v (V.fa tb) ?_
        refine WpL.v (V.ld1 tb) ?_
        refine WpL.v (V.cmp) ?_
        refine WpL.v (V.pT) ?_
        refine WpL.v (V.as) ?_
        apply WpL.nil
        apply Out.seqN
        refine Wp.c (fun hb34 => ?_) (fun hb34 => ?_)
        (try simp only [decide_eq_true_eq, decide_eq_false_iff_not, Bool.not_eq_true', Bool.not_eq_false', Bool.not_eq_true, Bool.not_eq_false, not_true_eq_false, not_false_eq_true, reduceCtorEq] at hb34)
        apply Wp.seq
        apply Wp.region
        refine WpL.v (V.as) ?_
        apply WpL.nil
        apply Out.seqN
        apply Wp.ret
        apply Out.blockR
        apply Out.seqR
        refine Out.f1 rfl ResIs.t ⟨?_, rfl⟩
        exact rfl
        (try simp only [decide_eq_true_eq, decide_eq_false_iff_not, Bool.not_eq_true', Bool.not_eq_false', Bool.not_eq_true, Bool.not_eq_false, not_true_eq_false, not_false_eq_true, reduceCtorEq] at hb34)
        (exfalso; omega)
        (try simp only [decide_eq_true_eq, decide_eq_false_iff_not, Bool.not_eq_true', Bool.not_eq_false', Bool.not_eq_true, Bool.not_eq_false, not_true_eq_false, not_false_eq_true, reduceCtorEq] at hb33)
        (exfalso; omega)
        (try simp only [decide_eq_true_eq, decide_eq_false_iff_not, Bool.not_eq_true', Bool.not_eq_false', Bool.not_eq_true, Bool.not_eq_false, not_true_eq_false, not_false_eq_true, reduceCtorEq] at hb31)
        (exfalso; omega)
      · rw [if_neg (fun h => h4 h.2)]
        refine Ct.enter Try.func119 rfl rfl fun W => ?_
        apply Wp.seq
        apply Wp.region
        refine WpL.o (O.bxA (fun p2 => ?_))
        refine WpL.o (O.bxA (fun p3 => ?_))
        refine WpL.v (V.as) ?_
        apply WpL.nil
        apply Out.seqN
        apply Wp.seq
        apply Wp.block
        apply Wp.seq
        apply Wp.region
        refine WpL.v (V.fa tb) ?_
        refine WpL.v (V.ld1 tb) ?_
        refine WpL.v (V.fa tb) ?_
        refine WpL.v (V.ld1 tb) ?_
        refine WpL.v (V.cmp) ?_
        refine WpL.v (V.mv) ?_
        refine WpL.pt (fun hb40 => ?_) (fun hb40 => ?_)
        (try simp only [decide_eq_true_eq, decide_eq_false_iff_not, Bool.not_eq_true', Bool.not_eq_false', Bool.not_eq_true, Bool.not_eq_false, not_true_eq_false, not_false_eq_true, reduceCtorEq] at hb40)
        (exfalso; omega)
        (try simp only [decide_eq_true_eq, decide_eq_false_iff_not, Bool.not_eq_true', Bool.not_eq_false', Bool.not_eq_true, Bool.not_eq_false, not_true_eq_false, not_false_eq_true, reduceCtorEq] at hb40)
        refine WpL.v (V.fa tb) ?_
        refine WpL.v (V.ld1 tb) ?_
        refine WpL.v (V.fa tb) ?_
        refine WpL.v (V.ld1 tb) ?_
        refine WpL.v (V.cmp) ?_
        refine WpL.v (V.mv) ?_
        refine WpL.pt (fun hb41 => ?_) (fun hb41 => ?_)
        (try simp only [decide_eq_true_eq, decide_eq_false_iff_not, Bool.not_eq_true', Bool.not_eq_false', Bool.not_eq_true, Bool.not_eq_false, not_true_eq_false, not_false_eq_true, reduceCtorEq] at hb41)
        refine WpL.v (V.fa tb) ?_
        refine WpL.v (V.ld1 tb) ?_
        refine WpL.v (V.fa tb) ?_
        refine WpL.v (V.ld1 tb) ?_
        refine WpL.v (V.cmp) ?_
        refine WpL.v (V.pT) ?_
        refine WpL.v (V.pF) ?_
        refine WpL.v (V.as) ?_
        apply WpL.nil
        apply Out.seqN
        refine Wp.c (fun hb42 => ?_) (fun hb42 => ?_)
        (try simp only [decide_eq_true_eq, decide_eq_false_iff_not, Bool.not_eq_true', Bool.not_eq_false', Bool.not_eq_true, Bool.not_eq_false, not_true_eq_false, not_false_eq_true, reduceCtorEq] at hb42)
        (exfalso; omega)
        (try simp only [decide_eq_true_eq, decide_eq_false_iff_not, Bool.not_eq_true', Bool.not_eq_false', Bool.not_eq_true, Bool.not_eq_false, not_true_eq_false, not_false_eq_true, reduceCtorEq] at hb42)
        apply Wp.seq
        apply Wp.region
        refine WpL.v (V.fa tb) ?_
        refine WpL.v (V.ld1 tb) ?_
        refine WpL.v (V.fa tb) ?_
        refine WpL.v (V.ld1 tb) ?_
        refine WpL.v (V.cmp) ?_
        refine WpL.v (V.mv) ?_
        refine WpL.pt (fun hb43 => ?_) (fun hb43 => ?_)
        (try simp only [decide_eq_true_eq, decide_eq_false_iff_not, Bool.not_eq_true', Bool.not_eq_false', Bool.not_eq_true, Bool.not_eq_false, not_true_eq_false, not_false_eq_true, reduceCtorEq] at hb43)
        refine WpL.v (V.fa tb) ?_
        refine WpL.v (V.ld1 tb) ?_
        refine WpL.v (V.fa tb) ?_
        refine WpL.v (V.ld1 tb) ?_
        refine WpL.v (V.cmp) ?_
        refine WpL.v (V.pT) ?_
        refine WpL.v (V.as) ?_
        apply WpL.nil
        apply Out.seqN
        refine Wp.c (fun hb44 => ?_) (fun hb44 => ?_)
        (try simp only [decide_eq_true_eq, decide_eq_false_iff_not, Bool.not_eq_true', Bool.not_eq_false', Bool.not_eq_true, Bool.not_eq_false, not_true_eq_false, not_false_eq_true, reduceCtorEq] at hb44)
        (exfalso; omega)
        (try simp only [decide_eq_true_eq, decide_eq_false_iff_not, Bool.not_eq_true', Bool.not_eq_false', Bool.not_eq_true, Bool.not_eq_false, not_true_eq_false, not_false_eq_true, reduceCtorEq] at hb44)
        apply Wp.skip
        apply Out.blockN
        apply Out.seqN
        apply Wp.seq
        apply Wp.region
        refine WpL.v (V.as) ?_
        apply WpL.nil
        apply Out.seqN
        apply Wp.ret
        refine Out.f1 rfl ResIs.t ⟨?_, rfl⟩
        exact rfl
        (try simp only [decide_eq_true_eq, decide_eq_false_iff_not, Bool.not_eq_true', Bool.not_eq_false', Bool.not_eq_true, Bool.not_eq_false, not_true_eq_false, not_false_eq_true, reduceCtorEq] at hb43)
        (exfalso; omega)
        (try simp only [decide_eq_true_eq, decide_eq_false_iff_not, Bool.not_eq_true', Bool.not_eq_false', Bool.not_eq_true, Bool.not_eq_false, not_true_eq_false, not_false_eq_true, reduceCtorEq] at hb41)
        (exfalso; omega)
  · rw [if_neg (fun h => by rcases Isp_lt_iff.1 h with h | h <;> omega), if_neg (fun h => h2 h.1)]
    refine Ct.enter Try.func119 rfl rfl fun W => ?_
    apply Wp.seq
    apply Wp.region
    refine WpL.o (O.bxA (fun p2 => ?_))
    refine WpL.o (O.bxA (fun p3 => ?_))
    refine WpL.v (V.as) ?_
    apply WpL.nil
    apply Out.seqN
    apply Wp.seq
    apply Wp.block
    apply Wp.seq
    apply Wp.region
    refine WpL.v (V.fa tb) ?_
    refine WpL.v (V.ld1 tb) ?_
    refine WpL.v (V.fa tb) ?_
    refine WpL.v (V.ld1 tb) ?_
    refine WpL.v (V.cmp) ?_
    refine WpL.v (V.mv) ?_
    refine WpL.pt (fun hb50 => ?_) (fun hb50 => ?_)
    (try simp only [decide_eq_true_eq, decide_eq_false_iff_not, Bool.not_eq_true', Bool.not_eq_false', Bool.not_eq_true, Bool.not_eq_false, not_true_eq_false, not_false_eq_true, reduceCtorEq] at hb50)
    (exfalso; omega)
    (try simp only [decide_eq_true_eq, decide_eq_false_iff_not, Bool.not_eq_true', Bool.not_eq_false', Bool.not_eq_true, Bool.not_eq_false, not_true_eq_false, not_false_eq_true, reduceCtorEq] at hb50)
    refine WpL.v (V.fa tb) ?_
    refine WpL.v (V.ld1 tb) ?_
    refine WpL.v (V.fa tb) ?_
    refine WpL.v (V.ld1 tb) ?_
    refine WpL.v (V.cmp) ?_
    refine WpL.v (V.mv) ?_
    refine WpL.pt (fun hb51 => ?_) (fun hb51 => ?_)
    (try simp only [decide_eq_true_eq, decide_eq_false_iff_not, Bool.not_eq_true', Bool.not_eq_false', Bool.not_eq_true, Bool.not_eq_false, not_true_eq_false, not_false_eq_true, reduceCtorEq] at hb51)
    (exfalso; omega)
    (try simp only [decide_eq_true_eq, decide_eq_false_iff_not, Bool.not_eq_true', Bool.not_eq_false', Bool.not_eq_true, Bool.not_eq_false, not_true_eq_false, not_false_eq_true, reduceCtorEq] at hb51)
    refine WpL.sk ?_
    refine WpL.sk ?_
    refine WpL.sk ?_
    refine WpL.sk ?_
    refine WpL.sk ?_
    refine WpL.v (V.pF) ?_
    refine WpL.v (V.pF) ?_
    refine WpL.v (V.as) ?_
    apply WpL.nil
    apply Out.seqN
    refine Wp.cF ?_
    apply Wp.seq
    apply Wp.region
    refine WpL.v (V.fa tb) ?_
    refine WpL.v (V.ld1 tb) ?_
    refine WpL.v (V.fa tb) ?_
    refine WpL.v (V.ld1 tb) ?_
    refine WpL.v (V.cmp) ?_
    refine WpL.v (V.mv) ?_
    refine WpL.pt (fun hb52 => ?_) (fun hb52 => ?_)
    (try simp only [decide_eq_true_eq, decide_eq_false_iff_not, Bool.not_eq_true', Bool.not_eq_false', Bool.not_eq_true, Bool.not_eq_false, not_true_eq_false, not_false_eq_true, reduceCtorEq] at hb52)
    (exfalso; omega)
    (try simp only [decide_eq_true_eq, decide_eq_false_iff_not, Bool.not_eq_true', Bool.not_eq_false', Bool.not_eq_true, Bool.not_eq_false, not_true_eq_false, not_false_eq_true, reduceCtorEq] at hb52)
    refine WpL.sk ?_
    refine WpL.sk ?_
    refine WpL.sk ?_
    refine WpL.sk ?_
    refine WpL.sk ?_
    refine WpL.v (V.pF) ?_
    refine WpL.v (V.as) ?_
    apply WpL.nil
    apply Out.seqN
    refine Wp.cF ?_
    apply Wp.skip
    apply Out.blockN
    apply Out.seqN
    apply Wp.seq
    apply Wp.region
    refine WpL.v (V.as) ?_
    apply WpL.nil
    apply Out.seqN
    apply Wp.ret
    refine Out.f1 rfl ResIs.t ⟨?_, rfl⟩
    exact rfl
theorem Isp_cmp_neg (a b : WheelSpokeOfItem) : decide (Isp_cmp a b < 0) = Isp_lt a b := by
  unfold Isp_cmp
  by_cases h : Isp_lt a b = true
  · rw [if_pos h, h]; decide
  · rw [if_neg h, show Isp_lt a b = false by simpa using h]
    split <;> decide
theorem Isp_lt_trans {a b c : WheelSpokeOfItem} (h1 : Isp_lt a b = true) (h2 : Isp_lt b c = true) : Isp_lt a c = true := by
  rw [Isp_lt_iff] at *; omega
theorem Ipw_get {α : Type} {R : α → α → Prop} {l : List α} (h : l.Pairwise R) {i j : Nat} {a b : α} (ha : l[i]? = some a) (hb : l[j]? = some b) (hij : i < j) : R a b := by
  obtain ⟨h1, rfl⟩ := List.getElem?_eq_some_iff.1 ha
  obtain ⟨h2, rfl⟩ := List.getElem?_eq_some_iff.1 hb
  exact List.pairwise_iff_getElem.1 h i j h1 h2 hij
/-- Where a thing is to be laid. -/
def IPosI (l : List WheelSpokeOfItem) (s : WheelSpokeOfItem) (p : Nat) : Prop := p ≤ l.length ∧ ∀ (j : Nat) (a : WheelSpokeOfItem), l[j]? = some a → (Isp_lt a s = true ↔ j < p)
theorem Ihalf' (i j : Nat) (h : i + j < 4611686018427387904) : (((i + j : Nat) : Int)).fdiv (2 ^ (Min.min ((1 : Int)).toNat Go.IntKind.u64.bits)) = (((i + j) / 2 : Nat) : Int) := by
  show (((i + j : Nat) : Int)).fdiv 2 = _
  rw [Int.fdiv_eq_ediv_of_nonneg _ (by omega)]
  omega
theorem Ii64w (m : Nat) (h : m < 4611686018427387904) : Go.IntKind.i64.wrap (m : Int) = (m : Int) := wrap_in (In.mk64 (by omega))
theorem Iu64w (m : Nat) (h : m < 4611686018427387904) : Go.IntKind.u64.wrap (m : Int) = (m : Int) := by
  simp only [Go.IntKind.wrap, Go.IntKind.signed, Go.IntKind.bits]
  simp
  omega
set_option maxHeartbeats 2000000 in
theorem Islices_bsf (v : Go.Value) (l : List WheelSpokeOfItem) (s : WheelSpokeOfItem) (hs : l.Pairwise (fun a b => Isp_lt a b = true)) (hl : l.length ≤ 100000) :
    Ct Try.prog 118 [v, A s.c, .func (.func 119) #[] #[]] [rows WheelSpokeOfItem.c v 183 4 l] (fun r σ' => ∃ (p : Nat) (f : Bool), IPosI l s p ∧ r = .tuple #[I (p : Int), B f] ∧ σ' = [rows WheelSpokeOfItem.c v 183 4 l]) := by
  refine Ct.enter Try.func118 rfl rfl fun W => ?_
  refine Wp.fact (rowsForm (List.Mem.head _)) fun hform => ?_
  apply Wp.seq
  apply Wp.region
  refine WpL.o (O.bxA (fun p4 => ?_))
  refine WpL.v (V.as) ?_
  refine WpL.v (V.as) ?_
  apply WpL.nil
  apply Out.seqN
  apply Wp.seq
  apply Wp.region
  refine WpL.v (V.mv) ?_
  refine WpL.v (V.lenRows tb) ?_
  refine WpL.v (V.as) ?_
  apply WpL.nil
  apply Out.seqN
  apply Wp.seq
  apply Wp.region
  refine WpL.v (V.mv) ?_
  refine WpL.v (V.as) ?_
  refine WpL.v (V.as) ?_
  apply WpL.nil
  apply Out.seqN
  apply Wp.seq
  apply Wp.block
  refine Wp.lp [8, 4, 0, 2] (fun y : Nat × Nat => y.1 ≤ y.2 ∧ y.2 ≤ l.length ∧ (∀ (j : Nat) (a : WheelSpokeOfItem), l[j]? = some a → j < y.1 → Isp_lt a s = true) ∧ (∀ (j : Nat) (a : WheelSpokeOfItem), l[j]? = some a → y.2 ≤ j → Isp_lt a s = false)) (fun y => [(10, I (y.2 : Int)), (9, I (y.1 : Int))]) (fun _ => []) (fun y => y.2 - y.1) (0, l.length) ⟨Nat.zero_le _, Nat.le_refl _, fun j a _ h => absurd h (Nat.not_lt_zero _), fun j a h h2 => absurd (List.getElem?_eq_some_iff.1 h).1 (by omega)⟩ ?_
  rintro ⟨lo, hi⟩ ⟨h1, h2, h3, h4⟩ K hK
  dsimp only at h1 h2 h3 h4
  dsimp only [List.cons_append, List.nil_append]
  by_cases hlt : lo < hi
  · obtain ⟨mid, hmid⟩ : ∃ m, m = (lo + hi) / 2 := ⟨_, rfl⟩
    have hml : mid < l.length := by omega
    obtain ⟨x, hx⟩ := getS hml
    rcases hform with ⟨rfl, rfl⟩ | ⟨g, cap, rfl, hc1, hc2⟩
    · simp at hml
    have e1 : cmpI .lss (lo : Int) (hi : Int) = some true := by simp [cmpI, hlt]
    have e2 : Go.IntKind.u64.wrap ((lo : Int) + (hi : Int)) = ((lo + hi : Nat) : Int) := by rw [← Int.natCast_add]; exact Iu64w _ (by omega)
    have e3 := Ihalf' lo hi (by omega)
    rw [← hmid] at e3
    have e4 : Go.IntKind.i64.wrap (mid : Int) = (mid : Int) := Ii64w _ (by omega)
    have hB := Iwheel_before x s
    have e5 : decide (Isp_cmp x s < 0) = Isp_lt x s := Isp_cmp_neg x s
    cases hlx : Isp_lt x s with
    | true =>
      have e6 : cmpI .lss (Isp_cmp x s) 0 = some true := by simp only [cmpI]; rw [e5, hlx]
      apply Wp.seq
      apply Wp.seq
      apply Wp.region
      refine WpL.v (V.mv) ?_
      refine WpL.v (V.mv) ?_
      refine WpL.v (V.cmp rfl rfl e1) ?_
      apply WpL.nil
      apply Out.seqN
      refine Wp.cT ?_
      apply Wp.skip
      apply Out.seqN
      apply Wp.block
      apply Wp.seq
      apply Wp.region
      refine WpL.v (V.mv) ?_
      refine WpL.v (V.mv) ?_
      refine WpL.v (V.add) ?_
      refine WpL.v (V.cvE tb rfl rfl e2) ?_
      refine WpL.v (V.shrE rfl rfl e3) ?_
      refine WpL.v (V.cvE tb rfl rfl e4) ?_
      refine WpL.v (V.as) ?_
      apply WpL.nil
      apply Out.seqN
      apply Wp.seq
      refine Wp.dG [] ?_ (List.Sublist.cons_cons _ (List.Sublist.cons_cons _ List.Sublist.slnil)) (List.Sublist.cons_cons _ (List.Sublist.cons_cons _ List.Sublist.slnil))
      refine WpA.tF 0 rfl (V.mv) ?_
      refine WpA.tF 1 rfl (V.mv) ?_
      refine WpA.tF 2 rfl (V.mv) ?_
      refine WpA.tF 3 rfl (V.ixk tb (k := mid) rfl rfl rfl rfl (by omega)) ?_
      refine WpA.tF 4 rfl (V.ldRow tb rfl (by (repeat first | exact List.Mem.head _ | apply List.Mem.tail)) WheelSpokeOfItem.len hx) ?_
      refine WpA.tF 5 rfl (V.ldA tb) ?_
      refine WpA.oS 6 rfl (Op1.fnV rfl rfl (hB) ⟨?_, ?_, ?_⟩)
      exact holdT
      exact holdT
      refine WpA.tF 7 rfl (V.cmp rfl rfl e6) ?_
      refine WpA.ou ?_
      apply Out.seqN
      refine Wp.cT ?_
      apply Wp.region
      refine WpL.v (V.mv) ?_
      refine WpL.v (V.add) ?_
      refine WpL.v (V.as) ?_
      apply WpL.nil
      apply Out.blockN
      exact Out.ag hK (mid + 1, hi) ⟨by show mid + 1 ≤ hi; omega, h2, fun j a ha hj => by
        by_cases hjm : j = mid
        · subst hjm; rw [hx] at ha; rw [← Option.some.inj ha]; exact hlx
        · exact Isp_lt_trans (Ipw_get hs ha hx (by have : j < mid + 1 := hj; omega)) hlx, h4⟩ (by show hi - (mid + 1) < hi - lo; omega)
    | false =>
      have e6 : cmpI .lss (Isp_cmp x s) 0 = some false := by simp only [cmpI]; rw [e5, hlx]
      apply Wp.seq
      apply Wp.seq
      apply Wp.region
      refine WpL.v (V.mv) ?_
      refine WpL.v (V.mv) ?_
      refine WpL.v (V.cmp rfl rfl e1) ?_
      apply WpL.nil
      apply Out.seqN
      refine Wp.cT ?_
      apply Wp.skip
      apply Out.seqN
      apply Wp.block
      apply Wp.seq
      apply Wp.region
      refine WpL.v (V.mv) ?_
      refine WpL.v (V.mv) ?_
      refine WpL.v (V.add) ?_
      refine WpL.v (V.cvE tb rfl rfl e2) ?_
      refine WpL.v (V.shrE rfl rfl e3) ?_
      refine WpL.v (V.cvE tb rfl rfl e4) ?_
      refine WpL.v (V.as) ?_
      apply WpL.nil
      apply Out.seqN
      apply Wp.seq
      refine Wp.dG [] ?_ (List.Sublist.cons_cons _ (List.Sublist.cons_cons _ List.Sublist.slnil)) (List.Sublist.cons_cons _ (List.Sublist.cons_cons _ List.Sublist.slnil))
      refine WpA.tF 0 rfl (V.mv) ?_
      refine WpA.tF 1 rfl (V.mv) ?_
      refine WpA.tF 2 rfl (V.mv) ?_
      refine WpA.tF 3 rfl (V.ixk tb (k := mid) rfl rfl rfl rfl (by omega)) ?_
      refine WpA.tF 4 rfl (V.ldRow tb rfl (by (repeat first | exact List.Mem.head _ | apply List.Mem.tail)) WheelSpokeOfItem.len hx) ?_
      refine WpA.tF 5 rfl (V.ldA tb) ?_
      refine WpA.oS 6 rfl (Op1.fnV rfl rfl (hB) ⟨?_, ?_, ?_⟩)
      exact holdT
      exact holdT
      refine WpA.tF 7 rfl (V.cmp rfl rfl e6) ?_
      refine WpA.ou ?_
      apply Out.seqN
      refine Wp.cF ?_
      apply Wp.region
      refine WpL.v (V.mv) ?_
      refine WpL.v (V.as) ?_
      apply WpL.nil
      apply Out.blockN
      exact Out.ag hK (lo, mid) ⟨by show lo ≤ mid; omega, by show mid ≤ _; omega, h3, fun j a ha hj => by
        by_cases hjm : j = mid
        · subst hjm; rw [hx] at ha; rw [← Option.some.inj ha]; exact hlx
        · cases hla : Isp_lt a s with
          | false => rfl
          | true =>
            have := Isp_lt_trans (Ipw_get hs hx ha (by have : mid ≤ j := hj; omega)) hla
            rw [hlx] at this; cases this⟩ (by show mid - lo < hi - lo; omega)
  · obtain rfl : lo = hi := by omega
    have hP : IPosI l s lo := ⟨h2, fun j a ha => Iff.intro (fun h => (Decidable.of_not_not fun hj => by
      rw [h4 j a ha (by omega)] at h; cases h)) (fun h => h3 j a ha h)⟩
    clear hK
    by_cases hll : lo < l.length
    · obtain ⟨x, hx⟩ := getS hll
      rcases hform with ⟨rfl, rfl⟩ | ⟨g, cap, rfl, hc1, hc2⟩
      · simp at hll
      have hB := Iwheel_before x s
      apply Wp.seq
      apply Wp.seq
      apply Wp.region
      refine WpL.v (V.mv) ?_
      refine WpL.v (V.mv) ?_
      refine WpL.v (V.cmp) ?_
      apply WpL.nil
      apply Out.seqN
      refine Wp.c (fun hs40 => ?_) (fun hs40 => ?_)
      (try simp only [decide_eq_true_eq, decide_eq_false_iff_not, Bool.not_eq_true', Bool.not_eq_false', Bool.not_eq_true, Bool.not_eq_false, not_true_eq_false, not_false_eq_true, reduceCtorEq] at hs40)
      (exfalso; omega)
      (try simp only [decide_eq_true_eq, decide_eq_false_iff_not, Bool.not_eq_true', Bool.not_eq_false', Bool.not_eq_true, Bool.not_eq_false, not_true_eq_false, not_false_eq_true, reduceCtorEq] at hs40)
      apply Wp.exit
      apply Out.seqE
      apply Out.seqE
      apply Out.blockE
      apply Out.seqN
      apply Wp.seq
      refine Wp.dG [] ?_ (List.Sublist.cons_cons _ (List.Sublist.cons_cons _ List.Sublist.slnil)) (List.Sublist.cons_cons _ (List.Sublist.cons_cons _ List.Sublist.slnil))
      refine WpA.tF 0 rfl (V.mv) ?_
      refine WpA.tF 1 rfl (V.mv) ?_
      refine WpA.tF 2 rfl (V.mv) ?_
      refine WpA.tF 3 rfl (V.cmp) ?_
      refine WpA.tF 4 rfl (V.mv) ?_
      refine WpA.pt 39 (fun hs41 => ?_) (fun hs41 => ?_)
      (try simp only [decide_eq_true_eq, decide_eq_false_iff_not, Bool.not_eq_true', Bool.not_eq_false', Bool.not_eq_true, Bool.not_eq_false, not_true_eq_false, not_false_eq_true, reduceCtorEq] at hs41)
      refine WpA.tF 5 rfl (V.mv) ?_
      refine WpA.tF 6 rfl (V.mv) ?_
      refine WpA.tF 7 rfl (V.mv) ?_
      refine WpA.tF 8 rfl (V.ixk tb (k := lo) rfl rfl rfl rfl (by omega)) ?_
      refine WpA.tF 9 rfl (V.ldRow tb rfl (by (repeat first | exact List.Mem.head _ | apply List.Mem.tail)) WheelSpokeOfItem.len hx) ?_
      refine WpA.tF 10 rfl (V.ldA tb) ?_
      refine WpA.oS 11 rfl (Op1.fnV rfl rfl (hB) ⟨?_, ?_, ?_⟩)
      exact holdT
      exact holdT
      refine WpA.tF 12 rfl (V.cmp) ?_
      refine WpA.tF 13 rfl (V.pT) ?_
      refine WpA.tF 14 rfl (V.as) ?_
      refine WpA.tF 15 rfl (V.as) ?_
      refine WpA.ou ?_
      apply Out.seqN
      apply Wp.ret
      refine Out.e2 rfl ResIs.t ResIs.t ?_
      focus (exact ⟨_, _, ⟨lo, _, hP, rfl, rfl⟩, (by (repeat (first | exact Sel.nil | exact Rem.here | apply Sel.cons | apply Rem.there)))⟩; done)
      (try simp only [decide_eq_true_eq, decide_eq_false_iff_not, Bool.not_eq_true', Bool.not_eq_false', Bool.not_eq_true, Bool.not_eq_false, not_true_eq_false, not_false_eq_true, reduceCtorEq] at hs41)
      (exfalso; omega)
    · apply Wp.seq
      apply Wp.seq
      apply Wp.region
      refine WpL.v (V.mv) ?_
      refine WpL.v (V.mv) ?_
      refine WpL.v (V.cmp) ?_
      apply WpL.nil
      apply Out.seqN
      refine Wp.c (fun hs50 => ?_) (fun hs50 => ?_)
      (try simp only [decide_eq_true_eq, decide_eq_false_iff_not, Bool.not_eq_true', Bool.not_eq_false', Bool.not_eq_true, Bool.not_eq_false, not_true_eq_false, not_false_eq_true, reduceCtorEq] at hs50)
      (exfalso; omega)
      (try simp only [decide_eq_true_eq, decide_eq_false_iff_not, Bool.not_eq_true', Bool.not_eq_false', Bool.not_eq_true, Bool.not_eq_false, not_true_eq_false, not_false_eq_true, reduceCtorEq] at hs50)
      apply Wp.exit
      apply Out.seqE
      apply Out.seqE
      apply Out.blockE
      apply Out.seqN
      apply Wp.seq
      refine Wp.dG [] ?_ (List.Sublist.cons_cons _ (List.Sublist.cons_cons _ List.Sublist.slnil)) (List.Sublist.cons_cons _ (List.Sublist.cons_cons _ List.Sublist.slnil))
      refine WpA.tF 0 rfl (V.mv) ?_
      refine WpA.tF 1 rfl (V.mv) ?_
      refine WpA.tF 2 rfl (V.mv) ?_
      refine WpA.tF 3 rfl (V.cmp) ?_
      refine WpA.tF 4 rfl (V.mv) ?_
      refine WpA.pt 39 (fun hs51 => ?_) (fun hs51 => ?_)
      (try simp only [decide_eq_true_eq, decide_eq_false_iff_not, Bool.not_eq_true', Bool.not_eq_false', Bool.not_eq_true, Bool.not_eq_false, not_true_eq_false, not_false_eq_true, reduceCtorEq] at hs51)
      (exfalso; omega)
      (try simp only [decide_eq_true_eq, decide_eq_false_iff_not, Bool.not_eq_true', Bool.not_eq_false', Bool.not_eq_true, Bool.not_eq_false, not_true_eq_false, not_false_eq_true, reduceCtorEq] at hs51)
      refine WpA.s 5 rfl ?_
      refine WpA.s 6 rfl ?_
      refine WpA.s 7 rfl ?_
      refine WpA.s 8 rfl ?_
      refine WpA.s 9 rfl ?_
      refine WpA.s 10 rfl ?_
      refine WpA.s 11 rfl ?_
      refine WpA.s 12 rfl ?_
      refine WpA.tF 13 rfl (V.pF) ?_
      refine WpA.tF 14 rfl (V.as) ?_
      refine WpA.tF 15 rfl (V.as) ?_
      refine WpA.ou ?_
      apply Out.seqN
      apply Wp.ret
      refine Out.e2 rfl ResIs.t ResIs.t ?_
      focus (exact ⟨_, _, ⟨lo, _, hP, rfl, rfl⟩, (by (repeat (first | exact Sel.nil | exact Rem.here | apply Sel.cons | apply Rem.there)))⟩; done)
/-- A thing laid at its place. -/
theorem Islices_insert0 (l : List WheelSpokeOfItem) (v : Go.Value) (s : WheelSpokeOfItem) (g2 : Nat) (hm : l.length ≤ 1000) :
    Ct Try.prog 120 [v, I (l.length : Int), .slice (some ⟨g2, 0, none⟩) 1 1] [rows WheelSpokeOfItem.c v 183 4 l, rows WheelSpokeOfItem.c (.slice (some ⟨g2, 0, none⟩) 1 1) 183 4 [s]] (fun r σ' => ∃ g' cap', r = .slice (some ⟨g', 0, none⟩) (l ++ [s]).length cap' ∧ σ' = [rows WheelSpokeOfItem.c (.slice (some ⟨g', 0, none⟩) (l ++ [s]).length cap') 183 4 (l ++ [s])]) := by
  have hbb : (l.length + 1) * 1000 ≤ 10000000 := by omega
  refine Ct.enter Try.func120 rfl rfl fun W => ?_
  refine Wp.fact (rowsForm (List.Mem.head _)) fun hform => ?_
  rcases hform with ⟨rfl, rfl⟩ | ⟨g, cap, rfl, hc1, hc2⟩
  · apply Wp.seq
    apply Wp.region
    refine WpL.v (V.as) ?_
    apply WpL.nil
    apply Out.seqN
    apply Wp.seq
    apply Wp.region
    refine WpL.v (V.mv) ?_
    refine WpL.v (V.mv) ?_
    refine WpL.v (V.slFrom tb (i := 0) rfl rfl (by omega)) ?_
    apply WpL.nil
    apply Out.seqN
    apply Wp.seq
    apply Wp.region
    refine WpL.v (V.mv) ?_
    refine WpL.v (V.lenL tb) ?_
    refine WpL.v (V.as) ?_
    apply WpL.nil
    apply Out.seqN
    apply Wp.seq
    apply Wp.seq
    apply Wp.region
    refine WpL.v (V.mv) ?_
    refine WpL.v (V.cmp) ?_
    apply WpL.nil
    apply Out.seqN
    refine Wp.cF ?_
    apply Wp.skip
    apply Out.seqN
    apply Wp.seq
    apply Wp.region
    refine WpL.v (V.mv) ?_
    refine WpL.v (V.lenL tb) ?_
    refine WpL.v (V.as) ?_
    apply WpL.nil
    apply Out.seqN
    apply Wp.seq
    apply Wp.seq
    apply Wp.region
    refine WpL.v (V.mv) ?_
    refine WpL.v (V.mv) ?_
    refine WpL.v (V.cmp) ?_
    apply WpL.nil
    apply Out.seqN
    refine Wp.cT ?_
    apply Wp.seq
    apply Wp.region
    refine WpL.v (V.mv) ?_
    refine WpL.v (V.mv) ?_
    refine WpL.o (O.apL tb rfl rfl (by (intro _; repeat first | exact Upd.here _ _ _ | apply Upd.there)) (SrcL.rows tb (by (repeat first | exact List.Mem.head _ | apply List.Mem.tail)) WheelSpokeOfItem.ones) (fun g25 cap25 => ?_))
    refine WpL.v (V.as) ?_
    apply WpL.nil
    apply Out.seqN
    apply Wp.ret
    apply Out.seqR
    refine Out.e1 rfl ResIs.t ?_
    focus (exact ⟨_, _, ⟨_, _, rfl, rfl⟩, (by (repeat (first | exact Sel.nil | exact Rem.here | apply Sel.cons | apply Rem.there)))⟩; done)
  · apply Wp.seq
    apply Wp.region
    refine WpL.v (V.as) ?_
    apply WpL.nil
    apply Out.seqN
    apply Wp.seq
    apply Wp.region
    refine WpL.v (V.mv) ?_
    refine WpL.v (V.mv) ?_
    refine WpL.v (V.slFrom tb (i := l.length) rfl rfl (by omega)) ?_
    apply WpL.nil
    apply Out.seqN
    apply Wp.seq
    apply Wp.region
    refine WpL.v (V.mv) ?_
    refine WpL.v (V.lenL tb) ?_
    refine WpL.v (V.as) ?_
    apply WpL.nil
    apply Out.seqN
    apply Wp.seq
    apply Wp.seq
    apply Wp.region
    refine WpL.v (V.mv) ?_
    refine WpL.v (V.cmp) ?_
    apply WpL.nil
    apply Out.seqN
    refine Wp.cF ?_
    apply Wp.skip
    apply Out.seqN
    apply Wp.seq
    apply Wp.region
    refine WpL.v (V.mv) ?_
    refine WpL.v (V.lenL tb) ?_
    refine WpL.v (V.as) ?_
    apply WpL.nil
    apply Out.seqN
    apply Wp.seq
    apply Wp.seq
    apply Wp.region
    refine WpL.v (V.mv) ?_
    refine WpL.v (V.mv) ?_
    refine WpL.v (V.cmp) ?_
    apply WpL.nil
    apply Out.seqN
    refine Wp.c (fun hi10 => ?_) (fun hi10 => ?_)
    (try simp only [decide_eq_true_eq, decide_eq_false_iff_not, Bool.not_eq_true', Bool.not_eq_false', Bool.not_eq_true, Bool.not_eq_false, not_true_eq_false, not_false_eq_true, reduceCtorEq] at hi10)
    apply Wp.seq
    apply Wp.region
    refine WpL.v (V.mv) ?_
    refine WpL.v (V.mv) ?_
    refine WpL.o (O.apL tb rfl rfl (by (intro _; repeat first | exact Upd.here _ _ _ | apply Upd.there)) (SrcL.rows tb (by (repeat first | exact List.Mem.head _ | apply List.Mem.tail)) WheelSpokeOfItem.ones) (fun g25 cap25 => ?_))
    refine WpL.v (V.as) ?_
    apply WpL.nil
    apply Out.seqN
    apply Wp.ret
    apply Out.seqR
    refine Out.e1 rfl ResIs.t ?_
    focus (exact ⟨_, _, ⟨_, _, rfl, rfl⟩, (by (repeat (first | exact Sel.nil | exact Rem.here | apply Sel.cons | apply Rem.there)))⟩; done)
    (try simp only [decide_eq_true_eq, decide_eq_false_iff_not, Bool.not_eq_true', Bool.not_eq_false', Bool.not_eq_true, Bool.not_eq_false, not_true_eq_false, not_false_eq_true, reduceCtorEq] at hi10)
theorem f129_at : Try.prog.funcs[129]? = some Try.f129 := by kernel_rfl
theorem Iins_up {α : Type} {l : List α} {i : Nat} {s : α} (h : i < l.length) : (l.take (i + 1) ++ l.drop i).take i ++ ([s] ++ (l.take (i + 1) ++ l.drop i).drop (i + [s].length)) = l.take i ++ s :: l.drop i := by
  rw [List.take_append_of_le_length (by simp; omega), List.take_take, Nat.min_eq_left (by omega), List.length_singleton, List.drop_append_of_le_length (by simp; omega), List.drop_take_self]
  simp
theorem Iins_new {α : Type} {l : List α} {i : Nat} {s z : α} (h : i < l.length) (m1 : List α) (hm : m1 = (l.take i ++ List.replicate (l.length + 1 - i) z).take i ++ ([s] ++ (l.take i ++ List.replicate (l.length + 1 - i) z).drop (i + [s].length))) :
    m1.take (i + 1) ++ ((l.drop i).take (l.length - i) ++ m1.drop (i + 1 + ((l.drop i).take (l.length - i)).length)) = l.take i ++ s :: l.drop i := by
  have e1 : (l.take i ++ List.replicate (l.length + 1 - i) z).take i = l.take i := by rw [List.take_append_of_le_length (by simp; omega), List.take_take, Nat.min_self]
  have hl : m1.length = l.length + 1 := by rw [hm]; simp; omega
  have e2 : (l.drop i).take (l.length - i) = l.drop i := List.take_of_length_le (by simp)
  have hil : (l.take i).length = i := by simp; omega
  have e3 : m1.drop (i + 1 + (l.drop i).length) = [] := List.drop_of_length_le (by rw [hl]; simp; omega)
  rw [e2, e3, hm, e1]
  rw [List.append_nil, ← List.append_assoc (l.take i), List.take_append_of_le_length (by simp; omega), List.take_of_length_le (by simp; omega)]
  simp
theorem Islices_insert1 (l : List WheelSpokeOfItem) (g cap : Nat) (s : WheelSpokeOfItem) (g2 i : Nat) (hi : i < l.length) (hm : l.length ≤ 1000) :
    Ct Try.prog 120 [.slice (some ⟨g, 0, none⟩) l.length cap, I (i : Int), .slice (some ⟨g2, 0, none⟩) 1 1] [rows WheelSpokeOfItem.c (.slice (some ⟨g, 0, none⟩) l.length cap) 183 4 l, rows WheelSpokeOfItem.c (.slice (some ⟨g2, 0, none⟩) 1 1) 183 4 [s]] (fun r σ' => ∃ g' cap', r = .slice (some ⟨g', 0, none⟩) (l.length + 1) cap' ∧ σ' = [rows WheelSpokeOfItem.c (.slice (some ⟨g', 0, none⟩) (l.length + 1) cap') 183 4 (l.take i ++ s :: l.drop i)]) := by
  have e1 : cmpI .eql (i : Int) (l.length : Int) = some false := by simp [cmpI]; omega
  refine Ct.enter Try.func120 rfl rfl fun W => ?_
  refine Wp.fact (rowsForm (List.Mem.head _)) fun hform => ?_
  refine Wp.fact (fun w hw => rowsNe hw) fun hne => ?_
  have hlc : l.length ≤ cap := by
    rcases hform with ⟨h, _⟩ | ⟨g', cap', h, h1, _⟩
    · cases h
    · cases h; exact h1
  by_cases hg : l.length + 1 ≤ cap
  · have e2 : cmpI .gtr ((l.length : Int) + 1) (cap : Int) = some false := by simp [cmpI]; omega
    have hn3 : l.length + 1 ≤ l.length + 1 := Nat.le_refl _
    apply Wp.seq
    apply Wp.region
    refine WpL.v (V.as) ?_
    apply WpL.nil
    apply Out.seqN
    apply Wp.seq
    apply Wp.region
    refine WpL.v (V.mv) ?_
    refine WpL.v (V.mv) ?_
    refine WpL.v (V.slFrom tb (i := i) rfl rfl (by omega)) ?_
    apply WpL.nil
    apply Out.seqN
    apply Wp.seq
    apply Wp.region
    refine WpL.v (V.mv) ?_
    refine WpL.v (V.lenL tb) ?_
    refine WpL.v (V.as) ?_
    apply WpL.nil
    apply Out.seqN
    apply Wp.seq
    apply Wp.seq
    apply Wp.region
    refine WpL.v (V.mv) ?_
    refine WpL.v (V.cmp) ?_
    apply WpL.nil
    apply Out.seqN
    refine Wp.cF ?_
    apply Wp.skip
    apply Out.seqN
    apply Wp.seq
    apply Wp.region
    refine WpL.v (V.mv) ?_
    refine WpL.v (V.lenL tb) ?_
    refine WpL.v (V.as) ?_
    apply WpL.nil
    apply Out.seqN
    apply Wp.seq
    apply Wp.seq
    apply Wp.region
    refine WpL.v (V.mv) ?_
    refine WpL.v (V.mv) ?_
    refine WpL.v (V.cmp rfl rfl e1) ?_
    apply WpL.nil
    apply Out.seqN
    refine Wp.cF ?_
    apply Wp.skip
    apply Out.seqN
    apply Wp.seq
    apply Wp.seq
    apply Wp.region
    refine WpL.v (V.mv) ?_
    refine WpL.v (V.mv) ?_
    refine WpL.v (V.add) ?_
    refine WpL.v (V.mv) ?_
    refine WpL.v (V.capL tb rfl rfl) ?_
    refine WpL.v (V.cmp rfl rfl e2) ?_
    apply WpL.nil
    apply Out.seqN
    refine Wp.cF ?_
    apply Wp.skip
    apply Out.seqN
    apply Wp.seq
    apply Wp.region
    refine WpL.v (V.mv) ?_
    refine WpL.v (V.mv) ?_
    refine WpL.v (V.mv) ?_
    refine WpL.v (V.add) ?_
    refine WpL.v (V.slTo tb (j := l.length + 1) rfl rfl hg) ?_
    refine WpL.v (V.as) ?_
    apply WpL.nil
    apply Out.seqN
    apply Wp.seq
    apply Wp.seq
    apply Wp.region
    refine WpL.v (V.mv) ?_
    refine WpL.v (V.mv) ?_
    refine WpL.v (V.mv) ?_
    refine WpL.v (V.mv) ?_
    refine WpL.v (V.add) ?_
    refine WpL.v (V.slFrom tb (i := i + 1) rfl rfl (by omega)) ?_
    refine WpL.v (V.ovl tb (i := i + 1) (len := l.length) (l := l) (l2 := [s]) (tS := 179) (tR := 4) f129_at (by kernel_rfl) (by kernel_rfl) (by kernel_rfl) (by kernel_rfl) rfl rfl (by (repeat first | exact List.Mem.head _ | apply List.Mem.tail)) (by (repeat first | exact List.Mem.head _ | apply List.Mem.tail)) hne (by omega)) ?_
    refine WpL.v (V.not) ?_
    apply WpL.nil
    apply Out.seqN
    refine Wp.cT ?_
    apply Wp.seq
    refine Wp.dG [] ?_ (List.Sublist.cons _ (List.Sublist.cons _ List.Sublist.slnil)) (List.Sublist.cons _ (List.Sublist.cons _ List.Sublist.slnil))
    refine WpA.tF 0 rfl (V.mv) ?_
    refine WpA.tF 1 rfl (V.mv) ?_
    refine WpA.tF 2 rfl (V.mv) ?_
    refine WpA.tF 3 rfl (V.add) ?_
    refine WpA.tF 4 rfl (V.slFrom tb (i := i + 1) rfl rfl (by omega)) ?_
    refine WpA.tF 5 rfl (V.mv) ?_
    refine WpA.tF 6 rfl (V.mv) ?_
    refine WpA.tF 7 rfl (V.slFrom tb (i := i) rfl rfl (by omega)) ?_
    refine WpA.oS 8 rfl (Op1.cpUp tb (i := i) (len := l.length) (l := l) rfl rfl (by (repeat first | exact Upd.here _ _ _ | apply Upd.there)) (by omega) rfl hi hg WheelSpokeOfItem.len WheelSpokeOfItem.ones ⟨?_, ?_, ?_⟩)
    exact holdT
    exact holdT
    refine WpA.ou ?_
    apply Out.seqN
    apply Wp.seq
    apply Wp.region
    refine WpL.v (V.mv) ?_
    refine WpL.v (V.mv) ?_
    refine WpL.v (V.slFrom tb (i := i) rfl rfl (by omega)) ?_
    refine WpL.v (V.mv) ?_
    refine WpL.o (Op1.cpR tb (o := i) (s := [s]) (md := l.take (i + 1) ++ l.drop i) rfl rfl (SrcL.rows tb (by (repeat first | exact List.Mem.head _ | apply List.Mem.tail)) WheelSpokeOfItem.ones) (by (repeat first | exact Upd.here _ _ _ | apply Upd.there)) (by simp; omega) (by omega) (by omega) WheelSpokeOfItem.len WheelSpokeOfItem.ones ?_)
    apply WpL.nil
    apply Out.seqN
    apply Wp.seq
    apply Wp.region
    refine WpL.v (V.mv) ?_
    refine WpL.v (V.as) ?_
    apply WpL.nil
    apply Out.seqN
    apply Wp.ret
    apply Out.seqR
    refine Out.e1 rfl ResIs.t ?_
    focus ((rw [Iins_up hi]; exact ⟨_, _, ⟨_, _, rfl, rfl⟩, (by (repeat (first | exact Sel.nil | exact Rem.here | apply Sel.cons | apply Rem.there)))⟩); done)
  · have e2 : cmpI .gtr ((l.length : Int) + 1) (cap : Int) = some true := by simp [cmpI]; omega
    have e3 : ariI .sub .i64 ((l.length : Int) + 1) (i : Int) = some ((l.length + 1 - i : Nat) : Int) := by
      simp only [ariI, Option.some.injEq]
      rw [show (l.length : Int) + 1 - (i : Int) = ((l.length + 1 - i : Nat) : Int) by omega]
      exact Ii64w _ (by omega)
    have he : i + (l.length + 1 - i) = l.length + 1 := by omega
    apply Wp.seq
    apply Wp.region
    refine WpL.v (V.as) ?_
    apply WpL.nil
    apply Out.seqN
    apply Wp.seq
    apply Wp.region
    refine WpL.v (V.mv) ?_
    refine WpL.v (V.mv) ?_
    refine WpL.v (V.slFrom tb (i := i) rfl rfl (by omega)) ?_
    apply WpL.nil
    apply Out.seqN
    apply Wp.seq
    apply Wp.region
    refine WpL.v (V.mv) ?_
    refine WpL.v (V.lenL tb) ?_
    refine WpL.v (V.as) ?_
    apply WpL.nil
    apply Out.seqN
    apply Wp.seq
    apply Wp.seq
    apply Wp.region
    refine WpL.v (V.mv) ?_
    refine WpL.v (V.cmp) ?_
    apply WpL.nil
    apply Out.seqN
    refine Wp.cF ?_
    apply Wp.skip
    apply Out.seqN
    apply Wp.seq
    apply Wp.region
    refine WpL.v (V.mv) ?_
    refine WpL.v (V.lenL tb) ?_
    refine WpL.v (V.as) ?_
    apply WpL.nil
    apply Out.seqN
    apply Wp.seq
    apply Wp.seq
    apply Wp.region
    refine WpL.v (V.mv) ?_
    refine WpL.v (V.mv) ?_
    refine WpL.v (V.cmp rfl rfl e1) ?_
    apply WpL.nil
    apply Out.seqN
    refine Wp.cF ?_
    apply Wp.skip
    apply Out.seqN
    apply Wp.seq
    apply Wp.seq
    apply Wp.region
    refine WpL.v (V.mv) ?_
    refine WpL.v (V.mv) ?_
    refine WpL.v (V.add) ?_
    refine WpL.v (V.mv) ?_
    refine WpL.v (V.capL tb rfl rfl) ?_
    refine WpL.v (V.cmp rfl rfl e2) ?_
    apply WpL.nil
    apply Out.seqN
    refine Wp.cT ?_
    apply Wp.seq
    apply Wp.region
    refine WpL.v (V.mv) ?_
    refine WpL.v (V.mv) ?_
    refine WpL.v (V.slTo tb (j := i) rfl rfl (by omega)) ?_
    refine WpL.v (V.mv) ?_
    refine WpL.v (V.mv) ?_
    refine WpL.v (V.add) ?_
    refine WpL.v (V.mv) ?_
    refine WpL.v (V.ariE rfl rfl e3) ?_
    refine WpL.o (Op1.apMk tb (i := i) (len := l.length) (l := l) (k := l.length + 1 - i) WheelSpokeOfItem.z rfl rfl (by (repeat first | exact List.Mem.head _ | apply List.Mem.tail)) (by omega) (by omega) (by omega) WheelSpokeOfItem.len (fun g40 cap40 hg40 => ?_))
    refine WpL.v (V.as) ?_
    apply WpL.nil
    apply Out.seqN
    apply Wp.seq
    apply Wp.region
    refine WpL.v (V.mv) ?_
    refine WpL.v (V.mv) ?_
    refine WpL.v (V.slFrom tb (i := i) rfl rfl (by omega)) ?_
    refine WpL.v (V.mv) ?_
    refine WpL.o (Op1.cpR tb (o := i) (s := [s]) (md := l.take i ++ List.replicate (l.length + 1 - i) WheelSpokeOfItem.z) rfl rfl (SrcL.rows tb (by (repeat first | exact List.Mem.head _ | apply List.Mem.tail)) WheelSpokeOfItem.ones) (by (repeat first | exact Upd.here _ _ _ | apply Upd.there)) (by simp; omega) (by omega) (by omega) WheelSpokeOfItem.len WheelSpokeOfItem.ones ?_)
    apply WpL.nil
    apply Out.seqN
    apply Wp.seq
    refine Wp.dG [] ?_ (List.Sublist.cons _ (List.Sublist.cons _ (List.Sublist.cons _ List.Sublist.slnil))) (List.Sublist.cons _ (List.Sublist.cons _ (List.Sublist.cons _ List.Sublist.slnil)))
    refine WpA.tF 0 rfl (V.mv) ?_
    refine WpA.tF 1 rfl (V.mv) ?_
    refine WpA.tF 2 rfl (V.mv) ?_
    refine WpA.tF 3 rfl (V.add) ?_
    refine WpA.tF 4 rfl (V.slFrom tb (i := i + 1) rfl rfl (by omega)) ?_
    refine WpA.tF 5 rfl (V.mv) ?_
    refine WpA.tF 6 rfl (V.mv) ?_
    refine WpA.tF 7 rfl (V.slFrom tb (i := i) rfl rfl (by omega)) ?_
    refine WpA.oS 8 rfl (Op1.cpR tb (o := i + 1) (s := (l.drop i).take (l.length - i)) rfl rfl (SrcL.part tb (i := i) (j := l.length) (l := l) rfl (by (repeat first | exact List.Mem.head _ | apply List.Mem.tail)) (by omega) (by omega) WheelSpokeOfItem.len WheelSpokeOfItem.ones) (by (repeat first | exact Upd.here _ _ _ | apply Upd.there)) (by simp; omega) (by omega) (by omega) WheelSpokeOfItem.len WheelSpokeOfItem.ones ⟨?_, ?_, ?_⟩)
    exact holdT
    exact holdT
    refine WpA.ou ?_
    apply Out.seqN
    apply Wp.seq
    apply Wp.region
    refine WpL.v (V.mv) ?_
    refine WpL.v (V.as) ?_
    apply WpL.nil
    apply Out.seqN
    apply Wp.ret
    apply Out.seqR
    refine Out.e1 rfl ResIs.t ?_
    focus ((rw [Iins_new hi _ rfl, he]; exact ⟨_, _, ⟨_, _, rfl, rfl⟩, (by (repeat (first | exact Sel.nil | exact Rem.here | apply Sel.cons | apply Rem.there)))⟩); done)
end Go.Proofs.Ythoepbbpmdmfeaa
