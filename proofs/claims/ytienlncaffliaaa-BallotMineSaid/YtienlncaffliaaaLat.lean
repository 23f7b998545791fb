/-
  Layer 13 (and the orders of layer 2): contracts of the program's and the document's steps, walked once each.
-/
import Derived.Test.YtienlncaffliaaaTypes
namespace Go.Proofs.Ytienlncaffliaaa
open Go.HL
set_option linter.unusedSimpArgs false
set_option linter.unusedVariables false
set_option maxRecDepth 8000
def refLess (a b : TBallot) : Bool := if a.Round ≠ b.Round then decide (a.Round < b.Round) else decide (a.Rep < b.Rep)
def cmpBal (a b : TBallot) : Int := if a = b then 0 else if a.Round < b.Round ∨ (a.Round = b.Round ∧ a.Rep < b.Rep) then -1 else 1
def less (a b : TBallot) : Bool := decide (cmpBal a b < 0)
theorem less_eq (a b : TBallot) : less a b = refLess a b := by
  unfold less cmpBal refLess
  cases a; cases b
  simp only [TBallot.mk.injEq]
  split
  · rename_i h; simp [h.1, h.2]
  · split
    · rename_i h1 h2; rcases h2 with h2 | h2
      · have : ¬ (_ : Int) = _ := Int.ne_of_lt h2
        simp [h2, this]
      · simp [h2.1, h2.2]
    · rename_i h1 h2
      simp only [not_or, not_and, Int.not_lt] at h2
      split
      · simp; omega
      · simp; omega
/-- An item and a word. -/
def pr (x : TInst × Bool) : Go.Value := .tuple #[A x.1.c, B x.2]
def promise (i : TInst) (b : TBallot) : TInst × Bool := if refLess b i.Promised then (i, false) else ({ i with Promised := b }, true)
def voteOf (i : TInst) (b : TBallot) (s : Int) (c : TCall) (same : Bool) : TInst × Bool :=
  if refLess b i.Promised = true ∨ i.Status = 3 then (i, false)
  else if i.Vote = b ∧ s ≤ i.Status then ({ i with Promised := b }, decide (i.Status = s))
  else ({ Promised := b, Vote := b, Status := s, Call := c, Same := same }, true)
def commitOf (i : TInst) (c : TCall) : TInst × Bool := if i.Status = 3 then (i, false) else ({ i with Status := 3, Call := c, Same := false }, true)
def follows (a b : TInst) : Bool :=
  if refLess b.Promised a.Promised = true ∨ refLess b.Vote a.Vote = true then false
  else if a.Status = 3 then decide (b.Status = 3 ∧ a.Call = b.Call ∧ a.Vote = b.Vote)
  else if a.Vote ≠ b.Vote ∨ b.Status = 3 then true
  else if a.Status = b.Status then decide (a.Call = b.Call ∧ a.Same = b.Same)
  else decide (a.Status < b.Status)
abbrev Step := Caucuslaw13Step
def does (i : TInst) (s : Step) : TInst × Bool :=
  if s.Kind = 0 then promise i s.Ballot else if s.Kind = 1 then voteOf i s.Ballot 1 s.Call s.Same else if s.Kind = 2 then voteOf i s.Ballot 2 s.Call false else commitOf i s.Call
theorem refLess_any (a b : TBallot) : Fun Try.prog 26 [A a.c, A b.c] (B (refLess a b)) := by
  refine Ct.enter Try.func26 rfl rfl fun W => ?_
  apply Wp.seq
  apply Wp.region
  refine WpL.o (O.bxA (fun p2 => ?_))
  refine WpL.o (O.bxA (fun p3 => ?_))
  refine WpL.v (V.as) ?_
  apply WpL.nil
  apply Out.seqN
  apply Wp.seq
  apply Wp.seq
  apply Wp.region
  refine WpL.v (V.fa tb) ?_
  refine WpL.v (V.ld1 tb) ?_
  refine WpL.v (V.fa tb) ?_
  refine WpL.v (V.ld1 tb) ?_
  refine WpL.v (V.cmp) ?_
  apply WpL.nil
  apply Out.seqN
  refine Wp.c (fun h0 => ?_) (fun h0 => ?_)
  (try simp only [decide_eq_true_eq, decide_eq_false_iff_not, Bool.not_eq_true', Bool.not_eq_false', Bool.not_eq_true, Bool.not_eq_false, not_true_eq_false, not_false_eq_true, reduceCtorEq] at h0)
  apply Wp.seq
  apply Wp.region
  refine WpL.v (V.fa tb) ?_
  refine WpL.v (V.ld1 tb) ?_
  refine WpL.v (V.fa tb) ?_
  refine WpL.v (V.ld1 tb) ?_
  refine WpL.v (V.cmp) ?_
  refine WpL.v (V.as) ?_
  apply WpL.nil
  apply Out.seqN
  apply Wp.ret
  apply Out.seqR
  refine Out.f1 rfl ResIs.t ⟨?_, rfl⟩
  focus (simp [refLess, *]; done)
  (try simp only [decide_eq_true_eq, decide_eq_false_iff_not, Bool.not_eq_true', Bool.not_eq_false', Bool.not_eq_true, Bool.not_eq_false, not_true_eq_false, not_false_eq_true, reduceCtorEq] at h0)
  apply Wp.skip
  apply Out.seqN
  apply Wp.seq
  apply Wp.region
  refine WpL.v (V.fa tb) ?_
  refine WpL.v (V.ld1 tb) ?_
  refine WpL.v (V.fa tb) ?_
  refine WpL.v (V.ld1 tb) ?_
  refine WpL.v (V.cmp) ?_
  refine WpL.v (V.as) ?_
  apply WpL.nil
  apply Out.seqN
  apply Wp.ret
  refine Out.f1 rfl ResIs.t ⟨?_, rfl⟩
  focus (simp [refLess, *]; done)
theorem compare_any (a b : TBallot) : Fun Try.prog 32 [A a.c, A b.c] (I (cmpBal a b)) := by
  refine Ct.enter Try.func32 rfl rfl fun W => ?_
  apply Wp.seq
  apply Wp.region
  refine WpL.o (O.bxA (fun p2 => ?_))
  refine WpL.o (O.bxA (fun p3 => ?_))
  refine WpL.v (V.as) ?_
  apply WpL.nil
  apply Out.seqN
  apply Wp.seq
  apply Wp.block
  apply Wp.seq
  apply Wp.region
  refine WpL.v (V.ldA tb) ?_
  refine WpL.v (V.ldA tb) ?_
  refine WpL.v (V.eq (TBallot.eqT _ _ _)) ?_
  refine WpL.v (V.as) ?_
  apply WpL.nil
  apply Out.seqN
  refine Wp.c (fun h0 => ?_) (fun h0 => ?_)
  (try simp only [decide_eq_true_eq, decide_eq_false_iff_not, Bool.not_eq_true', Bool.not_eq_false', Bool.not_eq_true, Bool.not_eq_false, not_true_eq_false, not_false_eq_true, reduceCtorEq] at h0)
  apply Wp.seq
  apply Wp.region
  refine WpL.v (V.as) ?_
  apply WpL.nil
  apply Out.seqN
  apply Wp.ret
  apply Out.blockR
  apply Out.seqR
  refine Out.f1 rfl ResIs.t ⟨?_, rfl⟩
  focus (simp_all [cmpBal]; done)
  (try simp only [decide_eq_true_eq, decide_eq_false_iff_not, Bool.not_eq_true', Bool.not_eq_false', Bool.not_eq_true, Bool.not_eq_false, not_true_eq_false, not_false_eq_true, reduceCtorEq] at h0)
  apply Wp.seq
  apply Wp.region
  refine WpL.v (V.fa tb) ?_
  refine WpL.v (V.ld1 tb) ?_
  refine WpL.v (V.fa tb) ?_
  refine WpL.v (V.ld1 tb) ?_
  refine WpL.v (V.cmp) ?_
  refine WpL.v (V.mv) ?_
  refine WpL.pt (fun h1 => ?_) (fun h1 => ?_)
  (try simp only [decide_eq_true_eq, decide_eq_false_iff_not, Bool.not_eq_true', Bool.not_eq_false', Bool.not_eq_true, Bool.not_eq_false, not_true_eq_false, not_false_eq_true, reduceCtorEq] at h1)
  refine WpL.sk ?_
  refine WpL.sk ?_
  refine WpL.sk ?_
  refine WpL.sk ?_
  refine WpL.sk ?_
  refine WpL.sk ?_
  refine WpL.sk ?_
  refine WpL.sk ?_
  refine WpL.sk ?_
  refine WpL.sk ?_
  refine WpL.sk ?_
  refine WpL.sk ?_
  refine WpL.v (V.pT) ?_
  refine WpL.v (V.as) ?_
  apply WpL.nil
  apply Out.seqN
  refine Wp.cT ?_
  apply Wp.seq
  apply Wp.region
  refine WpL.v (V.as) ?_
  apply WpL.nil
  apply Out.seqN
  apply Wp.ret
  apply Out.blockR
  apply Out.seqR
  refine Out.f1 rfl ResIs.t ⟨?_, rfl⟩
  focus (simp_all [cmpBal]; done)
  (try simp only [decide_eq_true_eq, decide_eq_false_iff_not, Bool.not_eq_true', Bool.not_eq_false', Bool.not_eq_true, Bool.not_eq_false, not_true_eq_false, not_false_eq_true, reduceCtorEq] at h1)
  refine WpL.v (V.fa tb) ?_
  refine WpL.v (V.ld1 tb) ?_
  refine WpL.v (V.fa tb) ?_
  refine WpL.v (V.ld1 tb) ?_
  refine WpL.v (V.cmp) ?_
  refine WpL.v (V.mv) ?_
  refine WpL.pt (fun h2 => ?_) (fun h2 => ?_)
  (try simp only [decide_eq_true_eq, decide_eq_false_iff_not, Bool.not_eq_true', Bool.not_eq_false', Bool.not_eq_true, Bool.not_eq_false, not_true_eq_false, not_false_eq_true, reduceCtorEq] at h2)
  refine WpL.v (V.fa tb) ?_
  refine WpL.v (V.ld1 tb) ?_
  refine WpL.v (V.fa tb) ?_
  refine WpL.v (V.ld1 tb) ?_
  refine WpL.v (V.cmp) ?_
  refine WpL.v (V.pT) ?_
  refine WpL.v (V.pF) ?_
  refine WpL.v (V.as) ?_
  apply WpL.nil
  apply Out.seqN
  refine Wp.c (fun h3 => ?_) (fun h3 => ?_)
  (try simp only [decide_eq_true_eq, decide_eq_false_iff_not, Bool.not_eq_true', Bool.not_eq_false', Bool.not_eq_true, Bool.not_eq_false, not_true_eq_false, not_false_eq_true, reduceCtorEq] at h3)
  apply Wp.seq
  apply Wp.region
  refine WpL.v (V.as) ?_
  apply WpL.nil
  apply Out.seqN
  apply Wp.ret
  apply Out.blockR
  apply Out.seqR
  refine Out.f1 rfl ResIs.t ⟨?_, rfl⟩
  focus (simp_all [cmpBal]; done)
  (try simp only [decide_eq_true_eq, decide_eq_false_iff_not, Bool.not_eq_true', Bool.not_eq_false', Bool.not_eq_true, Bool.not_eq_false, not_true_eq_false, not_false_eq_true, reduceCtorEq] at h3)
  apply Wp.skip
  apply Out.blockN
  apply Out.seqN
  apply Wp.seq
  apply Wp.region
  refine WpL.v (V.as) ?_
  apply WpL.nil
  apply Out.seqN
  apply Wp.ret
  refine Out.f1 rfl ResIs.t ⟨?_, rfl⟩
  focus (simp_all [cmpBal]; done)
  (try simp only [decide_eq_true_eq, decide_eq_false_iff_not, Bool.not_eq_true', Bool.not_eq_false', Bool.not_eq_true, Bool.not_eq_false, not_true_eq_false, not_false_eq_true, reduceCtorEq] at h2)
  refine WpL.sk ?_
  refine WpL.sk ?_
  refine WpL.sk ?_
  refine WpL.sk ?_
  refine WpL.sk ?_
  refine WpL.v (V.pF) ?_
  refine WpL.v (V.pF) ?_
  refine WpL.v (V.as) ?_
  apply WpL.nil
  apply Out.seqN
  refine Wp.cF ?_
  apply Wp.skip
  apply Out.blockN
  apply Out.seqN
  apply Wp.seq
  apply Wp.region
  refine WpL.v (V.as) ?_
  apply WpL.nil
  apply Out.seqN
  apply Wp.ret
  refine Out.f1 rfl ResIs.t ⟨?_, rfl⟩
  focus (simp_all [cmpBal]; done)
theorem less_any0 (a b : TBallot) : Fun Try.prog 33 [A a.c, A b.c] (B (less a b)) := by
  refine Ct.enter Try.func33 rfl rfl fun W => ?_
  apply Wp.seq
  apply Wp.region
  refine WpL.o (O.bxA (fun p2 => ?_))
  refine WpL.o (O.bxA (fun p3 => ?_))
  refine WpL.v (V.as) ?_
  apply WpL.nil
  apply Out.seqN
  apply Wp.seq
  apply Wp.region
  refine WpL.v (V.ldA tb) ?_
  refine WpL.v (V.ldA tb) ?_
  refine WpL.o (Op1.fn rfl (compare_any _ _) ?_)
  refine WpL.v (V.cmp) ?_
  refine WpL.v (V.as) ?_
  apply WpL.nil
  apply Out.seqN
  apply Wp.ret
  refine Out.f1 rfl ResIs.t ⟨?_, rfl⟩
  exact rfl
theorem less_any (a b : TBallot) : Fun Try.prog 33 [A a.c, A b.c] (B (refLess a b)) := less_eq a b ▸ less_any0 a b
theorem promise_any (i : TInst) (b : TBallot) : Fun Try.prog 25 [A i.c, A b.c] (pr (promise i b)) := by
  refine Ct.enter Try.func25 rfl rfl fun W => ?_
  apply Wp.seq
  apply Wp.region
  refine WpL.o (O.bxA (fun p2 => ?_))
  refine WpL.o (O.bxA (fun p3 => ?_))
  refine WpL.o (O.al tb (fun p4 => ?_))
  refine WpL.v (V.as) ?_
  apply WpL.nil
  apply Out.seqN
  apply Wp.seq
  apply Wp.seq
  apply Wp.region
  refine WpL.v (V.ldA tb) ?_
  refine WpL.v (V.fa tb) ?_
  refine WpL.v (V.ldA tb) ?_
  refine WpL.o (Op1.fn rfl (less_any _ _) ?_)
  apply WpL.nil
  apply Out.seqN
  refine Wp.c (fun h0 => ?_) (fun h0 => ?_)
  (try simp only [decide_eq_true_eq, decide_eq_false_iff_not, Bool.not_eq_true', Bool.not_eq_false', Bool.not_eq_true, Bool.not_eq_false, not_true_eq_false, not_false_eq_true, reduceCtorEq] at h0)
  apply Wp.seq
  apply Wp.region
  refine WpL.v (V.ldA tb) ?_
  refine WpL.o (O.stA tb ?_)
  refine WpL.v (V.as) ?_
  apply WpL.nil
  apply Out.seqN
  apply Wp.ret
  apply Out.seqR
  refine Out.f2 rfl (ResIs.ca tb) ResIs.t ⟨?_, rfl⟩
  focus (simp [pr, promise, *]; done)
  (try simp only [decide_eq_true_eq, decide_eq_false_iff_not, Bool.not_eq_true', Bool.not_eq_false', Bool.not_eq_true, Bool.not_eq_false, not_true_eq_false, not_false_eq_true, reduceCtorEq] at h0)
  apply Wp.skip
  apply Out.seqN
  apply Wp.seq
  apply Wp.region
  refine WpL.v (V.ldA tb) ?_
  refine WpL.v (V.fa tb) ?_
  refine WpL.o (O.stA tb ?_)
  apply WpL.nil
  apply Out.seqN
  apply Wp.seq
  apply Wp.region
  refine WpL.v (V.ldA tb) ?_
  refine WpL.o (O.stA tb ?_)
  refine WpL.v (V.as) ?_
  apply WpL.nil
  apply Out.seqN
  apply Wp.ret
  refine Out.f2 rfl (ResIs.ca tb) ResIs.t ⟨?_, rfl⟩
  focus (simp [pr, promise, *]; done)
theorem rpromise_any (i : TInst) (b : TBallot) : Fun Try.prog 62 [A i.c, A b.c] (pr (promise i b)) := by
  refine Ct.enter Try.func62 rfl rfl fun W => ?_
  apply Wp.seq
  apply Wp.region
  refine WpL.o (O.bxA (fun p2 => ?_))
  refine WpL.o (O.bxA (fun p3 => ?_))
  refine WpL.o (O.al tb (fun p4 => ?_))
  refine WpL.v (V.as) ?_
  apply WpL.nil
  apply Out.seqN
  apply Wp.seq
  apply Wp.seq
  apply Wp.region
  refine WpL.v (V.ldA tb) ?_
  refine WpL.v (V.fa tb) ?_
  refine WpL.v (V.ldA tb) ?_
  refine WpL.o (Op1.fn rfl (refLess_any _ _) ?_)
  apply WpL.nil
  apply Out.seqN
  refine Wp.c (fun h0 => ?_) (fun h0 => ?_)
  (try simp only [decide_eq_true_eq, decide_eq_false_iff_not, Bool.not_eq_true', Bool.not_eq_false', Bool.not_eq_true, Bool.not_eq_false, not_true_eq_false, not_false_eq_true, reduceCtorEq] at h0)
  apply Wp.seq
  apply Wp.region
  refine WpL.v (V.ldA tb) ?_
  refine WpL.o (O.stA tb ?_)
  refine WpL.v (V.as) ?_
  apply WpL.nil
  apply Out.seqN
  apply Wp.ret
  apply Out.seqR
  refine Out.f2 rfl (ResIs.ca tb) ResIs.t ⟨?_, rfl⟩
  focus (simp [pr, promise, *]; done)
  (try simp only [decide_eq_true_eq, decide_eq_false_iff_not, Bool.not_eq_true', Bool.not_eq_false', Bool.not_eq_true, Bool.not_eq_false, not_true_eq_false, not_false_eq_true, reduceCtorEq] at h0)
  apply Wp.skip
  apply Out.seqN
  apply Wp.seq
  apply Wp.region
  refine WpL.v (V.ldA tb) ?_
  refine WpL.v (V.fa tb) ?_
  refine WpL.v (V.ldA tb) ?_
  refine WpL.v (V.fa tb) ?_
  refine WpL.v (V.ld1 tb) ?_
  refine WpL.v (V.fa tb) ?_
  refine WpL.v (V.ldA tb) ?_
  refine WpL.v (V.fa tb) ?_
  refine WpL.v (V.ld1 tb) ?_
  refine WpL.v (V.bld tb) ?_
  refine WpL.o (O.stA tb ?_)
  refine WpL.v (V.as) ?_
  apply WpL.nil
  apply Out.seqN
  apply Wp.ret
  refine Out.f2 rfl (ResIs.ca tb) ResIs.t ⟨?_, rfl⟩
  focus (simp [pr, promise, *]; done)
theorem voted_any (i : TInst) (b : TBallot) (s : Int) : Fun Try.prog 70 [A i.c, A b.c, I s] (B (decide (i.Vote = b ∧ s ≤ i.Status))) := by
  refine Ct.enter Try.func70 rfl rfl fun W => ?_
  apply Wp.seq
  apply Wp.region
  refine WpL.o (O.bxA (fun p3 => ?_))
  refine WpL.o (O.bxA (fun p4 => ?_))
  refine WpL.v (V.as) ?_
  apply WpL.nil
  apply Out.seqN
  apply Wp.seq
  apply Wp.region
  refine WpL.v (V.fa tb) ?_
  refine WpL.v (V.ldA tb) ?_
  refine WpL.v (V.ldA tb) ?_
  refine WpL.v (V.eq (TBallot.eqT _ _ _)) ?_
  refine WpL.v (V.mv) ?_
  refine WpL.pt (fun h0 => ?_) (fun h0 => ?_)
  (try simp only [decide_eq_true_eq, decide_eq_false_iff_not, Bool.not_eq_true', Bool.not_eq_false', Bool.not_eq_true, Bool.not_eq_false, not_true_eq_false, not_false_eq_true, reduceCtorEq] at h0)
  refine WpL.v (V.fa tb) ?_
  refine WpL.v (V.ld1 tb) ?_
  refine WpL.v (V.mv) ?_
  refine WpL.v (V.cmp) ?_
  refine WpL.v (V.pT) ?_
  refine WpL.v (V.as) ?_
  apply WpL.nil
  apply Out.seqN
  apply Wp.ret
  refine Out.f1 rfl ResIs.t ⟨?_, rfl⟩
  focus (simp [*]; done)
  (try simp only [decide_eq_true_eq, decide_eq_false_iff_not, Bool.not_eq_true', Bool.not_eq_false', Bool.not_eq_true, Bool.not_eq_false, not_true_eq_false, not_false_eq_true, reduceCtorEq] at h0)
  refine WpL.sk ?_
  refine WpL.sk ?_
  refine WpL.sk ?_
  refine WpL.sk ?_
  refine WpL.v (V.pF) ?_
  refine WpL.v (V.as) ?_
  apply WpL.nil
  apply Out.seqN
  apply Wp.ret
  refine Out.f1 rfl ResIs.t ⟨?_, rfl⟩
  focus (simp [*]; done)
theorem vote_any (i : TInst) (b : TBallot) (s : Int) (c : TCall) (same : Bool) : Fun Try.prog 68 [A i.c, A b.c, I s, A c.c, B same] (pr (voteOf i b s c same)) := by
  refine Ct.enter Try.func68 rfl rfl fun W => ?_
  apply Wp.seq
  apply Wp.region
  refine WpL.o (O.bxA (fun p5 => ?_))
  refine WpL.o (O.bxA (fun p6 => ?_))
  refine WpL.o (O.bxA (fun p8 => ?_))
  refine WpL.o (O.al tb (fun p10 => ?_))
  refine WpL.v (V.as) ?_
  apply WpL.nil
  apply Out.seqN
  apply Wp.seq
  apply Wp.region
  refine WpL.v (V.ldA tb) ?_
  refine WpL.v (V.ldA tb) ?_
  refine WpL.o (Op1.fn rfl (promise_any _ _) ?_)
  refine WpL.v (V.mv) ?_
  refine WpL.v (V.ex) ?_
  refine WpL.v (V.ex) ?_
  refine WpL.o (O.al tb (fun p12 => ?_))
  refine WpL.o (O.stA tb ?_)
  refine WpL.v (V.as) ?_
  apply WpL.nil
  apply Out.seqN
  apply Wp.seq
  apply Wp.block
  apply Wp.seq
  apply Wp.region
  refine WpL.v (V.mv) ?_
  refine WpL.v (V.not) ?_
  refine WpL.v (V.mv) ?_
  refine WpL.pt (fun h0 => ?_) (fun h0 => ?_)
  (try simp only [decide_eq_true_eq, decide_eq_false_iff_not, Bool.not_eq_true', Bool.not_eq_false', Bool.not_eq_true, Bool.not_eq_false, not_true_eq_false, not_false_eq_true, reduceCtorEq] at h0)
  refine WpL.sk ?_
  refine WpL.sk ?_
  refine WpL.sk ?_
  refine WpL.v (V.pT) ?_
  refine WpL.v (V.as) ?_
  apply WpL.nil
  apply Out.seqN
  refine Wp.cT ?_
  apply Wp.seq
  apply Wp.region
  refine WpL.v (V.ldA tb) ?_
  refine WpL.o (O.stA tb ?_)
  refine WpL.v (V.as) ?_
  apply WpL.nil
  apply Out.seqN
  apply Wp.ret
  apply Out.blockR
  apply Out.seqR
  refine Out.f2 rfl (ResIs.ca tb) ResIs.t ⟨?_, rfl⟩
  rotate_left
  (try simp only [decide_eq_true_eq, decide_eq_false_iff_not, Bool.not_eq_true', Bool.not_eq_false', Bool.not_eq_true, Bool.not_eq_false, not_true_eq_false, not_false_eq_true, reduceCtorEq] at h0)
  refine WpL.v (V.fa tb) ?_
  refine WpL.v (V.ld1 tb) ?_
  refine WpL.v (V.cmp) ?_
  refine WpL.v (V.pF) ?_
  refine WpL.v (V.as) ?_
  apply WpL.nil
  apply Out.seqN
  refine Wp.c (fun h1 => ?_) (fun h1 => ?_)
  (try simp only [decide_eq_true_eq, decide_eq_false_iff_not, Bool.not_eq_true', Bool.not_eq_false', Bool.not_eq_true, Bool.not_eq_false, not_true_eq_false, not_false_eq_true, reduceCtorEq] at h1)
  apply Wp.seq
  apply Wp.region
  refine WpL.v (V.ldA tb) ?_
  refine WpL.o (O.stA tb ?_)
  refine WpL.v (V.as) ?_
  apply WpL.nil
  apply Out.seqN
  apply Wp.ret
  apply Out.blockR
  apply Out.seqR
  refine Out.f2 rfl (ResIs.ca tb) ResIs.t ⟨?_, rfl⟩
  rotate_left
  (try simp only [decide_eq_true_eq, decide_eq_false_iff_not, Bool.not_eq_true', Bool.not_eq_false', Bool.not_eq_true, Bool.not_eq_false, not_true_eq_false, not_false_eq_true, reduceCtorEq] at h1)
  apply Wp.seq
  apply Wp.region
  refine WpL.v (V.ldA tb) ?_
  refine WpL.v (V.ldA tb) ?_
  refine WpL.v (V.mv) ?_
  refine WpL.o (Op1.fn rfl (voted_any _ _ _) ?_)
  refine WpL.v (V.as) ?_
  apply WpL.nil
  apply Out.seqN
  refine Wp.c (fun h2 => ?_) (fun h2 => ?_)
  (try simp only [decide_eq_true_eq, decide_eq_false_iff_not, Bool.not_eq_true', Bool.not_eq_false', Bool.not_eq_true, Bool.not_eq_false, not_true_eq_false, not_false_eq_true, reduceCtorEq] at h2)
  apply Wp.seq
  refine Wp.dG [] ?_ (List.Sublist.cons_cons _ (List.Sublist.cons _ (List.Sublist.cons _ (List.Sublist.cons _ (List.Sublist.cons_cons _ List.Sublist.slnil)))))
  refine WpA.t 0 rfl (V.ldA tb) ?_
  refine WpA.t 1 rfl (V.fa tb) ?_
  refine WpA.t 2 rfl (V.ld1 tb) ?_
  refine WpA.t 3 rfl (V.mv) ?_
  refine WpA.t 4 rfl (V.cmp) ?_
  refine WpA.oS 5 rfl (O.stA tb ⟨?_, ?_⟩)
  exact holdT
  refine WpA.t 6 rfl (V.as) ?_
  refine WpA.ou ?_
  apply Out.seqN
  apply Wp.ret
  apply Out.blockR
  apply Out.seqR
  refine Out.f2 rfl (ResIs.ca tb) ResIs.t ⟨?_, rfl⟩
  rotate_left
  (try simp only [decide_eq_true_eq, decide_eq_false_iff_not, Bool.not_eq_true', Bool.not_eq_false', Bool.not_eq_true, Bool.not_eq_false, not_true_eq_false, not_false_eq_true, reduceCtorEq] at h2)
  apply Wp.skip
  apply Out.blockN
  apply Out.seqN
  apply Wp.seq
  refine Wp.dG [] ?_ (List.Sublist.cons _ (List.Sublist.cons _ (List.Sublist.cons_cons _ (List.Sublist.cons_cons _ (List.Sublist.cons _ List.Sublist.slnil)))))
  refine WpA.t 0 rfl (V.ldA tb) ?_
  refine WpA.t 1 rfl (V.mv) ?_
  refine WpA.t 2 rfl (V.ldA tb) ?_
  refine WpA.t 3 rfl (V.mv) ?_
  refine WpA.t 4 rfl (V.fa tb) ?_
  refine WpA.oS 5 rfl (O.stA tb ⟨?_, ?_⟩)
  exact holdT
  refine WpA.t 6 rfl (V.fa tb) ?_
  refine WpA.oS 7 rfl (O.st1 tb ⟨?_, ?_⟩)
  exact holdT
  refine WpA.t 8 rfl (V.fa tb) ?_
  refine WpA.oS 9 rfl (O.stA tb ⟨?_, ?_⟩)
  exact holdT
  refine WpA.t 10 rfl (V.fa tb) ?_
  refine WpA.oS 11 rfl (O.st1 tb ⟨?_, ?_⟩)
  exact holdT
  refine WpA.ou ?_
  apply Out.seqN
  apply Wp.seq
  apply Wp.region
  refine WpL.v (V.ldA tb) ?_
  refine WpL.o (O.stA tb ?_)
  refine WpL.v (V.as) ?_
  apply WpL.nil
  apply Out.seqN
  apply Wp.ret
  refine Out.f2 rfl (ResIs.ca tb) ResIs.t ⟨?_, rfl⟩
  rotate_left
  all_goals
    by_cases hl : refLess b i.Promised = true
    · have hv : voteOf i b s c same = (i, false) := if_pos (.inl hl)
      simp_all [promise, pr]
    · by_cases h3 : i.Status = 3
      · have hv : voteOf i b s c same = (i, false) := if_pos (.inr h3)
        simp_all [promise, pr]
      · by_cases h4 : i.Vote = b ∧ s ≤ i.Status
        · have hv : voteOf i b s c same = ({ i with Promised := b }, decide (i.Status = s)) := by unfold voteOf; rw [if_neg (by simp_all), if_pos h4]
          rw [hv]; simp_all [promise, pr]
        · have hv : voteOf i b s c same = ({ Promised := b, Vote := b, Status := s, Call := c, Same := same }, true) := by unfold voteOf; rw [if_neg (by simp_all), if_neg h4]
          rw [hv]
          have hp : promise i b = ({ i with Promised := b }, true) := if_neg hl
          first
            | (rw [hp]; rfl)
            | rfl
            | (exfalso; exact h3 (by assumption))
            | (exfalso; exact h4 (by assumption))
            | (exfalso; rw [hp] at h0; cases h0; done)
            | (exfalso; simp_all; done)
theorem preAccept_any (i : TInst) (b : TBallot) (c : TCall) (same : Bool) : Fun Try.prog 63 [A i.c, A b.c, A c.c, B same] (pr (voteOf i b 1 c same)) := by
  refine Ct.enter Try.func63 rfl rfl fun W => ?_
  apply Wp.seq
  apply Wp.region
  refine WpL.o (O.bxA (fun p4 => ?_))
  refine WpL.o (O.bxA (fun p5 => ?_))
  refine WpL.o (O.bxA (fun p6 => ?_))
  refine WpL.o (O.al tb (fun p8 => ?_))
  refine WpL.v (V.as) ?_
  apply WpL.nil
  apply Out.seqN
  apply Wp.seq
  apply Wp.region
  refine WpL.v (V.ldA tb) ?_
  refine WpL.v (V.ldA tb) ?_
  refine WpL.v (V.ldA tb) ?_
  refine WpL.v (V.mv) ?_
  refine WpL.o (Op1.fn rfl (vote_any _ _ _ _ _) ?_)
  refine WpL.v (V.ex) ?_
  refine WpL.v (V.ex) ?_
  refine WpL.o (O.stA tb ?_)
  refine WpL.v (V.as) ?_
  apply WpL.nil
  apply Out.seqN
  apply Wp.ret
  refine Out.f2 rfl (ResIs.ca tb) ResIs.t ⟨?_, rfl⟩
  exact rfl
theorem accept_any (i : TInst) (b : TBallot) (c : TCall) : Fun Try.prog 58 [A i.c, A b.c, A c.c] (pr (voteOf i b 2 c false)) := by
  refine Ct.enter Try.func58 rfl rfl fun W => ?_
  apply Wp.seq
  apply Wp.region
  refine WpL.o (O.bxA (fun p3 => ?_))
  refine WpL.o (O.bxA (fun p4 => ?_))
  refine WpL.o (O.bxA (fun p5 => ?_))
  refine WpL.o (O.al tb (fun p6 => ?_))
  refine WpL.v (V.as) ?_
  apply WpL.nil
  apply Out.seqN
  apply Wp.seq
  apply Wp.region
  refine WpL.v (V.ldA tb) ?_
  refine WpL.v (V.ldA tb) ?_
  refine WpL.v (V.ldA tb) ?_
  refine WpL.o (Op1.fn rfl (vote_any _ _ _ _ _) ?_)
  refine WpL.v (V.ex) ?_
  refine WpL.v (V.ex) ?_
  refine WpL.o (O.stA tb ?_)
  refine WpL.v (V.as) ?_
  apply WpL.nil
  apply Out.seqN
  apply Wp.ret
  refine Out.f2 rfl (ResIs.ca tb) ResIs.t ⟨?_, rfl⟩
  exact rfl
theorem rvote_any (i : TInst) (b : TBallot) (s : Int) (c : TCall) (same : Bool) : Fun Try.prog 64 [A i.c, A b.c, I s, A c.c, B same] (pr (voteOf i b s c same)) := by
  refine Ct.enter Try.func64 rfl rfl fun W => ?_
  apply Wp.seq
  apply Wp.region
  refine WpL.o (O.bxA (fun p5 => ?_))
  refine WpL.o (O.bxA (fun p6 => ?_))
  refine WpL.o (O.bxA (fun p8 => ?_))
  refine WpL.o (O.al tb (fun p10 => ?_))
  refine WpL.v (V.as) ?_
  apply WpL.nil
  apply Out.seqN
  apply Wp.seq
  apply Wp.seq
  apply Wp.region
  refine WpL.v (V.ldA tb) ?_
  refine WpL.v (V.fa tb) ?_
  refine WpL.v (V.ldA tb) ?_
  refine WpL.o (Op1.fn rfl (refLess_any _ _) ?_)
  refine WpL.v (V.mv) ?_
  refine WpL.pt (fun h0 => ?_) (fun h0 => ?_)
  (try simp only [decide_eq_true_eq, decide_eq_false_iff_not, Bool.not_eq_true', Bool.not_eq_false', Bool.not_eq_true, Bool.not_eq_false, not_true_eq_false, not_false_eq_true, reduceCtorEq] at h0)
  refine WpL.sk ?_
  refine WpL.sk ?_
  refine WpL.sk ?_
  refine WpL.v (V.pT) ?_
  apply WpL.nil
  apply Out.seqN
  refine Wp.cT ?_
  apply Wp.seq
  apply Wp.region
  refine WpL.v (V.ldA tb) ?_
  refine WpL.o (O.stA tb ?_)
  refine WpL.v (V.as) ?_
  apply WpL.nil
  apply Out.seqN
  apply Wp.ret
  apply Out.seqR
  refine Out.f2 rfl (ResIs.ca tb) ResIs.t ⟨?_, rfl⟩
  rotate_left
  (try simp only [decide_eq_true_eq, decide_eq_false_iff_not, Bool.not_eq_true', Bool.not_eq_false', Bool.not_eq_true, Bool.not_eq_false, not_true_eq_false, not_false_eq_true, reduceCtorEq] at h0)
  refine WpL.v (V.fa tb) ?_
  refine WpL.v (V.ld1 tb) ?_
  refine WpL.v (V.cmp) ?_
  refine WpL.v (V.pF) ?_
  apply WpL.nil
  apply Out.seqN
  refine Wp.c (fun h1 => ?_) (fun h1 => ?_)
  (try simp only [decide_eq_true_eq, decide_eq_false_iff_not, Bool.not_eq_true', Bool.not_eq_false', Bool.not_eq_true, Bool.not_eq_false, not_true_eq_false, not_false_eq_true, reduceCtorEq] at h1)
  apply Wp.seq
  apply Wp.region
  refine WpL.v (V.ldA tb) ?_
  refine WpL.o (O.stA tb ?_)
  refine WpL.v (V.as) ?_
  apply WpL.nil
  apply Out.seqN
  apply Wp.ret
  apply Out.seqR
  refine Out.f2 rfl (ResIs.ca tb) ResIs.t ⟨?_, rfl⟩
  rotate_left
  (try simp only [decide_eq_true_eq, decide_eq_false_iff_not, Bool.not_eq_true', Bool.not_eq_false', Bool.not_eq_true, Bool.not_eq_false, not_true_eq_false, not_false_eq_true, reduceCtorEq] at h1)
  apply Wp.skip
  apply Out.seqN
  apply Wp.seq
  apply Wp.seq
  apply Wp.region
  refine WpL.v (V.fa tb) ?_
  refine WpL.v (V.ldA tb) ?_
  refine WpL.v (V.ldA tb) ?_
  refine WpL.v (V.eq (TBallot.eqT _ _ _)) ?_
  refine WpL.v (V.mv) ?_
  refine WpL.pt (fun h2 => ?_) (fun h2 => ?_)
  (try simp only [decide_eq_true_eq, decide_eq_false_iff_not, Bool.not_eq_true', Bool.not_eq_false', Bool.not_eq_true, Bool.not_eq_false, not_true_eq_false, not_false_eq_true, reduceCtorEq] at h2)
  refine WpL.v (V.fa tb) ?_
  refine WpL.v (V.ld1 tb) ?_
  refine WpL.v (V.mv) ?_
  refine WpL.v (V.cmp) ?_
  refine WpL.v (V.pT) ?_
  apply WpL.nil
  apply Out.seqN
  refine Wp.c (fun h3 => ?_) (fun h3 => ?_)
  (try simp only [decide_eq_true_eq, decide_eq_false_iff_not, Bool.not_eq_true', Bool.not_eq_false', Bool.not_eq_true, Bool.not_eq_false, not_true_eq_false, not_false_eq_true, reduceCtorEq] at h3)
  apply Wp.seq
  apply Wp.region
  refine WpL.v (V.ldA tb) ?_
  refine WpL.v (V.ldA tb) ?_
  refine WpL.o (Op1.fn rfl (rpromise_any _ _) ?_)
  refine WpL.v (V.mv) ?_
  refine WpL.v (V.ex) ?_
  refine WpL.v (V.ex) ?_
  refine WpL.o (O.al tb (fun p12 => ?_))
  refine WpL.o (O.stA tb ?_)
  refine WpL.v (V.as) ?_
  apply WpL.nil
  apply Out.seqN
  apply Wp.seq
  refine Wp.dG [] ?_ (List.Sublist.cons_cons _ (List.Sublist.cons _ (List.Sublist.cons _ (List.Sublist.cons _ (List.Sublist.cons_cons _ List.Sublist.slnil)))))
  refine WpA.t 0 rfl (V.ldA tb) ?_
  refine WpA.t 1 rfl (V.fa tb) ?_
  refine WpA.t 2 rfl (V.ld1 tb) ?_
  refine WpA.t 3 rfl (V.mv) ?_
  refine WpA.t 4 rfl (V.cmp) ?_
  refine WpA.oS 5 rfl (O.stA tb ⟨?_, ?_⟩)
  exact holdT
  refine WpA.t 6 rfl (V.as) ?_
  refine WpA.ou ?_
  apply Out.seqN
  apply Wp.ret
  apply Out.seqR
  refine Out.f2 rfl (ResIs.ca tb) ResIs.t ⟨?_, rfl⟩
  rotate_left
  (try simp only [decide_eq_true_eq, decide_eq_false_iff_not, Bool.not_eq_true', Bool.not_eq_false', Bool.not_eq_true, Bool.not_eq_false, not_true_eq_false, not_false_eq_true, reduceCtorEq] at h3)
  apply Wp.skip
  apply Out.seqN
  apply Wp.seq
  apply Wp.region
  refine WpL.v (V.ldA tb) ?_
  refine WpL.v (V.ldA tb) ?_
  refine WpL.v (V.mv) ?_
  refine WpL.v (V.ldA tb) ?_
  refine WpL.v (V.mv) ?_
  refine WpL.v (V.bld tb) ?_
  refine WpL.o (O.stA tb ?_)
  refine WpL.v (V.as) ?_
  apply WpL.nil
  apply Out.seqN
  apply Wp.ret
  refine Out.f2 rfl (ResIs.ca tb) ResIs.t ⟨?_, rfl⟩
  rotate_left
  (try simp only [decide_eq_true_eq, decide_eq_false_iff_not, Bool.not_eq_true', Bool.not_eq_false', Bool.not_eq_true, Bool.not_eq_false, not_true_eq_false, not_false_eq_true, reduceCtorEq] at h2)
  refine WpL.sk ?_
  refine WpL.sk ?_
  refine WpL.sk ?_
  refine WpL.sk ?_
  refine WpL.v (V.pF) ?_
  apply WpL.nil
  apply Out.seqN
  refine Wp.cF ?_
  apply Wp.skip
  apply Out.seqN
  apply Wp.seq
  apply Wp.region
  refine WpL.v (V.ldA tb) ?_
  refine WpL.v (V.ldA tb) ?_
  refine WpL.v (V.mv) ?_
  refine WpL.v (V.ldA tb) ?_
  refine WpL.v (V.mv) ?_
  refine WpL.v (V.bld tb) ?_
  refine WpL.o (O.stA tb ?_)
  refine WpL.v (V.as) ?_
  apply WpL.nil
  apply Out.seqN
  apply Wp.ret
  refine Out.f2 rfl (ResIs.ca tb) ResIs.t ⟨?_, rfl⟩
  rotate_left
  all_goals
    by_cases hl : refLess b i.Promised = true
    · have hv : voteOf i b s c same = (i, false) := if_pos (.inl hl)
      simp_all [promise, pr]
    · by_cases h3 : i.Status = 3
      · have hv : voteOf i b s c same = (i, false) := if_pos (.inr h3)
        simp_all [promise, pr]
      · by_cases h4 : i.Vote = b ∧ s ≤ i.Status
        · have hv : voteOf i b s c same = ({ i with Promised := b }, decide (i.Status = s)) := by unfold voteOf; rw [if_neg (by simp_all), if_pos h4]
          rw [hv]; simp_all [promise, pr]
        · have hv : voteOf i b s c same = ({ Promised := b, Vote := b, Status := s, Call := c, Same := same }, true) := by unfold voteOf; rw [if_neg (by simp_all), if_neg h4]
          rw [hv]
          have hp : promise i b = ({ i with Promised := b }, true) := if_neg hl
          first
            | (rw [hp]; rfl)
            | rfl
            | (exfalso; exact h3 (by assumption))
            | (exfalso; exact h4 (by assumption))
            | (exfalso; rw [hp] at h0; cases h0; done)
            | (exfalso; simp_all; done)
theorem commit_any (i : TInst) (c : TCall) : Fun Try.prog 65 [A i.c, A c.c] (pr (commitOf i c)) := by
  refine Ct.enter Try.func65 rfl rfl fun W => ?_
  apply Wp.seq
  apply Wp.region
  refine WpL.o (O.bxA (fun p2 => ?_))
  refine WpL.o (O.bxA (fun p3 => ?_))
  refine WpL.o (O.al tb (fun p4 => ?_))
  refine WpL.v (V.as) ?_
  apply WpL.nil
  apply Out.seqN
  apply Wp.seq
  apply Wp.seq
  apply Wp.region
  refine WpL.v (V.fa tb) ?_
  refine WpL.v (V.ld1 tb) ?_
  refine WpL.v (V.cmp) ?_
  apply WpL.nil
  apply Out.seqN
  refine Wp.c (fun h0 => ?_) (fun h0 => ?_)
  (try simp only [decide_eq_true_eq, decide_eq_false_iff_not, Bool.not_eq_true', Bool.not_eq_false', Bool.not_eq_true, Bool.not_eq_false, not_true_eq_false, not_false_eq_true, reduceCtorEq] at h0)
  apply Wp.seq
  apply Wp.region
  refine WpL.v (V.ldA tb) ?_
  refine WpL.o (O.stA tb ?_)
  refine WpL.v (V.as) ?_
  apply WpL.nil
  apply Out.seqN
  apply Wp.ret
  apply Out.seqR
  refine Out.f2 rfl (ResIs.ca tb) ResIs.t ⟨?_, rfl⟩
  focus (simp_all [pr, commitOf]; done)
  (try simp only [decide_eq_true_eq, decide_eq_false_iff_not, Bool.not_eq_true', Bool.not_eq_false', Bool.not_eq_true, Bool.not_eq_false, not_true_eq_false, not_false_eq_true, reduceCtorEq] at h0)
  apply Wp.skip
  apply Out.seqN
  apply Wp.seq
  refine Wp.dG [] ?_ (List.Sublist.cons _ (List.Sublist.cons_cons _ (List.Sublist.cons _ List.Sublist.slnil)))
  refine WpA.t 0 rfl (V.ldA tb) ?_
  refine WpA.t 1 rfl (V.fa tb) ?_
  refine WpA.oS 2 rfl (O.st1 tb ⟨?_, ?_⟩)
  exact holdT
  refine WpA.t 3 rfl (V.fa tb) ?_
  refine WpA.oS 4 rfl (O.stA tb ⟨?_, ?_⟩)
  exact holdT
  refine WpA.t 5 rfl (V.fa tb) ?_
  refine WpA.oS 6 rfl (O.st1 tb ⟨?_, ?_⟩)
  exact holdT
  refine WpA.ou ?_
  apply Out.seqN
  apply Wp.seq
  apply Wp.region
  refine WpL.v (V.ldA tb) ?_
  refine WpL.o (O.stA tb ?_)
  refine WpL.v (V.as) ?_
  apply WpL.nil
  apply Out.seqN
  apply Wp.ret
  refine Out.f2 rfl (ResIs.ca tb) ResIs.t ⟨?_, rfl⟩
  focus (simp_all [pr, commitOf]; done)
theorem rcommit_any (i : TInst) (c : TCall) : Fun Try.prog 66 [A i.c, A c.c] (pr (commitOf i c)) := by
  refine Ct.enter Try.func66 rfl rfl fun W => ?_
  apply Wp.seq
  apply Wp.region
  refine WpL.o (O.bxA (fun p2 => ?_))
  refine WpL.o (O.bxA (fun p3 => ?_))
  refine WpL.o (O.al tb (fun p4 => ?_))
  refine WpL.v (V.as) ?_
  apply WpL.nil
  apply Out.seqN
  apply Wp.seq
  apply Wp.seq
  apply Wp.region
  refine WpL.v (V.fa tb) ?_
  refine WpL.v (V.ld1 tb) ?_
  refine WpL.v (V.cmp) ?_
  apply WpL.nil
  apply Out.seqN
  refine Wp.c (fun h0 => ?_) (fun h0 => ?_)
  (try simp only [decide_eq_true_eq, decide_eq_false_iff_not, Bool.not_eq_true', Bool.not_eq_false', Bool.not_eq_true, Bool.not_eq_false, not_true_eq_false, not_false_eq_true, reduceCtorEq] at h0)
  apply Wp.seq
  apply Wp.region
  refine WpL.v (V.ldA tb) ?_
  refine WpL.o (O.stA tb ?_)
  refine WpL.v (V.as) ?_
  apply WpL.nil
  apply Out.seqN
  apply Wp.ret
  apply Out.seqR
  refine Out.f2 rfl (ResIs.ca tb) ResIs.t ⟨?_, rfl⟩
  focus (simp_all [pr, commitOf, TInst.z]; done)
  (try simp only [decide_eq_true_eq, decide_eq_false_iff_not, Bool.not_eq_true', Bool.not_eq_false', Bool.not_eq_true, Bool.not_eq_false, not_true_eq_false, not_false_eq_true, reduceCtorEq] at h0)
  apply Wp.skip
  apply Out.seqN
  apply Wp.seq
  apply Wp.region
  refine WpL.v (V.fa tb) ?_
  refine WpL.v (V.ldA tb) ?_
  refine WpL.v (V.fa tb) ?_
  refine WpL.v (V.ldA tb) ?_
  refine WpL.v (V.ldA tb) ?_
  refine WpL.v (V.bld tb) ?_
  refine WpL.o (O.stA tb ?_)
  refine WpL.v (V.as) ?_
  apply WpL.nil
  apply Out.seqN
  apply Wp.ret
  refine Out.f2 rfl (ResIs.ca tb) ResIs.t ⟨?_, rfl⟩
  focus (simp_all [pr, commitOf, TInst.z]; done)
def pr4 (x y : TInst × Bool) : Go.Value := .tuple #[A x.1.c, B x.2, A y.1.c, B y.2]
theorem does_any (i : TInst) (s : Step) : Fun Try.prog 31 [A i.c, A s.c] (pr4 (does i s) (does i s)) := by
  refine Ct.enter Try.func31 rfl rfl fun W => ?_
  apply Wp.seq
  apply Wp.region
  refine WpL.o (O.bxA (fun p2 => ?_))
  refine WpL.o (O.bxA (fun p3 => ?_))
  refine WpL.o (O.al tb (fun p4 => ?_))
  refine WpL.v (V.as) ?_
  refine WpL.o (O.al tb (fun p6 => ?_))
  refine WpL.v (V.as) ?_
  apply WpL.nil
  apply Out.seqN
  apply Wp.seq
  apply Wp.region
  refine WpL.o (O.al tb (fun p8 => ?_))
  refine WpL.o (O.al tb (fun p9 => ?_))
  apply WpL.nil
  apply Out.seqN
  apply Wp.seq
  apply Wp.region
  refine WpL.v (V.as) ?_
  refine WpL.v (V.as) ?_
  apply WpL.nil
  apply Out.seqN
  apply Wp.seq
  apply Wp.seq
  apply Wp.region
  refine WpL.v (V.fa tb) ?_
  refine WpL.v (V.ld1 tb) ?_
  apply WpL.nil
  apply Out.seqN
  apply Wp.block
  apply Wp.seq
  apply Wp.region
  refine WpL.v (V.cmp) ?_
  refine WpL.v (V.as) ?_
  apply WpL.nil
  apply Out.seqN
  refine Wp.c (fun h0 => ?_) (fun h0 => ?_)
  (try simp only [decide_eq_true_eq, decide_eq_false_iff_not, Bool.not_eq_true', Bool.not_eq_false', Bool.not_eq_true, Bool.not_eq_false, not_true_eq_false, not_false_eq_true, reduceCtorEq] at h0)
  apply Wp.seq
  apply Wp.region
  refine WpL.v (V.ldA tb) ?_
  refine WpL.v (V.fa tb) ?_
  refine WpL.v (V.ldA tb) ?_
  refine WpL.o (Op1.fn rfl (promise_any _ _) ?_)
  refine WpL.v (V.mv) ?_
  refine WpL.v (V.ex) ?_
  refine WpL.v (V.ex) ?_
  refine WpL.o (O.stA tb ?_)
  refine WpL.v (V.as) ?_
  apply WpL.nil
  apply Out.seqN
  apply Wp.region
  refine WpL.v (V.ldA tb) ?_
  refine WpL.v (V.fa tb) ?_
  refine WpL.v (V.ldA tb) ?_
  refine WpL.o (Op1.fn rfl (rpromise_any _ _) ?_)
  refine WpL.v (V.mv) ?_
  refine WpL.v (V.ex) ?_
  refine WpL.v (V.ex) ?_
  refine WpL.o (O.stA tb ?_)
  refine WpL.v (V.as) ?_
  apply WpL.nil
  apply Out.blockN
  apply Out.seqN
  apply Wp.seq
  refine Wp.dG [] ?_ (List.Sublist.cons_cons _ (List.Sublist.cons_cons _ (List.Sublist.cons _ (List.Sublist.cons _ (List.Sublist.cons _ (List.Sublist.cons _ List.Sublist.slnil))))))
  refine WpA.t 0 rfl (V.ldA tb) ?_
  refine WpA.t 1 rfl (V.mv) ?_
  refine WpA.t 2 rfl (V.ldA tb) ?_
  refine WpA.t 3 rfl (V.mv) ?_
  refine WpA.oS 4 rfl (O.stA tb ⟨?_, ?_⟩)
  exact holdT
  refine WpA.t 5 rfl (V.as) ?_
  refine WpA.oS 6 rfl (O.stA tb ⟨?_, ?_⟩)
  exact holdT
  refine WpA.t 7 rfl (V.as) ?_
  refine WpA.ou ?_
  apply Out.seqN
  apply Wp.ret
  refine Out.f4 rfl (ResIs.ca tb) ResIs.t (ResIs.ca tb) ResIs.t ⟨?_, rfl⟩
  focus (simp_all [pr4, does]; done)
  (try simp only [decide_eq_true_eq, decide_eq_false_iff_not, Bool.not_eq_true', Bool.not_eq_false', Bool.not_eq_true, Bool.not_eq_false, not_true_eq_false, not_false_eq_true, reduceCtorEq] at h0)
  apply Wp.seq
  apply Wp.region
  refine WpL.v (V.cmp) ?_
  refine WpL.v (V.as) ?_
  apply WpL.nil
  apply Out.seqN
  refine Wp.c (fun h1 => ?_) (fun h1 => ?_)
  (try simp only [decide_eq_true_eq, decide_eq_false_iff_not, Bool.not_eq_true', Bool.not_eq_false', Bool.not_eq_true, Bool.not_eq_false, not_true_eq_false, not_false_eq_true, reduceCtorEq] at h1)
  apply Wp.seq
  apply Wp.region
  refine WpL.v (V.ldA tb) ?_
  refine WpL.v (V.fa tb) ?_
  refine WpL.v (V.ldA tb) ?_
  refine WpL.v (V.fa tb) ?_
  refine WpL.v (V.ldA tb) ?_
  refine WpL.v (V.fa tb) ?_
  refine WpL.v (V.ld1 tb) ?_
  refine WpL.o (Op1.fn rfl (preAccept_any _ _ _ _) ?_)
  refine WpL.v (V.mv) ?_
  refine WpL.v (V.ex) ?_
  refine WpL.v (V.ex) ?_
  refine WpL.o (O.stA tb ?_)
  refine WpL.v (V.as) ?_
  apply WpL.nil
  apply Out.seqN
  apply Wp.region
  refine WpL.v (V.ldA tb) ?_
  refine WpL.v (V.fa tb) ?_
  refine WpL.v (V.ldA tb) ?_
  refine WpL.v (V.fa tb) ?_
  refine WpL.v (V.ldA tb) ?_
  refine WpL.v (V.fa tb) ?_
  refine WpL.v (V.ld1 tb) ?_
  refine WpL.o (Op1.fn rfl (rvote_any _ _ _ _ _) ?_)
  refine WpL.v (V.mv) ?_
  refine WpL.v (V.ex) ?_
  refine WpL.v (V.ex) ?_
  refine WpL.o (O.stA tb ?_)
  refine WpL.v (V.as) ?_
  apply WpL.nil
  apply Out.blockN
  apply Out.seqN
  apply Wp.seq
  refine Wp.dG [] ?_ (List.Sublist.cons_cons _ (List.Sublist.cons_cons _ (List.Sublist.cons _ (List.Sublist.cons _ (List.Sublist.cons _ (List.Sublist.cons _ List.Sublist.slnil))))))
  refine WpA.t 0 rfl (V.ldA tb) ?_
  refine WpA.t 1 rfl (V.mv) ?_
  refine WpA.t 2 rfl (V.ldA tb) ?_
  refine WpA.t 3 rfl (V.mv) ?_
  refine WpA.oS 4 rfl (O.stA tb ⟨?_, ?_⟩)
  exact holdT
  refine WpA.t 5 rfl (V.as) ?_
  refine WpA.oS 6 rfl (O.stA tb ⟨?_, ?_⟩)
  exact holdT
  refine WpA.t 7 rfl (V.as) ?_
  refine WpA.ou ?_
  apply Out.seqN
  apply Wp.ret
  refine Out.f4 rfl (ResIs.ca tb) ResIs.t (ResIs.ca tb) ResIs.t ⟨?_, rfl⟩
  focus (simp_all [pr4, does]; done)
  (try simp only [decide_eq_true_eq, decide_eq_false_iff_not, Bool.not_eq_true', Bool.not_eq_false', Bool.not_eq_true, Bool.not_eq_false, not_true_eq_false, not_false_eq_true, reduceCtorEq] at h1)
  apply Wp.seq
  apply Wp.region
  refine WpL.v (V.cmp) ?_
  refine WpL.v (V.as) ?_
  apply WpL.nil
  apply Out.seqN
  refine Wp.c (fun h2 => ?_) (fun h2 => ?_)
  (try simp only [decide_eq_true_eq, decide_eq_false_iff_not, Bool.not_eq_true', Bool.not_eq_false', Bool.not_eq_true, Bool.not_eq_false, not_true_eq_false, not_false_eq_true, reduceCtorEq] at h2)
  apply Wp.seq
  apply Wp.region
  refine WpL.v (V.ldA tb) ?_
  refine WpL.v (V.fa tb) ?_
  refine WpL.v (V.ldA tb) ?_
  refine WpL.v (V.fa tb) ?_
  refine WpL.v (V.ldA tb) ?_
  refine WpL.o (Op1.fn rfl (accept_any _ _ _) ?_)
  refine WpL.v (V.mv) ?_
  refine WpL.v (V.ex) ?_
  refine WpL.v (V.ex) ?_
  refine WpL.o (O.stA tb ?_)
  refine WpL.v (V.as) ?_
  apply WpL.nil
  apply Out.seqN
  apply Wp.region
  refine WpL.v (V.ldA tb) ?_
  refine WpL.v (V.fa tb) ?_
  refine WpL.v (V.ldA tb) ?_
  refine WpL.v (V.fa tb) ?_
  refine WpL.v (V.ldA tb) ?_
  refine WpL.o (Op1.fn rfl (rvote_any _ _ _ _ _) ?_)
  refine WpL.v (V.mv) ?_
  refine WpL.v (V.ex) ?_
  refine WpL.v (V.ex) ?_
  refine WpL.o (O.stA tb ?_)
  refine WpL.v (V.as) ?_
  apply WpL.nil
  apply Out.blockN
  apply Out.seqN
  apply Wp.seq
  refine Wp.dG [] ?_ (List.Sublist.cons_cons _ (List.Sublist.cons_cons _ (List.Sublist.cons _ (List.Sublist.cons _ (List.Sublist.cons _ (List.Sublist.cons _ List.Sublist.slnil))))))
  refine WpA.t 0 rfl (V.ldA tb) ?_
  refine WpA.t 1 rfl (V.mv) ?_
  refine WpA.t 2 rfl (V.ldA tb) ?_
  refine WpA.t 3 rfl (V.mv) ?_
  refine WpA.oS 4 rfl (O.stA tb ⟨?_, ?_⟩)
  exact holdT
  refine WpA.t 5 rfl (V.as) ?_
  refine WpA.oS 6 rfl (O.stA tb ⟨?_, ?_⟩)
  exact holdT
  refine WpA.t 7 rfl (V.as) ?_
  refine WpA.ou ?_
  apply Out.seqN
  apply Wp.ret
  refine Out.f4 rfl (ResIs.ca tb) ResIs.t (ResIs.ca tb) ResIs.t ⟨?_, rfl⟩
  focus (simp_all [pr4, does]; done)
  (try simp only [decide_eq_true_eq, decide_eq_false_iff_not, Bool.not_eq_true', Bool.not_eq_false', Bool.not_eq_true, Bool.not_eq_false, not_true_eq_false, not_false_eq_true, reduceCtorEq] at h2)
  apply Wp.seq
  apply Wp.region
  refine WpL.v (V.ldA tb) ?_
  refine WpL.v (V.fa tb) ?_
  refine WpL.v (V.ldA tb) ?_
  refine WpL.o (Op1.fn rfl (commit_any _ _) ?_)
  refine WpL.v (V.mv) ?_
  refine WpL.v (V.ex) ?_
  refine WpL.v (V.ex) ?_
  refine WpL.o (O.stA tb ?_)
  refine WpL.v (V.as) ?_
  apply WpL.nil
  apply Out.seqN
  apply Wp.region
  refine WpL.v (V.ldA tb) ?_
  refine WpL.v (V.fa tb) ?_
  refine WpL.v (V.ldA tb) ?_
  refine WpL.o (Op1.fn rfl (rcommit_any _ _) ?_)
  refine WpL.v (V.mv) ?_
  refine WpL.v (V.ex) ?_
  refine WpL.v (V.ex) ?_
  refine WpL.o (O.stA tb ?_)
  refine WpL.v (V.as) ?_
  apply WpL.nil
  apply Out.blockN
  apply Out.seqN
  apply Wp.seq
  refine Wp.dG [] ?_ (List.Sublist.cons_cons _ (List.Sublist.cons_cons _ (List.Sublist.cons _ (List.Sublist.cons _ (List.Sublist.cons _ (List.Sublist.cons _ List.Sublist.slnil))))))
  refine WpA.t 0 rfl (V.ldA tb) ?_
  refine WpA.t 1 rfl (V.mv) ?_
  refine WpA.t 2 rfl (V.ldA tb) ?_
  refine WpA.t 3 rfl (V.mv) ?_
  refine WpA.oS 4 rfl (O.stA tb ⟨?_, ?_⟩)
  exact holdT
  refine WpA.t 5 rfl (V.as) ?_
  refine WpA.oS 6 rfl (O.stA tb ⟨?_, ?_⟩)
  exact holdT
  refine WpA.t 7 rfl (V.as) ?_
  refine WpA.ou ?_
  apply Out.seqN
  apply Wp.ret
  refine Out.f4 rfl (ResIs.ca tb) ResIs.t (ResIs.ca tb) ResIs.t ⟨?_, rfl⟩
  focus (simp_all [pr4, does]; done)
theorem alive13  : Fun Try.prog 24 [] (B true) := by
  refine Ct.enter Try.func24 rfl rfl fun W => ?_
  apply Wp.seq
  apply Wp.region
  refine WpL.v (V.as) ?_
  apply WpL.nil
  apply Out.seqN
  apply Wp.seq
  apply Wp.region
  refine WpL.v (V.bld tb) ?_
  refine WpL.v (V.bld tb) ?_
  refine WpL.o (Op1.fn rfl (promise_any _ _) ?_)
  refine WpL.v (V.mv) ?_
  refine WpL.v (V.ex) ?_
  refine WpL.v (V.ex) ?_
  refine WpL.o (O.al tb (fun p1 => ?_))
  refine WpL.o (O.stA tb ?_)
  refine WpL.v (V.as) ?_
  apply WpL.nil
  apply Out.seqN
  apply Wp.seq
  apply Wp.region
  refine WpL.v (V.ldA tb) ?_
  refine WpL.v (V.bld tb) ?_
  refine WpL.v (V.bld tb) ?_
  refine WpL.o (Op1.fn rfl (accept_any _ _ _) ?_)
  refine WpL.v (V.mv) ?_
  refine WpL.v (V.ex) ?_
  refine WpL.v (V.ex) ?_
  refine WpL.o (O.al tb (fun p3 => ?_))
  refine WpL.o (O.stA tb ?_)
  refine WpL.v (V.as) ?_
  apply WpL.nil
  apply Out.seqN
  apply Wp.seq
  apply Wp.region
  refine WpL.v (V.mv) ?_
  refine WpL.v (V.mv) ?_
  refine WpL.v (V.mv) ?_
  refine WpL.v (V.not) ?_
  refine WpL.v (V.pT) ?_
  refine WpL.v (V.mv) ?_
  refine WpL.v (V.fa tb) ?_
  refine WpL.v (V.ldA tb) ?_
  refine WpL.v (V.bld tb) ?_
  refine WpL.v (V.eq (TBallot.eqT _ _ _)) ?_
  refine WpL.v (V.pT) ?_
  refine WpL.v (V.as) ?_
  apply WpL.nil
  apply Out.seqN
  apply Wp.ret
  refine Out.f1 rfl ResIs.t ⟨?_, rfl⟩
  exact rfl
theorem follows_any (a b : TInst) : Fun Try.prog 37 [A a.c, A b.c] (B (follows a b)) := by
  refine Ct.enter Try.func37 rfl rfl fun W => ?_
  apply Wp.seq
  apply Wp.region
  refine WpL.o (O.bxA (fun p2 => ?_))
  refine WpL.o (O.bxA (fun p3 => ?_))
  refine WpL.v (V.as) ?_
  apply WpL.nil
  apply Out.seqN
  apply Wp.seq
  apply Wp.block
  apply Wp.seq
  apply Wp.region
  refine WpL.v (V.fa tb) ?_
  refine WpL.v (V.ldA tb) ?_
  refine WpL.v (V.fa tb) ?_
  refine WpL.v (V.ldA tb) ?_
  refine WpL.o (Op1.fn rfl (less_any _ _) ?_)
  refine WpL.v (V.mv) ?_
  refine WpL.pt (fun h0 => ?_) (fun h0 => ?_)
  (try simp only [decide_eq_true_eq, decide_eq_false_iff_not, Bool.not_eq_true', Bool.not_eq_false', Bool.not_eq_true, Bool.not_eq_false, not_true_eq_false, not_false_eq_true, reduceCtorEq] at h0)
  refine WpL.sk ?_
  refine WpL.sk ?_
  refine WpL.sk ?_
  refine WpL.sk ?_
  refine WpL.sk ?_
  refine WpL.v (V.pT) ?_
  refine WpL.v (V.as) ?_
  apply WpL.nil
  apply Out.seqN
  refine Wp.cT ?_
  apply Wp.seq
  apply Wp.region
  refine WpL.v (V.as) ?_
  apply WpL.nil
  apply Out.seqN
  apply Wp.ret
  apply Out.blockR
  apply Out.seqR
  refine Out.f1 rfl ResIs.t ⟨?_, rfl⟩
  focus ((simp_all [follows] <;> first | exact ⟨Eq.symm, Eq.symm⟩ | (intro h1 h2; simp_all) | (cases a.Same <;> cases b.Same <;> rfl)); done)
  (try simp only [decide_eq_true_eq, decide_eq_false_iff_not, Bool.not_eq_true', Bool.not_eq_false', Bool.not_eq_true, Bool.not_eq_false, not_true_eq_false, not_false_eq_true, reduceCtorEq] at h0)
  refine WpL.v (V.fa tb) ?_
  refine WpL.v (V.ldA tb) ?_
  refine WpL.v (V.fa tb) ?_
  refine WpL.v (V.ldA tb) ?_
  refine WpL.o (Op1.fn rfl (less_any _ _) ?_)
  refine WpL.v (V.pF) ?_
  refine WpL.v (V.as) ?_
  apply WpL.nil
  apply Out.seqN
  refine Wp.c (fun h1 => ?_) (fun h1 => ?_)
  (try simp only [decide_eq_true_eq, decide_eq_false_iff_not, Bool.not_eq_true', Bool.not_eq_false', Bool.not_eq_true, Bool.not_eq_false, not_true_eq_false, not_false_eq_true, reduceCtorEq] at h1)
  apply Wp.seq
  apply Wp.region
  refine WpL.v (V.as) ?_
  apply WpL.nil
  apply Out.seqN
  apply Wp.ret
  apply Out.blockR
  apply Out.seqR
  refine Out.f1 rfl ResIs.t ⟨?_, rfl⟩
  focus ((simp_all [follows] <;> first | exact ⟨Eq.symm, Eq.symm⟩ | (intro h1 h2; simp_all) | (cases a.Same <;> cases b.Same <;> rfl)); done)
  (try simp only [decide_eq_true_eq, decide_eq_false_iff_not, Bool.not_eq_true', Bool.not_eq_false', Bool.not_eq_true, Bool.not_eq_false, not_true_eq_false, not_false_eq_true, reduceCtorEq] at h1)
  apply Wp.seq
  apply Wp.region
  refine WpL.v (V.fa tb) ?_
  refine WpL.v (V.ld1 tb) ?_
  refine WpL.v (V.cmp) ?_
  refine WpL.v (V.as) ?_
  apply WpL.nil
  apply Out.seqN
  refine Wp.c (fun h2 => ?_) (fun h2 => ?_)
  (try simp only [decide_eq_true_eq, decide_eq_false_iff_not, Bool.not_eq_true', Bool.not_eq_false', Bool.not_eq_true, Bool.not_eq_false, not_true_eq_false, not_false_eq_true, reduceCtorEq] at h2)
  apply Wp.seq
  apply Wp.region
  refine WpL.v (V.fa tb) ?_
  refine WpL.v (V.ld1 tb) ?_
  refine WpL.v (V.cmp) ?_
  refine WpL.v (V.mv) ?_
  refine WpL.pt (fun h3 => ?_) (fun h3 => ?_)
  (try simp only [decide_eq_true_eq, decide_eq_false_iff_not, Bool.not_eq_true', Bool.not_eq_false', Bool.not_eq_true, Bool.not_eq_false, not_true_eq_false, not_false_eq_true, reduceCtorEq] at h3)
  refine WpL.v (V.fa tb) ?_
  refine WpL.v (V.ldA tb) ?_
  refine WpL.v (V.fa tb) ?_
  refine WpL.v (V.ldA tb) ?_
  refine WpL.v (V.eq (TCall.eqT _ _ _)) ?_
  refine WpL.v (V.pT) ?_
  refine WpL.v (V.mv) ?_
  refine WpL.pt (fun h4 => ?_) (fun h4 => ?_)
  (try simp only [decide_eq_true_eq, decide_eq_false_iff_not, Bool.not_eq_true', Bool.not_eq_false', Bool.not_eq_true, Bool.not_eq_false, not_true_eq_false, not_false_eq_true, reduceCtorEq] at h4)
  refine WpL.v (V.fa tb) ?_
  refine WpL.v (V.ldA tb) ?_
  refine WpL.v (V.fa tb) ?_
  refine WpL.v (V.ldA tb) ?_
  refine WpL.v (V.eq (TBallot.eqT _ _ _)) ?_
  refine WpL.v (V.pT) ?_
  refine WpL.v (V.as) ?_
  apply WpL.nil
  apply Out.seqN
  apply Wp.ret
  apply Out.blockR
  apply Out.seqR
  refine Out.f1 rfl ResIs.t ⟨?_, rfl⟩
  focus ((simp_all [follows] <;> first | exact ⟨Eq.symm, Eq.symm⟩ | (intro h1 h2; simp_all) | (cases a.Same <;> cases b.Same <;> rfl)); done)
  (try simp only [decide_eq_true_eq, decide_eq_false_iff_not, Bool.not_eq_true', Bool.not_eq_false', Bool.not_eq_true, Bool.not_eq_false, not_true_eq_false, not_false_eq_true, reduceCtorEq] at h4)
  refine WpL.sk ?_
  refine WpL.sk ?_
  refine WpL.sk ?_
  refine WpL.sk ?_
  refine WpL.sk ?_
  refine WpL.v (V.pF) ?_
  refine WpL.v (V.as) ?_
  apply WpL.nil
  apply Out.seqN
  apply Wp.ret
  apply Out.blockR
  apply Out.seqR
  refine Out.f1 rfl ResIs.t ⟨?_, rfl⟩
  focus ((simp_all [follows] <;> first | exact ⟨Eq.symm, Eq.symm⟩ | (intro h1 h2; simp_all) | (cases a.Same <;> cases b.Same <;> rfl)); done)
  (try simp only [decide_eq_true_eq, decide_eq_false_iff_not, Bool.not_eq_true', Bool.not_eq_false', Bool.not_eq_true, Bool.not_eq_false, not_true_eq_false, not_false_eq_true, reduceCtorEq] at h3)
  refine WpL.sk ?_
  refine WpL.sk ?_
  refine WpL.sk ?_
  refine WpL.sk ?_
  refine WpL.sk ?_
  refine WpL.v (V.pF) ?_
  refine WpL.v (V.mv) ?_
  refine WpL.sk ?_
  refine WpL.sk ?_
  refine WpL.sk ?_
  refine WpL.sk ?_
  refine WpL.sk ?_
  refine WpL.v (V.pF) ?_
  refine WpL.v (V.as) ?_
  apply WpL.nil
  apply Out.seqN
  apply Wp.ret
  apply Out.blockR
  apply Out.seqR
  refine Out.f1 rfl ResIs.t ⟨?_, rfl⟩
  focus ((simp_all [follows] <;> first | exact ⟨Eq.symm, Eq.symm⟩ | (intro h1 h2; simp_all) | (cases a.Same <;> cases b.Same <;> rfl)); done)
  (try simp only [decide_eq_true_eq, decide_eq_false_iff_not, Bool.not_eq_true', Bool.not_eq_false', Bool.not_eq_true, Bool.not_eq_false, not_true_eq_false, not_false_eq_true, reduceCtorEq] at h2)
  apply Wp.seq
  apply Wp.region
  refine WpL.v (V.fa tb) ?_
  refine WpL.v (V.ldA tb) ?_
  refine WpL.v (V.fa tb) ?_
  refine WpL.v (V.ldA tb) ?_
  refine WpL.v (V.ne (TBallot.eqT _ _ _)) ?_
  refine WpL.v (V.mv) ?_
  refine WpL.pt (fun h5 => ?_) (fun h5 => ?_)
  (try simp only [decide_eq_true_eq, decide_eq_false_iff_not, Bool.not_eq_true', Bool.not_eq_false', Bool.not_eq_true, Bool.not_eq_false, not_true_eq_false, not_false_eq_true, reduceCtorEq] at h5)
  refine WpL.sk ?_
  refine WpL.sk ?_
  refine WpL.sk ?_
  refine WpL.v (V.pT) ?_
  refine WpL.v (V.as) ?_
  apply WpL.nil
  apply Out.seqN
  refine Wp.cT ?_
  apply Wp.seq
  apply Wp.region
  refine WpL.v (V.as) ?_
  apply WpL.nil
  apply Out.seqN
  apply Wp.ret
  apply Out.blockR
  apply Out.seqR
  refine Out.f1 rfl ResIs.t ⟨?_, rfl⟩
  focus ((simp_all [follows] <;> first | exact ⟨Eq.symm, Eq.symm⟩ | (intro h1 h2; simp_all) | (cases a.Same <;> cases b.Same <;> rfl)); done)
  (try simp only [decide_eq_true_eq, decide_eq_false_iff_not, Bool.not_eq_true', Bool.not_eq_false', Bool.not_eq_true, Bool.not_eq_false, not_true_eq_false, not_false_eq_true, reduceCtorEq] at h5)
  refine WpL.v (V.fa tb) ?_
  refine WpL.v (V.ld1 tb) ?_
  refine WpL.v (V.cmp) ?_
  refine WpL.v (V.pF) ?_
  refine WpL.v (V.as) ?_
  apply WpL.nil
  apply Out.seqN
  refine Wp.c (fun h6 => ?_) (fun h6 => ?_)
  (try simp only [decide_eq_true_eq, decide_eq_false_iff_not, Bool.not_eq_true', Bool.not_eq_false', Bool.not_eq_true, Bool.not_eq_false, not_true_eq_false, not_false_eq_true, reduceCtorEq] at h6)
  apply Wp.seq
  apply Wp.region
  refine WpL.v (V.as) ?_
  apply WpL.nil
  apply Out.seqN
  apply Wp.ret
  apply Out.blockR
  apply Out.seqR
  refine Out.f1 rfl ResIs.t ⟨?_, rfl⟩
  focus ((simp_all [follows] <;> first | exact ⟨Eq.symm, Eq.symm⟩ | (intro h1 h2; simp_all) | (cases a.Same <;> cases b.Same <;> rfl)); done)
  (try simp only [decide_eq_true_eq, decide_eq_false_iff_not, Bool.not_eq_true', Bool.not_eq_false', Bool.not_eq_true, Bool.not_eq_false, not_true_eq_false, not_false_eq_true, reduceCtorEq] at h6)
  apply Wp.seq
  apply Wp.region
  refine WpL.v (V.fa tb) ?_
  refine WpL.v (V.ld1 tb) ?_
  refine WpL.v (V.fa tb) ?_
  refine WpL.v (V.ld1 tb) ?_
  refine WpL.v (V.cmp) ?_
  refine WpL.v (V.as) ?_
  apply WpL.nil
  apply Out.seqN
  refine Wp.c (fun h7 => ?_) (fun h7 => ?_)
  (try simp only [decide_eq_true_eq, decide_eq_false_iff_not, Bool.not_eq_true', Bool.not_eq_false', Bool.not_eq_true, Bool.not_eq_false, not_true_eq_false, not_false_eq_true, reduceCtorEq] at h7)
  apply Wp.seq
  apply Wp.region
  refine WpL.v (V.fa tb) ?_
  refine WpL.v (V.ldA tb) ?_
  refine WpL.v (V.fa tb) ?_
  refine WpL.v (V.ldA tb) ?_
  refine WpL.v (V.eq (TCall.eqT _ _ _)) ?_
  refine WpL.v (V.mv) ?_
  refine WpL.pt (fun h8 => ?_) (fun h8 => ?_)
  (try simp only [decide_eq_true_eq, decide_eq_false_iff_not, Bool.not_eq_true', Bool.not_eq_false', Bool.not_eq_true, Bool.not_eq_false, not_true_eq_false, not_false_eq_true, reduceCtorEq] at h8)
  refine WpL.v (V.fa tb) ?_
  refine WpL.v (V.ld1 tb) ?_
  refine WpL.v (V.fa tb) ?_
  refine WpL.v (V.ld1 tb) ?_
  refine WpL.v (V.eqB tb) ?_
  refine WpL.v (V.pT) ?_
  refine WpL.v (V.as) ?_
  apply WpL.nil
  apply Out.seqN
  apply Wp.ret
  apply Out.blockR
  apply Out.seqR
  refine Out.f1 rfl ResIs.t ⟨?_, rfl⟩
  focus ((simp_all [follows] <;> first | exact ⟨Eq.symm, Eq.symm⟩ | (intro h1 h2; simp_all) | (cases a.Same <;> cases b.Same <;> rfl)); done)
  (try simp only [decide_eq_true_eq, decide_eq_false_iff_not, Bool.not_eq_true', Bool.not_eq_false', Bool.not_eq_true, Bool.not_eq_false, not_true_eq_false, not_false_eq_true, reduceCtorEq] at h8)
  refine WpL.sk ?_
  refine WpL.sk ?_
  refine WpL.sk ?_
  refine WpL.sk ?_
  refine WpL.sk ?_
  refine WpL.v (V.pF) ?_
  refine WpL.v (V.as) ?_
  apply WpL.nil
  apply Out.seqN
  apply Wp.ret
  apply Out.blockR
  apply Out.seqR
  refine Out.f1 rfl ResIs.t ⟨?_, rfl⟩
  focus ((simp_all [follows] <;> first | exact ⟨Eq.symm, Eq.symm⟩ | (intro h1 h2; simp_all) | (cases a.Same <;> cases b.Same <;> rfl)); done)
  (try simp only [decide_eq_true_eq, decide_eq_false_iff_not, Bool.not_eq_true', Bool.not_eq_false', Bool.not_eq_true, Bool.not_eq_false, not_true_eq_false, not_false_eq_true, reduceCtorEq] at h7)
  apply Wp.skip
  apply Out.blockN
  apply Out.seqN
  apply Wp.seq
  apply Wp.region
  refine WpL.v (V.fa tb) ?_
  refine WpL.v (V.ld1 tb) ?_
  refine WpL.v (V.fa tb) ?_
  refine WpL.v (V.ld1 tb) ?_
  refine WpL.v (V.cmp) ?_
  refine WpL.v (V.as) ?_
  apply WpL.nil
  apply Out.seqN
  apply Wp.ret
  refine Out.f1 rfl ResIs.t ⟨?_, rfl⟩
  focus ((simp_all [follows] <;> first | exact ⟨Eq.symm, Eq.symm⟩ | (intro h1 h2; simp_all) | (cases a.Same <;> cases b.Same <;> rfl)); done)
theorem refLess_self (b : TBallot) : refLess b b = false := by simp [refLess]
theorem does_no (i : TInst) (s : Step) (h : (does i s).2 = false) : (does i s).1.Vote = i.Vote ∧ (does i s).1.Status = i.Status ∧ (does i s).1.Call = i.Call ∧ (does i s).1.Same = i.Same := by
  revert h
  unfold does promise voteOf commitOf
  repeat' split
  all_goals simp
theorem does_done (i : TInst) (s : Step) (h : i.Status = 3) : (does i s).1.Vote = i.Vote ∧ (does i s).1.Status = i.Status ∧ (does i s).1.Call = i.Call ∧ (does i s).1.Same = i.Same := by
  unfold does promise voteOf commitOf
  repeat' split
  all_goals simp_all
theorem vote_once (i : TInst) (b : TBallot) (k : Int) (hk : k ≠ 3) (c d : TCall) (x y : Bool) (h : (voteOf i b k c x).2 = true) : voteOf (voteOf i b k c x).1 b k d y = ((voteOf i b k c x).1, true) := by
  revert h
  unfold voteOf
  split
  · simp
  · split
    · rename_i h1 h2
      intro h
      have h3 : i.Status = k := by simpa using h
      simp [refLess_self, h2.1, h3, hk]
    · simp [refLess_self, hk]
theorem does_once (i : TInst) (s t : Step) (h : (does i s).2 = true) (h0 : s.Kind ≠ 0) (hk : t.Kind = s.Kind) (hb : t.Ballot = s.Ballot) : does (does i s).1 t = ((does i s).1, decide (s.Kind = 1 ∨ s.Kind = 2)) := by
  revert h
  unfold does
  rw [hk, hb]
  simp only [h0, if_false]
  split
  · rename_i h1; intro h; rw [vote_once _ _ _ (by decide) _ _ _ _ h]; simp [h1]
  · split
    · rename_i h1; intro h; rw [vote_once _ _ _ (by decide) _ _ _ _ h]; simp [h1]
    · intro h
      have : (commitOf i s.Call).1.Status = 3 := by unfold commitOf; split <;> simp_all
      simp [commitOf, *] at this ⊢
      simp [this]
end Go.Proofs.Ytienlncaffliaaa
