/-
  Layer 14: a lead: hears.
-/
import Derived.Test.YthoepbbpmdmfeaaLead3
namespace Go.Proofs.Ythoepbbpmdmfeaa
open Go.HL
set_option linter.unusedSimpArgs false
set_option linter.unusedVariables false
set_option maxRecDepth 8000
theorem lead_hear0 (m : TMsg) : Fun Try.prog 38 [.pointer none, A m.c] (B false) := by
  refine Ct.enter Try.func38 rfl rfl fun W => ?_
  apply Wp.seq
  apply Wp.region
  refine WpL.o (O.bxA (fun p3 => ?_))
  refine WpL.v (V.as) ?_
  apply WpL.nil
  apply Out.seqN
  apply Wp.seq
  apply Wp.seq
  refine Wp.dG [] ?_ (List.Sublist.cons_cons _ List.Sublist.slnil) (List.Sublist.cons_cons _ List.Sublist.slnil)
  refine WpA.tF 0 rfl (V.mv) ?_
  refine WpA.tF 1 rfl (V.eqN) ?_
  refine WpA.tF 2 rfl (V.mv) ?_
  refine WpA.s 3 rfl ?_
  refine WpA.s 4 rfl ?_
  refine WpA.s 5 rfl ?_
  refine WpA.s 6 rfl ?_
  refine WpA.s 7 rfl ?_
  refine WpA.tF 8 rfl (V.pT) ?_
  refine WpA.tF 9 rfl (V.mv) ?_
  refine WpA.s 10 rfl ?_
  refine WpA.s 11 rfl ?_
  refine WpA.s 12 rfl ?_
  refine WpA.s 13 rfl ?_
  refine WpA.s 14 rfl ?_
  refine WpA.s 15 rfl ?_
  refine WpA.s 16 rfl ?_
  refine WpA.tF 17 rfl (V.pT) ?_
  refine WpA.tF 18 rfl (V.mv) ?_
  refine WpA.s 19 rfl ?_
  refine WpA.s 20 rfl ?_
  refine WpA.s 21 rfl ?_
  refine WpA.s 22 rfl ?_
  refine WpA.s 23 rfl ?_
  refine WpA.s 24 rfl ?_
  refine WpA.s 25 rfl ?_
  refine WpA.tF 26 rfl (V.pT) ?_
  refine WpA.tF 27 rfl (V.mv) ?_
  refine WpA.s 28 rfl ?_
  refine WpA.s 29 rfl ?_
  refine WpA.s 30 rfl ?_
  refine WpA.tF 31 rfl (V.pT) ?_
  refine WpA.tF 32 rfl (V.mv) ?_
  refine WpA.s 33 rfl ?_
  refine WpA.s 34 rfl ?_
  refine WpA.s 35 rfl ?_
  refine WpA.s 36 rfl ?_
  refine WpA.s 37 rfl ?_
  refine WpA.s 38 rfl ?_
  refine WpA.s 39 rfl ?_
  refine WpA.tF 40 rfl (V.pT) ?_
  refine WpA.ou ?_
  apply Out.seqN
  refine Wp.cT ?_
  apply Wp.seq
  apply Wp.region
  refine WpL.v (V.as) ?_
  apply WpL.nil
  apply Out.seqN
  apply Wp.ret
  apply Out.seqR
  refine Out.f1 rfl ResIs.t ⟨?_, rfl⟩
  exact rfl
set_option maxHeartbeats 4000000 in
theorem lead_hear (b : Nat) (x : LeadS) (w : x.wf) (m : TMsg) (hn : 0 ≤ x.n ∧ x.n ≤ 1000) : Ct Try.prog 38 [Ptr b 0, A m.c] [cells b 142 x.c] (fun r σ' => r = B (x.hear m).2 ∧ σ' = [cells b 142 (x.hear m).1.c]) := by
  have hP := lead_pre b x w m hn
  have hO := lead_putO b x w m.From
  have hL := ballot_less x.ballot m.Ballot
  have hmost := ballot_most x.n (by omega)
  have hFa : faults x.n ≤ 1000 ∧ 0 ≤ faults x.n := by unfold faults; omega
  unfold LeadS.hear
  have hearly : (2 < x.phase ∨ m.Item ≠ x.item ∨ m.To ≠ x.self ∨ m.From < 0 ∨ x.n ≤ m.From) → Ct Try.prog 38 [Ptr b 0, A m.c] [cells b 142 x.c] (fun r σ' => r = B false ∧ σ' = [cells b 142 x.c]) := by
    clear hP hO
    intro h0
    by_cases g1 : 2 < x.phase
    · refine Ct.enter Try.func38 rfl rfl fun W => ?_
      apply Wp.seq
      apply Wp.region
      refine WpL.o (O.bxA (fun p3 => ?_))
      refine WpL.v (V.as) ?_
      apply WpL.nil
      apply Out.seqN
      apply Wp.seq
      apply Wp.seq
      refine Wp.dG [] ?_ (List.Sublist.cons_cons _ (List.Sublist.cons_cons _ List.Sublist.slnil)) (List.Sublist.cons_cons _ (List.Sublist.cons_cons _ List.Sublist.slnil))
      refine WpA.tF 0 rfl (V.mv) ?_
      refine WpA.tF 1 rfl (V.eqP) ?_
      refine WpA.tF 2 rfl (V.mv) ?_
      refine WpA.tF 3 rfl (V.mv) ?_
      refine WpA.tF 4 rfl (V.nc) ?_
      refine WpA.tF 5 rfl (V.fa tb) ?_
      refine WpA.tF 6 rfl (V.ld1 tb) ?_
      refine WpA.tF 7 rfl (V.cmp) ?_
      refine WpA.tF 8 rfl (V.pF) ?_
      refine WpA.tF 9 rfl (V.mv) ?_
      refine WpA.pt 14 (fun ha10 => ?_) (fun ha10 => ?_)
      (try simp only [decide_eq_true_eq, decide_eq_false_iff_not, Bool.not_eq_true', Bool.not_eq_false', Bool.not_eq_true, Bool.not_eq_false, not_true_eq_false, not_false_eq_true, reduceCtorEq] at ha10)
      refine WpA.s 10 rfl ?_
      refine WpA.s 11 rfl ?_
      refine WpA.s 12 rfl ?_
      refine WpA.s 13 rfl ?_
      refine WpA.s 14 rfl ?_
      refine WpA.s 15 rfl ?_
      refine WpA.s 16 rfl ?_
      refine WpA.tF 17 rfl (V.pT) ?_
      refine WpA.tF 18 rfl (V.mv) ?_
      refine WpA.s 19 rfl ?_
      refine WpA.s 20 rfl ?_
      refine WpA.s 21 rfl ?_
      refine WpA.s 22 rfl ?_
      refine WpA.s 23 rfl ?_
      refine WpA.s 24 rfl ?_
      refine WpA.s 25 rfl ?_
      refine WpA.tF 26 rfl (V.pT) ?_
      refine WpA.tF 27 rfl (V.mv) ?_
      refine WpA.s 28 rfl ?_
      refine WpA.s 29 rfl ?_
      refine WpA.s 30 rfl ?_
      refine WpA.tF 31 rfl (V.pT) ?_
      refine WpA.tF 32 rfl (V.mv) ?_
      refine WpA.s 33 rfl ?_
      refine WpA.s 34 rfl ?_
      refine WpA.s 35 rfl ?_
      refine WpA.s 36 rfl ?_
      refine WpA.s 37 rfl ?_
      refine WpA.s 38 rfl ?_
      refine WpA.s 39 rfl ?_
      refine WpA.tF 40 rfl (V.pT) ?_
      refine WpA.ou ?_
      apply Out.seqN
      refine Wp.cT ?_
      apply Wp.seq
      apply Wp.region
      refine WpL.v (V.as) ?_
      apply WpL.nil
      apply Out.seqN
      apply Wp.ret
      apply Out.seqR
      refine Out.f1 rfl ResIs.t ⟨?_, rfl⟩
      exact rfl
      (try simp only [decide_eq_true_eq, decide_eq_false_iff_not, Bool.not_eq_true', Bool.not_eq_false', Bool.not_eq_true, Bool.not_eq_false, not_true_eq_false, not_false_eq_true, reduceCtorEq] at ha10)
      (exfalso; omega)
    by_cases g2 : m.Item = x.item
    · by_cases g3 : m.To = x.self
      · by_cases g4 : m.From < 0
        · refine Ct.enter Try.func38 rfl rfl fun W => ?_
          apply Wp.seq
          apply Wp.region
          refine WpL.o (O.bxA (fun p3 => ?_))
          refine WpL.v (V.as) ?_
          apply WpL.nil
          apply Out.seqN
          apply Wp.seq
          apply Wp.seq
          refine Wp.dG [] ?_ (List.Sublist.cons_cons _ (List.Sublist.cons_cons _ List.Sublist.slnil)) (List.Sublist.cons_cons _ (List.Sublist.cons_cons _ List.Sublist.slnil))
          refine WpA.tF 0 rfl (V.mv) ?_
          refine WpA.tF 1 rfl (V.eqP) ?_
          refine WpA.tF 2 rfl (V.mv) ?_
          refine WpA.tF 3 rfl (V.mv) ?_
          refine WpA.tF 4 rfl (V.nc) ?_
          refine WpA.tF 5 rfl (V.fa tb) ?_
          refine WpA.tF 6 rfl (V.ld1 tb) ?_
          refine WpA.tF 7 rfl (V.cmp) ?_
          refine WpA.tF 8 rfl (V.pF) ?_
          refine WpA.tF 9 rfl (V.mv) ?_
          refine WpA.pt 14 (fun ha20 => ?_) (fun ha20 => ?_)
          (try simp only [decide_eq_true_eq, decide_eq_false_iff_not, Bool.not_eq_true', Bool.not_eq_false', Bool.not_eq_true, Bool.not_eq_false, not_true_eq_false, not_false_eq_true, reduceCtorEq] at ha20)
          (exfalso; omega)
          (try simp only [decide_eq_true_eq, decide_eq_false_iff_not, Bool.not_eq_true', Bool.not_eq_false', Bool.not_eq_true, Bool.not_eq_false, not_true_eq_false, not_false_eq_true, reduceCtorEq] at ha20)
          refine WpA.tF 10 rfl (V.fa tb) ?_
          refine WpA.tF 11 rfl (V.ldA tb) ?_
          refine WpA.tF 12 rfl (V.mv) ?_
          refine WpA.tF 13 rfl (V.nc) ?_
          refine WpA.tF 14 rfl (V.fa tb) ?_
          refine WpA.tF 15 rfl (V.ldA tb) ?_
          refine WpA.tF 16 rfl (V.ne (TItem.eqT _ _ _)) ?_
          refine WpA.tF 17 rfl (V.pF) ?_
          refine WpA.tF 18 rfl (V.mv) ?_
          refine WpA.pt 23 (fun ha21 => ?_) (fun ha21 => ?_)
          (try simp only [decide_eq_true_eq, decide_eq_false_iff_not, Bool.not_eq_true', Bool.not_eq_false', Bool.not_eq_true, Bool.not_eq_false, not_true_eq_false, not_false_eq_true, reduceCtorEq] at ha21)
          contradiction
          (try simp only [decide_eq_true_eq, decide_eq_false_iff_not, Bool.not_eq_true', Bool.not_eq_false', Bool.not_eq_true, Bool.not_eq_false, not_true_eq_false, not_false_eq_true, reduceCtorEq] at ha21)
          refine WpA.tF 19 rfl (V.fa tb) ?_
          refine WpA.tF 20 rfl (V.ld1 tb) ?_
          refine WpA.tF 21 rfl (V.mv) ?_
          refine WpA.tF 22 rfl (V.nc) ?_
          refine WpA.tF 23 rfl (V.fa tb) ?_
          refine WpA.tF 24 rfl (V.ld1 tb) ?_
          refine WpA.tF 25 rfl (V.cmp) ?_
          refine WpA.tF 26 rfl (V.pF) ?_
          refine WpA.tF 27 rfl (V.mv) ?_
          refine WpA.pt 32 (fun ha22 => ?_) (fun ha22 => ?_)
          (try simp only [decide_eq_true_eq, decide_eq_false_iff_not, Bool.not_eq_true', Bool.not_eq_false', Bool.not_eq_true, Bool.not_eq_false, not_true_eq_false, not_false_eq_true, reduceCtorEq] at ha22)
          (exfalso; omega)
          (try simp only [decide_eq_true_eq, decide_eq_false_iff_not, Bool.not_eq_true', Bool.not_eq_false', Bool.not_eq_true, Bool.not_eq_false, not_true_eq_false, not_false_eq_true, reduceCtorEq] at ha22)
          refine WpA.tF 28 rfl (V.fa tb) ?_
          refine WpA.tF 29 rfl (V.ld1 tb) ?_
          refine WpA.tF 30 rfl (V.cmp) ?_
          refine WpA.tF 31 rfl (V.pF) ?_
          refine WpA.tF 32 rfl (V.mv) ?_
          refine WpA.pt 37 (fun ha23 => ?_) (fun ha23 => ?_)
          (try simp only [decide_eq_true_eq, decide_eq_false_iff_not, Bool.not_eq_true', Bool.not_eq_false', Bool.not_eq_true, Bool.not_eq_false, not_true_eq_false, not_false_eq_true, reduceCtorEq] at ha23)
          refine WpA.s 33 rfl ?_
          refine WpA.s 34 rfl ?_
          refine WpA.s 35 rfl ?_
          refine WpA.s 36 rfl ?_
          refine WpA.s 37 rfl ?_
          refine WpA.s 38 rfl ?_
          refine WpA.s 39 rfl ?_
          refine WpA.tF 40 rfl (V.pT) ?_
          refine WpA.ou ?_
          apply Out.seqN
          refine Wp.cT ?_
          apply Wp.seq
          apply Wp.region
          refine WpL.v (V.as) ?_
          apply WpL.nil
          apply Out.seqN
          apply Wp.ret
          apply Out.seqR
          refine Out.f1 rfl ResIs.t ⟨?_, rfl⟩
          exact rfl
          (try simp only [decide_eq_true_eq, decide_eq_false_iff_not, Bool.not_eq_true', Bool.not_eq_false', Bool.not_eq_true, Bool.not_eq_false, not_true_eq_false, not_false_eq_true, reduceCtorEq] at ha23)
          (exfalso; omega)
        · have g5 : x.n ≤ m.From := by
            rcases h0 with h | h | h | h | h
            · exact absurd h g1
            · exact absurd g2 h
            · exact absurd g3 h
            · exact absurd h g4
            · exact h
          refine Ct.enter Try.func38 rfl rfl fun W => ?_
          apply Wp.seq
          apply Wp.region
          refine WpL.o (O.bxA (fun p3 => ?_))
          refine WpL.v (V.as) ?_
          apply WpL.nil
          apply Out.seqN
          apply Wp.seq
          apply Wp.seq
          refine Wp.dG [] ?_ (List.Sublist.cons_cons _ (List.Sublist.cons_cons _ List.Sublist.slnil)) (List.Sublist.cons_cons _ (List.Sublist.cons_cons _ List.Sublist.slnil))
          refine WpA.tF 0 rfl (V.mv) ?_
          refine WpA.tF 1 rfl (V.eqP) ?_
          refine WpA.tF 2 rfl (V.mv) ?_
          refine WpA.tF 3 rfl (V.mv) ?_
          refine WpA.tF 4 rfl (V.nc) ?_
          refine WpA.tF 5 rfl (V.fa tb) ?_
          refine WpA.tF 6 rfl (V.ld1 tb) ?_
          refine WpA.tF 7 rfl (V.cmp) ?_
          refine WpA.tF 8 rfl (V.pF) ?_
          refine WpA.tF 9 rfl (V.mv) ?_
          refine WpA.pt 14 (fun ha30 => ?_) (fun ha30 => ?_)
          (try simp only [decide_eq_true_eq, decide_eq_false_iff_not, Bool.not_eq_true', Bool.not_eq_false', Bool.not_eq_true, Bool.not_eq_false, not_true_eq_false, not_false_eq_true, reduceCtorEq] at ha30)
          (exfalso; omega)
          (try simp only [decide_eq_true_eq, decide_eq_false_iff_not, Bool.not_eq_true', Bool.not_eq_false', Bool.not_eq_true, Bool.not_eq_false, not_true_eq_false, not_false_eq_true, reduceCtorEq] at ha30)
          refine WpA.tF 10 rfl (V.fa tb) ?_
          refine WpA.tF 11 rfl (V.ldA tb) ?_
          refine WpA.tF 12 rfl (V.mv) ?_
          refine WpA.tF 13 rfl (V.nc) ?_
          refine WpA.tF 14 rfl (V.fa tb) ?_
          refine WpA.tF 15 rfl (V.ldA tb) ?_
          refine WpA.tF 16 rfl (V.ne (TItem.eqT _ _ _)) ?_
          refine WpA.tF 17 rfl (V.pF) ?_
          refine WpA.tF 18 rfl (V.mv) ?_
          refine WpA.pt 23 (fun ha31 => ?_) (fun ha31 => ?_)
          (try simp only [decide_eq_true_eq, decide_eq_false_iff_not, Bool.not_eq_true', Bool.not_eq_false', Bool.not_eq_true, Bool.not_eq_false, not_true_eq_false, not_false_eq_true, reduceCtorEq] at ha31)
          contradiction
          (try simp only [decide_eq_true_eq, decide_eq_false_iff_not, Bool.not_eq_true', Bool.not_eq_false', Bool.not_eq_true, Bool.not_eq_false, not_true_eq_false, not_false_eq_true, reduceCtorEq] at ha31)
          refine WpA.tF 19 rfl (V.fa tb) ?_
          refine WpA.tF 20 rfl (V.ld1 tb) ?_
          refine WpA.tF 21 rfl (V.mv) ?_
          refine WpA.tF 22 rfl (V.nc) ?_
          refine WpA.tF 23 rfl (V.fa tb) ?_
          refine WpA.tF 24 rfl (V.ld1 tb) ?_
          refine WpA.tF 25 rfl (V.cmp) ?_
          refine WpA.tF 26 rfl (V.pF) ?_
          refine WpA.tF 27 rfl (V.mv) ?_
          refine WpA.pt 32 (fun ha32 => ?_) (fun ha32 => ?_)
          (try simp only [decide_eq_true_eq, decide_eq_false_iff_not, Bool.not_eq_true', Bool.not_eq_false', Bool.not_eq_true, Bool.not_eq_false, not_true_eq_false, not_false_eq_true, reduceCtorEq] at ha32)
          (exfalso; omega)
          (try simp only [decide_eq_true_eq, decide_eq_false_iff_not, Bool.not_eq_true', Bool.not_eq_false', Bool.not_eq_true, Bool.not_eq_false, not_true_eq_false, not_false_eq_true, reduceCtorEq] at ha32)
          refine WpA.tF 28 rfl (V.fa tb) ?_
          refine WpA.tF 29 rfl (V.ld1 tb) ?_
          refine WpA.tF 30 rfl (V.cmp) ?_
          refine WpA.tF 31 rfl (V.pF) ?_
          refine WpA.tF 32 rfl (V.mv) ?_
          refine WpA.pt 37 (fun ha33 => ?_) (fun ha33 => ?_)
          (try simp only [decide_eq_true_eq, decide_eq_false_iff_not, Bool.not_eq_true', Bool.not_eq_false', Bool.not_eq_true, Bool.not_eq_false, not_true_eq_false, not_false_eq_true, reduceCtorEq] at ha33)
          (exfalso; omega)
          (try simp only [decide_eq_true_eq, decide_eq_false_iff_not, Bool.not_eq_true', Bool.not_eq_false', Bool.not_eq_true, Bool.not_eq_false, not_true_eq_false, not_false_eq_true, reduceCtorEq] at ha33)
          refine WpA.tF 33 rfl (V.fa tb) ?_
          refine WpA.tF 34 rfl (V.ld1 tb) ?_
          refine WpA.tF 35 rfl (V.mv) ?_
          refine WpA.tF 36 rfl (V.nc) ?_
          refine WpA.tF 37 rfl (V.fa tb) ?_
          refine WpA.tF 38 rfl (V.ld1 tb) ?_
          refine WpA.tF 39 rfl (V.cmp) ?_
          refine WpA.tF 40 rfl (V.pF) ?_
          refine WpA.ou ?_
          apply Out.seqN
          refine Wp.c (fun ha34 => ?_) (fun ha34 => ?_)
          (try simp only [decide_eq_true_eq, decide_eq_false_iff_not, Bool.not_eq_true', Bool.not_eq_false', Bool.not_eq_true, Bool.not_eq_false, not_true_eq_false, not_false_eq_true, reduceCtorEq] at ha34)
          apply Wp.seq
          apply Wp.region
          refine WpL.v (V.as) ?_
          apply WpL.nil
          apply Out.seqN
          apply Wp.ret
          apply Out.seqR
          refine Out.f1 rfl ResIs.t ⟨?_, rfl⟩
          exact rfl
          (try simp only [decide_eq_true_eq, decide_eq_false_iff_not, Bool.not_eq_true', Bool.not_eq_false', Bool.not_eq_true, Bool.not_eq_false, not_true_eq_false, not_false_eq_true, reduceCtorEq] at ha34)
          (exfalso; omega)
      · refine Ct.enter Try.func38 rfl rfl fun W => ?_
        apply Wp.seq
        apply Wp.region
        refine WpL.o (O.bxA (fun p3 => ?_))
        refine WpL.v (V.as) ?_
        apply WpL.nil
        apply Out.seqN
        apply Wp.seq
        apply Wp.seq
        refine Wp.dG [] ?_ (List.Sublist.cons_cons _ (List.Sublist.cons_cons _ List.Sublist.slnil)) (List.Sublist.cons_cons _ (List.Sublist.cons_cons _ List.Sublist.slnil))
        refine WpA.tF 0 rfl (V.mv) ?_
        refine WpA.tF 1 rfl (V.eqP) ?_
        refine WpA.tF 2 rfl (V.mv) ?_
        refine WpA.tF 3 rfl (V.mv) ?_
        refine WpA.tF 4 rfl (V.nc) ?_
        refine WpA.tF 5 rfl (V.fa tb) ?_
        refine WpA.tF 6 rfl (V.ld1 tb) ?_
        refine WpA.tF 7 rfl (V.cmp) ?_
        refine WpA.tF 8 rfl (V.pF) ?_
        refine WpA.tF 9 rfl (V.mv) ?_
        refine WpA.pt 14 (fun ha40 => ?_) (fun ha40 => ?_)
        (try simp only [decide_eq_true_eq, decide_eq_false_iff_not, Bool.not_eq_true', Bool.not_eq_false', Bool.not_eq_true, Bool.not_eq_false, not_true_eq_false, not_false_eq_true, reduceCtorEq] at ha40)
        (exfalso; omega)
        (try simp only [decide_eq_true_eq, decide_eq_false_iff_not, Bool.not_eq_true', Bool.not_eq_false', Bool.not_eq_true, Bool.not_eq_false, not_true_eq_false, not_false_eq_true, reduceCtorEq] at ha40)
        refine WpA.tF 10 rfl (V.fa tb) ?_
        refine WpA.tF 11 rfl (V.ldA tb) ?_
        refine WpA.tF 12 rfl (V.mv) ?_
        refine WpA.tF 13 rfl (V.nc) ?_
        refine WpA.tF 14 rfl (V.fa tb) ?_
        refine WpA.tF 15 rfl (V.ldA tb) ?_
        refine WpA.tF 16 rfl (V.ne (TItem.eqT _ _ _)) ?_
        refine WpA.tF 17 rfl (V.pF) ?_
        refine WpA.tF 18 rfl (V.mv) ?_
        refine WpA.pt 23 (fun ha41 => ?_) (fun ha41 => ?_)
        (try simp only [decide_eq_true_eq, decide_eq_false_iff_not, Bool.not_eq_true', Bool.not_eq_false', Bool.not_eq_true, Bool.not_eq_false, not_true_eq_false, not_false_eq_true, reduceCtorEq] at ha41)
        contradiction
        (try simp only [decide_eq_true_eq, decide_eq_false_iff_not, Bool.not_eq_true', Bool.not_eq_false', Bool.not_eq_true, Bool.not_eq_false, not_true_eq_false, not_false_eq_true, reduceCtorEq] at ha41)
        refine WpA.tF 19 rfl (V.fa tb) ?_
        refine WpA.tF 20 rfl (V.ld1 tb) ?_
        refine WpA.tF 21 rfl (V.mv) ?_
        refine WpA.tF 22 rfl (V.nc) ?_
        refine WpA.tF 23 rfl (V.fa tb) ?_
        refine WpA.tF 24 rfl (V.ld1 tb) ?_
        refine WpA.tF 25 rfl (V.cmp) ?_
        refine WpA.tF 26 rfl (V.pF) ?_
        refine WpA.tF 27 rfl (V.mv) ?_
        refine WpA.pt 32 (fun ha42 => ?_) (fun ha42 => ?_)
        (try simp only [decide_eq_true_eq, decide_eq_false_iff_not, Bool.not_eq_true', Bool.not_eq_false', Bool.not_eq_true, Bool.not_eq_false, not_true_eq_false, not_false_eq_true, reduceCtorEq] at ha42)
        refine WpA.s 28 rfl ?_
        refine WpA.s 29 rfl ?_
        refine WpA.s 30 rfl ?_
        refine WpA.tF 31 rfl (V.pT) ?_
        refine WpA.tF 32 rfl (V.mv) ?_
        refine WpA.s 33 rfl ?_
        refine WpA.s 34 rfl ?_
        refine WpA.s 35 rfl ?_
        refine WpA.s 36 rfl ?_
        refine WpA.s 37 rfl ?_
        refine WpA.s 38 rfl ?_
        refine WpA.s 39 rfl ?_
        refine WpA.tF 40 rfl (V.pT) ?_
        refine WpA.ou ?_
        apply Out.seqN
        refine Wp.cT ?_
        apply Wp.seq
        apply Wp.region
        refine WpL.v (V.as) ?_
        apply WpL.nil
        apply Out.seqN
        apply Wp.ret
        apply Out.seqR
        refine Out.f1 rfl ResIs.t ⟨?_, rfl⟩
        exact rfl
        (try simp only [decide_eq_true_eq, decide_eq_false_iff_not, Bool.not_eq_true', Bool.not_eq_false', Bool.not_eq_true, Bool.not_eq_false, not_true_eq_false, not_false_eq_true, reduceCtorEq] at ha42)
        (exfalso; omega)
    · refine Ct.enter Try.func38 rfl rfl fun W => ?_
      apply Wp.seq
      apply Wp.region
      refine WpL.o (O.bxA (fun p3 => ?_))
      refine WpL.v (V.as) ?_
      apply WpL.nil
      apply Out.seqN
      apply Wp.seq
      apply Wp.seq
      refine Wp.dG [] ?_ (List.Sublist.cons_cons _ (List.Sublist.cons_cons _ List.Sublist.slnil)) (List.Sublist.cons_cons _ (List.Sublist.cons_cons _ List.Sublist.slnil))
      refine WpA.tF 0 rfl (V.mv) ?_
      refine WpA.tF 1 rfl (V.eqP) ?_
      refine WpA.tF 2 rfl (V.mv) ?_
      refine WpA.tF 3 rfl (V.mv) ?_
      refine WpA.tF 4 rfl (V.nc) ?_
      refine WpA.tF 5 rfl (V.fa tb) ?_
      refine WpA.tF 6 rfl (V.ld1 tb) ?_
      refine WpA.tF 7 rfl (V.cmp) ?_
      refine WpA.tF 8 rfl (V.pF) ?_
      refine WpA.tF 9 rfl (V.mv) ?_
      refine WpA.pt 14 (fun ha50 => ?_) (fun ha50 => ?_)
      (try simp only [decide_eq_true_eq, decide_eq_false_iff_not, Bool.not_eq_true', Bool.not_eq_false', Bool.not_eq_true, Bool.not_eq_false, not_true_eq_false, not_false_eq_true, reduceCtorEq] at ha50)
      (exfalso; omega)
      (try simp only [decide_eq_true_eq, decide_eq_false_iff_not, Bool.not_eq_true', Bool.not_eq_false', Bool.not_eq_true, Bool.not_eq_false, not_true_eq_false, not_false_eq_true, reduceCtorEq] at ha50)
      refine WpA.tF 10 rfl (V.fa tb) ?_
      refine WpA.tF 11 rfl (V.ldA tb) ?_
      refine WpA.tF 12 rfl (V.mv) ?_
      refine WpA.tF 13 rfl (V.nc) ?_
      refine WpA.tF 14 rfl (V.fa tb) ?_
      refine WpA.tF 15 rfl (V.ldA tb) ?_
      refine WpA.tF 16 rfl (V.ne (TItem.eqT _ _ _)) ?_
      refine WpA.tF 17 rfl (V.pF) ?_
      refine WpA.tF 18 rfl (V.mv) ?_
      refine WpA.pt 23 (fun ha51 => ?_) (fun ha51 => ?_)
      (try simp only [decide_eq_true_eq, decide_eq_false_iff_not, Bool.not_eq_true', Bool.not_eq_false', Bool.not_eq_true, Bool.not_eq_false, not_true_eq_false, not_false_eq_true, reduceCtorEq] at ha51)
      refine WpA.s 19 rfl ?_
      refine WpA.s 20 rfl ?_
      refine WpA.s 21 rfl ?_
      refine WpA.s 22 rfl ?_
      refine WpA.s 23 rfl ?_
      refine WpA.s 24 rfl ?_
      refine WpA.s 25 rfl ?_
      refine WpA.tF 26 rfl (V.pT) ?_
      refine WpA.tF 27 rfl (V.mv) ?_
      refine WpA.s 28 rfl ?_
      refine WpA.s 29 rfl ?_
      refine WpA.s 30 rfl ?_
      refine WpA.tF 31 rfl (V.pT) ?_
      refine WpA.tF 32 rfl (V.mv) ?_
      refine WpA.s 33 rfl ?_
      refine WpA.s 34 rfl ?_
      refine WpA.s 35 rfl ?_
      refine WpA.s 36 rfl ?_
      refine WpA.s 37 rfl ?_
      refine WpA.s 38 rfl ?_
      refine WpA.s 39 rfl ?_
      refine WpA.tF 40 rfl (V.pT) ?_
      refine WpA.ou ?_
      apply Out.seqN
      refine Wp.cT ?_
      apply Wp.seq
      apply Wp.region
      refine WpL.v (V.as) ?_
      apply WpL.nil
      apply Out.seqN
      apply Wp.ret
      apply Out.seqR
      refine Out.f1 rfl ResIs.t ⟨?_, rfl⟩
      exact rfl
      (try simp only [decide_eq_true_eq, decide_eq_false_iff_not, Bool.not_eq_true', Bool.not_eq_false', Bool.not_eq_true, Bool.not_eq_false, not_true_eq_false, not_false_eq_true, reduceCtorEq] at ha51)
      contradiction
  by_cases h0 : 2 < x.phase ∨ m.Item ≠ x.item ∨ m.To ≠ x.self ∨ m.From < 0 ∨ x.n ≤ m.From
  · rw [if_pos h0]
    exact hearly h0
  clear hearly
  rw [if_neg h0]
  have g1 : ¬ 2 < x.phase := fun h => h0 (.inl h)
  have g2 : m.Item = x.item := Decidable.byContradiction fun h => h0 (.inr (.inl h))
  have g3 : m.To = x.self := Decidable.byContradiction fun h => h0 (.inr (.inr (.inl h)))
  have g4 : ¬ m.From < 0 := fun h => h0 (.inr (.inr (.inr (.inl h))))
  have g5 : ¬ x.n ≤ m.From := fun h => h0 (.inr (.inr (.inr (.inr h))))
  clear h0
  by_cases h5 : m.Kind = 5
  · rw [if_pos h5]
    clear hP hO
    refine Ct.enter Try.func38 rfl rfl fun W => ?_
    apply Wp.seq
    apply Wp.region
    refine WpL.o (O.bxA (fun p3 => ?_))
    refine WpL.v (V.as) ?_
    apply WpL.nil
    apply Out.seqN
    apply Wp.seq
    apply Wp.seq
    refine Wp.dG [] ?_ (List.Sublist.cons_cons _ (List.Sublist.cons_cons _ List.Sublist.slnil)) (List.Sublist.cons_cons _ (List.Sublist.cons_cons _ List.Sublist.slnil))
    refine WpA.tF 0 rfl (V.mv) ?_
    refine WpA.tF 1 rfl (V.eqP) ?_
    refine WpA.tF 2 rfl (V.mv) ?_
    refine WpA.tF 3 rfl (V.mv) ?_
    refine WpA.tF 4 rfl (V.nc) ?_
    refine WpA.tF 5 rfl (V.fa tb) ?_
    refine WpA.tF 6 rfl (V.ld1 tb) ?_
    refine WpA.tF 7 rfl (V.cmp) ?_
    refine WpA.tF 8 rfl (V.pF) ?_
    refine WpA.tF 9 rfl (V.mv) ?_
    refine WpA.pt 14 (fun hb0 => ?_) (fun hb0 => ?_)
    (try simp only [decide_eq_true_eq, decide_eq_false_iff_not, Bool.not_eq_true', Bool.not_eq_false', Bool.not_eq_true, Bool.not_eq_false, not_true_eq_false, not_false_eq_true, reduceCtorEq] at hb0)
    (exfalso; omega)
    (try simp only [decide_eq_true_eq, decide_eq_false_iff_not, Bool.not_eq_true', Bool.not_eq_false', Bool.not_eq_true, Bool.not_eq_false, not_true_eq_false, not_false_eq_true, reduceCtorEq] at hb0)
    refine WpA.tF 10 rfl (V.fa tb) ?_
    refine WpA.tF 11 rfl (V.ldA tb) ?_
    refine WpA.tF 12 rfl (V.mv) ?_
    refine WpA.tF 13 rfl (V.nc) ?_
    refine WpA.tF 14 rfl (V.fa tb) ?_
    refine WpA.tF 15 rfl (V.ldA tb) ?_
    refine WpA.tF 16 rfl (V.ne (TItem.eqT _ _ _)) ?_
    refine WpA.tF 17 rfl (V.pF) ?_
    refine WpA.tF 18 rfl (V.mv) ?_
    refine WpA.pt 23 (fun hb1 => ?_) (fun hb1 => ?_)
    (try simp only [decide_eq_true_eq, decide_eq_false_iff_not, Bool.not_eq_true', Bool.not_eq_false', Bool.not_eq_true, Bool.not_eq_false, not_true_eq_false, not_false_eq_true, reduceCtorEq] at hb1)
    contradiction
    (try simp only [decide_eq_true_eq, decide_eq_false_iff_not, Bool.not_eq_true', Bool.not_eq_false', Bool.not_eq_true, Bool.not_eq_false, not_true_eq_false, not_false_eq_true, reduceCtorEq] at hb1)
    refine WpA.tF 19 rfl (V.fa tb) ?_
    refine WpA.tF 20 rfl (V.ld1 tb) ?_
    refine WpA.tF 21 rfl (V.mv) ?_
    refine WpA.tF 22 rfl (V.nc) ?_
    refine WpA.tF 23 rfl (V.fa tb) ?_
    refine WpA.tF 24 rfl (V.ld1 tb) ?_
    refine WpA.tF 25 rfl (V.cmp) ?_
    refine WpA.tF 26 rfl (V.pF) ?_
    refine WpA.tF 27 rfl (V.mv) ?_
    refine WpA.pt 32 (fun hb2 => ?_) (fun hb2 => ?_)
    (try simp only [decide_eq_true_eq, decide_eq_false_iff_not, Bool.not_eq_true', Bool.not_eq_false', Bool.not_eq_true, Bool.not_eq_false, not_true_eq_false, not_false_eq_true, reduceCtorEq] at hb2)
    (exfalso; omega)
    (try simp only [decide_eq_true_eq, decide_eq_false_iff_not, Bool.not_eq_true', Bool.not_eq_false', Bool.not_eq_true, Bool.not_eq_false, not_true_eq_false, not_false_eq_true, reduceCtorEq] at hb2)
    refine WpA.tF 28 rfl (V.fa tb) ?_
    refine WpA.tF 29 rfl (V.ld1 tb) ?_
    refine WpA.tF 30 rfl (V.cmp) ?_
    refine WpA.tF 31 rfl (V.pF) ?_
    refine WpA.tF 32 rfl (V.mv) ?_
    refine WpA.pt 37 (fun hb3 => ?_) (fun hb3 => ?_)
    (try simp only [decide_eq_true_eq, decide_eq_false_iff_not, Bool.not_eq_true', Bool.not_eq_false', Bool.not_eq_true, Bool.not_eq_false, not_true_eq_false, not_false_eq_true, reduceCtorEq] at hb3)
    (exfalso; omega)
    (try simp only [decide_eq_true_eq, decide_eq_false_iff_not, Bool.not_eq_true', Bool.not_eq_false', Bool.not_eq_true, Bool.not_eq_false, not_true_eq_false, not_false_eq_true, reduceCtorEq] at hb3)
    refine WpA.tF 33 rfl (V.fa tb) ?_
    refine WpA.tF 34 rfl (V.ld1 tb) ?_
    refine WpA.tF 35 rfl (V.mv) ?_
    refine WpA.tF 36 rfl (V.nc) ?_
    refine WpA.tF 37 rfl (V.fa tb) ?_
    refine WpA.tF 38 rfl (V.ld1 tb) ?_
    refine WpA.tF 39 rfl (V.cmp) ?_
    refine WpA.tF 40 rfl (V.pF) ?_
    refine WpA.ou ?_
    apply Out.seqN
    refine Wp.c (fun hb4 => ?_) (fun hb4 => ?_)
    (try simp only [decide_eq_true_eq, decide_eq_false_iff_not, Bool.not_eq_true', Bool.not_eq_false', Bool.not_eq_true, Bool.not_eq_false, not_true_eq_false, not_false_eq_true, reduceCtorEq] at hb4)
    (exfalso; omega)
    (try simp only [decide_eq_true_eq, decide_eq_false_iff_not, Bool.not_eq_true', Bool.not_eq_false', Bool.not_eq_true, Bool.not_eq_false, not_true_eq_false, not_false_eq_true, reduceCtorEq] at hb4)
    apply Wp.skip
    apply Out.seqN
    apply Wp.seq
    apply Wp.block
    apply Wp.seq
    apply Wp.region
    refine WpL.v (V.fa tb) ?_
    refine WpL.v (V.ld1 tb) ?_
    refine WpL.v (V.cmp) ?_
    refine WpL.v (V.as) ?_
    apply WpL.nil
    apply Out.seqN
    refine Wp.c (fun hb5 => ?_) (fun hb5 => ?_)
    (try simp only [decide_eq_true_eq, decide_eq_false_iff_not, Bool.not_eq_true', Bool.not_eq_false', Bool.not_eq_true, Bool.not_eq_false, not_true_eq_false, not_false_eq_true, reduceCtorEq] at hb5)
    apply Wp.seq
    apply Wp.region
    refine WpL.v (V.mv) ?_
    refine WpL.v (V.mv) ?_
    refine WpL.v (V.fa tb) ?_
    refine WpL.v (V.ldA tb) ?_
    refine WpL.v (V.nc) ?_
    refine WpL.v (V.fa tb) ?_
    refine WpL.o (O.stA tb ?_)
    refine WpL.v (V.nc) ?_
    refine WpL.v (V.fa tb) ?_
    refine WpL.o (O.st1 tb ?_)
    apply WpL.nil
    apply Out.seqN
    apply Wp.seq
    apply Wp.region
    refine WpL.v (V.as) ?_
    apply WpL.nil
    apply Out.seqN
    apply Wp.ret
    apply Out.blockR
    apply Out.seqR
    refine Out.f1 rfl ResIs.t ⟨?_, rfl⟩
    exact rfl
    (try simp only [decide_eq_true_eq, decide_eq_false_iff_not, Bool.not_eq_true', Bool.not_eq_false', Bool.not_eq_true, Bool.not_eq_false, not_true_eq_false, not_false_eq_true, reduceCtorEq] at hb5)
    (exfalso; omega)
  rw [if_neg h5]
  by_cases h8 : m.Kind = 8 ∧ bLt x.ballot m.Ballot = true
  · rw [if_pos h8]
    obtain ⟨h8, h9⟩ := h8
    rw [h9] at hL
    clear hP hO
    refine Ct.enter Try.func38 rfl rfl fun W => ?_
    apply Wp.seq
    apply Wp.region
    refine WpL.o (O.bxA (fun p3 => ?_))
    refine WpL.v (V.as) ?_
    apply WpL.nil
    apply Out.seqN
    apply Wp.seq
    apply Wp.seq
    refine Wp.dG [] ?_ (List.Sublist.cons_cons _ (List.Sublist.cons_cons _ List.Sublist.slnil)) (List.Sublist.cons_cons _ (List.Sublist.cons_cons _ List.Sublist.slnil))
    refine WpA.tF 0 rfl (V.mv) ?_
    refine WpA.tF 1 rfl (V.eqP) ?_
    refine WpA.tF 2 rfl (V.mv) ?_
    refine WpA.tF 3 rfl (V.mv) ?_
    refine WpA.tF 4 rfl (V.nc) ?_
    refine WpA.tF 5 rfl (V.fa tb) ?_
    refine WpA.tF 6 rfl (V.ld1 tb) ?_
    refine WpA.tF 7 rfl (V.cmp) ?_
    refine WpA.tF 8 rfl (V.pF) ?_
    refine WpA.tF 9 rfl (V.mv) ?_
    refine WpA.pt 14 (fun hc0 => ?_) (fun hc0 => ?_)
    (try simp only [decide_eq_true_eq, decide_eq_false_iff_not, Bool.not_eq_true', Bool.not_eq_false', Bool.not_eq_true, Bool.not_eq_false, not_true_eq_false, not_false_eq_true, reduceCtorEq] at hc0)
    (exfalso; omega)
    (try simp only [decide_eq_true_eq, decide_eq_false_iff_not, Bool.not_eq_true', Bool.not_eq_false', Bool.not_eq_true, Bool.not_eq_false, not_true_eq_false, not_false_eq_true, reduceCtorEq] at hc0)
    refine WpA.tF 10 rfl (V.fa tb) ?_
    refine WpA.tF 11 rfl (V.ldA tb) ?_
    refine WpA.tF 12 rfl (V.mv) ?_
    refine WpA.tF 13 rfl (V.nc) ?_
    refine WpA.tF 14 rfl (V.fa tb) ?_
    refine WpA.tF 15 rfl (V.ldA tb) ?_
    refine WpA.tF 16 rfl (V.ne (TItem.eqT _ _ _)) ?_
    refine WpA.tF 17 rfl (V.pF) ?_
    refine WpA.tF 18 rfl (V.mv) ?_
    refine WpA.pt 23 (fun hc1 => ?_) (fun hc1 => ?_)
    (try simp only [decide_eq_true_eq, decide_eq_false_iff_not, Bool.not_eq_true', Bool.not_eq_false', Bool.not_eq_true, Bool.not_eq_false, not_true_eq_false, not_false_eq_true, reduceCtorEq] at hc1)
    contradiction
    (try simp only [decide_eq_true_eq, decide_eq_false_iff_not, Bool.not_eq_true', Bool.not_eq_false', Bool.not_eq_true, Bool.not_eq_false, not_true_eq_false, not_false_eq_true, reduceCtorEq] at hc1)
    refine WpA.tF 19 rfl (V.fa tb) ?_
    refine WpA.tF 20 rfl (V.ld1 tb) ?_
    refine WpA.tF 21 rfl (V.mv) ?_
    refine WpA.tF 22 rfl (V.nc) ?_
    refine WpA.tF 23 rfl (V.fa tb) ?_
    refine WpA.tF 24 rfl (V.ld1 tb) ?_
    refine WpA.tF 25 rfl (V.cmp) ?_
    refine WpA.tF 26 rfl (V.pF) ?_
    refine WpA.tF 27 rfl (V.mv) ?_
    refine WpA.pt 32 (fun hc2 => ?_) (fun hc2 => ?_)
    (try simp only [decide_eq_true_eq, decide_eq_false_iff_not, Bool.not_eq_true', Bool.not_eq_false', Bool.not_eq_true, Bool.not_eq_false, not_true_eq_false, not_false_eq_true, reduceCtorEq] at hc2)
    (exfalso; omega)
    (try simp only [decide_eq_true_eq, decide_eq_false_iff_not, Bool.not_eq_true', Bool.not_eq_false', Bool.not_eq_true, Bool.not_eq_false, not_true_eq_false, not_false_eq_true, reduceCtorEq] at hc2)
    refine WpA.tF 28 rfl (V.fa tb) ?_
    refine WpA.tF 29 rfl (V.ld1 tb) ?_
    refine WpA.tF 30 rfl (V.cmp) ?_
    refine WpA.tF 31 rfl (V.pF) ?_
    refine WpA.tF 32 rfl (V.mv) ?_
    refine WpA.pt 37 (fun hc3 => ?_) (fun hc3 => ?_)
    (try simp only [decide_eq_true_eq, decide_eq_false_iff_not, Bool.not_eq_true', Bool.not_eq_false', Bool.not_eq_true, Bool.not_eq_false, not_true_eq_false, not_false_eq_true, reduceCtorEq] at hc3)
    (exfalso; omega)
    (try simp only [decide_eq_true_eq, decide_eq_false_iff_not, Bool.not_eq_true', Bool.not_eq_false', Bool.not_eq_true, Bool.not_eq_false, not_true_eq_false, not_false_eq_true, reduceCtorEq] at hc3)
    refine WpA.tF 33 rfl (V.fa tb) ?_
    refine WpA.tF 34 rfl (V.ld1 tb) ?_
    refine WpA.tF 35 rfl (V.mv) ?_
    refine WpA.tF 36 rfl (V.nc) ?_
    refine WpA.tF 37 rfl (V.fa tb) ?_
    refine WpA.tF 38 rfl (V.ld1 tb) ?_
    refine WpA.tF 39 rfl (V.cmp) ?_
    refine WpA.tF 40 rfl (V.pF) ?_
    refine WpA.ou ?_
    apply Out.seqN
    refine Wp.c (fun hc4 => ?_) (fun hc4 => ?_)
    (try simp only [decide_eq_true_eq, decide_eq_false_iff_not, Bool.not_eq_true', Bool.not_eq_false', Bool.not_eq_true, Bool.not_eq_false, not_true_eq_false, not_false_eq_true, reduceCtorEq] at hc4)
    (exfalso; omega)
    (try simp only [decide_eq_true_eq, decide_eq_false_iff_not, Bool.not_eq_true', Bool.not_eq_false', Bool.not_eq_true, Bool.not_eq_false, not_true_eq_false, not_false_eq_true, reduceCtorEq] at hc4)
    apply Wp.skip
    apply Out.seqN
    apply Wp.seq
    apply Wp.block
    apply Wp.seq
    apply Wp.region
    refine WpL.v (V.fa tb) ?_
    refine WpL.v (V.ld1 tb) ?_
    refine WpL.v (V.cmp) ?_
    refine WpL.v (V.as) ?_
    apply WpL.nil
    apply Out.seqN
    refine Wp.c (fun hc5 => ?_) (fun hc5 => ?_)
    (try simp only [decide_eq_true_eq, decide_eq_false_iff_not, Bool.not_eq_true', Bool.not_eq_false', Bool.not_eq_true, Bool.not_eq_false, not_true_eq_false, not_false_eq_true, reduceCtorEq] at hc5)
    (exfalso; omega)
    (try simp only [decide_eq_true_eq, decide_eq_false_iff_not, Bool.not_eq_true', Bool.not_eq_false', Bool.not_eq_true, Bool.not_eq_false, not_true_eq_false, not_false_eq_true, reduceCtorEq] at hc5)
    apply Wp.seq
    refine Wp.dG [] ?_ (List.Sublist.cons_cons _ (List.Sublist.cons_cons _ List.Sublist.slnil)) (List.Sublist.cons_cons _ (List.Sublist.cons_cons _ List.Sublist.slnil))
    refine WpA.tF 0 rfl (V.fa tb) ?_
    refine WpA.tF 1 rfl (V.ld1 tb) ?_
    refine WpA.tF 2 rfl (V.cmp) ?_
    refine WpA.tF 3 rfl (V.mv) ?_
    refine WpA.pt 62 (fun hc6 => ?_) (fun hc6 => ?_)
    (try simp only [decide_eq_true_eq, decide_eq_false_iff_not, Bool.not_eq_true', Bool.not_eq_false', Bool.not_eq_true, Bool.not_eq_false, not_true_eq_false, not_false_eq_true, reduceCtorEq] at hc6)
    refine WpA.tF 4 rfl (V.mv) ?_
    refine WpA.tF 5 rfl (V.nc) ?_
    refine WpA.tF 6 rfl (V.fa tb) ?_
    refine WpA.tF 7 rfl (V.ldA tb) ?_
    refine WpA.tF 8 rfl (V.fa tb) ?_
    refine WpA.tF 9 rfl (V.ldA tb) ?_
    refine WpA.oS 10 rfl (Op1.fn rfl (hL) ⟨?_, ?_, ?_⟩)
    exact holdT
    exact holdT
    refine WpA.tF 11 rfl (V.pT) ?_
    refine WpA.tF 12 rfl (V.as) ?_
    refine WpA.ou ?_
    apply Out.seqN
    refine Wp.cT ?_
    apply Wp.seq
    apply Wp.region
    refine WpL.v (V.mv) ?_
    refine WpL.v (V.nc) ?_
    refine WpL.v (V.fa tb) ?_
    refine WpL.o (O.st1 tb ?_)
    apply WpL.nil
    apply Out.seqN
    apply Wp.seq
    apply Wp.region
    refine WpL.v (V.as) ?_
    apply WpL.nil
    apply Out.seqN
    apply Wp.ret
    apply Out.blockR
    apply Out.seqR
    refine Out.f1 rfl ResIs.t ⟨?_, rfl⟩
    exact rfl
    (try simp only [decide_eq_true_eq, decide_eq_false_iff_not, Bool.not_eq_true', Bool.not_eq_false', Bool.not_eq_true, Bool.not_eq_false, not_true_eq_false, not_false_eq_true, reduceCtorEq] at hc6)
    (exfalso; omega)
  rw [if_neg h8]
  by_cases hb : m.Ballot ≠ x.ballot
  · rw [if_pos hb]
    clear hP hO
    by_cases h9 : m.Kind = 8
    · have hf : bLt x.ballot m.Ballot = false := by simpa using fun h => h8 ⟨h9, h⟩
      rw [hf] at hL
      refine Ct.enter Try.func38 rfl rfl fun W => ?_
      apply Wp.seq
      apply Wp.region
      refine WpL.o (O.bxA (fun p3 => ?_))
      refine WpL.v (V.as) ?_
      apply WpL.nil
      apply Out.seqN
      apply Wp.seq
      apply Wp.seq
      refine Wp.dG [] ?_ (List.Sublist.cons_cons _ (List.Sublist.cons_cons _ List.Sublist.slnil)) (List.Sublist.cons_cons _ (List.Sublist.cons_cons _ List.Sublist.slnil))
      refine WpA.tF 0 rfl (V.mv) ?_
      refine WpA.tF 1 rfl (V.eqP) ?_
      refine WpA.tF 2 rfl (V.mv) ?_
      refine WpA.tF 3 rfl (V.mv) ?_
      refine WpA.tF 4 rfl (V.nc) ?_
      refine WpA.tF 5 rfl (V.fa tb) ?_
      refine WpA.tF 6 rfl (V.ld1 tb) ?_
      refine WpA.tF 7 rfl (V.cmp) ?_
      refine WpA.tF 8 rfl (V.pF) ?_
      refine WpA.tF 9 rfl (V.mv) ?_
      refine WpA.pt 14 (fun hd0 => ?_) (fun hd0 => ?_)
      (try simp only [decide_eq_true_eq, decide_eq_false_iff_not, Bool.not_eq_true', Bool.not_eq_false', Bool.not_eq_true, Bool.not_eq_false, not_true_eq_false, not_false_eq_true, reduceCtorEq] at hd0)
      (exfalso; omega)
      (try simp only [decide_eq_true_eq, decide_eq_false_iff_not, Bool.not_eq_true', Bool.not_eq_false', Bool.not_eq_true, Bool.not_eq_false, not_true_eq_false, not_false_eq_true, reduceCtorEq] at hd0)
      refine WpA.tF 10 rfl (V.fa tb) ?_
      refine WpA.tF 11 rfl (V.ldA tb) ?_
      refine WpA.tF 12 rfl (V.mv) ?_
      refine WpA.tF 13 rfl (V.nc) ?_
      refine WpA.tF 14 rfl (V.fa tb) ?_
      refine WpA.tF 15 rfl (V.ldA tb) ?_
      refine WpA.tF 16 rfl (V.ne (TItem.eqT _ _ _)) ?_
      refine WpA.tF 17 rfl (V.pF) ?_
      refine WpA.tF 18 rfl (V.mv) ?_
      refine WpA.pt 23 (fun hd1 => ?_) (fun hd1 => ?_)
      (try simp only [decide_eq_true_eq, decide_eq_false_iff_not, Bool.not_eq_true', Bool.not_eq_false', Bool.not_eq_true, Bool.not_eq_false, not_true_eq_false, not_false_eq_true, reduceCtorEq] at hd1)
      contradiction
      (try simp only [decide_eq_true_eq, decide_eq_false_iff_not, Bool.not_eq_true', Bool.not_eq_false', Bool.not_eq_true, Bool.not_eq_false, not_true_eq_false, not_false_eq_true, reduceCtorEq] at hd1)
      refine WpA.tF 19 rfl (V.fa tb) ?_
      refine WpA.tF 20 rfl (V.ld1 tb) ?_
      refine WpA.tF 21 rfl (V.mv) ?_
      refine WpA.tF 22 rfl (V.nc) ?_
      refine WpA.tF 23 rfl (V.fa tb) ?_
      refine WpA.tF 24 rfl (V.ld1 tb) ?_
      refine WpA.tF 25 rfl (V.cmp) ?_
      refine WpA.tF 26 rfl (V.pF) ?_
      refine WpA.tF 27 rfl (V.mv) ?_
      refine WpA.pt 32 (fun hd2 => ?_) (fun hd2 => ?_)
      (try simp only [decide_eq_true_eq, decide_eq_false_iff_not, Bool.not_eq_true', Bool.not_eq_false', Bool.not_eq_true, Bool.not_eq_false, not_true_eq_false, not_false_eq_true, reduceCtorEq] at hd2)
      (exfalso; omega)
      (try simp only [decide_eq_true_eq, decide_eq_false_iff_not, Bool.not_eq_true', Bool.not_eq_false', Bool.not_eq_true, Bool.not_eq_false, not_true_eq_false, not_false_eq_true, reduceCtorEq] at hd2)
      refine WpA.tF 28 rfl (V.fa tb) ?_
      refine WpA.tF 29 rfl (V.ld1 tb) ?_
      refine WpA.tF 30 rfl (V.cmp) ?_
      refine WpA.tF 31 rfl (V.pF) ?_
      refine WpA.tF 32 rfl (V.mv) ?_
      refine WpA.pt 37 (fun hd3 => ?_) (fun hd3 => ?_)
      (try simp only [decide_eq_true_eq, decide_eq_false_iff_not, Bool.not_eq_true', Bool.not_eq_false', Bool.not_eq_true, Bool.not_eq_false, not_true_eq_false, not_false_eq_true, reduceCtorEq] at hd3)
      (exfalso; omega)
      (try simp only [decide_eq_true_eq, decide_eq_false_iff_not, Bool.not_eq_true', Bool.not_eq_false', Bool.not_eq_true, Bool.not_eq_false, not_true_eq_false, not_false_eq_true, reduceCtorEq] at hd3)
      refine WpA.tF 33 rfl (V.fa tb) ?_
      refine WpA.tF 34 rfl (V.ld1 tb) ?_
      refine WpA.tF 35 rfl (V.mv) ?_
      refine WpA.tF 36 rfl (V.nc) ?_
      refine WpA.tF 37 rfl (V.fa tb) ?_
      refine WpA.tF 38 rfl (V.ld1 tb) ?_
      refine WpA.tF 39 rfl (V.cmp) ?_
      refine WpA.tF 40 rfl (V.pF) ?_
      refine WpA.ou ?_
      apply Out.seqN
      refine Wp.c (fun hd4 => ?_) (fun hd4 => ?_)
      (try simp only [decide_eq_true_eq, decide_eq_false_iff_not, Bool.not_eq_true', Bool.not_eq_false', Bool.not_eq_true, Bool.not_eq_false, not_true_eq_false, not_false_eq_true, reduceCtorEq] at hd4)
      (exfalso; omega)
      (try simp only [decide_eq_true_eq, decide_eq_false_iff_not, Bool.not_eq_true', Bool.not_eq_false', Bool.not_eq_true, Bool.not_eq_false, not_true_eq_false, not_false_eq_true, reduceCtorEq] at hd4)
      apply Wp.skip
      apply Out.seqN
      apply Wp.seq
      apply Wp.block
      apply Wp.seq
      apply Wp.region
      refine WpL.v (V.fa tb) ?_
      refine WpL.v (V.ld1 tb) ?_
      refine WpL.v (V.cmp) ?_
      refine WpL.v (V.as) ?_
      apply WpL.nil
      apply Out.seqN
      refine Wp.c (fun hd5 => ?_) (fun hd5 => ?_)
      (try simp only [decide_eq_true_eq, decide_eq_false_iff_not, Bool.not_eq_true', Bool.not_eq_false', Bool.not_eq_true, Bool.not_eq_false, not_true_eq_false, not_false_eq_true, reduceCtorEq] at hd5)
      (exfalso; omega)
      (try simp only [decide_eq_true_eq, decide_eq_false_iff_not, Bool.not_eq_true', Bool.not_eq_false', Bool.not_eq_true, Bool.not_eq_false, not_true_eq_false, not_false_eq_true, reduceCtorEq] at hd5)
      apply Wp.seq
      refine Wp.dG [] ?_ (List.Sublist.cons_cons _ (List.Sublist.cons_cons _ List.Sublist.slnil)) (List.Sublist.cons_cons _ (List.Sublist.cons_cons _ List.Sublist.slnil))
      refine WpA.tF 0 rfl (V.fa tb) ?_
      refine WpA.tF 1 rfl (V.ld1 tb) ?_
      refine WpA.tF 2 rfl (V.cmp) ?_
      refine WpA.tF 3 rfl (V.mv) ?_
      refine WpA.pt 62 (fun hd6 => ?_) (fun hd6 => ?_)
      (try simp only [decide_eq_true_eq, decide_eq_false_iff_not, Bool.not_eq_true', Bool.not_eq_false', Bool.not_eq_true, Bool.not_eq_false, not_true_eq_false, not_false_eq_true, reduceCtorEq] at hd6)
      refine WpA.tF 4 rfl (V.mv) ?_
      refine WpA.tF 5 rfl (V.nc) ?_
      refine WpA.tF 6 rfl (V.fa tb) ?_
      refine WpA.tF 7 rfl (V.ldA tb) ?_
      refine WpA.tF 8 rfl (V.fa tb) ?_
      refine WpA.tF 9 rfl (V.ldA tb) ?_
      refine WpA.oS 10 rfl (Op1.fn rfl (hL) ⟨?_, ?_, ?_⟩)
      exact holdT
      exact holdT
      refine WpA.tF 11 rfl (V.pT) ?_
      refine WpA.tF 12 rfl (V.as) ?_
      refine WpA.ou ?_
      apply Out.seqN
      refine Wp.cF ?_
      apply Wp.seq
      refine Wp.dG [] ?_ (List.Sublist.cons_cons _ (List.Sublist.cons_cons _ List.Sublist.slnil)) (List.Sublist.cons_cons _ (List.Sublist.cons_cons _ List.Sublist.slnil))
      refine WpA.tF 0 rfl (V.fa tb) ?_
      refine WpA.tF 1 rfl (V.ldA tb) ?_
      refine WpA.tF 2 rfl (V.mv) ?_
      refine WpA.tF 3 rfl (V.nc) ?_
      refine WpA.tF 4 rfl (V.fa tb) ?_
      refine WpA.tF 5 rfl (V.ldA tb) ?_
      refine WpA.tF 6 rfl (V.ne (TBallot.eqT _ _ _)) ?_
      refine WpA.tF 7 rfl (V.as) ?_
      refine WpA.ou ?_
      apply Out.seqN
      refine Wp.c (fun hd7 => ?_) (fun hd7 => ?_)
      (try simp only [decide_eq_true_eq, decide_eq_false_iff_not, Bool.not_eq_true', Bool.not_eq_false', Bool.not_eq_true, Bool.not_eq_false, not_true_eq_false, not_false_eq_true, reduceCtorEq] at hd7)
      apply Wp.seq
      apply Wp.region
      refine WpL.v (V.as) ?_
      apply WpL.nil
      apply Out.seqN
      apply Wp.ret
      apply Out.blockR
      apply Out.seqR
      refine Out.f1 rfl ResIs.t ⟨?_, rfl⟩
      exact rfl
      (try simp only [decide_eq_true_eq, decide_eq_false_iff_not, Bool.not_eq_true', Bool.not_eq_false', Bool.not_eq_true, Bool.not_eq_false, not_true_eq_false, not_false_eq_true, reduceCtorEq] at hd7)
      contradiction
      (try simp only [decide_eq_true_eq, decide_eq_false_iff_not, Bool.not_eq_true', Bool.not_eq_false', Bool.not_eq_true, Bool.not_eq_false, not_true_eq_false, not_false_eq_true, reduceCtorEq] at hd6)
      (exfalso; omega)
    · refine Ct.enter Try.func38 rfl rfl fun W => ?_
      apply Wp.seq
      apply Wp.region
      refine WpL.o (O.bxA (fun p3 => ?_))
      refine WpL.v (V.as) ?_
      apply WpL.nil
      apply Out.seqN
      apply Wp.seq
      apply Wp.seq
      refine Wp.dG [] ?_ (List.Sublist.cons_cons _ (List.Sublist.cons_cons _ List.Sublist.slnil)) (List.Sublist.cons_cons _ (List.Sublist.cons_cons _ List.Sublist.slnil))
      refine WpA.tF 0 rfl (V.mv) ?_
      refine WpA.tF 1 rfl (V.eqP) ?_
      refine WpA.tF 2 rfl (V.mv) ?_
      refine WpA.tF 3 rfl (V.mv) ?_
      refine WpA.tF 4 rfl (V.nc) ?_
      refine WpA.tF 5 rfl (V.fa tb) ?_
      refine WpA.tF 6 rfl (V.ld1 tb) ?_
      refine WpA.tF 7 rfl (V.cmp) ?_
      refine WpA.tF 8 rfl (V.pF) ?_
      refine WpA.tF 9 rfl (V.mv) ?_
      refine WpA.pt 14 (fun he0 => ?_) (fun he0 => ?_)
      (try simp only [decide_eq_true_eq, decide_eq_false_iff_not, Bool.not_eq_true', Bool.not_eq_false', Bool.not_eq_true, Bool.not_eq_false, not_true_eq_false, not_false_eq_true, reduceCtorEq] at he0)
      (exfalso; omega)
      (try simp only [decide_eq_true_eq, decide_eq_false_iff_not, Bool.not_eq_true', Bool.not_eq_false', Bool.not_eq_true, Bool.not_eq_false, not_true_eq_false, not_false_eq_true, reduceCtorEq] at he0)
      refine WpA.tF 10 rfl (V.fa tb) ?_
      refine WpA.tF 11 rfl (V.ldA tb) ?_
      refine WpA.tF 12 rfl (V.mv) ?_
      refine WpA.tF 13 rfl (V.nc) ?_
      refine WpA.tF 14 rfl (V.fa tb) ?_
      refine WpA.tF 15 rfl (V.ldA tb) ?_
      refine WpA.tF 16 rfl (V.ne (TItem.eqT _ _ _)) ?_
      refine WpA.tF 17 rfl (V.pF) ?_
      refine WpA.tF 18 rfl (V.mv) ?_
      refine WpA.pt 23 (fun he1 => ?_) (fun he1 => ?_)
      (try simp only [decide_eq_true_eq, decide_eq_false_iff_not, Bool.not_eq_true', Bool.not_eq_false', Bool.not_eq_true, Bool.not_eq_false, not_true_eq_false, not_false_eq_true, reduceCtorEq] at he1)
      contradiction
      (try simp only [decide_eq_true_eq, decide_eq_false_iff_not, Bool.not_eq_true', Bool.not_eq_false', Bool.not_eq_true, Bool.not_eq_false, not_true_eq_false, not_false_eq_true, reduceCtorEq] at he1)
      refine WpA.tF 19 rfl (V.fa tb) ?_
      refine WpA.tF 20 rfl (V.ld1 tb) ?_
      refine WpA.tF 21 rfl (V.mv) ?_
      refine WpA.tF 22 rfl (V.nc) ?_
      refine WpA.tF 23 rfl (V.fa tb) ?_
      refine WpA.tF 24 rfl (V.ld1 tb) ?_
      refine WpA.tF 25 rfl (V.cmp) ?_
      refine WpA.tF 26 rfl (V.pF) ?_
      refine WpA.tF 27 rfl (V.mv) ?_
      refine WpA.pt 32 (fun he2 => ?_) (fun he2 => ?_)
      (try simp only [decide_eq_true_eq, decide_eq_false_iff_not, Bool.not_eq_true', Bool.not_eq_false', Bool.not_eq_true, Bool.not_eq_false, not_true_eq_false, not_false_eq_true, reduceCtorEq] at he2)
      (exfalso; omega)
      (try simp only [decide_eq_true_eq, decide_eq_false_iff_not, Bool.not_eq_true', Bool.not_eq_false', Bool.not_eq_true, Bool.not_eq_false, not_true_eq_false, not_false_eq_true, reduceCtorEq] at he2)
      refine WpA.tF 28 rfl (V.fa tb) ?_
      refine WpA.tF 29 rfl (V.ld1 tb) ?_
      refine WpA.tF 30 rfl (V.cmp) ?_
      refine WpA.tF 31 rfl (V.pF) ?_
      refine WpA.tF 32 rfl (V.mv) ?_
      refine WpA.pt 37 (fun he3 => ?_) (fun he3 => ?_)
      (try simp only [decide_eq_true_eq, decide_eq_false_iff_not, Bool.not_eq_true', Bool.not_eq_false', Bool.not_eq_true, Bool.not_eq_false, not_true_eq_false, not_false_eq_true, reduceCtorEq] at he3)
      (exfalso; omega)
      (try simp only [decide_eq_true_eq, decide_eq_false_iff_not, Bool.not_eq_true', Bool.not_eq_false', Bool.not_eq_true, Bool.not_eq_false, not_true_eq_false, not_false_eq_true, reduceCtorEq] at he3)
      refine WpA.tF 33 rfl (V.fa tb) ?_
      refine WpA.tF 34 rfl (V.ld1 tb) ?_
      refine WpA.tF 35 rfl (V.mv) ?_
      refine WpA.tF 36 rfl (V.nc) ?_
      refine WpA.tF 37 rfl (V.fa tb) ?_
      refine WpA.tF 38 rfl (V.ld1 tb) ?_
      refine WpA.tF 39 rfl (V.cmp) ?_
      refine WpA.tF 40 rfl (V.pF) ?_
      refine WpA.ou ?_
      apply Out.seqN
      refine Wp.c (fun he4 => ?_) (fun he4 => ?_)
      (try simp only [decide_eq_true_eq, decide_eq_false_iff_not, Bool.not_eq_true', Bool.not_eq_false', Bool.not_eq_true, Bool.not_eq_false, not_true_eq_false, not_false_eq_true, reduceCtorEq] at he4)
      (exfalso; omega)
      (try simp only [decide_eq_true_eq, decide_eq_false_iff_not, Bool.not_eq_true', Bool.not_eq_false', Bool.not_eq_true, Bool.not_eq_false, not_true_eq_false, not_false_eq_true, reduceCtorEq] at he4)
      apply Wp.skip
      apply Out.seqN
      apply Wp.seq
      apply Wp.block
      apply Wp.seq
      apply Wp.region
      refine WpL.v (V.fa tb) ?_
      refine WpL.v (V.ld1 tb) ?_
      refine WpL.v (V.cmp) ?_
      refine WpL.v (V.as) ?_
      apply WpL.nil
      apply Out.seqN
      refine Wp.c (fun he5 => ?_) (fun he5 => ?_)
      (try simp only [decide_eq_true_eq, decide_eq_false_iff_not, Bool.not_eq_true', Bool.not_eq_false', Bool.not_eq_true, Bool.not_eq_false, not_true_eq_false, not_false_eq_true, reduceCtorEq] at he5)
      (exfalso; omega)
      (try simp only [decide_eq_true_eq, decide_eq_false_iff_not, Bool.not_eq_true', Bool.not_eq_false', Bool.not_eq_true, Bool.not_eq_false, not_true_eq_false, not_false_eq_true, reduceCtorEq] at he5)
      apply Wp.seq
      refine Wp.dG [] ?_ (List.Sublist.cons_cons _ (List.Sublist.cons_cons _ List.Sublist.slnil)) (List.Sublist.cons_cons _ (List.Sublist.cons_cons _ List.Sublist.slnil))
      refine WpA.tF 0 rfl (V.fa tb) ?_
      refine WpA.tF 1 rfl (V.ld1 tb) ?_
      refine WpA.tF 2 rfl (V.cmp) ?_
      refine WpA.tF 3 rfl (V.mv) ?_
      refine WpA.pt 62 (fun he6 => ?_) (fun he6 => ?_)
      (try simp only [decide_eq_true_eq, decide_eq_false_iff_not, Bool.not_eq_true', Bool.not_eq_false', Bool.not_eq_true, Bool.not_eq_false, not_true_eq_false, not_false_eq_true, reduceCtorEq] at he6)
      (exfalso; omega)
      (try simp only [decide_eq_true_eq, decide_eq_false_iff_not, Bool.not_eq_true', Bool.not_eq_false', Bool.not_eq_true, Bool.not_eq_false, not_true_eq_false, not_false_eq_true, reduceCtorEq] at he6)
      refine WpA.s 4 rfl ?_
      refine WpA.s 5 rfl ?_
      refine WpA.s 6 rfl ?_
      refine WpA.s 7 rfl ?_
      refine WpA.s 8 rfl ?_
      refine WpA.s 9 rfl ?_
      refine WpA.s 10 rfl ?_
      refine WpA.tF 11 rfl (V.pF) ?_
      refine WpA.tF 12 rfl (V.as) ?_
      refine WpA.ou ?_
      apply Out.seqN
      refine Wp.cF ?_
      apply Wp.seq
      refine Wp.dG [] ?_ (List.Sublist.cons_cons _ (List.Sublist.cons_cons _ List.Sublist.slnil)) (List.Sublist.cons_cons _ (List.Sublist.cons_cons _ List.Sublist.slnil))
      refine WpA.tF 0 rfl (V.fa tb) ?_
      refine WpA.tF 1 rfl (V.ldA tb) ?_
      refine WpA.tF 2 rfl (V.mv) ?_
      refine WpA.tF 3 rfl (V.nc) ?_
      refine WpA.tF 4 rfl (V.fa tb) ?_
      refine WpA.tF 5 rfl (V.ldA tb) ?_
      refine WpA.tF 6 rfl (V.ne (TBallot.eqT _ _ _)) ?_
      refine WpA.tF 7 rfl (V.as) ?_
      refine WpA.ou ?_
      apply Out.seqN
      refine Wp.c (fun he7 => ?_) (fun he7 => ?_)
      (try simp only [decide_eq_true_eq, decide_eq_false_iff_not, Bool.not_eq_true', Bool.not_eq_false', Bool.not_eq_true, Bool.not_eq_false, not_true_eq_false, not_false_eq_true, reduceCtorEq] at he7)
      apply Wp.seq
      apply Wp.region
      refine WpL.v (V.as) ?_
      apply WpL.nil
      apply Out.seqN
      apply Wp.ret
      apply Out.blockR
      apply Out.seqR
      refine Out.f1 rfl ResIs.t ⟨?_, rfl⟩
      exact rfl
      (try simp only [decide_eq_true_eq, decide_eq_false_iff_not, Bool.not_eq_true', Bool.not_eq_false', Bool.not_eq_true, Bool.not_eq_false, not_true_eq_false, not_false_eq_true, reduceCtorEq] at he7)
      contradiction
  rw [if_neg hb]
  have hb := Decidable.of_not_not hb
  have hbl : bLt x.ballot m.Ballot = false := by rw [hb]; simp [bLt]
  rw [hbl] at hL
  by_cases h2 : m.Kind = 2 ∧ x.phase = 1
  · rw [if_pos h2]
    obtain ⟨h2, hp⟩ := h2
    clear hO
    refine Ct.enter Try.func38 rfl rfl fun W => ?_
    apply Wp.seq
    apply Wp.region
    refine WpL.o (O.bxA (fun p3 => ?_))
    refine WpL.v (V.as) ?_
    apply WpL.nil
    apply Out.seqN
    apply Wp.seq
    apply Wp.seq
    refine Wp.dG [] ?_ (List.Sublist.cons_cons _ (List.Sublist.cons_cons _ List.Sublist.slnil)) (List.Sublist.cons_cons _ (List.Sublist.cons_cons _ List.Sublist.slnil))
    refine WpA.tF 0 rfl (V.mv) ?_
    refine WpA.tF 1 rfl (V.eqP) ?_
    refine WpA.tF 2 rfl (V.mv) ?_
    refine WpA.tF 3 rfl (V.mv) ?_
    refine WpA.tF 4 rfl (V.nc) ?_
    refine WpA.tF 5 rfl (V.fa tb) ?_
    refine WpA.tF 6 rfl (V.ld1 tb) ?_
    refine WpA.tF 7 rfl (V.cmp) ?_
    refine WpA.tF 8 rfl (V.pF) ?_
    refine WpA.tF 9 rfl (V.mv) ?_
    refine WpA.pt 14 (fun hf0 => ?_) (fun hf0 => ?_)
    (try simp only [decide_eq_true_eq, decide_eq_false_iff_not, Bool.not_eq_true', Bool.not_eq_false', Bool.not_eq_true, Bool.not_eq_false, not_true_eq_false, not_false_eq_true, reduceCtorEq] at hf0)
    (exfalso; omega)
    (try simp only [decide_eq_true_eq, decide_eq_false_iff_not, Bool.not_eq_true', Bool.not_eq_false', Bool.not_eq_true, Bool.not_eq_false, not_true_eq_false, not_false_eq_true, reduceCtorEq] at hf0)
    refine WpA.tF 10 rfl (V.fa tb) ?_
    refine WpA.tF 11 rfl (V.ldA tb) ?_
    refine WpA.tF 12 rfl (V.mv) ?_
    refine WpA.tF 13 rfl (V.nc) ?_
    refine WpA.tF 14 rfl (V.fa tb) ?_
    refine WpA.tF 15 rfl (V.ldA tb) ?_
    refine WpA.tF 16 rfl (V.ne (TItem.eqT _ _ _)) ?_
    refine WpA.tF 17 rfl (V.pF) ?_
    refine WpA.tF 18 rfl (V.mv) ?_
    refine WpA.pt 23 (fun hf1 => ?_) (fun hf1 => ?_)
    (try simp only [decide_eq_true_eq, decide_eq_false_iff_not, Bool.not_eq_true', Bool.not_eq_false', Bool.not_eq_true, Bool.not_eq_false, not_true_eq_false, not_false_eq_true, reduceCtorEq] at hf1)
    contradiction
    (try simp only [decide_eq_true_eq, decide_eq_false_iff_not, Bool.not_eq_true', Bool.not_eq_false', Bool.not_eq_true, Bool.not_eq_false, not_true_eq_false, not_false_eq_true, reduceCtorEq] at hf1)
    refine WpA.tF 19 rfl (V.fa tb) ?_
    refine WpA.tF 20 rfl (V.ld1 tb) ?_
    refine WpA.tF 21 rfl (V.mv) ?_
    refine WpA.tF 22 rfl (V.nc) ?_
    refine WpA.tF 23 rfl (V.fa tb) ?_
    refine WpA.tF 24 rfl (V.ld1 tb) ?_
    refine WpA.tF 25 rfl (V.cmp) ?_
    refine WpA.tF 26 rfl (V.pF) ?_
    refine WpA.tF 27 rfl (V.mv) ?_
    refine WpA.pt 32 (fun hf2 => ?_) (fun hf2 => ?_)
    (try simp only [decide_eq_true_eq, decide_eq_false_iff_not, Bool.not_eq_true', Bool.not_eq_false', Bool.not_eq_true, Bool.not_eq_false, not_true_eq_false, not_false_eq_true, reduceCtorEq] at hf2)
    (exfalso; omega)
    (try simp only [decide_eq_true_eq, decide_eq_false_iff_not, Bool.not_eq_true', Bool.not_eq_false', Bool.not_eq_true, Bool.not_eq_false, not_true_eq_false, not_false_eq_true, reduceCtorEq] at hf2)
    refine WpA.tF 28 rfl (V.fa tb) ?_
    refine WpA.tF 29 rfl (V.ld1 tb) ?_
    refine WpA.tF 30 rfl (V.cmp) ?_
    refine WpA.tF 31 rfl (V.pF) ?_
    refine WpA.tF 32 rfl (V.mv) ?_
    refine WpA.pt 37 (fun hf3 => ?_) (fun hf3 => ?_)
    (try simp only [decide_eq_true_eq, decide_eq_false_iff_not, Bool.not_eq_true', Bool.not_eq_false', Bool.not_eq_true, Bool.not_eq_false, not_true_eq_false, not_false_eq_true, reduceCtorEq] at hf3)
    (exfalso; omega)
    (try simp only [decide_eq_true_eq, decide_eq_false_iff_not, Bool.not_eq_true', Bool.not_eq_false', Bool.not_eq_true, Bool.not_eq_false, not_true_eq_false, not_false_eq_true, reduceCtorEq] at hf3)
    refine WpA.tF 33 rfl (V.fa tb) ?_
    refine WpA.tF 34 rfl (V.ld1 tb) ?_
    refine WpA.tF 35 rfl (V.mv) ?_
    refine WpA.tF 36 rfl (V.nc) ?_
    refine WpA.tF 37 rfl (V.fa tb) ?_
    refine WpA.tF 38 rfl (V.ld1 tb) ?_
    refine WpA.tF 39 rfl (V.cmp) ?_
    refine WpA.tF 40 rfl (V.pF) ?_
    refine WpA.ou ?_
    apply Out.seqN
    refine Wp.c (fun hf4 => ?_) (fun hf4 => ?_)
    (try simp only [decide_eq_true_eq, decide_eq_false_iff_not, Bool.not_eq_true', Bool.not_eq_false', Bool.not_eq_true, Bool.not_eq_false, not_true_eq_false, not_false_eq_true, reduceCtorEq] at hf4)
    (exfalso; omega)
    (try simp only [decide_eq_true_eq, decide_eq_false_iff_not, Bool.not_eq_true', Bool.not_eq_false', Bool.not_eq_true, Bool.not_eq_false, not_true_eq_false, not_false_eq_true, reduceCtorEq] at hf4)
    apply Wp.skip
    apply Out.seqN
    apply Wp.seq
    apply Wp.block
    apply Wp.seq
    apply Wp.region
    refine WpL.v (V.fa tb) ?_
    refine WpL.v (V.ld1 tb) ?_
    refine WpL.v (V.cmp) ?_
    refine WpL.v (V.as) ?_
    apply WpL.nil
    apply Out.seqN
    refine Wp.c (fun hf5 => ?_) (fun hf5 => ?_)
    (try simp only [decide_eq_true_eq, decide_eq_false_iff_not, Bool.not_eq_true', Bool.not_eq_false', Bool.not_eq_true, Bool.not_eq_false, not_true_eq_false, not_false_eq_true, reduceCtorEq] at hf5)
    (exfalso; omega)
    (try simp only [decide_eq_true_eq, decide_eq_false_iff_not, Bool.not_eq_true', Bool.not_eq_false', Bool.not_eq_true, Bool.not_eq_false, not_true_eq_false, not_false_eq_true, reduceCtorEq] at hf5)
    apply Wp.seq
    refine Wp.dG [] ?_ (List.Sublist.cons_cons _ (List.Sublist.cons_cons _ List.Sublist.slnil)) (List.Sublist.cons_cons _ (List.Sublist.cons_cons _ List.Sublist.slnil))
    refine WpA.tF 0 rfl (V.fa tb) ?_
    refine WpA.tF 1 rfl (V.ld1 tb) ?_
    refine WpA.tF 2 rfl (V.cmp) ?_
    refine WpA.tF 3 rfl (V.mv) ?_
    refine WpA.pt 62 (fun hf6 => ?_) (fun hf6 => ?_)
    (try simp only [decide_eq_true_eq, decide_eq_false_iff_not, Bool.not_eq_true', Bool.not_eq_false', Bool.not_eq_true, Bool.not_eq_false, not_true_eq_false, not_false_eq_true, reduceCtorEq] at hf6)
    (exfalso; omega)
    (try simp only [decide_eq_true_eq, decide_eq_false_iff_not, Bool.not_eq_true', Bool.not_eq_false', Bool.not_eq_true, Bool.not_eq_false, not_true_eq_false, not_false_eq_true, reduceCtorEq] at hf6)
    refine WpA.s 4 rfl ?_
    refine WpA.s 5 rfl ?_
    refine WpA.s 6 rfl ?_
    refine WpA.s 7 rfl ?_
    refine WpA.s 8 rfl ?_
    refine WpA.s 9 rfl ?_
    refine WpA.s 10 rfl ?_
    refine WpA.tF 11 rfl (V.pF) ?_
    refine WpA.tF 12 rfl (V.as) ?_
    refine WpA.ou ?_
    apply Out.seqN
    refine Wp.cF ?_
    apply Wp.seq
    refine Wp.dG [] ?_ (List.Sublist.cons_cons _ (List.Sublist.cons_cons _ List.Sublist.slnil)) (List.Sublist.cons_cons _ (List.Sublist.cons_cons _ List.Sublist.slnil))
    refine WpA.tF 0 rfl (V.fa tb) ?_
    refine WpA.tF 1 rfl (V.ldA tb) ?_
    refine WpA.tF 2 rfl (V.mv) ?_
    refine WpA.tF 3 rfl (V.nc) ?_
    refine WpA.tF 4 rfl (V.fa tb) ?_
    refine WpA.tF 5 rfl (V.ldA tb) ?_
    refine WpA.tF 6 rfl (V.ne (TBallot.eqT _ _ _)) ?_
    refine WpA.tF 7 rfl (V.as) ?_
    refine WpA.ou ?_
    apply Out.seqN
    refine Wp.c (fun hf7 => ?_) (fun hf7 => ?_)
    (try simp only [decide_eq_true_eq, decide_eq_false_iff_not, Bool.not_eq_true', Bool.not_eq_false', Bool.not_eq_true, Bool.not_eq_false, not_true_eq_false, not_false_eq_true, reduceCtorEq] at hf7)
    contradiction
    (try simp only [decide_eq_true_eq, decide_eq_false_iff_not, Bool.not_eq_true', Bool.not_eq_false', Bool.not_eq_true, Bool.not_eq_false, not_true_eq_false, not_false_eq_true, reduceCtorEq] at hf7)
    apply Wp.seq
    apply Wp.region
    refine WpL.v (V.fa tb) ?_
    refine WpL.v (V.ld1 tb) ?_
    refine WpL.v (V.cmp) ?_
    refine WpL.v (V.mv) ?_
    refine WpL.pt (fun hf8 => ?_) (fun hf8 => ?_)
    (try simp only [decide_eq_true_eq, decide_eq_false_iff_not, Bool.not_eq_true', Bool.not_eq_false', Bool.not_eq_true, Bool.not_eq_false, not_true_eq_false, not_false_eq_true, reduceCtorEq] at hf8)
    refine WpL.v (V.mv) ?_
    refine WpL.v (V.nc) ?_
    refine WpL.v (V.fa tb) ?_
    refine WpL.v (V.ld1 tb) ?_
    refine WpL.v (V.cmp) ?_
    refine WpL.v (V.pT) ?_
    refine WpL.v (V.as) ?_
    apply WpL.nil
    apply Out.seqN
    refine Wp.c (fun hf9 => ?_) (fun hf9 => ?_)
    (try simp only [decide_eq_true_eq, decide_eq_false_iff_not, Bool.not_eq_true', Bool.not_eq_false', Bool.not_eq_true, Bool.not_eq_false, not_true_eq_false, not_false_eq_true, reduceCtorEq] at hf9)
    apply Wp.seq
    apply Wp.region
    refine WpL.v (V.mv) ?_
    refine WpL.v (V.ldA tb) ?_
    refine WpL.o (Op1.callT rfl (hP) (by (repeat (first | exact Sel.nil | exact Rem.here | apply Sel.cons | apply Rem.there))) ?_)
    rintro v10 s11 ⟨rfl, rfl⟩
    refine incat ?_
    refine WpL.v (V.as) ?_
    apply WpL.nil
    apply Out.seqN
    apply Wp.ret
    apply Out.blockR
    apply Out.seqR
    refine Out.f1 rfl ResIs.t ⟨?_, rfl⟩
    exact rfl
    (try simp only [decide_eq_true_eq, decide_eq_false_iff_not, Bool.not_eq_true', Bool.not_eq_false', Bool.not_eq_true, Bool.not_eq_false, not_true_eq_false, not_false_eq_true, reduceCtorEq] at hf9)
    (exfalso; omega)
    (try simp only [decide_eq_true_eq, decide_eq_false_iff_not, Bool.not_eq_true', Bool.not_eq_false', Bool.not_eq_true, Bool.not_eq_false, not_true_eq_false, not_false_eq_true, reduceCtorEq] at hf8)
    (exfalso; omega)
  rw [if_neg h2]
  by_cases h4 : m.Kind = 4 ∧ x.phase = 2
  · rw [if_pos h4]
    obtain ⟨h4, hp⟩ := h4
    by_cases hc : x.canO m.From = true
    · rw [if_pos hc]
      rw [if_pos hc, hc] at hO
      have wy := w.putO hc
      have hob := wy.ob
      have hLy := lead_lenO b _ wy
      rw [show (x.putO m.From).om = x.om + 1 from rfl] at hLy hob
      by_cases hq : faults x.n + 1 ≤ x.om + 1
      · rw [if_pos hq]
        refine Ct.enter Try.func38 rfl rfl fun W => ?_
        apply Wp.seq
        apply Wp.region
        refine WpL.o (O.bxA (fun p3 => ?_))
        refine WpL.v (V.as) ?_
        apply WpL.nil
        apply Out.seqN
        apply Wp.seq
        apply Wp.seq
        refine Wp.dG [] ?_ (List.Sublist.cons_cons _ (List.Sublist.cons_cons _ List.Sublist.slnil)) (List.Sublist.cons_cons _ (List.Sublist.cons_cons _ List.Sublist.slnil))
        refine WpA.tF 0 rfl (V.mv) ?_
        refine WpA.tF 1 rfl (V.eqP) ?_
        refine WpA.tF 2 rfl (V.mv) ?_
        refine WpA.tF 3 rfl (V.mv) ?_
        refine WpA.tF 4 rfl (V.nc) ?_
        refine WpA.tF 5 rfl (V.fa tb) ?_
        refine WpA.tF 6 rfl (V.ld1 tb) ?_
        refine WpA.tF 7 rfl (V.cmp) ?_
        refine WpA.tF 8 rfl (V.pF) ?_
        refine WpA.tF 9 rfl (V.mv) ?_
        refine WpA.pt 14 (fun hg0 => ?_) (fun hg0 => ?_)
        (try simp only [decide_eq_true_eq, decide_eq_false_iff_not, Bool.not_eq_true', Bool.not_eq_false', Bool.not_eq_true, Bool.not_eq_false, not_true_eq_false, not_false_eq_true, reduceCtorEq] at hg0)
        (exfalso; omega)
        (try simp only [decide_eq_true_eq, decide_eq_false_iff_not, Bool.not_eq_true', Bool.not_eq_false', Bool.not_eq_true, Bool.not_eq_false, not_true_eq_false, not_false_eq_true, reduceCtorEq] at hg0)
        refine WpA.tF 10 rfl (V.fa tb) ?_
        refine WpA.tF 11 rfl (V.ldA tb) ?_
        refine WpA.tF 12 rfl (V.mv) ?_
        refine WpA.tF 13 rfl (V.nc) ?_
        refine WpA.tF 14 rfl (V.fa tb) ?_
        refine WpA.tF 15 rfl (V.ldA tb) ?_
        refine WpA.tF 16 rfl (V.ne (TItem.eqT _ _ _)) ?_
        refine WpA.tF 17 rfl (V.pF) ?_
        refine WpA.tF 18 rfl (V.mv) ?_
        refine WpA.pt 23 (fun hg1 => ?_) (fun hg1 => ?_)
        (try simp only [decide_eq_true_eq, decide_eq_false_iff_not, Bool.not_eq_true', Bool.not_eq_false', Bool.not_eq_true, Bool.not_eq_false, not_true_eq_false, not_false_eq_true, reduceCtorEq] at hg1)
        contradiction
        (try simp only [decide_eq_true_eq, decide_eq_false_iff_not, Bool.not_eq_true', Bool.not_eq_false', Bool.not_eq_true, Bool.not_eq_false, not_true_eq_false, not_false_eq_true, reduceCtorEq] at hg1)
        refine WpA.tF 19 rfl (V.fa tb) ?_
        refine WpA.tF 20 rfl (V.ld1 tb) ?_
        refine WpA.tF 21 rfl (V.mv) ?_
        refine WpA.tF 22 rfl (V.nc) ?_
        refine WpA.tF 23 rfl (V.fa tb) ?_
        refine WpA.tF 24 rfl (V.ld1 tb) ?_
        refine WpA.tF 25 rfl (V.cmp) ?_
        refine WpA.tF 26 rfl (V.pF) ?_
        refine WpA.tF 27 rfl (V.mv) ?_
        refine WpA.pt 32 (fun hg2 => ?_) (fun hg2 => ?_)
        (try simp only [decide_eq_true_eq, decide_eq_false_iff_not, Bool.not_eq_true', Bool.not_eq_false', Bool.not_eq_true, Bool.not_eq_false, not_true_eq_false, not_false_eq_true, reduceCtorEq] at hg2)
        (exfalso; omega)
        (try simp only [decide_eq_true_eq, decide_eq_false_iff_not, Bool.not_eq_true', Bool.not_eq_false', Bool.not_eq_true, Bool.not_eq_false, not_true_eq_false, not_false_eq_true, reduceCtorEq] at hg2)
        refine WpA.tF 28 rfl (V.fa tb) ?_
        refine WpA.tF 29 rfl (V.ld1 tb) ?_
        refine WpA.tF 30 rfl (V.cmp) ?_
        refine WpA.tF 31 rfl (V.pF) ?_
        refine WpA.tF 32 rfl (V.mv) ?_
        refine WpA.pt 37 (fun hg3 => ?_) (fun hg3 => ?_)
        (try simp only [decide_eq_true_eq, decide_eq_false_iff_not, Bool.not_eq_true', Bool.not_eq_false', Bool.not_eq_true, Bool.not_eq_false, not_true_eq_false, not_false_eq_true, reduceCtorEq] at hg3)
        (exfalso; omega)
        (try simp only [decide_eq_true_eq, decide_eq_false_iff_not, Bool.not_eq_true', Bool.not_eq_false', Bool.not_eq_true, Bool.not_eq_false, not_true_eq_false, not_false_eq_true, reduceCtorEq] at hg3)
        refine WpA.tF 33 rfl (V.fa tb) ?_
        refine WpA.tF 34 rfl (V.ld1 tb) ?_
        refine WpA.tF 35 rfl (V.mv) ?_
        refine WpA.tF 36 rfl (V.nc) ?_
        refine WpA.tF 37 rfl (V.fa tb) ?_
        refine WpA.tF 38 rfl (V.ld1 tb) ?_
        refine WpA.tF 39 rfl (V.cmp) ?_
        refine WpA.tF 40 rfl (V.pF) ?_
        refine WpA.ou ?_
        apply Out.seqN
        refine Wp.c (fun hg4 => ?_) (fun hg4 => ?_)
        (try simp only [decide_eq_true_eq, decide_eq_false_iff_not, Bool.not_eq_true', Bool.not_eq_false', Bool.not_eq_true, Bool.not_eq_false, not_true_eq_false, not_false_eq_true, reduceCtorEq] at hg4)
        (exfalso; omega)
        (try simp only [decide_eq_true_eq, decide_eq_false_iff_not, Bool.not_eq_true', Bool.not_eq_false', Bool.not_eq_true, Bool.not_eq_false, not_true_eq_false, not_false_eq_true, reduceCtorEq] at hg4)
        apply Wp.skip
        apply Out.seqN
        apply Wp.seq
        apply Wp.block
        apply Wp.seq
        apply Wp.region
        refine WpL.v (V.fa tb) ?_
        refine WpL.v (V.ld1 tb) ?_
        refine WpL.v (V.cmp) ?_
        refine WpL.v (V.as) ?_
        apply WpL.nil
        apply Out.seqN
        refine Wp.c (fun hg5 => ?_) (fun hg5 => ?_)
        (try simp only [decide_eq_true_eq, decide_eq_false_iff_not, Bool.not_eq_true', Bool.not_eq_false', Bool.not_eq_true, Bool.not_eq_false, not_true_eq_false, not_false_eq_true, reduceCtorEq] at hg5)
        (exfalso; omega)
        (try simp only [decide_eq_true_eq, decide_eq_false_iff_not, Bool.not_eq_true', Bool.not_eq_false', Bool.not_eq_true, Bool.not_eq_false, not_true_eq_false, not_false_eq_true, reduceCtorEq] at hg5)
        apply Wp.seq
        refine Wp.dG [] ?_ (List.Sublist.cons_cons _ (List.Sublist.cons_cons _ List.Sublist.slnil)) (List.Sublist.cons_cons _ (List.Sublist.cons_cons _ List.Sublist.slnil))
        refine WpA.tF 0 rfl (V.fa tb) ?_
        refine WpA.tF 1 rfl (V.ld1 tb) ?_
        refine WpA.tF 2 rfl (V.cmp) ?_
        refine WpA.tF 3 rfl (V.mv) ?_
        refine WpA.pt 62 (fun hg6 => ?_) (fun hg6 => ?_)
        (try simp only [decide_eq_true_eq, decide_eq_false_iff_not, Bool.not_eq_true', Bool.not_eq_false', Bool.not_eq_true, Bool.not_eq_false, not_true_eq_false, not_false_eq_true, reduceCtorEq] at hg6)
        (exfalso; omega)
        (try simp only [decide_eq_true_eq, decide_eq_false_iff_not, Bool.not_eq_true', Bool.not_eq_false', Bool.not_eq_true, Bool.not_eq_false, not_true_eq_false, not_false_eq_true, reduceCtorEq] at hg6)
        refine WpA.s 4 rfl ?_
        refine WpA.s 5 rfl ?_
        refine WpA.s 6 rfl ?_
        refine WpA.s 7 rfl ?_
        refine WpA.s 8 rfl ?_
        refine WpA.s 9 rfl ?_
        refine WpA.s 10 rfl ?_
        refine WpA.tF 11 rfl (V.pF) ?_
        refine WpA.tF 12 rfl (V.as) ?_
        refine WpA.ou ?_
        apply Out.seqN
        refine Wp.cF ?_
        apply Wp.seq
        refine Wp.dG [] ?_ (List.Sublist.cons_cons _ (List.Sublist.cons_cons _ List.Sublist.slnil)) (List.Sublist.cons_cons _ (List.Sublist.cons_cons _ List.Sublist.slnil))
        refine WpA.tF 0 rfl (V.fa tb) ?_
        refine WpA.tF 1 rfl (V.ldA tb) ?_
        refine WpA.tF 2 rfl (V.mv) ?_
        refine WpA.tF 3 rfl (V.nc) ?_
        refine WpA.tF 4 rfl (V.fa tb) ?_
        refine WpA.tF 5 rfl (V.ldA tb) ?_
        refine WpA.tF 6 rfl (V.ne (TBallot.eqT _ _ _)) ?_
        refine WpA.tF 7 rfl (V.as) ?_
        refine WpA.ou ?_
        apply Out.seqN
        refine Wp.c (fun hg7 => ?_) (fun hg7 => ?_)
        (try simp only [decide_eq_true_eq, decide_eq_false_iff_not, Bool.not_eq_true', Bool.not_eq_false', Bool.not_eq_true, Bool.not_eq_false, not_true_eq_false, not_false_eq_true, reduceCtorEq] at hg7)
        contradiction
        (try simp only [decide_eq_true_eq, decide_eq_false_iff_not, Bool.not_eq_true', Bool.not_eq_false', Bool.not_eq_true, Bool.not_eq_false, not_true_eq_false, not_false_eq_true, reduceCtorEq] at hg7)
        apply Wp.seq
        apply Wp.region
        refine WpL.v (V.fa tb) ?_
        refine WpL.v (V.ld1 tb) ?_
        refine WpL.v (V.cmp) ?_
        refine WpL.v (V.mv) ?_
        refine WpL.pt (fun hg8 => ?_) (fun hg8 => ?_)
        (try simp only [decide_eq_true_eq, decide_eq_false_iff_not, Bool.not_eq_true', Bool.not_eq_false', Bool.not_eq_true, Bool.not_eq_false, not_true_eq_false, not_false_eq_true, reduceCtorEq] at hg8)
        (exfalso; omega)
        (try simp only [decide_eq_true_eq, decide_eq_false_iff_not, Bool.not_eq_true', Bool.not_eq_false', Bool.not_eq_true, Bool.not_eq_false, not_true_eq_false, not_false_eq_true, reduceCtorEq] at hg8)
        refine WpL.sk ?_
        refine WpL.sk ?_
        refine WpL.sk ?_
        refine WpL.sk ?_
        refine WpL.sk ?_
        refine WpL.v (V.pF) ?_
        refine WpL.v (V.as) ?_
        apply WpL.nil
        apply Out.seqN
        refine Wp.cF ?_
        apply Wp.seq
        apply Wp.region
        refine WpL.v (V.fa tb) ?_
        refine WpL.v (V.ld1 tb) ?_
        refine WpL.v (V.cmp) ?_
        refine WpL.v (V.mv) ?_
        refine WpL.pt (fun hg9 => ?_) (fun hg9 => ?_)
        (try simp only [decide_eq_true_eq, decide_eq_false_iff_not, Bool.not_eq_true', Bool.not_eq_false', Bool.not_eq_true, Bool.not_eq_false, not_true_eq_false, not_false_eq_true, reduceCtorEq] at hg9)
        refine WpL.v (V.mv) ?_
        refine WpL.v (V.nc) ?_
        refine WpL.v (V.fa tb) ?_
        refine WpL.v (V.ld1 tb) ?_
        refine WpL.v (V.cmp) ?_
        refine WpL.v (V.pT) ?_
        refine WpL.v (V.as) ?_
        apply WpL.nil
        apply Out.seqN
        refine Wp.c (fun hg10 => ?_) (fun hg10 => ?_)
        (try simp only [decide_eq_true_eq, decide_eq_false_iff_not, Bool.not_eq_true', Bool.not_eq_false', Bool.not_eq_true, Bool.not_eq_false, not_true_eq_false, not_false_eq_true, reduceCtorEq] at hg10)
        rotate_left
        (try simp only [decide_eq_true_eq, decide_eq_false_iff_not, Bool.not_eq_true', Bool.not_eq_false', Bool.not_eq_true, Bool.not_eq_false, not_true_eq_false, not_false_eq_true, reduceCtorEq] at hg10)
        (exfalso; omega)
        (try simp only [decide_eq_true_eq, decide_eq_false_iff_not, Bool.not_eq_true', Bool.not_eq_false', Bool.not_eq_true, Bool.not_eq_false, not_true_eq_false, not_false_eq_true, reduceCtorEq] at hg9)
        (exfalso; omega)
        apply Wp.seq
        refine Wp.dG [] ?_ (List.Sublist.cons_cons _ (List.Sublist.cons _ List.Sublist.slnil)) (List.Sublist.cons_cons _ (List.Sublist.cons _ List.Sublist.slnil))
        refine WpA.tF 0 rfl (V.mv) ?_
        refine WpA.tF 1 rfl (V.nc) ?_
        refine WpA.tF 2 rfl (V.fa tb) ?_
        refine WpA.tF 3 rfl (V.fa tb) ?_
        refine WpA.tF 4 rfl (V.ld1 tb) ?_
        refine WpA.oS 5 rfl (Op1.callT rfl (hO) (by (repeat (first | exact Sel.nil | exact Rem.here | apply Sel.cons | apply Rem.there))) ?_)
        rintro v0 s1 ⟨rfl, rfl⟩
        refine incat ⟨?_, ?_, ?_⟩
        exact holdT
        exact holdT
        refine WpA.tF 6 rfl (V.mv) ?_
        refine WpA.tF 7 rfl (V.mv) ?_
        refine WpA.tF 8 rfl (V.nc) ?_
        refine WpA.tF 9 rfl (V.fa tb) ?_
        refine WpA.tF 11 rfl (V.mv) ?_
        refine WpA.tF 12 rfl (V.nc) ?_
        refine WpA.tF 13 rfl (V.fa tb) ?_
        refine WpA.e2 10 14 rfl rfl ?_ ?_
        refine Op1.callT rfl (hLy) (by (repeat (first | exact Sel.nil | exact Rem.here | apply Sel.cons | apply Rem.there))) ?_
        rintro v2 s3 ⟨rfl, rfl⟩
        refine incat ⟨?_, ?_, ?_⟩
        exact holdT
        exact holdT
        refine WpA.oS 14 rfl (Op1.vv (V.ld1 tb) ⟨?_, ?_, ?_⟩)
        exact holdT
        exact holdT
        refine WpA.oS 15 rfl (Op1.fn rfl (hmost) ⟨?_, ?_, ?_⟩)
        exact holdT
        exact holdT
        refine WpA.tF 16 rfl (V.cmp) ?_
        refine WpA.tF 17 rfl (V.pT) ?_
        refine WpA.ou ?_
        apply Out.seqN
        refine Wp.c (fun hgb4 => ?_) (fun hgb4 => ?_)
        (try simp only [decide_eq_true_eq, decide_eq_false_iff_not, Bool.not_eq_true', Bool.not_eq_false', Bool.not_eq_true, Bool.not_eq_false, not_true_eq_false, not_false_eq_true, reduceCtorEq] at hgb4)
        apply Wp.seq
        apply Wp.region
        refine WpL.v (V.mv) ?_
        refine WpL.v (V.nc) ?_
        refine WpL.v (V.fa tb) ?_
        refine WpL.o (O.st1 tb ?_)
        apply WpL.nil
        apply Out.seqN
        apply Wp.seq
        apply Wp.region
        refine WpL.v (V.as) ?_
        apply WpL.nil
        apply Out.seqN
        apply Wp.ret
        apply Out.blockR
        apply Out.seqR
        refine Out.f1 rfl ResIs.t ⟨?_, rfl⟩
        exact rfl
        (try simp only [decide_eq_true_eq, decide_eq_false_iff_not, Bool.not_eq_true', Bool.not_eq_false', Bool.not_eq_true, Bool.not_eq_false, not_true_eq_false, not_false_eq_true, reduceCtorEq] at hgb4)
        (exfalso; omega)
        refine Op1.vv (V.ld1 tb) ⟨?_, ?_, ?_⟩
        exact holdT
        exact holdT
        refine WpA.oS 10 rfl (Op1.callT rfl (hLy) (by (repeat (first | exact Sel.nil | exact Rem.here | apply Sel.cons | apply Rem.there))) ?_)
        rintro v5 s6 ⟨rfl, rfl⟩
        refine incat ⟨?_, ?_, ?_⟩
        exact holdT
        exact holdT
        refine WpA.oS 15 rfl (Op1.fn rfl (hmost) ⟨?_, ?_, ?_⟩)
        exact holdT
        exact holdT
        refine WpA.tF 16 rfl (V.cmp) ?_
        refine WpA.tF 17 rfl (V.pT) ?_
        refine WpA.ou ?_
        apply Out.seqN
        refine Wp.c (fun hgb7 => ?_) (fun hgb7 => ?_)
        (try simp only [decide_eq_true_eq, decide_eq_false_iff_not, Bool.not_eq_true', Bool.not_eq_false', Bool.not_eq_true, Bool.not_eq_false, not_true_eq_false, not_false_eq_true, reduceCtorEq] at hgb7)
        apply Wp.seq
        apply Wp.region
        refine WpL.v (V.mv) ?_
        refine WpL.v (V.nc) ?_
        refine WpL.v (V.fa tb) ?_
        refine WpL.o (O.st1 tb ?_)
        apply WpL.nil
        apply Out.seqN
        apply Wp.seq
        apply Wp.region
        refine WpL.v (V.as) ?_
        apply WpL.nil
        apply Out.seqN
        apply Wp.ret
        apply Out.blockR
        apply Out.seqR
        refine Out.f1 rfl ResIs.t ⟨?_, rfl⟩
        exact rfl
        (try simp only [decide_eq_true_eq, decide_eq_false_iff_not, Bool.not_eq_true', Bool.not_eq_false', Bool.not_eq_true, Bool.not_eq_false, not_true_eq_false, not_false_eq_true, reduceCtorEq] at hgb7)
        (exfalso; omega)
      · rw [if_neg hq]
        refine Ct.enter Try.func38 rfl rfl fun W => ?_
        apply Wp.seq
        apply Wp.region
        refine WpL.o (O.bxA (fun p3 => ?_))
        refine WpL.v (V.as) ?_
        apply WpL.nil
        apply Out.seqN
        apply Wp.seq
        apply Wp.seq
        refine Wp.dG [] ?_ (List.Sublist.cons_cons _ (List.Sublist.cons_cons _ List.Sublist.slnil)) (List.Sublist.cons_cons _ (List.Sublist.cons_cons _ List.Sublist.slnil))
        refine WpA.tF 0 rfl (V.mv) ?_
        refine WpA.tF 1 rfl (V.eqP) ?_
        refine WpA.tF 2 rfl (V.mv) ?_
        refine WpA.tF 3 rfl (V.mv) ?_
        refine WpA.tF 4 rfl (V.nc) ?_
        refine WpA.tF 5 rfl (V.fa tb) ?_
        refine WpA.tF 6 rfl (V.ld1 tb) ?_
        refine WpA.tF 7 rfl (V.cmp) ?_
        refine WpA.tF 8 rfl (V.pF) ?_
        refine WpA.tF 9 rfl (V.mv) ?_
        refine WpA.pt 14 (fun hh0 => ?_) (fun hh0 => ?_)
        (try simp only [decide_eq_true_eq, decide_eq_false_iff_not, Bool.not_eq_true', Bool.not_eq_false', Bool.not_eq_true, Bool.not_eq_false, not_true_eq_false, not_false_eq_true, reduceCtorEq] at hh0)
        (exfalso; omega)
        (try simp only [decide_eq_true_eq, decide_eq_false_iff_not, Bool.not_eq_true', Bool.not_eq_false', Bool.not_eq_true, Bool.not_eq_false, not_true_eq_false, not_false_eq_true, reduceCtorEq] at hh0)
        refine WpA.tF 10 rfl (V.fa tb) ?_
        refine WpA.tF 11 rfl (V.ldA tb) ?_
        refine WpA.tF 12 rfl (V.mv) ?_
        refine WpA.tF 13 rfl (V.nc) ?_
        refine WpA.tF 14 rfl (V.fa tb) ?_
        refine WpA.tF 15 rfl (V.ldA tb) ?_
        refine WpA.tF 16 rfl (V.ne (TItem.eqT _ _ _)) ?_
        refine WpA.tF 17 rfl (V.pF) ?_
        refine WpA.tF 18 rfl (V.mv) ?_
        refine WpA.pt 23 (fun hh1 => ?_) (fun hh1 => ?_)
        (try simp only [decide_eq_true_eq, decide_eq_false_iff_not, Bool.not_eq_true', Bool.not_eq_false', Bool.not_eq_true, Bool.not_eq_false, not_true_eq_false, not_false_eq_true, reduceCtorEq] at hh1)
        contradiction
        (try simp only [decide_eq_true_eq, decide_eq_false_iff_not, Bool.not_eq_true', Bool.not_eq_false', Bool.not_eq_true, Bool.not_eq_false, not_true_eq_false, not_false_eq_true, reduceCtorEq] at hh1)
        refine WpA.tF 19 rfl (V.fa tb) ?_
        refine WpA.tF 20 rfl (V.ld1 tb) ?_
        refine WpA.tF 21 rfl (V.mv) ?_
        refine WpA.tF 22 rfl (V.nc) ?_
        refine WpA.tF 23 rfl (V.fa tb) ?_
        refine WpA.tF 24 rfl (V.ld1 tb) ?_
        refine WpA.tF 25 rfl (V.cmp) ?_
        refine WpA.tF 26 rfl (V.pF) ?_
        refine WpA.tF 27 rfl (V.mv) ?_
        refine WpA.pt 32 (fun hh2 => ?_) (fun hh2 => ?_)
        (try simp only [decide_eq_true_eq, decide_eq_false_iff_not, Bool.not_eq_true', Bool.not_eq_false', Bool.not_eq_true, Bool.not_eq_false, not_true_eq_false, not_false_eq_true, reduceCtorEq] at hh2)
        (exfalso; omega)
        (try simp only [decide_eq_true_eq, decide_eq_false_iff_not, Bool.not_eq_true', Bool.not_eq_false', Bool.not_eq_true, Bool.not_eq_false, not_true_eq_false, not_false_eq_true, reduceCtorEq] at hh2)
        refine WpA.tF 28 rfl (V.fa tb) ?_
        refine WpA.tF 29 rfl (V.ld1 tb) ?_
        refine WpA.tF 30 rfl (V.cmp) ?_
        refine WpA.tF 31 rfl (V.pF) ?_
        refine WpA.tF 32 rfl (V.mv) ?_
        refine WpA.pt 37 (fun hh3 => ?_) (fun hh3 => ?_)
        (try simp only [decide_eq_true_eq, decide_eq_false_iff_not, Bool.not_eq_true', Bool.not_eq_false', Bool.not_eq_true, Bool.not_eq_false, not_true_eq_false, not_false_eq_true, reduceCtorEq] at hh3)
        (exfalso; omega)
        (try simp only [decide_eq_true_eq, decide_eq_false_iff_not, Bool.not_eq_true', Bool.not_eq_false', Bool.not_eq_true, Bool.not_eq_false, not_true_eq_false, not_false_eq_true, reduceCtorEq] at hh3)
        refine WpA.tF 33 rfl (V.fa tb) ?_
        refine WpA.tF 34 rfl (V.ld1 tb) ?_
        refine WpA.tF 35 rfl (V.mv) ?_
        refine WpA.tF 36 rfl (V.nc) ?_
        refine WpA.tF 37 rfl (V.fa tb) ?_
        refine WpA.tF 38 rfl (V.ld1 tb) ?_
        refine WpA.tF 39 rfl (V.cmp) ?_
        refine WpA.tF 40 rfl (V.pF) ?_
        refine WpA.ou ?_
        apply Out.seqN
        refine Wp.c (fun hh4 => ?_) (fun hh4 => ?_)
        (try simp only [decide_eq_true_eq, decide_eq_false_iff_not, Bool.not_eq_true', Bool.not_eq_false', Bool.not_eq_true, Bool.not_eq_false, not_true_eq_false, not_false_eq_true, reduceCtorEq] at hh4)
        (exfalso; omega)
        (try simp only [decide_eq_true_eq, decide_eq_false_iff_not, Bool.not_eq_true', Bool.not_eq_false', Bool.not_eq_true, Bool.not_eq_false, not_true_eq_false, not_false_eq_true, reduceCtorEq] at hh4)
        apply Wp.skip
        apply Out.seqN
        apply Wp.seq
        apply Wp.block
        apply Wp.seq
        apply Wp.region
        refine WpL.v (V.fa tb) ?_
        refine WpL.v (V.ld1 tb) ?_
        refine WpL.v (V.cmp) ?_
        refine WpL.v (V.as) ?_
        apply WpL.nil
        apply Out.seqN
        refine Wp.c (fun hh5 => ?_) (fun hh5 => ?_)
        (try simp only [decide_eq_true_eq, decide_eq_false_iff_not, Bool.not_eq_true', Bool.not_eq_false', Bool.not_eq_true, Bool.not_eq_false, not_true_eq_false, not_false_eq_true, reduceCtorEq] at hh5)
        (exfalso; omega)
        (try simp only [decide_eq_true_eq, decide_eq_false_iff_not, Bool.not_eq_true', Bool.not_eq_false', Bool.not_eq_true, Bool.not_eq_false, not_true_eq_false, not_false_eq_true, reduceCtorEq] at hh5)
        apply Wp.seq
        refine Wp.dG [] ?_ (List.Sublist.cons_cons _ (List.Sublist.cons_cons _ List.Sublist.slnil)) (List.Sublist.cons_cons _ (List.Sublist.cons_cons _ List.Sublist.slnil))
        refine WpA.tF 0 rfl (V.fa tb) ?_
        refine WpA.tF 1 rfl (V.ld1 tb) ?_
        refine WpA.tF 2 rfl (V.cmp) ?_
        refine WpA.tF 3 rfl (V.mv) ?_
        refine WpA.pt 62 (fun hh6 => ?_) (fun hh6 => ?_)
        (try simp only [decide_eq_true_eq, decide_eq_false_iff_not, Bool.not_eq_true', Bool.not_eq_false', Bool.not_eq_true, Bool.not_eq_false, not_true_eq_false, not_false_eq_true, reduceCtorEq] at hh6)
        (exfalso; omega)
        (try simp only [decide_eq_true_eq, decide_eq_false_iff_not, Bool.not_eq_true', Bool.not_eq_false', Bool.not_eq_true, Bool.not_eq_false, not_true_eq_false, not_false_eq_true, reduceCtorEq] at hh6)
        refine WpA.s 4 rfl ?_
        refine WpA.s 5 rfl ?_
        refine WpA.s 6 rfl ?_
        refine WpA.s 7 rfl ?_
        refine WpA.s 8 rfl ?_
        refine WpA.s 9 rfl ?_
        refine WpA.s 10 rfl ?_
        refine WpA.tF 11 rfl (V.pF) ?_
        refine WpA.tF 12 rfl (V.as) ?_
        refine WpA.ou ?_
        apply Out.seqN
        refine Wp.cF ?_
        apply Wp.seq
        refine Wp.dG [] ?_ (List.Sublist.cons_cons _ (List.Sublist.cons_cons _ List.Sublist.slnil)) (List.Sublist.cons_cons _ (List.Sublist.cons_cons _ List.Sublist.slnil))
        refine WpA.tF 0 rfl (V.fa tb) ?_
        refine WpA.tF 1 rfl (V.ldA tb) ?_
        refine WpA.tF 2 rfl (V.mv) ?_
        refine WpA.tF 3 rfl (V.nc) ?_
        refine WpA.tF 4 rfl (V.fa tb) ?_
        refine WpA.tF 5 rfl (V.ldA tb) ?_
        refine WpA.tF 6 rfl (V.ne (TBallot.eqT _ _ _)) ?_
        refine WpA.tF 7 rfl (V.as) ?_
        refine WpA.ou ?_
        apply Out.seqN
        refine Wp.c (fun hh7 => ?_) (fun hh7 => ?_)
        (try simp only [decide_eq_true_eq, decide_eq_false_iff_not, Bool.not_eq_true', Bool.not_eq_false', Bool.not_eq_true, Bool.not_eq_false, not_true_eq_false, not_false_eq_true, reduceCtorEq] at hh7)
        contradiction
        (try simp only [decide_eq_true_eq, decide_eq_false_iff_not, Bool.not_eq_true', Bool.not_eq_false', Bool.not_eq_true, Bool.not_eq_false, not_true_eq_false, not_false_eq_true, reduceCtorEq] at hh7)
        apply Wp.seq
        apply Wp.region
        refine WpL.v (V.fa tb) ?_
        refine WpL.v (V.ld1 tb) ?_
        refine WpL.v (V.cmp) ?_
        refine WpL.v (V.mv) ?_
        refine WpL.pt (fun hh8 => ?_) (fun hh8 => ?_)
        (try simp only [decide_eq_true_eq, decide_eq_false_iff_not, Bool.not_eq_true', Bool.not_eq_false', Bool.not_eq_true, Bool.not_eq_false, not_true_eq_false, not_false_eq_true, reduceCtorEq] at hh8)
        (exfalso; omega)
        (try simp only [decide_eq_true_eq, decide_eq_false_iff_not, Bool.not_eq_true', Bool.not_eq_false', Bool.not_eq_true, Bool.not_eq_false, not_true_eq_false, not_false_eq_true, reduceCtorEq] at hh8)
        refine WpL.sk ?_
        refine WpL.sk ?_
        refine WpL.sk ?_
        refine WpL.sk ?_
        refine WpL.sk ?_
        refine WpL.v (V.pF) ?_
        refine WpL.v (V.as) ?_
        apply WpL.nil
        apply Out.seqN
        refine Wp.cF ?_
        apply Wp.seq
        apply Wp.region
        refine WpL.v (V.fa tb) ?_
        refine WpL.v (V.ld1 tb) ?_
        refine WpL.v (V.cmp) ?_
        refine WpL.v (V.mv) ?_
        refine WpL.pt (fun hh9 => ?_) (fun hh9 => ?_)
        (try simp only [decide_eq_true_eq, decide_eq_false_iff_not, Bool.not_eq_true', Bool.not_eq_false', Bool.not_eq_true, Bool.not_eq_false, not_true_eq_false, not_false_eq_true, reduceCtorEq] at hh9)
        refine WpL.v (V.mv) ?_
        refine WpL.v (V.nc) ?_
        refine WpL.v (V.fa tb) ?_
        refine WpL.v (V.ld1 tb) ?_
        refine WpL.v (V.cmp) ?_
        refine WpL.v (V.pT) ?_
        refine WpL.v (V.as) ?_
        apply WpL.nil
        apply Out.seqN
        refine Wp.c (fun hh10 => ?_) (fun hh10 => ?_)
        (try simp only [decide_eq_true_eq, decide_eq_false_iff_not, Bool.not_eq_true', Bool.not_eq_false', Bool.not_eq_true, Bool.not_eq_false, not_true_eq_false, not_false_eq_true, reduceCtorEq] at hh10)
        rotate_left
        (try simp only [decide_eq_true_eq, decide_eq_false_iff_not, Bool.not_eq_true', Bool.not_eq_false', Bool.not_eq_true, Bool.not_eq_false, not_true_eq_false, not_false_eq_true, reduceCtorEq] at hh10)
        (exfalso; omega)
        (try simp only [decide_eq_true_eq, decide_eq_false_iff_not, Bool.not_eq_true', Bool.not_eq_false', Bool.not_eq_true, Bool.not_eq_false, not_true_eq_false, not_false_eq_true, reduceCtorEq] at hh9)
        (exfalso; omega)
        apply Wp.seq
        refine Wp.dG [] ?_ (List.Sublist.cons_cons _ (List.Sublist.cons _ List.Sublist.slnil)) (List.Sublist.cons_cons _ (List.Sublist.cons _ List.Sublist.slnil))
        refine WpA.tF 0 rfl (V.mv) ?_
        refine WpA.tF 1 rfl (V.nc) ?_
        refine WpA.tF 2 rfl (V.fa tb) ?_
        refine WpA.tF 3 rfl (V.fa tb) ?_
        refine WpA.tF 4 rfl (V.ld1 tb) ?_
        refine WpA.oS 5 rfl (Op1.callT rfl (hO) (by (repeat (first | exact Sel.nil | exact Rem.here | apply Sel.cons | apply Rem.there))) ?_)
        rintro v0 s1 ⟨rfl, rfl⟩
        refine incat ⟨?_, ?_, ?_⟩
        exact holdT
        exact holdT
        refine WpA.tF 6 rfl (V.mv) ?_
        refine WpA.tF 7 rfl (V.mv) ?_
        refine WpA.tF 8 rfl (V.nc) ?_
        refine WpA.tF 9 rfl (V.fa tb) ?_
        refine WpA.tF 11 rfl (V.mv) ?_
        refine WpA.tF 12 rfl (V.nc) ?_
        refine WpA.tF 13 rfl (V.fa tb) ?_
        refine WpA.e2 10 14 rfl rfl ?_ ?_
        refine Op1.callT rfl (hLy) (by (repeat (first | exact Sel.nil | exact Rem.here | apply Sel.cons | apply Rem.there))) ?_
        rintro v2 s3 ⟨rfl, rfl⟩
        refine incat ⟨?_, ?_, ?_⟩
        exact holdT
        exact holdT
        refine WpA.oS 14 rfl (Op1.vv (V.ld1 tb) ⟨?_, ?_, ?_⟩)
        exact holdT
        exact holdT
        refine WpA.oS 15 rfl (Op1.fn rfl (hmost) ⟨?_, ?_, ?_⟩)
        exact holdT
        exact holdT
        refine WpA.tF 16 rfl (V.cmp) ?_
        refine WpA.tF 17 rfl (V.pT) ?_
        refine WpA.ou ?_
        apply Out.seqN
        refine Wp.c (fun hhb4 => ?_) (fun hhb4 => ?_)
        (try simp only [decide_eq_true_eq, decide_eq_false_iff_not, Bool.not_eq_true', Bool.not_eq_false', Bool.not_eq_true, Bool.not_eq_false, not_true_eq_false, not_false_eq_true, reduceCtorEq] at hhb4)
        (exfalso; omega)
        (try simp only [decide_eq_true_eq, decide_eq_false_iff_not, Bool.not_eq_true', Bool.not_eq_false', Bool.not_eq_true, Bool.not_eq_false, not_true_eq_false, not_false_eq_true, reduceCtorEq] at hhb4)
        apply Wp.skip
        apply Out.blockN
        apply Out.seqN
        apply Wp.seq
        apply Wp.region
        refine WpL.v (V.as) ?_
        apply WpL.nil
        apply Out.seqN
        apply Wp.ret
        refine Out.f1 rfl ResIs.t ⟨?_, rfl⟩
        exact rfl
        refine Op1.vv (V.ld1 tb) ⟨?_, ?_, ?_⟩
        exact holdT
        exact holdT
        refine WpA.oS 10 rfl (Op1.callT rfl (hLy) (by (repeat (first | exact Sel.nil | exact Rem.here | apply Sel.cons | apply Rem.there))) ?_)
        rintro v5 s6 ⟨rfl, rfl⟩
        refine incat ⟨?_, ?_, ?_⟩
        exact holdT
        exact holdT
        refine WpA.oS 15 rfl (Op1.fn rfl (hmost) ⟨?_, ?_, ?_⟩)
        exact holdT
        exact holdT
        refine WpA.tF 16 rfl (V.cmp) ?_
        refine WpA.tF 17 rfl (V.pT) ?_
        refine WpA.ou ?_
        apply Out.seqN
        refine Wp.c (fun hhb7 => ?_) (fun hhb7 => ?_)
        (try simp only [decide_eq_true_eq, decide_eq_false_iff_not, Bool.not_eq_true', Bool.not_eq_false', Bool.not_eq_true, Bool.not_eq_false, not_true_eq_false, not_false_eq_true, reduceCtorEq] at hhb7)
        (exfalso; omega)
        (try simp only [decide_eq_true_eq, decide_eq_false_iff_not, Bool.not_eq_true', Bool.not_eq_false', Bool.not_eq_true, Bool.not_eq_false, not_true_eq_false, not_false_eq_true, reduceCtorEq] at hhb7)
        apply Wp.skip
        apply Out.blockN
        apply Out.seqN
        apply Wp.seq
        apply Wp.region
        refine WpL.v (V.as) ?_
        apply WpL.nil
        apply Out.seqN
        apply Wp.ret
        refine Out.f1 rfl ResIs.t ⟨?_, rfl⟩
        exact rfl
    · rw [if_neg hc]
      rw [if_neg hc, show x.canO m.From = false by simpa using hc] at hO
      refine Ct.enter Try.func38 rfl rfl fun W => ?_
      apply Wp.seq
      apply Wp.region
      refine WpL.o (O.bxA (fun p3 => ?_))
      refine WpL.v (V.as) ?_
      apply WpL.nil
      apply Out.seqN
      apply Wp.seq
      apply Wp.seq
      refine Wp.dG [] ?_ (List.Sublist.cons_cons _ (List.Sublist.cons_cons _ List.Sublist.slnil)) (List.Sublist.cons_cons _ (List.Sublist.cons_cons _ List.Sublist.slnil))
      refine WpA.tF 0 rfl (V.mv) ?_
      refine WpA.tF 1 rfl (V.eqP) ?_
      refine WpA.tF 2 rfl (V.mv) ?_
      refine WpA.tF 3 rfl (V.mv) ?_
      refine WpA.tF 4 rfl (V.nc) ?_
      refine WpA.tF 5 rfl (V.fa tb) ?_
      refine WpA.tF 6 rfl (V.ld1 tb) ?_
      refine WpA.tF 7 rfl (V.cmp) ?_
      refine WpA.tF 8 rfl (V.pF) ?_
      refine WpA.tF 9 rfl (V.mv) ?_
      refine WpA.pt 14 (fun hi0 => ?_) (fun hi0 => ?_)
      (try simp only [decide_eq_true_eq, decide_eq_false_iff_not, Bool.not_eq_true', Bool.not_eq_false', Bool.not_eq_true, Bool.not_eq_false, not_true_eq_false, not_false_eq_true, reduceCtorEq] at hi0)
      (exfalso; omega)
      (try simp only [decide_eq_true_eq, decide_eq_false_iff_not, Bool.not_eq_true', Bool.not_eq_false', Bool.not_eq_true, Bool.not_eq_false, not_true_eq_false, not_false_eq_true, reduceCtorEq] at hi0)
      refine WpA.tF 10 rfl (V.fa tb) ?_
      refine WpA.tF 11 rfl (V.ldA tb) ?_
      refine WpA.tF 12 rfl (V.mv) ?_
      refine WpA.tF 13 rfl (V.nc) ?_
      refine WpA.tF 14 rfl (V.fa tb) ?_
      refine WpA.tF 15 rfl (V.ldA tb) ?_
      refine WpA.tF 16 rfl (V.ne (TItem.eqT _ _ _)) ?_
      refine WpA.tF 17 rfl (V.pF) ?_
      refine WpA.tF 18 rfl (V.mv) ?_
      refine WpA.pt 23 (fun hi1 => ?_) (fun hi1 => ?_)
      (try simp only [decide_eq_true_eq, decide_eq_false_iff_not, Bool.not_eq_true', Bool.not_eq_false', Bool.not_eq_true, Bool.not_eq_false, not_true_eq_false, not_false_eq_true, reduceCtorEq] at hi1)
      contradiction
      (try simp only [decide_eq_true_eq, decide_eq_false_iff_not, Bool.not_eq_true', Bool.not_eq_false', Bool.not_eq_true, Bool.not_eq_false, not_true_eq_false, not_false_eq_true, reduceCtorEq] at hi1)
      refine WpA.tF 19 rfl (V.fa tb) ?_
      refine WpA.tF 20 rfl (V.ld1 tb) ?_
      refine WpA.tF 21 rfl (V.mv) ?_
      refine WpA.tF 22 rfl (V.nc) ?_
      refine WpA.tF 23 rfl (V.fa tb) ?_
      refine WpA.tF 24 rfl (V.ld1 tb) ?_
      refine WpA.tF 25 rfl (V.cmp) ?_
      refine WpA.tF 26 rfl (V.pF) ?_
      refine WpA.tF 27 rfl (V.mv) ?_
      refine WpA.pt 32 (fun hi2 => ?_) (fun hi2 => ?_)
      (try simp only [decide_eq_true_eq, decide_eq_false_iff_not, Bool.not_eq_true', Bool.not_eq_false', Bool.not_eq_true, Bool.not_eq_false, not_true_eq_false, not_false_eq_true, reduceCtorEq] at hi2)
      (exfalso; omega)
      (try simp only [decide_eq_true_eq, decide_eq_false_iff_not, Bool.not_eq_true', Bool.not_eq_false', Bool.not_eq_true, Bool.not_eq_false, not_true_eq_false, not_false_eq_true, reduceCtorEq] at hi2)
      refine WpA.tF 28 rfl (V.fa tb) ?_
      refine WpA.tF 29 rfl (V.ld1 tb) ?_
      refine WpA.tF 30 rfl (V.cmp) ?_
      refine WpA.tF 31 rfl (V.pF) ?_
      refine WpA.tF 32 rfl (V.mv) ?_
      refine WpA.pt 37 (fun hi3 => ?_) (fun hi3 => ?_)
      (try simp only [decide_eq_true_eq, decide_eq_false_iff_not, Bool.not_eq_true', Bool.not_eq_false', Bool.not_eq_true, Bool.not_eq_false, not_true_eq_false, not_false_eq_true, reduceCtorEq] at hi3)
      (exfalso; omega)
      (try simp only [decide_eq_true_eq, decide_eq_false_iff_not, Bool.not_eq_true', Bool.not_eq_false', Bool.not_eq_true, Bool.not_eq_false, not_true_eq_false, not_false_eq_true, reduceCtorEq] at hi3)
      refine WpA.tF 33 rfl (V.fa tb) ?_
      refine WpA.tF 34 rfl (V.ld1 tb) ?_
      refine WpA.tF 35 rfl (V.mv) ?_
      refine WpA.tF 36 rfl (V.nc) ?_
      refine WpA.tF 37 rfl (V.fa tb) ?_
      refine WpA.tF 38 rfl (V.ld1 tb) ?_
      refine WpA.tF 39 rfl (V.cmp) ?_
      refine WpA.tF 40 rfl (V.pF) ?_
      refine WpA.ou ?_
      apply Out.seqN
      refine Wp.c (fun hi4 => ?_) (fun hi4 => ?_)
      (try simp only [decide_eq_true_eq, decide_eq_false_iff_not, Bool.not_eq_true', Bool.not_eq_false', Bool.not_eq_true, Bool.not_eq_false, not_true_eq_false, not_false_eq_true, reduceCtorEq] at hi4)
      (exfalso; omega)
      (try simp only [decide_eq_true_eq, decide_eq_false_iff_not, Bool.not_eq_true', Bool.not_eq_false', Bool.not_eq_true, Bool.not_eq_false, not_true_eq_false, not_false_eq_true, reduceCtorEq] at hi4)
      apply Wp.skip
      apply Out.seqN
      apply Wp.seq
      apply Wp.block
      apply Wp.seq
      apply Wp.region
      refine WpL.v (V.fa tb) ?_
      refine WpL.v (V.ld1 tb) ?_
      refine WpL.v (V.cmp) ?_
      refine WpL.v (V.as) ?_
      apply WpL.nil
      apply Out.seqN
      refine Wp.c (fun hi5 => ?_) (fun hi5 => ?_)
      (try simp only [decide_eq_true_eq, decide_eq_false_iff_not, Bool.not_eq_true', Bool.not_eq_false', Bool.not_eq_true, Bool.not_eq_false, not_true_eq_false, not_false_eq_true, reduceCtorEq] at hi5)
      (exfalso; omega)
      (try simp only [decide_eq_true_eq, decide_eq_false_iff_not, Bool.not_eq_true', Bool.not_eq_false', Bool.not_eq_true, Bool.not_eq_false, not_true_eq_false, not_false_eq_true, reduceCtorEq] at hi5)
      apply Wp.seq
      refine Wp.dG [] ?_ (List.Sublist.cons_cons _ (List.Sublist.cons_cons _ List.Sublist.slnil)) (List.Sublist.cons_cons _ (List.Sublist.cons_cons _ List.Sublist.slnil))
      refine WpA.tF 0 rfl (V.fa tb) ?_
      refine WpA.tF 1 rfl (V.ld1 tb) ?_
      refine WpA.tF 2 rfl (V.cmp) ?_
      refine WpA.tF 3 rfl (V.mv) ?_
      refine WpA.pt 62 (fun hi6 => ?_) (fun hi6 => ?_)
      (try simp only [decide_eq_true_eq, decide_eq_false_iff_not, Bool.not_eq_true', Bool.not_eq_false', Bool.not_eq_true, Bool.not_eq_false, not_true_eq_false, not_false_eq_true, reduceCtorEq] at hi6)
      (exfalso; omega)
      (try simp only [decide_eq_true_eq, decide_eq_false_iff_not, Bool.not_eq_true', Bool.not_eq_false', Bool.not_eq_true, Bool.not_eq_false, not_true_eq_false, not_false_eq_true, reduceCtorEq] at hi6)
      refine WpA.s 4 rfl ?_
      refine WpA.s 5 rfl ?_
      refine WpA.s 6 rfl ?_
      refine WpA.s 7 rfl ?_
      refine WpA.s 8 rfl ?_
      refine WpA.s 9 rfl ?_
      refine WpA.s 10 rfl ?_
      refine WpA.tF 11 rfl (V.pF) ?_
      refine WpA.tF 12 rfl (V.as) ?_
      refine WpA.ou ?_
      apply Out.seqN
      refine Wp.cF ?_
      apply Wp.seq
      refine Wp.dG [] ?_ (List.Sublist.cons_cons _ (List.Sublist.cons_cons _ List.Sublist.slnil)) (List.Sublist.cons_cons _ (List.Sublist.cons_cons _ List.Sublist.slnil))
      refine WpA.tF 0 rfl (V.fa tb) ?_
      refine WpA.tF 1 rfl (V.ldA tb) ?_
      refine WpA.tF 2 rfl (V.mv) ?_
      refine WpA.tF 3 rfl (V.nc) ?_
      refine WpA.tF 4 rfl (V.fa tb) ?_
      refine WpA.tF 5 rfl (V.ldA tb) ?_
      refine WpA.tF 6 rfl (V.ne (TBallot.eqT _ _ _)) ?_
      refine WpA.tF 7 rfl (V.as) ?_
      refine WpA.ou ?_
      apply Out.seqN
      refine Wp.c (fun hi7 => ?_) (fun hi7 => ?_)
      (try simp only [decide_eq_true_eq, decide_eq_false_iff_not, Bool.not_eq_true', Bool.not_eq_false', Bool.not_eq_true, Bool.not_eq_false, not_true_eq_false, not_false_eq_true, reduceCtorEq] at hi7)
      contradiction
      (try simp only [decide_eq_true_eq, decide_eq_false_iff_not, Bool.not_eq_true', Bool.not_eq_false', Bool.not_eq_true, Bool.not_eq_false, not_true_eq_false, not_false_eq_true, reduceCtorEq] at hi7)
      apply Wp.seq
      apply Wp.region
      refine WpL.v (V.fa tb) ?_
      refine WpL.v (V.ld1 tb) ?_
      refine WpL.v (V.cmp) ?_
      refine WpL.v (V.mv) ?_
      refine WpL.pt (fun hi8 => ?_) (fun hi8 => ?_)
      (try simp only [decide_eq_true_eq, decide_eq_false_iff_not, Bool.not_eq_true', Bool.not_eq_false', Bool.not_eq_true, Bool.not_eq_false, not_true_eq_false, not_false_eq_true, reduceCtorEq] at hi8)
      (exfalso; omega)
      (try simp only [decide_eq_true_eq, decide_eq_false_iff_not, Bool.not_eq_true', Bool.not_eq_false', Bool.not_eq_true, Bool.not_eq_false, not_true_eq_false, not_false_eq_true, reduceCtorEq] at hi8)
      refine WpL.sk ?_
      refine WpL.sk ?_
      refine WpL.sk ?_
      refine WpL.sk ?_
      refine WpL.sk ?_
      refine WpL.v (V.pF) ?_
      refine WpL.v (V.as) ?_
      apply WpL.nil
      apply Out.seqN
      refine Wp.cF ?_
      apply Wp.seq
      apply Wp.region
      refine WpL.v (V.fa tb) ?_
      refine WpL.v (V.ld1 tb) ?_
      refine WpL.v (V.cmp) ?_
      refine WpL.v (V.mv) ?_
      refine WpL.pt (fun hi9 => ?_) (fun hi9 => ?_)
      (try simp only [decide_eq_true_eq, decide_eq_false_iff_not, Bool.not_eq_true', Bool.not_eq_false', Bool.not_eq_true, Bool.not_eq_false, not_true_eq_false, not_false_eq_true, reduceCtorEq] at hi9)
      refine WpL.v (V.mv) ?_
      refine WpL.v (V.nc) ?_
      refine WpL.v (V.fa tb) ?_
      refine WpL.v (V.ld1 tb) ?_
      refine WpL.v (V.cmp) ?_
      refine WpL.v (V.pT) ?_
      refine WpL.v (V.as) ?_
      apply WpL.nil
      apply Out.seqN
      refine Wp.c (fun hi10 => ?_) (fun hi10 => ?_)
      (try simp only [decide_eq_true_eq, decide_eq_false_iff_not, Bool.not_eq_true', Bool.not_eq_false', Bool.not_eq_true, Bool.not_eq_false, not_true_eq_false, not_false_eq_true, reduceCtorEq] at hi10)
      apply Wp.seq
      refine Wp.dG [] ?_ (List.Sublist.cons_cons _ (List.Sublist.cons_cons _ List.Sublist.slnil)) (List.Sublist.cons_cons _ (List.Sublist.cons_cons _ List.Sublist.slnil))
      refine WpA.tF 0 rfl (V.mv) ?_
      refine WpA.tF 1 rfl (V.nc) ?_
      refine WpA.tF 2 rfl (V.fa tb) ?_
      refine WpA.tF 3 rfl (V.fa tb) ?_
      refine WpA.tF 4 rfl (V.ld1 tb) ?_
      refine WpA.oS 5 rfl (Op1.callT rfl (hO) (by (repeat (first | exact Sel.nil | exact Rem.here | apply Sel.cons | apply Rem.there))) ?_)
      rintro v11 s12 ⟨rfl, rfl⟩
      refine incat ⟨?_, ?_, ?_⟩
      exact holdT
      exact holdT
      refine WpA.tF 6 rfl (V.mv) ?_
      refine WpA.s 7 rfl ?_
      refine WpA.s 8 rfl ?_
      refine WpA.s 9 rfl ?_
      refine WpA.s 10 rfl ?_
      refine WpA.s 11 rfl ?_
      refine WpA.s 12 rfl ?_
      refine WpA.s 13 rfl ?_
      refine WpA.s 14 rfl ?_
      refine WpA.s 15 rfl ?_
      refine WpA.s 16 rfl ?_
      refine WpA.tF 17 rfl (V.pF) ?_
      refine WpA.ou ?_
      apply Out.seqN
      refine Wp.cF ?_
      apply Wp.skip
      apply Out.blockN
      apply Out.seqN
      apply Wp.seq
      apply Wp.region
      refine WpL.v (V.as) ?_
      apply WpL.nil
      apply Out.seqN
      apply Wp.ret
      refine Out.f1 rfl ResIs.t ⟨?_, rfl⟩
      exact rfl
      (try simp only [decide_eq_true_eq, decide_eq_false_iff_not, Bool.not_eq_true', Bool.not_eq_false', Bool.not_eq_true, Bool.not_eq_false, not_true_eq_false, not_false_eq_true, reduceCtorEq] at hi10)
      (exfalso; omega)
      (try simp only [decide_eq_true_eq, decide_eq_false_iff_not, Bool.not_eq_true', Bool.not_eq_false', Bool.not_eq_true, Bool.not_eq_false, not_true_eq_false, not_false_eq_true, reduceCtorEq] at hi9)
      (exfalso; omega)
  rw [if_neg h4]
  clear hO hP
  refine Ct.enter Try.func38 rfl rfl fun W => ?_
  apply Wp.seq
  apply Wp.region
  refine WpL.o (O.bxA (fun p3 => ?_))
  refine WpL.v (V.as) ?_
  apply WpL.nil
  apply Out.seqN
  apply Wp.seq
  apply Wp.seq
  refine Wp.dG [] ?_ (List.Sublist.cons_cons _ (List.Sublist.cons_cons _ List.Sublist.slnil)) (List.Sublist.cons_cons _ (List.Sublist.cons_cons _ List.Sublist.slnil))
  refine WpA.tF 0 rfl (V.mv) ?_
  refine WpA.tF 1 rfl (V.eqP) ?_
  refine WpA.tF 2 rfl (V.mv) ?_
  refine WpA.tF 3 rfl (V.mv) ?_
  refine WpA.tF 4 rfl (V.nc) ?_
  refine WpA.tF 5 rfl (V.fa tb) ?_
  refine WpA.tF 6 rfl (V.ld1 tb) ?_
  refine WpA.tF 7 rfl (V.cmp) ?_
  refine WpA.tF 8 rfl (V.pF) ?_
  refine WpA.tF 9 rfl (V.mv) ?_
  refine WpA.pt 14 (fun hj0 => ?_) (fun hj0 => ?_)
  (try simp only [decide_eq_true_eq, decide_eq_false_iff_not, Bool.not_eq_true', Bool.not_eq_false', Bool.not_eq_true, Bool.not_eq_false, not_true_eq_false, not_false_eq_true, reduceCtorEq] at hj0)
  (exfalso; omega)
  (try simp only [decide_eq_true_eq, decide_eq_false_iff_not, Bool.not_eq_true', Bool.not_eq_false', Bool.not_eq_true, Bool.not_eq_false, not_true_eq_false, not_false_eq_true, reduceCtorEq] at hj0)
  refine WpA.tF 10 rfl (V.fa tb) ?_
  refine WpA.tF 11 rfl (V.ldA tb) ?_
  refine WpA.tF 12 rfl (V.mv) ?_
  refine WpA.tF 13 rfl (V.nc) ?_
  refine WpA.tF 14 rfl (V.fa tb) ?_
  refine WpA.tF 15 rfl (V.ldA tb) ?_
  refine WpA.tF 16 rfl (V.ne (TItem.eqT _ _ _)) ?_
  refine WpA.tF 17 rfl (V.pF) ?_
  refine WpA.tF 18 rfl (V.mv) ?_
  refine WpA.pt 23 (fun hj1 => ?_) (fun hj1 => ?_)
  (try simp only [decide_eq_true_eq, decide_eq_false_iff_not, Bool.not_eq_true', Bool.not_eq_false', Bool.not_eq_true, Bool.not_eq_false, not_true_eq_false, not_false_eq_true, reduceCtorEq] at hj1)
  contradiction
  (try simp only [decide_eq_true_eq, decide_eq_false_iff_not, Bool.not_eq_true', Bool.not_eq_false', Bool.not_eq_true, Bool.not_eq_false, not_true_eq_false, not_false_eq_true, reduceCtorEq] at hj1)
  refine WpA.tF 19 rfl (V.fa tb) ?_
  refine WpA.tF 20 rfl (V.ld1 tb) ?_
  refine WpA.tF 21 rfl (V.mv) ?_
  refine WpA.tF 22 rfl (V.nc) ?_
  refine WpA.tF 23 rfl (V.fa tb) ?_
  refine WpA.tF 24 rfl (V.ld1 tb) ?_
  refine WpA.tF 25 rfl (V.cmp) ?_
  refine WpA.tF 26 rfl (V.pF) ?_
  refine WpA.tF 27 rfl (V.mv) ?_
  refine WpA.pt 32 (fun hj2 => ?_) (fun hj2 => ?_)
  (try simp only [decide_eq_true_eq, decide_eq_false_iff_not, Bool.not_eq_true', Bool.not_eq_false', Bool.not_eq_true, Bool.not_eq_false, not_true_eq_false, not_false_eq_true, reduceCtorEq] at hj2)
  (exfalso; omega)
  (try simp only [decide_eq_true_eq, decide_eq_false_iff_not, Bool.not_eq_true', Bool.not_eq_false', Bool.not_eq_true, Bool.not_eq_false, not_true_eq_false, not_false_eq_true, reduceCtorEq] at hj2)
  refine WpA.tF 28 rfl (V.fa tb) ?_
  refine WpA.tF 29 rfl (V.ld1 tb) ?_
  refine WpA.tF 30 rfl (V.cmp) ?_
  refine WpA.tF 31 rfl (V.pF) ?_
  refine WpA.tF 32 rfl (V.mv) ?_
  refine WpA.pt 37 (fun hj3 => ?_) (fun hj3 => ?_)
  (try simp only [decide_eq_true_eq, decide_eq_false_iff_not, Bool.not_eq_true', Bool.not_eq_false', Bool.not_eq_true, Bool.not_eq_false, not_true_eq_false, not_false_eq_true, reduceCtorEq] at hj3)
  (exfalso; omega)
  (try simp only [decide_eq_true_eq, decide_eq_false_iff_not, Bool.not_eq_true', Bool.not_eq_false', Bool.not_eq_true, Bool.not_eq_false, not_true_eq_false, not_false_eq_true, reduceCtorEq] at hj3)
  refine WpA.tF 33 rfl (V.fa tb) ?_
  refine WpA.tF 34 rfl (V.ld1 tb) ?_
  refine WpA.tF 35 rfl (V.mv) ?_
  refine WpA.tF 36 rfl (V.nc) ?_
  refine WpA.tF 37 rfl (V.fa tb) ?_
  refine WpA.tF 38 rfl (V.ld1 tb) ?_
  refine WpA.tF 39 rfl (V.cmp) ?_
  refine WpA.tF 40 rfl (V.pF) ?_
  refine WpA.ou ?_
  apply Out.seqN
  refine Wp.c (fun hj4 => ?_) (fun hj4 => ?_)
  (try simp only [decide_eq_true_eq, decide_eq_false_iff_not, Bool.not_eq_true', Bool.not_eq_false', Bool.not_eq_true, Bool.not_eq_false, not_true_eq_false, not_false_eq_true, reduceCtorEq] at hj4)
  (exfalso; omega)
  (try simp only [decide_eq_true_eq, decide_eq_false_iff_not, Bool.not_eq_true', Bool.not_eq_false', Bool.not_eq_true, Bool.not_eq_false, not_true_eq_false, not_false_eq_true, reduceCtorEq] at hj4)
  apply Wp.skip
  apply Out.seqN
  apply Wp.seq
  apply Wp.block
  apply Wp.seq
  apply Wp.region
  refine WpL.v (V.fa tb) ?_
  refine WpL.v (V.ld1 tb) ?_
  refine WpL.v (V.cmp) ?_
  refine WpL.v (V.as) ?_
  apply WpL.nil
  apply Out.seqN
  refine Wp.c (fun hj5 => ?_) (fun hj5 => ?_)
  (try simp only [decide_eq_true_eq, decide_eq_false_iff_not, Bool.not_eq_true', Bool.not_eq_false', Bool.not_eq_true, Bool.not_eq_false, not_true_eq_false, not_false_eq_true, reduceCtorEq] at hj5)
  (exfalso; omega)
  (try simp only [decide_eq_true_eq, decide_eq_false_iff_not, Bool.not_eq_true', Bool.not_eq_false', Bool.not_eq_true, Bool.not_eq_false, not_true_eq_false, not_false_eq_true, reduceCtorEq] at hj5)
  apply Wp.seq
  refine Wp.dG [] ?_ (List.Sublist.cons_cons _ (List.Sublist.cons_cons _ List.Sublist.slnil)) (List.Sublist.cons_cons _ (List.Sublist.cons_cons _ List.Sublist.slnil))
  refine WpA.tF 0 rfl (V.fa tb) ?_
  refine WpA.tF 1 rfl (V.ld1 tb) ?_
  refine WpA.tF 2 rfl (V.cmp) ?_
  refine WpA.tF 3 rfl (V.mv) ?_
  refine WpA.pt 62 (fun hj6 => ?_) (fun hj6 => ?_)
  (try simp only [decide_eq_true_eq, decide_eq_false_iff_not, Bool.not_eq_true', Bool.not_eq_false', Bool.not_eq_true, Bool.not_eq_false, not_true_eq_false, not_false_eq_true, reduceCtorEq] at hj6)
  refine WpA.tF 4 rfl (V.mv) ?_
  refine WpA.tF 5 rfl (V.nc) ?_
  refine WpA.tF 6 rfl (V.fa tb) ?_
  refine WpA.tF 7 rfl (V.ldA tb) ?_
  refine WpA.tF 8 rfl (V.fa tb) ?_
  refine WpA.tF 9 rfl (V.ldA tb) ?_
  refine WpA.oS 10 rfl (Op1.fn rfl (hL) ⟨?_, ?_, ?_⟩)
  exact holdT
  exact holdT
  refine WpA.tF 11 rfl (V.pT) ?_
  refine WpA.tF 12 rfl (V.as) ?_
  refine WpA.ou ?_
  apply Out.seqN
  refine Wp.cF ?_
  apply Wp.seq
  refine Wp.dG [] ?_ (List.Sublist.cons_cons _ (List.Sublist.cons_cons _ List.Sublist.slnil)) (List.Sublist.cons_cons _ (List.Sublist.cons_cons _ List.Sublist.slnil))
  refine WpA.tF 0 rfl (V.fa tb) ?_
  refine WpA.tF 1 rfl (V.ldA tb) ?_
  refine WpA.tF 2 rfl (V.mv) ?_
  refine WpA.tF 3 rfl (V.nc) ?_
  refine WpA.tF 4 rfl (V.fa tb) ?_
  refine WpA.tF 5 rfl (V.ldA tb) ?_
  refine WpA.tF 6 rfl (V.ne (TBallot.eqT _ _ _)) ?_
  refine WpA.tF 7 rfl (V.as) ?_
  refine WpA.ou ?_
  apply Out.seqN
  refine Wp.c (fun hj7 => ?_) (fun hj7 => ?_)
  (try simp only [decide_eq_true_eq, decide_eq_false_iff_not, Bool.not_eq_true', Bool.not_eq_false', Bool.not_eq_true, Bool.not_eq_false, not_true_eq_false, not_false_eq_true, reduceCtorEq] at hj7)
  contradiction
  (try simp only [decide_eq_true_eq, decide_eq_false_iff_not, Bool.not_eq_true', Bool.not_eq_false', Bool.not_eq_true, Bool.not_eq_false, not_true_eq_false, not_false_eq_true, reduceCtorEq] at hj7)
  apply Wp.seq
  apply Wp.region
  refine WpL.v (V.fa tb) ?_
  refine WpL.v (V.ld1 tb) ?_
  refine WpL.v (V.cmp) ?_
  refine WpL.v (V.mv) ?_
  refine WpL.pt (fun hj8 => ?_) (fun hj8 => ?_)
  (try simp only [decide_eq_true_eq, decide_eq_false_iff_not, Bool.not_eq_true', Bool.not_eq_false', Bool.not_eq_true, Bool.not_eq_false, not_true_eq_false, not_false_eq_true, reduceCtorEq] at hj8)
  (exfalso; omega)
  (try simp only [decide_eq_true_eq, decide_eq_false_iff_not, Bool.not_eq_true', Bool.not_eq_false', Bool.not_eq_true, Bool.not_eq_false, not_true_eq_false, not_false_eq_true, reduceCtorEq] at hj8)
  refine WpL.sk ?_
  refine WpL.sk ?_
  refine WpL.sk ?_
  refine WpL.sk ?_
  refine WpL.sk ?_
  refine WpL.v (V.pF) ?_
  refine WpL.v (V.as) ?_
  apply WpL.nil
  apply Out.seqN
  refine Wp.cF ?_
  apply Wp.seq
  apply Wp.region
  refine WpL.v (V.fa tb) ?_
  refine WpL.v (V.ld1 tb) ?_
  refine WpL.v (V.cmp) ?_
  refine WpL.v (V.mv) ?_
  refine WpL.pt (fun hj9 => ?_) (fun hj9 => ?_)
  (try simp only [decide_eq_true_eq, decide_eq_false_iff_not, Bool.not_eq_true', Bool.not_eq_false', Bool.not_eq_true, Bool.not_eq_false, not_true_eq_false, not_false_eq_true, reduceCtorEq] at hj9)
  (exfalso; omega)
  (try simp only [decide_eq_true_eq, decide_eq_false_iff_not, Bool.not_eq_true', Bool.not_eq_false', Bool.not_eq_true, Bool.not_eq_false, not_true_eq_false, not_false_eq_true, reduceCtorEq] at hj9)
  refine WpL.sk ?_
  refine WpL.sk ?_
  refine WpL.sk ?_
  refine WpL.sk ?_
  refine WpL.sk ?_
  refine WpL.v (V.pF) ?_
  refine WpL.v (V.as) ?_
  apply WpL.nil
  apply Out.seqN
  refine Wp.cF ?_
  apply Wp.skip
  apply Out.blockN
  apply Out.seqN
  apply Wp.seq
  apply Wp.region
  refine WpL.v (V.as) ?_
  apply WpL.nil
  apply Out.seqN
  apply Wp.ret
  refine Out.f1 rfl ResIs.t ⟨?_, rfl⟩
  exact rfl
  (try simp only [decide_eq_true_eq, decide_eq_false_iff_not, Bool.not_eq_true', Bool.not_eq_false', Bool.not_eq_true, Bool.not_eq_false, not_true_eq_false, not_false_eq_true, reduceCtorEq] at hj6)
  refine WpA.s 4 rfl ?_
  refine WpA.s 5 rfl ?_
  refine WpA.s 6 rfl ?_
  refine WpA.s 7 rfl ?_
  refine WpA.s 8 rfl ?_
  refine WpA.s 9 rfl ?_
  refine WpA.s 10 rfl ?_
  refine WpA.tF 11 rfl (V.pF) ?_
  refine WpA.tF 12 rfl (V.as) ?_
  refine WpA.ou ?_
  apply Out.seqN
  refine Wp.cF ?_
  apply Wp.seq
  refine Wp.dG [] ?_ (List.Sublist.cons_cons _ (List.Sublist.cons_cons _ List.Sublist.slnil)) (List.Sublist.cons_cons _ (List.Sublist.cons_cons _ List.Sublist.slnil))
  refine WpA.tF 0 rfl (V.fa tb) ?_
  refine WpA.tF 1 rfl (V.ldA tb) ?_
  refine WpA.tF 2 rfl (V.mv) ?_
  refine WpA.tF 3 rfl (V.nc) ?_
  refine WpA.tF 4 rfl (V.fa tb) ?_
  refine WpA.tF 5 rfl (V.ldA tb) ?_
  refine WpA.tF 6 rfl (V.ne (TBallot.eqT _ _ _)) ?_
  refine WpA.tF 7 rfl (V.as) ?_
  refine WpA.ou ?_
  apply Out.seqN
  refine Wp.c (fun hj10 => ?_) (fun hj10 => ?_)
  (try simp only [decide_eq_true_eq, decide_eq_false_iff_not, Bool.not_eq_true', Bool.not_eq_false', Bool.not_eq_true, Bool.not_eq_false, not_true_eq_false, not_false_eq_true, reduceCtorEq] at hj10)
  contradiction
  (try simp only [decide_eq_true_eq, decide_eq_false_iff_not, Bool.not_eq_true', Bool.not_eq_false', Bool.not_eq_true, Bool.not_eq_false, not_true_eq_false, not_false_eq_true, reduceCtorEq] at hj10)
  apply Wp.seq
  apply Wp.region
  refine WpL.v (V.fa tb) ?_
  refine WpL.v (V.ld1 tb) ?_
  refine WpL.v (V.cmp) ?_
  refine WpL.v (V.mv) ?_
  refine WpL.pt (fun hj11 => ?_) (fun hj11 => ?_)
  (try simp only [decide_eq_true_eq, decide_eq_false_iff_not, Bool.not_eq_true', Bool.not_eq_false', Bool.not_eq_true, Bool.not_eq_false, not_true_eq_false, not_false_eq_true, reduceCtorEq] at hj11)
  refine WpL.v (V.mv) ?_
  refine WpL.v (V.nc) ?_
  refine WpL.v (V.fa tb) ?_
  refine WpL.v (V.ld1 tb) ?_
  refine WpL.v (V.cmp) ?_
  refine WpL.v (V.pT) ?_
  refine WpL.v (V.as) ?_
  apply WpL.nil
  apply Out.seqN
  refine Wp.c (fun hj12 => ?_) (fun hj12 => ?_)
  (try simp only [decide_eq_true_eq, decide_eq_false_iff_not, Bool.not_eq_true', Bool.not_eq_false', Bool.not_eq_true, Bool.not_eq_false, not_true_eq_false, not_false_eq_true, reduceCtorEq] at hj12)
  (exfalso; omega)
  (try simp only [decide_eq_true_eq, decide_eq_false_iff_not, Bool.not_eq_true', Bool.not_eq_false', Bool.not_eq_true, Bool.not_eq_false, not_true_eq_false, not_false_eq_true, reduceCtorEq] at hj12)
  apply Wp.seq
  apply Wp.region
  refine WpL.v (V.fa tb) ?_
  refine WpL.v (V.ld1 tb) ?_
  refine WpL.v (V.cmp) ?_
  refine WpL.v (V.mv) ?_
  refine WpL.pt (fun hj13 => ?_) (fun hj13 => ?_)
  (try simp only [decide_eq_true_eq, decide_eq_false_iff_not, Bool.not_eq_true', Bool.not_eq_false', Bool.not_eq_true, Bool.not_eq_false, not_true_eq_false, not_false_eq_true, reduceCtorEq] at hj13)
  (exfalso; omega)
  (try simp only [decide_eq_true_eq, decide_eq_false_iff_not, Bool.not_eq_true', Bool.not_eq_false', Bool.not_eq_true, Bool.not_eq_false, not_true_eq_false, not_false_eq_true, reduceCtorEq] at hj13)
  refine WpL.sk ?_
  refine WpL.sk ?_
  refine WpL.sk ?_
  refine WpL.sk ?_
  refine WpL.sk ?_
  refine WpL.v (V.pF) ?_
  refine WpL.v (V.as) ?_
  apply WpL.nil
  apply Out.seqN
  refine Wp.cF ?_
  apply Wp.skip
  apply Out.blockN
  apply Out.seqN
  apply Wp.seq
  apply Wp.region
  refine WpL.v (V.as) ?_
  apply WpL.nil
  apply Out.seqN
  apply Wp.ret
  refine Out.f1 rfl ResIs.t ⟨?_, rfl⟩
  exact rfl
  (try simp only [decide_eq_true_eq, decide_eq_false_iff_not, Bool.not_eq_true', Bool.not_eq_false', Bool.not_eq_true, Bool.not_eq_false, not_true_eq_false, not_false_eq_true, reduceCtorEq] at hj11)
  refine WpL.sk ?_
  refine WpL.sk ?_
  refine WpL.sk ?_
  refine WpL.sk ?_
  refine WpL.sk ?_
  refine WpL.v (V.pF) ?_
  refine WpL.v (V.as) ?_
  apply WpL.nil
  apply Out.seqN
  refine Wp.cF ?_
  apply Wp.seq
  apply Wp.region
  refine WpL.v (V.fa tb) ?_
  refine WpL.v (V.ld1 tb) ?_
  refine WpL.v (V.cmp) ?_
  refine WpL.v (V.mv) ?_
  refine WpL.pt (fun hj14 => ?_) (fun hj14 => ?_)
  (try simp only [decide_eq_true_eq, decide_eq_false_iff_not, Bool.not_eq_true', Bool.not_eq_false', Bool.not_eq_true, Bool.not_eq_false, not_true_eq_false, not_false_eq_true, reduceCtorEq] at hj14)
  refine WpL.v (V.mv) ?_
  refine WpL.v (V.nc) ?_
  refine WpL.v (V.fa tb) ?_
  refine WpL.v (V.ld1 tb) ?_
  refine WpL.v (V.cmp) ?_
  refine WpL.v (V.pT) ?_
  refine WpL.v (V.as) ?_
  apply WpL.nil
  apply Out.seqN
  refine Wp.c (fun hj15 => ?_) (fun hj15 => ?_)
  (try simp only [decide_eq_true_eq, decide_eq_false_iff_not, Bool.not_eq_true', Bool.not_eq_false', Bool.not_eq_true, Bool.not_eq_false, not_true_eq_false, not_false_eq_true, reduceCtorEq] at hj15)
  (exfalso; omega)
  (try simp only [decide_eq_true_eq, decide_eq_false_iff_not, Bool.not_eq_true', Bool.not_eq_false', Bool.not_eq_true, Bool.not_eq_false, not_true_eq_false, not_false_eq_true, reduceCtorEq] at hj15)
  apply Wp.skip
  apply Out.blockN
  apply Out.seqN
  apply Wp.seq
  apply Wp.region
  refine WpL.v (V.as) ?_
  apply WpL.nil
  apply Out.seqN
  apply Wp.ret
  refine Out.f1 rfl ResIs.t ⟨?_, rfl⟩
  exact rfl
  (try simp only [decide_eq_true_eq, decide_eq_false_iff_not, Bool.not_eq_true', Bool.not_eq_false', Bool.not_eq_true, Bool.not_eq_false, not_true_eq_false, not_false_eq_true, reduceCtorEq] at hj14)
  refine WpL.sk ?_
  refine WpL.sk ?_
  refine WpL.sk ?_
  refine WpL.sk ?_
  refine WpL.sk ?_
  refine WpL.v (V.pF) ?_
  refine WpL.v (V.as) ?_
  apply WpL.nil
  apply Out.seqN
  refine Wp.cF ?_
  apply Wp.skip
  apply Out.blockN
  apply Out.seqN
  apply Wp.seq
  apply Wp.region
  refine WpL.v (V.as) ?_
  apply WpL.nil
  apply Out.seqN
  apply Wp.ret
  refine Out.f1 rfl ResIs.t ⟨?_, rfl⟩
  exact rfl
end Go.Proofs.Ythoepbbpmdmfeaa
