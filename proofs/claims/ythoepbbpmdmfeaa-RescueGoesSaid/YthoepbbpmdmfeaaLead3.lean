/-
  Layer 14: a lead: what it hears.
-/
import Derived.Test.YthoepbbpmdmfeaaLead2
import Derived.Test.YthoepbbpmdmfeaaHeapI
namespace Go.Proofs.Ythoepbbpmdmfeaa
open Go.HL
set_option linter.unusedSimpArgs false
set_option linter.unusedVariables false
set_option maxRecDepth 8000
def LeadS.canO (x : LeadS) (rep : Int) : Bool := decide (0 ≤ rep ∧ rep < 7) && !(x.oh.getD rep.toNat true)
def LeadS.putO (x : LeadS) (rep : Int) : LeadS := { x with ol := x.ol.set rep.toNat true, oh := x.oh.set rep.toNat true, om := x.om + 1 }
theorem LeadS.canO_iff {x : LeadS} {rep : Int} : x.canO rep = true ↔ 0 ≤ rep ∧ rep < 7 ∧ x.oh.getD rep.toNat true = false := by
  unfold LeadS.canO; simp [and_assoc]
theorem LeadS.wf.putO {x : LeadS} (w : x.wf) {rep : Int} (hc : x.canO rep = true) : (x.putO rep).wf :=
  ⟨w.pl, w.ph, by show (x.ol.set _ _).length = 7; rw [List.length_set, w.ol], by show (x.oh.set _ _).length = 7; rw [List.length_set, w.oh], w.pn, by
    show x.om + 1 = ((x.oh.set _ _).count true : Int)
    rw [count_set (LeadS.canO_iff.1 hc).2.2, w.om]; omega⟩
theorem lead_putO (b : Nat) (x : LeadS) (w : x.wf) (rep : Int) : Ct Try.prog 85 [Ptr b 204, I rep, B true] [cells b 142 x.c] (fun r σ' => r = B (x.canO rep) ∧ σ' = [cells b 142 (if x.canO rep = true then x.putO rep else x).c]) := by
  have hb := w.ob
  have h := votes_putB (post := []) (n := x.om) b 142 w.o rep true (by omega)
  rw [← LeadS.vs] at h
  refine h.mono ?_
  rintro v σ' ⟨rfl, rfl⟩
  refine ⟨rfl, ?_⟩
  by_cases hc : x.canO rep = true
  · rw [if_pos hc, if_pos (LeadS.canO_iff.1 hc), LeadS.vs (x.putO rep)]; rfl
  · rw [if_neg hc, if_neg (fun h => hc (LeadS.canO_iff.2 h))]
theorem lead_lenO (b : Nat) (x : LeadS) (w : x.wf) : Ct Try.prog 86 [Ptr b 204] [cells b 142 x.c] (fun r σ' => r = I x.om ∧ σ' = [cells b 142 x.c]) := by
  have h := votes_lenB (post := []) (n := x.om) b 142 w.o
  rw [← LeadS.vs] at h
  exact h
def LeadS.hear (x : LeadS) (m : TMsg) : LeadS × Bool :=
  if 2 < x.phase ∨ m.Item ≠ x.item ∨ m.To ≠ x.self ∨ m.From < 0 ∨ x.n ≤ m.From then (x, false)
  else if m.Kind = 5 then ({ x with call := m.Call, phase := 3 }, true)
  else if m.Kind = 8 ∧ bLt x.ballot m.Ballot = true then ({ x with phase := 4 }, true)
  else if m.Ballot ≠ x.ballot then (x, false)
  else if m.Kind = 2 ∧ x.phase = 1 then x.hear1 m
  else if m.Kind = 4 ∧ x.phase = 2 then
    (if x.canO m.From = true then (if faults x.n + 1 ≤ x.om + 1 then ({ x.putO m.From with phase := 3 }, true) else (x.putO m.From, false)) else (x, false))
  else (x, false)
def LeadS.late (x : LeadS) : LeadS × Bool := if x.phase = 1 ∧ faults x.n + 1 ≤ x.pn then (x.slow, true) else (x, false)
theorem lead_late (b : Nat) (x : LeadS) (w : x.wf) (hn : 0 ≤ x.n ∧ x.n ≤ 1000) : Ct Try.prog 42 [Ptr b 0] [cells b 142 x.c] (fun r σ' => r = B x.late.2 ∧ σ' = [cells b 142 x.late.1.c]) := by
  have hL := lead_len b x w
  have hS := lead_slow b x w
  have hmost := ballot_most x.n (by omega)
  unfold LeadS.late
  by_cases h : x.phase = 1
  · by_cases h2 : faults x.n + 1 ≤ x.pn
    · rw [if_pos ⟨h, h2⟩]
      refine Ct.enter Try.func42 rfl rfl fun W => ?_
      apply Wp.seq
      apply Wp.region
      refine WpL.v (V.as) ?_
      apply WpL.nil
      apply Out.seqN
      apply Wp.seq
      refine Wp.dG [23] ?_ (List.Sublist.cons_cons _ List.Sublist.slnil) (List.Sublist.cons _ List.Sublist.slnil)
      refine WpA.tF 0 rfl (V.mv) ?_
      refine WpA.tF 1 rfl (V.neP) ?_
      refine WpA.tF 2 rfl (V.mv) ?_
      refine WpA.tF 3 rfl (V.mv) ?_
      refine WpA.tF 4 rfl (V.nc) ?_
      refine WpA.tF 5 rfl (V.fa tb) ?_
      refine WpA.tD 6 rfl (V.ld1 tb) ?_
      refine WpA.tF 7 rfl (V.cmp) ?_
      refine WpA.tF 8 rfl (V.pT) ?_
      refine WpA.tF 9 rfl (V.mv) ?_
      refine WpA.pt 12 (fun h0 => ?_) (fun h0 => ?_)
      (try simp only [decide_eq_true_eq, decide_eq_false_iff_not, Bool.not_eq_true', Bool.not_eq_false', Bool.not_eq_true, Bool.not_eq_false, not_true_eq_false, not_false_eq_true, reduceCtorEq] at h0)
      refine WpA.tF 10 rfl (V.mv) ?_
      refine WpA.tF 11 rfl (V.nc) ?_
      refine WpA.tF 12 rfl (V.fa tb) ?_
      refine WpA.tF 14 rfl (V.mv) ?_
      refine WpA.tF 15 rfl (V.nc) ?_
      refine WpA.tF 16 rfl (V.fa tb) ?_
      refine WpA.tD 17 rfl (V.ld1 tb) ?_
      refine WpA.oS 13 rfl (Op1.callT rfl (hL) (by (repeat (first | exact Sel.nil | exact Rem.here | apply Sel.cons | apply Rem.there))) ?_)
      rintro v1 s2 ⟨rfl, rfl⟩
      refine incat ⟨?_, ?_, ?_⟩
      exact holdT
      exact holdT
      refine WpA.oS 18 rfl (Op1.fn rfl (hmost) ⟨?_, ?_, ?_⟩)
      exact holdT
      exact holdT
      refine WpA.tF 19 rfl (V.cmp) ?_
      refine WpA.tF 20 rfl (V.pT) ?_
      refine WpA.tF 21 rfl (V.mv) ?_
      refine WpA.pt 24 (fun h3 => ?_) (fun h3 => ?_)
      (try simp only [decide_eq_true_eq, decide_eq_false_iff_not, Bool.not_eq_true', Bool.not_eq_false', Bool.not_eq_true, Bool.not_eq_false, not_true_eq_false, not_false_eq_true, reduceCtorEq] at h3)
      refine WpA.tF 22 rfl (V.mv) ?_
      refine WpA.l 23 rfl (Op1.callT rfl (hS) (by (repeat (first | exact Sel.nil | exact Rem.here | apply Sel.cons | apply Rem.there))) ?_)
      rintro v4 s5 ⟨rfl, rfl⟩
      refine incat ⟨?_, ?_⟩
      exact holdT
      refine WpA.tF 24 rfl (V.pT) ?_
      refine WpA.tF 25 rfl (V.as) ?_
      refine WpA.ou ?_
      apply Out.seqN
      apply Wp.ret
      refine Out.f1 rfl ResIs.t ⟨?_, rfl⟩
      exact rfl
      (try simp only [decide_eq_true_eq, decide_eq_false_iff_not, Bool.not_eq_true', Bool.not_eq_false', Bool.not_eq_true, Bool.not_eq_false, not_true_eq_false, not_false_eq_true, reduceCtorEq] at h3)
      (exfalso; omega)
      (try simp only [decide_eq_true_eq, decide_eq_false_iff_not, Bool.not_eq_true', Bool.not_eq_false', Bool.not_eq_true, Bool.not_eq_false, not_true_eq_false, not_false_eq_true, reduceCtorEq] at h0)
      (exfalso; omega)
    · rw [if_neg (fun hh => h2 hh.2)]
      refine Ct.enter Try.func42 rfl rfl fun W => ?_
      apply Wp.seq
      apply Wp.region
      refine WpL.v (V.as) ?_
      apply WpL.nil
      apply Out.seqN
      apply Wp.seq
      refine Wp.dG [] ?_ (List.Sublist.cons_cons _ List.Sublist.slnil) (List.Sublist.cons_cons _ List.Sublist.slnil)
      refine WpA.tF 0 rfl (V.mv) ?_
      refine WpA.tF 1 rfl (V.neP) ?_
      refine WpA.tF 2 rfl (V.mv) ?_
      refine WpA.tF 3 rfl (V.mv) ?_
      refine WpA.tF 4 rfl (V.nc) ?_
      refine WpA.tF 5 rfl (V.fa tb) ?_
      refine WpA.tF 6 rfl (V.ld1 tb) ?_
      refine WpA.tF 7 rfl (V.cmp) ?_
      refine WpA.tF 8 rfl (V.pT) ?_
      refine WpA.tF 9 rfl (V.mv) ?_
      refine WpA.pt 12 (fun hl20 => ?_) (fun hl20 => ?_)
      (try simp only [decide_eq_true_eq, decide_eq_false_iff_not, Bool.not_eq_true', Bool.not_eq_false', Bool.not_eq_true, Bool.not_eq_false, not_true_eq_false, not_false_eq_true, reduceCtorEq] at hl20)
      refine WpA.tF 10 rfl (V.mv) ?_
      refine WpA.tF 11 rfl (V.nc) ?_
      refine WpA.tF 12 rfl (V.fa tb) ?_
      refine WpA.tF 14 rfl (V.mv) ?_
      refine WpA.tF 15 rfl (V.nc) ?_
      refine WpA.tF 16 rfl (V.fa tb) ?_
      refine WpA.tF 17 rfl (V.ld1 tb) ?_
      refine WpA.oS 13 rfl (Op1.callT rfl (hL) (by (repeat (first | exact Sel.nil | exact Rem.here | apply Sel.cons | apply Rem.there))) ?_)
      rintro v1 s2 ⟨rfl, rfl⟩
      refine incat ⟨?_, ?_, ?_⟩
      exact holdT
      exact holdT
      refine WpA.oS 18 rfl (Op1.fn rfl (hmost) ⟨?_, ?_, ?_⟩)
      exact holdT
      exact holdT
      refine WpA.tF 19 rfl (V.cmp) ?_
      refine WpA.tF 20 rfl (V.pT) ?_
      refine WpA.tF 21 rfl (V.mv) ?_
      refine WpA.pt 24 (fun hl23 => ?_) (fun hl23 => ?_)
      (try simp only [decide_eq_true_eq, decide_eq_false_iff_not, Bool.not_eq_true', Bool.not_eq_false', Bool.not_eq_true, Bool.not_eq_false, not_true_eq_false, not_false_eq_true, reduceCtorEq] at hl23)
      (exfalso; omega)
      (try simp only [decide_eq_true_eq, decide_eq_false_iff_not, Bool.not_eq_true', Bool.not_eq_false', Bool.not_eq_true, Bool.not_eq_false, not_true_eq_false, not_false_eq_true, reduceCtorEq] at hl23)
      refine WpA.s 22 rfl ?_
      refine WpA.s 23 rfl ?_
      refine WpA.tF 24 rfl (V.pF) ?_
      refine WpA.tF 25 rfl (V.as) ?_
      refine WpA.ou ?_
      apply Out.seqN
      apply Wp.ret
      refine Out.f1 rfl ResIs.t ⟨?_, rfl⟩
      exact rfl
      (try simp only [decide_eq_true_eq, decide_eq_false_iff_not, Bool.not_eq_true', Bool.not_eq_false', Bool.not_eq_true, Bool.not_eq_false, not_true_eq_false, not_false_eq_true, reduceCtorEq] at hl20)
      (exfalso; omega)
  · rw [if_neg (fun hh => h hh.1)]
    refine Ct.enter Try.func42 rfl rfl fun W => ?_
    apply Wp.seq
    apply Wp.region
    refine WpL.v (V.as) ?_
    apply WpL.nil
    apply Out.seqN
    apply Wp.seq
    refine Wp.dG [] ?_ (List.Sublist.cons_cons _ List.Sublist.slnil) (List.Sublist.cons_cons _ List.Sublist.slnil)
    refine WpA.tF 0 rfl (V.mv) ?_
    refine WpA.tF 1 rfl (V.neP) ?_
    refine WpA.tF 2 rfl (V.mv) ?_
    refine WpA.tF 3 rfl (V.mv) ?_
    refine WpA.tF 4 rfl (V.nc) ?_
    refine WpA.tF 5 rfl (V.fa tb) ?_
    refine WpA.tF 6 rfl (V.ld1 tb) ?_
    refine WpA.tF 7 rfl (V.cmp) ?_
    refine WpA.tF 8 rfl (V.pT) ?_
    refine WpA.tF 9 rfl (V.mv) ?_
    refine WpA.pt 12 (fun hl30 => ?_) (fun hl30 => ?_)
    (try simp only [decide_eq_true_eq, decide_eq_false_iff_not, Bool.not_eq_true', Bool.not_eq_false', Bool.not_eq_true, Bool.not_eq_false, not_true_eq_false, not_false_eq_true, reduceCtorEq] at hl30)
    (exfalso; omega)
    (try simp only [decide_eq_true_eq, decide_eq_false_iff_not, Bool.not_eq_true', Bool.not_eq_false', Bool.not_eq_true, Bool.not_eq_false, not_true_eq_false, not_false_eq_true, reduceCtorEq] at hl30)
    refine WpA.s 10 rfl ?_
    refine WpA.s 11 rfl ?_
    refine WpA.s 12 rfl ?_
    refine WpA.s 13 rfl ?_
    refine WpA.s 14 rfl ?_
    refine WpA.s 15 rfl ?_
    refine WpA.s 16 rfl ?_
    refine WpA.s 17 rfl ?_
    refine WpA.s 18 rfl ?_
    refine WpA.s 19 rfl ?_
    refine WpA.tF 20 rfl (V.pF) ?_
    refine WpA.tF 21 rfl (V.mv) ?_
    refine WpA.s 22 rfl ?_
    refine WpA.s 23 rfl ?_
    refine WpA.tF 24 rfl (V.pF) ?_
    refine WpA.tF 25 rfl (V.as) ?_
    refine WpA.ou ?_
    apply Out.seqN
    apply Wp.ret
    refine Out.f1 rfl ResIs.t ⟨?_, rfl⟩
    exact rfl
theorem lead_late0 : Fun Try.prog 42 [.pointer none] (B false) := by
  refine Ct.enter Try.func42 rfl rfl fun W => ?_
  apply Wp.seq
  apply Wp.region
  refine WpL.v (V.as) ?_
  apply WpL.nil
  apply Out.seqN
  apply Wp.seq
  refine Wp.dG [] ?_ List.Sublist.slnil List.Sublist.slnil
  refine WpA.tF 0 rfl (V.mv) ?_
  refine WpA.tF 1 rfl (V.neN) ?_
  refine WpA.tF 2 rfl (V.mv) ?_
  refine WpA.s 3 rfl ?_
  refine WpA.s 4 rfl ?_
  refine WpA.s 5 rfl ?_
  refine WpA.s 6 rfl ?_
  refine WpA.s 7 rfl ?_
  refine WpA.tF 8 rfl (V.pF) ?_
  refine WpA.tF 9 rfl (V.mv) ?_
  refine WpA.s 10 rfl ?_
  refine WpA.s 11 rfl ?_
  refine WpA.s 12 rfl ?_
  refine WpA.s 13 rfl ?_
  refine WpA.s 14 rfl ?_
  refine WpA.s 15 rfl ?_
  refine WpA.s 16 rfl ?_
  refine WpA.s 17 rfl ?_
  refine WpA.s 18 rfl ?_
  refine WpA.s 19 rfl ?_
  refine WpA.tF 20 rfl (V.pF) ?_
  refine WpA.tF 21 rfl (V.mv) ?_
  refine WpA.s 22 rfl ?_
  refine WpA.s 23 rfl ?_
  refine WpA.tF 24 rfl (V.pF) ?_
  refine WpA.tF 25 rfl (V.as) ?_
  refine WpA.ou ?_
  apply Out.seqN
  apply Wp.ret
  refine Out.f1 rfl ResIs.t ⟨?_, rfl⟩
  exact rfl
theorem lead_phase (b : Nat) (x : LeadS) : Ct Try.prog 39 [Ptr b 0] [cells b 142 x.c] (fun r σ' => r = I x.phase ∧ σ' = [cells b 142 x.c]) := by
  refine Ct.enter Try.func39 rfl rfl fun W => ?_
  apply Wp.seq
  apply Wp.region
  refine WpL.v (V.as) ?_
  apply WpL.nil
  apply Out.seqN
  apply Wp.seq
  apply Wp.seq
  apply Wp.region
  refine WpL.v (V.mv) ?_
  refine WpL.v (V.eqP) ?_
  apply WpL.nil
  apply Out.seqN
  refine Wp.cF ?_
  apply Wp.skip
  apply Out.seqN
  apply Wp.seq
  apply Wp.region
  refine WpL.v (V.mv) ?_
  refine WpL.v (V.nc) ?_
  refine WpL.v (V.fa tb) ?_
  refine WpL.v (V.ld1 tb) ?_
  refine WpL.v (V.as) ?_
  apply WpL.nil
  apply Out.seqN
  apply Wp.ret
  refine Out.f1 rfl ResIs.t ⟨?_, rfl⟩
  exact rfl
theorem lead_call (b : Nat) (x : LeadS) : Ct Try.prog 40 [Ptr b 0] [cells b 142 x.c] (fun r σ' => r = A x.call.c ∧ σ' = [cells b 142 x.c]) := by
  refine Ct.enter Try.func40 rfl rfl fun W => ?_
  apply Wp.seq
  apply Wp.region
  refine WpL.o (O.al tb (fun p2 => ?_))
  apply WpL.nil
  apply Out.seqN
  apply Wp.seq
  apply Wp.seq
  apply Wp.region
  refine WpL.v (V.mv) ?_
  refine WpL.v (V.eqP) ?_
  apply WpL.nil
  apply Out.seqN
  refine Wp.cF ?_
  apply Wp.skip
  apply Out.seqN
  apply Wp.seq
  apply Wp.region
  refine WpL.v (V.mv) ?_
  refine WpL.v (V.nc) ?_
  refine WpL.v (V.fa tb) ?_
  refine WpL.v (V.ldA tb) ?_
  refine WpL.o (O.stA tb ?_)
  apply WpL.nil
  apply Out.seqN
  apply Wp.ret
  refine Out.f1 rfl (ResIs.ca tb) ⟨?_, rfl⟩
  exact rfl
theorem lead_ballot (b : Nat) (x : LeadS) : Ct Try.prog 45 [Ptr b 0] [cells b 142 x.c] (fun r σ' => r = A x.ballot.c ∧ σ' = [cells b 142 x.c]) := by
  refine Ct.enter Try.func45 rfl rfl fun W => ?_
  apply Wp.seq
  apply Wp.region
  refine WpL.o (O.al tb (fun p2 => ?_))
  apply WpL.nil
  apply Out.seqN
  apply Wp.seq
  apply Wp.seq
  apply Wp.region
  refine WpL.v (V.mv) ?_
  refine WpL.v (V.eqP) ?_
  apply WpL.nil
  apply Out.seqN
  refine Wp.cF ?_
  apply Wp.skip
  apply Out.seqN
  apply Wp.seq
  apply Wp.region
  refine WpL.v (V.mv) ?_
  refine WpL.v (V.nc) ?_
  refine WpL.v (V.fa tb) ?_
  refine WpL.v (V.ldA tb) ?_
  refine WpL.o (O.stA tb ?_)
  apply WpL.nil
  apply Out.seqN
  apply Wp.ret
  refine Out.f1 rfl (ResIs.ca tb) ⟨?_, rfl⟩
  exact rfl
theorem lead_item (b : Nat) (x : LeadS) : Ct Try.prog 46 [Ptr b 0] [cells b 142 x.c] (fun r σ' => r = A x.item.c ∧ σ' = [cells b 142 x.c]) := by
  refine Ct.enter Try.func46 rfl rfl fun W => ?_
  apply Wp.seq
  apply Wp.region
  refine WpL.o (O.al tb (fun p2 => ?_))
  apply WpL.nil
  apply Out.seqN
  apply Wp.seq
  apply Wp.seq
  apply Wp.region
  refine WpL.v (V.mv) ?_
  refine WpL.v (V.eqP) ?_
  apply WpL.nil
  apply Out.seqN
  refine Wp.cF ?_
  apply Wp.skip
  apply Out.seqN
  apply Wp.seq
  apply Wp.region
  refine WpL.v (V.mv) ?_
  refine WpL.v (V.nc) ?_
  refine WpL.v (V.fa tb) ?_
  refine WpL.v (V.ldA tb) ?_
  refine WpL.o (O.stA tb ?_)
  apply WpL.nil
  apply Out.seqN
  apply Wp.ret
  refine Out.f1 rfl (ResIs.ca tb) ⟨?_, rfl⟩
  exact rfl
theorem lead_phase0 : Fun Try.prog 39 [.pointer none] (I 0) := by
  refine Ct.enter Try.func39 rfl rfl fun W => ?_
  apply Wp.seq
  apply Wp.region
  refine WpL.v (V.as) ?_
  apply WpL.nil
  apply Out.seqN
  apply Wp.seq
  apply Wp.seq
  apply Wp.region
  refine WpL.v (V.mv) ?_
  refine WpL.v (V.eqN) ?_
  apply WpL.nil
  apply Out.seqN
  refine Wp.cT ?_
  apply Wp.seq
  apply Wp.region
  refine WpL.v (V.as) ?_
  apply WpL.nil
  apply Out.seqN
  apply Wp.ret
  apply Out.seqR
  refine Out.f1 rfl ResIs.t ⟨?_, rfl⟩
  exact rfl
theorem lead_call0 : Fun Try.prog 40 [.pointer none] (A TCall.z.c) := by
  refine Ct.enter Try.func40 rfl rfl fun W => ?_
  apply Wp.seq
  apply Wp.region
  refine WpL.o (O.al tb (fun p2 => ?_))
  apply WpL.nil
  apply Out.seqN
  apply Wp.seq
  apply Wp.seq
  apply Wp.region
  refine WpL.v (V.mv) ?_
  refine WpL.v (V.eqN) ?_
  apply WpL.nil
  apply Out.seqN
  refine Wp.cT ?_
  apply Wp.seq
  apply Wp.region
  refine WpL.v (V.bld tb) ?_
  refine WpL.o (O.stA tb ?_)
  apply WpL.nil
  apply Out.seqN
  apply Wp.ret
  apply Out.seqR
  refine Out.f1 rfl (ResIs.ca tb) ⟨?_, rfl⟩
  exact rfl
theorem lead_ballot0 : Fun Try.prog 45 [.pointer none] (A TBallot.z.c) := by
  refine Ct.enter Try.func45 rfl rfl fun W => ?_
  apply Wp.seq
  apply Wp.region
  refine WpL.o (O.al tb (fun p2 => ?_))
  apply WpL.nil
  apply Out.seqN
  apply Wp.seq
  apply Wp.seq
  apply Wp.region
  refine WpL.v (V.mv) ?_
  refine WpL.v (V.eqN) ?_
  apply WpL.nil
  apply Out.seqN
  refine Wp.cT ?_
  apply Wp.seq
  apply Wp.region
  refine WpL.v (V.bld tb) ?_
  refine WpL.o (O.stA tb ?_)
  apply WpL.nil
  apply Out.seqN
  apply Wp.ret
  apply Out.seqR
  refine Out.f1 rfl (ResIs.ca tb) ⟨?_, rfl⟩
  exact rfl
theorem lead_item0 : Fun Try.prog 46 [.pointer none] (A TItem.z.c) := by
  refine Ct.enter Try.func46 rfl rfl fun W => ?_
  apply Wp.seq
  apply Wp.region
  refine WpL.o (O.al tb (fun p2 => ?_))
  apply WpL.nil
  apply Out.seqN
  apply Wp.seq
  apply Wp.seq
  apply Wp.region
  refine WpL.v (V.mv) ?_
  refine WpL.v (V.eqN) ?_
  apply WpL.nil
  apply Out.seqN
  refine Wp.cT ?_
  apply Wp.seq
  apply Wp.region
  refine WpL.v (V.bld tb) ?_
  refine WpL.o (O.stA tb ?_)
  apply WpL.nil
  apply Out.seqN
  apply Wp.ret
  apply Out.seqR
  refine Out.f1 rfl (ResIs.ca tb) ⟨?_, rfl⟩
  exact rfl
def newL (n self : Int) (x : TItem) (b : TBallot) (c : TCall) (p : Int) : LeadS := { LeadS.z with n := n, self := self, item := x, ballot := b, call := c, phase := if p = 1 then 1 else 2 }
theorem newL_wf (n self x b c p) : (newL n self x b c p).wf := ⟨rfl, rfl, rfl, rfl, rfl, rfl⟩
theorem lead_new (n self : Int) (x : TItem) (b : TBallot) (c : TCall) (p : Int) : Ct Try.prog 82 [I n, I self, A x.c, A b.c, A c.c, I p] [] (fun r σ' => ∃ q, r = Ptr q 0 ∧ σ' = [cells q 142 (newL n self x b c p).c]) := by
  by_cases hp : p = 1
  · subst hp
    refine Ct.enter Try.func82 rfl rfl fun W => ?_
    apply Wp.seq
    apply Wp.region
    refine WpL.o (O.bxA (fun p8 => ?_))
    refine WpL.o (O.bxA (fun p9 => ?_))
    refine WpL.o (O.bxA (fun p10 => ?_))
    refine WpL.v (V.as) ?_
    apply WpL.nil
    apply Out.seqN
    apply Wp.seq
    apply Wp.seq
    apply Wp.region
    refine WpL.v (V.mv) ?_
    refine WpL.v (V.cmp) ?_
    apply WpL.nil
    apply Out.seqN
    refine Wp.cF ?_
    apply Wp.skip
    apply Out.seqN
    apply Wp.seq
    apply Wp.region
    refine WpL.v (V.mv) ?_
    refine WpL.v (V.mv) ?_
    refine WpL.v (V.ldA tb) ?_
    refine WpL.v (V.ldA tb) ?_
    refine WpL.v (V.ldA tb) ?_
    refine WpL.v (V.mv) ?_
    refine WpL.v (V.bld tb) ?_
    refine WpL.o (O.bxA (fun p22 => ?_))
    refine WpL.v (V.as) ?_
    apply WpL.nil
    apply Out.seqN
    apply Wp.ret
    refine Out.e1 rfl ResIs.t ?_
    exact ⟨_, _, ⟨_, rfl, rfl⟩, (by (repeat (first | exact Sel.nil | exact Rem.here | apply Sel.cons | apply Rem.there)))⟩
  · rw [show newL n self x b c p = newL n self x b c 2 by unfold newL; rw [if_neg hp, if_neg (by decide)]]
    refine Ct.enter Try.func82 rfl rfl fun W => ?_
    apply Wp.seq
    apply Wp.region
    refine WpL.o (O.bxA (fun p8 => ?_))
    refine WpL.o (O.bxA (fun p9 => ?_))
    refine WpL.o (O.bxA (fun p10 => ?_))
    refine WpL.v (V.as) ?_
    apply WpL.nil
    apply Out.seqN
    apply Wp.seq
    apply Wp.seq
    apply Wp.region
    refine WpL.v (V.mv) ?_
    refine WpL.v (V.cmp) ?_
    apply WpL.nil
    apply Out.seqN
    refine Wp.c (fun hn20 => ?_) (fun hn20 => ?_)
    (try simp only [decide_eq_true_eq, decide_eq_false_iff_not, Bool.not_eq_true', Bool.not_eq_false', Bool.not_eq_true, Bool.not_eq_false, not_true_eq_false, not_false_eq_true, reduceCtorEq] at hn20)
    apply Wp.region
    refine WpL.v (V.as) ?_
    apply WpL.nil
    apply Out.seqN
    apply Wp.seq
    apply Wp.region
    refine WpL.v (V.mv) ?_
    refine WpL.v (V.mv) ?_
    refine WpL.v (V.ldA tb) ?_
    refine WpL.v (V.ldA tb) ?_
    refine WpL.v (V.ldA tb) ?_
    refine WpL.v (V.mv) ?_
    refine WpL.v (V.bld tb) ?_
    refine WpL.o (O.bxA (fun p22 => ?_))
    refine WpL.v (V.as) ?_
    apply WpL.nil
    apply Out.seqN
    apply Wp.ret
    refine Out.e1 rfl ResIs.t ?_
    exact ⟨_, _, ⟨_, rfl, rfl⟩, (by (repeat (first | exact Sel.nil | exact Rem.here | apply Sel.cons | apply Rem.there)))⟩
    (try simp only [decide_eq_true_eq, decide_eq_false_iff_not, Bool.not_eq_true', Bool.not_eq_false', Bool.not_eq_true, Bool.not_eq_false, not_true_eq_false, not_false_eq_true, reduceCtorEq] at hn20)
    (exfalso; omega)
end Go.Proofs.Ythoepbbpmdmfeaa
