/-
  Layer 14: the document's lead: hears.
-/
import Derived.Test.YthoepbbpmdmfeaaLead9
import Derived.Test.YthoepbbpmdmfeaaHeapI
namespace Go.Proofs.Ythoepbbpmdmfeaa
open Go.HL
set_option linter.unusedSimpArgs false
set_option linter.unusedVariables false
set_option maxRecDepth 8000
def RS.late (x : RS) : RS × Bool := if x.phase = 1 ∧ faults x.n + 1 ≤ (x.pres.length : Int) then (x.slow, true) else (x, false)
def RS.hear (x : RS) (m : TMsg) : RS × Bool :=
  if 2 < x.phase ∨ m.Item ≠ x.item ∨ m.To ≠ x.self ∨ m.From < 0 ∨ x.n ≤ m.From then (x, false)
  else if m.Kind = 5 then ({ x with call := m.Call, phase := 3 }, true)
  else if m.Kind = 8 ∧ bLt x.ballot m.Ballot = true then ({ x with phase := 4 }, true)
  else if m.Ballot ≠ x.ballot then (x, false)
  else if m.Kind = 2 ∧ x.phase = 1 then x.hear1 m
  else if m.Kind = 4 ∧ x.phase = 2 then
    (if m.From ∈ x.oks then (x, false) else (if faults x.n + 1 ≤ ((x.oks ++ [m.From]).length : Int) then ({ x with oks := x.oks ++ [m.From], phase := 3 }, true) else ({ x with oks := x.oks ++ [m.From] }, false)))
  else (x, false)
theorem ref_late (p : Nat) (x : RS) (vp vo : Go.Value) (hn : 0 ≤ x.n ∧ x.n ≤ 1000) : Ct Try.prog 43 [Ptr p 0] (refE p x vp vo) (fun r σ' => r = B x.late.2 ∧ σ' = refE p x.late.1 vp vo) := by
  have hS := ref_slow p x vp vo
  have hF := ref_faults x.n (by omega)
  have hFa : faults x.n ≤ 1000 ∧ 0 ≤ faults x.n := by unfold faults; omega
  unfold refE at hS ⊢
  unfold RS.late
  by_cases h : x.phase = 1
  · by_cases h2 : faults x.n + 1 ≤ (x.pres.length : Int)
    · rw [if_pos ⟨h, h2⟩]
      refine Ct.enter Try.func43 rfl rfl fun W => ?_
      refine Wp.fact (rowsRd (f := TMsg.c) (v := vp) (l := x.pres) (E := 44) (sz := 25) TMsg.len (by (repeat first | exact List.Mem.head _ | apply List.Mem.tail))) fun hv => ?_
      obtain ⟨ap, cp, g, rfl, hR⟩ := hv
      apply Wp.seq
      apply Wp.region
      refine WpL.v (V.as) ?_
      apply WpL.nil
      apply Out.seqN
      apply Wp.seq
      refine Wp.dG [21] ?_ (List.Sublist.cons_cons _ (List.Sublist.cons_cons _ (List.Sublist.cons_cons _ List.Sublist.slnil))) (List.Sublist.cons _ (List.Sublist.cons _ (List.Sublist.cons _ List.Sublist.slnil)))
      refine WpA.tF 0 rfl (V.mv) ?_
      refine WpA.tF 1 rfl (V.nc) ?_
      refine WpA.tF 2 rfl (V.fa tb) ?_
      refine WpA.tD 3 rfl (V.ld1 tb) ?_
      refine WpA.tF 4 rfl (V.cmp) ?_
      refine WpA.tF 5 rfl (V.mv) ?_
      refine WpA.pt 8 (fun h0 => ?_) (fun h0 => ?_)
      (try simp only [decide_eq_true_eq, decide_eq_false_iff_not, Bool.not_eq_true', Bool.not_eq_false', Bool.not_eq_true, Bool.not_eq_false, not_true_eq_false, not_false_eq_true, reduceCtorEq] at h0)
      refine WpA.tF 6 rfl (V.mv) ?_
      refine WpA.tF 7 rfl (V.nc) ?_
      refine WpA.tF 8 rfl (V.fa tb) ?_
      refine WpA.tF 11 rfl (V.mv) ?_
      refine WpA.tF 12 rfl (V.nc) ?_
      refine WpA.tF 13 rfl (V.fa tb) ?_
      refine WpA.tD 9 rfl (V.ld1 tb) ?_
      refine WpA.tF 10 rfl (V.lenL tb) ?_
      refine WpA.tD 14 rfl (V.ld1 tb) ?_
      refine WpA.oS 15 rfl (Op1.fn rfl (hF) ⟨?_, ?_, ?_⟩)
      exact holdT
      exact holdT
      refine WpA.tF 16 rfl (V.add) ?_
      refine WpA.tF 17 rfl (V.cmp) ?_
      refine WpA.tF 18 rfl (V.pT) ?_
      refine WpA.tF 19 rfl (V.mv) ?_
      refine WpA.pt 22 (fun h1 => ?_) (fun h1 => ?_)
      (try simp only [decide_eq_true_eq, decide_eq_false_iff_not, Bool.not_eq_true', Bool.not_eq_false', Bool.not_eq_true, Bool.not_eq_false, not_true_eq_false, not_false_eq_true, reduceCtorEq] at h1)
      refine WpA.tF 20 rfl (V.mv) ?_
      refine WpA.l 21 rfl (Op1.callT rfl (hS) (by (repeat (first | exact Sel.nil | exact Rem.here | apply Sel.cons | apply Rem.there))) ?_)
      rintro v2 s3 ⟨rfl, rfl⟩
      refine incat ⟨?_, ?_⟩
      exact holdT
      refine WpA.tF 22 rfl (V.pT) ?_
      refine WpA.tF 23 rfl (V.as) ?_
      refine WpA.ou ?_
      apply Out.seqN
      apply Wp.ret
      refine Out.f1 rfl ResIs.t ⟨?_, rfl⟩
      exact rfl
      (try simp only [decide_eq_true_eq, decide_eq_false_iff_not, Bool.not_eq_true', Bool.not_eq_false', Bool.not_eq_true, Bool.not_eq_false, not_true_eq_false, not_false_eq_true, reduceCtorEq] at h1)
      (exfalso; omega)
      (try simp only [decide_eq_true_eq, decide_eq_false_iff_not, Bool.not_eq_true', Bool.not_eq_false', Bool.not_eq_true, Bool.not_eq_false, not_true_eq_false, not_false_eq_true, reduceCtorEq] at h0)
      contradiction
    · rw [if_neg (fun hh => h2 hh.2)]
      refine Ct.enter Try.func43 rfl rfl fun W => ?_
      refine Wp.fact (rowsRd (f := TMsg.c) (v := vp) (l := x.pres) (E := 44) (sz := 25) TMsg.len (by (repeat first | exact List.Mem.head _ | apply List.Mem.tail))) fun hv => ?_
      obtain ⟨ap, cp, g, rfl, hR⟩ := hv
      apply Wp.seq
      apply Wp.region
      refine WpL.v (V.as) ?_
      apply WpL.nil
      apply Out.seqN
      apply Wp.seq
      refine Wp.dG [] ?_ (List.Sublist.cons_cons _ (List.Sublist.cons_cons _ (List.Sublist.cons_cons _ List.Sublist.slnil))) (List.Sublist.cons_cons _ (List.Sublist.cons_cons _ (List.Sublist.cons_cons _ List.Sublist.slnil)))
      refine WpA.tF 0 rfl (V.mv) ?_
      refine WpA.tF 1 rfl (V.nc) ?_
      refine WpA.tF 2 rfl (V.fa tb) ?_
      refine WpA.tF 3 rfl (V.ld1 tb) ?_
      refine WpA.tF 4 rfl (V.cmp) ?_
      refine WpA.tF 5 rfl (V.mv) ?_
      refine WpA.pt 8 (fun hl20 => ?_) (fun hl20 => ?_)
      (try simp only [decide_eq_true_eq, decide_eq_false_iff_not, Bool.not_eq_true', Bool.not_eq_false', Bool.not_eq_true, Bool.not_eq_false, not_true_eq_false, not_false_eq_true, reduceCtorEq] at hl20)
      refine WpA.tF 6 rfl (V.mv) ?_
      refine WpA.tF 7 rfl (V.nc) ?_
      refine WpA.tF 8 rfl (V.fa tb) ?_
      refine WpA.tF 9 rfl (V.ld1 tb) ?_
      refine WpA.tF 10 rfl (V.lenL tb) ?_
      refine WpA.tF 11 rfl (V.mv) ?_
      refine WpA.tF 12 rfl (V.nc) ?_
      refine WpA.tF 13 rfl (V.fa tb) ?_
      refine WpA.tF 14 rfl (V.ld1 tb) ?_
      refine WpA.oS 15 rfl (Op1.fn rfl (hF) ⟨?_, ?_, ?_⟩)
      exact holdT
      exact holdT
      refine WpA.tF 16 rfl (V.add) ?_
      refine WpA.tF 17 rfl (V.cmp) ?_
      refine WpA.tF 18 rfl (V.pT) ?_
      refine WpA.tF 19 rfl (V.mv) ?_
      refine WpA.pt 22 (fun hl21 => ?_) (fun hl21 => ?_)
      (try simp only [decide_eq_true_eq, decide_eq_false_iff_not, Bool.not_eq_true', Bool.not_eq_false', Bool.not_eq_true, Bool.not_eq_false, not_true_eq_false, not_false_eq_true, reduceCtorEq] at hl21)
      (exfalso; omega)
      (try simp only [decide_eq_true_eq, decide_eq_false_iff_not, Bool.not_eq_true', Bool.not_eq_false', Bool.not_eq_true, Bool.not_eq_false, not_true_eq_false, not_false_eq_true, reduceCtorEq] at hl21)
      refine WpA.s 20 rfl ?_
      refine WpA.s 21 rfl ?_
      refine WpA.tF 22 rfl (V.pF) ?_
      refine WpA.tF 23 rfl (V.as) ?_
      refine WpA.ou ?_
      apply Out.seqN
      apply Wp.ret
      refine Out.f1 rfl ResIs.t ⟨?_, rfl⟩
      exact rfl
      (try simp only [decide_eq_true_eq, decide_eq_false_iff_not, Bool.not_eq_true', Bool.not_eq_false', Bool.not_eq_true, Bool.not_eq_false, not_true_eq_false, not_false_eq_true, reduceCtorEq] at hl20)
      contradiction
  · rw [if_neg (fun hh => h hh.1)]
    refine Ct.enter Try.func43 rfl rfl fun W => ?_
    apply Wp.seq
    apply Wp.region
    refine WpL.v (V.as) ?_
    apply WpL.nil
    apply Out.seqN
    apply Wp.seq
    refine Wp.dG [] ?_ (List.Sublist.cons_cons _ (List.Sublist.cons_cons _ (List.Sublist.cons_cons _ List.Sublist.slnil))) (List.Sublist.cons_cons _ (List.Sublist.cons_cons _ (List.Sublist.cons_cons _ List.Sublist.slnil)))
    refine WpA.tF 0 rfl (V.mv) ?_
    refine WpA.tF 1 rfl (V.nc) ?_
    refine WpA.tF 2 rfl (V.fa tb) ?_
    refine WpA.tF 3 rfl (V.ld1 tb) ?_
    refine WpA.tF 4 rfl (V.cmp) ?_
    refine WpA.tF 5 rfl (V.mv) ?_
    refine WpA.pt 8 (fun hl30 => ?_) (fun hl30 => ?_)
    (try simp only [decide_eq_true_eq, decide_eq_false_iff_not, Bool.not_eq_true', Bool.not_eq_false', Bool.not_eq_true, Bool.not_eq_false, not_true_eq_false, not_false_eq_true, reduceCtorEq] at hl30)
    contradiction
    (try simp only [decide_eq_true_eq, decide_eq_false_iff_not, Bool.not_eq_true', Bool.not_eq_false', Bool.not_eq_true, Bool.not_eq_false, not_true_eq_false, not_false_eq_true, reduceCtorEq] at hl30)
    refine WpA.s 6 rfl ?_
    refine WpA.s 7 rfl ?_
    refine WpA.s 8 rfl ?_
    refine WpA.s 9 rfl ?_
    refine WpA.s 10 rfl ?_
    refine WpA.s 11 rfl ?_
    refine WpA.s 12 rfl ?_
    refine WpA.s 13 rfl ?_
    refine WpA.s 14 rfl ?_
    refine WpA.s 15 rfl ?_
    refine WpA.s 16 rfl ?_
    refine WpA.s 17 rfl ?_
    refine WpA.tF 18 rfl (V.pF) ?_
    refine WpA.tF 19 rfl (V.mv) ?_
    refine WpA.s 20 rfl ?_
    refine WpA.s 21 rfl ?_
    refine WpA.tF 22 rfl (V.pF) ?_
    refine WpA.tF 23 rfl (V.as) ?_
    refine WpA.ou ?_
    apply Out.seqN
    apply Wp.ret
    refine Out.f1 rfl ResIs.t ⟨?_, rfl⟩
    exact rfl
set_option maxHeartbeats 4000000 in
theorem ref_hear (p : Nat) (x : RS) (vp vo : Go.Value) (m : TMsg) (hn : 0 ≤ x.n ∧ x.n ≤ 1000) (hl : x.pres.length ≤ 1000) (hl2 : x.oks.length ≤ 1000) :
    Ct Try.prog 44 [Ptr p 0, A m.c] (refE p x vp vo) (fun r σ' => ∃ vq vr, r = B (x.hear m).2 ∧ σ' = refE p (x.hear m).1 vq vr) := by
  have hP := ref_pre p x vp vo m hn hl
  have hL := ref_less x.ballot m.Ballot
  have hF := ref_faults x.n (by omega)
  have hFa : faults x.n ≤ 1000 ∧ 0 ≤ faults x.n := by unfold faults; omega
  have hfin : ∀ (a : RS × Bool) (f : Go.Value → List Ent → Prop), f = f := fun _ _ => rfl
  unfold refE at hP ⊢
  have hearly : (2 < x.phase ∨ m.Item ≠ x.item ∨ m.To ≠ x.self ∨ m.From < 0 ∨ x.n ≤ m.From) → Ct Try.prog 44 [Ptr p 0, A m.c] [cells p 88 (x.s vp vo).c, rows TMsg.c vp 44 25 x.pres, rows i64c vo 3 1 x.oks] (fun r σ' => ∃ vq vr, r = B false ∧ σ' = [cells p 88 (x.s vq vr).c, rows TMsg.c vq 44 25 x.pres, rows i64c vr 3 1 x.oks]) := by
    clear hP
    intro h0
    by_cases g1 : 2 < x.phase
    · refine Ct.enter Try.func44 rfl rfl fun W => ?_
      apply Wp.seq
      apply Wp.region
      refine WpL.o (O.bxA (fun p3 => ?_))
      refine WpL.v (V.as) ?_
      apply WpL.nil
      apply Out.seqN
      apply Wp.seq
      apply Wp.seq
      refine Wp.dG [] ?_ (List.Sublist.cons_cons _ (List.Sublist.cons_cons _ (List.Sublist.cons _ (List.Sublist.cons _ List.Sublist.slnil)))) (List.Sublist.cons_cons _ (List.Sublist.cons_cons _ (List.Sublist.cons _ (List.Sublist.cons _ List.Sublist.slnil))))
      refine WpA.tF 0 rfl (V.mv) ?_
      refine WpA.tF 1 rfl (V.nc) ?_
      refine WpA.tF 2 rfl (V.fa tb) ?_
      refine WpA.tF 3 rfl (V.ld1 tb) ?_
      refine WpA.tF 4 rfl (V.cmp) ?_
      refine WpA.tF 5 rfl (V.mv) ?_
      refine WpA.pt 12 (fun ha10 => ?_) (fun ha10 => ?_)
      (try simp only [decide_eq_true_eq, decide_eq_false_iff_not, Bool.not_eq_true', Bool.not_eq_false', Bool.not_eq_true, Bool.not_eq_false, not_true_eq_false, not_false_eq_true, reduceCtorEq] at ha10)
      refine WpA.s 6 rfl ?_
      refine WpA.s 7 rfl ?_
      refine WpA.s 8 rfl ?_
      refine WpA.s 9 rfl ?_
      refine WpA.s 10 rfl ?_
      refine WpA.s 11 rfl ?_
      refine WpA.s 12 rfl ?_
      refine WpA.tF 13 rfl (V.pT) ?_
      refine WpA.tF 14 rfl (V.mv) ?_
      refine WpA.s 15 rfl ?_
      refine WpA.s 16 rfl ?_
      refine WpA.s 17 rfl ?_
      refine WpA.s 18 rfl ?_
      refine WpA.s 19 rfl ?_
      refine WpA.s 20 rfl ?_
      refine WpA.s 21 rfl ?_
      refine WpA.tF 22 rfl (V.pT) ?_
      refine WpA.tF 23 rfl (V.mv) ?_
      refine WpA.s 24 rfl ?_
      refine WpA.s 25 rfl ?_
      refine WpA.s 26 rfl ?_
      refine WpA.tF 27 rfl (V.pT) ?_
      refine WpA.tF 28 rfl (V.mv) ?_
      refine WpA.s 29 rfl ?_
      refine WpA.s 30 rfl ?_
      refine WpA.s 31 rfl ?_
      refine WpA.s 32 rfl ?_
      refine WpA.s 33 rfl ?_
      refine WpA.s 34 rfl ?_
      refine WpA.s 35 rfl ?_
      refine WpA.tF 36 rfl (V.pT) ?_
      refine WpA.ou ?_
      apply Out.seqN
      refine Wp.cT ?_
      apply Wp.seq
      apply Wp.region
      refine WpL.v (V.as) ?_
      apply WpL.nil
      apply Out.seqN
      apply Wp.ret
      apply Out.seqR
      refine Out.e1 rfl ResIs.t ?_
      focus (exact ⟨_, _, ⟨vp, vo, rfl, rfl⟩, (by (repeat (first | exact Sel.nil | exact Rem.here | apply Sel.cons | apply Rem.there)))⟩; done)
      (try simp only [decide_eq_true_eq, decide_eq_false_iff_not, Bool.not_eq_true', Bool.not_eq_false', Bool.not_eq_true, Bool.not_eq_false, not_true_eq_false, not_false_eq_true, reduceCtorEq] at ha10)
      contradiction
    by_cases g2 : m.Item = x.item
    · by_cases g3 : m.To = x.self
      · by_cases g4 : m.From < 0
        · refine Ct.enter Try.func44 rfl rfl fun W => ?_
          apply Wp.seq
          apply Wp.region
          refine WpL.o (O.bxA (fun p3 => ?_))
          refine WpL.v (V.as) ?_
          apply WpL.nil
          apply Out.seqN
          apply Wp.seq
          apply Wp.seq
          refine Wp.dG [] ?_ (List.Sublist.cons_cons _ (List.Sublist.cons_cons _ (List.Sublist.cons _ (List.Sublist.cons _ List.Sublist.slnil)))) (List.Sublist.cons_cons _ (List.Sublist.cons_cons _ (List.Sublist.cons _ (List.Sublist.cons _ List.Sublist.slnil))))
          refine WpA.tF 0 rfl (V.mv) ?_
          refine WpA.tF 1 rfl (V.nc) ?_
          refine WpA.tF 2 rfl (V.fa tb) ?_
          refine WpA.tF 3 rfl (V.ld1 tb) ?_
          refine WpA.tF 4 rfl (V.cmp) ?_
          refine WpA.tF 5 rfl (V.mv) ?_
          refine WpA.pt 12 (fun ha20 => ?_) (fun ha20 => ?_)
          (try simp only [decide_eq_true_eq, decide_eq_false_iff_not, Bool.not_eq_true', Bool.not_eq_false', Bool.not_eq_true, Bool.not_eq_false, not_true_eq_false, not_false_eq_true, reduceCtorEq] at ha20)
          contradiction
          (try simp only [decide_eq_true_eq, decide_eq_false_iff_not, Bool.not_eq_true', Bool.not_eq_false', Bool.not_eq_true, Bool.not_eq_false, not_true_eq_false, not_false_eq_true, reduceCtorEq] at ha20)
          refine WpA.tF 6 rfl (V.fa tb) ?_
          refine WpA.tF 7 rfl (V.ldA tb) ?_
          refine WpA.tF 8 rfl (V.mv) ?_
          refine WpA.tF 9 rfl (V.nc) ?_
          refine WpA.tF 10 rfl (V.fa tb) ?_
          refine WpA.tF 11 rfl (V.ldA tb) ?_
          refine WpA.tF 12 rfl (V.ne (TItem.eqT _ _ _)) ?_
          refine WpA.tF 13 rfl (V.pF) ?_
          refine WpA.tF 14 rfl (V.mv) ?_
          refine WpA.pt 21 (fun ha21 => ?_) (fun ha21 => ?_)
          (try simp only [decide_eq_true_eq, decide_eq_false_iff_not, Bool.not_eq_true', Bool.not_eq_false', Bool.not_eq_true, Bool.not_eq_false, not_true_eq_false, not_false_eq_true, reduceCtorEq] at ha21)
          contradiction
          (try simp only [decide_eq_true_eq, decide_eq_false_iff_not, Bool.not_eq_true', Bool.not_eq_false', Bool.not_eq_true, Bool.not_eq_false, not_true_eq_false, not_false_eq_true, reduceCtorEq] at ha21)
          refine WpA.tF 15 rfl (V.fa tb) ?_
          refine WpA.tF 16 rfl (V.ld1 tb) ?_
          refine WpA.tF 17 rfl (V.mv) ?_
          refine WpA.tF 18 rfl (V.nc) ?_
          refine WpA.tF 19 rfl (V.fa tb) ?_
          refine WpA.tF 20 rfl (V.ld1 tb) ?_
          refine WpA.tF 21 rfl (V.cmp) ?_
          refine WpA.tF 22 rfl (V.pF) ?_
          refine WpA.tF 23 rfl (V.mv) ?_
          refine WpA.pt 30 (fun ha22 => ?_) (fun ha22 => ?_)
          (try simp only [decide_eq_true_eq, decide_eq_false_iff_not, Bool.not_eq_true', Bool.not_eq_false', Bool.not_eq_true, Bool.not_eq_false, not_true_eq_false, not_false_eq_true, reduceCtorEq] at ha22)
          contradiction
          (try simp only [decide_eq_true_eq, decide_eq_false_iff_not, Bool.not_eq_true', Bool.not_eq_false', Bool.not_eq_true, Bool.not_eq_false, not_true_eq_false, not_false_eq_true, reduceCtorEq] at ha22)
          refine WpA.tF 24 rfl (V.fa tb) ?_
          refine WpA.tF 25 rfl (V.ld1 tb) ?_
          refine WpA.tF 26 rfl (V.cmp) ?_
          refine WpA.tF 27 rfl (V.pF) ?_
          refine WpA.tF 28 rfl (V.mv) ?_
          refine WpA.pt 35 (fun ha23 => ?_) (fun ha23 => ?_)
          (try simp only [decide_eq_true_eq, decide_eq_false_iff_not, Bool.not_eq_true', Bool.not_eq_false', Bool.not_eq_true, Bool.not_eq_false, not_true_eq_false, not_false_eq_true, reduceCtorEq] at ha23)
          refine WpA.s 29 rfl ?_
          refine WpA.s 30 rfl ?_
          refine WpA.s 31 rfl ?_
          refine WpA.s 32 rfl ?_
          refine WpA.s 33 rfl ?_
          refine WpA.s 34 rfl ?_
          refine WpA.s 35 rfl ?_
          refine WpA.tF 36 rfl (V.pT) ?_
          refine WpA.ou ?_
          apply Out.seqN
          refine Wp.cT ?_
          apply Wp.seq
          apply Wp.region
          refine WpL.v (V.as) ?_
          apply WpL.nil
          apply Out.seqN
          apply Wp.ret
          apply Out.seqR
          refine Out.e1 rfl ResIs.t ?_
          focus (exact ⟨_, _, ⟨vp, vo, rfl, rfl⟩, (by (repeat (first | exact Sel.nil | exact Rem.here | apply Sel.cons | apply Rem.there)))⟩; done)
          (try simp only [decide_eq_true_eq, decide_eq_false_iff_not, Bool.not_eq_true', Bool.not_eq_false', Bool.not_eq_true, Bool.not_eq_false, not_true_eq_false, not_false_eq_true, reduceCtorEq] at ha23)
          (exfalso; omega)
        · have g5 : x.n ≤ m.From := by
            rcases h0 with h | h | h | h | h
            · exact absurd h g1
            · exact absurd g2 h
            · exact absurd g3 h
            · exact absurd h g4
            · exact h
          refine Ct.enter Try.func44 rfl rfl fun W => ?_
          apply Wp.seq
          apply Wp.region
          refine WpL.o (O.bxA (fun p3 => ?_))
          refine WpL.v (V.as) ?_
          apply WpL.nil
          apply Out.seqN
          apply Wp.seq
          apply Wp.seq
          refine Wp.dG [] ?_ (List.Sublist.cons_cons _ (List.Sublist.cons_cons _ (List.Sublist.cons _ (List.Sublist.cons _ List.Sublist.slnil)))) (List.Sublist.cons_cons _ (List.Sublist.cons_cons _ (List.Sublist.cons _ (List.Sublist.cons _ List.Sublist.slnil))))
          refine WpA.tF 0 rfl (V.mv) ?_
          refine WpA.tF 1 rfl (V.nc) ?_
          refine WpA.tF 2 rfl (V.fa tb) ?_
          refine WpA.tF 3 rfl (V.ld1 tb) ?_
          refine WpA.tF 4 rfl (V.cmp) ?_
          refine WpA.tF 5 rfl (V.mv) ?_
          refine WpA.pt 12 (fun ha30 => ?_) (fun ha30 => ?_)
          (try simp only [decide_eq_true_eq, decide_eq_false_iff_not, Bool.not_eq_true', Bool.not_eq_false', Bool.not_eq_true, Bool.not_eq_false, not_true_eq_false, not_false_eq_true, reduceCtorEq] at ha30)
          contradiction
          (try simp only [decide_eq_true_eq, decide_eq_false_iff_not, Bool.not_eq_true', Bool.not_eq_false', Bool.not_eq_true, Bool.not_eq_false, not_true_eq_false, not_false_eq_true, reduceCtorEq] at ha30)
          refine WpA.tF 6 rfl (V.fa tb) ?_
          refine WpA.tF 7 rfl (V.ldA tb) ?_
          refine WpA.tF 8 rfl (V.mv) ?_
          refine WpA.tF 9 rfl (V.nc) ?_
          refine WpA.tF 10 rfl (V.fa tb) ?_
          refine WpA.tF 11 rfl (V.ldA tb) ?_
          refine WpA.tF 12 rfl (V.ne (TItem.eqT _ _ _)) ?_
          refine WpA.tF 13 rfl (V.pF) ?_
          refine WpA.tF 14 rfl (V.mv) ?_
          refine WpA.pt 21 (fun ha31 => ?_) (fun ha31 => ?_)
          (try simp only [decide_eq_true_eq, decide_eq_false_iff_not, Bool.not_eq_true', Bool.not_eq_false', Bool.not_eq_true, Bool.not_eq_false, not_true_eq_false, not_false_eq_true, reduceCtorEq] at ha31)
          contradiction
          (try simp only [decide_eq_true_eq, decide_eq_false_iff_not, Bool.not_eq_true', Bool.not_eq_false', Bool.not_eq_true, Bool.not_eq_false, not_true_eq_false, not_false_eq_true, reduceCtorEq] at ha31)
          refine WpA.tF 15 rfl (V.fa tb) ?_
          refine WpA.tF 16 rfl (V.ld1 tb) ?_
          refine WpA.tF 17 rfl (V.mv) ?_
          refine WpA.tF 18 rfl (V.nc) ?_
          refine WpA.tF 19 rfl (V.fa tb) ?_
          refine WpA.tF 20 rfl (V.ld1 tb) ?_
          refine WpA.tF 21 rfl (V.cmp) ?_
          refine WpA.tF 22 rfl (V.pF) ?_
          refine WpA.tF 23 rfl (V.mv) ?_
          refine WpA.pt 30 (fun ha32 => ?_) (fun ha32 => ?_)
          (try simp only [decide_eq_true_eq, decide_eq_false_iff_not, Bool.not_eq_true', Bool.not_eq_false', Bool.not_eq_true, Bool.not_eq_false, not_true_eq_false, not_false_eq_true, reduceCtorEq] at ha32)
          contradiction
          (try simp only [decide_eq_true_eq, decide_eq_false_iff_not, Bool.not_eq_true', Bool.not_eq_false', Bool.not_eq_true, Bool.not_eq_false, not_true_eq_false, not_false_eq_true, reduceCtorEq] at ha32)
          refine WpA.tF 24 rfl (V.fa tb) ?_
          refine WpA.tF 25 rfl (V.ld1 tb) ?_
          refine WpA.tF 26 rfl (V.cmp) ?_
          refine WpA.tF 27 rfl (V.pF) ?_
          refine WpA.tF 28 rfl (V.mv) ?_
          refine WpA.pt 35 (fun ha33 => ?_) (fun ha33 => ?_)
          (try simp only [decide_eq_true_eq, decide_eq_false_iff_not, Bool.not_eq_true', Bool.not_eq_false', Bool.not_eq_true, Bool.not_eq_false, not_true_eq_false, not_false_eq_true, reduceCtorEq] at ha33)
          (exfalso; omega)
          (try simp only [decide_eq_true_eq, decide_eq_false_iff_not, Bool.not_eq_true', Bool.not_eq_false', Bool.not_eq_true, Bool.not_eq_false, not_true_eq_false, not_false_eq_true, reduceCtorEq] at ha33)
          refine WpA.tF 29 rfl (V.fa tb) ?_
          refine WpA.tF 30 rfl (V.ld1 tb) ?_
          refine WpA.tF 31 rfl (V.mv) ?_
          refine WpA.tF 32 rfl (V.nc) ?_
          refine WpA.tF 33 rfl (V.fa tb) ?_
          refine WpA.tF 34 rfl (V.ld1 tb) ?_
          refine WpA.tF 35 rfl (V.cmp) ?_
          refine WpA.tF 36 rfl (V.pF) ?_
          refine WpA.ou ?_
          apply Out.seqN
          refine Wp.c (fun ha34 => ?_) (fun ha34 => ?_)
          (try simp only [decide_eq_true_eq, decide_eq_false_iff_not, Bool.not_eq_true', Bool.not_eq_false', Bool.not_eq_true, Bool.not_eq_false, not_true_eq_false, not_false_eq_true, reduceCtorEq] at ha34)
          apply Wp.seq
          apply Wp.region
          refine WpL.v (V.as) ?_
          apply WpL.nil
          apply Out.seqN
          apply Wp.ret
          apply Out.seqR
          refine Out.e1 rfl ResIs.t ?_
          focus (exact ⟨_, _, ⟨vp, vo, rfl, rfl⟩, (by (repeat (first | exact Sel.nil | exact Rem.here | apply Sel.cons | apply Rem.there)))⟩; done)
          (try simp only [decide_eq_true_eq, decide_eq_false_iff_not, Bool.not_eq_true', Bool.not_eq_false', Bool.not_eq_true, Bool.not_eq_false, not_true_eq_false, not_false_eq_true, reduceCtorEq] at ha34)
          contradiction
      · refine Ct.enter Try.func44 rfl rfl fun W => ?_
        apply Wp.seq
        apply Wp.region
        refine WpL.o (O.bxA (fun p3 => ?_))
        refine WpL.v (V.as) ?_
        apply WpL.nil
        apply Out.seqN
        apply Wp.seq
        apply Wp.seq
        refine Wp.dG [] ?_ (List.Sublist.cons_cons _ (List.Sublist.cons_cons _ (List.Sublist.cons _ (List.Sublist.cons _ List.Sublist.slnil)))) (List.Sublist.cons_cons _ (List.Sublist.cons_cons _ (List.Sublist.cons _ (List.Sublist.cons _ List.Sublist.slnil))))
        refine WpA.tF 0 rfl (V.mv) ?_
        refine WpA.tF 1 rfl (V.nc) ?_
        refine WpA.tF 2 rfl (V.fa tb) ?_
        refine WpA.tF 3 rfl (V.ld1 tb) ?_
        refine WpA.tF 4 rfl (V.cmp) ?_
        refine WpA.tF 5 rfl (V.mv) ?_
        refine WpA.pt 12 (fun ha40 => ?_) (fun ha40 => ?_)
        (try simp only [decide_eq_true_eq, decide_eq_false_iff_not, Bool.not_eq_true', Bool.not_eq_false', Bool.not_eq_true, Bool.not_eq_false, not_true_eq_false, not_false_eq_true, reduceCtorEq] at ha40)
        contradiction
        (try simp only [decide_eq_true_eq, decide_eq_false_iff_not, Bool.not_eq_true', Bool.not_eq_false', Bool.not_eq_true, Bool.not_eq_false, not_true_eq_false, not_false_eq_true, reduceCtorEq] at ha40)
        refine WpA.tF 6 rfl (V.fa tb) ?_
        refine WpA.tF 7 rfl (V.ldA tb) ?_
        refine WpA.tF 8 rfl (V.mv) ?_
        refine WpA.tF 9 rfl (V.nc) ?_
        refine WpA.tF 10 rfl (V.fa tb) ?_
        refine WpA.tF 11 rfl (V.ldA tb) ?_
        refine WpA.tF 12 rfl (V.ne (TItem.eqT _ _ _)) ?_
        refine WpA.tF 13 rfl (V.pF) ?_
        refine WpA.tF 14 rfl (V.mv) ?_
        refine WpA.pt 21 (fun ha41 => ?_) (fun ha41 => ?_)
        (try simp only [decide_eq_true_eq, decide_eq_false_iff_not, Bool.not_eq_true', Bool.not_eq_false', Bool.not_eq_true, Bool.not_eq_false, not_true_eq_false, not_false_eq_true, reduceCtorEq] at ha41)
        contradiction
        (try simp only [decide_eq_true_eq, decide_eq_false_iff_not, Bool.not_eq_true', Bool.not_eq_false', Bool.not_eq_true, Bool.not_eq_false, not_true_eq_false, not_false_eq_true, reduceCtorEq] at ha41)
        refine WpA.tF 15 rfl (V.fa tb) ?_
        refine WpA.tF 16 rfl (V.ld1 tb) ?_
        refine WpA.tF 17 rfl (V.mv) ?_
        refine WpA.tF 18 rfl (V.nc) ?_
        refine WpA.tF 19 rfl (V.fa tb) ?_
        refine WpA.tF 20 rfl (V.ld1 tb) ?_
        refine WpA.tF 21 rfl (V.cmp) ?_
        refine WpA.tF 22 rfl (V.pF) ?_
        refine WpA.tF 23 rfl (V.mv) ?_
        refine WpA.pt 30 (fun ha42 => ?_) (fun ha42 => ?_)
        (try simp only [decide_eq_true_eq, decide_eq_false_iff_not, Bool.not_eq_true', Bool.not_eq_false', Bool.not_eq_true, Bool.not_eq_false, not_true_eq_false, not_false_eq_true, reduceCtorEq] at ha42)
        refine WpA.s 24 rfl ?_
        refine WpA.s 25 rfl ?_
        refine WpA.s 26 rfl ?_
        refine WpA.tF 27 rfl (V.pT) ?_
        refine WpA.tF 28 rfl (V.mv) ?_
        refine WpA.s 29 rfl ?_
        refine WpA.s 30 rfl ?_
        refine WpA.s 31 rfl ?_
        refine WpA.s 32 rfl ?_
        refine WpA.s 33 rfl ?_
        refine WpA.s 34 rfl ?_
        refine WpA.s 35 rfl ?_
        refine WpA.tF 36 rfl (V.pT) ?_
        refine WpA.ou ?_
        apply Out.seqN
        refine Wp.cT ?_
        apply Wp.seq
        apply Wp.region
        refine WpL.v (V.as) ?_
        apply WpL.nil
        apply Out.seqN
        apply Wp.ret
        apply Out.seqR
        refine Out.e1 rfl ResIs.t ?_
        focus (exact ⟨_, _, ⟨vp, vo, rfl, rfl⟩, (by (repeat (first | exact Sel.nil | exact Rem.here | apply Sel.cons | apply Rem.there)))⟩; done)
        (try simp only [decide_eq_true_eq, decide_eq_false_iff_not, Bool.not_eq_true', Bool.not_eq_false', Bool.not_eq_true, Bool.not_eq_false, not_true_eq_false, not_false_eq_true, reduceCtorEq] at ha42)
        contradiction
    · refine Ct.enter Try.func44 rfl rfl fun W => ?_
      apply Wp.seq
      apply Wp.region
      refine WpL.o (O.bxA (fun p3 => ?_))
      refine WpL.v (V.as) ?_
      apply WpL.nil
      apply Out.seqN
      apply Wp.seq
      apply Wp.seq
      refine Wp.dG [] ?_ (List.Sublist.cons_cons _ (List.Sublist.cons_cons _ (List.Sublist.cons _ (List.Sublist.cons _ List.Sublist.slnil)))) (List.Sublist.cons_cons _ (List.Sublist.cons_cons _ (List.Sublist.cons _ (List.Sublist.cons _ List.Sublist.slnil))))
      refine WpA.tF 0 rfl (V.mv) ?_
      refine WpA.tF 1 rfl (V.nc) ?_
      refine WpA.tF 2 rfl (V.fa tb) ?_
      refine WpA.tF 3 rfl (V.ld1 tb) ?_
      refine WpA.tF 4 rfl (V.cmp) ?_
      refine WpA.tF 5 rfl (V.mv) ?_
      refine WpA.pt 12 (fun ha50 => ?_) (fun ha50 => ?_)
      (try simp only [decide_eq_true_eq, decide_eq_false_iff_not, Bool.not_eq_true', Bool.not_eq_false', Bool.not_eq_true, Bool.not_eq_false, not_true_eq_false, not_false_eq_true, reduceCtorEq] at ha50)
      contradiction
      (try simp only [decide_eq_true_eq, decide_eq_false_iff_not, Bool.not_eq_true', Bool.not_eq_false', Bool.not_eq_true, Bool.not_eq_false, not_true_eq_false, not_false_eq_true, reduceCtorEq] at ha50)
      refine WpA.tF 6 rfl (V.fa tb) ?_
      refine WpA.tF 7 rfl (V.ldA tb) ?_
      refine WpA.tF 8 rfl (V.mv) ?_
      refine WpA.tF 9 rfl (V.nc) ?_
      refine WpA.tF 10 rfl (V.fa tb) ?_
      refine WpA.tF 11 rfl (V.ldA tb) ?_
      refine WpA.tF 12 rfl (V.ne (TItem.eqT _ _ _)) ?_
      refine WpA.tF 13 rfl (V.pF) ?_
      refine WpA.tF 14 rfl (V.mv) ?_
      refine WpA.pt 21 (fun ha51 => ?_) (fun ha51 => ?_)
      (try simp only [decide_eq_true_eq, decide_eq_false_iff_not, Bool.not_eq_true', Bool.not_eq_false', Bool.not_eq_true, Bool.not_eq_false, not_true_eq_false, not_false_eq_true, reduceCtorEq] at ha51)
      refine WpA.s 15 rfl ?_
      refine WpA.s 16 rfl ?_
      refine WpA.s 17 rfl ?_
      refine WpA.s 18 rfl ?_
      refine WpA.s 19 rfl ?_
      refine WpA.s 20 rfl ?_
      refine WpA.s 21 rfl ?_
      refine WpA.tF 22 rfl (V.pT) ?_
      refine WpA.tF 23 rfl (V.mv) ?_
      refine WpA.s 24 rfl ?_
      refine WpA.s 25 rfl ?_
      refine WpA.s 26 rfl ?_
      refine WpA.tF 27 rfl (V.pT) ?_
      refine WpA.tF 28 rfl (V.mv) ?_
      refine WpA.s 29 rfl ?_
      refine WpA.s 30 rfl ?_
      refine WpA.s 31 rfl ?_
      refine WpA.s 32 rfl ?_
      refine WpA.s 33 rfl ?_
      refine WpA.s 34 rfl ?_
      refine WpA.s 35 rfl ?_
      refine WpA.tF 36 rfl (V.pT) ?_
      refine WpA.ou ?_
      apply Out.seqN
      refine Wp.cT ?_
      apply Wp.seq
      apply Wp.region
      refine WpL.v (V.as) ?_
      apply WpL.nil
      apply Out.seqN
      apply Wp.ret
      apply Out.seqR
      refine Out.e1 rfl ResIs.t ?_
      focus (exact ⟨_, _, ⟨vp, vo, rfl, rfl⟩, (by (repeat (first | exact Sel.nil | exact Rem.here | apply Sel.cons | apply Rem.there)))⟩; done)
      (try simp only [decide_eq_true_eq, decide_eq_false_iff_not, Bool.not_eq_true', Bool.not_eq_false', Bool.not_eq_true, Bool.not_eq_false, not_true_eq_false, not_false_eq_true, reduceCtorEq] at ha51)
      contradiction
  unfold RS.hear
  by_cases h0 : 2 < x.phase ∨ m.Item ≠ x.item ∨ m.To ≠ x.self ∨ m.From < 0 ∨ x.n ≤ m.From
  · rw [if_pos h0]
    exact hearly h0
  clear hearly
  rw [if_neg h0]
  have g1 : ¬ 2 < x.phase := fun h => h0 (.inl h)
  have g2 : m.Item = x.item := Decidable.byContradiction fun h => h0 (.inr (.inl h))
  have g3 : m.To = x.self := Decidable.byContradiction fun h => h0 (.inr (.inr (.inl h)))
  have g4 : ¬ m.From < 0 := fun h => h0 (.inr (.inr (.inr (.inl h))))
  have g5 : ¬ x.n ≤ m.From := fun h => h0 (.inr (.inr (.inr (.inr h))))
  clear h0
  by_cases h5 : m.Kind = 5
  · rw [if_pos h5]
    clear hP
    refine Ct.enter Try.func44 rfl rfl fun W => ?_
    apply Wp.seq
    apply Wp.region
    refine WpL.o (O.bxA (fun p3 => ?_))
    refine WpL.v (V.as) ?_
    apply WpL.nil
    apply Out.seqN
    apply Wp.seq
    apply Wp.seq
    refine Wp.dG [] ?_ (List.Sublist.cons_cons _ (List.Sublist.cons_cons _ (List.Sublist.cons _ (List.Sublist.cons _ List.Sublist.slnil)))) (List.Sublist.cons_cons _ (List.Sublist.cons_cons _ (List.Sublist.cons _ (List.Sublist.cons _ List.Sublist.slnil))))
    refine WpA.tF 0 rfl (V.mv) ?_
    refine WpA.tF 1 rfl (V.nc) ?_
    refine WpA.tF 2 rfl (V.fa tb) ?_
    refine WpA.tF 3 rfl (V.ld1 tb) ?_
    refine WpA.tF 4 rfl (V.cmp) ?_
    refine WpA.tF 5 rfl (V.mv) ?_
    refine WpA.pt 12 (fun hb0 => ?_) (fun hb0 => ?_)
    (try simp only [decide_eq_true_eq, decide_eq_false_iff_not, Bool.not_eq_true', Bool.not_eq_false', Bool.not_eq_true, Bool.not_eq_false, not_true_eq_false, not_false_eq_true, reduceCtorEq] at hb0)
    contradiction
    (try simp only [decide_eq_true_eq, decide_eq_false_iff_not, Bool.not_eq_true', Bool.not_eq_false', Bool.not_eq_true, Bool.not_eq_false, not_true_eq_false, not_false_eq_true, reduceCtorEq] at hb0)
    refine WpA.tF 6 rfl (V.fa tb) ?_
    refine WpA.tF 7 rfl (V.ldA tb) ?_
    refine WpA.tF 8 rfl (V.mv) ?_
    refine WpA.tF 9 rfl (V.nc) ?_
    refine WpA.tF 10 rfl (V.fa tb) ?_
    refine WpA.tF 11 rfl (V.ldA tb) ?_
    refine WpA.tF 12 rfl (V.ne (TItem.eqT _ _ _)) ?_
    refine WpA.tF 13 rfl (V.pF) ?_
    refine WpA.tF 14 rfl (V.mv) ?_
    refine WpA.pt 21 (fun hb1 => ?_) (fun hb1 => ?_)
    (try simp only [decide_eq_true_eq, decide_eq_false_iff_not, Bool.not_eq_true', Bool.not_eq_false', Bool.not_eq_true, Bool.not_eq_false, not_true_eq_false, not_false_eq_true, reduceCtorEq] at hb1)
    contradiction
    (try simp only [decide_eq_true_eq, decide_eq_false_iff_not, Bool.not_eq_true', Bool.not_eq_false', Bool.not_eq_true, Bool.not_eq_false, not_true_eq_false, not_false_eq_true, reduceCtorEq] at hb1)
    refine WpA.tF 15 rfl (V.fa tb) ?_
    refine WpA.tF 16 rfl (V.ld1 tb) ?_
    refine WpA.tF 17 rfl (V.mv) ?_
    refine WpA.tF 18 rfl (V.nc) ?_
    refine WpA.tF 19 rfl (V.fa tb) ?_
    refine WpA.tF 20 rfl (V.ld1 tb) ?_
    refine WpA.tF 21 rfl (V.cmp) ?_
    refine WpA.tF 22 rfl (V.pF) ?_
    refine WpA.tF 23 rfl (V.mv) ?_
    refine WpA.pt 30 (fun hb2 => ?_) (fun hb2 => ?_)
    (try simp only [decide_eq_true_eq, decide_eq_false_iff_not, Bool.not_eq_true', Bool.not_eq_false', Bool.not_eq_true, Bool.not_eq_false, not_true_eq_false, not_false_eq_true, reduceCtorEq] at hb2)
    contradiction
    (try simp only [decide_eq_true_eq, decide_eq_false_iff_not, Bool.not_eq_true', Bool.not_eq_false', Bool.not_eq_true, Bool.not_eq_false, not_true_eq_false, not_false_eq_true, reduceCtorEq] at hb2)
    refine WpA.tF 24 rfl (V.fa tb) ?_
    refine WpA.tF 25 rfl (V.ld1 tb) ?_
    refine WpA.tF 26 rfl (V.cmp) ?_
    refine WpA.tF 27 rfl (V.pF) ?_
    refine WpA.tF 28 rfl (V.mv) ?_
    refine WpA.pt 35 (fun hb3 => ?_) (fun hb3 => ?_)
    (try simp only [decide_eq_true_eq, decide_eq_false_iff_not, Bool.not_eq_true', Bool.not_eq_false', Bool.not_eq_true, Bool.not_eq_false, not_true_eq_false, not_false_eq_true, reduceCtorEq] at hb3)
    (exfalso; omega)
    (try simp only [decide_eq_true_eq, decide_eq_false_iff_not, Bool.not_eq_true', Bool.not_eq_false', Bool.not_eq_true, Bool.not_eq_false, not_true_eq_false, not_false_eq_true, reduceCtorEq] at hb3)
    refine WpA.tF 29 rfl (V.fa tb) ?_
    refine WpA.tF 30 rfl (V.ld1 tb) ?_
    refine WpA.tF 31 rfl (V.mv) ?_
    refine WpA.tF 32 rfl (V.nc) ?_
    refine WpA.tF 33 rfl (V.fa tb) ?_
    refine WpA.tF 34 rfl (V.ld1 tb) ?_
    refine WpA.tF 35 rfl (V.cmp) ?_
    refine WpA.tF 36 rfl (V.pF) ?_
    refine WpA.ou ?_
    apply Out.seqN
    refine Wp.c (fun hb4 => ?_) (fun hb4 => ?_)
    (try simp only [decide_eq_true_eq, decide_eq_false_iff_not, Bool.not_eq_true', Bool.not_eq_false', Bool.not_eq_true, Bool.not_eq_false, not_true_eq_false, not_false_eq_true, reduceCtorEq] at hb4)
    contradiction
    (try simp only [decide_eq_true_eq, decide_eq_false_iff_not, Bool.not_eq_true', Bool.not_eq_false', Bool.not_eq_true, Bool.not_eq_false, not_true_eq_false, not_false_eq_true, reduceCtorEq] at hb4)
    apply Wp.skip
    apply Out.seqN
    apply Wp.seq
    apply Wp.seq
    apply Wp.region
    refine WpL.v (V.fa tb) ?_
    refine WpL.v (V.ld1 tb) ?_
    refine WpL.v (V.cmp) ?_
    apply WpL.nil
    apply Out.seqN
    refine Wp.c (fun hb5 => ?_) (fun hb5 => ?_)
    (try simp only [decide_eq_true_eq, decide_eq_false_iff_not, Bool.not_eq_true', Bool.not_eq_false', Bool.not_eq_true, Bool.not_eq_false, not_true_eq_false, not_false_eq_true, reduceCtorEq] at hb5)
    apply Wp.seq
    apply Wp.region
    refine WpL.v (V.mv) ?_
    refine WpL.v (V.fa tb) ?_
    refine WpL.v (V.ldA tb) ?_
    refine WpL.v (V.nc) ?_
    refine WpL.v (V.fa tb) ?_
    refine WpL.o (O.stA tb ?_)
    apply WpL.nil
    apply Out.seqN
    apply Wp.seq
    apply Wp.region
    refine WpL.v (V.mv) ?_
    refine WpL.v (V.nc) ?_
    refine WpL.v (V.fa tb) ?_
    refine WpL.o (O.st1 tb ?_)
    apply WpL.nil
    apply Out.seqN
    apply Wp.seq
    apply Wp.region
    refine WpL.v (V.as) ?_
    apply WpL.nil
    apply Out.seqN
    apply Wp.ret
    apply Out.seqR
    refine Out.e1 rfl ResIs.t ?_
    focus (exact ⟨_, _, ⟨vp, vo, rfl, rfl⟩, (by (repeat (first | exact Sel.nil | exact Rem.here | apply Sel.cons | apply Rem.there)))⟩; done)
    (try simp only [decide_eq_true_eq, decide_eq_false_iff_not, Bool.not_eq_true', Bool.not_eq_false', Bool.not_eq_true, Bool.not_eq_false, not_true_eq_false, not_false_eq_true, reduceCtorEq] at hb5)
    (exfalso; omega)
  rw [if_neg h5]
  by_cases h8 : m.Kind = 8 ∧ bLt x.ballot m.Ballot = true
  · rw [if_pos h8]
    obtain ⟨h8, h9⟩ := h8
    rw [h9] at hL
    clear hP
    refine Ct.enter Try.func44 rfl rfl fun W => ?_
    apply Wp.seq
    apply Wp.region
    refine WpL.o (O.bxA (fun p3 => ?_))
    refine WpL.v (V.as) ?_
    apply WpL.nil
    apply Out.seqN
    apply Wp.seq
    apply Wp.seq
    refine Wp.dG [] ?_ (List.Sublist.cons_cons _ (List.Sublist.cons_cons _ (List.Sublist.cons _ (List.Sublist.cons _ List.Sublist.slnil)))) (List.Sublist.cons_cons _ (List.Sublist.cons_cons _ (List.Sublist.cons _ (List.Sublist.cons _ List.Sublist.slnil))))
    refine WpA.tF 0 rfl (V.mv) ?_
    refine WpA.tF 1 rfl (V.nc) ?_
    refine WpA.tF 2 rfl (V.fa tb) ?_
    refine WpA.tF 3 rfl (V.ld1 tb) ?_
    refine WpA.tF 4 rfl (V.cmp) ?_
    refine WpA.tF 5 rfl (V.mv) ?_
    refine WpA.pt 12 (fun hc0 => ?_) (fun hc0 => ?_)
    (try simp only [decide_eq_true_eq, decide_eq_false_iff_not, Bool.not_eq_true', Bool.not_eq_false', Bool.not_eq_true, Bool.not_eq_false, not_true_eq_false, not_false_eq_true, reduceCtorEq] at hc0)
    contradiction
    (try simp only [decide_eq_true_eq, decide_eq_false_iff_not, Bool.not_eq_true', Bool.not_eq_false', Bool.not_eq_true, Bool.not_eq_false, not_true_eq_false, not_false_eq_true, reduceCtorEq] at hc0)
    refine WpA.tF 6 rfl (V.fa tb) ?_
    refine WpA.tF 7 rfl (V.ldA tb) ?_
    refine WpA.tF 8 rfl (V.mv) ?_
    refine WpA.tF 9 rfl (V.nc) ?_
    refine WpA.tF 10 rfl (V.fa tb) ?_
    refine WpA.tF 11 rfl (V.ldA tb) ?_
    refine WpA.tF 12 rfl (V.ne (TItem.eqT _ _ _)) ?_
    refine WpA.tF 13 rfl (V.pF) ?_
    refine WpA.tF 14 rfl (V.mv) ?_
    refine WpA.pt 21 (fun hc1 => ?_) (fun hc1 => ?_)
    (try simp only [decide_eq_true_eq, decide_eq_false_iff_not, Bool.not_eq_true', Bool.not_eq_false', Bool.not_eq_true, Bool.not_eq_false, not_true_eq_false, not_false_eq_true, reduceCtorEq] at hc1)
    contradiction
    (try simp only [decide_eq_true_eq, decide_eq_false_iff_not, Bool.not_eq_true', Bool.not_eq_false', Bool.not_eq_true, Bool.not_eq_false, not_true_eq_false, not_false_eq_true, reduceCtorEq] at hc1)
    refine WpA.tF 15 rfl (V.fa tb) ?_
    refine WpA.tF 16 rfl (V.ld1 tb) ?_
    refine WpA.tF 17 rfl (V.mv) ?_
    refine WpA.tF 18 rfl (V.nc) ?_
    refine WpA.tF 19 rfl (V.fa tb) ?_
    refine WpA.tF 20 rfl (V.ld1 tb) ?_
    refine WpA.tF 21 rfl (V.cmp) ?_
    refine WpA.tF 22 rfl (V.pF) ?_
    refine WpA.tF 23 rfl (V.mv) ?_
    refine WpA.pt 30 (fun hc2 => ?_) (fun hc2 => ?_)
    (try simp only [decide_eq_true_eq, decide_eq_false_iff_not, Bool.not_eq_true', Bool.not_eq_false', Bool.not_eq_true, Bool.not_eq_false, not_true_eq_false, not_false_eq_true, reduceCtorEq] at hc2)
    contradiction
    (try simp only [decide_eq_true_eq, decide_eq_false_iff_not, Bool.not_eq_true', Bool.not_eq_false', Bool.not_eq_true, Bool.not_eq_false, not_true_eq_false, not_false_eq_true, reduceCtorEq] at hc2)
    refine WpA.tF 24 rfl (V.fa tb) ?_
    refine WpA.tF 25 rfl (V.ld1 tb) ?_
    refine WpA.tF 26 rfl (V.cmp) ?_
    refine WpA.tF 27 rfl (V.pF) ?_
    refine WpA.tF 28 rfl (V.mv) ?_
    refine WpA.pt 35 (fun hc3 => ?_) (fun hc3 => ?_)
    (try simp only [decide_eq_true_eq, decide_eq_false_iff_not, Bool.not_eq_true', Bool.not_eq_false', Bool.not_eq_true, Bool.not_eq_false, not_true_eq_false, not_false_eq_true, reduceCtorEq] at hc3)
    (exfalso; omega)
    (try simp only [decide_eq_true_eq, decide_eq_false_iff_not, Bool.not_eq_true', Bool.not_eq_false', Bool.not_eq_true, Bool.not_eq_false, not_true_eq_false, not_false_eq_true, reduceCtorEq] at hc3)
    refine WpA.tF 29 rfl (V.fa tb) ?_
    refine WpA.tF 30 rfl (V.ld1 tb) ?_
    refine WpA.tF 31 rfl (V.mv) ?_
    refine WpA.tF 32 rfl (V.nc) ?_
    refine WpA.tF 33 rfl (V.fa tb) ?_
    refine WpA.tF 34 rfl (V.ld1 tb) ?_
    refine WpA.tF 35 rfl (V.cmp) ?_
    refine WpA.tF 36 rfl (V.pF) ?_
    refine WpA.ou ?_
    apply Out.seqN
    refine Wp.c (fun hc4 => ?_) (fun hc4 => ?_)
    (try simp only [decide_eq_true_eq, decide_eq_false_iff_not, Bool.not_eq_true', Bool.not_eq_false', Bool.not_eq_true, Bool.not_eq_false, not_true_eq_false, not_false_eq_true, reduceCtorEq] at hc4)
    contradiction
    (try simp only [decide_eq_true_eq, decide_eq_false_iff_not, Bool.not_eq_true', Bool.not_eq_false', Bool.not_eq_true, Bool.not_eq_false, not_true_eq_false, not_false_eq_true, reduceCtorEq] at hc4)
    apply Wp.skip
    apply Out.seqN
    apply Wp.seq
    apply Wp.seq
    apply Wp.region
    refine WpL.v (V.fa tb) ?_
    refine WpL.v (V.ld1 tb) ?_
    refine WpL.v (V.cmp) ?_
    apply WpL.nil
    apply Out.seqN
    refine Wp.c (fun hc5 => ?_) (fun hc5 => ?_)
    (try simp only [decide_eq_true_eq, decide_eq_false_iff_not, Bool.not_eq_true', Bool.not_eq_false', Bool.not_eq_true, Bool.not_eq_false, not_true_eq_false, not_false_eq_true, reduceCtorEq] at hc5)
    (exfalso; omega)
    (try simp only [decide_eq_true_eq, decide_eq_false_iff_not, Bool.not_eq_true', Bool.not_eq_false', Bool.not_eq_true, Bool.not_eq_false, not_true_eq_false, not_false_eq_true, reduceCtorEq] at hc5)
    apply Wp.skip
    apply Out.seqN
    apply Wp.seq
    apply Wp.seq
    refine Wp.dG [] ?_ (List.Sublist.cons_cons _ (List.Sublist.cons_cons _ (List.Sublist.cons_cons _ (List.Sublist.cons_cons _ List.Sublist.slnil)))) (List.Sublist.cons_cons _ (List.Sublist.cons_cons _ (List.Sublist.cons_cons _ (List.Sublist.cons_cons _ List.Sublist.slnil))))
    refine WpA.tF 0 rfl (V.fa tb) ?_
    refine WpA.tF 1 rfl (V.ld1 tb) ?_
    refine WpA.tF 2 rfl (V.cmp) ?_
    refine WpA.tF 3 rfl (V.mv) ?_
    refine WpA.pt 58 (fun hc6 => ?_) (fun hc6 => ?_)
    (try simp only [decide_eq_true_eq, decide_eq_false_iff_not, Bool.not_eq_true', Bool.not_eq_false', Bool.not_eq_true, Bool.not_eq_false, not_true_eq_false, not_false_eq_true, reduceCtorEq] at hc6)
    refine WpA.tF 4 rfl (V.mv) ?_
    refine WpA.tF 5 rfl (V.nc) ?_
    refine WpA.tF 6 rfl (V.fa tb) ?_
    refine WpA.tF 7 rfl (V.ldA tb) ?_
    refine WpA.tF 8 rfl (V.fa tb) ?_
    refine WpA.tF 9 rfl (V.ldA tb) ?_
    refine WpA.oS 10 rfl (Op1.fn rfl (hL) ⟨?_, ?_, ?_⟩)
    exact holdT
    exact holdT
    refine WpA.tF 11 rfl (V.pT) ?_
    refine WpA.ou ?_
    apply Out.seqN
    refine Wp.cT ?_
    apply Wp.seq
    apply Wp.region
    refine WpL.v (V.mv) ?_
    refine WpL.v (V.nc) ?_
    refine WpL.v (V.fa tb) ?_
    refine WpL.o (O.st1 tb ?_)
    apply WpL.nil
    apply Out.seqN
    apply Wp.seq
    apply Wp.region
    refine WpL.v (V.as) ?_
    apply WpL.nil
    apply Out.seqN
    apply Wp.ret
    apply Out.seqR
    refine Out.e1 rfl ResIs.t ?_
    focus (exact ⟨_, _, ⟨vp, vo, rfl, rfl⟩, (by (repeat (first | exact Sel.nil | exact Rem.here | apply Sel.cons | apply Rem.there)))⟩; done)
    (try simp only [decide_eq_true_eq, decide_eq_false_iff_not, Bool.not_eq_true', Bool.not_eq_false', Bool.not_eq_true, Bool.not_eq_false, not_true_eq_false, not_false_eq_true, reduceCtorEq] at hc6)
    (exfalso; omega)
  rw [if_neg h8]
  by_cases hb : m.Ballot ≠ x.ballot
  · rw [if_pos hb]
    clear hP
    by_cases h9 : m.Kind = 8
    · have hf : bLt x.ballot m.Ballot = false := by simpa using fun h => h8 ⟨h9, h⟩
      rw [hf] at hL
      refine Ct.enter Try.func44 rfl rfl fun W => ?_
      apply Wp.seq
      apply Wp.region
      refine WpL.o (O.bxA (fun p3 => ?_))
      refine WpL.v (V.as) ?_
      apply WpL.nil
      apply Out.seqN
      apply Wp.seq
      apply Wp.seq
      refine Wp.dG [] ?_ (List.Sublist.cons_cons _ (List.Sublist.cons_cons _ (List.Sublist.cons _ (List.Sublist.cons _ List.Sublist.slnil)))) (List.Sublist.cons_cons _ (List.Sublist.cons_cons _ (List.Sublist.cons _ (List.Sublist.cons _ List.Sublist.slnil))))
      refine WpA.tF 0 rfl (V.mv) ?_
      refine WpA.tF 1 rfl (V.nc) ?_
      refine WpA.tF 2 rfl (V.fa tb) ?_
      refine WpA.tF 3 rfl (V.ld1 tb) ?_
      refine WpA.tF 4 rfl (V.cmp) ?_
      refine WpA.tF 5 rfl (V.mv) ?_
      refine WpA.pt 12 (fun hd0 => ?_) (fun hd0 => ?_)
      (try simp only [decide_eq_true_eq, decide_eq_false_iff_not, Bool.not_eq_true', Bool.not_eq_false', Bool.not_eq_true, Bool.not_eq_false, not_true_eq_false, not_false_eq_true, reduceCtorEq] at hd0)
      contradiction
      (try simp only [decide_eq_true_eq, decide_eq_false_iff_not, Bool.not_eq_true', Bool.not_eq_false', Bool.not_eq_true, Bool.not_eq_false, not_true_eq_false, not_false_eq_true, reduceCtorEq] at hd0)
      refine WpA.tF 6 rfl (V.fa tb) ?_
      refine WpA.tF 7 rfl (V.ldA tb) ?_
      refine WpA.tF 8 rfl (V.mv) ?_
      refine WpA.tF 9 rfl (V.nc) ?_
      refine WpA.tF 10 rfl (V.fa tb) ?_
      refine WpA.tF 11 rfl (V.ldA tb) ?_
      refine WpA.tF 12 rfl (V.ne (TItem.eqT _ _ _)) ?_
      refine WpA.tF 13 rfl (V.pF) ?_
      refine WpA.tF 14 rfl (V.mv) ?_
      refine WpA.pt 21 (fun hd1 => ?_) (fun hd1 => ?_)
      (try simp only [decide_eq_true_eq, decide_eq_false_iff_not, Bool.not_eq_true', Bool.not_eq_false', Bool.not_eq_true, Bool.not_eq_false, not_true_eq_false, not_false_eq_true, reduceCtorEq] at hd1)
      contradiction
      (try simp only [decide_eq_true_eq, decide_eq_false_iff_not, Bool.not_eq_true', Bool.not_eq_false', Bool.not_eq_true, Bool.not_eq_false, not_true_eq_false, not_false_eq_true, reduceCtorEq] at hd1)
      refine WpA.tF 15 rfl (V.fa tb) ?_
      refine WpA.tF 16 rfl (V.ld1 tb) ?_
      refine WpA.tF 17 rfl (V.mv) ?_
      refine WpA.tF 18 rfl (V.nc) ?_
      refine WpA.tF 19 rfl (V.fa tb) ?_
      refine WpA.tF 20 rfl (V.ld1 tb) ?_
      refine WpA.tF 21 rfl (V.cmp) ?_
      refine WpA.tF 22 rfl (V.pF) ?_
      refine WpA.tF 23 rfl (V.mv) ?_
      refine WpA.pt 30 (fun hd2 => ?_) (fun hd2 => ?_)
      (try simp only [decide_eq_true_eq, decide_eq_false_iff_not, Bool.not_eq_true', Bool.not_eq_false', Bool.not_eq_true, Bool.not_eq_false, not_true_eq_false, not_false_eq_true, reduceCtorEq] at hd2)
      contradiction
      (try simp only [decide_eq_true_eq, decide_eq_false_iff_not, Bool.not_eq_true', Bool.not_eq_false', Bool.not_eq_true, Bool.not_eq_false, not_true_eq_false, not_false_eq_true, reduceCtorEq] at hd2)
      refine WpA.tF 24 rfl (V.fa tb) ?_
      refine WpA.tF 25 rfl (V.ld1 tb) ?_
      refine WpA.tF 26 rfl (V.cmp) ?_
      refine WpA.tF 27 rfl (V.pF) ?_
      refine WpA.tF 28 rfl (V.mv) ?_
      refine WpA.pt 35 (fun hd3 => ?_) (fun hd3 => ?_)
      (try simp only [decide_eq_true_eq, decide_eq_false_iff_not, Bool.not_eq_true', Bool.not_eq_false', Bool.not_eq_true, Bool.not_eq_false, not_true_eq_false, not_false_eq_true, reduceCtorEq] at hd3)
      (exfalso; omega)
      (try simp only [decide_eq_true_eq, decide_eq_false_iff_not, Bool.not_eq_true', Bool.not_eq_false', Bool.not_eq_true, Bool.not_eq_false, not_true_eq_false, not_false_eq_true, reduceCtorEq] at hd3)
      refine WpA.tF 29 rfl (V.fa tb) ?_
      refine WpA.tF 30 rfl (V.ld1 tb) ?_
      refine WpA.tF 31 rfl (V.mv) ?_
      refine WpA.tF 32 rfl (V.nc) ?_
      refine WpA.tF 33 rfl (V.fa tb) ?_
      refine WpA.tF 34 rfl (V.ld1 tb) ?_
      refine WpA.tF 35 rfl (V.cmp) ?_
      refine WpA.tF 36 rfl (V.pF) ?_
      refine WpA.ou ?_
      apply Out.seqN
      refine Wp.c (fun hd4 => ?_) (fun hd4 => ?_)
      (try simp only [decide_eq_true_eq, decide_eq_false_iff_not, Bool.not_eq_true', Bool.not_eq_false', Bool.not_eq_true, Bool.not_eq_false, not_true_eq_false, not_false_eq_true, reduceCtorEq] at hd4)
      contradiction
      (try simp only [decide_eq_true_eq, decide_eq_false_iff_not, Bool.not_eq_true', Bool.not_eq_false', Bool.not_eq_true, Bool.not_eq_false, not_true_eq_false, not_false_eq_true, reduceCtorEq] at hd4)
      apply Wp.skip
      apply Out.seqN
      apply Wp.seq
      apply Wp.seq
      apply Wp.region
      refine WpL.v (V.fa tb) ?_
      refine WpL.v (V.ld1 tb) ?_
      refine WpL.v (V.cmp) ?_
      apply WpL.nil
      apply Out.seqN
      refine Wp.c (fun hd5 => ?_) (fun hd5 => ?_)
      (try simp only [decide_eq_true_eq, decide_eq_false_iff_not, Bool.not_eq_true', Bool.not_eq_false', Bool.not_eq_true, Bool.not_eq_false, not_true_eq_false, not_false_eq_true, reduceCtorEq] at hd5)
      (exfalso; omega)
      (try simp only [decide_eq_true_eq, decide_eq_false_iff_not, Bool.not_eq_true', Bool.not_eq_false', Bool.not_eq_true, Bool.not_eq_false, not_true_eq_false, not_false_eq_true, reduceCtorEq] at hd5)
      apply Wp.skip
      apply Out.seqN
      apply Wp.seq
      apply Wp.seq
      refine Wp.dG [] ?_ (List.Sublist.cons_cons _ (List.Sublist.cons_cons _ (List.Sublist.cons_cons _ (List.Sublist.cons_cons _ List.Sublist.slnil)))) (List.Sublist.cons_cons _ (List.Sublist.cons_cons _ (List.Sublist.cons_cons _ (List.Sublist.cons_cons _ List.Sublist.slnil))))
      refine WpA.tF 0 rfl (V.fa tb) ?_
      refine WpA.tF 1 rfl (V.ld1 tb) ?_
      refine WpA.tF 2 rfl (V.cmp) ?_
      refine WpA.tF 3 rfl (V.mv) ?_
      refine WpA.pt 58 (fun hd6 => ?_) (fun hd6 => ?_)
      (try simp only [decide_eq_true_eq, decide_eq_false_iff_not, Bool.not_eq_true', Bool.not_eq_false', Bool.not_eq_true, Bool.not_eq_false, not_true_eq_false, not_false_eq_true, reduceCtorEq] at hd6)
      refine WpA.tF 4 rfl (V.mv) ?_
      refine WpA.tF 5 rfl (V.nc) ?_
      refine WpA.tF 6 rfl (V.fa tb) ?_
      refine WpA.tF 7 rfl (V.ldA tb) ?_
      refine WpA.tF 8 rfl (V.fa tb) ?_
      refine WpA.tF 9 rfl (V.ldA tb) ?_
      refine WpA.oS 10 rfl (Op1.fn rfl (hL) ⟨?_, ?_, ?_⟩)
      exact holdT
      exact holdT
      refine WpA.tF 11 rfl (V.pT) ?_
      refine WpA.ou ?_
      apply Out.seqN
      refine Wp.cF ?_
      apply Wp.skip
      apply Out.seqN
      apply Wp.seq
      apply Wp.seq
      refine Wp.dG [] ?_ (List.Sublist.cons_cons _ (List.Sublist.cons_cons _ (List.Sublist.cons _ (List.Sublist.cons _ List.Sublist.slnil)))) (List.Sublist.cons_cons _ (List.Sublist.cons_cons _ (List.Sublist.cons _ (List.Sublist.cons _ List.Sublist.slnil))))
      refine WpA.tF 0 rfl (V.fa tb) ?_
      refine WpA.tF 1 rfl (V.ldA tb) ?_
      refine WpA.tF 2 rfl (V.mv) ?_
      refine WpA.tF 3 rfl (V.nc) ?_
      refine WpA.tF 4 rfl (V.fa tb) ?_
      refine WpA.tF 5 rfl (V.ldA tb) ?_
      refine WpA.tF 6 rfl (V.ne (TBallot.eqT _ _ _)) ?_
      refine WpA.ou ?_
      apply Out.seqN
      refine Wp.c (fun hd7 => ?_) (fun hd7 => ?_)
      (try simp only [decide_eq_true_eq, decide_eq_false_iff_not, Bool.not_eq_true', Bool.not_eq_false', Bool.not_eq_true, Bool.not_eq_false, not_true_eq_false, not_false_eq_true, reduceCtorEq] at hd7)
      apply Wp.seq
      apply Wp.region
      refine WpL.v (V.as) ?_
      apply WpL.nil
      apply Out.seqN
      apply Wp.ret
      apply Out.seqR
      refine Out.e1 rfl ResIs.t ?_
      focus (exact ⟨_, _, ⟨vp, vo, rfl, rfl⟩, (by (repeat (first | exact Sel.nil | exact Rem.here | apply Sel.cons | apply Rem.there)))⟩; done)
      (try simp only [decide_eq_true_eq, decide_eq_false_iff_not, Bool.not_eq_true', Bool.not_eq_false', Bool.not_eq_true, Bool.not_eq_false, not_true_eq_false, not_false_eq_true, reduceCtorEq] at hd7)
      contradiction
      (try simp only [decide_eq_true_eq, decide_eq_false_iff_not, Bool.not_eq_true', Bool.not_eq_false', Bool.not_eq_true, Bool.not_eq_false, not_true_eq_false, not_false_eq_true, reduceCtorEq] at hd6)
      (exfalso; omega)
    · refine Ct.enter Try.func44 rfl rfl fun W => ?_
      apply Wp.seq
      apply Wp.region
      refine WpL.o (O.bxA (fun p3 => ?_))
      refine WpL.v (V.as) ?_
      apply WpL.nil
      apply Out.seqN
      apply Wp.seq
      apply Wp.seq
      refine Wp.dG [] ?_ (List.Sublist.cons_cons _ (List.Sublist.cons_cons _ (List.Sublist.cons _ (List.Sublist.cons _ List.Sublist.slnil)))) (List.Sublist.cons_cons _ (List.Sublist.cons_cons _ (List.Sublist.cons _ (List.Sublist.cons _ List.Sublist.slnil))))
      refine WpA.tF 0 rfl (V.mv) ?_
      refine WpA.tF 1 rfl (V.nc) ?_
      refine WpA.tF 2 rfl (V.fa tb) ?_
      refine WpA.tF 3 rfl (V.ld1 tb) ?_
      refine WpA.tF 4 rfl (V.cmp) ?_
      refine WpA.tF 5 rfl (V.mv) ?_
      refine WpA.pt 12 (fun he0 => ?_) (fun he0 => ?_)
      (try simp only [decide_eq_true_eq, decide_eq_false_iff_not, Bool.not_eq_true', Bool.not_eq_false', Bool.not_eq_true, Bool.not_eq_false, not_true_eq_false, not_false_eq_true, reduceCtorEq] at he0)
      contradiction
      (try simp only [decide_eq_true_eq, decide_eq_false_iff_not, Bool.not_eq_true', Bool.not_eq_false', Bool.not_eq_true, Bool.not_eq_false, not_true_eq_false, not_false_eq_true, reduceCtorEq] at he0)
      refine WpA.tF 6 rfl (V.fa tb) ?_
      refine WpA.tF 7 rfl (V.ldA tb) ?_
      refine WpA.tF 8 rfl (V.mv) ?_
      refine WpA.tF 9 rfl (V.nc) ?_
      refine WpA.tF 10 rfl (V.fa tb) ?_
      refine WpA.tF 11 rfl (V.ldA tb) ?_
      refine WpA.tF 12 rfl (V.ne (TItem.eqT _ _ _)) ?_
      refine WpA.tF 13 rfl (V.pF) ?_
      refine WpA.tF 14 rfl (V.mv) ?_
      refine WpA.pt 21 (fun he1 => ?_) (fun he1 => ?_)
      (try simp only [decide_eq_true_eq, decide_eq_false_iff_not, Bool.not_eq_true', Bool.not_eq_false', Bool.not_eq_true, Bool.not_eq_false, not_true_eq_false, not_false_eq_true, reduceCtorEq] at he1)
      contradiction
      (try simp only [decide_eq_true_eq, decide_eq_false_iff_not, Bool.not_eq_true', Bool.not_eq_false', Bool.not_eq_true, Bool.not_eq_false, not_true_eq_false, not_false_eq_true, reduceCtorEq] at he1)
      refine WpA.tF 15 rfl (V.fa tb) ?_
      refine WpA.tF 16 rfl (V.ld1 tb) ?_
      refine WpA.tF 17 rfl (V.mv) ?_
      refine WpA.tF 18 rfl (V.nc) ?_
      refine WpA.tF 19 rfl (V.fa tb) ?_
      refine WpA.tF 20 rfl (V.ld1 tb) ?_
      refine WpA.tF 21 rfl (V.cmp) ?_
      refine WpA.tF 22 rfl (V.pF) ?_
      refine WpA.tF 23 rfl (V.mv) ?_
      refine WpA.pt 30 (fun he2 => ?_) (fun he2 => ?_)
      (try simp only [decide_eq_true_eq, decide_eq_false_iff_not, Bool.not_eq_true', Bool.not_eq_false', Bool.not_eq_true, Bool.not_eq_false, not_true_eq_false, not_false_eq_true, reduceCtorEq] at he2)
      contradiction
      (try simp only [decide_eq_true_eq, decide_eq_false_iff_not, Bool.not_eq_true', Bool.not_eq_false', Bool.not_eq_true, Bool.not_eq_false, not_true_eq_false, not_false_eq_true, reduceCtorEq] at he2)
      refine WpA.tF 24 rfl (V.fa tb) ?_
      refine WpA.tF 25 rfl (V.ld1 tb) ?_
      refine WpA.tF 26 rfl (V.cmp) ?_
      refine WpA.tF 27 rfl (V.pF) ?_
      refine WpA.tF 28 rfl (V.mv) ?_
      refine WpA.pt 35 (fun he3 => ?_) (fun he3 => ?_)
      (try simp only [decide_eq_true_eq, decide_eq_false_iff_not, Bool.not_eq_true', Bool.not_eq_false', Bool.not_eq_true, Bool.not_eq_false, not_true_eq_false, not_false_eq_true, reduceCtorEq] at he3)
      (exfalso; omega)
      (try simp only [decide_eq_true_eq, decide_eq_false_iff_not, Bool.not_eq_true', Bool.not_eq_false', Bool.not_eq_true, Bool.not_eq_false, not_true_eq_false, not_false_eq_true, reduceCtorEq] at he3)
      refine WpA.tF 29 rfl (V.fa tb) ?_
      refine WpA.tF 30 rfl (V.ld1 tb) ?_
      refine WpA.tF 31 rfl (V.mv) ?_
      refine WpA.tF 32 rfl (V.nc) ?_
      refine WpA.tF 33 rfl (V.fa tb) ?_
      refine WpA.tF 34 rfl (V.ld1 tb) ?_
      refine WpA.tF 35 rfl (V.cmp) ?_
      refine WpA.tF 36 rfl (V.pF) ?_
      refine WpA.ou ?_
      apply Out.seqN
      refine Wp.c (fun he4 => ?_) (fun he4 => ?_)
      (try simp only [decide_eq_true_eq, decide_eq_false_iff_not, Bool.not_eq_true', Bool.not_eq_false', Bool.not_eq_true, Bool.not_eq_false, not_true_eq_false, not_false_eq_true, reduceCtorEq] at he4)
      contradiction
      (try simp only [decide_eq_true_eq, decide_eq_false_iff_not, Bool.not_eq_true', Bool.not_eq_false', Bool.not_eq_true, Bool.not_eq_false, not_true_eq_false, not_false_eq_true, reduceCtorEq] at he4)
      apply Wp.skip
      apply Out.seqN
      apply Wp.seq
      apply Wp.seq
      apply Wp.region
      refine WpL.v (V.fa tb) ?_
      refine WpL.v (V.ld1 tb) ?_
      refine WpL.v (V.cmp) ?_
      apply WpL.nil
      apply Out.seqN
      refine Wp.c (fun he5 => ?_) (fun he5 => ?_)
      (try simp only [decide_eq_true_eq, decide_eq_false_iff_not, Bool.not_eq_true', Bool.not_eq_false', Bool.not_eq_true, Bool.not_eq_false, not_true_eq_false, not_false_eq_true, reduceCtorEq] at he5)
      (exfalso; omega)
      (try simp only [decide_eq_true_eq, decide_eq_false_iff_not, Bool.not_eq_true', Bool.not_eq_false', Bool.not_eq_true, Bool.not_eq_false, not_true_eq_false, not_false_eq_true, reduceCtorEq] at he5)
      apply Wp.skip
      apply Out.seqN
      apply Wp.seq
      apply Wp.seq
      refine Wp.dG [] ?_ (List.Sublist.cons_cons _ (List.Sublist.cons_cons _ (List.Sublist.cons_cons _ (List.Sublist.cons_cons _ List.Sublist.slnil)))) (List.Sublist.cons_cons _ (List.Sublist.cons_cons _ (List.Sublist.cons_cons _ (List.Sublist.cons_cons _ List.Sublist.slnil))))
      refine WpA.tF 0 rfl (V.fa tb) ?_
      refine WpA.tF 1 rfl (V.ld1 tb) ?_
      refine WpA.tF 2 rfl (V.cmp) ?_
      refine WpA.tF 3 rfl (V.mv) ?_
      refine WpA.pt 58 (fun he6 => ?_) (fun he6 => ?_)
      (try simp only [decide_eq_true_eq, decide_eq_false_iff_not, Bool.not_eq_true', Bool.not_eq_false', Bool.not_eq_true, Bool.not_eq_false, not_true_eq_false, not_false_eq_true, reduceCtorEq] at he6)
      (exfalso; omega)
      (try simp only [decide_eq_true_eq, decide_eq_false_iff_not, Bool.not_eq_true', Bool.not_eq_false', Bool.not_eq_true, Bool.not_eq_false, not_true_eq_false, not_false_eq_true, reduceCtorEq] at he6)
      refine WpA.s 4 rfl ?_
      refine WpA.s 5 rfl ?_
      refine WpA.s 6 rfl ?_
      refine WpA.s 7 rfl ?_
      refine WpA.s 8 rfl ?_
      refine WpA.s 9 rfl ?_
      refine WpA.s 10 rfl ?_
      refine WpA.tF 11 rfl (V.pF) ?_
      refine WpA.ou ?_
      apply Out.seqN
      refine Wp.cF ?_
      apply Wp.skip
      apply Out.seqN
      apply Wp.seq
      apply Wp.seq
      refine Wp.dG [] ?_ (List.Sublist.cons_cons _ (List.Sublist.cons_cons _ (List.Sublist.cons _ (List.Sublist.cons _ List.Sublist.slnil)))) (List.Sublist.cons_cons _ (List.Sublist.cons_cons _ (List.Sublist.cons _ (List.Sublist.cons _ List.Sublist.slnil))))
      refine WpA.tF 0 rfl (V.fa tb) ?_
      refine WpA.tF 1 rfl (V.ldA tb) ?_
      refine WpA.tF 2 rfl (V.mv) ?_
      refine WpA.tF 3 rfl (V.nc) ?_
      refine WpA.tF 4 rfl (V.fa tb) ?_
      refine WpA.tF 5 rfl (V.ldA tb) ?_
      refine WpA.tF 6 rfl (V.ne (TBallot.eqT _ _ _)) ?_
      refine WpA.ou ?_
      apply Out.seqN
      refine Wp.c (fun he7 => ?_) (fun he7 => ?_)
      (try simp only [decide_eq_true_eq, decide_eq_false_iff_not, Bool.not_eq_true', Bool.not_eq_false', Bool.not_eq_true, Bool.not_eq_false, not_true_eq_false, not_false_eq_true, reduceCtorEq] at he7)
      apply Wp.seq
      apply Wp.region
      refine WpL.v (V.as) ?_
      apply WpL.nil
      apply Out.seqN
      apply Wp.ret
      apply Out.seqR
      refine Out.e1 rfl ResIs.t ?_
      focus (exact ⟨_, _, ⟨vp, vo, rfl, rfl⟩, (by (repeat (first | exact Sel.nil | exact Rem.here | apply Sel.cons | apply Rem.there)))⟩; done)
      (try simp only [decide_eq_true_eq, decide_eq_false_iff_not, Bool.not_eq_true', Bool.not_eq_false', Bool.not_eq_true, Bool.not_eq_false, not_true_eq_false, not_false_eq_true, reduceCtorEq] at he7)
      contradiction
  rw [if_neg hb]
  have hb := Decidable.of_not_not hb
  have hbl : bLt x.ballot m.Ballot = false := by rw [hb]; simp [bLt]
  rw [hbl] at hL
  by_cases h2 : m.Kind = 2 ∧ x.phase = 1
  · rw [if_pos h2]
    obtain ⟨h2, hp⟩ := h2
    refine Ct.enter Try.func44 rfl rfl fun W => ?_
    apply Wp.seq
    apply Wp.region
    refine WpL.o (O.bxA (fun p3 => ?_))
    refine WpL.v (V.as) ?_
    apply WpL.nil
    apply Out.seqN
    apply Wp.seq
    apply Wp.seq
    refine Wp.dG [] ?_ (List.Sublist.cons_cons _ (List.Sublist.cons_cons _ (List.Sublist.cons _ (List.Sublist.cons _ List.Sublist.slnil)))) (List.Sublist.cons_cons _ (List.Sublist.cons_cons _ (List.Sublist.cons _ (List.Sublist.cons _ List.Sublist.slnil))))
    refine WpA.tF 0 rfl (V.mv) ?_
    refine WpA.tF 1 rfl (V.nc) ?_
    refine WpA.tF 2 rfl (V.fa tb) ?_
    refine WpA.tF 3 rfl (V.ld1 tb) ?_
    refine WpA.tF 4 rfl (V.cmp) ?_
    refine WpA.tF 5 rfl (V.mv) ?_
    refine WpA.pt 12 (fun hf0 => ?_) (fun hf0 => ?_)
    (try simp only [decide_eq_true_eq, decide_eq_false_iff_not, Bool.not_eq_true', Bool.not_eq_false', Bool.not_eq_true, Bool.not_eq_false, not_true_eq_false, not_false_eq_true, reduceCtorEq] at hf0)
    contradiction
    (try simp only [decide_eq_true_eq, decide_eq_false_iff_not, Bool.not_eq_true', Bool.not_eq_false', Bool.not_eq_true, Bool.not_eq_false, not_true_eq_false, not_false_eq_true, reduceCtorEq] at hf0)
    refine WpA.tF 6 rfl (V.fa tb) ?_
    refine WpA.tF 7 rfl (V.ldA tb) ?_
    refine WpA.tF 8 rfl (V.mv) ?_
    refine WpA.tF 9 rfl (V.nc) ?_
    refine WpA.tF 10 rfl (V.fa tb) ?_
    refine WpA.tF 11 rfl (V.ldA tb) ?_
    refine WpA.tF 12 rfl (V.ne (TItem.eqT _ _ _)) ?_
    refine WpA.tF 13 rfl (V.pF) ?_
    refine WpA.tF 14 rfl (V.mv) ?_
    refine WpA.pt 21 (fun hf1 => ?_) (fun hf1 => ?_)
    (try simp only [decide_eq_true_eq, decide_eq_false_iff_not, Bool.not_eq_true', Bool.not_eq_false', Bool.not_eq_true, Bool.not_eq_false, not_true_eq_false, not_false_eq_true, reduceCtorEq] at hf1)
    contradiction
    (try simp only [decide_eq_true_eq, decide_eq_false_iff_not, Bool.not_eq_true', Bool.not_eq_false', Bool.not_eq_true, Bool.not_eq_false, not_true_eq_false, not_false_eq_true, reduceCtorEq] at hf1)
    refine WpA.tF 15 rfl (V.fa tb) ?_
    refine WpA.tF 16 rfl (V.ld1 tb) ?_
    refine WpA.tF 17 rfl (V.mv) ?_
    refine WpA.tF 18 rfl (V.nc) ?_
    refine WpA.tF 19 rfl (V.fa tb) ?_
    refine WpA.tF 20 rfl (V.ld1 tb) ?_
    refine WpA.tF 21 rfl (V.cmp) ?_
    refine WpA.tF 22 rfl (V.pF) ?_
    refine WpA.tF 23 rfl (V.mv) ?_
    refine WpA.pt 30 (fun hf2 => ?_) (fun hf2 => ?_)
    (try simp only [decide_eq_true_eq, decide_eq_false_iff_not, Bool.not_eq_true', Bool.not_eq_false', Bool.not_eq_true, Bool.not_eq_false, not_true_eq_false, not_false_eq_true, reduceCtorEq] at hf2)
    contradiction
    (try simp only [decide_eq_true_eq, decide_eq_false_iff_not, Bool.not_eq_true', Bool.not_eq_false', Bool.not_eq_true, Bool.not_eq_false, not_true_eq_false, not_false_eq_true, reduceCtorEq] at hf2)
    refine WpA.tF 24 rfl (V.fa tb) ?_
    refine WpA.tF 25 rfl (V.ld1 tb) ?_
    refine WpA.tF 26 rfl (V.cmp) ?_
    refine WpA.tF 27 rfl (V.pF) ?_
    refine WpA.tF 28 rfl (V.mv) ?_
    refine WpA.pt 35 (fun hf3 => ?_) (fun hf3 => ?_)
    (try simp only [decide_eq_true_eq, decide_eq_false_iff_not, Bool.not_eq_true', Bool.not_eq_false', Bool.not_eq_true, Bool.not_eq_false, not_true_eq_false, not_false_eq_true, reduceCtorEq] at hf3)
    (exfalso; omega)
    (try simp only [decide_eq_true_eq, decide_eq_false_iff_not, Bool.not_eq_true', Bool.not_eq_false', Bool.not_eq_true, Bool.not_eq_false, not_true_eq_false, not_false_eq_true, reduceCtorEq] at hf3)
    refine WpA.tF 29 rfl (V.fa tb) ?_
    refine WpA.tF 30 rfl (V.ld1 tb) ?_
    refine WpA.tF 31 rfl (V.mv) ?_
    refine WpA.tF 32 rfl (V.nc) ?_
    refine WpA.tF 33 rfl (V.fa tb) ?_
    refine WpA.tF 34 rfl (V.ld1 tb) ?_
    refine WpA.tF 35 rfl (V.cmp) ?_
    refine WpA.tF 36 rfl (V.pF) ?_
    refine WpA.ou ?_
    apply Out.seqN
    refine Wp.c (fun hf4 => ?_) (fun hf4 => ?_)
    (try simp only [decide_eq_true_eq, decide_eq_false_iff_not, Bool.not_eq_true', Bool.not_eq_false', Bool.not_eq_true, Bool.not_eq_false, not_true_eq_false, not_false_eq_true, reduceCtorEq] at hf4)
    contradiction
    (try simp only [decide_eq_true_eq, decide_eq_false_iff_not, Bool.not_eq_true', Bool.not_eq_false', Bool.not_eq_true, Bool.not_eq_false, not_true_eq_false, not_false_eq_true, reduceCtorEq] at hf4)
    apply Wp.skip
    apply Out.seqN
    apply Wp.seq
    apply Wp.seq
    apply Wp.region
    refine WpL.v (V.fa tb) ?_
    refine WpL.v (V.ld1 tb) ?_
    refine WpL.v (V.cmp) ?_
    apply WpL.nil
    apply Out.seqN
    refine Wp.c (fun hf5 => ?_) (fun hf5 => ?_)
    (try simp only [decide_eq_true_eq, decide_eq_false_iff_not, Bool.not_eq_true', Bool.not_eq_false', Bool.not_eq_true, Bool.not_eq_false, not_true_eq_false, not_false_eq_true, reduceCtorEq] at hf5)
    (exfalso; omega)
    (try simp only [decide_eq_true_eq, decide_eq_false_iff_not, Bool.not_eq_true', Bool.not_eq_false', Bool.not_eq_true, Bool.not_eq_false, not_true_eq_false, not_false_eq_true, reduceCtorEq] at hf5)
    apply Wp.skip
    apply Out.seqN
    apply Wp.seq
    apply Wp.seq
    refine Wp.dG [] ?_ (List.Sublist.cons_cons _ (List.Sublist.cons_cons _ (List.Sublist.cons_cons _ (List.Sublist.cons_cons _ List.Sublist.slnil)))) (List.Sublist.cons_cons _ (List.Sublist.cons_cons _ (List.Sublist.cons_cons _ (List.Sublist.cons_cons _ List.Sublist.slnil))))
    refine WpA.tF 0 rfl (V.fa tb) ?_
    refine WpA.tF 1 rfl (V.ld1 tb) ?_
    refine WpA.tF 2 rfl (V.cmp) ?_
    refine WpA.tF 3 rfl (V.mv) ?_
    refine WpA.pt 58 (fun hf6 => ?_) (fun hf6 => ?_)
    (try simp only [decide_eq_true_eq, decide_eq_false_iff_not, Bool.not_eq_true', Bool.not_eq_false', Bool.not_eq_true, Bool.not_eq_false, not_true_eq_false, not_false_eq_true, reduceCtorEq] at hf6)
    (exfalso; omega)
    (try simp only [decide_eq_true_eq, decide_eq_false_iff_not, Bool.not_eq_true', Bool.not_eq_false', Bool.not_eq_true, Bool.not_eq_false, not_true_eq_false, not_false_eq_true, reduceCtorEq] at hf6)
    refine WpA.s 4 rfl ?_
    refine WpA.s 5 rfl ?_
    refine WpA.s 6 rfl ?_
    refine WpA.s 7 rfl ?_
    refine WpA.s 8 rfl ?_
    refine WpA.s 9 rfl ?_
    refine WpA.s 10 rfl ?_
    refine WpA.tF 11 rfl (V.pF) ?_
    refine WpA.ou ?_
    apply Out.seqN
    refine Wp.cF ?_
    apply Wp.skip
    apply Out.seqN
    apply Wp.seq
    apply Wp.seq
    refine Wp.dG [] ?_ (List.Sublist.cons_cons _ (List.Sublist.cons_cons _ (List.Sublist.cons _ (List.Sublist.cons _ List.Sublist.slnil)))) (List.Sublist.cons_cons _ (List.Sublist.cons_cons _ (List.Sublist.cons _ (List.Sublist.cons _ List.Sublist.slnil))))
    refine WpA.tF 0 rfl (V.fa tb) ?_
    refine WpA.tF 1 rfl (V.ldA tb) ?_
    refine WpA.tF 2 rfl (V.mv) ?_
    refine WpA.tF 3 rfl (V.nc) ?_
    refine WpA.tF 4 rfl (V.fa tb) ?_
    refine WpA.tF 5 rfl (V.ldA tb) ?_
    refine WpA.tF 6 rfl (V.ne (TBallot.eqT _ _ _)) ?_
    refine WpA.ou ?_
    apply Out.seqN
    refine Wp.c (fun hf7 => ?_) (fun hf7 => ?_)
    (try simp only [decide_eq_true_eq, decide_eq_false_iff_not, Bool.not_eq_true', Bool.not_eq_false', Bool.not_eq_true, Bool.not_eq_false, not_true_eq_false, not_false_eq_true, reduceCtorEq] at hf7)
    contradiction
    (try simp only [decide_eq_true_eq, decide_eq_false_iff_not, Bool.not_eq_true', Bool.not_eq_false', Bool.not_eq_true, Bool.not_eq_false, not_true_eq_false, not_false_eq_true, reduceCtorEq] at hf7)
    apply Wp.skip
    apply Out.seqN
    apply Wp.seq
    apply Wp.seq
    apply Wp.region
    refine WpL.v (V.fa tb) ?_
    refine WpL.v (V.ld1 tb) ?_
    refine WpL.v (V.cmp) ?_
    refine WpL.v (V.mv) ?_
    refine WpL.pt (fun hf8 => ?_) (fun hf8 => ?_)
    (try simp only [decide_eq_true_eq, decide_eq_false_iff_not, Bool.not_eq_true', Bool.not_eq_false', Bool.not_eq_true, Bool.not_eq_false, not_true_eq_false, not_false_eq_true, reduceCtorEq] at hf8)
    refine WpL.v (V.mv) ?_
    refine WpL.v (V.nc) ?_
    refine WpL.v (V.fa tb) ?_
    refine WpL.v (V.ld1 tb) ?_
    refine WpL.v (V.cmp) ?_
    refine WpL.v (V.pT) ?_
    apply WpL.nil
    apply Out.seqN
    refine Wp.c (fun hf9 => ?_) (fun hf9 => ?_)
    (try simp only [decide_eq_true_eq, decide_eq_false_iff_not, Bool.not_eq_true', Bool.not_eq_false', Bool.not_eq_true, Bool.not_eq_false, not_true_eq_false, not_false_eq_true, reduceCtorEq] at hf9)
    apply Wp.seq
    apply Wp.region
    refine WpL.v (V.mv) ?_
    refine WpL.v (V.ldA tb) ?_
    refine WpL.o (Op1.callT rfl (hP) (by (repeat (first | exact Sel.nil | exact Rem.here | apply Sel.cons | apply Rem.there))) ?_)
    rintro v10 s11 ⟨vq89, ⟨rfl, rfl⟩⟩
    refine incat ?_
    refine WpL.v (V.as) ?_
    apply WpL.nil
    apply Out.seqN
    apply Wp.ret
    apply Out.seqR
    refine Out.e1 rfl ResIs.t ?_
    focus (exact ⟨_, _, ⟨_, _, rfl, rfl⟩, (by (repeat (first | exact Sel.nil | exact Rem.here | apply Sel.cons | apply Rem.there)))⟩; done)
    (try simp only [decide_eq_true_eq, decide_eq_false_iff_not, Bool.not_eq_true', Bool.not_eq_false', Bool.not_eq_true, Bool.not_eq_false, not_true_eq_false, not_false_eq_true, reduceCtorEq] at hf9)
    contradiction
    (try simp only [decide_eq_true_eq, decide_eq_false_iff_not, Bool.not_eq_true', Bool.not_eq_false', Bool.not_eq_true, Bool.not_eq_false, not_true_eq_false, not_false_eq_true, reduceCtorEq] at hf8)
    (exfalso; omega)
  rw [if_neg h2]
  clear hP
  by_cases h4 : m.Kind = 4 ∧ x.phase = 2
  · rw [if_pos h4]
    obtain ⟨h4, hp⟩ := h4
    by_cases hin : m.From ∈ x.oks
    · rw [if_pos hin]
      refine Ct.enter Try.func44 rfl rfl fun W => ?_
      refine Wp.fact (rowsRd (f := i64c) (v := vo) (l := x.oks) (E := 3) (sz := 1) (fun _ => rfl) (by (repeat first | exact List.Mem.head _ | apply List.Mem.tail))) fun hv => ?_
      obtain ⟨ao, cp, g, rfl, hR⟩ := hv
      apply Wp.seq
      apply Wp.region
      refine WpL.o (O.bxA (fun p3 => ?_))
      refine WpL.v (V.as) ?_
      apply WpL.nil
      apply Out.seqN
      apply Wp.seq
      apply Wp.seq
      refine Wp.dG [] ?_ (List.Sublist.cons_cons _ (List.Sublist.cons_cons _ (List.Sublist.cons _ (List.Sublist.cons _ List.Sublist.slnil)))) (List.Sublist.cons_cons _ (List.Sublist.cons_cons _ (List.Sublist.cons _ (List.Sublist.cons _ List.Sublist.slnil))))
      refine WpA.tF 0 rfl (V.mv) ?_
      refine WpA.tF 1 rfl (V.nc) ?_
      refine WpA.tF 2 rfl (V.fa tb) ?_
      refine WpA.tF 3 rfl (V.ld1 tb) ?_
      refine WpA.tF 4 rfl (V.cmp) ?_
      refine WpA.tF 5 rfl (V.mv) ?_
      refine WpA.pt 12 (fun hg0 => ?_) (fun hg0 => ?_)
      (try simp only [decide_eq_true_eq, decide_eq_false_iff_not, Bool.not_eq_true', Bool.not_eq_false', Bool.not_eq_true, Bool.not_eq_false, not_true_eq_false, not_false_eq_true, reduceCtorEq] at hg0)
      contradiction
      (try simp only [decide_eq_true_eq, decide_eq_false_iff_not, Bool.not_eq_true', Bool.not_eq_false', Bool.not_eq_true, Bool.not_eq_false, not_true_eq_false, not_false_eq_true, reduceCtorEq] at hg0)
      refine WpA.tF 6 rfl (V.fa tb) ?_
      refine WpA.tF 7 rfl (V.ldA tb) ?_
      refine WpA.tF 8 rfl (V.mv) ?_
      refine WpA.tF 9 rfl (V.nc) ?_
      refine WpA.tF 10 rfl (V.fa tb) ?_
      refine WpA.tF 11 rfl (V.ldA tb) ?_
      refine WpA.tF 12 rfl (V.ne (TItem.eqT _ _ _)) ?_
      refine WpA.tF 13 rfl (V.pF) ?_
      refine WpA.tF 14 rfl (V.mv) ?_
      refine WpA.pt 21 (fun hg1 => ?_) (fun hg1 => ?_)
      (try simp only [decide_eq_true_eq, decide_eq_false_iff_not, Bool.not_eq_true', Bool.not_eq_false', Bool.not_eq_true, Bool.not_eq_false, not_true_eq_false, not_false_eq_true, reduceCtorEq] at hg1)
      contradiction
      (try simp only [decide_eq_true_eq, decide_eq_false_iff_not, Bool.not_eq_true', Bool.not_eq_false', Bool.not_eq_true, Bool.not_eq_false, not_true_eq_false, not_false_eq_true, reduceCtorEq] at hg1)
      refine WpA.tF 15 rfl (V.fa tb) ?_
      refine WpA.tF 16 rfl (V.ld1 tb) ?_
      refine WpA.tF 17 rfl (V.mv) ?_
      refine WpA.tF 18 rfl (V.nc) ?_
      refine WpA.tF 19 rfl (V.fa tb) ?_
      refine WpA.tF 20 rfl (V.ld1 tb) ?_
      refine WpA.tF 21 rfl (V.cmp) ?_
      refine WpA.tF 22 rfl (V.pF) ?_
      refine WpA.tF 23 rfl (V.mv) ?_
      refine WpA.pt 30 (fun hg2 => ?_) (fun hg2 => ?_)
      (try simp only [decide_eq_true_eq, decide_eq_false_iff_not, Bool.not_eq_true', Bool.not_eq_false', Bool.not_eq_true, Bool.not_eq_false, not_true_eq_false, not_false_eq_true, reduceCtorEq] at hg2)
      contradiction
      (try simp only [decide_eq_true_eq, decide_eq_false_iff_not, Bool.not_eq_true', Bool.not_eq_false', Bool.not_eq_true, Bool.not_eq_false, not_true_eq_false, not_false_eq_true, reduceCtorEq] at hg2)
      refine WpA.tF 24 rfl (V.fa tb) ?_
      refine WpA.tF 25 rfl (V.ld1 tb) ?_
      refine WpA.tF 26 rfl (V.cmp) ?_
      refine WpA.tF 27 rfl (V.pF) ?_
      refine WpA.tF 28 rfl (V.mv) ?_
      refine WpA.pt 35 (fun hg3 => ?_) (fun hg3 => ?_)
      (try simp only [decide_eq_true_eq, decide_eq_false_iff_not, Bool.not_eq_true', Bool.not_eq_false', Bool.not_eq_true, Bool.not_eq_false, not_true_eq_false, not_false_eq_true, reduceCtorEq] at hg3)
      (exfalso; omega)
      (try simp only [decide_eq_true_eq, decide_eq_false_iff_not, Bool.not_eq_true', Bool.not_eq_false', Bool.not_eq_true, Bool.not_eq_false, not_true_eq_false, not_false_eq_true, reduceCtorEq] at hg3)
      refine WpA.tF 29 rfl (V.fa tb) ?_
      refine WpA.tF 30 rfl (V.ld1 tb) ?_
      refine WpA.tF 31 rfl (V.mv) ?_
      refine WpA.tF 32 rfl (V.nc) ?_
      refine WpA.tF 33 rfl (V.fa tb) ?_
      refine WpA.tF 34 rfl (V.ld1 tb) ?_
      refine WpA.tF 35 rfl (V.cmp) ?_
      refine WpA.tF 36 rfl (V.pF) ?_
      refine WpA.ou ?_
      apply Out.seqN
      refine Wp.c (fun hg4 => ?_) (fun hg4 => ?_)
      (try simp only [decide_eq_true_eq, decide_eq_false_iff_not, Bool.not_eq_true', Bool.not_eq_false', Bool.not_eq_true, Bool.not_eq_false, not_true_eq_false, not_false_eq_true, reduceCtorEq] at hg4)
      contradiction
      (try simp only [decide_eq_true_eq, decide_eq_false_iff_not, Bool.not_eq_true', Bool.not_eq_false', Bool.not_eq_true, Bool.not_eq_false, not_true_eq_false, not_false_eq_true, reduceCtorEq] at hg4)
      apply Wp.skip
      apply Out.seqN
      apply Wp.seq
      apply Wp.seq
      apply Wp.region
      refine WpL.v (V.fa tb) ?_
      refine WpL.v (V.ld1 tb) ?_
      refine WpL.v (V.cmp) ?_
      apply WpL.nil
      apply Out.seqN
      refine Wp.c (fun hg5 => ?_) (fun hg5 => ?_)
      (try simp only [decide_eq_true_eq, decide_eq_false_iff_not, Bool.not_eq_true', Bool.not_eq_false', Bool.not_eq_true, Bool.not_eq_false, not_true_eq_false, not_false_eq_true, reduceCtorEq] at hg5)
      (exfalso; omega)
      (try simp only [decide_eq_true_eq, decide_eq_false_iff_not, Bool.not_eq_true', Bool.not_eq_false', Bool.not_eq_true, Bool.not_eq_false, not_true_eq_false, not_false_eq_true, reduceCtorEq] at hg5)
      apply Wp.skip
      apply Out.seqN
      apply Wp.seq
      apply Wp.seq
      refine Wp.dG [] ?_ (List.Sublist.cons_cons _ (List.Sublist.cons_cons _ (List.Sublist.cons_cons _ (List.Sublist.cons_cons _ List.Sublist.slnil)))) (List.Sublist.cons_cons _ (List.Sublist.cons_cons _ (List.Sublist.cons_cons _ (List.Sublist.cons_cons _ List.Sublist.slnil))))
      refine WpA.tF 0 rfl (V.fa tb) ?_
      refine WpA.tF 1 rfl (V.ld1 tb) ?_
      refine WpA.tF 2 rfl (V.cmp) ?_
      refine WpA.tF 3 rfl (V.mv) ?_
      refine WpA.pt 58 (fun hg6 => ?_) (fun hg6 => ?_)
      (try simp only [decide_eq_true_eq, decide_eq_false_iff_not, Bool.not_eq_true', Bool.not_eq_false', Bool.not_eq_true, Bool.not_eq_false, not_true_eq_false, not_false_eq_true, reduceCtorEq] at hg6)
      (exfalso; omega)
      (try simp only [decide_eq_true_eq, decide_eq_false_iff_not, Bool.not_eq_true', Bool.not_eq_false', Bool.not_eq_true, Bool.not_eq_false, not_true_eq_false, not_false_eq_true, reduceCtorEq] at hg6)
      refine WpA.s 4 rfl ?_
      refine WpA.s 5 rfl ?_
      refine WpA.s 6 rfl ?_
      refine WpA.s 7 rfl ?_
      refine WpA.s 8 rfl ?_
      refine WpA.s 9 rfl ?_
      refine WpA.s 10 rfl ?_
      refine WpA.tF 11 rfl (V.pF) ?_
      refine WpA.ou ?_
      apply Out.seqN
      refine Wp.cF ?_
      apply Wp.skip
      apply Out.seqN
      apply Wp.seq
      apply Wp.seq
      refine Wp.dG [] ?_ (List.Sublist.cons_cons _ (List.Sublist.cons_cons _ (List.Sublist.cons _ (List.Sublist.cons _ List.Sublist.slnil)))) (List.Sublist.cons_cons _ (List.Sublist.cons_cons _ (List.Sublist.cons _ (List.Sublist.cons _ List.Sublist.slnil))))
      refine WpA.tF 0 rfl (V.fa tb) ?_
      refine WpA.tF 1 rfl (V.ldA tb) ?_
      refine WpA.tF 2 rfl (V.mv) ?_
      refine WpA.tF 3 rfl (V.nc) ?_
      refine WpA.tF 4 rfl (V.fa tb) ?_
      refine WpA.tF 5 rfl (V.ldA tb) ?_
      refine WpA.tF 6 rfl (V.ne (TBallot.eqT _ _ _)) ?_
      refine WpA.ou ?_
      apply Out.seqN
      refine Wp.c (fun hg7 => ?_) (fun hg7 => ?_)
      (try simp only [decide_eq_true_eq, decide_eq_false_iff_not, Bool.not_eq_true', Bool.not_eq_false', Bool.not_eq_true, Bool.not_eq_false, not_true_eq_false, not_false_eq_true, reduceCtorEq] at hg7)
      contradiction
      (try simp only [decide_eq_true_eq, decide_eq_false_iff_not, Bool.not_eq_true', Bool.not_eq_false', Bool.not_eq_true, Bool.not_eq_false, not_true_eq_false, not_false_eq_true, reduceCtorEq] at hg7)
      apply Wp.skip
      apply Out.seqN
      apply Wp.seq
      apply Wp.seq
      apply Wp.region
      refine WpL.v (V.fa tb) ?_
      refine WpL.v (V.ld1 tb) ?_
      refine WpL.v (V.cmp) ?_
      refine WpL.v (V.mv) ?_
      refine WpL.pt (fun hg8 => ?_) (fun hg8 => ?_)
      (try simp only [decide_eq_true_eq, decide_eq_false_iff_not, Bool.not_eq_true', Bool.not_eq_false', Bool.not_eq_true, Bool.not_eq_false, not_true_eq_false, not_false_eq_true, reduceCtorEq] at hg8)
      (exfalso; omega)
      (try simp only [decide_eq_true_eq, decide_eq_false_iff_not, Bool.not_eq_true', Bool.not_eq_false', Bool.not_eq_true, Bool.not_eq_false, not_true_eq_false, not_false_eq_true, reduceCtorEq] at hg8)
      refine WpL.sk ?_
      refine WpL.sk ?_
      refine WpL.sk ?_
      refine WpL.sk ?_
      refine WpL.sk ?_
      refine WpL.v (V.pF) ?_
      apply WpL.nil
      apply Out.seqN
      refine Wp.cF ?_
      apply Wp.skip
      apply Out.seqN
      apply Wp.seq
      apply Wp.seq
      apply Wp.region
      refine WpL.v (V.fa tb) ?_
      refine WpL.v (V.ld1 tb) ?_
      refine WpL.v (V.cmp) ?_
      refine WpL.v (V.mv) ?_
      refine WpL.pt (fun hg9 => ?_) (fun hg9 => ?_)
      (try simp only [decide_eq_true_eq, decide_eq_false_iff_not, Bool.not_eq_true', Bool.not_eq_false', Bool.not_eq_true, Bool.not_eq_false, not_true_eq_false, not_false_eq_true, reduceCtorEq] at hg9)
      refine WpL.v (V.mv) ?_
      refine WpL.v (V.nc) ?_
      refine WpL.v (V.fa tb) ?_
      refine WpL.v (V.ld1 tb) ?_
      refine WpL.v (V.cmp) ?_
      refine WpL.v (V.pT) ?_
      apply WpL.nil
      apply Out.seqN
      refine Wp.c (fun hg10 => ?_) (fun hg10 => ?_)
      (try simp only [decide_eq_true_eq, decide_eq_false_iff_not, Bool.not_eq_true', Bool.not_eq_false', Bool.not_eq_true, Bool.not_eq_false, not_true_eq_false, not_false_eq_true, reduceCtorEq] at hg10)
      apply Wp.seq
      apply Wp.seq
      apply Wp.region
      refine WpL.v (V.mv) ?_
      refine WpL.v (V.nc) ?_
      refine WpL.v (V.fa tb) ?_
      refine WpL.v (V.ld1 tb) ?_
      refine WpL.v (V.lenL tb) ?_
      refine WpL.v (V.mv) ?_
      apply WpL.nil
      apply Out.seqN
      apply Wp.block
      rotate_left
      (try simp only [decide_eq_true_eq, decide_eq_false_iff_not, Bool.not_eq_true', Bool.not_eq_false', Bool.not_eq_true, Bool.not_eq_false, not_true_eq_false, not_false_eq_true, reduceCtorEq] at hg10)
      contradiction
      (try simp only [decide_eq_true_eq, decide_eq_false_iff_not, Bool.not_eq_true', Bool.not_eq_false', Bool.not_eq_true, Bool.not_eq_false, not_true_eq_false, not_false_eq_true, reduceCtorEq] at hg9)
      (exfalso; omega)
      refine Wp.lp [104, 103, 3, 0] (fun i : Nat => i ≤ x.oks.length ∧ m.From ∉ x.oks.take i) (fun i => [(105, I (i : Int))]) (fun _ => []) (fun i => x.oks.length - i) 0 ⟨Nat.zero_le _, by simp⟩ ?_
      rintro i ⟨hi, hno⟩ K hK
      dsimp only [List.cons_append, List.nil_append]
      by_cases hlt : i < x.oks.length
      · obtain ⟨y, hy⟩ := getS hlt
        by_cases hyf : y = m.From
        · apply Wp.seq
          apply Wp.region
          refine WpL.v (V.cmp) ?_
          apply WpL.nil
          apply Out.seqN
          apply Wp.seq
          refine Wp.c (fun hh0 => ?_) (fun hh0 => ?_)
          (try simp only [decide_eq_true_eq, decide_eq_false_iff_not, Bool.not_eq_true', Bool.not_eq_false', Bool.not_eq_true, Bool.not_eq_false, not_true_eq_false, not_false_eq_true, reduceCtorEq] at hh0)
          apply Wp.skip
          apply Out.seqN
          apply Wp.seq
          apply Wp.block
          apply Wp.seq
          apply Wp.region
          refine WpL.v (V.ixR tb rfl rfl (by assumption)) ?_
          refine WpL.v (V.rdF1 tb (o := 0) rfl hR (getMapS hy)) ?_
          refine WpL.v (V.as) ?_
          apply WpL.nil
          apply Out.seqN
          apply Wp.seq
          apply Wp.region
          refine WpL.v (V.mv) ?_
          refine WpL.v (V.fa tb) ?_
          refine WpL.v (V.ld1 tb) ?_
          refine WpL.v (V.cmp) ?_
          apply WpL.nil
          apply Out.seqN
          refine Wp.c (fun hh1 => ?_) (fun hh1 => ?_)
          (try simp only [decide_eq_true_eq, decide_eq_false_iff_not, Bool.not_eq_true', Bool.not_eq_false', Bool.not_eq_true, Bool.not_eq_false, not_true_eq_false, not_false_eq_true, reduceCtorEq] at hh1)
          apply Wp.seq
          apply Wp.region
          refine WpL.v (V.as) ?_
          apply WpL.nil
          apply Out.seqN
          apply Wp.ret
          apply Out.blockR
          apply Out.seqR
          apply Out.seqR
          apply Out.blockR
          apply Out.seqR
          apply Out.seqR
          refine Out.e1 rfl ResIs.t ?_
          focus (exact ⟨_, _, ⟨_, _, rfl, rfl⟩, (by (repeat (first | exact Sel.nil | exact Rem.here | apply Sel.cons | apply Rem.there)))⟩; done)
          (try simp only [decide_eq_true_eq, decide_eq_false_iff_not, Bool.not_eq_true', Bool.not_eq_false', Bool.not_eq_true, Bool.not_eq_false, not_true_eq_false, not_false_eq_true, reduceCtorEq] at hh1)
          (exfalso; omega)
          (try simp only [decide_eq_true_eq, decide_eq_false_iff_not, Bool.not_eq_true', Bool.not_eq_false', Bool.not_eq_true, Bool.not_eq_false, not_true_eq_false, not_false_eq_true, reduceCtorEq] at hh0)
          (exfalso; omega)
        · apply Wp.seq
          apply Wp.region
          refine WpL.v (V.cmp) ?_
          apply WpL.nil
          apply Out.seqN
          apply Wp.seq
          refine Wp.c (fun hi0 => ?_) (fun hi0 => ?_)
          (try simp only [decide_eq_true_eq, decide_eq_false_iff_not, Bool.not_eq_true', Bool.not_eq_false', Bool.not_eq_true, Bool.not_eq_false, not_true_eq_false, not_false_eq_true, reduceCtorEq] at hi0)
          apply Wp.skip
          apply Out.seqN
          apply Wp.seq
          apply Wp.block
          apply Wp.seq
          apply Wp.region
          refine WpL.v (V.ixR tb rfl rfl (by assumption)) ?_
          refine WpL.v (V.rdF1 tb (o := 0) rfl hR (getMapS hy)) ?_
          refine WpL.v (V.as) ?_
          apply WpL.nil
          apply Out.seqN
          apply Wp.seq
          apply Wp.region
          refine WpL.v (V.mv) ?_
          refine WpL.v (V.fa tb) ?_
          refine WpL.v (V.ld1 tb) ?_
          refine WpL.v (V.cmp) ?_
          apply WpL.nil
          apply Out.seqN
          refine Wp.c (fun hi1 => ?_) (fun hi1 => ?_)
          (try simp only [decide_eq_true_eq, decide_eq_false_iff_not, Bool.not_eq_true', Bool.not_eq_false', Bool.not_eq_true, Bool.not_eq_false, not_true_eq_false, not_false_eq_true, reduceCtorEq] at hi1)
          (exfalso; omega)
          (try simp only [decide_eq_true_eq, decide_eq_false_iff_not, Bool.not_eq_true', Bool.not_eq_false', Bool.not_eq_true, Bool.not_eq_false, not_true_eq_false, not_false_eq_true, reduceCtorEq] at hi1)
          apply Wp.skip
          apply Out.blockN
          apply Out.seqN
          apply Wp.region
          refine WpL.v (V.add) ?_
          refine WpL.v (V.mv) ?_
          apply WpL.nil
          rotate_left
          (try simp only [decide_eq_true_eq, decide_eq_false_iff_not, Bool.not_eq_true', Bool.not_eq_false', Bool.not_eq_true, Bool.not_eq_false, not_true_eq_false, not_false_eq_true, reduceCtorEq] at hi0)
          (exfalso; omega)
          exact Out.ag hK (i + 1) ⟨by show i + 1 ≤ _; omega, by
            rw [take_snocS hy, List.mem_append]
            rintro (h | h)
            · exact hno h
            · simp only [List.mem_singleton] at h; exact hyf h.symm⟩ (by show x.oks.length - (i + 1) < x.oks.length - i; omega)
      · obtain rfl : i = x.oks.length := by omega
        rw [List.take_length] at hno
        exact absurd hin hno
    · rw [if_neg hin]
      refine Ct.enter Try.func44 rfl rfl fun W => ?_
      refine Wp.fact (rowsRd (f := i64c) (v := vo) (l := x.oks) (E := 3) (sz := 1) (fun _ => rfl) (by (repeat first | exact List.Mem.head _ | apply List.Mem.tail))) fun hv => ?_
      obtain ⟨ao, cp, g, rfl, hR⟩ := hv
      apply Wp.seq
      apply Wp.region
      refine WpL.o (O.bxA (fun p3 => ?_))
      refine WpL.v (V.as) ?_
      apply WpL.nil
      apply Out.seqN
      apply Wp.seq
      apply Wp.seq
      refine Wp.dG [] ?_ (List.Sublist.cons_cons _ (List.Sublist.cons_cons _ (List.Sublist.cons _ (List.Sublist.cons _ List.Sublist.slnil)))) (List.Sublist.cons_cons _ (List.Sublist.cons_cons _ (List.Sublist.cons _ (List.Sublist.cons _ List.Sublist.slnil))))
      refine WpA.tF 0 rfl (V.mv) ?_
      refine WpA.tF 1 rfl (V.nc) ?_
      refine WpA.tF 2 rfl (V.fa tb) ?_
      refine WpA.tF 3 rfl (V.ld1 tb) ?_
      refine WpA.tF 4 rfl (V.cmp) ?_
      refine WpA.tF 5 rfl (V.mv) ?_
      refine WpA.pt 12 (fun hk0 => ?_) (fun hk0 => ?_)
      (try simp only [decide_eq_true_eq, decide_eq_false_iff_not, Bool.not_eq_true', Bool.not_eq_false', Bool.not_eq_true, Bool.not_eq_false, not_true_eq_false, not_false_eq_true, reduceCtorEq] at hk0)
      contradiction
      (try simp only [decide_eq_true_eq, decide_eq_false_iff_not, Bool.not_eq_true', Bool.not_eq_false', Bool.not_eq_true, Bool.not_eq_false, not_true_eq_false, not_false_eq_true, reduceCtorEq] at hk0)
      refine WpA.tF 6 rfl (V.fa tb) ?_
      refine WpA.tF 7 rfl (V.ldA tb) ?_
      refine WpA.tF 8 rfl (V.mv) ?_
      refine WpA.tF 9 rfl (V.nc) ?_
      refine WpA.tF 10 rfl (V.fa tb) ?_
      refine WpA.tF 11 rfl (V.ldA tb) ?_
      refine WpA.tF 12 rfl (V.ne (TItem.eqT _ _ _)) ?_
      refine WpA.tF 13 rfl (V.pF) ?_
      refine WpA.tF 14 rfl (V.mv) ?_
      refine WpA.pt 21 (fun hk1 => ?_) (fun hk1 => ?_)
      (try simp only [decide_eq_true_eq, decide_eq_false_iff_not, Bool.not_eq_true', Bool.not_eq_false', Bool.not_eq_true, Bool.not_eq_false, not_true_eq_false, not_false_eq_true, reduceCtorEq] at hk1)
      contradiction
      (try simp only [decide_eq_true_eq, decide_eq_false_iff_not, Bool.not_eq_true', Bool.not_eq_false', Bool.not_eq_true, Bool.not_eq_false, not_true_eq_false, not_false_eq_true, reduceCtorEq] at hk1)
      refine WpA.tF 15 rfl (V.fa tb) ?_
      refine WpA.tF 16 rfl (V.ld1 tb) ?_
      refine WpA.tF 17 rfl (V.mv) ?_
      refine WpA.tF 18 rfl (V.nc) ?_
      refine WpA.tF 19 rfl (V.fa tb) ?_
      refine WpA.tF 20 rfl (V.ld1 tb) ?_
      refine WpA.tF 21 rfl (V.cmp) ?_
      refine WpA.tF 22 rfl (V.pF) ?_
      refine WpA.tF 23 rfl (V.mv) ?_
      refine WpA.pt 30 (fun hk2 => ?_) (fun hk2 => ?_)
      (try simp only [decide_eq_true_eq, decide_eq_false_iff_not, Bool.not_eq_true', Bool.not_eq_false', Bool.not_eq_true, Bool.not_eq_false, not_true_eq_false, not_false_eq_true, reduceCtorEq] at hk2)
      contradiction
      (try simp only [decide_eq_true_eq, decide_eq_false_iff_not, Bool.not_eq_true', Bool.not_eq_false', Bool.not_eq_true, Bool.not_eq_false, not_true_eq_false, not_false_eq_true, reduceCtorEq] at hk2)
      refine WpA.tF 24 rfl (V.fa tb) ?_
      refine WpA.tF 25 rfl (V.ld1 tb) ?_
      refine WpA.tF 26 rfl (V.cmp) ?_
      refine WpA.tF 27 rfl (V.pF) ?_
      refine WpA.tF 28 rfl (V.mv) ?_
      refine WpA.pt 35 (fun hk3 => ?_) (fun hk3 => ?_)
      (try simp only [decide_eq_true_eq, decide_eq_false_iff_not, Bool.not_eq_true', Bool.not_eq_false', Bool.not_eq_true, Bool.not_eq_false, not_true_eq_false, not_false_eq_true, reduceCtorEq] at hk3)
      (exfalso; omega)
      (try simp only [decide_eq_true_eq, decide_eq_false_iff_not, Bool.not_eq_true', Bool.not_eq_false', Bool.not_eq_true, Bool.not_eq_false, not_true_eq_false, not_false_eq_true, reduceCtorEq] at hk3)
      refine WpA.tF 29 rfl (V.fa tb) ?_
      refine WpA.tF 30 rfl (V.ld1 tb) ?_
      refine WpA.tF 31 rfl (V.mv) ?_
      refine WpA.tF 32 rfl (V.nc) ?_
      refine WpA.tF 33 rfl (V.fa tb) ?_
      refine WpA.tF 34 rfl (V.ld1 tb) ?_
      refine WpA.tF 35 rfl (V.cmp) ?_
      refine WpA.tF 36 rfl (V.pF) ?_
      refine WpA.ou ?_
      apply Out.seqN
      refine Wp.c (fun hk4 => ?_) (fun hk4 => ?_)
      (try simp only [decide_eq_true_eq, decide_eq_false_iff_not, Bool.not_eq_true', Bool.not_eq_false', Bool.not_eq_true, Bool.not_eq_false, not_true_eq_false, not_false_eq_true, reduceCtorEq] at hk4)
      contradiction
      (try simp only [decide_eq_true_eq, decide_eq_false_iff_not, Bool.not_eq_true', Bool.not_eq_false', Bool.not_eq_true, Bool.not_eq_false, not_true_eq_false, not_false_eq_true, reduceCtorEq] at hk4)
      apply Wp.skip
      apply Out.seqN
      apply Wp.seq
      apply Wp.seq
      apply Wp.region
      refine WpL.v (V.fa tb) ?_
      refine WpL.v (V.ld1 tb) ?_
      refine WpL.v (V.cmp) ?_
      apply WpL.nil
      apply Out.seqN
      refine Wp.c (fun hk5 => ?_) (fun hk5 => ?_)
      (try simp only [decide_eq_true_eq, decide_eq_false_iff_not, Bool.not_eq_true', Bool.not_eq_false', Bool.not_eq_true, Bool.not_eq_false, not_true_eq_false, not_false_eq_true, reduceCtorEq] at hk5)
      (exfalso; omega)
      (try simp only [decide_eq_true_eq, decide_eq_false_iff_not, Bool.not_eq_true', Bool.not_eq_false', Bool.not_eq_true, Bool.not_eq_false, not_true_eq_false, not_false_eq_true, reduceCtorEq] at hk5)
      apply Wp.skip
      apply Out.seqN
      apply Wp.seq
      apply Wp.seq
      refine Wp.dG [] ?_ (List.Sublist.cons_cons _ (List.Sublist.cons_cons _ (List.Sublist.cons_cons _ (List.Sublist.cons_cons _ List.Sublist.slnil)))) (List.Sublist.cons_cons _ (List.Sublist.cons_cons _ (List.Sublist.cons_cons _ (List.Sublist.cons_cons _ List.Sublist.slnil))))
      refine WpA.tF 0 rfl (V.fa tb) ?_
      refine WpA.tF 1 rfl (V.ld1 tb) ?_
      refine WpA.tF 2 rfl (V.cmp) ?_
      refine WpA.tF 3 rfl (V.mv) ?_
      refine WpA.pt 58 (fun hk6 => ?_) (fun hk6 => ?_)
      (try simp only [decide_eq_true_eq, decide_eq_false_iff_not, Bool.not_eq_true', Bool.not_eq_false', Bool.not_eq_true, Bool.not_eq_false, not_true_eq_false, not_false_eq_true, reduceCtorEq] at hk6)
      (exfalso; omega)
      (try simp only [decide_eq_true_eq, decide_eq_false_iff_not, Bool.not_eq_true', Bool.not_eq_false', Bool.not_eq_true, Bool.not_eq_false, not_true_eq_false, not_false_eq_true, reduceCtorEq] at hk6)
      refine WpA.s 4 rfl ?_
      refine WpA.s 5 rfl ?_
      refine WpA.s 6 rfl ?_
      refine WpA.s 7 rfl ?_
      refine WpA.s 8 rfl ?_
      refine WpA.s 9 rfl ?_
      refine WpA.s 10 rfl ?_
      refine WpA.tF 11 rfl (V.pF) ?_
      refine WpA.ou ?_
      apply Out.seqN
      refine Wp.cF ?_
      apply Wp.skip
      apply Out.seqN
      apply Wp.seq
      apply Wp.seq
      refine Wp.dG [] ?_ (List.Sublist.cons_cons _ (List.Sublist.cons_cons _ (List.Sublist.cons _ (List.Sublist.cons _ List.Sublist.slnil)))) (List.Sublist.cons_cons _ (List.Sublist.cons_cons _ (List.Sublist.cons _ (List.Sublist.cons _ List.Sublist.slnil))))
      refine WpA.tF 0 rfl (V.fa tb) ?_
      refine WpA.tF 1 rfl (V.ldA tb) ?_
      refine WpA.tF 2 rfl (V.mv) ?_
      refine WpA.tF 3 rfl (V.nc) ?_
      refine WpA.tF 4 rfl (V.fa tb) ?_
      refine WpA.tF 5 rfl (V.ldA tb) ?_
      refine WpA.tF 6 rfl (V.ne (TBallot.eqT _ _ _)) ?_
      refine WpA.ou ?_
      apply Out.seqN
      refine Wp.c (fun hk7 => ?_) (fun hk7 => ?_)
      (try simp only [decide_eq_true_eq, decide_eq_false_iff_not, Bool.not_eq_true', Bool.not_eq_false', Bool.not_eq_true, Bool.not_eq_false, not_true_eq_false, not_false_eq_true, reduceCtorEq] at hk7)
      contradiction
      (try simp only [decide_eq_true_eq, decide_eq_false_iff_not, Bool.not_eq_true', Bool.not_eq_false', Bool.not_eq_true, Bool.not_eq_false, not_true_eq_false, not_false_eq_true, reduceCtorEq] at hk7)
      apply Wp.skip
      apply Out.seqN
      apply Wp.seq
      apply Wp.seq
      apply Wp.region
      refine WpL.v (V.fa tb) ?_
      refine WpL.v (V.ld1 tb) ?_
      refine WpL.v (V.cmp) ?_
      refine WpL.v (V.mv) ?_
      refine WpL.pt (fun hk8 => ?_) (fun hk8 => ?_)
      (try simp only [decide_eq_true_eq, decide_eq_false_iff_not, Bool.not_eq_true', Bool.not_eq_false', Bool.not_eq_true, Bool.not_eq_false, not_true_eq_false, not_false_eq_true, reduceCtorEq] at hk8)
      (exfalso; omega)
      (try simp only [decide_eq_true_eq, decide_eq_false_iff_not, Bool.not_eq_true', Bool.not_eq_false', Bool.not_eq_true, Bool.not_eq_false, not_true_eq_false, not_false_eq_true, reduceCtorEq] at hk8)
      refine WpL.sk ?_
      refine WpL.sk ?_
      refine WpL.sk ?_
      refine WpL.sk ?_
      refine WpL.sk ?_
      refine WpL.v (V.pF) ?_
      apply WpL.nil
      apply Out.seqN
      refine Wp.cF ?_
      apply Wp.skip
      apply Out.seqN
      apply Wp.seq
      apply Wp.seq
      apply Wp.region
      refine WpL.v (V.fa tb) ?_
      refine WpL.v (V.ld1 tb) ?_
      refine WpL.v (V.cmp) ?_
      refine WpL.v (V.mv) ?_
      refine WpL.pt (fun hk9 => ?_) (fun hk9 => ?_)
      (try simp only [decide_eq_true_eq, decide_eq_false_iff_not, Bool.not_eq_true', Bool.not_eq_false', Bool.not_eq_true, Bool.not_eq_false, not_true_eq_false, not_false_eq_true, reduceCtorEq] at hk9)
      refine WpL.v (V.mv) ?_
      refine WpL.v (V.nc) ?_
      refine WpL.v (V.fa tb) ?_
      refine WpL.v (V.ld1 tb) ?_
      refine WpL.v (V.cmp) ?_
      refine WpL.v (V.pT) ?_
      apply WpL.nil
      apply Out.seqN
      refine Wp.c (fun hk10 => ?_) (fun hk10 => ?_)
      (try simp only [decide_eq_true_eq, decide_eq_false_iff_not, Bool.not_eq_true', Bool.not_eq_false', Bool.not_eq_true, Bool.not_eq_false, not_true_eq_false, not_false_eq_true, reduceCtorEq] at hk10)
      apply Wp.seq
      apply Wp.seq
      apply Wp.region
      refine WpL.v (V.mv) ?_
      refine WpL.v (V.nc) ?_
      refine WpL.v (V.fa tb) ?_
      refine WpL.v (V.ld1 tb) ?_
      refine WpL.v (V.lenL tb) ?_
      refine WpL.v (V.mv) ?_
      apply WpL.nil
      apply Out.seqN
      apply Wp.block
      rotate_left
      (try simp only [decide_eq_true_eq, decide_eq_false_iff_not, Bool.not_eq_true', Bool.not_eq_false', Bool.not_eq_true, Bool.not_eq_false, not_true_eq_false, not_false_eq_true, reduceCtorEq] at hk10)
      contradiction
      (try simp only [decide_eq_true_eq, decide_eq_false_iff_not, Bool.not_eq_true', Bool.not_eq_false', Bool.not_eq_true, Bool.not_eq_false, not_true_eq_false, not_false_eq_true, reduceCtorEq] at hk9)
      (exfalso; omega)
      refine Wp.lp [104, 103, 3, 0] (fun i : Nat => i ≤ x.oks.length) (fun i => [(105, I (i : Int))]) (fun _ => []) (fun i => x.oks.length - i) 0 (Nat.zero_le _) ?_
      rintro i hi K hK
      dsimp only [List.cons_append, List.nil_append]
      by_cases hlt : i < x.oks.length
      · obtain ⟨y, hy⟩ := getS hlt
        have hyf : ¬ y = m.From := fun h => hin (h ▸ List.mem_of_getElem? hy)
        apply Wp.seq
        apply Wp.region
        refine WpL.v (V.cmp) ?_
        apply WpL.nil
        apply Out.seqN
        apply Wp.seq
        refine Wp.c (fun hl0 => ?_) (fun hl0 => ?_)
        (try simp only [decide_eq_true_eq, decide_eq_false_iff_not, Bool.not_eq_true', Bool.not_eq_false', Bool.not_eq_true, Bool.not_eq_false, not_true_eq_false, not_false_eq_true, reduceCtorEq] at hl0)
        apply Wp.skip
        apply Out.seqN
        apply Wp.seq
        apply Wp.block
        apply Wp.seq
        apply Wp.region
        refine WpL.v (V.ixR tb rfl rfl (by assumption)) ?_
        refine WpL.v (V.rdF1 tb (o := 0) rfl hR (getMapS hy)) ?_
        refine WpL.v (V.as) ?_
        apply WpL.nil
        apply Out.seqN
        apply Wp.seq
        apply Wp.region
        refine WpL.v (V.mv) ?_
        refine WpL.v (V.fa tb) ?_
        refine WpL.v (V.ld1 tb) ?_
        refine WpL.v (V.cmp) ?_
        apply WpL.nil
        apply Out.seqN
        refine Wp.c (fun hl1 => ?_) (fun hl1 => ?_)
        (try simp only [decide_eq_true_eq, decide_eq_false_iff_not, Bool.not_eq_true', Bool.not_eq_false', Bool.not_eq_true, Bool.not_eq_false, not_true_eq_false, not_false_eq_true, reduceCtorEq] at hl1)
        (exfalso; omega)
        (try simp only [decide_eq_true_eq, decide_eq_false_iff_not, Bool.not_eq_true', Bool.not_eq_false', Bool.not_eq_true, Bool.not_eq_false, not_true_eq_false, not_false_eq_true, reduceCtorEq] at hl1)
        apply Wp.skip
        apply Out.blockN
        apply Out.seqN
        apply Wp.region
        refine WpL.v (V.add) ?_
        refine WpL.v (V.mv) ?_
        apply WpL.nil
        rotate_left
        (try simp only [decide_eq_true_eq, decide_eq_false_iff_not, Bool.not_eq_true', Bool.not_eq_false', Bool.not_eq_true, Bool.not_eq_false, not_true_eq_false, not_false_eq_true, reduceCtorEq] at hl0)
        (exfalso; omega)
        exact Out.ag hK (i + 1) (by show i + 1 ≤ _; omega) (by show x.oks.length - (i + 1) < x.oks.length - i; omega)
      · obtain rfl : i = x.oks.length := by omega
        clear hK
        have hlm : (x.oks ++ [m.From]).length = x.oks.length + 1 := by simp
        have hNs : (x.s vp (.slice ao x.oks.length cp)).N = x.n := rfl
        by_cases hq : faults x.n + 1 ≤ ((x.oks ++ [m.From]).length : Int)
        · rw [if_pos hq]
          apply Wp.seq
          apply Wp.region
          refine WpL.v (V.cmp) ?_
          apply WpL.nil
          apply Out.seqN
          apply Wp.seq
          refine Wp.c (fun hm0 => ?_) (fun hm0 => ?_)
          (try simp only [decide_eq_true_eq, decide_eq_false_iff_not, Bool.not_eq_true', Bool.not_eq_false', Bool.not_eq_true, Bool.not_eq_false, not_true_eq_false, not_false_eq_true, reduceCtorEq] at hm0)
          (exfalso; omega)
          (try simp only [decide_eq_true_eq, decide_eq_false_iff_not, Bool.not_eq_true', Bool.not_eq_false', Bool.not_eq_true, Bool.not_eq_false, not_true_eq_false, not_false_eq_true, reduceCtorEq] at hm0)
          apply Wp.exit
          apply Out.seqE
          apply Out.seqE
          apply Out.blockE
          apply Out.seqN
          apply Wp.seq
          refine Wp.dG [11] ?_ (List.Sublist.cons_cons _ (List.Sublist.cons_cons _ (List.Sublist.cons _ (List.Sublist.cons _ List.Sublist.slnil)))) (List.Sublist.cons_cons _ (List.Sublist.cons _ (List.Sublist.cons _ (List.Sublist.cons _ List.Sublist.slnil))))
          refine WpA.tF 0 rfl (V.mv) ?_
          refine WpA.tF 1 rfl (V.mv) ?_
          refine WpA.tF 2 rfl (V.nc) ?_
          refine WpA.tF 3 rfl (V.fa tb) ?_
          refine WpA.tF 5 rfl (V.fa tb) ?_
          refine WpA.tF 6 rfl (V.ld1 tb) ?_
          refine WpA.t 4 rfl (V.ld1 tb) ?_
          refine WpA.oS 7 rfl (O.lit tb (fun p121 => ⟨?_, ?_, ?_⟩))
          exact holdT
          exact holdT
          refine WpA.oS 8 rfl (O.apLV (l := x.oks) (m := [m.From]) tb rfl rfl (by (intro _; repeat first | exact Upd.here _ _ _ | apply Upd.there)) (SrcL.one (f := i64c) (a := m.From) tb (by (repeat first | exact List.Mem.head _ | apply List.Mem.tail)) ones_i64c) (fun v122 h1122 hv122 => ⟨?_, ?_, ?_⟩) (hbb := by simp only [List.length_cons, List.length_nil]; omega) (h63 := by simp only [List.length_cons, List.length_nil]; omega))
          exact holdT
          exact holdT
          refine WpA.tF 9 rfl (V.nc) ?_
          refine WpA.tF 10 rfl (V.fa tb) ?_
          refine WpA.l 11 rfl (O.st1 tb ⟨?_, ?_⟩)
          exact holdT
          refine WpA.ou ?_
          apply Out.seqN
          apply Wp.seq
          refine Wp.dG [] ?_ (List.Sublist.cons _ (List.Sublist.cons _ (List.Sublist.cons_cons _ (List.Sublist.cons _ (List.Sublist.cons _ List.Sublist.slnil))))) (List.Sublist.cons _ (List.Sublist.cons _ (List.Sublist.cons_cons _ (List.Sublist.cons _ (List.Sublist.cons _ List.Sublist.slnil)))))
          refine WpA.tF 0 rfl (V.mv) ?_
          refine WpA.tF 1 rfl (V.nc) ?_
          refine WpA.tF 2 rfl (V.fa tb) ?_
          refine WpA.tF 3 rfl (V.ld1 tb) ?_
          refine WpA.tF 5 rfl (V.mv) ?_
          refine WpA.tF 6 rfl (V.nc) ?_
          refine WpA.tF 7 rfl (V.fa tb) ?_
          refine WpA.tF 8 rfl (V.ld1 tb) ?_
          refine WpA.e2 4 9 rfl rfl ?_ ?_
          refine Op1.vv (V.lenRows tb) ⟨?_, ?_, ?_⟩
          exact holdT
          exact holdT
          refine WpA.oS 9 rfl (Op1.fn rfl (hF) ⟨?_, ?_, ?_⟩)
          exact holdT
          exact holdT
          refine WpA.tF 10 rfl (V.add) ?_
          refine WpA.tF 11 rfl (V.cmp) ?_
          refine WpA.ou ?_
          apply Out.seqN
          refine Wp.c (fun hm1 => ?_) (fun hm1 => ?_)
          (try simp only [decide_eq_true_eq, decide_eq_false_iff_not, Bool.not_eq_true', Bool.not_eq_false', Bool.not_eq_true, Bool.not_eq_false, not_true_eq_false, not_false_eq_true, reduceCtorEq] at hm1)
          apply Wp.seq
          apply Wp.region
          refine WpL.v (V.mv) ?_
          refine WpL.v (V.nc) ?_
          refine WpL.v (V.fa tb) ?_
          refine WpL.o (O.st1 tb ?_)
          apply WpL.nil
          apply Out.seqN
          apply Wp.seq
          apply Wp.region
          refine WpL.v (V.as) ?_
          apply WpL.nil
          apply Out.seqN
          apply Wp.ret
          apply Out.seqR
          refine Out.e1 rfl ResIs.t ?_
          focus (exact ⟨_, _, ⟨_, _, rfl, rfl⟩, (by (repeat (first | exact Sel.nil | exact Rem.here | apply Sel.cons | apply Rem.there)))⟩; done)
          (try simp only [decide_eq_true_eq, decide_eq_false_iff_not, Bool.not_eq_true', Bool.not_eq_false', Bool.not_eq_true, Bool.not_eq_false, not_true_eq_false, not_false_eq_true, reduceCtorEq] at hm1)
          (exfalso; omega)
          refine Op1.fn rfl (hF) ⟨?_, ?_, ?_⟩
          exact holdT
          exact holdT
          refine WpA.tF 10 rfl (V.add) ?_
          refine WpA.oS 4 rfl (Op1.vv (V.lenRows tb) ⟨?_, ?_, ?_⟩)
          exact holdT
          exact holdT
          refine WpA.tF 11 rfl (V.cmp) ?_
          refine WpA.ou ?_
          apply Out.seqN
          refine Wp.c (fun hm2 => ?_) (fun hm2 => ?_)
          (try simp only [decide_eq_true_eq, decide_eq_false_iff_not, Bool.not_eq_true', Bool.not_eq_false', Bool.not_eq_true, Bool.not_eq_false, not_true_eq_false, not_false_eq_true, reduceCtorEq] at hm2)
          apply Wp.seq
          apply Wp.region
          refine WpL.v (V.mv) ?_
          refine WpL.v (V.nc) ?_
          refine WpL.v (V.fa tb) ?_
          refine WpL.o (O.st1 tb ?_)
          apply WpL.nil
          apply Out.seqN
          apply Wp.seq
          apply Wp.region
          refine WpL.v (V.as) ?_
          apply WpL.nil
          apply Out.seqN
          apply Wp.ret
          apply Out.seqR
          refine Out.e1 rfl ResIs.t ?_
          focus (exact ⟨_, _, ⟨_, _, rfl, rfl⟩, (by (repeat (first | exact Sel.nil | exact Rem.here | apply Sel.cons | apply Rem.there)))⟩; done)
          (try simp only [decide_eq_true_eq, decide_eq_false_iff_not, Bool.not_eq_true', Bool.not_eq_false', Bool.not_eq_true, Bool.not_eq_false, not_true_eq_false, not_false_eq_true, reduceCtorEq] at hm2)
          (exfalso; omega)
        · rw [if_neg hq]
          apply Wp.seq
          apply Wp.region
          refine WpL.v (V.cmp) ?_
          apply WpL.nil
          apply Out.seqN
          apply Wp.seq
          refine Wp.c (fun hn0 => ?_) (fun hn0 => ?_)
          (try simp only [decide_eq_true_eq, decide_eq_false_iff_not, Bool.not_eq_true', Bool.not_eq_false', Bool.not_eq_true, Bool.not_eq_false, not_true_eq_false, not_false_eq_true, reduceCtorEq] at hn0)
          (exfalso; omega)
          (try simp only [decide_eq_true_eq, decide_eq_false_iff_not, Bool.not_eq_true', Bool.not_eq_false', Bool.not_eq_true, Bool.not_eq_false, not_true_eq_false, not_false_eq_true, reduceCtorEq] at hn0)
          apply Wp.exit
          apply Out.seqE
          apply Out.seqE
          apply Out.blockE
          apply Out.seqN
          apply Wp.seq
          refine Wp.dG [11] ?_ (List.Sublist.cons_cons _ (List.Sublist.cons_cons _ (List.Sublist.cons _ (List.Sublist.cons _ List.Sublist.slnil)))) (List.Sublist.cons_cons _ (List.Sublist.cons _ (List.Sublist.cons _ (List.Sublist.cons _ List.Sublist.slnil))))
          refine WpA.tF 0 rfl (V.mv) ?_
          refine WpA.tF 1 rfl (V.mv) ?_
          refine WpA.tF 2 rfl (V.nc) ?_
          refine WpA.tF 3 rfl (V.fa tb) ?_
          refine WpA.tF 5 rfl (V.fa tb) ?_
          refine WpA.tF 6 rfl (V.ld1 tb) ?_
          refine WpA.t 4 rfl (V.ld1 tb) ?_
          refine WpA.oS 7 rfl (O.lit tb (fun p121 => ⟨?_, ?_, ?_⟩))
          exact holdT
          exact holdT
          refine WpA.oS 8 rfl (O.apLV (l := x.oks) (m := [m.From]) tb rfl rfl (by (intro _; repeat first | exact Upd.here _ _ _ | apply Upd.there)) (SrcL.one (f := i64c) (a := m.From) tb (by (repeat first | exact List.Mem.head _ | apply List.Mem.tail)) ones_i64c) (fun v122 h1122 hv122 => ⟨?_, ?_, ?_⟩) (hbb := by simp only [List.length_cons, List.length_nil]; omega) (h63 := by simp only [List.length_cons, List.length_nil]; omega))
          exact holdT
          exact holdT
          refine WpA.tF 9 rfl (V.nc) ?_
          refine WpA.tF 10 rfl (V.fa tb) ?_
          refine WpA.l 11 rfl (O.st1 tb ⟨?_, ?_⟩)
          exact holdT
          refine WpA.ou ?_
          apply Out.seqN
          apply Wp.seq
          refine Wp.dG [] ?_ (List.Sublist.cons _ (List.Sublist.cons _ (List.Sublist.cons_cons _ (List.Sublist.cons _ (List.Sublist.cons _ List.Sublist.slnil))))) (List.Sublist.cons _ (List.Sublist.cons _ (List.Sublist.cons_cons _ (List.Sublist.cons _ (List.Sublist.cons _ List.Sublist.slnil)))))
          refine WpA.tF 0 rfl (V.mv) ?_
          refine WpA.tF 1 rfl (V.nc) ?_
          refine WpA.tF 2 rfl (V.fa tb) ?_
          refine WpA.tF 3 rfl (V.ld1 tb) ?_
          refine WpA.tF 5 rfl (V.mv) ?_
          refine WpA.tF 6 rfl (V.nc) ?_
          refine WpA.tF 7 rfl (V.fa tb) ?_
          refine WpA.tF 8 rfl (V.ld1 tb) ?_
          refine WpA.e2 4 9 rfl rfl ?_ ?_
          refine Op1.vv (V.lenRows tb) ⟨?_, ?_, ?_⟩
          exact holdT
          exact holdT
          refine WpA.oS 9 rfl (Op1.fn rfl (hF) ⟨?_, ?_, ?_⟩)
          exact holdT
          exact holdT
          refine WpA.tF 10 rfl (V.add) ?_
          refine WpA.tF 11 rfl (V.cmp) ?_
          refine WpA.ou ?_
          apply Out.seqN
          refine Wp.c (fun hn1 => ?_) (fun hn1 => ?_)
          (try simp only [decide_eq_true_eq, decide_eq_false_iff_not, Bool.not_eq_true', Bool.not_eq_false', Bool.not_eq_true, Bool.not_eq_false, not_true_eq_false, not_false_eq_true, reduceCtorEq] at hn1)
          (exfalso; omega)
          (try simp only [decide_eq_true_eq, decide_eq_false_iff_not, Bool.not_eq_true', Bool.not_eq_false', Bool.not_eq_true, Bool.not_eq_false, not_true_eq_false, not_false_eq_true, reduceCtorEq] at hn1)
          apply Wp.skip
          apply Out.seqN
          apply Wp.seq
          apply Wp.region
          refine WpL.v (V.as) ?_
          apply WpL.nil
          apply Out.seqN
          apply Wp.ret
          refine Out.e1 rfl ResIs.t ?_
          focus (exact ⟨_, _, ⟨_, _, rfl, rfl⟩, (by (repeat (first | exact Sel.nil | exact Rem.here | apply Sel.cons | apply Rem.there)))⟩; done)
          refine Op1.fn rfl (hF) ⟨?_, ?_, ?_⟩
          exact holdT
          exact holdT
          refine WpA.tF 10 rfl (V.add) ?_
          refine WpA.oS 4 rfl (Op1.vv (V.lenRows tb) ⟨?_, ?_, ?_⟩)
          exact holdT
          exact holdT
          refine WpA.tF 11 rfl (V.cmp) ?_
          refine WpA.ou ?_
          apply Out.seqN
          refine Wp.c (fun hn2 => ?_) (fun hn2 => ?_)
          (try simp only [decide_eq_true_eq, decide_eq_false_iff_not, Bool.not_eq_true', Bool.not_eq_false', Bool.not_eq_true, Bool.not_eq_false, not_true_eq_false, not_false_eq_true, reduceCtorEq] at hn2)
          (exfalso; omega)
          (try simp only [decide_eq_true_eq, decide_eq_false_iff_not, Bool.not_eq_true', Bool.not_eq_false', Bool.not_eq_true, Bool.not_eq_false, not_true_eq_false, not_false_eq_true, reduceCtorEq] at hn2)
          apply Wp.skip
          apply Out.seqN
          apply Wp.seq
          apply Wp.region
          refine WpL.v (V.as) ?_
          apply WpL.nil
          apply Out.seqN
          apply Wp.ret
          refine Out.e1 rfl ResIs.t ?_
          focus (exact ⟨_, _, ⟨_, _, rfl, rfl⟩, (by (repeat (first | exact Sel.nil | exact Rem.here | apply Sel.cons | apply Rem.there)))⟩; done)
  rw [if_neg h4]
  refine Ct.enter Try.func44 rfl rfl fun W => ?_
  apply Wp.seq
  apply Wp.region
  refine WpL.o (O.bxA (fun p3 => ?_))
  refine WpL.v (V.as) ?_
  apply WpL.nil
  apply Out.seqN
  apply Wp.seq
  apply Wp.seq
  refine Wp.dG [] ?_ (List.Sublist.cons_cons _ (List.Sublist.cons_cons _ (List.Sublist.cons _ (List.Sublist.cons _ List.Sublist.slnil)))) (List.Sublist.cons_cons _ (List.Sublist.cons_cons _ (List.Sublist.cons _ (List.Sublist.cons _ List.Sublist.slnil))))
  refine WpA.tF 0 rfl (V.mv) ?_
  refine WpA.tF 1 rfl (V.nc) ?_
  refine WpA.tF 2 rfl (V.fa tb) ?_
  refine WpA.tF 3 rfl (V.ld1 tb) ?_
  refine WpA.tF 4 rfl (V.cmp) ?_
  refine WpA.tF 5 rfl (V.mv) ?_
  refine WpA.pt 12 (fun hj0 => ?_) (fun hj0 => ?_)
  (try simp only [decide_eq_true_eq, decide_eq_false_iff_not, Bool.not_eq_true', Bool.not_eq_false', Bool.not_eq_true, Bool.not_eq_false, not_true_eq_false, not_false_eq_true, reduceCtorEq] at hj0)
  contradiction
  (try simp only [decide_eq_true_eq, decide_eq_false_iff_not, Bool.not_eq_true', Bool.not_eq_false', Bool.not_eq_true, Bool.not_eq_false, not_true_eq_false, not_false_eq_true, reduceCtorEq] at hj0)
  refine WpA.tF 6 rfl (V.fa tb) ?_
  refine WpA.tF 7 rfl (V.ldA tb) ?_
  refine WpA.tF 8 rfl (V.mv) ?_
  refine WpA.tF 9 rfl (V.nc) ?_
  refine WpA.tF 10 rfl (V.fa tb) ?_
  refine WpA.tF 11 rfl (V.ldA tb) ?_
  refine WpA.tF 12 rfl (V.ne (TItem.eqT _ _ _)) ?_
  refine WpA.tF 13 rfl (V.pF) ?_
  refine WpA.tF 14 rfl (V.mv) ?_
  refine WpA.pt 21 (fun hj1 => ?_) (fun hj1 => ?_)
  (try simp only [decide_eq_true_eq, decide_eq_false_iff_not, Bool.not_eq_true', Bool.not_eq_false', Bool.not_eq_true, Bool.not_eq_false, not_true_eq_false, not_false_eq_true, reduceCtorEq] at hj1)
  contradiction
  (try simp only [decide_eq_true_eq, decide_eq_false_iff_not, Bool.not_eq_true', Bool.not_eq_false', Bool.not_eq_true, Bool.not_eq_false, not_true_eq_false, not_false_eq_true, reduceCtorEq] at hj1)
  refine WpA.tF 15 rfl (V.fa tb) ?_
  refine WpA.tF 16 rfl (V.ld1 tb) ?_
  refine WpA.tF 17 rfl (V.mv) ?_
  refine WpA.tF 18 rfl (V.nc) ?_
  refine WpA.tF 19 rfl (V.fa tb) ?_
  refine WpA.tF 20 rfl (V.ld1 tb) ?_
  refine WpA.tF 21 rfl (V.cmp) ?_
  refine WpA.tF 22 rfl (V.pF) ?_
  refine WpA.tF 23 rfl (V.mv) ?_
  refine WpA.pt 30 (fun hj2 => ?_) (fun hj2 => ?_)
  (try simp only [decide_eq_true_eq, decide_eq_false_iff_not, Bool.not_eq_true', Bool.not_eq_false', Bool.not_eq_true, Bool.not_eq_false, not_true_eq_false, not_false_eq_true, reduceCtorEq] at hj2)
  contradiction
  (try simp only [decide_eq_true_eq, decide_eq_false_iff_not, Bool.not_eq_true', Bool.not_eq_false', Bool.not_eq_true, Bool.not_eq_false, not_true_eq_false, not_false_eq_true, reduceCtorEq] at hj2)
  refine WpA.tF 24 rfl (V.fa tb) ?_
  refine WpA.tF 25 rfl (V.ld1 tb) ?_
  refine WpA.tF 26 rfl (V.cmp) ?_
  refine WpA.tF 27 rfl (V.pF) ?_
  refine WpA.tF 28 rfl (V.mv) ?_
  refine WpA.pt 35 (fun hj3 => ?_) (fun hj3 => ?_)
  (try simp only [decide_eq_true_eq, decide_eq_false_iff_not, Bool.not_eq_true', Bool.not_eq_false', Bool.not_eq_true, Bool.not_eq_false, not_true_eq_false, not_false_eq_true, reduceCtorEq] at hj3)
  (exfalso; omega)
  (try simp only [decide_eq_true_eq, decide_eq_false_iff_not, Bool.not_eq_true', Bool.not_eq_false', Bool.not_eq_true, Bool.not_eq_false, not_true_eq_false, not_false_eq_true, reduceCtorEq] at hj3)
  refine WpA.tF 29 rfl (V.fa tb) ?_
  refine WpA.tF 30 rfl (V.ld1 tb) ?_
  refine WpA.tF 31 rfl (V.mv) ?_
  refine WpA.tF 32 rfl (V.nc) ?_
  refine WpA.tF 33 rfl (V.fa tb) ?_
  refine WpA.tF 34 rfl (V.ld1 tb) ?_
  refine WpA.tF 35 rfl (V.cmp) ?_
  refine WpA.tF 36 rfl (V.pF) ?_
  refine WpA.ou ?_
  apply Out.seqN
  refine Wp.c (fun hj4 => ?_) (fun hj4 => ?_)
  (try simp only [decide_eq_true_eq, decide_eq_false_iff_not, Bool.not_eq_true', Bool.not_eq_false', Bool.not_eq_true, Bool.not_eq_false, not_true_eq_false, not_false_eq_true, reduceCtorEq] at hj4)
  contradiction
  (try simp only [decide_eq_true_eq, decide_eq_false_iff_not, Bool.not_eq_true', Bool.not_eq_false', Bool.not_eq_true, Bool.not_eq_false, not_true_eq_false, not_false_eq_true, reduceCtorEq] at hj4)
  apply Wp.skip
  apply Out.seqN
  apply Wp.seq
  apply Wp.seq
  apply Wp.region
  refine WpL.v (V.fa tb) ?_
  refine WpL.v (V.ld1 tb) ?_
  refine WpL.v (V.cmp) ?_
  apply WpL.nil
  apply Out.seqN
  refine Wp.c (fun hj5 => ?_) (fun hj5 => ?_)
  (try simp only [decide_eq_true_eq, decide_eq_false_iff_not, Bool.not_eq_true', Bool.not_eq_false', Bool.not_eq_true, Bool.not_eq_false, not_true_eq_false, not_false_eq_true, reduceCtorEq] at hj5)
  (exfalso; omega)
  (try simp only [decide_eq_true_eq, decide_eq_false_iff_not, Bool.not_eq_true', Bool.not_eq_false', Bool.not_eq_true, Bool.not_eq_false, not_true_eq_false, not_false_eq_true, reduceCtorEq] at hj5)
  apply Wp.skip
  apply Out.seqN
  apply Wp.seq
  apply Wp.seq
  refine Wp.dG [] ?_ (List.Sublist.cons_cons _ (List.Sublist.cons_cons _ (List.Sublist.cons_cons _ (List.Sublist.cons_cons _ List.Sublist.slnil)))) (List.Sublist.cons_cons _ (List.Sublist.cons_cons _ (List.Sublist.cons_cons _ (List.Sublist.cons_cons _ List.Sublist.slnil))))
  refine WpA.tF 0 rfl (V.fa tb) ?_
  refine WpA.tF 1 rfl (V.ld1 tb) ?_
  refine WpA.tF 2 rfl (V.cmp) ?_
  refine WpA.tF 3 rfl (V.mv) ?_
  refine WpA.pt 58 (fun hj6 => ?_) (fun hj6 => ?_)
  (try simp only [decide_eq_true_eq, decide_eq_false_iff_not, Bool.not_eq_true', Bool.not_eq_false', Bool.not_eq_true, Bool.not_eq_false, not_true_eq_false, not_false_eq_true, reduceCtorEq] at hj6)
  refine WpA.tF 4 rfl (V.mv) ?_
  refine WpA.tF 5 rfl (V.nc) ?_
  refine WpA.tF 6 rfl (V.fa tb) ?_
  refine WpA.tF 7 rfl (V.ldA tb) ?_
  refine WpA.tF 8 rfl (V.fa tb) ?_
  refine WpA.tF 9 rfl (V.ldA tb) ?_
  refine WpA.oS 10 rfl (Op1.fn rfl (hL) ⟨?_, ?_, ?_⟩)
  exact holdT
  exact holdT
  refine WpA.tF 11 rfl (V.pT) ?_
  refine WpA.ou ?_
  apply Out.seqN
  refine Wp.cF ?_
  apply Wp.skip
  apply Out.seqN
  apply Wp.seq
  apply Wp.seq
  refine Wp.dG [] ?_ (List.Sublist.cons_cons _ (List.Sublist.cons_cons _ (List.Sublist.cons _ (List.Sublist.cons _ List.Sublist.slnil)))) (List.Sublist.cons_cons _ (List.Sublist.cons_cons _ (List.Sublist.cons _ (List.Sublist.cons _ List.Sublist.slnil))))
  refine WpA.tF 0 rfl (V.fa tb) ?_
  refine WpA.tF 1 rfl (V.ldA tb) ?_
  refine WpA.tF 2 rfl (V.mv) ?_
  refine WpA.tF 3 rfl (V.nc) ?_
  refine WpA.tF 4 rfl (V.fa tb) ?_
  refine WpA.tF 5 rfl (V.ldA tb) ?_
  refine WpA.tF 6 rfl (V.ne (TBallot.eqT _ _ _)) ?_
  refine WpA.ou ?_
  apply Out.seqN
  refine Wp.c (fun hj7 => ?_) (fun hj7 => ?_)
  (try simp only [decide_eq_true_eq, decide_eq_false_iff_not, Bool.not_eq_true', Bool.not_eq_false', Bool.not_eq_true, Bool.not_eq_false, not_true_eq_false, not_false_eq_true, reduceCtorEq] at hj7)
  contradiction
  (try simp only [decide_eq_true_eq, decide_eq_false_iff_not, Bool.not_eq_true', Bool.not_eq_false', Bool.not_eq_true, Bool.not_eq_false, not_true_eq_false, not_false_eq_true, reduceCtorEq] at hj7)
  apply Wp.skip
  apply Out.seqN
  apply Wp.seq
  apply Wp.seq
  apply Wp.region
  refine WpL.v (V.fa tb) ?_
  refine WpL.v (V.ld1 tb) ?_
  refine WpL.v (V.cmp) ?_
  refine WpL.v (V.mv) ?_
  refine WpL.pt (fun hj8 => ?_) (fun hj8 => ?_)
  (try simp only [decide_eq_true_eq, decide_eq_false_iff_not, Bool.not_eq_true', Bool.not_eq_false', Bool.not_eq_true, Bool.not_eq_false, not_true_eq_false, not_false_eq_true, reduceCtorEq] at hj8)
  (exfalso; omega)
  (try simp only [decide_eq_true_eq, decide_eq_false_iff_not, Bool.not_eq_true', Bool.not_eq_false', Bool.not_eq_true, Bool.not_eq_false, not_true_eq_false, not_false_eq_true, reduceCtorEq] at hj8)
  refine WpL.sk ?_
  refine WpL.sk ?_
  refine WpL.sk ?_
  refine WpL.sk ?_
  refine WpL.sk ?_
  refine WpL.v (V.pF) ?_
  apply WpL.nil
  apply Out.seqN
  refine Wp.cF ?_
  apply Wp.skip
  apply Out.seqN
  apply Wp.seq
  apply Wp.seq
  apply Wp.region
  refine WpL.v (V.fa tb) ?_
  refine WpL.v (V.ld1 tb) ?_
  refine WpL.v (V.cmp) ?_
  refine WpL.v (V.mv) ?_
  refine WpL.pt (fun hj9 => ?_) (fun hj9 => ?_)
  (try simp only [decide_eq_true_eq, decide_eq_false_iff_not, Bool.not_eq_true', Bool.not_eq_false', Bool.not_eq_true, Bool.not_eq_false, not_true_eq_false, not_false_eq_true, reduceCtorEq] at hj9)
  (exfalso; omega)
  (try simp only [decide_eq_true_eq, decide_eq_false_iff_not, Bool.not_eq_true', Bool.not_eq_false', Bool.not_eq_true, Bool.not_eq_false, not_true_eq_false, not_false_eq_true, reduceCtorEq] at hj9)
  refine WpL.sk ?_
  refine WpL.sk ?_
  refine WpL.sk ?_
  refine WpL.sk ?_
  refine WpL.sk ?_
  refine WpL.v (V.pF) ?_
  apply WpL.nil
  apply Out.seqN
  refine Wp.cF ?_
  apply Wp.skip
  apply Out.seqN
  apply Wp.seq
  apply Wp.region
  refine WpL.v (V.as) ?_
  apply WpL.nil
  apply Out.seqN
  apply Wp.ret
  refine Out.e1 rfl ResIs.t ?_
  focus (exact ⟨_, _, ⟨vp, vo, rfl, rfl⟩, (by (repeat (first | exact Sel.nil | exact Rem.here | apply Sel.cons | apply Rem.there)))⟩; done)
  (try simp only [decide_eq_true_eq, decide_eq_false_iff_not, Bool.not_eq_true', Bool.not_eq_false', Bool.not_eq_true, Bool.not_eq_false, not_true_eq_false, not_false_eq_true, reduceCtorEq] at hj6)
  refine WpA.s 4 rfl ?_
  refine WpA.s 5 rfl ?_
  refine WpA.s 6 rfl ?_
  refine WpA.s 7 rfl ?_
  refine WpA.s 8 rfl ?_
  refine WpA.s 9 rfl ?_
  refine WpA.s 10 rfl ?_
  refine WpA.tF 11 rfl (V.pF) ?_
  refine WpA.ou ?_
  apply Out.seqN
  refine Wp.cF ?_
  apply Wp.skip
  apply Out.seqN
  apply Wp.seq
  apply Wp.seq
  refine Wp.dG [] ?_ (List.Sublist.cons_cons _ (List.Sublist.cons_cons _ (List.Sublist.cons _ (List.Sublist.cons _ List.Sublist.slnil)))) (List.Sublist.cons_cons _ (List.Sublist.cons_cons _ (List.Sublist.cons _ (List.Sublist.cons _ List.Sublist.slnil))))
  refine WpA.tF 0 rfl (V.fa tb) ?_
  refine WpA.tF 1 rfl (V.ldA tb) ?_
  refine WpA.tF 2 rfl (V.mv) ?_
  refine WpA.tF 3 rfl (V.nc) ?_
  refine WpA.tF 4 rfl (V.fa tb) ?_
  refine WpA.tF 5 rfl (V.ldA tb) ?_
  refine WpA.tF 6 rfl (V.ne (TBallot.eqT _ _ _)) ?_
  refine WpA.ou ?_
  apply Out.seqN
  refine Wp.c (fun hj10 => ?_) (fun hj10 => ?_)
  (try simp only [decide_eq_true_eq, decide_eq_false_iff_not, Bool.not_eq_true', Bool.not_eq_false', Bool.not_eq_true, Bool.not_eq_false, not_true_eq_false, not_false_eq_true, reduceCtorEq] at hj10)
  contradiction
  (try simp only [decide_eq_true_eq, decide_eq_false_iff_not, Bool.not_eq_true', Bool.not_eq_false', Bool.not_eq_true, Bool.not_eq_false, not_true_eq_false, not_false_eq_true, reduceCtorEq] at hj10)
  apply Wp.skip
  apply Out.seqN
  apply Wp.seq
  apply Wp.seq
  apply Wp.region
  refine WpL.v (V.fa tb) ?_
  refine WpL.v (V.ld1 tb) ?_
  refine WpL.v (V.cmp) ?_
  refine WpL.v (V.mv) ?_
  refine WpL.pt (fun hj11 => ?_) (fun hj11 => ?_)
  (try simp only [decide_eq_true_eq, decide_eq_false_iff_not, Bool.not_eq_true', Bool.not_eq_false', Bool.not_eq_true, Bool.not_eq_false, not_true_eq_false, not_false_eq_true, reduceCtorEq] at hj11)
  refine WpL.v (V.mv) ?_
  refine WpL.v (V.nc) ?_
  refine WpL.v (V.fa tb) ?_
  refine WpL.v (V.ld1 tb) ?_
  refine WpL.v (V.cmp) ?_
  refine WpL.v (V.pT) ?_
  apply WpL.nil
  apply Out.seqN
  refine Wp.c (fun hj12 => ?_) (fun hj12 => ?_)
  (try simp only [decide_eq_true_eq, decide_eq_false_iff_not, Bool.not_eq_true', Bool.not_eq_false', Bool.not_eq_true, Bool.not_eq_false, not_true_eq_false, not_false_eq_true, reduceCtorEq] at hj12)
  apply Wp.seq
  apply Wp.region
  refine WpL.v (V.mv) ?_
  refine WpL.v (V.ldA tb) ?_
  rotate_left
  (try simp only [decide_eq_true_eq, decide_eq_false_iff_not, Bool.not_eq_true', Bool.not_eq_false', Bool.not_eq_true, Bool.not_eq_false, not_true_eq_false, not_false_eq_true, reduceCtorEq] at hj12)
  apply Wp.skip
  apply Out.seqN
  apply Wp.seq
  apply Wp.seq
  apply Wp.region
  refine WpL.v (V.fa tb) ?_
  refine WpL.v (V.ld1 tb) ?_
  refine WpL.v (V.cmp) ?_
  refine WpL.v (V.mv) ?_
  refine WpL.pt (fun hj13 => ?_) (fun hj13 => ?_)
  (try simp only [decide_eq_true_eq, decide_eq_false_iff_not, Bool.not_eq_true', Bool.not_eq_false', Bool.not_eq_true, Bool.not_eq_false, not_true_eq_false, not_false_eq_true, reduceCtorEq] at hj13)
  (exfalso; omega)
  (try simp only [decide_eq_true_eq, decide_eq_false_iff_not, Bool.not_eq_true', Bool.not_eq_false', Bool.not_eq_true, Bool.not_eq_false, not_true_eq_false, not_false_eq_true, reduceCtorEq] at hj13)
  refine WpL.sk ?_
  refine WpL.sk ?_
  refine WpL.sk ?_
  refine WpL.sk ?_
  refine WpL.sk ?_
  refine WpL.v (V.pF) ?_
  apply WpL.nil
  apply Out.seqN
  refine Wp.cF ?_
  apply Wp.skip
  apply Out.seqN
  apply Wp.seq
  apply Wp.region
  refine WpL.v (V.as) ?_
  apply WpL.nil
  apply Out.seqN
  apply Wp.ret
  refine Out.e1 rfl ResIs.t ?_
  focus (exact ⟨_, _, ⟨vp, vo, rfl, rfl⟩, (by (repeat (first | exact Sel.nil | exact Rem.here | apply Sel.cons | apply Rem.there)))⟩; done)
  (try simp only [decide_eq_true_eq, decide_eq_false_iff_not, Bool.not_eq_true', Bool.not_eq_false', Bool.not_eq_true, Bool.not_eq_false, not_true_eq_false, not_false_eq_true, reduceCtorEq] at hj11)
  refine WpL.sk ?_
  refine WpL.sk ?_
  refine WpL.sk ?_
  refine WpL.sk ?_
  refine WpL.sk ?_
  refine WpL.v (V.pF) ?_
  apply WpL.nil
  apply Out.seqN
  refine Wp.cF ?_
  apply Wp.skip
  apply Out.seqN
  apply Wp.seq
  apply Wp.seq
  apply Wp.region
  refine WpL.v (V.fa tb) ?_
  refine WpL.v (V.ld1 tb) ?_
  refine WpL.v (V.cmp) ?_
  refine WpL.v (V.mv) ?_
  refine WpL.pt (fun hj14 => ?_) (fun hj14 => ?_)
  (try simp only [decide_eq_true_eq, decide_eq_false_iff_not, Bool.not_eq_true', Bool.not_eq_false', Bool.not_eq_true, Bool.not_eq_false, not_true_eq_false, not_false_eq_true, reduceCtorEq] at hj14)
  refine WpL.v (V.mv) ?_
  refine WpL.v (V.nc) ?_
  refine WpL.v (V.fa tb) ?_
  refine WpL.v (V.ld1 tb) ?_
  refine WpL.v (V.cmp) ?_
  refine WpL.v (V.pT) ?_
  apply WpL.nil
  apply Out.seqN
  refine Wp.c (fun hj15 => ?_) (fun hj15 => ?_)
  (try simp only [decide_eq_true_eq, decide_eq_false_iff_not, Bool.not_eq_true', Bool.not_eq_false', Bool.not_eq_true, Bool.not_eq_false, not_true_eq_false, not_false_eq_true, reduceCtorEq] at hj15)
  apply Wp.seq
  apply Wp.seq
  apply Wp.region
  refine WpL.v (V.mv) ?_
  refine WpL.v (V.nc) ?_
  refine WpL.v (V.fa tb) ?_
  refine WpL.v (V.ld1 tb) ?_
  refine WpL.v (V.lenRows tb) ?_
  refine WpL.v (V.mv) ?_
  apply WpL.nil
  apply Out.seqN
  apply Wp.block
  rotate_left
  (try simp only [decide_eq_true_eq, decide_eq_false_iff_not, Bool.not_eq_true', Bool.not_eq_false', Bool.not_eq_true, Bool.not_eq_false, not_true_eq_false, not_false_eq_true, reduceCtorEq] at hj15)
  apply Wp.skip
  apply Out.seqN
  apply Wp.seq
  apply Wp.region
  refine WpL.v (V.as) ?_
  apply WpL.nil
  apply Out.seqN
  apply Wp.ret
  refine Out.e1 rfl ResIs.t ?_
  focus (exact ⟨_, _, ⟨vp, vo, rfl, rfl⟩, (by (repeat (first | exact Sel.nil | exact Rem.here | apply Sel.cons | apply Rem.there)))⟩; done)
  (try simp only [decide_eq_true_eq, decide_eq_false_iff_not, Bool.not_eq_true', Bool.not_eq_false', Bool.not_eq_true, Bool.not_eq_false, not_true_eq_false, not_false_eq_true, reduceCtorEq] at hj14)
  refine WpL.sk ?_
  refine WpL.sk ?_
  refine WpL.sk ?_
  refine WpL.sk ?_
  refine WpL.sk ?_
  refine WpL.v (V.pF) ?_
  apply WpL.nil
  apply Out.seqN
  refine Wp.cF ?_
  apply Wp.skip
  apply Out.seqN
  apply Wp.seq
  apply Wp.region
  refine WpL.v (V.as) ?_
  apply WpL.nil
  apply Out.seqN
  apply Wp.ret
  refine Out.e1 rfl ResIs.t ?_
  focus (exact ⟨_, _, ⟨vp, vo, rfl, rfl⟩, (by (repeat (first | exact Sel.nil | exact Rem.here | apply Sel.cons | apply Rem.there)))⟩; done)
  · exact absurd ⟨hj11, (show x.phase = 1 from hj12)⟩ h2
  · exact absurd ⟨by assumption, (show x.phase = 2 from by assumption)⟩ h4
end Go.Proofs.Ythoepbbpmdmfeaa
