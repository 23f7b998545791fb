/-
  The statement RescueChooses of layer 16: Choose answers what the document says. Proved for every input.
-/
import Derived.Test.YthoepbbpmdmfeaaHead
import Derived.Test.YthoepbbpmdmfeaaRef2
namespace Go.Proofs.Ythoepbbpmdmfeaa
open Go.HL
set_option linter.unusedSimpArgs false
set_option linter.unusedVariables false
set_option maxRecDepth 8000
theorem rescueChooses_walk (e : Ent) (ao : Option Go.Addr) (cap b off : Nat) (n : Int) (x : TItem) (xs : List TMsg) (hR : Rd e ao xs.length b off 25 (xs.map TMsg.c)) :
    Ct Try.prog 3 [I n, A x.c, .slice ao xs.length cap] [e] (fun r σ' => r = B true ∧ σ' = [e]) := by
  have hm := hR.small
  simp only [Go.maxLen] at hm
  by_cases hs : (n = 3 ∨ n = 5 ∨ n = 7) ∧ xs.length ≤ 20
  · have hS : Fun Try.prog 24 [I n] (B true) := by
      have h := r16_size n
      rwa [show (decide (n = 3) || (decide (n = 5) || decide (n = 7))) = true by simp; exact hs.1] at h
    have hC := rescue_choose e ao cap b off n x xs (by omega) (by omega) hR
    have hD := ref_choose e ao cap b off n x xs (by omega) (by omega) hR
    refine Ct.enter Try.func3 rfl rfl fun W => ?_
    apply Wp.seq
    apply Wp.region
    refine WpL.o (O.bxA (fun p4 => ?_))
    refine WpL.v (V.as) ?_
    apply WpL.nil
    apply Out.seqN
    apply Wp.seq
    apply Wp.seq
    apply Wp.region
    refine WpL.o (Op1.fn rfl (alive16) ?_)
    refine WpL.v (V.not) ?_
    apply WpL.nil
    apply Out.seqN
    refine Wp.cF ?_
    apply Wp.skip
    apply Out.seqN
    apply Wp.seq
    apply Wp.seq
    apply Wp.region
    refine WpL.v (V.mv) ?_
    refine WpL.o (Op1.fn rfl (hS) ?_)
    refine WpL.v (V.not) ?_
    refine WpL.v (V.mv) ?_
    refine WpL.v (V.mv) ?_
    refine WpL.v (V.lenL tb) ?_
    refine WpL.v (V.cmp) ?_
    refine WpL.v (V.pF) ?_
    apply WpL.nil
    apply Out.seqN
    refine Wp.c (fun ha0 => ?_) (fun ha0 => ?_)
    (try simp only [decide_eq_true_eq, decide_eq_false_iff_not, Bool.not_eq_true', Bool.not_eq_false', Bool.not_eq_true, Bool.not_eq_false, not_true_eq_false, not_false_eq_true, reduceCtorEq] at ha0)
    (exfalso; omega)
    (try simp only [decide_eq_true_eq, decide_eq_false_iff_not, Bool.not_eq_true', Bool.not_eq_false', Bool.not_eq_true, Bool.not_eq_false, not_true_eq_false, not_false_eq_true, reduceCtorEq] at ha0)
    apply Wp.skip
    apply Out.seqN
    apply Wp.seq
    apply Wp.region
    refine WpL.v (V.mv) ?_
    refine WpL.v (V.ldA tb) ?_
    refine WpL.v (V.mv) ?_
    refine WpL.o (Op1.callT rfl (hC) (by (repeat (first | exact Sel.nil | exact Rem.here | apply Sel.cons | apply Rem.there))) ?_)
    rintro v1 s2 ⟨rfl, rfl⟩
    refine incat ?_
    refine WpL.v (V.mv) ?_
    refine WpL.v (V.ex) ?_
    refine WpL.v (V.ex) ?_
    refine WpL.o (O.al tb (fun p8 => ?_))
    refine WpL.v (V.as) ?_
    refine WpL.o (O.stA tb ?_)
    apply WpL.nil
    apply Out.seqN
    apply Wp.seq
    apply Wp.region
    refine WpL.v (V.mv) ?_
    refine WpL.v (V.ldA tb) ?_
    refine WpL.v (V.mv) ?_
    refine WpL.o (Op1.callT rfl (hD) (by (repeat (first | exact Sel.nil | exact Rem.here | apply Sel.cons | apply Rem.there))) ?_)
    rintro v3 s4 ⟨rfl, rfl⟩
    refine incat ?_
    refine WpL.v (V.mv) ?_
    refine WpL.v (V.ex) ?_
    refine WpL.v (V.ex) ?_
    refine WpL.o (O.al tb (fun p10 => ?_))
    refine WpL.v (V.as) ?_
    refine WpL.o (O.stA tb ?_)
    apply WpL.nil
    apply Out.seqN
    apply Wp.seq
    apply Wp.region
    refine WpL.v (V.mv) ?_
    refine WpL.v (V.mv) ?_
    refine WpL.v (V.cmp) ?_
    refine WpL.v (V.mv) ?_
    refine WpL.pt (fun ha5 => ?_) (fun ha5 => ?_)
    (try simp only [decide_eq_true_eq, decide_eq_false_iff_not, Bool.not_eq_true', Bool.not_eq_false', Bool.not_eq_true, Bool.not_eq_false, not_true_eq_false, not_false_eq_true, reduceCtorEq] at ha5)
    refine WpL.v (V.ldA tb) ?_
    refine WpL.v (V.ldA tb) ?_
    refine WpL.v (V.eq (TCall.eqT _ _ _)) ?_
    refine WpL.v (V.pT) ?_
    refine WpL.v (V.as) ?_
    apply WpL.nil
    apply Out.seqN
    apply Wp.ret
    refine Out.f1 rfl ResIs.t ⟨?_, rfl⟩
    focus ((simp); done)
    (try simp only [decide_eq_true_eq, decide_eq_false_iff_not, Bool.not_eq_true', Bool.not_eq_false', Bool.not_eq_true, Bool.not_eq_false, not_true_eq_false, not_false_eq_true, reduceCtorEq] at ha5)
  · by_cases hn : n = 3 ∨ n = 5 ∨ n = 7
    · have hS : Fun Try.prog 24 [I n] (B true) := by
        have h := r16_size n
        rwa [show (decide (n = 3) || (decide (n = 5) || decide (n = 7))) = true by simp; exact hn] at h
      refine Ct.enter Try.func3 rfl rfl fun W => ?_
      apply Wp.seq
      apply Wp.region
      refine WpL.o (O.bxA (fun p4 => ?_))
      refine WpL.v (V.as) ?_
      apply WpL.nil
      apply Out.seqN
      apply Wp.seq
      apply Wp.seq
      apply Wp.region
      refine WpL.o (Op1.fn rfl (alive16) ?_)
      refine WpL.v (V.not) ?_
      apply WpL.nil
      apply Out.seqN
      refine Wp.cF ?_
      apply Wp.skip
      apply Out.seqN
      apply Wp.seq
      apply Wp.seq
      apply Wp.region
      refine WpL.v (V.mv) ?_
      refine WpL.o (Op1.fn rfl (hS) ?_)
      refine WpL.v (V.not) ?_
      refine WpL.v (V.mv) ?_
      refine WpL.v (V.mv) ?_
      refine WpL.v (V.lenL tb) ?_
      refine WpL.v (V.cmp) ?_
      refine WpL.v (V.pF) ?_
      apply WpL.nil
      apply Out.seqN
      refine Wp.c (fun hb0 => ?_) (fun hb0 => ?_)
      (try simp only [decide_eq_true_eq, decide_eq_false_iff_not, Bool.not_eq_true', Bool.not_eq_false', Bool.not_eq_true, Bool.not_eq_false, not_true_eq_false, not_false_eq_true, reduceCtorEq] at hb0)
      apply Wp.seq
      apply Wp.region
      refine WpL.v (V.as) ?_
      apply WpL.nil
      apply Out.seqN
      apply Wp.ret
      apply Out.seqR
      refine Out.f1 rfl ResIs.t ⟨?_, rfl⟩
      exact rfl
      (try simp only [decide_eq_true_eq, decide_eq_false_iff_not, Bool.not_eq_true', Bool.not_eq_false', Bool.not_eq_true, Bool.not_eq_false, not_true_eq_false, not_false_eq_true, reduceCtorEq] at hb0)
      (exfalso; omega)
    · have hS : Fun Try.prog 24 [I n] (B false) := by
        have h := r16_size n
        rwa [show (decide (n = 3) || (decide (n = 5) || decide (n = 7))) = false by simp; omega] at h
      refine Ct.enter Try.func3 rfl rfl fun W => ?_
      apply Wp.seq
      apply Wp.region
      refine WpL.o (O.bxA (fun p4 => ?_))
      refine WpL.v (V.as) ?_
      apply WpL.nil
      apply Out.seqN
      apply Wp.seq
      apply Wp.seq
      apply Wp.region
      refine WpL.o (Op1.fn rfl (alive16) ?_)
      refine WpL.v (V.not) ?_
      apply WpL.nil
      apply Out.seqN
      refine Wp.cF ?_
      apply Wp.skip
      apply Out.seqN
      apply Wp.seq
      apply Wp.seq
      apply Wp.region
      refine WpL.v (V.mv) ?_
      refine WpL.o (Op1.fn rfl (hS) ?_)
      refine WpL.v (V.not) ?_
      refine WpL.v (V.mv) ?_
      refine WpL.sk ?_
      refine WpL.sk ?_
      refine WpL.sk ?_
      refine WpL.v (V.pT) ?_
      apply WpL.nil
      apply Out.seqN
      refine Wp.cT ?_
      apply Wp.seq
      apply Wp.region
      refine WpL.v (V.as) ?_
      apply WpL.nil
      apply Out.seqN
      apply Wp.ret
      apply Out.seqR
      refine Out.f1 rfl ResIs.t ⟨?_, rfl⟩
      exact rfl
open Go Go.ChangeShapes Go.WideShapes Go.ChangeAt Go.RowKit
theorem rescueChooses_read : (Try.f3.params.toList.all fun t => Try.prog.readableRec t && decide (t < Try.prog.types.size)) = true := by kernel_rfl
theorem rescueChooses_lifted (os : Go.Os) (started : os.Started) (H : Type) (enc : Go.TypeId × Go.Value → H) :
    ReturnsInHanded {} Try.checked os 3 .any (Rows.rescueChoosesSpec.pre6 enc Try.prog Try.f3 Rows.rescueChoosesRow.domain false) (Rows.rescueChoosesSpec.post enc Try.prog Try.f3 false true false false) := by
  refine returnsInHanded_of_change_sized (C := Try.checked) own started (by kernel_rfl) Try.func3
    (ChangeSpec.witness6 (enc := enc) (C := Try.checked) false ⟨#[], #[I 0, A TItem.z.c, .slice none 0 0], []⟩ 8 (by kernel_rfl) (by kernel_rfl) (by kernel_rfl) (by kernel_rfl)) ?_
  intro W base args ds gs before hval0 hW hcnd hsz0 _
  have hsz : (DataW.weightsEach Try.prog (Try.f3.params.toList ++ Rows.rescueChoosesSpec.plain.varTypes Try.prog) (ds ++ gs)).all (· ≤ reachBytes) = true := hsz0
  have hval : ∀ (j : Nat) t v, Try.f3.params[j]? = some t → args[j]? = some v → Value.okWide Try.prog W .any base t v := hval0
  have hW' := hW
  obtain ⟨p, q, hA0, hV, rfl, hfz, hnd⟩ := hW
  have hA1 : DataW.TrodAll enc Try.prog W 0 (fun _ => true) true Try.f3.params.toList args.toList ds p := hA0
  have hA := hA1
  rw [Try.params3] at hA hval hsz
  obtain ⟨v0, vs0, d0, ds0, p0, q0, hargs, rfl, rfl, h0, r0⟩ := trodAll_cons hA
  obtain ⟨v1, vs1, d1, ds1, p1, q1, rfl, rfl, rfl, h1, r1⟩ := trodAll_cons r0
  obtain ⟨v2, vs2, d2, ds2, p2, q2, rfl, rfl, rfl, h2, r2⟩ := trodAll_cons r1
  obtain ⟨rfl, rfl, rfl⟩ := trodAll_nil r2
  obtain rfl : args = #[v0, v1, v2] := by cases args; simp_all
  obtain ⟨rfl, rfl⟩ := trodVars_none hV
  obtain ⟨x0, rfl, rfl, rfl, w0⟩ := open_int Try.underlying3 (hval 0 3 v0 rfl rfl) h0
  obtain ⟨c1, rfl, f1⟩ := open_plain TItem.leaves ⟨_, Try.underlying23⟩ (hval 1 23 v1 rfl rfl) h1 (sizedAll hsz 1 rfl rfl)
  obtain ⟨x1, rfl, w1⟩ := TItem.fit f1
  obtain ⟨ao2, b2, off2, len2, cap2, xs2, rfl, hl2, hlc2, hcm2, ha2, hs2, hf2, hby2⟩ := open_slice_plain Try.underlying24 TMsg.leaves (by kernel_rfl) (by decide) (hval 2 24 v2 rfl rfl) h2 (sizedAll hsz 2 rfl rfl)
  obtain ⟨x2, rfl, w2⟩ := fits_map TMsg.c TMsg.wf hf2 TMsg.fit
  obtain rfl : len2 = x2.length := by simpa using hl2.symm
  simp only [List.append_nil] at hW' hA1
  have hbl : ∀ p : Nat × Nat, p ∈ [(x2.length, b2)] → 0 < p.1 → p.2 < W.heap.size := by
    intro p hp h0
    simp only [List.mem_cons, List.mem_nil_iff, or_false] at hp
    rcases hp with rfl
    · exact (ha2 h0).2
  have hR2 : Rd (snap W (blocksOf [(x2.length, b2)])) ao2 x2.length b2 off2 25 (x2.map TMsg.c) := Rd.snap (by simp) (Nat.le_trans hlc2 hcm2) ha2 hs2 (fun h => blocksOf_mem (len := x2.length) (by simp) h)
  refine (Ct.runSnap (blocksOf_nodup _) (blocksOf_lt hbl) (rescueChooses_walk _ _ _ _ _ x0 x1 x2 hR2)).mono fun e W' hh => ?_
  obtain ⟨rfl, hS⟩ := hh
  exact ⟨_, rfl, post_law (P := Try.prog) (f := Try.f3) (tbool := 4) hW' hA1 rfl rfl hS laid rescueChooses_read rfl Try.underlying4⟩
theorem rescueChooses_joined : joinedFacts Try.prog 3 Try.f3 Rows.rescueChoosesSpec Rows.rescueChoosesRow = true := by
  unfold joinedFacts
  rewrite [head_enter, head_lift, head_make]
  kernel_rfl
theorem rescueChooses_over : Rows.rescueChoosesRow.holds Try.pinned (OpenSpec.ofChange Rows.rescueChoosesSpec) :=
  OpenClaim.holds_of_wide 3 Try.f3 rfl rfl rfl rfl rfl rfl rfl ⟨rfl, rfl, rfl, rfl, rfl⟩ rfl rfl rfl rfl rfl (by kernel_rfl) Try.func3 rescueChooses_joined
    (of_decide_eq_true (by kernel_rfl)) (by unfold Func.isWrapper; first | (rw [if_pos (by decide +kernel)]; kernel_rfl) | (rw [if_neg (by decide +kernel)]; exact ⟨rfl, rfl⟩))
    (fun os started H enc _ => rescueChooses_lifted os started H enc)
/-- THE STATEMENT. -/
theorem rescueChooses_proved : Rows.RescueChoosesSaid := rescueChooses_over
#print axioms rescueChooses_proved

end Go.Proofs.Ythoepbbpmdmfeaa
