/-
  The statement SealIs of layer 6: Sum and Seal answer what the document says, of all texts, however they are cut. Proved for every input.
-/
import Derived.Test.YtgbflapcadlelaaSeal
namespace Go.Proofs.Ytgbflapcadlelaa
open Go.HL
set_option linter.unusedSimpArgs false
set_option linter.unusedVariables false
set_option maxRecDepth 8000
theorem all2 {p : Nat → Prop} {i j : Nat} (h1 : p i) (h2 : p j) : ∀ k ∈ [i, j], p k := by simpa using ⟨h1, h2⟩
theorem sealIs_walk (s : List UInt8) (cut : Int) (hs : s.length ≤ 140737488351232) : Fun Try.prog 3 [S s, I cut] (B true) := by
  have hS : Fun Try.prog 22 [S s] (.int .u32 (sumS s : Int)) := refSum s (by omega)
  have hT (g : Nat) : Ct Try.prog 21 [.slice (some ⟨g, 0, none⟩) 2 2] [row (.slice (some ⟨g, 0, none⟩) 2 2) 9 1 2 [S (s.take cut.toNat), S (s.drop cut.toNat)]]
      (fun r σ' => r = .int .u32 (sumS s : Int) ∧ σ' = [row (.slice (some ⟨g, 0, none⟩) 2 2) 9 1 2 [S (s.take cut.toNat), S (s.drop cut.toNat)]]) := by
    have := sum_two g (s.take cut.toNat) (s.drop cut.toNat) (by rw [List.length_take]; omega) (by rw [List.length_drop]; omega)
    rwa [List.take_append_drop] at this
  have hA : Fun Try.prog 23 [S s] (S (sealB s)) := seal_any s (by omega)
  have hB : Fun Try.prog 24 [S s] (S (sealB s)) := refSeal s (by omega)
  have hO (g : Nat) := sum_one g s (by omega)
  refine Ct.enter Try.func3 rfl rfl fun W => ?_
  apply Wp.seq
  apply Wp.region
  refine WpL.v (V.as) ?_
  apply WpL.nil
  apply Out.seqN
  apply Wp.seq
  apply Wp.seq
  apply Wp.region
  refine WpL.o (Op1.fn rfl (alive06) ?_)
  refine WpL.v (V.not) ?_
  apply WpL.nil
  apply Out.seqN
  refine Wp.cF ?_
  apply Wp.skip
  apply Out.seqN
  apply Wp.seq
  apply Wp.seq
  apply Wp.region
  refine WpL.v (V.mv) ?_
  refine WpL.v (V.lenS tb) ?_
  refine WpL.v (V.cmp) ?_
  refine WpL.v (V.mv) ?_
  refine WpL.pt (fun ha0 => ?_) (fun ha0 => ?_)
  (try simp only [decide_eq_true_eq, decide_eq_false_iff_not, Bool.not_eq_true', Bool.not_eq_false', Bool.not_eq_true, Bool.not_eq_false, not_true_eq_false, not_false_eq_true, reduceCtorEq] at ha0)
  refine WpL.sk ?_
  refine WpL.sk ?_
  refine WpL.v (V.pT) ?_
  refine WpL.v (V.mv) ?_
  refine WpL.sk ?_
  refine WpL.sk ?_
  refine WpL.sk ?_
  refine WpL.sk ?_
  refine WpL.v (V.pT) ?_
  apply WpL.nil
  apply Out.seqN
  refine Wp.cT ?_
  apply Wp.seq
  apply Wp.region
  refine WpL.v (V.as) ?_
  apply WpL.nil
  apply Out.seqN
  apply Wp.ret
  apply Out.seqR
  refine Out.f1 rfl ResIs.t ⟨?_, rfl⟩
  exact rfl
  (try simp only [decide_eq_true_eq, decide_eq_false_iff_not, Bool.not_eq_true', Bool.not_eq_false', Bool.not_eq_true, Bool.not_eq_false, not_true_eq_false, not_false_eq_true, reduceCtorEq] at ha0)
  refine WpL.v (V.mv) ?_
  refine WpL.v (V.cmp) ?_
  refine WpL.v (V.pF) ?_
  refine WpL.v (V.mv) ?_
  refine WpL.pt (fun ha1 => ?_) (fun ha1 => ?_)
  (try simp only [decide_eq_true_eq, decide_eq_false_iff_not, Bool.not_eq_true', Bool.not_eq_false', Bool.not_eq_true, Bool.not_eq_false, not_true_eq_false, not_false_eq_true, reduceCtorEq] at ha1)
  refine WpL.sk ?_
  refine WpL.sk ?_
  refine WpL.sk ?_
  refine WpL.sk ?_
  refine WpL.v (V.pT) ?_
  apply WpL.nil
  apply Out.seqN
  refine Wp.cT ?_
  apply Wp.seq
  apply Wp.region
  refine WpL.v (V.as) ?_
  apply WpL.nil
  apply Out.seqN
  apply Wp.ret
  apply Out.seqR
  refine Out.f1 rfl ResIs.t ⟨?_, rfl⟩
  exact rfl
  (try simp only [decide_eq_true_eq, decide_eq_false_iff_not, Bool.not_eq_true', Bool.not_eq_false', Bool.not_eq_true, Bool.not_eq_false, not_true_eq_false, not_false_eq_true, reduceCtorEq] at ha1)
  refine WpL.v (V.mv) ?_
  refine WpL.v (V.mv) ?_
  refine WpL.v (V.lenS tb) ?_
  refine WpL.v (V.cmp) ?_
  refine WpL.v (V.pF) ?_
  apply WpL.nil
  apply Out.seqN
  refine Wp.c (fun ha2 => ?_) (fun ha2 => ?_)
  (try simp only [decide_eq_true_eq, decide_eq_false_iff_not, Bool.not_eq_true', Bool.not_eq_false', Bool.not_eq_true, Bool.not_eq_false, not_true_eq_false, not_false_eq_true, reduceCtorEq] at ha2)
  apply Wp.seq
  apply Wp.region
  refine WpL.v (V.as) ?_
  apply WpL.nil
  apply Out.seqN
  apply Wp.ret
  apply Out.seqR
  refine Out.f1 rfl ResIs.t ⟨?_, rfl⟩
  exact rfl
  (try simp only [decide_eq_true_eq, decide_eq_false_iff_not, Bool.not_eq_true', Bool.not_eq_false', Bool.not_eq_true, Bool.not_eq_false, not_true_eq_false, not_false_eq_true, reduceCtorEq] at ha2)
  apply Wp.skip
  apply Out.seqN
  apply Wp.seq
  refine Wp.dG [] ?_ List.Sublist.slnil
  refine WpA.t 0 rfl (V.mv) ?_
  refine WpA.t 3 rfl (V.mv) ?_
  refine WpA.oS 1 rfl (O.lit tb (fun p21 => ⟨?_, ?_⟩))
  exact holdT
  refine WpA.oS 2 rfl (Op1.callT rfl (hO _) (by (repeat (first | exact Sel.nil | exact Rem.here | apply Sel.cons | apply Rem.there))) ?_)
  rintro v3 s4 ⟨rfl, rfl⟩
  refine incat ⟨?_, ?_⟩
  exact holdT
  refine WpA.oS 4 rfl (Op1.fn rfl (hS) ⟨?_, ?_⟩)
  exact holdT
  refine WpA.t 5 rfl (V.cmp) ?_
  refine WpA.t 6 rfl (V.mv) ?_
  refine WpA.pt 26 (fun ha5 => ?_) (fun ha5 => ?_)
  (try simp only [decide_eq_true_eq, decide_eq_false_iff_not, Bool.not_eq_true', Bool.not_eq_false', Bool.not_eq_true, Bool.not_eq_false, not_true_eq_false, not_false_eq_true, reduceCtorEq] at ha5)
  refine WpA.t 7 rfl (V.mv) ?_
  refine WpA.t 8 rfl (V.mv) ?_
  refine WpA.t 9 rfl (V.slHi tb) ?_
  refine WpA.t 10 rfl (V.mv) ?_
  refine WpA.t 11 rfl (V.mv) ?_
  refine WpA.t 12 rfl (V.slLo tb) ?_
  refine WpA.t 15 rfl (V.mv) ?_
  rotate_left
  (try simp only [decide_eq_true_eq, decide_eq_false_iff_not, Bool.not_eq_true', Bool.not_eq_false', Bool.not_eq_true, Bool.not_eq_false, not_true_eq_false, not_false_eq_true, reduceCtorEq] at ha5)
  refine WpA.each [13, 16] (by kernel_rfl) (all2 ?_ ?_)
  · refine ⟨_, rfl, rfl, O.lit tb (fun g => ?_)⟩
    refine ⟨holdT, ?_⟩
    refine WpA.each [14, 16] (by kernel_rfl) (all2 ?_ ?_)
    · refine ⟨_, rfl, rfl, Op1.callT rfl (hT g) (by (repeat (first | exact Sel.nil | exact Rem.here | apply Sel.cons | apply Rem.there))) ?_⟩
      rintro v s1 ⟨rfl, rfl⟩
      refine incat ?_
      refine ⟨holdT, ?_⟩
      refine WpA.oS 16 rfl (O.lit tb (fun p36 => ⟨?_, ?_⟩))
      exact holdT
      refine WpA.oS 17 rfl (Op1.callT rfl (hO _) (by (repeat (first | exact Sel.nil | exact Rem.here | apply Sel.cons | apply Rem.there))) ?_)
      rintro v0 s1 ⟨rfl, rfl⟩
      refine incat ⟨?_, ?_⟩
      exact holdT
      refine WpA.t 18 rfl (V.cmp) ?_
      refine WpA.t 19 rfl (V.pT) ?_
      refine WpA.t 20 rfl (V.mv) ?_
      refine WpA.pt 40 (fun hb2 => ?_) (fun hb2 => ?_)
      (try simp only [decide_eq_true_eq, decide_eq_false_iff_not, Bool.not_eq_true', Bool.not_eq_false', Bool.not_eq_true, Bool.not_eq_false, not_true_eq_false, not_false_eq_true, reduceCtorEq] at hb2)
      refine WpA.t 21 rfl (V.mv) ?_
      refine WpA.t 23 rfl (V.mv) ?_
      refine WpA.oS 22 rfl (Op1.fn rfl (hA) ⟨?_, ?_⟩)
      exact holdT
      refine WpA.oS 24 rfl (Op1.fn rfl (hB) ⟨?_, ?_⟩)
      exact holdT
      refine WpA.t 25 rfl (V.cmpS) ?_
      refine WpA.t 26 rfl (V.pT) ?_
      refine WpA.t 27 rfl (V.as) ?_
      refine WpA.ou ?_
      apply Out.seqN
      apply Wp.ret
      refine Out.f1 rfl ResIs.t ⟨?_, rfl⟩
      focus (simp; done)
      (try simp only [decide_eq_true_eq, decide_eq_false_iff_not, Bool.not_eq_true', Bool.not_eq_false', Bool.not_eq_true, Bool.not_eq_false, not_true_eq_false, not_false_eq_true, reduceCtorEq] at hb2)
    · refine ⟨_, rfl, rfl, O.lit tb (fun h => ?_)⟩
      refine ⟨holdT, ?_⟩
      refine WpA.oS 14 rfl (Op1.callT rfl (hT _) (by (repeat (first | exact Sel.nil | exact Rem.here | apply Sel.cons | apply Rem.there))) ?_)
      rintro v0 s1 ⟨rfl, rfl⟩
      refine incat ⟨?_, ?_⟩
      exact holdT
      refine WpA.oS 17 rfl (Op1.callT rfl (hO _) (by (repeat (first | exact Sel.nil | exact Rem.here | apply Sel.cons | apply Rem.there))) ?_)
      rintro v2 s3 ⟨rfl, rfl⟩
      refine incat ⟨?_, ?_⟩
      exact holdT
      refine WpA.t 18 rfl (V.cmp) ?_
      refine WpA.t 19 rfl (V.pT) ?_
      refine WpA.t 20 rfl (V.mv) ?_
      refine WpA.pt 40 (fun hc4 => ?_) (fun hc4 => ?_)
      (try simp only [decide_eq_true_eq, decide_eq_false_iff_not, Bool.not_eq_true', Bool.not_eq_false', Bool.not_eq_true, Bool.not_eq_false, not_true_eq_false, not_false_eq_true, reduceCtorEq] at hc4)
      refine WpA.t 21 rfl (V.mv) ?_
      refine WpA.t 23 rfl (V.mv) ?_
      refine WpA.oS 22 rfl (Op1.fn rfl (hA) ⟨?_, ?_⟩)
      exact holdT
      refine WpA.oS 24 rfl (Op1.fn rfl (hB) ⟨?_, ?_⟩)
      exact holdT
      refine WpA.t 25 rfl (V.cmpS) ?_
      refine WpA.t 26 rfl (V.pT) ?_
      refine WpA.t 27 rfl (V.as) ?_
      refine WpA.ou ?_
      apply Out.seqN
      apply Wp.ret
      refine Out.f1 rfl ResIs.t ⟨?_, rfl⟩
      focus (simp; done)
      (try simp only [decide_eq_true_eq, decide_eq_false_iff_not, Bool.not_eq_true', Bool.not_eq_false', Bool.not_eq_true, Bool.not_eq_false, not_true_eq_false, not_false_eq_true, reduceCtorEq] at hc4)
  · refine ⟨_, rfl, rfl, O.lit tb (fun h => ?_)⟩
    refine ⟨holdT, ?_⟩
    refine WpA.oS 13 rfl (O.lit tb (fun p33 => ⟨?_, ?_⟩))
    exact holdT
    refine WpA.oS 14 rfl (Op1.callT rfl (hT _) (by (repeat (first | exact Sel.nil | exact Rem.here | apply Sel.cons | apply Rem.there))) ?_)
    rintro v0 s1 ⟨rfl, rfl⟩
    refine incat ⟨?_, ?_⟩
    exact holdT
    refine WpA.oS 17 rfl (Op1.callT rfl (hO _) (by (repeat (first | exact Sel.nil | exact Rem.here | apply Sel.cons | apply Rem.there))) ?_)
    rintro v2 s3 ⟨rfl, rfl⟩
    refine incat ⟨?_, ?_⟩
    exact holdT
    refine WpA.t 18 rfl (V.cmp) ?_
    refine WpA.t 19 rfl (V.pT) ?_
    refine WpA.t 20 rfl (V.mv) ?_
    refine WpA.pt 40 (fun hd4 => ?_) (fun hd4 => ?_)
    (try simp only [decide_eq_true_eq, decide_eq_false_iff_not, Bool.not_eq_true', Bool.not_eq_false', Bool.not_eq_true, Bool.not_eq_false, not_true_eq_false, not_false_eq_true, reduceCtorEq] at hd4)
    refine WpA.t 21 rfl (V.mv) ?_
    refine WpA.t 23 rfl (V.mv) ?_
    refine WpA.oS 22 rfl (Op1.fn rfl (hA) ⟨?_, ?_⟩)
    exact holdT
    refine WpA.oS 24 rfl (Op1.fn rfl (hB) ⟨?_, ?_⟩)
    exact holdT
    refine WpA.t 25 rfl (V.cmpS) ?_
    refine WpA.t 26 rfl (V.pT) ?_
    refine WpA.t 27 rfl (V.as) ?_
    refine WpA.ou ?_
    apply Out.seqN
    apply Wp.ret
    refine Out.f1 rfl ResIs.t ⟨?_, rfl⟩
    focus (simp; done)
    (try simp only [decide_eq_true_eq, decide_eq_false_iff_not, Bool.not_eq_true', Bool.not_eq_false', Bool.not_eq_true, Bool.not_eq_false, not_true_eq_false, not_false_eq_true, reduceCtorEq] at hd4)
open Go Go.ChangeShapes Go.WideShapes Go.ChangeAt Go.RowKit
theorem sealIs_read : (Try.f3.params.toList.all fun t => Try.prog.readableRec t && decide (t < Try.prog.types.size)) = true := by kernel_rfl
theorem sealIs_lifted (os : Go.Os) (started : os.Started) (H : Type) (enc : Go.TypeId × Go.Value → H) :
    ReturnsInHanded {} Try.checked os 3 .any (Rows.sealIsSpec.pre6 enc Try.prog Try.f3 Rows.sealIsRow.domain false) (Rows.sealIsSpec.post enc Try.prog Try.f3 false true false false) := by
  refine returnsInHanded_of_change_sized (C := Try.checked) own started (by kernel_rfl) Try.func3
    (ChangeSpec.witness6 (enc := enc) (C := Try.checked) false ⟨#[], #[S [], I 0], []⟩ 8 (by kernel_rfl) (by kernel_rfl) (by kernel_rfl) (by kernel_rfl)) ?_
  intro W base args ds gs before hval0 hW hcnd hsz0 _
  have hsz : (DataW.weightsEach Try.prog (Try.f3.params.toList ++ Rows.sealIsSpec.plain.varTypes Try.prog) (ds ++ gs)).all (· ≤ reachBytes) = true := hsz0
  have hval : ∀ (j : Nat) t v, Try.f3.params[j]? = some t → args[j]? = some v → Value.okWide Try.prog W .any base t v := hval0
  have hW' := hW
  obtain ⟨p, q, hA0, hV, rfl, hfz, hnd⟩ := hW
  have hA1 : DataW.TrodAll enc Try.prog W 0 (fun _ => true) true Try.f3.params.toList args.toList ds p := hA0
  have hA := hA1
  rw [Try.params3] at hA hval hsz
  obtain ⟨v0, vs0, d0, ds0, p0, q0, hargs, rfl, rfl, h0, r0⟩ := trodAll_cons hA
  obtain ⟨v1, vs1, d1, ds1, p1, q1, rfl, rfl, rfl, h1, r1⟩ := trodAll_cons r0
  obtain ⟨rfl, rfl, rfl⟩ := trodAll_nil r1
  obtain rfl : args = #[v0, v1] := by cases args; simp_all
  obtain ⟨rfl, rfl⟩ := trodVars_none hV
  obtain ⟨x0, rfl, w0⟩ := open_str (P := Try.prog) Try.underlying9 h0 (string_cells (hval 0 9 v0 rfl rfl) Try.underlying9) (sizedAll hsz 0 rfl rfl)
  obtain ⟨x1, rfl, rfl, rfl, w1⟩ := open_int Try.underlying3 (hval 1 3 v1 rfl rfl) h1
  simp only [List.append_nil] at hW' hA1
  refine (Fun.run (sealIs_walk x0 x1 w0) W).mono fun e W' hh => ?_
  obtain ⟨rfl, hS⟩ := hh
  exact ⟨_, rfl, post_law (P := Try.prog) (f := Try.f3) (tbool := 4) hW' hA1 rfl rfl hS laid sealIs_read rfl Try.underlying4⟩
theorem sealIs_over : Rows.sealIsRow.holds Try.pinned (OpenSpec.ofChange Rows.sealIsSpec) :=
  OpenClaim.holds_of_wide 3 Try.f3 rfl rfl rfl rfl rfl rfl rfl ⟨rfl, rfl, rfl, rfl, rfl⟩ rfl rfl rfl rfl rfl (by kernel_rfl) Try.func3 (by kernel_rfl)
    (of_decide_eq_true (by kernel_rfl)) (by unfold Func.isWrapper; first | (rw [if_pos (by decide +kernel)]; kernel_rfl) | (rw [if_neg (by decide +kernel)]; exact ⟨rfl, rfl⟩))
    (fun os started H enc _ => sealIs_lifted os started H enc)
/-- THE STATEMENT. -/
theorem sealIs_proved : Rows.SealIsSaid := sealIs_over
#print axioms sealIs_proved

end Go.Proofs.Ytgbflapcadlelaa
