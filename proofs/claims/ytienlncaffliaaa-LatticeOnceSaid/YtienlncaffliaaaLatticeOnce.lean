/-
  The statement LatticeOnce of layer 13: what was voted at a ballot stays, when the same is asked for again. Proved for every input.
-/
import Derived.Test.YtienlncaffliaaaLat
namespace Go.Proofs.Ytienlncaffliaaa
open Go Go.HL Go.ChangeShapes Go.WideShapes Go.ChangeAt Go.RowKit
set_option linter.unusedVariables false
theorem latticeOnce_read : (Try.f9.params.toList.all fun t => Try.prog.readableRec t && decide (t < Try.prog.types.size)) = true := by kernel_rfl
theorem latticeOnce_lifted (os : Go.Os) (started : os.Started) (H : Type) (enc : Go.TypeId × Go.Value → H) :
    ReturnsInHanded {} Try.checked os 9 .any (Rows.latticeOnceSpec.pre6 enc Try.prog Try.f9 Rows.latticeOnceRow.domain false) (Rows.latticeOnceSpec.post enc Try.prog Try.f9 false true false false) := by
  refine returnsInHanded_of_change (C := Try.checked) own started (by kernel_rfl) Try.func9
    (ChangeSpec.witness6 (enc := enc) (C := Try.checked) false ⟨#[], #[A TInst.z.c, A Caucuslaw13Step.z.c, A TCall.z.c], []⟩ 8 (by kernel_rfl) (by kernel_rfl) (by kernel_rfl) (by kernel_rfl)) ?_
  intro W base args ds gs before hval0 hW hcnd _
  have hval : ∀ (j : Nat) t v, Try.f9.params[j]? = some t → args[j]? = some v → Value.okWide Try.prog W .any base t v := hval0
  have hW' := hW
  obtain ⟨p, q, hA0, hV, rfl, hfz, hnd⟩ := hW
  have hA1 : DataW.TrodAll enc Try.prog W 0 (fun _ => true) true Try.f9.params.toList args.toList ds p := hA0
  have hA := hA1
  rw [Try.params9] at hA hval
  obtain ⟨v0, vs0, d0, ds0, p0, q0, hargs, rfl, rfl, h0, r0⟩ := trodAll_cons hA
  obtain ⟨v1, vs1, d1, ds1, p1, q1, rfl, rfl, rfl, h1, r1⟩ := trodAll_cons r0
  obtain ⟨v2, vs2, d2, ds2, p2, q2, rfl, rfl, rfl, h2, r2⟩ := trodAll_cons r1
  obtain ⟨rfl, rfl, rfl⟩ := trodAll_nil r2
  obtain rfl : args = #[v0, v1, v2] := by cases args; simp_all
  obtain ⟨rfl, rfl⟩ := trodVars_none hV
  obtain ⟨c0, rfl, f0⟩ := open_plain TInst.leaves ⟨_, Try.underlying45⟩ (hval 0 45 v0 rfl rfl) h0
  obtain ⟨x0, rfl, w0⟩ := TInst.fit f0
  obtain ⟨c1, rfl, f1⟩ := open_plain Caucuslaw13Step.leaves ⟨_, Try.underlying56⟩ (hval 1 56 v1 rfl rfl) h1
  obtain ⟨x1, rfl, w1⟩ := Caucuslaw13Step.fit f1
  obtain ⟨c2, rfl, f2⟩ := open_plain TCall.leaves ⟨_, Try.underlying43⟩ (hval 2 43 v2 rfl rfl) h2
  obtain ⟨x2, rfl, w2⟩ := TCall.fit f2
  simp only [List.append_nil] at hW' hA1
  refine (Fun.run (latticeOnce_walk x0 x1 x2) W).mono fun e W' hh => ?_
  obtain ⟨rfl, hS⟩ := hh
  exact ⟨_, rfl, post_law (P := Try.prog) (f := Try.f9) (tbool := 4) hW' hA1 rfl rfl hS laid latticeOnce_read rfl Try.underlying4⟩
theorem latticeOnce_over : Rows.latticeOnceRow.holds Try.pinned (OpenSpec.ofChange Rows.latticeOnceSpec) :=
  OpenClaim.holds_of_wide 9 Try.f9 rfl rfl rfl rfl rfl rfl rfl ⟨rfl, rfl, rfl, rfl, rfl⟩ rfl rfl rfl rfl rfl (by kernel_rfl) Try.func9 (by kernel_rfl)
    (of_decide_eq_true (by kernel_rfl)) (by unfold Func.isWrapper; first | (rw [if_pos (by decide +kernel)]; kernel_rfl) | (rw [if_neg (by decide +kernel)]; exact ⟨rfl, rfl⟩))
    (fun os started H enc _ => latticeOnce_lifted os started H enc)
/-- THE STATEMENT. -/
theorem latticeOnce_proved : Rows.LatticeOnceSaid := latticeOnce_over
#print axioms latticeOnce_proved
end Go.Proofs.Ytienlncaffliaaa
