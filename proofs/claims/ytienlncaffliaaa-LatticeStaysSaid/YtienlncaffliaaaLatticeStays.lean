/-
  The statement LatticeStays of layer 13: what is refused changes nothing but what is promised. Proved for every input.
-/
import Derived.Test.YtienlncaffliaaaLat
namespace Go.Proofs.Ytienlncaffliaaa
open Go Go.HL Go.ChangeShapes Go.WideShapes Go.ChangeAt Go.RowKit
set_option linter.unusedVariables false
theorem latticeStays_read : (Try.f10.params.toList.all fun t => Try.prog.readableRec t && decide (t < Try.prog.types.size)) = true := by kernel_rfl
theorem latticeStays_lifted (os : Go.Os) (started : os.Started) (H : Type) (enc : Go.TypeId × Go.Value → H) :
    ReturnsInHanded {} Try.checked os 10 .any (Rows.latticeStaysSpec.pre6 enc Try.prog Try.f10 Rows.latticeStaysRow.domain false) (Rows.latticeStaysSpec.post enc Try.prog Try.f10 false true false false) := by
  refine returnsInHanded_of_change (C := Try.checked) own started (by kernel_rfl) Try.func10
    (ChangeSpec.witness6 (enc := enc) (C := Try.checked) false ⟨#[], #[A TInst.z.c, A Caucuslaw13Step.z.c], []⟩ 8 (by kernel_rfl) (by kernel_rfl) (by kernel_rfl) (by kernel_rfl)) ?_
  intro W base args ds gs before hval0 hW hcnd _
  have hval : ∀ (j : Nat) t v, Try.f10.params[j]? = some t → args[j]? = some v → Value.okWide Try.prog W .any base t v := hval0
  have hW' := hW
  obtain ⟨p, q, hA0, hV, rfl, hfz, hnd⟩ := hW
  have hA1 : DataW.TrodAll enc Try.prog W 0 (fun _ => true) true Try.f10.params.toList args.toList ds p := hA0
  have hA := hA1
  rw [Try.params10] at hA hval
  obtain ⟨v0, vs0, d0, ds0, p0, q0, hargs, rfl, rfl, h0, r0⟩ := trodAll_cons hA
  obtain ⟨v1, vs1, d1, ds1, p1, q1, rfl, rfl, rfl, h1, r1⟩ := trodAll_cons r0
  obtain ⟨rfl, rfl, rfl⟩ := trodAll_nil r1
  obtain rfl : args = #[v0, v1] := by cases args; simp_all
  obtain ⟨rfl, rfl⟩ := trodVars_none hV
  obtain ⟨c0, rfl, f0⟩ := open_plain TInst.leaves ⟨_, Try.underlying45⟩ (hval 0 45 v0 rfl rfl) h0
  obtain ⟨x0, rfl, w0⟩ := TInst.fit f0
  obtain ⟨c1, rfl, f1⟩ := open_plain Caucuslaw13Step.leaves ⟨_, Try.underlying56⟩ (hval 1 56 v1 rfl rfl) h1
  obtain ⟨x1, rfl, w1⟩ := Caucuslaw13Step.fit f1
  simp only [List.append_nil] at hW' hA1
  refine (Fun.run (latticeStays_walk x0 x1) W).mono fun e W' hh => ?_
  obtain ⟨rfl, hS⟩ := hh
  exact ⟨_, rfl, post_law (P := Try.prog) (f := Try.f10) (tbool := 4) hW' hA1 rfl rfl hS laid latticeStays_read rfl Try.underlying4⟩
theorem latticeStays_over : Rows.latticeStaysRow.holds Try.pinned (OpenSpec.ofChange Rows.latticeStaysSpec) :=
  OpenClaim.holds_of_wide 10 Try.f10 rfl rfl rfl rfl rfl rfl rfl ⟨rfl, rfl, rfl, rfl, rfl⟩ rfl rfl rfl rfl rfl (by kernel_rfl) Try.func10 (by kernel_rfl)
    (of_decide_eq_true (by kernel_rfl)) (by unfold Func.isWrapper; first | (rw [if_pos (by decide +kernel)]; kernel_rfl) | (rw [if_neg (by decide +kernel)]; exact ⟨rfl, rfl⟩))
    (fun os started H enc _ => latticeStays_lifted os started H enc)
/-- THE STATEMENT. -/
theorem latticeStays_proved : Rows.LatticeStaysSaid := latticeStays_over
#print axioms latticeStays_proved
end Go.Proofs.Ytienlncaffliaaa
