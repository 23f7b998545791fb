/-
  The statement LatticeFollows of layer 13: Follows answers what the document says. Proved for every input.
-/
import Derived.Test.YtienlncaffliaaaLat
namespace Go.Proofs.Ytienlncaffliaaa
open Go Go.HL Go.ChangeShapes Go.WideShapes Go.ChangeAt Go.RowKit
set_option linter.unusedVariables false
theorem latticeFollows_read : (Try.f12.params.toList.all fun t => Try.prog.readableRec t && decide (t < Try.prog.types.size)) = true := by kernel_rfl
theorem latticeFollows_lifted (os : Go.Os) (started : os.Started) (H : Type) (enc : Go.TypeId × Go.Value → H) :
    ReturnsInHanded {} Try.checked os 12 .any (Rows.latticeFollowsSpec.pre6 enc Try.prog Try.f12 Rows.latticeFollowsRow.domain false) (Rows.latticeFollowsSpec.post enc Try.prog Try.f12 false true false false) := by
  refine returnsInHanded_of_change (C := Try.checked) own started (by kernel_rfl) Try.func12
    (ChangeSpec.witness6 (enc := enc) (C := Try.checked) false ⟨#[], #[A TInst.z.c, A TInst.z.c], []⟩ 8 (by kernel_rfl) (by kernel_rfl) (by kernel_rfl) (by kernel_rfl)) ?_
  intro W base args ds gs before hval0 hW hcnd _
  have hval : ∀ (j : Nat) t v, Try.f12.params[j]? = some t → args[j]? = some v → Value.okWide Try.prog W .any base t v := hval0
  have hW' := hW
  obtain ⟨p, q, hA0, hV, rfl, hfz, hnd⟩ := hW
  have hA1 : DataW.TrodAll enc Try.prog W 0 (fun _ => true) true Try.f12.params.toList args.toList ds p := hA0
  have hA := hA1
  rw [Try.params12] at hA hval
  obtain ⟨v0, vs0, d0, ds0, p0, q0, hargs, rfl, rfl, h0, r0⟩ := trodAll_cons hA
  obtain ⟨v1, vs1, d1, ds1, p1, q1, rfl, rfl, rfl, h1, r1⟩ := trodAll_cons r0
  obtain ⟨rfl, rfl, rfl⟩ := trodAll_nil r1
  obtain rfl : args = #[v0, v1] := by cases args; simp_all
  obtain ⟨rfl, rfl⟩ := trodVars_none hV
  obtain ⟨c0, rfl, f0⟩ := open_plain TInst.leaves ⟨_, Try.underlying45⟩ (hval 0 45 v0 rfl rfl) h0
  obtain ⟨x0, rfl, w0⟩ := TInst.fit f0
  obtain ⟨c1, rfl, f1⟩ := open_plain TInst.leaves ⟨_, Try.underlying45⟩ (hval 1 45 v1 rfl rfl) h1
  obtain ⟨x1, rfl, w1⟩ := TInst.fit f1
  simp only [List.append_nil] at hW' hA1
  refine (Fun.run (latticeFollows_walk x0 x1) W).mono fun e W' hh => ?_
  obtain ⟨rfl, hS⟩ := hh
  exact ⟨_, rfl, post_law (P := Try.prog) (f := Try.f12) (tbool := 4) hW' hA1 rfl rfl hS laid latticeFollows_read rfl Try.underlying4⟩
theorem latticeFollows_over : Rows.latticeFollowsRow.holds Try.pinned (OpenSpec.ofChange Rows.latticeFollowsSpec) :=
  OpenClaim.holds_of_wide 12 Try.f12 rfl rfl rfl rfl rfl rfl rfl ⟨rfl, rfl, rfl, rfl, rfl⟩ rfl rfl rfl rfl rfl (by kernel_rfl) Try.func12 (by kernel_rfl)
    (of_decide_eq_true (by kernel_rfl)) (by unfold Func.isWrapper; first | (rw [if_pos (by decide +kernel)]; kernel_rfl) | (rw [if_neg (by decide +kernel)]; exact ⟨rfl, rfl⟩))
    (fun os started H enc _ => latticeFollows_lifted os started H enc)
/-- THE STATEMENT. -/
theorem latticeFollows_proved : Rows.LatticeFollowsSaid := latticeFollows_over
#print axioms latticeFollows_proved
end Go.Proofs.Ytienlncaffliaaa
