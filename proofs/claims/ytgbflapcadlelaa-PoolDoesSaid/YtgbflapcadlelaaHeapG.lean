/-
  A seventh part of the heap logic: arrays put together; what a row reads as.
-/
import Derived.Test.YtgbflapcadlelaaHeapF
namespace Go.HL
open Go
section
variable {P : Program} {r : Option Nat} {W : World} {D : List Nat} {n : Fm} {env : Env} {σ σ' : List Ent} {α : Type} {f : α → List Value}
variable {dst : Nat} {ty : TypeId} {pos : String} {af : Array Edge} {gd : Option (Nat × Bool)} {C : Env → List Ent → Prop}
/-- An array put together from all its parts. -/
theorem V.bldArr (tb : Tabs P) {T E m sz : Nat} {parts : List (Nat × Operand)} {vs : List (Nat × Value)} {cs zc : List Value} (hx : HL.pevs env parts = some vs) (hp : PartsFrom sz 0 vs cs)
    (hA : lkA tb.arr T = some (m, E) := by exact rfl) (hs : lk1 tb.szs E = some sz := by exact rfl) (hz : lkZ tb.zeros T = some zc := by exact rfl) (hzl : zc.length = vs.length * sz := by exact rfl) :
    Val P n env σ ⟨some dst, .build T parts.toArray, ty, pos, af, gd⟩ (A cs) := Val.of fun a w hF _ => by
  obtain ⟨z, h1, h2⟩ := tb.zeroAt hz
  obtain ⟨i, hi, hz'⟩ := Option.bind_eq_some_iff.1 h1
  have hzv : (zeroValue T).run P w = .ok z w := by simp [zeroValue, typeInfo, hi, hz']
  have e : (parts.toArray.map fun (p : Nat × Operand) => (p.1, a.eval p.2)) = vs.toArray := by rw [← hF.pevs hx]; simp
  have e' : (parts.toArray.map fun (x : Nat × Operand) => match x with | (i, x) => (i, a.eval x)) = vs.toArray := e
  have hzs : z.cells.size = (0 + vs.length) * sz := by rw [Nat.zero_add, ← hzl, ← h2, Array.length_toList]
  have hfill := hp.fill z.cells hzs
  have hb : (Instr.build T vs.toArray).run P w = .ok (A cs) w := by
    unfold Instr.build
    simp only [Sem.run_bind, hzv, run_underlying (tb.arrAt hA), Result.andThen_ok, run_sizeOf (tb.szAt hs), hfill, Nat.zero_mul, List.take_zero, List.nil_append, Sem.run_pure]
  simp only [execOp, Sem.run_bind, e', hb, Result.andThen_ok, Sem.run_pure]
end
end Go.HL
