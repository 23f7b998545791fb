/-
  Layer 3: rows behind some calls.
-/
import Derived.Test.YtgbflapcadlelaaItem4
namespace Go.Proofs.Ytgbflapcadlelaa
open Go.HL
set_option linter.unusedSimpArgs false
set_option linter.unusedVariables false
set_option maxRecDepth 8000
/-- Rows behind some calls. -/
def IP.run (n : Int) (xs : List Caucuslaw03Call) : IP := xs.foldl (fun p c => p.set c.Item c.N) (IP.new n)
theorem IP.run_snoc (n : Int) (xs : List Caucuslaw03Call) (x : Caucuslaw03Call) : IP.run n (xs ++ [x]) = (IP.run n xs).set x.Item x.N := by simp [IP.run]
theorem IP.run_ok (n : Int) (xs : List Caucuslaw03Call) : (IP.run n xs).ok := by
  unfold IP.run
  generalize h : IP.new n = p
  have hp : p.ok := h ▸ IP.new_ok n
  clear h
  induction xs generalizing p with
  | nil => exact hp
  | cons x xs ih => exact ih _ (IP.set_ok hp _ _)
theorem IP.row_le (p : IP) (k m : Nat) : (p.row k m).length ≤ m := by
  have := List.length_filterMap_le (fun j : Nat => (p.at ⟨(k : Int), (j : Int) + 1⟩).map fun t => ((⟨(k : Int), (j : Int) + 1⟩ : TItem), t)) (List.range m)
  simpa [IP.row] using this
end Go.Proofs.Ytgbflapcadlelaa
