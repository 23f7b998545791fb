/-
  Layer 1: what was put is got again; the program's and the document's numbers are one.
-/
import Derived.Test.YtienlncaffliaaaOct2
namespace Go.Proofs.Ytienlncaffliaaa
open Go.HL
set_option linter.unusedSimpArgs false
set_option linter.unusedVariables false
set_option maxRecDepth 8000
theorem natG_lt : ∀ (l : List UInt8) (i acc v : Nat) (rest : List UInt8), natG l i acc = some (v, rest) → rest.length < l.length
  | [], _, _, _, _, h => by simp [natG] at h
  | x :: xs, i, acc, v, rest, h => by
    simp only [natG] at h
    split at h
    · cases h
    · split at h
      · split at h
        · cases h
        · simp only [Option.some.injEq, Prod.mk.injEq] at h
          rw [← h.2]; simp
      · have := natG_lt xs _ _ _ _ h
        simp; omega
theorem natG_natB (n : Nat) : ∀ (i acc : Nat) (rest : List UInt8), n < 128 ^ (9 - i) → (n ≠ 0 ∨ i = 0) → natG (natB n ++ rest) i acc = some (acc + n * 128 ^ i, rest) := by
  induction n using Nat.strongRecOn with
  | _ n ih =>
    intro i acc rest hn h0
    have hi : i ≤ 8 := by
      rcases Nat.lt_or_ge 8 i with h | h
      · rw [show 9 - i = 0 by omega] at hn
        simp at hn; omega
      · exact h
    by_cases hl : n < 128
    · rw [natB_lo hl]
      have e : (UInt8.ofNat n).toNat = n := by simp; omega
      simp only [List.cons_append, List.nil_append, natG, e]
      rw [if_neg (by omega), if_pos hl, if_neg (by omega), Nat.mod_eq_of_lt hl]
    · rw [natB_hi hl]
      have e : (UInt8.ofNat (128 + n % 128)).toNat = 128 + n % 128 := by simp; omega
      simp only [List.cons_append, natG, e]
      have hi7 : i ≤ 7 := by
        rcases Nat.lt_or_ge 7 i with h | h
        · rw [show 9 - i = 1 by omega] at hn; omega
        · exact h
      rw [if_neg (by omega), if_neg (by omega), ih (n / 128) (by omega) (i + 1) _ rest (by
        have e2 : 9 - i = (9 - (i + 1)) + 1 := by omega
        rw [e2, Nat.pow_succ] at hn
        exact Nat.div_lt_of_lt_mul (by omega)) (.inl (by omega))]
      congr 2
      rw [show (128 + n % 128) % 128 = n % 128 by omega, Nat.pow_succ, Nat.add_assoc, Nat.mul_comm (128 ^ i) 128, ← Nat.mul_assoc, ← Nat.add_mul]
      congr 2
      omega
/-- What was put is got, if it isn't too great. -/
theorem natS_natI {n : Int} (hn : n ≤ 9223372036854775807) (rest : List UInt8) (most : Int) : natS ⟨natI n ++ rest, false⟩ most = if most < (n.toNat : Int) then (0, ⟨[], true⟩) else ((n.toNat : Int), ⟨rest, false⟩) := by
  unfold natS natT natI
  rw [natG_natB n.toNat 0 0 rest (by omega) (.inr rfl)]
  simp
theorem natS_taken (b : List UInt8) (most : Int) : (natS ⟨b, false⟩ most).1 = (takenR b most).1 ∧ (natS ⟨b, false⟩ most).2.dry = decide ((takenR b most).2 = 0) := by
  unfold natS natT takenR
  cases h : natG b 0 0 with
  | none => simp
  | some p =>
    obtain ⟨v, rest⟩ := p
    have := natG_lt _ _ _ _ _ h
    simp only [Bool.false_eq_true, if_false]
    split
    · simp
    · refine ⟨rfl, ?_⟩
      simp
      omega
end Go.Proofs.Ytienlncaffliaaa
