/-
  Layer 21: a session's first number: the law of the machine.
-/
import Derived.Test.YtgihkocnmgkihaaCap
namespace Go.Proofs.Ytgihkocnmgkihaa
open Go.HL
set_option linter.unusedSimpArgs false
set_option linter.unusedVariables false
def bareD (d : TDeed) : TDeed := ⟨d.Kind, d.Key, d.Value, d.Version, 0, 0⟩
theorem good_bare {d : TDeed} (h : goodD d = true) : goodD (bareD d) = true := by
  have ho : okD d := of_decide_eq_true h
  refine decide_eq_true ?_
  unfold okD at ho ⊢
  unfold bareD
  dsimp only
  obtain ⟨⟨a, b, _, _, _, _, _, c, e⟩, f⟩ := ho
  refine ⟨⟨a, b, by decide, by decide, by decide, by decide, ⟨fun _ => rfl, fun _ => rfl⟩, c, e⟩, ?_⟩
  rcases f with f | f | f | f | f
  · exact .inl ⟨f.1, f.2.1, f.2.2.1, f.2.2.2.1, rfl⟩
  · exact .inr (.inl f)
  · exact .inr (.inr (.inl f))
  · exact .inr (.inr (.inr (.inl f)))
  · exact .inr (.inr (.inr (.inr f)))
theorem doA_bare (l : PM) (d : TDeed) : doA l (bareD d) = doA l d := rfl
theorem none_do {s : CS} {x : TDeed} {k : Int} (h : x.Session ≠ k) (hn : mget s.ss k = none) : mget (doC s x).2.ss k = none := by
  cases hg : goodD x with
  | false => rw [doC_bad hg]; exact hn
  | true =>
    cases ha : acts s x with
    | false => rw [doC_rest hg ha]; exact hn
    | true =>
      rw [doC_act hg ha]
      show mget (updC s.ss x _) k = none
      unfold updC
      by_cases h0 : x.Session = 0
      · rw [if_pos h0]; exact hn
      · rw [if_neg h0, mget_mput, if_neg (fun e => h e.symm)]; exact hn
/-- A session's first number is done, and told, as if no session did it. -/
theorem fresh_law {n : Nat} {s : CS} (hi : CI n s) (d : TDeed) (hg : goodD d = true) (hn : d.Session ≠ 0 → mget s.ss d.Session = none) :
    (doC s d).1 = (doC s (bareD d)).1 ∧ (doC s d).2.cnt = (doC s (bareD d)).2.cnt ∧ (doC s d).2.l = (doC s (bareD d)).2.l ∧ ((doC s d).2.get d.Session).1 = d.Number := by
  have hnum := good_num hg
  have ha : acts s d = true := by
    refine decide_eq_true ?_
    by_cases h0 : d.Session = 0
    · exact .inl h0
    · refine .inr ?_
      unfold CS.get
      rw [hn h0]
      show 0 < d.Number
      omega
  have hb : acts s (bareD d) = true := decide_eq_true (.inl rfl)
  rw [doC_act hg ha, doC_act (good_bare hg) hb, doA_bare]
  refine ⟨rfl, rfl, rfl, ?_⟩
  show (CS.get ⟨_, updC s.ss d _, _⟩ d.Session).1 = d.Number
  unfold CS.get updC
  dsimp only
  by_cases h0 : d.Session = 0
  · rw [if_pos h0, h0]
    cases hm : mget s.ss 0 with
    | none => show (0 : Int) = _; omega
    | some x => have := hi.ses 0 x hm; omega
  · rw [if_neg h0, mget_mput, if_pos rfl]; rfl
end Go.Proofs.Ytgihkocnmgkihaa
