/-
  Layer 10: the wheel and the document's: more laws.
-/
import Derived.Test.YthoepbbpmdmfeaaWheelL
namespace Go.Proofs.Ythoepbbpmdmfeaa
open Go.HL
set_option linter.unusedSimpArgs false
set_option linter.unusedVariables false
set_option maxRecDepth 8000
theorem delK_head (s : Sp) (l : List Sp) : delK s.key (s :: l) = l := by
  rw [delK_eq, fix_cons, if_pos rfl]; rfl
theorem WI.pop {t : Int} {s : Sp} {l : List Sp} {ks ds : List Int} (w : WI t (s :: l) ks ds) : WI t l (rdel s.key ks ds).1 (rdel s.key ks ds).2 := by
  have := (w.del s.key).1
  rwa [delK_head] at this
theorem ref_pop_step (q : Nat) (vk vd : Go.Value) (ks ds : List Int) (now : Int) (hm : ks.length ≤ 50000) {t : Int} {s : Sp} {l : List Sp} (w : WI t (s :: l) ks ds) (h : s.due ≤ now) :
    Ct Try.prog 52 [Ptr q 0, I now] (rwE q vk vd ks ds) (fun r σ' => ∃ wk wd, r = .tuple #[I s.key, B true] ∧ σ' = rwE q wk wd (rdel s.key ks ds).1 (rdel s.key ks ds).2) :=
  (ref_pop q vk vd ks ds now hm w.lens.2).mono fun r σ' hh => by
    obtain ⟨b, wk, wd, hB, ⟨rfl, _, _⟩ | ⟨i, key, rfl, hk, h1, h2⟩⟩ := hh
    · have := w.pop_none hB s rfl
      omega
    · obtain ⟨s', rest, e1, e2, e3, _⟩ := w.pop_some hB hk
      cases e1
      subst e3
      exact ⟨wk, wd, h1, h2⟩
theorem ref_pop_stop (q : Nat) (vk vd : Go.Value) (ks ds : List Int) (now : Int) (hm : ks.length ≤ 50000) {t : Int} {l : List Sp} (w : WI t l ks ds) (h : ∀ s, l.head? = some s → now < s.due) :
    Ct Try.prog 52 [Ptr q 0, I now] (rwE q vk vd ks ds) (fun r σ' => ∃ wk wd, r = .tuple #[I 0, B false] ∧ σ' = rwE q wk wd ks ds) :=
  (ref_pop q vk vd ks ds now hm w.lens.2).mono fun r σ' hh => by
    obtain ⟨b, wk, wd, hB, ⟨rfl, h1, h2⟩ | ⟨i, key, rfl, hk, _, _⟩⟩ := hh
    · exact ⟨wk, wd, h1, h2⟩
    · obtain ⟨s', rest, rfl, e2, _, _⟩ := w.pop_some hB hk
      have := h s' rfl
      omega
end Go.Proofs.Ythoepbbpmdmfeaa
