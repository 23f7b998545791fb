/-
  Laws for the walk of the document's Choose.
-/
import Derived.Test.YthoepbbpmdmfeaaRef
namespace Go.Proofs.Ythoepbbpmdmfeaa
open Go.HL
set_option linter.unusedSimpArgs false
set_option linter.unusedVariables false
set_option maxRecDepth 8000
theorem joins2 (a b : TDeps) : joins [joins [a, a], b] = joins [a, b] := by
  simp only [joins, List.foldl_cons, List.foldl_nil, mx, TDeps.mk.injEq]
  refine ⟨?_, ?_, ?_, ?_, ?_, ?_, ?_⟩ <;> (simp only [TDeps.z]; omega)
theorem mrg_eq (c d : TCall) : mrg c d = { c with Deps := joins [c.Deps, d.Deps], Seq := Max.max c.Seq d.Seq } := by
  simp only [mrg, merges, List.foldl_cons, List.foldl_nil, merge1, joins2]
theorem best_none {st : Int} {xs : List TMsg} (h : hi st xs = none) : BestIs st xs (-1) := by
  have := hi_spec st xs
  rw [h] at this
  exact .inl ⟨rfl, fun i m ⟨h1, h2, _⟩ => this m (List.mem_of_getElem? h1) h2⟩
theorem best_some {st : Int} {xs : List TMsg} {a : TMsg} (h : hi st xs = some a) : ∃ i : Nat, BestIs st xs (i : Int) ∧ xs[i]? = some a ∧ i < xs.length := by
  have := hi_spec st xs
  rw [h] at this
  obtain ⟨i, hi⟩ := this
  exact ⟨i, .inr ⟨i, a, rfl, hi⟩, hi.1, (List.getElem?_eq_some_iff.1 hi.1).1⟩
/-- What the document's loop keeps. -/
structure Cnt (x : TItem) (xs : List TMsg) (there : Bool) (count first : Int) : Prop where
  there : there = xs.any (fun m => decide (m.From = x.Rep))
  count : count = ((xs.filter (sameP x)).length : Int)
  first : (xs.filter (sameP x) = [] ∧ first = -1) ∨ ∃ (k : Nat) (m : TMsg) (t : List TMsg), xs.filter (sameP x) = m :: t ∧ first = (k : Int) ∧ xs[k]? = some m
theorem Cnt.nil (x : TItem) : Cnt x [] false 0 (-1) := ⟨rfl, rfl, .inl ⟨rfl, rfl⟩⟩
theorem Cnt.no {x : TItem} {xs : List TMsg} {th : Bool} {c f : Int} (h : Cnt x xs th c f) {m : TMsg} (hp : sameP x m = false) : Cnt x (xs ++ [m]) (th || decide (m.From = x.Rep)) c f := by
  have e : (xs ++ [m]).filter (sameP x) = xs.filter (sameP x) := by rw [List.filter_append]; simp [hp]
  refine ⟨by rw [List.any_append, h.there]; simp, by rw [e]; exact h.count, ?_⟩
  rw [e]
  rcases h.first with h1 | ⟨k, m', t, h1, h2, h3⟩
  · exact .inl h1
  · exact .inr ⟨k, m', t, h1, h2, by rw [List.getElem?_append_left (List.getElem?_eq_some_iff.1 h3).1]; exact h3⟩
theorem Cnt.yes {x : TItem} {xs : List TMsg} {th : Bool} {c f : Int} (h : Cnt x xs th c f) {m : TMsg} (hp : sameP x m = true) : Cnt x (xs ++ [m]) (th || decide (m.From = x.Rep)) (c + 1) (if f < 0 then (xs.length : Int) else f) := by
  have e : (xs ++ [m]).filter (sameP x) = xs.filter (sameP x) ++ [m] := by rw [List.filter_append]; simp [hp]
  refine ⟨by rw [List.any_append, h.there]; simp, by rw [e, h.count]; simp, ?_⟩
  rw [e]
  rcases h.first with ⟨h1, h2⟩ | ⟨k, m', t, h1, h2, h3⟩
  · rw [h1, h2]
    exact .inr ⟨xs.length, m, [], rfl, by simp, by simp⟩
  · rw [h1, h2]
    exact .inr ⟨k, m', t ++ [m], rfl, by rw [if_neg (by omega)], by rw [List.getElem?_append_left (List.getElem?_eq_some_iff.1 h3).1]; exact h3⟩
theorem sameP_def (x : TItem) (m : TMsg) : sameP x m = (decide (m.Status = 1) && (m.Same && (decide (m.Vote.Round = 0) && decide (m.Vote.Rep = x.Rep)))) := by
  unfold sameP
  congr 2
  rw [← Bool.decide_and, decide_eq_decide, bEq_iff]
theorem choose_rest {n : Int} {x : TItem} {xs : List TMsg} (hlen : ¬ (xs.length : Int) < faults n + 1) (hc3 : hi 3 xs = none) (hac : accd xs = none) (h : xs.any (fun m => decide (m.From = x.Rep)) = true ∨ ((xs.filter (sameP x)).length : Int) < faults n) :
    choose n x xs = (match hi 1 xs with | none => (2, TCall.z) | some a => (3, asks a.Call xs)) := by
  unfold choose
  rw [if_neg hlen, hc3]
  simp only [hac]
  by_cases h1 : xs.any (fun m => decide (m.From = x.Rep)) = true
  · have e : sameL x xs = [] := by unfold sameL; rw [if_pos h1]
    rw [e]
    cases hi 1 xs <;> rfl
  · have e : sameL x xs = xs.filter (sameP x) := by unfold sameL; rw [if_neg h1]
    rw [e]
    have h2 := h.resolve_left h1
    cases hq : xs.filter (sameP x) with
    | nil => rfl
    | cons m t =>
      rw [hq] at h2
      simp only [List.length_cons] at h2
      simp only
      rw [if_neg (by omega)]
      cases hi 1 xs <;> rfl
end Go.Proofs.Ythoepbbpmdmfeaa
