/-
  Layer 14: the order in which votes come doesn't matter.
-/
import Derived.Test.YthoepbbpmdmfeaaLead7
namespace Go.Proofs.Ythoepbbpmdmfeaa
open Go.HL
set_option linter.unusedSimpArgs false
set_option linter.unusedVariables false
set_option maxRecDepth 8000
theorem vAt_ne {α : Type} {l : List α} {h : List Bool} {r k : Nat} (m : α) (hk : k ≠ r) : vAt (l.set r m) (h.set r true) k = vAt l h k := by
  have e1 : (l.set r m)[k]? = l[k]? := by rw [List.getElem?_set, if_neg (fun e => hk e.symm)]
  have e2 : (h.set r true)[k]? = h[k]? := by rw [List.getElem?_set, if_neg (fun e => hk e.symm)]
  unfold vAt List.getD
  rw [e1, e2]
theorem vUpto_put {α : Type} {l : List α} {h : List Bool} {r : Nat} {m : α} (hl : r < l.length) (hh : h[r]? = some false) : ∀ k : Nat,
    (k ≤ r → vUpto (l.set r m) (h.set r true) k = vUpto l h k) ∧ (r < k → (vUpto (l.set r m) (h.set r true) k).Perm ((r, m) :: vUpto l h k))
  | 0 => ⟨fun _ => rfl, fun h => absurd h (by omega)⟩
  | k + 1 => by
    obtain ⟨h1, h2⟩ := vUpto_put (m := m) hl hh k
    have hhl := (List.getElem?_eq_some_iff.1 hh).1
    refine ⟨fun hk => ?_, fun hk => ?_⟩
    · rw [vUpto_succ, vUpto_succ, h1 (by omega), vAt_ne m (by omega)]
    · by_cases hkr : k = r
      · subst hkr
        have e1 : vAt (l.set k m) (h.set k true) k = some (k, m) := by
          unfold vAt
          rw [List.getD, List.getElem?_set, if_pos rfl, if_pos hhl, if_pos (by rfl), List.getElem?_set, if_pos rfl, if_pos hl]; rfl
        have e2 : vAt l h k = none := by
          unfold vAt
          rw [List.getD, hh, if_neg (by simp)]
        rw [vUpto_succ, vUpto_succ, h1 (Nat.le_refl _), e1, e2]
        simp only [Option.toList_some, Option.toList_none, List.append_nil]
        exact (List.perm_append_comm (l₁ := vUpto l h k) (l₂ := [(k, m)]))
      · rw [vUpto_succ, vUpto_succ, vAt_ne m hkr]
        exact (h2 (by omega)).append_right _
theorem vAll_put {α : Type} {l : List α} {h : List Bool} {r : Nat} {m : α} (hr : r < 7) (hl : l.length = 7) (hh : h[r]? = some false) : (vAll (l.set r m) (h.set r true)).Perm ((r, m) :: vAll l h) :=
  (vUpto_put (by omega) hh 7).2 hr
theorem joins_rc (a x y : TDeps) : joins [joins [a, x], y] = joins [joins [a, y], x] := by
  simp only [joins, List.foldl_cons, List.foldl_nil, mx, TDeps.mk.injEq]
  refine ⟨?_, ?_, ?_, ?_, ?_, ?_, ?_⟩ <;> (simp only [TDeps.z]; omega)
theorem mrg_rc (c x y : TCall) : mrg (mrg c x) y = mrg (mrg c y) x := by
  simp only [mrg_eq, TCall.mk.injEq, joins_rc c.Deps x.Deps y.Deps, true_and]
  omega
theorem foldl_perm {α β : Type} {f : β → α → β} (hf : ∀ b x y, f (f b x) y = f (f b y) x) {l l' : List α} (hp : l.Perm l') : ∀ b, l.foldl f b = l'.foldl f b := by
  induction hp with
  | nil => intro b; rfl
  | cons x _ ih => intro b; exact ih _
  | swap x y l => intro b; simp only [List.foldl_cons, hf]
  | trans _ _ ih1 ih2 => intro b; exact (ih1 b).trans (ih2 b)
theorem slow_call {x : LeadS} {ms : List TMsg} (hp : ((vAll x.pl x.ph).map (·.2)).Perm ms) : x.slow.call = ms.foldl (fun c m => mrg c m.Call) x.call := by
  show (vAll x.pl x.ph).foldl (fun c p => mrg c p.2.Call) x.call = _
  rw [← foldl_perm (fun b x y => mrg_rc b x.Call y.Call) hp, List.foldl_map]
theorem same_perm {x : LeadS} {ms : List TMsg} (hp : ((vAll x.pl x.ph).map (·.2)).Perm ms) : sameN (vAll x.pl x.ph) = (ms.filter (·.Same)).length := by
  rw [← (hp.filter _).length_eq, List.filter_map, List.length_map]
  rfl
theorem can_get {x : LeadS} (w : x.wf) {rep : Int} (hc : x.can rep = true) : rep.toNat < 7 ∧ x.ph[rep.toNat]? = some false := by
  obtain ⟨h1, h2, h3⟩ := LeadS.can_iff.1 hc
  have hk : rep.toNat < 7 := by omega
  refine ⟨hk, ?_⟩
  cases hh : x.ph[rep.toNat]? with
  | none => simp [List.getD, hh] at h3
  | some v => simp [List.getD, hh] at h3; rw [h3]
theorem put_perm {x : LeadS} (w : x.wf) {rep : Int} (hc : x.can rep = true) (m : TMsg) {ms : List TMsg} (hp : ((vAll x.pl x.ph).map (·.2)).Perm ms) : ((vAll (x.put rep m).pl (x.put rep m).ph).map (·.2)).Perm (ms ++ [m]) := by
  obtain ⟨h1, h2⟩ := can_get w hc
  have h := (vAll_put (m := m) h1 w.pl h2).map (·.2)
  refine h.trans ?_
  rw [List.map_cons]
  exact (hp.cons m).trans (List.perm_append_comm (l₁ := [m]) (l₂ := ms))
end Go.Proofs.Ythoepbbpmdmfeaa
