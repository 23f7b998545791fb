/-
  Layer 10: the wheel and the document's: laws.
-/
import Derived.Test.YthoepbbpmdmfeaaItW5
namespace Go.Proofs.Ythoepbbpmdmfeaa
open Go.HL
set_option linter.unusedSimpArgs false
set_option linter.unusedVariables false
set_option maxRecDepth 8000

theorem Ifix_cons (key : TItem) (a   : WheelSpokeOfItem) (l : List WheelSpokeOfItem) : Ifix key (a :: l) = if a.key = key then some 0 else (Ifix key l).map (· + 1) := by
  unfold Ifix; rw [List.findIdx?_cons]; by_cases h : a.key = key <;> simp [h]
def Iout (key : TItem) (l : List WheelSpokeOfItem) : List WheelSpokeOfItem := l.filter fun s => decide (s.key ≠ key)
theorem Idel_out (key : TItem) : ∀ l : List WheelSpokeOfItem, (l.map (·.key)).Nodup → (match Ifix key l with | some i => l.eraseIdx i | none => l) = Iout key l
  | [], _ => rfl
  | a :: l, h => by
    rw [List.map_cons, List.nodup_cons] at h
    have ih := Idel_out key l h.2
    rw [Ifix_cons]
    by_cases hk : a.key = key
    · rw [if_pos hk]
      unfold Iout
      rw [List.filter_cons, if_neg (by simp [hk]), List.filter_eq_self.2 fun s hs => ?_]
      · rfl
      · have : s.key ≠ key := fun e => h.1 (List.mem_map.2 ⟨s, hs, by rw [e, hk]⟩)
        simpa using this
    · rw [if_neg hk]
      unfold Iout at ih ⊢
      rw [List.filter_cons, if_pos (by simpa using hk), ← ih]
      cases Ifix key l with
      | none => rfl
      | some i => rfl
theorem IdelK_out {key : TItem} {l : List WheelSpokeOfItem} (h : (l.map (·.key)).Nodup) : IdelK key l = Iout key l := by rw [IdelK_eq]; exact Idel_out key l h
theorem IinsS_perm (s   : WheelSpokeOfItem) (l : List WheelSpokeOfItem) : (IinsS s l).Perm (s :: l) := by
  unfold IinsS
  refine List.perm_middle.trans ?_
  rw [List.takeWhile_append_dropWhile]
theorem IinsS_sorted {s   : WheelSpokeOfItem} : ∀ {l : List WheelSpokeOfItem}, l.Pairwise (fun a b => Isp_lt a b = true) → (∀ a ∈ l, a.turn ≠ s.turn) → (IinsS s l).Pairwise (fun a b => Isp_lt a b = true)
  | [], _, _ => by simp [IinsS]
  | a :: l, h, hn => by
    rw [List.pairwise_cons] at h
    have ih := IinsS_sorted (s := s) h.2 (fun x hx => hn x (List.mem_cons_of_mem _ hx))
    cases hl : Isp_lt a s with
    | true =>
      have e : IinsS s (a :: l) = a :: IinsS s l := by simp [IinsS, hl]
      rw [e, List.pairwise_cons]
      refine ⟨fun x hx => ?_, ih⟩
      rcases List.mem_cons.1 ((IinsS_perm s l).mem_iff.1 hx) with rfl | hx
      · exact hl
      · exact h.1 x hx
    | false =>
      have e : IinsS s (a :: l) = s :: a :: l := by simp [IinsS, hl]
      have hsa : Isp_lt s a = true := by
        have h1 : ¬ Isp_lt a s = true := by rw [hl]; simp
        rw [Isp_lt_iff] at h1 ⊢
        have := hn a (List.mem_cons_self ..)
        omega
      rw [e, List.pairwise_cons, List.pairwise_cons]
      refine ⟨fun x hx => ?_, h.1, h.2⟩
      rcases List.mem_cons.1 hx with rfl | hx
      · exact hsa
      · exact Isp_lt_trans hsa (h.1 x hx)
/-- The wheel alone. -/
structure IW1 (t : Int) (l : List WheelSpokeOfItem) : Prop where
  t0 : 0 ≤ t
  sorted : l.Pairwise (fun a b => Isp_lt a b = true)
  nod : (l.map (·.key)).Nodup
  tl : ∀ s ∈ l, s.turn < t
theorem IW1.zero : IW1 0 [] := ⟨Int.le_refl _, List.Pairwise.nil, List.nodup_nil, by simp⟩
theorem Iout_sub (key : TItem) (l : List WheelSpokeOfItem) : (Iout key l).Sublist l := List.filter_sublist
theorem Iout_mem {key : TItem} {l : List WheelSpokeOfItem} {s   : WheelSpokeOfItem} : s ∈ Iout key l ↔ s ∈ l ∧ s.key ≠ key := by unfold Iout; simp
theorem IW1.del {t : Int} {l : List WheelSpokeOfItem} (w : IW1 t l) (key : TItem) : IW1 t (IdelK key l) := by
  rw [IdelK_out w.nod]
  exact ⟨w.t0, w.sorted.sublist (Iout_sub key l), w.nod.sublist (List.Sublist.map _ (Iout_sub key l)), fun s hs => w.tl s ((Iout_sub key l).subset hs)⟩
theorem IW1.set {t : Int} {l : List WheelSpokeOfItem} (w : IW1 t l) (key : TItem) (due : Int) : IW1 (t + 1) (IinsS ⟨key, due, t⟩ (IdelK key l)) := by
  have w2 := w.del key
  refine ⟨by have := w.t0; omega, IinsS_sorted w2.sorted (fun a ha => by have := w2.tl a ha; show a.turn ≠ t; omega), ?_, fun s hs => ?_⟩
  · have hp := (IinsS_perm ⟨key, due, t⟩ (IdelK key l)).map (·.key)
    rw [hp.nodup_iff, List.map_cons, List.nodup_cons]
    refine ⟨fun hc => ?_, w2.nod⟩
    obtain ⟨s, hs, hk⟩ := List.mem_map.1 hc
    rw [IdelK_out w.nod] at hs
    exact (Iout_mem.1 hs).2 hk
  · rcases List.mem_cons.1 ((IinsS_perm _ _).mem_iff.1 hs) with rfl | hs
    · show t < t + 1; omega
    · have := w2.tl s hs; omega
theorem IW1.tail {t : Int} {s   : WheelSpokeOfItem} {l : List WheelSpokeOfItem} (w : IW1 t (s :: l)) : IW1 t l := ⟨w.t0, (List.pairwise_cons.1 w.sorted).2, (List.nodup_cons.1 w.nod).2, fun x hx => w.tl x (List.mem_cons_of_mem _ hx)⟩
theorem Iset_len {t : Int} {l : List WheelSpokeOfItem} (key : TItem) (due : Int) : (IinsS ⟨key, due, t⟩ (IdelK key l)).length ≤ l.length + 1 := by
  rw [(IinsS_perm _ _).length_eq, List.length_cons]
  have := (IdropN_le [key] (0, l)).2
  have h2 : (IdelK key l).length ≤ l.length := this
  omega
theorem IdueL_cons (key : TItem) (a   : WheelSpokeOfItem) (l : List WheelSpokeOfItem) : IdueL key (a :: l) = if a.key = key then (a.due, true) else IdueL key l := by
  unfold IdueL
  rw [Ifix_cons]
  by_cases h : a.key = key
  · simp [h]
  · rw [if_neg h, if_neg h]
    cases Ifix key l <;> simp
theorem IdueL_no {key : TItem} : ∀ {l : List WheelSpokeOfItem}, (∀ s ∈ l, s.key ≠ key) → IdueL key l = (0, false)
  | [], _ => rfl
  | a :: l, h => by rw [IdueL_cons, if_neg (h a (List.mem_cons_self ..)), IdueL_no fun s hs => h s (List.mem_cons_of_mem _ hs)]
theorem IdueL_mem {x   : WheelSpokeOfItem} : ∀ {l : List WheelSpokeOfItem}, (l.map (·.key)).Nodup → x ∈ l → IdueL x.key l = (x.due, true)
  | [], _, h => by cases h
  | a :: l, hn, h => by
    rw [List.map_cons, List.nodup_cons] at hn
    rw [IdueL_cons]
    rcases List.mem_cons.1 h with rfl | h
    · rw [if_pos rfl]
    · rw [if_neg, IdueL_mem hn.2 h]
      exact fun e => hn.1 (List.mem_map.2 ⟨x, h, e.symm⟩)
theorem Iset_mem (t : Int) (key : TItem) (due : Int) (l : List WheelSpokeOfItem) : (⟨key, due, t⟩   : WheelSpokeOfItem) ∈ IinsS ⟨key, due, t⟩ (IdelK key l) := (IinsS_perm _ _).mem_iff.2 (List.mem_cons_self ..)
theorem Iset_alen (t : Int) (key : TItem) (due : Int) (l : List WheelSpokeOfItem) : (IinsS ⟨key, due, t⟩ (IdelK key l)).length + (if (IdueL key l).2 = true then 1 else 0) = l.length + 1 := by
  rw [(IinsS_perm _ _).length_eq, List.length_cons, IdelK_eq]
  unfold IdueL
  cases hx : Ifix key l with
  | none => simp
  | some i =>
    obtain ⟨x, h1, _⟩ := Ifix_some hx
    have hl := (List.getElem?_eq_some_iff.1 h1).1
    simp only [List.length_eraseIdx, if_pos hl, if_true]
    omega
/-- The one thing set again: still to come (n = 0), or gone (n = 1). -/
def IAI (key : TItem) (due t : Int) (n : Nat) (l : List WheelSpokeOfItem) : Prop := IW1 t l ∧ ((n = 0 ∧ ∃ s ∈ l, s.key = key ∧ s.due = due) ∨ (n = 1 ∧ ∀ s ∈ l, s.key ≠ key))
theorem IAI.hit {key : TItem} {due t : Int} {n : Nat} {s   : WheelSpokeOfItem} {l : List WheelSpokeOfItem} (h : IAI key due t n (s :: l)) (hk : s.key = key) : n = 0 ∧ IAI key due t 1 l := by
  obtain ⟨w, h | h⟩ := h
  · refine ⟨h.1, w.tail, .inr ⟨rfl, fun x hx e => ?_⟩⟩
    exact (List.nodup_cons.1 w.nod).1 (List.mem_map.2 ⟨x, hx, e.trans hk.symm⟩)
  · exact absurd hk (h.2 s (List.mem_cons_self ..))
theorem IAI.miss {key : TItem} {due t : Int} {n : Nat} {s   : WheelSpokeOfItem} {l : List WheelSpokeOfItem} (h : IAI key due t n (s :: l)) (hk : s.key ≠ key) : IAI key due t n l := by
  obtain ⟨w, h | h⟩ := h
  · obtain ⟨h0, x, hx, h1, h2⟩ := h
    refine ⟨w.tail, .inl ⟨h0, x, ?_, h1, h2⟩⟩
    rcases List.mem_cons.1 hx with rfl | hx
    · exact absurd h1 hk
    · exact hx
  · exact ⟨w.tail, .inr ⟨h.1, fun x hx => h.2 x (List.mem_cons_of_mem _ hx)⟩⟩
theorem IW1.head_le {t : Int} {l : List WheelSpokeOfItem} (w : IW1 t l) {x   : WheelSpokeOfItem} (hx : x ∈ l) : ∃ s, l.head? = some s ∧ s.due ≤ x.due := by
  cases l with
  | nil => cases hx
  | cons s l =>
    refine ⟨s, rfl, ?_⟩
    rcases List.mem_cons.1 hx with rfl | hx
    · exact Int.le_refl _
    · have := (List.pairwise_cons.1 w.sorted).1 x hx
      rw [Isp_lt_iff] at this
      omega
theorem IAI.fin {key : TItem} {due t : Int} {n : Nat} {l : List WheelSpokeOfItem} (h : IAI key due t n l) (hs : ∀ s, l.head? = some s → due < s.due) : n = 1 ∧ IdueL key l = (0, false) := by
  obtain ⟨w, h | h⟩ := h
  · obtain ⟨h0, x, hx, h1, h2⟩ := h
    obtain ⟨s, h3, h4⟩ := w.head_le hx
    have := hs s h3
    omega
  · exact ⟨h.1, IdueL_no h.2⟩
end Go.Proofs.Ythoepbbpmdmfeaa
