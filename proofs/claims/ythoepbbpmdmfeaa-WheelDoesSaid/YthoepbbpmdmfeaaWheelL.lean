/-
  Layer 10: the wheel and the document's: laws.
-/
import Derived.Test.YthoepbbpmdmfeaaWheel5
import Derived.Test.YthoepbbpmdmfeaaWheelR
namespace Go.Proofs.Ythoepbbpmdmfeaa
open Go.HL
set_option linter.unusedSimpArgs false
set_option linter.unusedVariables false
set_option maxRecDepth 8000
abbrev Sp := WheelSpokeOfInt
theorem fix_cons (key : Int) (a : Sp) (l : List Sp) : fix key (a :: l) = if a.key = key then some 0 else (fix key l).map (· + 1) := by
  unfold fix; rw [List.findIdx?_cons]; by_cases h : a.key = key <;> simp [h]
def out (key : Int) (l : List Sp) : List Sp := l.filter fun s => decide (s.key ≠ key)
theorem del_out (key : Int) : ∀ l : List Sp, (l.map (·.key)).Nodup → (match fix key l with | some i => l.eraseIdx i | none => l) = out key l
  | [], _ => rfl
  | a :: l, h => by
    rw [List.map_cons, List.nodup_cons] at h
    have ih := del_out key l h.2
    rw [fix_cons]
    by_cases hk : a.key = key
    · rw [if_pos hk]
      unfold out
      rw [List.filter_cons, if_neg (by simp [hk]), List.filter_eq_self.2 fun s hs => ?_]
      · rfl
      · have : s.key ≠ key := fun e => h.1 (List.mem_map.2 ⟨s, hs, by rw [e, hk]⟩)
        simpa using this
    · rw [if_neg hk]
      unfold out at ih ⊢
      rw [List.filter_cons, if_pos (by simpa using hk), ← ih]
      cases fix key l with
      | none => rfl
      | some i => rfl
theorem delK_out {key : Int} {l : List Sp} (h : (l.map (·.key)).Nodup) : delK key l = out key l := by rw [delK_eq]; exact del_out key l h
theorem rfx_map (key : Int) (m : List Sp) : rfx key (m.map (·.key)) = fix key m := by
  unfold rfx fix; rw [List.findIdx?_map]; rfl
theorem rdel_out {key : Int} {m : List Sp} (h : (m.map (·.key)).Nodup) : rdel key (m.map (·.key)) (m.map (·.due)) = ((out key m).map (·.key), (out key m).map (·.due)) := by
  have := del_out key m h
  unfold rdel
  rw [rfx_map]
  cases hx : fix key m with
  | none => rw [hx] at this; rw [← this]
  | some i =>
    rw [hx] at this
    rw [← this]
    dsimp only
    rw [Go.ChangeMaps.map_eraseIdx, Go.ChangeMaps.map_eraseIdx]
theorem insS_perm (s : Sp) (l : List Sp) : (insS s l).Perm (s :: l) := by
  unfold insS
  refine List.perm_middle.trans ?_
  rw [List.takeWhile_append_dropWhile]
theorem insS_sorted {s : Sp} : ∀ {l : List Sp}, l.Pairwise (fun a b => sp_lt a b = true) → (∀ a ∈ l, a.turn ≠ s.turn) → (insS s l).Pairwise (fun a b => sp_lt a b = true)
  | [], _, _ => by simp [insS]
  | a :: l, h, hn => by
    rw [List.pairwise_cons] at h
    have ih := insS_sorted (s := s) h.2 (fun x hx => hn x (List.mem_cons_of_mem _ hx))
    cases hl : sp_lt a s with
    | true =>
      have e : insS s (a :: l) = a :: insS s l := by simp [insS, hl]
      rw [e, List.pairwise_cons]
      refine ⟨fun x hx => ?_, ih⟩
      rcases List.mem_cons.1 ((insS_perm s l).mem_iff.1 hx) with rfl | hx
      · exact hl
      · exact h.1 x hx
    | false =>
      have e : insS s (a :: l) = s :: a :: l := by simp [insS, hl]
      have hsa : sp_lt s a = true := by
        have h1 : ¬ sp_lt a s = true := by rw [hl]; simp
        rw [sp_lt_iff] at h1 ⊢
        have := hn a (List.mem_cons_self ..)
        omega
      rw [e, List.pairwise_cons, List.pairwise_cons]
      refine ⟨fun x hx => ?_, h.1, h.2⟩
      rcases List.mem_cons.1 hx with rfl | hx
      · exact hsa
      · exact sp_lt_trans hsa (h.1 x hx)
/-- The wheel alone. -/
structure W1 (t : Int) (l : List Sp) : Prop where
  t0 : 0 ≤ t
  sorted : l.Pairwise (fun a b => sp_lt a b = true)
  nod : (l.map (·.key)).Nodup
  tl : ∀ s ∈ l, s.turn < t
theorem W1.zero : W1 0 [] := ⟨Int.le_refl _, List.Pairwise.nil, List.nodup_nil, by simp⟩
theorem out_sub (key : Int) (l : List Sp) : (out key l).Sublist l := List.filter_sublist
theorem out_mem {key : Int} {l : List Sp} {s : Sp} : s ∈ out key l ↔ s ∈ l ∧ s.key ≠ key := by unfold out; simp
theorem W1.del {t : Int} {l : List Sp} (w : W1 t l) (key : Int) : W1 t (delK key l) := by
  rw [delK_out w.nod]
  exact ⟨w.t0, w.sorted.sublist (out_sub key l), w.nod.sublist (List.Sublist.map _ (out_sub key l)), fun s hs => w.tl s ((out_sub key l).subset hs)⟩
theorem W1.set {t : Int} {l : List Sp} (w : W1 t l) (key due : Int) : W1 (t + 1) (insS ⟨key, due, t⟩ (delK key l)) := by
  have w2 := w.del key
  refine ⟨by have := w.t0; omega, insS_sorted w2.sorted (fun a ha => by have := w2.tl a ha; show a.turn ≠ t; omega), ?_, fun s hs => ?_⟩
  · have hp := (insS_perm ⟨key, due, t⟩ (delK key l)).map (·.key)
    rw [hp.nodup_iff, List.map_cons, List.nodup_cons]
    refine ⟨fun hc => ?_, w2.nod⟩
    obtain ⟨s, hs, hk⟩ := List.mem_map.1 hc
    rw [delK_out w.nod] at hs
    exact (out_mem.1 hs).2 hk
  · rcases List.mem_cons.1 ((insS_perm _ _).mem_iff.1 hs) with rfl | hs
    · show t < t + 1; omega
    · have := w2.tl s hs; omega
theorem W1.tail {t : Int} {s : Sp} {l : List Sp} (w : W1 t (s :: l)) : W1 t l := ⟨w.t0, (List.pairwise_cons.1 w.sorted).2, (List.nodup_cons.1 w.nod).2, fun x hx => w.tl x (List.mem_cons_of_mem _ hx)⟩
theorem set_len {t : Int} {l : List Sp} (key due : Int) : (insS ⟨key, due, t⟩ (delK key l)).length ≤ l.length + 1 := by
  rw [(insS_perm _ _).length_eq, List.length_cons]
  have := (dropN_le [key] (0, l)).2
  have h2 : (delK key l).length ≤ l.length := this
  omega
/-- The wheel, and the document's. -/
structure WI (t : Int) (l : List Sp) (ks ds : List Int) : Prop extends W1 t l where
  m : ∃ m : List Sp, m.Perm l ∧ ks = m.map (·.key) ∧ ds = m.map (·.due) ∧ m.Pairwise (fun a b => a.turn < b.turn)
theorem WI.zero : WI 0 [] [] [] := ⟨W1.zero, [], List.Perm.refl _, rfl, rfl, List.Pairwise.nil⟩
theorem WI.lens {t : Int} {l : List Sp} {ks ds : List Int} (w : WI t l ks ds) : ks.length = l.length ∧ ds.length = ks.length := by
  obtain ⟨m, h1, h2, h3, _⟩ := w.m
  rw [h2, h3]; simp [h1.length_eq]
theorem WI.nodm {l m : List Sp} (h : m.Perm l) (w : (l.map (·.key)).Nodup) : (m.map (·.key)).Nodup := (h.map (·.key)).nodup_iff.2 w
theorem WI.del {t : Int} {l : List Sp} {ks ds : List Int} (w : WI t l ks ds) (key : Int) : WI t (delK key l) (rdel key ks ds).1 (rdel key ks ds).2 ∧ (rfx key ks).isSome = (fix key l).isSome := by
  obtain ⟨m, h1, h2, h3, h4⟩ := w.m
  subst h2 h3
  refine ⟨⟨w.toW1.del key, out key m, ?_, ?_, ?_, h4.sublist (out_sub key m)⟩, ?_⟩
  · rw [delK_out w.nod]; exact h1.filter _
  · rw [rdel_out (WI.nodm h1 w.nod)]
  · rw [rdel_out (WI.nodm h1 w.nod)]
  · rw [rfx_map, Bool.eq_iff_iff]
    unfold fix
    rw [List.findIdx?_isSome, List.findIdx?_isSome, List.any_eq_true, List.any_eq_true]
    exact ⟨fun ⟨x, hx, hk⟩ => ⟨x, h1.mem_iff.1 hx, hk⟩, fun ⟨x, hx, hk⟩ => ⟨x, h1.mem_iff.2 hx, hk⟩⟩
theorem WI.set {t : Int} {l : List Sp} {ks ds : List Int} (w : WI t l ks ds) (key due : Int) : WI (t + 1) (insS ⟨key, due, t⟩ (delK key l)) ((rdel key ks ds).1 ++ [key]) ((rdel key ks ds).2 ++ [due]) := by
  obtain ⟨w2, _⟩ := w.del key
  obtain ⟨m, h1, h2, h3, h4⟩ := w2.m
  refine ⟨w.toW1.set key due, m ++ [⟨key, due, t⟩], ?_, by rw [h2]; simp, by rw [h3]; simp, ?_⟩
  · refine (List.perm_append_singleton _ m).trans ?_
    exact (h1.cons _).trans (insS_perm _ _).symm
  · rw [List.pairwise_append]
    refine ⟨h4, List.pairwise_singleton _ _, fun a ha b hb => ?_⟩
    simp only [List.mem_singleton] at hb
    subst hb
    exact w2.tl a (h1.mem_iff.1 ha)
theorem WI.pop_none {t : Int} {l : List Sp} {ks ds : List Int} (w : WI t l ks ds) {now : Int} (hB : BestR ds now ds.length none) : ∀ s, l.head? = some s → now < s.due := by
  intro s hs
  obtain ⟨m, h1, h2, h3, h4⟩ := w.m
  have hsm : s ∈ m := h1.mem_iff.2 (List.mem_of_mem_head? hs)
  obtain ⟨j, hj⟩ := List.getElem?_of_mem hsm
  have hd : ds[j]? = some s.due := by rw [h3, List.getElem?_map, hj]; rfl
  exact hB.no rfl j _ (List.getElem?_eq_some_iff.1 hd).1 hd
theorem WI.pop_some {t : Int} {l : List Sp} {ks ds : List Int} (w : WI t l ks ds) {now : Int} {i : Nat} {key : Int} (hB : BestR ds now ds.length (some i)) (hk : ks[i]? = some key) :
    ∃ s rest, l = s :: rest ∧ s.due ≤ now ∧ s.key = key ∧ rest = delK key l := by
  obtain ⟨m, h1, h2, h3, h4⟩ := w.m
  obtain ⟨hi, d, hd, hdn, hmin⟩ := hB.at_ i rfl
  rw [h2, List.getElem?_map] at hk
  obtain ⟨x, hx, hxk⟩ := Option.map_eq_some_iff.1 hk
  have hxd : x.due = d := by
    rw [h3, List.getElem?_map, hx] at hd
    simpa using hd
  have hxl : x ∈ l := h1.mem_iff.1 (List.mem_of_getElem? hx)
  cases l with
  | nil => cases hxl
  | cons s rest =>
    have hsx : s = x := by
      refine Decidable.of_not_not fun hne => ?_
      have hxr : x ∈ rest := by
        rcases List.mem_cons.1 hxl with h | h
        · exact absurd h.symm hne
        · exact h
      have hlt := (List.pairwise_cons.1 w.sorted).1 x hxr
      have hsm : s ∈ m := h1.mem_iff.2 (List.mem_cons_self ..)
      obtain ⟨j, hj⟩ := List.getElem?_of_mem hsm
      have hdj : ds[j]? = some s.due := by rw [h3, List.getElem?_map, hj]; rfl
      have hm := hmin j _ (List.getElem?_eq_some_iff.1 hdj).1 hdj
      rw [sp_lt_iff] at hlt
      have hji : j < i := by
        refine Decidable.of_not_not fun hc => ?_
        by_cases hji : j = i
        · subst hji; rw [hx] at hj; exact hne (Option.some.inj hj).symm
        · have := pw_get h4 hx hj (by omega)
          omega
      have := hm.2 hji
      omega
    subst hsx
    refine ⟨s, rest, rfl, by omega, hxk, ?_⟩
    rw [delK_out w.nod]
    unfold out
    rw [List.filter_cons, if_neg (by simp [hxk])]
    have hn := (List.nodup_cons.1 w.nod).1
    rw [List.filter_eq_self.2 fun y hy => ?_]
    have : y.key ≠ key := fun e => hn (List.mem_map.2 ⟨y, hy, e.trans hxk.symm⟩)
    simpa using this
theorem WI.due {t : Int} {l : List Sp} {ks ds : List Int} (w : WI t l ks ds) (key : Int) : (rfx key ks = none ∧ dueL key l = (0, false)) ∨ ∃ i d, rfx key ks = some i ∧ ds[i]? = some d ∧ dueL key l = (d, true) := by
  obtain ⟨m, h1, h2, h3, h4⟩ := w.m
  have hs := (w.del key).2
  cases hx : fix key l with
  | none =>
    rw [hx] at hs
    refine .inl ⟨by simpa using hs, by unfold dueL; rw [hx]⟩
  | some j =>
    rw [hx] at hs
    obtain ⟨i, hi⟩ := Option.isSome_iff_exists.1 hs
    obtain ⟨x, hx1, hx2, _⟩ := fix_some hx
    have hi' := hi
    rw [h2, rfx_map] at hi'
    obtain ⟨y, hy1, hy2, _⟩ := fix_some hi'
    have hyl : y ∈ l := h1.mem_iff.1 (List.mem_of_getElem? hy1)
    have hxl : x ∈ l := List.mem_of_getElem? hx1
    have hxy : x = y := by
      obtain ⟨a, ha⟩ := List.getElem?_of_mem hyl
      have hk1 : (l.map (·.key))[j]? = some key := by rw [List.getElem?_map, hx1]; exact congrArg some hx2
      have hk2 : (l.map (·.key))[a]? = some key := by rw [List.getElem?_map, ha]; exact congrArg some hy2
      have hlt : j < (l.map (·.key)).length := (List.getElem?_eq_some_iff.1 hk1).1
      have := (List.getElem?_inj hlt w.nod).1 (hk1.trans hk2.symm)
      subst this
      rw [hx1] at ha
      exact Option.some.inj ha
    refine .inr ⟨i, x.due, hi, by rw [h3, List.getElem?_map, hy1, hxy]; rfl, ?_⟩
    unfold dueL; rw [hx]; simp [hx1]
end Go.Proofs.Ythoepbbpmdmfeaa
