/-
  Layer 2: the document's next ballot, of all lists.
-/
import Derived.Test.YtienlncaffliaaaBal2
namespace Go.Proofs.Ytienlncaffliaaa
open Go.HL
set_option linter.unusedSimpArgs false
set_option linter.unusedVariables false
set_option maxRecDepth 8000
def refStep (rep : Int) (o x : TBallot) : TBallot := if refLess x o then o else ⟨if rep ≤ x.Rep then x.Round + 1 else x.Round, o.Rep⟩
def refN (rep : Int) (xs : List TBallot) : TBallot := xs.foldl (refStep rep) ⟨1, rep⟩
theorem refN_snoc {rep : Int} {xs : List TBallot} {x : TBallot} {k : Nat} (h : xs[k]? = some x) : refN rep (xs.take (k + 1)) = refStep rep (refN rep (xs.take k)) x := by
  rw [take_snocS h, refN, List.foldl_append]; rfl
theorem refLess_iff (a b : TBallot) : refLess a b = true ↔ a.Round < b.Round ∨ (a.Round = b.Round ∧ a.Rep < b.Rep) := by
  unfold refLess; split <;> simp only [decide_eq_true_eq] <;> omega
theorem cmpBal_pos (a b : TBallot) : 0 < cmpBal a b ↔ b.Round < a.Round ∨ (a.Round = b.Round ∧ b.Rep < a.Rep) := by
  unfold cmpBal
  split
  · subst_vars; omega
  · split
    · omega
    · rename_i h1 h2
      have : ¬ (a.Round = b.Round ∧ a.Rep = b.Rep) := fun h => h1 (by cases a; cases b; simp_all)
      omega
theorem max_of_snoc (l : List TBallot) (x : TBallot) : maxOf (l ++ [x]) = if l = [] then x else maxStep (maxOf l) x := by
  cases l with
  | nil => rfl
  | cons y l => simp [maxOf, List.foldl_append]
/-- What the greatest one is. -/
theorem maxOf_law : ∀ (n : Nat) (l : List TBallot), l.length = n → (l ≠ [] → maxOf l ∈ l) ∧ ∀ x, x ∈ l → ¬ refLess (maxOf l) x = true
  | 0, l, h => by
    obtain rfl := List.eq_nil_of_length_eq_zero h
    simp
  | n + 1, l, h => by
    obtain ⟨m, x, rfl⟩ : ∃ m x, l = m ++ [x] := ⟨l.dropLast, l.getLast (by intro h0; simp [h0] at h), (List.dropLast_concat_getLast _).symm⟩
    have hm : m.length = n := by simpa using h
    obtain ⟨h1, h2⟩ := maxOf_law n m hm
    rw [max_of_snoc]
    by_cases he : m = []
    · subst he; simp [refLess_iff]
    · rw [if_neg he, maxStep]
      have hc := cmpBal_pos x (maxOf m)
      refine ⟨fun _ => ?_, ?_⟩
      · split
        · simp
        · exact List.mem_append_left _ (h1 he)
      · intro y hy
        rw [refLess_iff]
        rcases List.mem_append.1 hy with hy | hy
        · have := h2 y hy
          rw [refLess_iff] at this
          split
          · have := hc.1 (by assumption); omega
          · exact this
        · obtain rfl : y = x := by simpa using hy
          split
          · omega
          · have h3 : ¬ _ := fun h => ‹¬ 0 < cmpBal y (maxOf m)› (hc.2 h); omega
theorem nextB_iff (rep : Int) (l : List TBallot) : (nextB rep l).Rep = rep ∧ ((nextB rep l).Round = max (maxOf l).Round 1 ∧ ((maxOf l).Round < max (maxOf l).Round 1 ∨ (maxOf l).Rep < rep) ∨ (nextB rep l).Round = max (maxOf l).Round 1 + 1 ∧ ¬ ((maxOf l).Round < max (maxOf l).Round 1 ∨ (maxOf l).Rep < rep)) := by
  have h := refLess_iff (maxOf l) ⟨max (maxOf l).Round 1, rep⟩
  unfold nextB
  split
  · have := h.1 (by assumption)
    dsimp only at this ⊢
    refine ⟨rfl, .inl ⟨rfl, ?_⟩⟩
    omega
  · have h3 : ¬ _ := fun h0 => ‹¬ refLess (maxOf l) ⟨max (maxOf l).Round 1, rep⟩ = true› (h.2 h0)
    dsimp only at h3 ⊢
    refine ⟨rfl, .inr ⟨rfl, ?_⟩⟩
    omega
theorem TBallot.ext' {a b : TBallot} (h1 : a.Round = b.Round) (h2 : a.Rep = b.Rep) : a = b := by cases a; cases b; simp_all
theorem refN_next (rep : Int) : ∀ (n : Nat) (l : List TBallot), l.length = n → (∀ x, x ∈ l → 0 ≤ x.Round) → refN rep l = nextB rep l
  | 0, l, h, _ => by
    obtain rfl := List.eq_nil_of_length_eq_zero h
    have := nextB_iff rep []
    simp only [maxOf, TBallot.z] at this
    apply TBallot.ext' <;> simp only [refN, List.foldl_nil] <;> omega
  | n + 1, l, h, hp => by
    obtain ⟨m, x, rfl⟩ : ∃ m x, l = m ++ [x] := ⟨l.dropLast, l.getLast (by intro h0; simp [h0] at h), (List.dropLast_concat_getLast _).symm⟩
    have hm : m.length = n := by simpa using h
    have ih := refN_next rep n m hm (fun y hy => hp y (List.mem_append_left _ hy))
    have e : refN rep (m ++ [x]) = refStep rep (nextB rep m) x := by rw [← ih, refN, List.foldl_append]; rfl
    rw [e]
    have hx := hp x (by simp)
    have h1 := nextB_iff rep m
    have h2 := nextB_iff rep (m ++ [x])
    rw [max_of_snoc] at h2
    have hc := cmpBal_pos x (maxOf m)
    have hl := refLess_iff x (nextB rep m)
    by_cases he : m = []
    · subst he
      rw [if_pos rfl] at h2
      simp only [maxOf, TBallot.z] at h1
      unfold refStep
      split
      · have := hl.1 (by assumption)
        apply TBallot.ext' <;> omega
      · have h3 : ¬ _ := fun h0 => ‹¬ refLess x (nextB rep []) = true› (hl.2 h0)
        apply TBallot.ext' <;> dsimp only <;> (repeat' split) <;> omega
    · rw [if_neg he, maxStep] at h2
      have hM : 0 ≤ (maxOf m).Round := hp _ (List.mem_append_left _ ((maxOf_law _ m rfl).1 he))
      unfold refStep
      by_cases hl0 : refLess x (nextB rep m) = true
      · rw [if_pos hl0]
        have h4 := hl.1 hl0
        by_cases hc0 : 0 < cmpBal x (maxOf m)
        · rw [if_pos hc0] at h2
          have := hc.1 hc0
          apply TBallot.ext' <;> omega
        · rw [if_neg hc0] at h2
          apply TBallot.ext' <;> omega
      · rw [if_neg hl0]
        have h4 : ¬ _ := fun h0 => hl0 (hl.2 h0)
        have hc0 : 0 < cmpBal x (maxOf m) := hc.2 (by omega)
        rw [if_pos hc0] at h2
        apply TBallot.ext' <;> dsimp only <;> (repeat' split) <;> omega
/-- What the next one is. -/
theorem nextB_law (rep : Int) (l : List TBallot) (hp : ∀ x, x ∈ l → 0 ≤ x.Round) : (∀ x, x ∈ l → refLess x (nextB rep l) = true) ∧ ((nextB rep l).Round = 1 ∨ ∃ x, x ∈ l ∧ ¬ refLess x ⟨(nextB rep l).Round - 1, rep⟩ = true) ∧ 1 ≤ (nextB rep l).Round ∧ (nextB rep l).Round ≤ max (maxOf l).Round 1 + 1 := by
  have h1 := nextB_iff rep l
  obtain ⟨h2, h3⟩ := maxOf_law _ l rfl
  refine ⟨fun x hx => ?_, ?_, by omega, by omega⟩
  · have := h3 x hx
    rw [refLess_iff] at this ⊢
    omega
  · by_cases he : l = []
    · subst he
      simp only [maxOf, TBallot.z] at h1
      left; omega
    · by_cases h : (nextB rep l).Round = 1
      · exact .inl h
      · refine .inr ⟨maxOf l, h2 he, ?_⟩
        rw [refLess_iff]
        dsimp only
        omega
theorem refNext_any (e : Ent) (ao : Option Go.Addr) (cap b off : Nat) (rep : Int) (xs : List TBallot) (hR : Rd e ao xs.length b off 2 (xs.map TBallot.c)) (hb : ∀ x, x ∈ xs → 0 ≤ x.Round ∧ x.Round ≤ 4611686018427387904) :
    Ct Try.prog 30 [I rep, .slice ao xs.length cap] [e] (fun v σ' => v = A (refN rep xs).c ∧ σ' = [e]) := by
  have hm := hR.small
  simp only [Go.maxLen] at hm
  refine Ct.enter Try.func30 rfl rfl fun W => ?_
  apply Wp.seq
  apply Wp.region
  refine WpL.o (O.al tb (fun p4 => ?_))
  apply WpL.nil
  apply Out.seqN
  apply Wp.seq
  apply Wp.region
  refine WpL.v (V.mv) ?_
  refine WpL.v (V.bld tb) ?_
  refine WpL.o (O.al tb (fun p5 => ?_))
  refine WpL.o (O.stA tb ?_)
  apply WpL.nil
  apply Out.seqN
  apply Wp.seq
  apply Wp.seq
  apply Wp.region
  refine WpL.v (V.mv) ?_
  refine WpL.v (V.lenL tb) ?_
  refine WpL.v (V.mv) ?_
  apply WpL.nil
  apply Out.seqN
  apply Wp.block
  refine Wp.lp [10, 11, 5, 4, 0] (fun k : Nat => k ≤ xs.length) (fun k => [(12, I (k : Int))]) (fun k => [cells p5 37 (refN rep (xs.take k)).c]) (fun k => xs.length - k) 0 (Nat.zero_le _) ?_
  rintro k hk K hK
  dsimp only [List.cons_append, List.nil_append]
  by_cases hlt : k < xs.length
  · obtain ⟨x, hx⟩ := getS hlt
    have hxb := hb x (List.mem_of_getElem? hx)
    have e1 := refN_snoc (rep := rep) hx
    apply Wp.seq
    apply Wp.region
    refine WpL.v (V.cmp) ?_
    apply WpL.nil
    apply Out.seqN
    apply Wp.seq
    refine Wp.c (fun hro0 => ?_) (fun hro0 => ?_)
    (try simp only [decide_eq_true_eq, decide_eq_false_iff_not, Bool.not_eq_true', Bool.not_eq_false', Bool.not_eq_true, Bool.not_eq_false, not_true_eq_false, not_false_eq_true, reduceCtorEq] at hro0)
    apply Wp.skip
    apply Out.seqN
    apply Wp.seq
    apply Wp.block
    apply Wp.seq
    apply Wp.region
    refine WpL.v (V.ixR tb rfl rfl (by assumption)) ?_
    refine WpL.v (V.ldRA tb rfl (by assumption) (getMapS (by assumption))) ?_
    refine WpL.o (O.al tb (fun p7 => ?_))
    refine WpL.o (O.stA tb ?_)
    apply WpL.nil
    apply Out.seqN
    apply Wp.seq
    apply Wp.region
    refine WpL.v (V.ldA tb) ?_
    refine WpL.v (V.ldA tb) ?_
    refine WpL.o (Op1.fn rfl (refLess_any _ _) ?_)
    refine WpL.v (V.not) ?_
    apply WpL.nil
    apply Out.seqN
    refine Wp.c (fun hro1 => ?_) (fun hro1 => ?_)
    (try simp only [decide_eq_true_eq, decide_eq_false_iff_not, Bool.not_eq_true', Bool.not_eq_false', Bool.not_eq_true, Bool.not_eq_false, not_true_eq_false, not_false_eq_true, reduceCtorEq] at hro1)
    apply Wp.seq
    apply Wp.region
    refine WpL.v (V.fa tb) ?_
    refine WpL.v (V.ld1 tb) ?_
    refine WpL.v (V.fa tb) ?_
    refine WpL.o (O.st1 tb ?_)
    apply WpL.nil
    apply Out.seqN
    apply Wp.seq
    apply Wp.region
    refine WpL.v (V.fa tb) ?_
    refine WpL.v (V.ld1 tb) ?_
    refine WpL.v (V.mv) ?_
    refine WpL.v (V.cmp) ?_
    apply WpL.nil
    apply Out.seqN
    refine Wp.c (fun hro2 => ?_) (fun hro2 => ?_)
    (try simp only [decide_eq_true_eq, decide_eq_false_iff_not, Bool.not_eq_true', Bool.not_eq_false', Bool.not_eq_true, Bool.not_eq_false, not_true_eq_false, not_false_eq_true, reduceCtorEq] at hro2)
    apply Wp.region
    refine WpL.v (V.fa tb) ?_
    refine WpL.v (V.ld1 tb) ?_
    refine WpL.v (V.add) ?_
    refine WpL.v (V.fa tb) ?_
    refine WpL.o (O.st1 tb ?_)
    apply WpL.nil
    apply Out.blockN
    apply Out.seqN
    apply Wp.region
    refine WpL.v (V.add) ?_
    refine WpL.v (V.mv) ?_
    apply WpL.nil
    rotate_left
    (try simp only [decide_eq_true_eq, decide_eq_false_iff_not, Bool.not_eq_true', Bool.not_eq_false', Bool.not_eq_true, Bool.not_eq_false, not_true_eq_false, not_false_eq_true, reduceCtorEq] at hro2)
    apply Wp.skip
    apply Out.blockN
    apply Out.seqN
    apply Wp.region
    refine WpL.v (V.add) ?_
    refine WpL.v (V.mv) ?_
    apply WpL.nil
    rotate_left
    (try simp only [decide_eq_true_eq, decide_eq_false_iff_not, Bool.not_eq_true', Bool.not_eq_false', Bool.not_eq_true, Bool.not_eq_false, not_true_eq_false, not_false_eq_true, reduceCtorEq] at hro1)
    apply Wp.skip
    apply Out.blockN
    apply Out.seqN
    apply Wp.region
    refine WpL.v (V.add) ?_
    refine WpL.v (V.mv) ?_
    apply WpL.nil
    rotate_left
    (try simp only [decide_eq_true_eq, decide_eq_false_iff_not, Bool.not_eq_true', Bool.not_eq_false', Bool.not_eq_true, Bool.not_eq_false, not_true_eq_false, not_false_eq_true, reduceCtorEq] at hro0)
    (exfalso; omega)
    · rw [refStep, if_neg (by simp_all), if_pos (by assumption)] at e1
      dsimp only
      rw [← e1]
      exact Out.ag hK (k + 1) (by omega) (by omega)
    · rw [refStep, if_neg (by simp_all), if_neg (by assumption)] at e1
      rw [← e1]
      exact Out.ag hK (k + 1) (by omega) (by omega)
    · rw [refStep, if_pos (by assumption)] at e1
      rw [← e1]
      exact Out.ag hK (k + 1) (by omega) (by omega)
  · obtain rfl : k = xs.length := by omega
    rw [List.take_length]
    apply Wp.seq
    apply Wp.region
    refine WpL.v (V.cmp) ?_
    apply WpL.nil
    apply Out.seqN
    apply Wp.seq
    refine Wp.c (fun hrp0 => ?_) (fun hrp0 => ?_)
    (try simp only [decide_eq_true_eq, decide_eq_false_iff_not, Bool.not_eq_true', Bool.not_eq_false', Bool.not_eq_true, Bool.not_eq_false, not_true_eq_false, not_false_eq_true, reduceCtorEq] at hrp0)
    (exfalso; omega)
    (try simp only [decide_eq_true_eq, decide_eq_false_iff_not, Bool.not_eq_true', Bool.not_eq_false', Bool.not_eq_true, Bool.not_eq_false, not_true_eq_false, not_false_eq_true, reduceCtorEq] at hrp0)
    apply Wp.exit
    apply Out.seqE
    apply Out.seqE
    apply Out.blockE
    apply Out.seqN
    apply Wp.seq
    apply Wp.region
    refine WpL.v (V.ldA tb) ?_
    refine WpL.o (O.stA tb ?_)
    apply WpL.nil
    apply Out.seqN
    apply Wp.ret
    refine Out.f1 rfl (ResIs.ca tb) ⟨?_, rfl⟩
    exact rfl
end Go.Proofs.Ytienlncaffliaaa
