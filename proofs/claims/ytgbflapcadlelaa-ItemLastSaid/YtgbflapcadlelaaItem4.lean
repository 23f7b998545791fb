/-
  Layer 3: plain laws of rows.
-/
import Derived.Test.YtgbflapcadlelaaItem3
namespace Go.Proofs.Ytgbflapcadlelaa
open Go.HL
set_option linter.unusedSimpArgs false
set_option linter.unusedVariables false
set_option maxRecDepth 8000
structure IP.ok (p : IP) : Prop extends p.wf where
  last : ∀ k m, (p.h k).length = m + 1 → (p.h k)[m]? = some true
theorem getD_set {α : Type} (l : List (List α)) (k j : Nat) (r : List α) (hk : k < l.length) : (l.set k r).getD j [] = if j = k then r else l.getD j [] := by
  simp only [List.getD_eq_getElem?_getD, List.getElem?_set]
  by_cases e : k = j
  · subst e; simp [hk]
  · simp [e, show ¬ j = k from fun h => e h.symm]
theorem goodI_spec {x : TItem} {n : Int} (h : goodI x n = true) : 0 ≤ x.Rep ∧ x.Rep < n ∧ 1 ≤ x.Num ∧ x.Num ≤ 64 := by
  simp only [goodI, Bool.and_eq_true, decide_eq_true_eq] at h
  omega
theorem IP.set_reps (p : IP) (x : TItem) (v : Int) : (p.set x v).reps = p.reps := by unfold IP.set; split <;> rfl
theorem IP.new_ok (n : Int) : (IP.new n).ok := by
  have hx : ∀ k, (IP.new n).x k = [] := fun k => by
    simp only [IP.x, IP.new, List.getD_eq_getElem?_getD, List.getElem?_replicate]
    split <;> rfl
  have hh : ∀ k, (IP.new n).h k = [] := fun k => by
    simp only [IP.h, IP.new, List.getD_eq_getElem?_getD, List.getElem?_replicate]
    split <;> rfl
  refine ⟨⟨?_, ?_, rfl, rfl, fun k => by rw [hx, hh]; rfl, fun k => by rw [hx]; simp⟩, fun k m h => by rw [hh] at h; simp at h⟩
  · show 0 ≤ Min.min (Max.max n 0) 7; omega
  · show Min.min (Max.max n 0) 7 ≤ 7; omega
theorem IP.set_x {p : IP} (hw : p.wf) {x : TItem} {v : Int} (hg : goodI x p.reps = true) (k : Nat) : (p.set x v).x k = if k = x.Rep.toNat then (padTo (p.x x.Rep.toNat) x.Num.toNat 0).set (x.Num - 1).toNat v else p.x k := by
  have h := goodI_spec hg
  have hi := hw.hi
  have lx := hw.lx
  rw [IP.set, if_pos hg]
  exact getD_set _ _ _ _ (by omega)
theorem IP.set_h {p : IP} (hw : p.wf) {x : TItem} {v : Int} (hg : goodI x p.reps = true) (k : Nat) : (p.set x v).h k = if k = x.Rep.toNat then (padTo (p.h x.Rep.toNat) x.Num.toNat false).set (x.Num - 1).toNat true else p.h k := by
  have h := goodI_spec hg
  have hi := hw.hi
  have lh := hw.lh
  rw [IP.set, if_pos hg]
  exact getD_set _ _ _ _ (by omega)
theorem IP.set_ok {p : IP} (hp : p.ok) (x : TItem) (v : Int) : (p.set x v).ok := by
  by_cases hg : goodI x p.reps = true
  · have h := goodI_spec hg
    have hw := hp.towf
    refine ⟨⟨by rw [IP.set_reps]; exact hw.lo, by rw [IP.set_reps]; exact hw.hi, ?_, ?_, fun k => ?_, fun k => ?_⟩, fun k m hm => ?_⟩
    · rw [IP.set, if_pos hg]; simpa using hw.lx
    · rw [IP.set, if_pos hg]; simpa using hw.lh
    · rw [IP.set_x hw hg, IP.set_h hw hg]
      split
      · simp [padLen, hw.same]
      · exact hw.same k
    · rw [IP.set_x hw hg]
      split
      · have := hw.most x.Rep.toNat
        simp [padLen]; omega
      · exact hw.most k
    · rw [IP.set_h hw hg] at hm ⊢
      split
      · rename_i e
        rw [if_pos e, List.length_set, padLen] at hm
        rw [List.getElem?_set]
        split
        · rename_i e2
          rw [if_pos (by rw [padLen]; omega)]
        · rename_i e2
          have hl : x.Num.toNat ≤ (p.h x.Rep.toNat).length := by omega
          have : padTo (p.h x.Rep.toNat) x.Num.toNat false = p.h x.Rep.toNat := by
            rw [padTo, show x.Num.toNat - (p.h x.Rep.toNat).length = 0 by omega]; simp
          rw [this]
          exact hp.last _ m (by omega)
      · rename_i e
        rw [if_neg e] at hm
        exact hp.last k m hm
  · have : p.set x v = p := by rw [IP.set, if_neg hg]
    rw [this]; exact hp
theorem IP.at_new (n : Int) (x : TItem) : (IP.new n).at x = none := by
  have hh : ∀ k, (IP.new n).h k = [] := fun k => by
    simp only [IP.h, IP.new, List.getD_eq_getElem?_getD, List.getElem?_replicate]
    split <;> rfl
  simp [IP.at, hh]
theorem getD_pad {α : Type} (l : List α) (n j : Nat) (d : α) : (padTo l n d).getD j d = l.getD j d := by
  simp only [padTo, List.getD_eq_getElem?_getD, List.getElem?_append, List.getElem?_replicate]
  split
  · rfl
  · rename_i h
    rw [List.getElem?_eq_none (by omega)]
    split <;> rfl
theorem getD_setE {α : Type} (l : List α) (k j : Nat) (r d : α) (hk : k < l.length) : (l.set k r).getD j d = if j = k then r else l.getD j d := by
  simp only [List.getD_eq_getElem?_getD, List.getElem?_set]
  by_cases e : k = j
  · subst e; simp [hk]
  · simp [e, show ¬ j = k from fun h => e h.symm]
theorem IP.at_set {p : IP} (hp : p.ok) (x : TItem) (v : Int) (y : TItem) : (p.set x v).at y = if goodI x p.reps = true ∧ y = x then some v else p.at y := by
  by_cases hg : goodI x p.reps = true
  · have h := goodI_spec hg
    have hw := hp.towf
    by_cases hy : goodI y p.reps = true
    · have h2 := goodI_spec hy
      have l1 : (x.Num - 1).toNat < (padTo (p.h x.Rep.toNat) x.Num.toNat false).length := by rw [padLen]; omega
      have l2 : (x.Num - 1).toNat < (padTo (p.x x.Rep.toNat) x.Num.toNat 0).length := by rw [padLen]; omega
      unfold IP.at
      rw [IP.set_reps, IP.set_h hw hg, IP.set_x hw hg]
      by_cases e : y.Rep = x.Rep
      · rw [e]
        simp only [if_true]
        rw [getD_setE _ _ _ _ _ l1, getD_setE _ _ _ _ _ l2, getD_pad, getD_pad]
        by_cases e2 : y.Num = x.Num
        · have : y = x := by cases x; cases y; simp_all
          subst this
          simp [hg]
        · have n1 : ¬ (y.Num - 1).toNat = (x.Num - 1).toNat := by omega
          have n2 : ¬ y = x := fun e => e2 (by rw [e])
          simp only [n1, if_false, n2, and_false]
      · have n1 : ¬ y.Rep.toNat = x.Rep.toNat := by omega
        have n2 : ¬ y = x := fun e' => e (by rw [e'])
        simp [n1, n2]
    · have n2 : ¬ y = x := fun e' => hy (by rw [e']; exact hg)
      have a1 : (p.set x v).at y = none := by
        unfold IP.at; rw [IP.set_reps]; simp [hy]
      have a2 : p.at y = none := by unfold IP.at; simp [hy]
      rw [a1, a2, if_neg (fun e => n2 e.2)]
  · have : p.set x v = p := by rw [IP.set, if_neg hg]
    rw [this, if_neg (fun e => hg e.1)]
theorem IP.at_good {p : IP} {x : TItem} {t : Int} (h : p.at x = some t) : goodI x p.reps = true := by
  unfold IP.at at h
  split at h
  · rename_i h'; exact h'.1
  · cases h
theorem IP.at_lt {p : IP} (hp : p.ok) {x : TItem} {t : Int} (h : p.at x = some t) : (x.Num - 1).toNat < p.top x.Rep := by
  have hg := goodI_spec (IP.at_good h)
  unfold IP.at at h
  split at h
  · rename_i h'
    have h2 := h'.2
    rw [List.getD_eq_getElem?_getD] at h2
    have hlt : (x.Num - 1).toNat < (p.h x.Rep.toNat).length := by
      rcases Nat.lt_or_ge (x.Num - 1).toNat (p.h x.Rep.toNat).length with q | q
      · exact q
      · rw [List.getElem?_eq_none q] at h2; cases h2
    rw [IP.top, if_pos ⟨hg.1, hg.2.1⟩, hp.same]
    exact hlt
  · cases h
/-- A replica's last one is there. -/
theorem IP.at_top {p : IP} (hp : p.ok) {k m : Nat} (h : p.top (k : Int) = m + 1) : (p.at ⟨(k : Int), (m : Int) + 1⟩).isSome = true := by
  unfold IP.top at h
  split at h
  · rename_i h'
    have h2 := hp.most k
    have hs := hp.same k
    have hl := hp.last k m (by rw [← hs]; simpa using h)
    have hi := hp.hi
    simp only [Int.toNat_natCast] at h
    have hg : goodI ⟨(k : Int), (m : Int) + 1⟩ p.reps = true := by
      simp only [goodI, Bool.and_eq_true, decide_eq_true_eq]; omega
    unfold IP.at
    have h3 : (p.h (⟨(k : Int), (m : Int) + 1⟩ : TItem).Rep.toNat).getD ((⟨(k : Int), (m : Int) + 1⟩ : TItem).Num - 1).toNat false = true := by
      simp [List.getD_eq_getElem?_getD, hl]
    rw [if_pos ⟨hg, h3⟩]
    rfl
  · cases h
theorem IP.mem_row {p : IP} {k m : Nat} {y : TItem × Int} : y ∈ p.row k m ↔ ∃ j, j < m ∧ y.1 = ⟨(k : Int), (j : Int) + 1⟩ ∧ p.at y.1 = some y.2 := by
  unfold IP.row
  simp only [List.mem_filterMap, List.mem_range, Option.map_eq_some_iff]
  constructor
  · rintro ⟨j, hj, t, ht, rfl⟩
    exact ⟨j, hj, rfl, ht⟩
  · rintro ⟨j, hj, h1, h2⟩
    refine ⟨j, hj, y.2, by rw [← h1]; exact h2, ?_⟩
    rw [← h1]
theorem IP.mem_upto {p : IP} {k : Nat} {y : TItem × Int} : y ∈ p.upto k ↔ ∃ i j : Nat, i < k ∧ j < p.top i ∧ y.1 = ⟨(i : Int), (j : Int) + 1⟩ ∧ p.at y.1 = some y.2 := by
  unfold IP.upto
  simp only [List.mem_flatMap, List.mem_range, IP.mem_row]
  constructor
  · rintro ⟨i, hi, j, hj, h⟩; exact ⟨i, j, hi, hj, h⟩
  · rintro ⟨i, j, hi, hj, h⟩; exact ⟨i, hi, j, hj, h⟩
theorem IP.mem_all {p : IP} (hp : p.ok) {y : TItem × Int} : y ∈ p.all ↔ p.at y.1 = some y.2 := by
  unfold IP.all
  rw [IP.mem_upto]
  constructor
  · rintro ⟨i, j, _, _, _, h⟩; exact h
  · intro h
    have hg := goodI_spec (IP.at_good h)
    have hl := IP.at_lt hp h
    have hi := hp.hi
    obtain ⟨⟨rep, num⟩, t⟩ := y
    simp only at hg hl h
    have e : (⟨rep, num⟩ : TItem) = ⟨(rep.toNat : Int), ((num - 1).toNat : Int) + 1⟩ := by
      simp only [TItem.mk.injEq]; omega
    have e2 : ((rep.toNat : Nat) : Int) = rep := by omega
    exact ⟨rep.toNat, (num - 1).toNat, by omega, by rw [e2]; exact hl, e, h⟩
/-- One place stands ahead of another one: by replicas, then by numbers. -/
def itemLt (x y : TItem) : Prop := x.Rep < y.Rep ∨ (x.Rep = y.Rep ∧ x.Num < y.Num)
theorem IP.row_sorted (p : IP) (k : Nat) : ∀ m, (p.row k m).Pairwise fun x y => itemLt x.1 y.1
  | 0 => by simp [IP.row]
  | m + 1 => by
    rw [IP.row_succ, List.pairwise_append]
    refine ⟨IP.row_sorted p k m, ?_, ?_⟩
    · cases p.at ⟨(k : Int), (m : Int) + 1⟩ <;> simp
    · intro x hx y hy
      obtain ⟨j, hj, h1, _⟩ := IP.mem_row.1 hx
      have : y.1 = ⟨(k : Int), (m : Int) + 1⟩ := by
        cases h : p.at ⟨(k : Int), (m : Int) + 1⟩ with
        | none => rw [h] at hy; simp at hy
        | some t => rw [h] at hy; simp at hy; rw [hy]
      rw [h1, this]
      right
      exact ⟨rfl, by show (j : Int) + 1 < (m : Int) + 1; omega⟩
theorem IP.upto_sorted (p : IP) : ∀ k, (p.upto k).Pairwise fun x y => itemLt x.1 y.1
  | 0 => by simp [IP.upto]
  | k + 1 => by
    rw [IP.upto_succ, List.pairwise_append]
    refine ⟨IP.upto_sorted p k, IP.row_sorted p k _, ?_⟩
    intro x hx y hy
    obtain ⟨i, j, hi, _, h1, _⟩ := IP.mem_upto.1 hx
    obtain ⟨j', _, h2, _⟩ := IP.mem_row.1 hy
    rw [h1, h2]
    left
    show (i : Int) < (k : Int)
    omega
theorem IP.all_sorted (p : IP) : p.all.Pairwise fun x y => itemLt x.1 y.1 := IP.upto_sorted p 7
theorem itemLt.ne {x y : TItem} (h : itemLt x y) : x ≠ y := by
  rintro rfl
  rcases h with h | h <;> omega
/-! ### The document's words -/
def lessI (a b : TItem) : Bool := if a.Num = b.Num then decide (a.Rep < b.Rep) else decide (a.Num < b.Num)
theorem item_less (a b : TItem) : Fun Try.prog 35 [A a.c, A b.c] (B (lessI a b)) := by
  refine Ct.enter Try.func35 rfl rfl fun W => ?_
  apply Wp.seq
  apply Wp.region
  refine WpL.o (O.bxA (fun p2 => ?_))
  refine WpL.o (O.bxA (fun p3 => ?_))
  refine WpL.v (V.as) ?_
  apply WpL.nil
  apply Out.seqN
  apply Wp.seq
  apply Wp.region
  refine WpL.v (V.fa tb) ?_
  refine WpL.v (V.ld1 tb) ?_
  refine WpL.v (V.fa tb) ?_
  refine WpL.v (V.ld1 tb) ?_
  refine WpL.v (V.cmp) ?_
  refine WpL.v (V.mv) ?_
  refine WpL.pt (fun hle0 => ?_) (fun hle0 => ?_)
  (try simp only [decide_eq_true_eq, decide_eq_false_iff_not, Bool.not_eq_true', Bool.not_eq_false', Bool.not_eq_true, Bool.not_eq_false, not_true_eq_false, not_false_eq_true, reduceCtorEq] at hle0)
  refine WpL.sk ?_
  refine WpL.sk ?_
  refine WpL.sk ?_
  refine WpL.sk ?_
  refine WpL.sk ?_
  refine WpL.sk ?_
  refine WpL.sk ?_
  refine WpL.sk ?_
  refine WpL.sk ?_
  refine WpL.sk ?_
  refine WpL.sk ?_
  refine WpL.sk ?_
  refine WpL.v (V.pT) ?_
  refine WpL.v (V.as) ?_
  apply WpL.nil
  apply Out.seqN
  apply Wp.ret
  refine Out.f1 rfl ResIs.t ⟨?_, rfl⟩
  focus ((unfold lessI; split <;> simp_all <;> omega); done)
  (try simp only [decide_eq_true_eq, decide_eq_false_iff_not, Bool.not_eq_true', Bool.not_eq_false', Bool.not_eq_true, Bool.not_eq_false, not_true_eq_false, not_false_eq_true, reduceCtorEq] at hle0)
  refine WpL.v (V.fa tb) ?_
  refine WpL.v (V.ld1 tb) ?_
  refine WpL.v (V.fa tb) ?_
  refine WpL.v (V.ld1 tb) ?_
  refine WpL.v (V.cmp) ?_
  refine WpL.v (V.mv) ?_
  refine WpL.pt (fun hle1 => ?_) (fun hle1 => ?_)
  (try simp only [decide_eq_true_eq, decide_eq_false_iff_not, Bool.not_eq_true', Bool.not_eq_false', Bool.not_eq_true, Bool.not_eq_false, not_true_eq_false, not_false_eq_true, reduceCtorEq] at hle1)
  refine WpL.v (V.fa tb) ?_
  refine WpL.v (V.ld1 tb) ?_
  refine WpL.v (V.fa tb) ?_
  refine WpL.v (V.ld1 tb) ?_
  refine WpL.v (V.cmp) ?_
  refine WpL.v (V.pT) ?_
  refine WpL.v (V.pF) ?_
  refine WpL.v (V.as) ?_
  apply WpL.nil
  apply Out.seqN
  apply Wp.ret
  refine Out.f1 rfl ResIs.t ⟨?_, rfl⟩
  focus ((unfold lessI; split <;> simp_all <;> omega); done)
  (try simp only [decide_eq_true_eq, decide_eq_false_iff_not, Bool.not_eq_true', Bool.not_eq_false', Bool.not_eq_true, Bool.not_eq_false, not_true_eq_false, not_false_eq_true, reduceCtorEq] at hle1)
  refine WpL.sk ?_
  refine WpL.sk ?_
  refine WpL.sk ?_
  refine WpL.sk ?_
  refine WpL.sk ?_
  refine WpL.v (V.pF) ?_
  refine WpL.v (V.pF) ?_
  refine WpL.v (V.as) ?_
  apply WpL.nil
  apply Out.seqN
  apply Wp.ret
  refine Out.f1 rfl ResIs.t ⟨?_, rfl⟩
  focus ((unfold lessI; split <;> simp_all <;> omega); done)
theorem ref3_good (x : TItem) (n : Int) : Fun Try.prog 37 [A x.c, I n] (B (goodI x n)) := by
  refine Ct.enter Try.func37 rfl rfl fun W => ?_
  apply Wp.seq
  apply Wp.region
  refine WpL.o (O.bxA (fun p2 => ?_))
  refine WpL.v (V.as) ?_
  apply WpL.nil
  apply Out.seqN
  apply Wp.seq
  apply Wp.region
  refine WpL.v (V.fa tb) ?_
  refine WpL.v (V.ld1 tb) ?_
  refine WpL.v (V.cmp) ?_
  refine WpL.v (V.mv) ?_
  refine WpL.pt (fun hrg0 => ?_) (fun hrg0 => ?_)
  (try simp only [decide_eq_true_eq, decide_eq_false_iff_not, Bool.not_eq_true', Bool.not_eq_false', Bool.not_eq_true, Bool.not_eq_false, not_true_eq_false, not_false_eq_true, reduceCtorEq] at hrg0)
  refine WpL.v (V.fa tb) ?_
  refine WpL.v (V.ld1 tb) ?_
  refine WpL.v (V.mv) ?_
  refine WpL.v (V.cmp) ?_
  refine WpL.v (V.pT) ?_
  refine WpL.v (V.mv) ?_
  refine WpL.pt (fun hrg1 => ?_) (fun hrg1 => ?_)
  (try simp only [decide_eq_true_eq, decide_eq_false_iff_not, Bool.not_eq_true', Bool.not_eq_false', Bool.not_eq_true, Bool.not_eq_false, not_true_eq_false, not_false_eq_true, reduceCtorEq] at hrg1)
  refine WpL.v (V.fa tb) ?_
  refine WpL.v (V.ld1 tb) ?_
  refine WpL.v (V.cmp) ?_
  refine WpL.v (V.pT) ?_
  refine WpL.v (V.mv) ?_
  refine WpL.pt (fun hrg2 => ?_) (fun hrg2 => ?_)
  (try simp only [decide_eq_true_eq, decide_eq_false_iff_not, Bool.not_eq_true', Bool.not_eq_false', Bool.not_eq_true, Bool.not_eq_false, not_true_eq_false, not_false_eq_true, reduceCtorEq] at hrg2)
  refine WpL.v (V.fa tb) ?_
  refine WpL.v (V.ld1 tb) ?_
  refine WpL.v (V.cmp) ?_
  refine WpL.v (V.pT) ?_
  refine WpL.v (V.as) ?_
  apply WpL.nil
  apply Out.seqN
  apply Wp.ret
  refine Out.f1 rfl ResIs.t ⟨?_, rfl⟩
  focus ((refine congrArg Go.Value.bool ?_; rw [Bool.eq_iff_iff]; simp only [goodI, Bool.and_eq_true, decide_eq_true_eq, Bool.false_eq_true]; first | omega | (constructor <;> intro h <;> first | omega | cases h)); done)
  (try simp only [decide_eq_true_eq, decide_eq_false_iff_not, Bool.not_eq_true', Bool.not_eq_false', Bool.not_eq_true, Bool.not_eq_false, not_true_eq_false, not_false_eq_true, reduceCtorEq] at hrg2)
  refine WpL.sk ?_
  refine WpL.sk ?_
  refine WpL.sk ?_
  refine WpL.v (V.pF) ?_
  refine WpL.v (V.as) ?_
  apply WpL.nil
  apply Out.seqN
  apply Wp.ret
  refine Out.f1 rfl ResIs.t ⟨?_, rfl⟩
  focus ((refine congrArg Go.Value.bool ?_; rw [Bool.eq_iff_iff]; simp only [goodI, Bool.and_eq_true, decide_eq_true_eq, Bool.false_eq_true]; first | omega | (constructor <;> intro h <;> first | omega | cases h)); done)
  (try simp only [decide_eq_true_eq, decide_eq_false_iff_not, Bool.not_eq_true', Bool.not_eq_false', Bool.not_eq_true, Bool.not_eq_false, not_true_eq_false, not_false_eq_true, reduceCtorEq] at hrg1)
  refine WpL.sk ?_
  refine WpL.sk ?_
  refine WpL.sk ?_
  refine WpL.v (V.pF) ?_
  refine WpL.v (V.mv) ?_
  refine WpL.sk ?_
  refine WpL.sk ?_
  refine WpL.sk ?_
  refine WpL.v (V.pF) ?_
  refine WpL.v (V.as) ?_
  apply WpL.nil
  apply Out.seqN
  apply Wp.ret
  refine Out.f1 rfl ResIs.t ⟨?_, rfl⟩
  focus ((refine congrArg Go.Value.bool ?_; rw [Bool.eq_iff_iff]; simp only [goodI, Bool.and_eq_true, decide_eq_true_eq, Bool.false_eq_true]; first | omega | (constructor <;> intro h <;> first | omega | cases h)); done)
  (try simp only [decide_eq_true_eq, decide_eq_false_iff_not, Bool.not_eq_true', Bool.not_eq_false', Bool.not_eq_true, Bool.not_eq_false, not_true_eq_false, not_false_eq_true, reduceCtorEq] at hrg0)
  refine WpL.sk ?_
  refine WpL.sk ?_
  refine WpL.sk ?_
  refine WpL.sk ?_
  refine WpL.v (V.pF) ?_
  refine WpL.v (V.mv) ?_
  refine WpL.sk ?_
  refine WpL.sk ?_
  refine WpL.sk ?_
  refine WpL.v (V.pF) ?_
  refine WpL.v (V.mv) ?_
  refine WpL.sk ?_
  refine WpL.sk ?_
  refine WpL.sk ?_
  refine WpL.v (V.pF) ?_
  refine WpL.v (V.as) ?_
  apply WpL.nil
  apply Out.seqN
  apply Wp.ret
  refine Out.f1 rfl ResIs.t ⟨?_, rfl⟩
  focus ((refine congrArg Go.Value.bool ?_; rw [Bool.eq_iff_iff]; simp only [goodI, Bool.and_eq_true, decide_eq_true_eq, Bool.false_eq_true]; first | omega | (constructor <;> intro h <;> first | omega | cases h)); done)
theorem ref3_less (a b : TItem) : Fun Try.prog 38 [A a.c, A b.c] (B (lessI a b)) := by
  refine Ct.enter Try.func38 rfl rfl fun W => ?_
  apply Wp.seq
  apply Wp.region
  refine WpL.o (O.bxA (fun p2 => ?_))
  refine WpL.o (O.bxA (fun p3 => ?_))
  refine WpL.v (V.as) ?_
  apply WpL.nil
  apply Out.seqN
  apply Wp.seq
  apply Wp.seq
  apply Wp.region
  refine WpL.v (V.fa tb) ?_
  refine WpL.v (V.ld1 tb) ?_
  refine WpL.v (V.fa tb) ?_
  refine WpL.v (V.ld1 tb) ?_
  refine WpL.v (V.cmp) ?_
  apply WpL.nil
  apply Out.seqN
  refine Wp.c (fun hrl0 => ?_) (fun hrl0 => ?_)
  (try simp only [decide_eq_true_eq, decide_eq_false_iff_not, Bool.not_eq_true', Bool.not_eq_false', Bool.not_eq_true, Bool.not_eq_false, not_true_eq_false, not_false_eq_true, reduceCtorEq] at hrl0)
  apply Wp.seq
  apply Wp.region
  refine WpL.v (V.fa tb) ?_
  refine WpL.v (V.ld1 tb) ?_
  refine WpL.v (V.fa tb) ?_
  refine WpL.v (V.ld1 tb) ?_
  refine WpL.v (V.cmp) ?_
  refine WpL.v (V.as) ?_
  apply WpL.nil
  apply Out.seqN
  apply Wp.ret
  apply Out.seqR
  refine Out.f1 rfl ResIs.t ⟨?_, rfl⟩
  focus ((simp [lessI, *]); done)
  (try simp only [decide_eq_true_eq, decide_eq_false_iff_not, Bool.not_eq_true', Bool.not_eq_false', Bool.not_eq_true, Bool.not_eq_false, not_true_eq_false, not_false_eq_true, reduceCtorEq] at hrl0)
  apply Wp.skip
  apply Out.seqN
  apply Wp.seq
  apply Wp.region
  refine WpL.v (V.fa tb) ?_
  refine WpL.v (V.ld1 tb) ?_
  refine WpL.v (V.fa tb) ?_
  refine WpL.v (V.ld1 tb) ?_
  refine WpL.v (V.cmp) ?_
  refine WpL.v (V.as) ?_
  apply WpL.nil
  apply Out.seqN
  apply Wp.ret
  refine Out.f1 rfl ResIs.t ⟨?_, rfl⟩
  focus ((simp [lessI, *]); done)
theorem alive03 : Fun Try.prog 25 [] (B true) := by
  have h0 := (IP.new_ok 3).towf
  have h1 := (IP.set_ok (IP.new_ok 3) ⟨1, 2⟩ 7).towf
  have e1 : (((IP.new 3).set ⟨1, 2⟩ 7).top 1 : Int) = 2 := by decide +kernel
  have e2 : (((IP.new 3).set ⟨1, 2⟩ 7).all.length : Int) = 1 := by decide +kernel
  refine Ct.enter Try.func25 rfl rfl fun W => ?_
  apply Wp.seq
  apply Wp.region
  refine WpL.v (V.as) ?_
  apply WpL.nil
  apply Out.seqN
  apply Wp.seq
  apply Wp.region
  refine WpL.o (Op1.callT rfl (item_new _) (by (repeat (first | exact Sel.nil | exact Rem.here | apply Sel.cons | apply Rem.there))) ?_)
  rintro v0 s1 ⟨b3, ⟨rfl, rfl⟩⟩
  refine incat ?_
  refine WpL.v (V.as) ?_
  apply WpL.nil
  apply Out.seqN
  apply Wp.seq
  apply Wp.region
  refine WpL.v (V.mv) ?_
  refine WpL.v (V.bld tb) ?_
  refine WpL.o (Op1.callT rfl (item_set _ _ _ _ _ _ ?_ ?_ ?_) (by (repeat (first | exact Sel.nil | exact Rem.here | apply Sel.cons | apply Rem.there))) ?_)
  (first | with_reducible assumption | omega | (simp only [List.length_append, List.length_cons, List.length_nil, List.length_map] at *; omega) | (focus (simp; done)))
  (first | with_reducible assumption | omega | (simp only [List.length_append, List.length_cons, List.length_nil, List.length_map] at *; omega) | (focus (simp; done)))
  (first | with_reducible assumption | omega | (simp only [List.length_append, List.length_cons, List.length_nil, List.length_map] at *; omega) | (focus (simp; done)))
  rintro v4 s5 ⟨vs'6, ⟨us'6, ⟨hx2, ⟨hx3, ⟨rfl, rfl⟩⟩⟩⟩⟩
  refine incat ?_
  refine WpL.v (V.as) ?_
  apply WpL.nil
  apply Out.seqN
  apply Wp.seq
  apply Wp.region
  refine WpL.v (V.mv) ?_
  refine WpL.v (V.mv) ?_
  refine WpL.v (V.mv) ?_
  refine WpL.o (Op1.callT rfl (item_top _ _ _ _ _ ?_ ?_ ?_) (by (repeat (first | exact Sel.nil | exact Rem.here | apply Sel.cons | apply Rem.there))) ?_)
  (first | with_reducible assumption | omega | (simp only [List.length_append, List.length_cons, List.length_nil, List.length_map] at *; omega) | (focus (simp; done)))
  (first | with_reducible assumption | omega | (simp only [List.length_append, List.length_cons, List.length_nil, List.length_map] at *; omega) | (focus (simp; done)))
  (first | with_reducible assumption | omega | (simp only [List.length_append, List.length_cons, List.length_nil, List.length_map] at *; omega) | (focus (simp; done)))
  rintro v6 s7 ⟨rfl, rfl⟩
  refine incat ?_
  refine WpL.v (V.cmp) ?_
  refine WpL.v (V.pT) ?_
  refine WpL.v (V.mv) ?_
  refine WpL.v (V.mv) ?_
  refine WpL.o (Op1.callT rfl (item_len _ _ _ _ ?_ ?_ ?_) (by (repeat (first | exact Sel.nil | exact Rem.here | apply Sel.cons | apply Rem.there))) ?_)
  (first | with_reducible assumption | omega | (simp only [List.length_append, List.length_cons, List.length_nil, List.length_map] at *; omega) | (focus (simp; done)))
  (first | with_reducible assumption | omega | (simp only [List.length_append, List.length_cons, List.length_nil, List.length_map] at *; omega) | (focus (simp; done)))
  (first | with_reducible assumption | omega | (simp only [List.length_append, List.length_cons, List.length_nil, List.length_map] at *; omega) | (focus (simp; done)))
  rintro v8 s9 ⟨rfl, rfl⟩
  refine incat ?_
  refine WpL.v (V.cmp) ?_
  refine WpL.v (V.pT) ?_
  refine WpL.v (V.as) ?_
  apply WpL.nil
  apply Out.seqN
  apply Wp.ret
  refine Out.f1 rfl ResIs.t ⟨?_, rfl⟩
  exact rfl
end Go.Proofs.Ytgbflapcadlelaa
