/-
  Layer 2: contracts of ballots: the greatest of a list, the next one, quorums.
-/
import Derived.Test.YtienlncaffliaaaLat
namespace Go.Proofs.Ytienlncaffliaaa
open Go.HL
set_option linter.unusedSimpArgs false
set_option linter.unusedVariables false
set_option maxRecDepth 8000
def faults (n : Int) : Int := (max n 1 - 1) / 2
def goodB (b : TBallot) (n : Int) : Bool := decide (0 ≤ b.Round ∧ b.Round ≤ 1099511627776 ∧ 0 ≤ b.Rep ∧ b.Rep < n)
def maxStep (m x : TBallot) : TBallot := if 0 < cmpBal x m then x else m
def maxOf : List TBallot → TBallot
  | [] => TBallot.z
  | x :: l => l.foldl maxStep x
theorem maxOf_take {xs : List TBallot} {k : Nat} (h1 : 1 ≤ k) (hk : k < xs.length) : maxOf (xs.take (k + 1)) = maxStep (maxOf (xs.take k)) (xs.getD k default) := by
  cases xs with
  | nil => simp at hk
  | cons x l =>
    obtain ⟨j, rfl⟩ : ∃ j, k = j + 1 := ⟨k - 1, by omega⟩
    have hj : j < l.length := by simpa using hk
    simp only [List.take_succ_cons, maxOf]
    rw [List.take_succ_eq_append_getElem hj, List.foldl_append]
    simp [hj]
theorem maxOf_one {xs : List TBallot} (h : 0 < xs.length) : maxOf (xs.take 1) = xs.getD 0 default := by
  cases xs with
  | nil => simp at h
  | cons x l => simp [maxOf]

theorem maxOf_snoc {xs : List TBallot} {x : TBallot} {k : Nat} (h1 : 1 ≤ k) (hx : xs[k]? = some x) : maxOf (xs.take (k + 1)) = maxStep (maxOf (xs.take k)) x := by
  have hk : k < xs.length := (List.getElem?_eq_some_iff.1 hx).1
  rw [maxOf_take h1 hk]
  congr 1
  simp [List.getD, hx]
theorem faults_any (n : Int) (h : n ≤ 9223372036854775807) : Fun Try.prog 69 [I n] (I (faults n)) := by
  refine Ct.enter Try.func69 rfl rfl fun W => ?_
  apply Wp.seq
  apply Wp.region
  refine WpL.v (V.as) ?_
  apply WpL.nil
  apply Out.seqN
  apply Wp.seq
  apply Wp.region
  refine WpL.v (V.mv) ?_
  refine WpL.v (V.max) ?_
  refine WpL.v (V.sub) ?_
  refine WpL.v (V.quo) ?_
  refine WpL.v (V.as) ?_
  apply WpL.nil
  apply Out.seqN
  apply Wp.ret
  refine Out.f1 rfl ResIs.t ⟨?_, rfl⟩
  exact rfl
theorem most_any (n : Int) (h : n ≤ 9223372036854775807) : Fun Try.prog 59 [I n] (I (faults n + 1)) := by
  have hf : 0 ≤ faults n ∧ faults n ≤ 4611686018427387903 := by unfold faults; omega
  refine Ct.enter Try.func59 rfl rfl fun W => ?_
  apply Wp.seq
  apply Wp.region
  refine WpL.v (V.as) ?_
  apply WpL.nil
  apply Out.seqN
  apply Wp.seq
  apply Wp.region
  refine WpL.v (V.mv) ?_
  refine WpL.o (Op1.fn rfl (faults_any _ ?_) ?_)
  (first | with_reducible assumption | omega | (simp only [List.length_append, List.length_cons, List.length_nil, List.length_map] at *; omega) | (focus (simp; done)))
  refine WpL.v (V.add) ?_
  refine WpL.v (V.as) ?_
  apply WpL.nil
  apply Out.seqN
  apply Wp.ret
  refine Out.f1 rfl ResIs.t ⟨?_, rfl⟩
  exact rfl
theorem fast_any (n : Int) (h : n ≤ 9223372036854775807) : Fun Try.prog 60 [I n] (I (2 * faults n)) := by
  have hf : 0 ≤ faults n ∧ faults n ≤ 4611686018427387903 := by unfold faults; omega
  refine Ct.enter Try.func60 rfl rfl fun W => ?_
  apply Wp.seq
  apply Wp.region
  refine WpL.v (V.as) ?_
  apply WpL.nil
  apply Out.seqN
  apply Wp.seq
  apply Wp.region
  refine WpL.v (V.mv) ?_
  refine WpL.o (Op1.fn rfl (faults_any _ ?_) ?_)
  (first | with_reducible assumption | omega | (simp only [List.length_append, List.length_cons, List.length_nil, List.length_map] at *; omega) | (focus (simp; done)))
  refine WpL.v (V.mul) ?_
  refine WpL.v (V.as) ?_
  apply WpL.nil
  apply Out.seqN
  apply Wp.ret
  refine Out.f1 rfl ResIs.t ⟨?_, rfl⟩
  exact rfl
theorem first_any (n : Int) : Fun Try.prog 34 [I n] (A (TBallot.mk 0 n).c) := by
  refine Ct.enter Try.func34 rfl rfl fun W => ?_
  apply Wp.seq
  apply Wp.region
  refine WpL.o (O.al tb (fun p2 => ?_))
  apply WpL.nil
  apply Out.seqN
  apply Wp.seq
  apply Wp.region
  refine WpL.v (V.mv) ?_
  refine WpL.v (V.bld tb) ?_
  refine WpL.o (O.stA tb ?_)
  apply WpL.nil
  apply Out.seqN
  apply Wp.ret
  refine Out.f1 rfl (ResIs.ca tb) ⟨?_, rfl⟩
  exact rfl
theorem good_any (b : TBallot) (n : Int) : Fun Try.prog 35 [A b.c, I n] (B (goodB b n)) := by
  refine Ct.enter Try.func35 rfl rfl fun W => ?_
  apply Wp.seq
  apply Wp.region
  refine WpL.o (O.bxA (fun p2 => ?_))
  refine WpL.v (V.as) ?_
  apply WpL.nil
  apply Out.seqN
  apply Wp.seq
  apply Wp.region
  refine WpL.v (V.fa tb) ?_
  refine WpL.v (V.ld1 tb) ?_
  refine WpL.v (V.cmp) ?_
  refine WpL.v (V.mv) ?_
  refine WpL.pt (fun hgo0 => ?_) (fun hgo0 => ?_)
  (try simp only [decide_eq_true_eq, decide_eq_false_iff_not, Bool.not_eq_true', Bool.not_eq_false', Bool.not_eq_true, Bool.not_eq_false, not_true_eq_false, not_false_eq_true, reduceCtorEq] at hgo0)
  refine WpL.v (V.fa tb) ?_
  refine WpL.v (V.ld1 tb) ?_
  refine WpL.v (V.cmp) ?_
  refine WpL.v (V.pT) ?_
  refine WpL.v (V.mv) ?_
  refine WpL.pt (fun hgo1 => ?_) (fun hgo1 => ?_)
  (try simp only [decide_eq_true_eq, decide_eq_false_iff_not, Bool.not_eq_true', Bool.not_eq_false', Bool.not_eq_true, Bool.not_eq_false, not_true_eq_false, not_false_eq_true, reduceCtorEq] at hgo1)
  refine WpL.v (V.fa tb) ?_
  refine WpL.v (V.ld1 tb) ?_
  refine WpL.v (V.cmp) ?_
  refine WpL.v (V.pT) ?_
  refine WpL.v (V.mv) ?_
  refine WpL.pt (fun hgo2 => ?_) (fun hgo2 => ?_)
  (try simp only [decide_eq_true_eq, decide_eq_false_iff_not, Bool.not_eq_true', Bool.not_eq_false', Bool.not_eq_true, Bool.not_eq_false, not_true_eq_false, not_false_eq_true, reduceCtorEq] at hgo2)
  refine WpL.v (V.fa tb) ?_
  refine WpL.v (V.ld1 tb) ?_
  refine WpL.v (V.mv) ?_
  refine WpL.v (V.cmp) ?_
  refine WpL.v (V.pT) ?_
  refine WpL.v (V.as) ?_
  apply WpL.nil
  apply Out.seqN
  apply Wp.ret
  refine Out.f1 rfl ResIs.t ⟨?_, rfl⟩
  focus ((simp_all [goodB] <;> omega); done)
  (try simp only [decide_eq_true_eq, decide_eq_false_iff_not, Bool.not_eq_true', Bool.not_eq_false', Bool.not_eq_true, Bool.not_eq_false, not_true_eq_false, not_false_eq_true, reduceCtorEq] at hgo2)
  refine WpL.sk ?_
  refine WpL.sk ?_
  refine WpL.sk ?_
  refine WpL.sk ?_
  refine WpL.v (V.pF) ?_
  refine WpL.v (V.as) ?_
  apply WpL.nil
  apply Out.seqN
  apply Wp.ret
  refine Out.f1 rfl ResIs.t ⟨?_, rfl⟩
  focus ((simp_all [goodB] <;> omega); done)
  (try simp only [decide_eq_true_eq, decide_eq_false_iff_not, Bool.not_eq_true', Bool.not_eq_false', Bool.not_eq_true, Bool.not_eq_false, not_true_eq_false, not_false_eq_true, reduceCtorEq] at hgo1)
  refine WpL.sk ?_
  refine WpL.sk ?_
  refine WpL.sk ?_
  refine WpL.v (V.pF) ?_
  refine WpL.v (V.mv) ?_
  refine WpL.sk ?_
  refine WpL.sk ?_
  refine WpL.sk ?_
  refine WpL.sk ?_
  refine WpL.v (V.pF) ?_
  refine WpL.v (V.as) ?_
  apply WpL.nil
  apply Out.seqN
  apply Wp.ret
  refine Out.f1 rfl ResIs.t ⟨?_, rfl⟩
  focus ((simp_all [goodB] <;> omega); done)
  (try simp only [decide_eq_true_eq, decide_eq_false_iff_not, Bool.not_eq_true', Bool.not_eq_false', Bool.not_eq_true, Bool.not_eq_false, not_true_eq_false, not_false_eq_true, reduceCtorEq] at hgo0)
  refine WpL.sk ?_
  refine WpL.sk ?_
  refine WpL.sk ?_
  refine WpL.v (V.pF) ?_
  refine WpL.v (V.mv) ?_
  refine WpL.sk ?_
  refine WpL.sk ?_
  refine WpL.sk ?_
  refine WpL.v (V.pF) ?_
  refine WpL.v (V.mv) ?_
  refine WpL.sk ?_
  refine WpL.sk ?_
  refine WpL.sk ?_
  refine WpL.sk ?_
  refine WpL.v (V.pF) ?_
  refine WpL.v (V.as) ?_
  apply WpL.nil
  apply Out.seqN
  apply Wp.ret
  refine Out.f1 rfl ResIs.t ⟨?_, rfl⟩
  focus ((simp_all [goodB] <;> omega); done)
theorem rgood_any (b : TBallot) (n : Int) : Fun Try.prog 36 [A b.c, I n] (B (goodB b n)) := by
  refine Ct.enter Try.func36 rfl rfl fun W => ?_
  apply Wp.seq
  apply Wp.region
  refine WpL.o (O.bxA (fun p2 => ?_))
  refine WpL.v (V.as) ?_
  apply WpL.nil
  apply Out.seqN
  apply Wp.seq
  apply Wp.region
  refine WpL.v (V.fa tb) ?_
  refine WpL.v (V.ld1 tb) ?_
  refine WpL.v (V.cmp) ?_
  refine WpL.v (V.mv) ?_
  refine WpL.pt (fun hrg0 => ?_) (fun hrg0 => ?_)
  (try simp only [decide_eq_true_eq, decide_eq_false_iff_not, Bool.not_eq_true', Bool.not_eq_false', Bool.not_eq_true, Bool.not_eq_false, not_true_eq_false, not_false_eq_true, reduceCtorEq] at hrg0)
  refine WpL.v (V.fa tb) ?_
  refine WpL.v (V.ld1 tb) ?_
  refine WpL.v (V.cmp) ?_
  refine WpL.v (V.pT) ?_
  refine WpL.v (V.mv) ?_
  refine WpL.pt (fun hrg1 => ?_) (fun hrg1 => ?_)
  (try simp only [decide_eq_true_eq, decide_eq_false_iff_not, Bool.not_eq_true', Bool.not_eq_false', Bool.not_eq_true, Bool.not_eq_false, not_true_eq_false, not_false_eq_true, reduceCtorEq] at hrg1)
  refine WpL.v (V.fa tb) ?_
  refine WpL.v (V.ld1 tb) ?_
  refine WpL.v (V.cmp) ?_
  refine WpL.v (V.pT) ?_
  refine WpL.v (V.mv) ?_
  refine WpL.pt (fun hrg2 => ?_) (fun hrg2 => ?_)
  (try simp only [decide_eq_true_eq, decide_eq_false_iff_not, Bool.not_eq_true', Bool.not_eq_false', Bool.not_eq_true, Bool.not_eq_false, not_true_eq_false, not_false_eq_true, reduceCtorEq] at hrg2)
  refine WpL.v (V.fa tb) ?_
  refine WpL.v (V.ld1 tb) ?_
  refine WpL.v (V.mv) ?_
  refine WpL.v (V.cmp) ?_
  refine WpL.v (V.pT) ?_
  refine WpL.v (V.as) ?_
  apply WpL.nil
  apply Out.seqN
  apply Wp.ret
  refine Out.f1 rfl ResIs.t ⟨?_, rfl⟩
  focus ((simp_all [goodB] <;> omega); done)
  (try simp only [decide_eq_true_eq, decide_eq_false_iff_not, Bool.not_eq_true', Bool.not_eq_false', Bool.not_eq_true, Bool.not_eq_false, not_true_eq_false, not_false_eq_true, reduceCtorEq] at hrg2)
  refine WpL.sk ?_
  refine WpL.sk ?_
  refine WpL.sk ?_
  refine WpL.sk ?_
  refine WpL.v (V.pF) ?_
  refine WpL.v (V.as) ?_
  apply WpL.nil
  apply Out.seqN
  apply Wp.ret
  refine Out.f1 rfl ResIs.t ⟨?_, rfl⟩
  focus ((simp_all [goodB] <;> omega); done)
  (try simp only [decide_eq_true_eq, decide_eq_false_iff_not, Bool.not_eq_true', Bool.not_eq_false', Bool.not_eq_true, Bool.not_eq_false, not_true_eq_false, not_false_eq_true, reduceCtorEq] at hrg1)
  refine WpL.sk ?_
  refine WpL.sk ?_
  refine WpL.sk ?_
  refine WpL.v (V.pF) ?_
  refine WpL.v (V.mv) ?_
  refine WpL.sk ?_
  refine WpL.sk ?_
  refine WpL.sk ?_
  refine WpL.sk ?_
  refine WpL.v (V.pF) ?_
  refine WpL.v (V.as) ?_
  apply WpL.nil
  apply Out.seqN
  apply Wp.ret
  refine Out.f1 rfl ResIs.t ⟨?_, rfl⟩
  focus ((simp_all [goodB] <;> omega); done)
  (try simp only [decide_eq_true_eq, decide_eq_false_iff_not, Bool.not_eq_true', Bool.not_eq_false', Bool.not_eq_true, Bool.not_eq_false, not_true_eq_false, not_false_eq_true, reduceCtorEq] at hrg0)
  refine WpL.sk ?_
  refine WpL.sk ?_
  refine WpL.sk ?_
  refine WpL.v (V.pF) ?_
  refine WpL.v (V.mv) ?_
  refine WpL.sk ?_
  refine WpL.sk ?_
  refine WpL.sk ?_
  refine WpL.v (V.pF) ?_
  refine WpL.v (V.mv) ?_
  refine WpL.sk ?_
  refine WpL.sk ?_
  refine WpL.sk ?_
  refine WpL.sk ?_
  refine WpL.v (V.pF) ?_
  refine WpL.v (V.as) ?_
  apply WpL.nil
  apply Out.seqN
  apply Wp.ret
  refine Out.f1 rfl ResIs.t ⟨?_, rfl⟩
  focus ((simp_all [goodB] <;> omega); done)
theorem maxFunc_any (e : Ent) (ao : Option Go.Addr) (cap b off : Nat) (xs : List TBallot) (hR : Rd e ao xs.length b off 2 (xs.map TBallot.c)) (hpos : 0 < xs.length) :
    Ct Try.prog 61 [.slice ao xs.length cap, .func (.func 32) #[] #[]] [e] (fun v σ' => v = A (maxOf xs).c ∧ σ' = [e]) := by
  have hm := hR.len
  obtain ⟨x0, hx0⟩ := getS hpos
  have h0 : maxOf (xs.take 1) = x0 := by rw [maxOf_one hpos]; simp [List.getD, hx0]
  refine Ct.enter Try.func61 rfl rfl fun W => ?_
  apply Wp.seq
  apply Wp.region
  refine WpL.o (O.al tb (fun p4 => ?_))
  apply WpL.nil
  apply Out.seqN
  apply Wp.seq
  apply Wp.seq
  apply Wp.region
  refine WpL.v (V.mv) ?_
  refine WpL.v (V.lenL tb) ?_
  refine WpL.v (V.cmp) ?_
  apply WpL.nil
  apply Out.seqN
  refine Wp.c (fun hmf0 => ?_) (fun hmf0 => ?_)
  (try simp only [decide_eq_true_eq, decide_eq_false_iff_not, Bool.not_eq_true', Bool.not_eq_false', Bool.not_eq_true, Bool.not_eq_false, not_true_eq_false, not_false_eq_true, reduceCtorEq] at hmf0)
  (exfalso; omega)
  (try simp only [decide_eq_true_eq, decide_eq_false_iff_not, Bool.not_eq_true', Bool.not_eq_false', Bool.not_eq_true, Bool.not_eq_false, not_true_eq_false, not_false_eq_true, reduceCtorEq] at hmf0)
  apply Wp.skip
  apply Out.seqN
  apply Wp.seq
  apply Wp.region
  refine WpL.v (V.mv) ?_
  refine WpL.v (V.ixR tb rfl rfl (by assumption)) ?_
  refine WpL.v (V.ldRA tb rfl (by assumption) (getMapS (by assumption))) ?_
  refine WpL.o (O.al tb (fun p5 => ?_))
  refine WpL.o (O.stA tb ?_)
  apply WpL.nil
  apply Out.seqN
  apply Wp.seq
  apply Wp.seq
  apply Wp.region
  refine WpL.v (V.as) ?_
  apply WpL.nil
  apply Out.seqN
  apply Wp.block
  refine Wp.lp [5, 4, 0, 1] (fun k : Nat => 1 ≤ k ∧ k ≤ xs.length) (fun k => [(6, I (k : Int))]) (fun k => [cells p5 37 (maxOf (xs.take k)).c]) (fun k => xs.length - k) 1 ⟨Nat.le_refl _, hpos⟩ ?_ (hs := by rw [h0]; exact Sel.cons Rem.here Sel.nil)
  rintro k ⟨h1, hk⟩ K hK
  dsimp only [List.cons_append, List.nil_append]
  by_cases hlt : k < xs.length
  · obtain ⟨x, hx⟩ := getS hlt
    have e1 := maxOf_snoc h1 hx
    apply Wp.seq
    apply Wp.seq
    apply Wp.region
    refine WpL.v (V.mv) ?_
    refine WpL.v (V.mv) ?_
    refine WpL.v (V.lenL tb) ?_
    refine WpL.v (V.cmp) ?_
    apply WpL.nil
    apply Out.seqN
    refine Wp.c (fun hmg0 => ?_) (fun hmg0 => ?_)
    (try simp only [decide_eq_true_eq, decide_eq_false_iff_not, Bool.not_eq_true', Bool.not_eq_false', Bool.not_eq_true, Bool.not_eq_false, not_true_eq_false, not_false_eq_true, reduceCtorEq] at hmg0)
    apply Wp.skip
    apply Out.seqN
    apply Wp.seq
    apply Wp.block
    apply Wp.seq
    refine Wp.dG [] ?_ (List.Sublist.cons_cons _ (List.Sublist.cons _ (List.Sublist.cons_cons _ List.Sublist.slnil)))
    refine WpA.t 0 rfl (V.mv) ?_
    refine WpA.t 1 rfl (V.mv) ?_
    refine WpA.t 2 rfl (V.mv) ?_
    refine WpA.t 3 rfl (V.ixR tb rfl rfl (by assumption)) ?_
    refine WpA.t 4 rfl (V.ldRA tb rfl (by assumption) (getMapS (by assumption))) ?_
    refine WpA.t 5 rfl (V.ldA tb) ?_
    refine WpA.oS 6 rfl (Op1.fnV rfl rfl (compare_any _ _) ⟨?_, ?_⟩)
    exact holdT
    refine WpA.t 7 rfl (V.cmp) ?_
    refine WpA.ou ?_
    apply Out.seqN
    refine Wp.c (fun hmg1 => ?_) (fun hmg1 => ?_)
    (try simp only [decide_eq_true_eq, decide_eq_false_iff_not, Bool.not_eq_true', Bool.not_eq_false', Bool.not_eq_true, Bool.not_eq_false, not_true_eq_false, not_false_eq_true, reduceCtorEq] at hmg1)
    apply Wp.region
    refine WpL.v (V.mv) ?_
    refine WpL.v (V.mv) ?_
    refine WpL.v (V.ixR tb rfl rfl (by assumption)) ?_
    refine WpL.v (V.ldRA tb rfl (by assumption) (getMapS (by assumption))) ?_
    refine WpL.o (O.stA tb ?_)
    apply WpL.nil
    apply Out.blockN
    apply Out.seqN
    apply Wp.region
    refine WpL.v (V.mv) ?_
    refine WpL.v (V.add) ?_
    refine WpL.v (V.as) ?_
    apply WpL.nil
    rotate_left
    (try simp only [decide_eq_true_eq, decide_eq_false_iff_not, Bool.not_eq_true', Bool.not_eq_false', Bool.not_eq_true, Bool.not_eq_false, not_true_eq_false, not_false_eq_true, reduceCtorEq] at hmg1)
    apply Wp.skip
    apply Out.blockN
    apply Out.seqN
    apply Wp.region
    refine WpL.v (V.mv) ?_
    refine WpL.v (V.add) ?_
    refine WpL.v (V.as) ?_
    apply WpL.nil
    rotate_left
    (try simp only [decide_eq_true_eq, decide_eq_false_iff_not, Bool.not_eq_true', Bool.not_eq_false', Bool.not_eq_true, Bool.not_eq_false, not_true_eq_false, not_false_eq_true, reduceCtorEq] at hmg0)
    (exfalso; omega)
    · rw [maxStep, if_pos (by assumption)] at e1
      rw [← e1]
      exact Out.ag hK (k + 1) ⟨by omega, by omega⟩ (by omega)
    · rw [maxStep, if_neg (by assumption)] at e1
      rw [← e1]
      exact Out.ag hK (k + 1) ⟨by omega, by omega⟩ (by omega)
  · obtain rfl : k = xs.length := by omega
    rw [List.take_length]
    apply Wp.seq
    apply Wp.seq
    apply Wp.region
    refine WpL.v (V.mv) ?_
    refine WpL.v (V.mv) ?_
    refine WpL.v (V.lenL tb) ?_
    refine WpL.v (V.cmp) ?_
    apply WpL.nil
    apply Out.seqN
    refine Wp.c (fun hmh0 => ?_) (fun hmh0 => ?_)
    (try simp only [decide_eq_true_eq, decide_eq_false_iff_not, Bool.not_eq_true', Bool.not_eq_false', Bool.not_eq_true, Bool.not_eq_false, not_true_eq_false, not_false_eq_true, reduceCtorEq] at hmh0)
    (exfalso; omega)
    (try simp only [decide_eq_true_eq, decide_eq_false_iff_not, Bool.not_eq_true', Bool.not_eq_false', Bool.not_eq_true, Bool.not_eq_false, not_true_eq_false, not_false_eq_true, reduceCtorEq] at hmh0)
    apply Wp.exit
    apply Out.seqE
    apply Out.seqE
    apply Out.blockE
    apply Out.seqN
    apply Wp.seq
    apply Wp.region
    refine WpL.v (V.ldA tb) ?_
    refine WpL.o (O.stA tb ?_)
    apply WpL.nil
    apply Out.seqN
    apply Wp.ret
    refine Out.f1 rfl (ResIs.ca tb) ⟨?_, rfl⟩
    exact rfl
theorem max_any (e : Ent) (ao : Option Go.Addr) (cap b off : Nat) (xs : List TBallot) (hR : Rd e ao xs.length b off 2 (xs.map TBallot.c)) :
    Ct Try.prog 29 [.slice ao xs.length cap] [e] (fun v σ' => v = A (maxOf xs).c ∧ σ' = [e]) := by
  by_cases hpos : 0 < xs.length
  · have hM := maxFunc_any e ao cap b off xs hR hpos
    refine Ct.enter Try.func29 rfl rfl fun W => ?_
    apply Wp.seq
    apply Wp.region
    refine WpL.o (O.al tb (fun p2 => ?_))
    apply WpL.nil
    apply Out.seqN
    apply Wp.seq
    apply Wp.seq
    apply Wp.region
    refine WpL.v (V.mv) ?_
    refine WpL.v (V.lenL tb) ?_
    refine WpL.v (V.cmp) ?_
    apply WpL.nil
    apply Out.seqN
    refine Wp.c (fun hma0 => ?_) (fun hma0 => ?_)
    (try simp only [decide_eq_true_eq, decide_eq_false_iff_not, Bool.not_eq_true', Bool.not_eq_false', Bool.not_eq_true, Bool.not_eq_false, not_true_eq_false, not_false_eq_true, reduceCtorEq] at hma0)
    (exfalso; omega)
    (try simp only [decide_eq_true_eq, decide_eq_false_iff_not, Bool.not_eq_true', Bool.not_eq_false', Bool.not_eq_true, Bool.not_eq_false, not_true_eq_false, not_false_eq_true, reduceCtorEq] at hma0)
    apply Wp.skip
    apply Out.seqN
    apply Wp.seq
    apply Wp.region
    refine WpL.v (V.mv) ?_
    refine WpL.o (Op1.callT rfl (hM) (by (repeat (first | exact Sel.nil | exact Rem.here | apply Sel.cons | apply Rem.there))) ?_)
    rintro v1 s2 ⟨rfl, rfl⟩
    refine incat ?_
    refine WpL.o (O.stA tb ?_)
    apply WpL.nil
    apply Out.seqN
    apply Wp.ret
    refine Out.f1 rfl (ResIs.ca tb) ⟨?_, rfl⟩
    exact rfl
  · obtain rfl : xs = [] := List.eq_nil_of_length_eq_zero (by omega)
    refine Ct.enter Try.func29 rfl rfl fun W => ?_
    apply Wp.seq
    apply Wp.region
    refine WpL.o (O.al tb (fun p2 => ?_))
    apply WpL.nil
    apply Out.seqN
    apply Wp.seq
    apply Wp.seq
    apply Wp.region
    refine WpL.v (V.mv) ?_
    refine WpL.v (V.lenL tb) ?_
    refine WpL.v (V.cmp) ?_
    apply WpL.nil
    apply Out.seqN
    refine Wp.cT ?_
    apply Wp.seq
    apply Wp.region
    refine WpL.v (V.bld tb) ?_
    refine WpL.o (O.stA tb ?_)
    apply WpL.nil
    apply Out.seqN
    apply Wp.ret
    apply Out.seqR
    refine Out.f1 rfl (ResIs.ca tb) ⟨?_, rfl⟩
    exact rfl
def nextB (rep : Int) (xs : List TBallot) : TBallot := if refLess (maxOf xs) ⟨max (maxOf xs).Round 1, rep⟩ then ⟨max (maxOf xs).Round 1, rep⟩ else ⟨max (maxOf xs).Round 1 + 1, rep⟩
theorem next_any (e : Ent) (ao : Option Go.Addr) (cap b off : Nat) (rep : Int) (xs : List TBallot) (hR : Rd e ao xs.length b off 2 (xs.map TBallot.c)) (hb : (maxOf xs).Round ≤ 4611686018427387904) :
    Ct Try.prog 28 [I rep, .slice ao xs.length cap] [e] (fun v σ' => v = A (nextB rep xs).c ∧ σ' = [e]) := by
  have hM := max_any e ao cap b off xs hR
  refine Ct.enter Try.func28 rfl rfl fun W => ?_
  apply Wp.seq
  apply Wp.region
  refine WpL.o (O.al tb (fun p4 => ?_))
  apply WpL.nil
  apply Out.seqN
  apply Wp.seq
  apply Wp.region
  refine WpL.v (V.mv) ?_
  refine WpL.o (Op1.callT rfl (hM) (by (repeat (first | exact Sel.nil | exact Rem.here | apply Sel.cons | apply Rem.there))) ?_)
  rintro v0 s1 ⟨rfl, rfl⟩
  refine incat ?_
  refine WpL.o (O.al tb (fun p5 => ?_))
  refine WpL.o (O.stA tb ?_)
  apply WpL.nil
  apply Out.seqN
  apply Wp.seq
  apply Wp.region
  refine WpL.v (V.fa tb) ?_
  refine WpL.v (V.ld1 tb) ?_
  refine WpL.v (V.max) ?_
  refine WpL.v (V.mv) ?_
  refine WpL.v (V.bld tb) ?_
  refine WpL.o (O.al tb (fun p6 => ?_))
  refine WpL.o (O.stA tb ?_)
  apply WpL.nil
  apply Out.seqN
  apply Wp.seq
  apply Wp.seq
  apply Wp.region
  refine WpL.v (V.ldA tb) ?_
  refine WpL.v (V.ldA tb) ?_
  refine WpL.o (Op1.fn rfl (less_any _ _) ?_)
  refine WpL.v (V.not) ?_
  apply WpL.nil
  apply Out.seqN
  refine Wp.c (fun hne2 => ?_) (fun hne2 => ?_)
  (try simp only [decide_eq_true_eq, decide_eq_false_iff_not, Bool.not_eq_true', Bool.not_eq_false', Bool.not_eq_true, Bool.not_eq_false, not_true_eq_false, not_false_eq_true, reduceCtorEq] at hne2)
  apply Wp.region
  refine WpL.v (V.fa tb) ?_
  refine WpL.v (V.ld1 tb) ?_
  refine WpL.v (V.add) ?_
  refine WpL.v (V.fa tb) ?_
  refine WpL.o (O.st1 tb ?_)
  apply WpL.nil
  apply Out.seqN
  apply Wp.seq
  apply Wp.region
  refine WpL.v (V.ldA tb) ?_
  refine WpL.o (O.stA tb ?_)
  apply WpL.nil
  apply Out.seqN
  apply Wp.ret
  refine Out.f1 rfl (ResIs.ca tb) ⟨?_, rfl⟩
  rotate_left
  (try simp only [decide_eq_true_eq, decide_eq_false_iff_not, Bool.not_eq_true', Bool.not_eq_false', Bool.not_eq_true, Bool.not_eq_false, not_true_eq_false, not_false_eq_true, reduceCtorEq] at hne2)
  apply Wp.skip
  apply Out.seqN
  apply Wp.seq
  apply Wp.region
  refine WpL.v (V.ldA tb) ?_
  refine WpL.o (O.stA tb ?_)
  apply WpL.nil
  apply Out.seqN
  apply Wp.ret
  refine Out.f1 rfl (ResIs.ca tb) ⟨?_, rfl⟩
  rotate_left
  all_goals (unfold nextB; simp only [*]; first | exact ⟨_, _, ⟨rfl, rfl⟩, Sel.cons Rem.here Sel.nil⟩ | rfl)
theorem next_lit (x : TBallot) (g : Nat) (rep : Int) (hb : x.Round ≤ 4611686018427387904) :
    Ct Try.prog 28 [I rep, .slice (some ⟨g, 0, none⟩) 1 1] [row (.slice (some ⟨g, 0, none⟩) 1 1) 37 2 1 x.c] (fun v σ' => v = A (nextB rep [x]).c ∧ σ' = [row (.slice (some ⟨g, 0, none⟩) 1 1) 37 2 1 x.c]) :=
  next_any _ _ 1 g 0 rep [x] (Rd.lits (E := 37) (cap := 1) TBallot.c [x] rfl (by simp) (fun _ => rfl) (by simp)) (by simpa [maxOf] using hb)
theorem alive02 : Fun Try.prog 27 [] (B true) := by
  refine Ct.enter Try.func27 rfl rfl fun W => ?_
  apply Wp.seq
  apply Wp.region
  refine WpL.v (V.as) ?_
  apply WpL.nil
  apply Out.seqN
  apply Wp.seq
  apply Wp.region
  refine WpL.v (V.bld tb) ?_
  refine WpL.o (O.lit tb (fun p2 => ?_))
  refine WpL.o (Op1.callT rfl (next_lit (TBallot.mk 3 2) _ _ ?_) (by (repeat (first | exact Sel.nil | exact Rem.here | apply Sel.cons | apply Rem.there))) ?_)
  (first | with_reducible assumption | omega | (simp only [List.length_append, List.length_cons, List.length_nil, List.length_map] at *; omega) | (focus (simp; done)))
  rintro v0 s1 ⟨rfl, rfl⟩
  refine incat ?_
  refine WpL.v (V.bld tb) ?_
  refine WpL.v (V.eq (TBallot.eqT _ _ _)) ?_
  refine WpL.v (V.mv) ?_
  refine WpL.o (Op1.fn rfl (most_any 5 ?_) ?_)
  (first | with_reducible assumption | omega | (simp only [List.length_append, List.length_cons, List.length_nil, List.length_map] at *; omega) | (focus (simp; done)))
  refine WpL.v (V.cmp) ?_
  refine WpL.v (V.pT) ?_
  refine WpL.v (V.mv) ?_
  refine WpL.o (Op1.fn rfl (fast_any 5 ?_) ?_)
  (first | with_reducible assumption | omega | (simp only [List.length_append, List.length_cons, List.length_nil, List.length_map] at *; omega) | (focus (simp; done)))
  refine WpL.v (V.cmp) ?_
  refine WpL.v (V.pT) ?_
  refine WpL.v (V.as) ?_
  apply WpL.nil
  apply Out.seqN
  apply Wp.ret
  refine Out.f1 rfl ResIs.t ⟨?_, rfl⟩
  exact rfl
end Go.Proofs.Ytienlncaffliaaa
