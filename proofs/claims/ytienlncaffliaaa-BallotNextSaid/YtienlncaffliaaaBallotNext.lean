/-
  The statement BallotNext of layer 2: the next ballot is a replica's own, greater than all, and the least such. Proved for every input.
-/
import Derived.Test.YtienlncaffliaaaBal3
namespace Go.Proofs.Ytienlncaffliaaa
open Go.HL
set_option linter.unusedSimpArgs false
set_option linter.unusedVariables false
set_option maxRecDepth 8000
/-- A list's greatest is among the first k. -/
def oneK (m : TBallot) (xs : List TBallot) (k : Nat) : Bool := decide (m ∈ xs.take k)
def belowK (n : TBallot) (rep : Int) (xs : List TBallot) (k : Nat) : Bool := decide (n.Round = 1 ∨ ∃ x, x ∈ xs.take k ∧ ¬ refLess x ⟨n.Round - 1, rep⟩ = true)
theorem oneK_snoc {m x : TBallot} {xs : List TBallot} {k : Nat} (h : xs[k]? = some x) : oneK m xs (k + 1) = (oneK m xs k || decide (x = m)) := by
  unfold oneK
  rw [take_snocS h, Bool.eq_iff_iff]
  simp only [decide_eq_true_eq, Bool.or_eq_true, List.mem_append, List.mem_singleton]
  constructor <;> rintro (h | h) <;> first | exact .inl h | exact .inr h.symm
theorem belowK_snoc {n x : TBallot} {rep : Int} {xs : List TBallot} {k : Nat} (h : xs[k]? = some x) : belowK n rep xs (k + 1) = (belowK n rep xs k || !refLess x ⟨n.Round - 1, rep⟩) := by
  unfold belowK
  rw [take_snocS h, Bool.eq_iff_iff]
  simp only [decide_eq_true_eq, Bool.or_eq_true, List.mem_append, List.mem_singleton, Bool.not_eq_true', Bool.not_eq_true]
  constructor
  · rintro (h | ⟨y, hy | rfl, h2⟩)
    · exact .inl (.inl h)
    · exact .inl (.inr ⟨y, hy, h2⟩)
    · exact .inr h2
  · rintro ((h | ⟨y, hy, h2⟩) | h)
    · exact .inl h
    · exact .inr ⟨y, .inl hy, h2⟩
    · exact .inr ⟨x, .inr rfl, h⟩
theorem oneK_len (m : TBallot) (xs : List TBallot) : oneK m xs xs.length = decide (m ∈ xs) := by simp [oneK]
theorem belowK_len (n : TBallot) (rep : Int) (xs : List TBallot) : belowK n rep xs xs.length = decide (n.Round = 1 ∨ ∃ x, x ∈ xs ∧ ¬ refLess x ⟨n.Round - 1, rep⟩ = true) := by simp [belowK]
theorem ballotNext_walk (e : Ent) (ao : Option Go.Addr) (cap b off : Nat) (rep : Int) (xs : List TBallot) (hR : Rd e ao xs.length b off 2 (xs.map TBallot.c)) :
    Ct Try.prog 6 [I rep, .slice ao xs.length cap] [e] (fun v σ' => v = B true ∧ σ' = [e]) := by
  have hm := hR.small
  simp only [Go.maxLen] at hm
  refine Ct.enter Try.func6 rfl rfl fun W => ?_
  apply Wp.seq
  apply Wp.region
  refine WpL.v (V.as) ?_
  apply WpL.nil
  apply Out.seqN
  apply Wp.seq
  apply Wp.seq
  apply Wp.region
  refine WpL.o (Op1.fn rfl (alive02) ?_)
  refine WpL.v (V.not) ?_
  apply WpL.nil
  apply Out.seqN
  refine Wp.cF ?_
  apply Wp.skip
  apply Out.seqN
  apply Wp.seq
  apply Wp.seq
  apply Wp.region
  refine WpL.v (V.mv) ?_
  refine WpL.v (V.lenL tb) ?_
  refine WpL.v (V.cmp) ?_
  apply WpL.nil
  apply Out.seqN
  refine Wp.c (fun ha0 => ?_) (fun ha0 => ?_)
  (try simp only [decide_eq_true_eq, decide_eq_false_iff_not, Bool.not_eq_true', Bool.not_eq_false', Bool.not_eq_true, Bool.not_eq_false, not_true_eq_false, not_false_eq_true, reduceCtorEq] at ha0)
  apply Wp.seq
  apply Wp.region
  refine WpL.v (V.as) ?_
  apply WpL.nil
  apply Out.seqN
  apply Wp.ret
  apply Out.seqR
  refine Out.f1 rfl ResIs.t ⟨?_, rfl⟩
  exact rfl
  (try simp only [decide_eq_true_eq, decide_eq_false_iff_not, Bool.not_eq_true', Bool.not_eq_false', Bool.not_eq_true, Bool.not_eq_false, not_true_eq_false, not_false_eq_true, reduceCtorEq] at ha0)
  apply Wp.skip
  apply Out.seqN
  apply Wp.seq
  apply Wp.seq
  apply Wp.region
  refine WpL.v (V.mv) ?_
  refine WpL.v (V.lenL tb) ?_
  refine WpL.v (V.mv) ?_
  apply WpL.nil
  apply Out.seqN
  apply Wp.block
  refine Wp.lp [18, 19, 0, 1] (fun k : Nat => k ≤ xs.length ∧ ∀ x, x ∈ xs.take k → 0 ≤ x.Round ∧ x.Round ≤ 2199023255552) (fun k => [(20, I (k : Int))]) (fun k => []) (fun k => xs.length - k) 0 ⟨Nat.zero_le _, by simp⟩ ?_
  rintro k ⟨hk, hA⟩ K hK
  dsimp only [List.cons_append, List.nil_append]
  by_cases hlt : k < xs.length
  · obtain ⟨x, hx⟩ := getS hlt
    have e1 := take_snocS hx
    apply Wp.seq
    apply Wp.region
    refine WpL.v (V.cmp) ?_
    apply WpL.nil
    apply Out.seqN
    apply Wp.seq
    refine Wp.c (fun hb0 => ?_) (fun hb0 => ?_)
    (try simp only [decide_eq_true_eq, decide_eq_false_iff_not, Bool.not_eq_true', Bool.not_eq_false', Bool.not_eq_true, Bool.not_eq_false, not_true_eq_false, not_false_eq_true, reduceCtorEq] at hb0)
    apply Wp.skip
    apply Out.seqN
    apply Wp.seq
    apply Wp.block
    apply Wp.seq
    apply Wp.region
    refine WpL.v (V.ixR tb rfl rfl (by assumption)) ?_
    refine WpL.v (V.ldRA tb rfl (by assumption) (getMapS (by assumption))) ?_
    refine WpL.o (O.al tb (fun p6 => ?_))
    refine WpL.o (O.stA tb ?_)
    apply WpL.nil
    apply Out.seqN
    apply Wp.seq
    apply Wp.region
    refine WpL.v (V.fa tb) ?_
    refine WpL.v (V.ld1 tb) ?_
    refine WpL.v (V.cmp) ?_
    refine WpL.v (V.mv) ?_
    refine WpL.pt (fun hb1 => ?_) (fun hb1 => ?_)
    (try simp only [decide_eq_true_eq, decide_eq_false_iff_not, Bool.not_eq_true', Bool.not_eq_false', Bool.not_eq_true, Bool.not_eq_false, not_true_eq_false, not_false_eq_true, reduceCtorEq] at hb1)
    refine WpL.sk ?_
    refine WpL.sk ?_
    refine WpL.sk ?_
    refine WpL.v (V.pT) ?_
    apply WpL.nil
    apply Out.seqN
    refine Wp.cT ?_
    apply Wp.seq
    apply Wp.region
    refine WpL.v (V.as) ?_
    apply WpL.nil
    apply Out.seqN
    apply Wp.ret
    apply Out.blockR
    apply Out.seqR
    apply Out.seqR
    apply Out.blockR
    apply Out.seqR
    refine Out.f1 rfl ResIs.t ⟨?_, rfl⟩
    exact rfl
    (try simp only [decide_eq_true_eq, decide_eq_false_iff_not, Bool.not_eq_true', Bool.not_eq_false', Bool.not_eq_true, Bool.not_eq_false, not_true_eq_false, not_false_eq_true, reduceCtorEq] at hb1)
    refine WpL.v (V.fa tb) ?_
    refine WpL.v (V.ld1 tb) ?_
    refine WpL.v (V.cmp) ?_
    refine WpL.v (V.pF) ?_
    apply WpL.nil
    apply Out.seqN
    refine Wp.c (fun hb2 => ?_) (fun hb2 => ?_)
    (try simp only [decide_eq_true_eq, decide_eq_false_iff_not, Bool.not_eq_true', Bool.not_eq_false', Bool.not_eq_true, Bool.not_eq_false, not_true_eq_false, not_false_eq_true, reduceCtorEq] at hb2)
    apply Wp.seq
    apply Wp.region
    refine WpL.v (V.as) ?_
    apply WpL.nil
    apply Out.seqN
    apply Wp.ret
    apply Out.blockR
    apply Out.seqR
    apply Out.seqR
    apply Out.blockR
    apply Out.seqR
    refine Out.f1 rfl ResIs.t ⟨?_, rfl⟩
    exact rfl
    (try simp only [decide_eq_true_eq, decide_eq_false_iff_not, Bool.not_eq_true', Bool.not_eq_false', Bool.not_eq_true, Bool.not_eq_false, not_true_eq_false, not_false_eq_true, reduceCtorEq] at hb2)
    apply Wp.skip
    apply Out.blockN
    apply Out.seqN
    apply Wp.region
    refine WpL.v (V.add) ?_
    refine WpL.v (V.mv) ?_
    apply WpL.nil
    rotate_left
    (try simp only [decide_eq_true_eq, decide_eq_false_iff_not, Bool.not_eq_true', Bool.not_eq_false', Bool.not_eq_true, Bool.not_eq_false, not_true_eq_false, not_false_eq_true, reduceCtorEq] at hb0)
    (exfalso; omega)
    refine Out.ag hK (k + 1) ⟨by omega, ?_⟩ (by omega)
    intro y hy
    rw [e1] at hy
    rcases List.mem_append.1 hy with hy | hy
    · exact hA y hy
    · obtain rfl : y = x := by simpa using hy
      omega
  · obtain rfl : k = xs.length := by omega
    rw [List.take_length] at hA
    have hb1 : ∀ x, x ∈ xs → 0 ≤ x.Round ∧ x.Round ≤ 4611686018427387904 := fun x hx => ⟨(hA x hx).1, by have := (hA x hx).2; omega⟩
    obtain ⟨m1, m2⟩ := maxOf_law _ xs rfl
    have hb2 : (maxOf xs).Round ≤ 4611686018427387904 := by
      by_cases he : xs = []
      · subst he; simp [maxOf, TBallot.z]
      · exact (hb1 _ (m1 he)).2
    obtain ⟨n1, n2, n3, n4⟩ := nextB_law rep xs (fun x hx => (hA x hx).1)
    have hN := next_any e ao cap b off rep xs hR hb2
    have hM := max_any e ao cap b off xs hR
    have hF := refNext_any e ao cap b off rep xs hR hb1
    rw [refN_next rep _ xs rfl (fun x hx => (hA x hx).1)] at hF
    apply Wp.seq
    apply Wp.region
    refine WpL.v (V.cmp) ?_
    apply WpL.nil
    apply Out.seqN
    apply Wp.seq
    refine Wp.c (fun hc0 => ?_) (fun hc0 => ?_)
    (try simp only [decide_eq_true_eq, decide_eq_false_iff_not, Bool.not_eq_true', Bool.not_eq_false', Bool.not_eq_true, Bool.not_eq_false, not_true_eq_false, not_false_eq_true, reduceCtorEq] at hc0)
    (exfalso; omega)
    (try simp only [decide_eq_true_eq, decide_eq_false_iff_not, Bool.not_eq_true', Bool.not_eq_false', Bool.not_eq_true, Bool.not_eq_false, not_true_eq_false, not_false_eq_true, reduceCtorEq] at hc0)
    apply Wp.exit
    apply Out.seqE
    apply Out.seqE
    apply Out.blockE
    apply Out.seqN
    apply Wp.seq
    apply Wp.region
    refine WpL.v (V.mv) ?_
    refine WpL.v (V.mv) ?_
    refine WpL.o (Op1.callT rfl (hN) (by (repeat (first | exact Sel.nil | exact Rem.here | apply Sel.cons | apply Rem.there))) ?_)
    rintro v1 s2 ⟨rfl, rfl⟩
    refine incat ?_
    refine WpL.o (O.al tb (fun p7 => ?_))
    refine WpL.o (O.stA tb ?_)
    apply WpL.nil
    apply Out.seqN
    apply Wp.seq
    apply Wp.region
    refine WpL.v (V.mv) ?_
    refine WpL.o (Op1.callT rfl (hM) (by (repeat (first | exact Sel.nil | exact Rem.here | apply Sel.cons | apply Rem.there))) ?_)
    rintro v3 s4 ⟨rfl, rfl⟩
    refine incat ?_
    refine WpL.o (O.al tb (fun p8 => ?_))
    refine WpL.o (O.stA tb ?_)
    apply WpL.nil
    apply Out.seqN
    apply Wp.seq
    refine Wp.dG [] ?_ (List.Sublist.cons _ (List.Sublist.cons _ (List.Sublist.cons_cons _ List.Sublist.slnil)))
    refine WpA.t 0 rfl (V.fa tb) ?_
    refine WpA.t 1 rfl (V.ld1 tb) ?_
    refine WpA.t 2 rfl (V.cmp) ?_
    refine WpA.t 3 rfl (V.as) ?_
    refine WpA.t 4 rfl (V.as) ?_
    refine WpA.ou ?_
    apply Out.seqN
    apply Wp.seq
    apply Wp.seq
    apply Wp.region
    refine WpL.v (V.mv) ?_
    refine WpL.v (V.lenL tb) ?_
    refine WpL.v (V.mv) ?_
    apply WpL.nil
    apply Out.seqN
    apply Wp.block
    refine Wp.lp [42, 41, 8, 7, 0, 1] (fun s : Nat × Bool × Bool => s.1 ≤ xs.length ∧ s.2.1 = oneK (maxOf xs) xs s.1 ∧ s.2.2 = belowK (nextB rep xs) rep xs s.1) (fun s => [(43, I (s.1 : Int)), (10, B s.2.2), (9, B s.2.1)]) (fun s => [e]) (fun s => xs.length - s.1) (0, false, decide ((nextB rep xs).Round = 1)) ⟨Nat.zero_le _, by simp [oneK], by simp [belowK]⟩ ?_
    rintro ⟨k, one, below⟩ ⟨hk, h1, h2⟩ K hK
    dsimp only [List.cons_append, List.nil_append]
    dsimp only at hk h1 h2
    by_cases hlt : k < xs.length
    · obtain ⟨x, hx⟩ := getS hlt
      have hxm := List.mem_of_getElem? hx
      have e1 := oneK_snoc (m := maxOf xs) hx
      have e2 := belowK_snoc (n := nextB rep xs) (rep := rep) hx
      rw [← h1] at e1
      rw [← h2] at e2
      have i1 := n1 x hxm
      have i2 := m2 x hxm
      cases one <;> cases below
      · apply Wp.seq
        apply Wp.region
        refine WpL.v (V.cmp) ?_
        apply WpL.nil
        apply Out.seqN
        apply Wp.seq
        refine Wp.c (fun hd00 => ?_) (fun hd00 => ?_)
        (try simp only [decide_eq_true_eq, decide_eq_false_iff_not, Bool.not_eq_true', Bool.not_eq_false', Bool.not_eq_true, Bool.not_eq_false, not_true_eq_false, not_false_eq_true, reduceCtorEq] at hd00)
        apply Wp.skip
        apply Out.seqN
        apply Wp.seq
        apply Wp.block
        apply Wp.seq
        apply Wp.region
        refine WpL.v (V.ixR tb rfl rfl (by assumption)) ?_
        refine WpL.v (V.ldRA tb rfl (by assumption) (getMapS (by assumption))) ?_
        refine WpL.o (O.al tb (fun p12 => ?_))
        refine WpL.o (O.stA tb ?_)
        apply WpL.nil
        apply Out.seqN
        apply Wp.seq
        apply Wp.seq
        apply Wp.region
        refine WpL.v (V.ldA tb) ?_
        refine WpL.v (V.ldA tb) ?_
        refine WpL.o (Op1.fn rfl (refLess_any _ _) ?_)
        refine WpL.v (V.not) ?_
        refine WpL.v (V.mv) ?_
        refine WpL.pt (fun hd01 => ?_) (fun hd01 => ?_)
        (try simp only [decide_eq_true_eq, decide_eq_false_iff_not, Bool.not_eq_true', Bool.not_eq_false', Bool.not_eq_true, Bool.not_eq_false, not_true_eq_false, not_false_eq_true, reduceCtorEq] at hd01)
        refine WpL.sk ?_
        refine WpL.sk ?_
        refine WpL.sk ?_
        refine WpL.v (V.pT) ?_
        apply WpL.nil
        apply Out.seqN
        refine Wp.cT ?_
        apply Wp.seq
        apply Wp.region
        refine WpL.v (V.as) ?_
        apply WpL.nil
        apply Out.seqN
        apply Wp.ret
        apply Out.seqR
        apply Out.blockR
        apply Out.seqR
        apply Out.seqR
        apply Out.blockR
        apply Out.seqR
        refine Out.f1 rfl ResIs.t ⟨?_, rfl⟩
        rotate_left
        (try simp only [decide_eq_true_eq, decide_eq_false_iff_not, Bool.not_eq_true', Bool.not_eq_false', Bool.not_eq_true, Bool.not_eq_false, not_true_eq_false, not_false_eq_true, reduceCtorEq] at hd01)
        refine WpL.v (V.ldA tb) ?_
        refine WpL.v (V.ldA tb) ?_
        refine WpL.o (Op1.fn rfl (refLess_any _ _) ?_)
        refine WpL.v (V.pF) ?_
        apply WpL.nil
        apply Out.seqN
        refine Wp.c (fun hd02 => ?_) (fun hd02 => ?_)
        (try simp only [decide_eq_true_eq, decide_eq_false_iff_not, Bool.not_eq_true', Bool.not_eq_false', Bool.not_eq_true, Bool.not_eq_false, not_true_eq_false, not_false_eq_true, reduceCtorEq] at hd02)
        apply Wp.seq
        apply Wp.region
        refine WpL.v (V.as) ?_
        apply WpL.nil
        apply Out.seqN
        apply Wp.ret
        apply Out.seqR
        apply Out.blockR
        apply Out.seqR
        apply Out.seqR
        apply Out.blockR
        apply Out.seqR
        refine Out.f1 rfl ResIs.t ⟨?_, rfl⟩
        rotate_left
        (try simp only [decide_eq_true_eq, decide_eq_false_iff_not, Bool.not_eq_true', Bool.not_eq_false', Bool.not_eq_true, Bool.not_eq_false, not_true_eq_false, not_false_eq_true, reduceCtorEq] at hd02)
        apply Wp.skip
        apply Out.seqN
        apply Wp.seq
        apply Wp.region
        refine WpL.v (V.mv) ?_
        refine WpL.v (V.mv) ?_
        refine WpL.v (V.ldA tb) ?_
        refine WpL.v (V.ldA tb) ?_
        refine WpL.v (V.eq (TBallot.eqT _ _ _)) ?_
        refine WpL.v (V.pF) ?_
        refine WpL.v (V.as) ?_
        apply WpL.nil
        apply Out.seqN
        apply Wp.region
        refine WpL.v (V.mv) ?_
        refine WpL.v (V.mv) ?_
        refine WpL.v (V.ldA tb) ?_
        refine WpL.v (V.fa tb) ?_
        refine WpL.v (V.ld1 tb) ?_
        refine WpL.v (V.sub) ?_
        refine WpL.v (V.mv) ?_
        refine WpL.v (V.bld tb) ?_
        refine WpL.o (Op1.fn rfl (refLess_any _ _) ?_)
        refine WpL.v (V.not) ?_
        refine WpL.v (V.pF) ?_
        refine WpL.v (V.as) ?_
        apply WpL.nil
        apply Out.blockN
        apply Out.seqN
        apply Wp.region
        refine WpL.v (V.add) ?_
        refine WpL.v (V.mv) ?_
        apply WpL.nil
        rotate_left
        (try simp only [decide_eq_true_eq, decide_eq_false_iff_not, Bool.not_eq_true', Bool.not_eq_false', Bool.not_eq_true, Bool.not_eq_false, not_true_eq_false, not_false_eq_true, reduceCtorEq] at hd00)
        (exfalso; omega)
        all_goals first
          | exact Out.ag hK (k + 1, (false || decide (x = maxOf xs)), (false || !refLess x ⟨(nextB rep xs).Round - 1, rep⟩)) ⟨by dsimp only; omega, e1.symm, e2.symm⟩ (by dsimp only; omega)
          | (exfalso; simp_all; done)
      · apply Wp.seq
        apply Wp.region
        refine WpL.v (V.cmp) ?_
        apply WpL.nil
        apply Out.seqN
        apply Wp.seq
        refine Wp.c (fun hd10 => ?_) (fun hd10 => ?_)
        (try simp only [decide_eq_true_eq, decide_eq_false_iff_not, Bool.not_eq_true', Bool.not_eq_false', Bool.not_eq_true, Bool.not_eq_false, not_true_eq_false, not_false_eq_true, reduceCtorEq] at hd10)
        apply Wp.skip
        apply Out.seqN
        apply Wp.seq
        apply Wp.block
        apply Wp.seq
        apply Wp.region
        refine WpL.v (V.ixR tb rfl rfl (by assumption)) ?_
        refine WpL.v (V.ldRA tb rfl (by assumption) (getMapS (by assumption))) ?_
        refine WpL.o (O.al tb (fun p12 => ?_))
        refine WpL.o (O.stA tb ?_)
        apply WpL.nil
        apply Out.seqN
        apply Wp.seq
        apply Wp.seq
        apply Wp.region
        refine WpL.v (V.ldA tb) ?_
        refine WpL.v (V.ldA tb) ?_
        refine WpL.o (Op1.fn rfl (refLess_any _ _) ?_)
        refine WpL.v (V.not) ?_
        refine WpL.v (V.mv) ?_
        refine WpL.pt (fun hd11 => ?_) (fun hd11 => ?_)
        (try simp only [decide_eq_true_eq, decide_eq_false_iff_not, Bool.not_eq_true', Bool.not_eq_false', Bool.not_eq_true, Bool.not_eq_false, not_true_eq_false, not_false_eq_true, reduceCtorEq] at hd11)
        refine WpL.sk ?_
        refine WpL.sk ?_
        refine WpL.sk ?_
        refine WpL.v (V.pT) ?_
        apply WpL.nil
        apply Out.seqN
        refine Wp.cT ?_
        apply Wp.seq
        apply Wp.region
        refine WpL.v (V.as) ?_
        apply WpL.nil
        apply Out.seqN
        apply Wp.ret
        apply Out.seqR
        apply Out.blockR
        apply Out.seqR
        apply Out.seqR
        apply Out.blockR
        apply Out.seqR
        refine Out.f1 rfl ResIs.t ⟨?_, rfl⟩
        rotate_left
        (try simp only [decide_eq_true_eq, decide_eq_false_iff_not, Bool.not_eq_true', Bool.not_eq_false', Bool.not_eq_true, Bool.not_eq_false, not_true_eq_false, not_false_eq_true, reduceCtorEq] at hd11)
        refine WpL.v (V.ldA tb) ?_
        refine WpL.v (V.ldA tb) ?_
        refine WpL.o (Op1.fn rfl (refLess_any _ _) ?_)
        refine WpL.v (V.pF) ?_
        apply WpL.nil
        apply Out.seqN
        refine Wp.c (fun hd12 => ?_) (fun hd12 => ?_)
        (try simp only [decide_eq_true_eq, decide_eq_false_iff_not, Bool.not_eq_true', Bool.not_eq_false', Bool.not_eq_true, Bool.not_eq_false, not_true_eq_false, not_false_eq_true, reduceCtorEq] at hd12)
        apply Wp.seq
        apply Wp.region
        refine WpL.v (V.as) ?_
        apply WpL.nil
        apply Out.seqN
        apply Wp.ret
        apply Out.seqR
        apply Out.blockR
        apply Out.seqR
        apply Out.seqR
        apply Out.blockR
        apply Out.seqR
        refine Out.f1 rfl ResIs.t ⟨?_, rfl⟩
        rotate_left
        (try simp only [decide_eq_true_eq, decide_eq_false_iff_not, Bool.not_eq_true', Bool.not_eq_false', Bool.not_eq_true, Bool.not_eq_false, not_true_eq_false, not_false_eq_true, reduceCtorEq] at hd12)
        apply Wp.skip
        apply Out.seqN
        apply Wp.seq
        apply Wp.region
        refine WpL.v (V.mv) ?_
        refine WpL.v (V.mv) ?_
        refine WpL.v (V.ldA tb) ?_
        refine WpL.v (V.ldA tb) ?_
        refine WpL.v (V.eq (TBallot.eqT _ _ _)) ?_
        refine WpL.v (V.pF) ?_
        refine WpL.v (V.as) ?_
        apply WpL.nil
        apply Out.seqN
        apply Wp.region
        refine WpL.v (V.mv) ?_
        refine WpL.v (V.mv) ?_
        refine WpL.sk ?_
        refine WpL.sk ?_
        refine WpL.sk ?_
        refine WpL.sk ?_
        refine WpL.sk ?_
        refine WpL.sk ?_
        refine WpL.sk ?_
        refine WpL.sk ?_
        refine WpL.v (V.pT) ?_
        refine WpL.v (V.as) ?_
        apply WpL.nil
        apply Out.blockN
        apply Out.seqN
        apply Wp.region
        refine WpL.v (V.add) ?_
        refine WpL.v (V.mv) ?_
        apply WpL.nil
        rotate_left
        (try simp only [decide_eq_true_eq, decide_eq_false_iff_not, Bool.not_eq_true', Bool.not_eq_false', Bool.not_eq_true, Bool.not_eq_false, not_true_eq_false, not_false_eq_true, reduceCtorEq] at hd10)
        (exfalso; omega)
        all_goals first
          | exact Out.ag hK (k + 1, (false || decide (x = maxOf xs)), (true || !refLess x ⟨(nextB rep xs).Round - 1, rep⟩)) ⟨by dsimp only; omega, e1.symm, e2.symm⟩ (by dsimp only; omega)
          | (exfalso; simp_all; done)
      · apply Wp.seq
        apply Wp.region
        refine WpL.v (V.cmp) ?_
        apply WpL.nil
        apply Out.seqN
        apply Wp.seq
        refine Wp.c (fun hd20 => ?_) (fun hd20 => ?_)
        (try simp only [decide_eq_true_eq, decide_eq_false_iff_not, Bool.not_eq_true', Bool.not_eq_false', Bool.not_eq_true, Bool.not_eq_false, not_true_eq_false, not_false_eq_true, reduceCtorEq] at hd20)
        apply Wp.skip
        apply Out.seqN
        apply Wp.seq
        apply Wp.block
        apply Wp.seq
        apply Wp.region
        refine WpL.v (V.ixR tb rfl rfl (by assumption)) ?_
        refine WpL.v (V.ldRA tb rfl (by assumption) (getMapS (by assumption))) ?_
        refine WpL.o (O.al tb (fun p12 => ?_))
        refine WpL.o (O.stA tb ?_)
        apply WpL.nil
        apply Out.seqN
        apply Wp.seq
        apply Wp.seq
        apply Wp.region
        refine WpL.v (V.ldA tb) ?_
        refine WpL.v (V.ldA tb) ?_
        refine WpL.o (Op1.fn rfl (refLess_any _ _) ?_)
        refine WpL.v (V.not) ?_
        refine WpL.v (V.mv) ?_
        refine WpL.pt (fun hd21 => ?_) (fun hd21 => ?_)
        (try simp only [decide_eq_true_eq, decide_eq_false_iff_not, Bool.not_eq_true', Bool.not_eq_false', Bool.not_eq_true, Bool.not_eq_false, not_true_eq_false, not_false_eq_true, reduceCtorEq] at hd21)
        refine WpL.sk ?_
        refine WpL.sk ?_
        refine WpL.sk ?_
        refine WpL.v (V.pT) ?_
        apply WpL.nil
        apply Out.seqN
        refine Wp.cT ?_
        apply Wp.seq
        apply Wp.region
        refine WpL.v (V.as) ?_
        apply WpL.nil
        apply Out.seqN
        apply Wp.ret
        apply Out.seqR
        apply Out.blockR
        apply Out.seqR
        apply Out.seqR
        apply Out.blockR
        apply Out.seqR
        refine Out.f1 rfl ResIs.t ⟨?_, rfl⟩
        rotate_left
        (try simp only [decide_eq_true_eq, decide_eq_false_iff_not, Bool.not_eq_true', Bool.not_eq_false', Bool.not_eq_true, Bool.not_eq_false, not_true_eq_false, not_false_eq_true, reduceCtorEq] at hd21)
        refine WpL.v (V.ldA tb) ?_
        refine WpL.v (V.ldA tb) ?_
        refine WpL.o (Op1.fn rfl (refLess_any _ _) ?_)
        refine WpL.v (V.pF) ?_
        apply WpL.nil
        apply Out.seqN
        refine Wp.c (fun hd22 => ?_) (fun hd22 => ?_)
        (try simp only [decide_eq_true_eq, decide_eq_false_iff_not, Bool.not_eq_true', Bool.not_eq_false', Bool.not_eq_true, Bool.not_eq_false, not_true_eq_false, not_false_eq_true, reduceCtorEq] at hd22)
        apply Wp.seq
        apply Wp.region
        refine WpL.v (V.as) ?_
        apply WpL.nil
        apply Out.seqN
        apply Wp.ret
        apply Out.seqR
        apply Out.blockR
        apply Out.seqR
        apply Out.seqR
        apply Out.blockR
        apply Out.seqR
        refine Out.f1 rfl ResIs.t ⟨?_, rfl⟩
        rotate_left
        (try simp only [decide_eq_true_eq, decide_eq_false_iff_not, Bool.not_eq_true', Bool.not_eq_false', Bool.not_eq_true, Bool.not_eq_false, not_true_eq_false, not_false_eq_true, reduceCtorEq] at hd22)
        apply Wp.skip
        apply Out.seqN
        apply Wp.seq
        apply Wp.region
        refine WpL.v (V.mv) ?_
        refine WpL.v (V.mv) ?_
        refine WpL.sk ?_
        refine WpL.sk ?_
        refine WpL.sk ?_
        refine WpL.v (V.pT) ?_
        refine WpL.v (V.as) ?_
        apply WpL.nil
        apply Out.seqN
        apply Wp.region
        refine WpL.v (V.mv) ?_
        refine WpL.v (V.mv) ?_
        refine WpL.v (V.ldA tb) ?_
        refine WpL.v (V.fa tb) ?_
        refine WpL.v (V.ld1 tb) ?_
        refine WpL.v (V.sub) ?_
        refine WpL.v (V.mv) ?_
        refine WpL.v (V.bld tb) ?_
        refine WpL.o (Op1.fn rfl (refLess_any _ _) ?_)
        refine WpL.v (V.not) ?_
        refine WpL.v (V.pF) ?_
        refine WpL.v (V.as) ?_
        apply WpL.nil
        apply Out.blockN
        apply Out.seqN
        apply Wp.region
        refine WpL.v (V.add) ?_
        refine WpL.v (V.mv) ?_
        apply WpL.nil
        rotate_left
        (try simp only [decide_eq_true_eq, decide_eq_false_iff_not, Bool.not_eq_true', Bool.not_eq_false', Bool.not_eq_true, Bool.not_eq_false, not_true_eq_false, not_false_eq_true, reduceCtorEq] at hd20)
        (exfalso; omega)
        all_goals first
          | exact Out.ag hK (k + 1, (true || decide (x = maxOf xs)), (false || !refLess x ⟨(nextB rep xs).Round - 1, rep⟩)) ⟨by dsimp only; omega, e1.symm, e2.symm⟩ (by dsimp only; omega)
          | (exfalso; simp_all; done)
      · apply Wp.seq
        apply Wp.region
        refine WpL.v (V.cmp) ?_
        apply WpL.nil
        apply Out.seqN
        apply Wp.seq
        refine Wp.c (fun hd30 => ?_) (fun hd30 => ?_)
        (try simp only [decide_eq_true_eq, decide_eq_false_iff_not, Bool.not_eq_true', Bool.not_eq_false', Bool.not_eq_true, Bool.not_eq_false, not_true_eq_false, not_false_eq_true, reduceCtorEq] at hd30)
        apply Wp.skip
        apply Out.seqN
        apply Wp.seq
        apply Wp.block
        apply Wp.seq
        apply Wp.region
        refine WpL.v (V.ixR tb rfl rfl (by assumption)) ?_
        refine WpL.v (V.ldRA tb rfl (by assumption) (getMapS (by assumption))) ?_
        refine WpL.o (O.al tb (fun p12 => ?_))
        refine WpL.o (O.stA tb ?_)
        apply WpL.nil
        apply Out.seqN
        apply Wp.seq
        apply Wp.seq
        apply Wp.region
        refine WpL.v (V.ldA tb) ?_
        refine WpL.v (V.ldA tb) ?_
        refine WpL.o (Op1.fn rfl (refLess_any _ _) ?_)
        refine WpL.v (V.not) ?_
        refine WpL.v (V.mv) ?_
        refine WpL.pt (fun hd31 => ?_) (fun hd31 => ?_)
        (try simp only [decide_eq_true_eq, decide_eq_false_iff_not, Bool.not_eq_true', Bool.not_eq_false', Bool.not_eq_true, Bool.not_eq_false, not_true_eq_false, not_false_eq_true, reduceCtorEq] at hd31)
        refine WpL.sk ?_
        refine WpL.sk ?_
        refine WpL.sk ?_
        refine WpL.v (V.pT) ?_
        apply WpL.nil
        apply Out.seqN
        refine Wp.cT ?_
        apply Wp.seq
        apply Wp.region
        refine WpL.v (V.as) ?_
        apply WpL.nil
        apply Out.seqN
        apply Wp.ret
        apply Out.seqR
        apply Out.blockR
        apply Out.seqR
        apply Out.seqR
        apply Out.blockR
        apply Out.seqR
        refine Out.f1 rfl ResIs.t ⟨?_, rfl⟩
        rotate_left
        (try simp only [decide_eq_true_eq, decide_eq_false_iff_not, Bool.not_eq_true', Bool.not_eq_false', Bool.not_eq_true, Bool.not_eq_false, not_true_eq_false, not_false_eq_true, reduceCtorEq] at hd31)
        refine WpL.v (V.ldA tb) ?_
        refine WpL.v (V.ldA tb) ?_
        refine WpL.o (Op1.fn rfl (refLess_any _ _) ?_)
        refine WpL.v (V.pF) ?_
        apply WpL.nil
        apply Out.seqN
        refine Wp.c (fun hd32 => ?_) (fun hd32 => ?_)
        (try simp only [decide_eq_true_eq, decide_eq_false_iff_not, Bool.not_eq_true', Bool.not_eq_false', Bool.not_eq_true, Bool.not_eq_false, not_true_eq_false, not_false_eq_true, reduceCtorEq] at hd32)
        apply Wp.seq
        apply Wp.region
        refine WpL.v (V.as) ?_
        apply WpL.nil
        apply Out.seqN
        apply Wp.ret
        apply Out.seqR
        apply Out.blockR
        apply Out.seqR
        apply Out.seqR
        apply Out.blockR
        apply Out.seqR
        refine Out.f1 rfl ResIs.t ⟨?_, rfl⟩
        rotate_left
        (try simp only [decide_eq_true_eq, decide_eq_false_iff_not, Bool.not_eq_true', Bool.not_eq_false', Bool.not_eq_true, Bool.not_eq_false, not_true_eq_false, not_false_eq_true, reduceCtorEq] at hd32)
        apply Wp.skip
        apply Out.seqN
        apply Wp.seq
        apply Wp.region
        refine WpL.v (V.mv) ?_
        refine WpL.v (V.mv) ?_
        refine WpL.sk ?_
        refine WpL.sk ?_
        refine WpL.sk ?_
        refine WpL.v (V.pT) ?_
        refine WpL.v (V.as) ?_
        apply WpL.nil
        apply Out.seqN
        apply Wp.region
        refine WpL.v (V.mv) ?_
        refine WpL.v (V.mv) ?_
        refine WpL.sk ?_
        refine WpL.sk ?_
        refine WpL.sk ?_
        refine WpL.sk ?_
        refine WpL.sk ?_
        refine WpL.sk ?_
        refine WpL.sk ?_
        refine WpL.sk ?_
        refine WpL.v (V.pT) ?_
        refine WpL.v (V.as) ?_
        apply WpL.nil
        apply Out.blockN
        apply Out.seqN
        apply Wp.region
        refine WpL.v (V.add) ?_
        refine WpL.v (V.mv) ?_
        apply WpL.nil
        rotate_left
        (try simp only [decide_eq_true_eq, decide_eq_false_iff_not, Bool.not_eq_true', Bool.not_eq_false', Bool.not_eq_true, Bool.not_eq_false, not_true_eq_false, not_false_eq_true, reduceCtorEq] at hd30)
        (exfalso; omega)
        all_goals first
          | exact Out.ag hK (k + 1, (true || decide (x = maxOf xs)), (true || !refLess x ⟨(nextB rep xs).Round - 1, rep⟩)) ⟨by dsimp only; omega, e1.symm, e2.symm⟩ (by dsimp only; omega)
          | (exfalso; simp_all; done)
    · obtain rfl : k = xs.length := by omega
      rw [oneK_len] at h1
      rw [belowK_len] at h2
      rw [h1, h2]
      apply Wp.seq
      apply Wp.region
      refine WpL.v (V.cmp) ?_
      apply WpL.nil
      apply Out.seqN
      apply Wp.seq
      refine Wp.c (fun he0 => ?_) (fun he0 => ?_)
      (try simp only [decide_eq_true_eq, decide_eq_false_iff_not, Bool.not_eq_true', Bool.not_eq_false', Bool.not_eq_true, Bool.not_eq_false, not_true_eq_false, not_false_eq_true, reduceCtorEq] at he0)
      (exfalso; omega)
      (try simp only [decide_eq_true_eq, decide_eq_false_iff_not, Bool.not_eq_true', Bool.not_eq_false', Bool.not_eq_true, Bool.not_eq_false, not_true_eq_false, not_false_eq_true, reduceCtorEq] at he0)
      apply Wp.exit
      apply Out.seqE
      apply Out.seqE
      apply Out.blockE
      apply Out.seqN
      apply Wp.seq
      refine Wp.dG [] ?_ (List.Sublist.cons_cons _ (List.Sublist.cons_cons _ (List.Sublist.cons_cons _ List.Sublist.slnil)))
      refine WpA.t 0 rfl (V.ldA tb) ?_
      refine WpA.t 1 rfl (V.mv) ?_
      refine WpA.t 2 rfl (V.mv) ?_
      refine WpA.oS 3 rfl (Op1.callT rfl (hF) (by (repeat (first | exact Sel.nil | exact Rem.here | apply Sel.cons | apply Rem.there))) ?_)
      rintro v1 s2 ⟨rfl, rfl⟩
      refine incat ⟨?_, ?_⟩
      exact holdT
      refine WpA.t 4 rfl (V.eq (TBallot.eqT _ _ _)) ?_
      refine WpA.t 5 rfl (V.mv) ?_
      refine WpA.pt 79 (fun he3 => ?_) (fun he3 => ?_)
      (try simp only [decide_eq_true_eq, decide_eq_false_iff_not, Bool.not_eq_true', Bool.not_eq_false', Bool.not_eq_true, Bool.not_eq_false, not_true_eq_false, not_false_eq_true, reduceCtorEq] at he3)
      refine WpA.t 6 rfl (V.fa tb) ?_
      refine WpA.t 7 rfl (V.ld1 tb) ?_
      refine WpA.t 8 rfl (V.mv) ?_
      refine WpA.t 9 rfl (V.cmp) ?_
      refine WpA.t 10 rfl (V.pT) ?_
      refine WpA.t 11 rfl (V.mv) ?_
      refine WpA.pt 85 (fun he4 => ?_) (fun he4 => ?_)
      (try simp only [decide_eq_true_eq, decide_eq_false_iff_not, Bool.not_eq_true', Bool.not_eq_false', Bool.not_eq_true, Bool.not_eq_false, not_true_eq_false, not_false_eq_true, reduceCtorEq] at he4)
      refine WpA.t 12 rfl (V.mv) ?_
      refine WpA.t 13 rfl (V.pT) ?_
      refine WpA.t 14 rfl (V.mv) ?_
      refine WpA.pt 88 (fun he5 => ?_) (fun he5 => ?_)
      (try simp only [decide_eq_true_eq, decide_eq_false_iff_not, Bool.not_eq_true', Bool.not_eq_false', Bool.not_eq_true, Bool.not_eq_false, not_true_eq_false, not_false_eq_true, reduceCtorEq] at he5)
      refine WpA.t 15 rfl (V.mv) ?_
      refine WpA.t 16 rfl (V.mv) ?_
      refine WpA.pt 90 (fun he6 => ?_) (fun he6 => ?_)
      (try simp only [decide_eq_true_eq, decide_eq_false_iff_not, Bool.not_eq_true', Bool.not_eq_false', Bool.not_eq_true, Bool.not_eq_false, not_true_eq_false, not_false_eq_true, reduceCtorEq] at he6)
      refine WpA.s 17 rfl ?_
      refine WpA.s 18 rfl ?_
      refine WpA.s 19 rfl ?_
      refine WpA.s 20 rfl ?_
      refine WpA.s 21 rfl ?_
      refine WpA.s 22 rfl ?_
      refine WpA.s 23 rfl ?_
      refine WpA.s 24 rfl ?_
      refine WpA.t 25 rfl (V.pT) ?_
      refine WpA.t 26 rfl (V.pT) ?_
      refine WpA.t 27 rfl (V.as) ?_
      refine WpA.ou ?_
      apply Out.seqN
      apply Wp.ret
      refine Out.f1 rfl ResIs.t ⟨?_, rfl⟩
      exact rfl
      (try simp only [decide_eq_true_eq, decide_eq_false_iff_not, Bool.not_eq_true', Bool.not_eq_false', Bool.not_eq_true, Bool.not_eq_false, not_true_eq_false, not_false_eq_true, reduceCtorEq] at he6)
      refine WpA.t 17 rfl (V.mv) ?_
      refine WpA.t 18 rfl (V.lenL tb) ?_
      refine WpA.t 19 rfl (V.cmp) ?_
      refine WpA.t 20 rfl (V.mv) ?_
      refine WpA.pt 94 (fun he7 => ?_) (fun he7 => ?_)
      (try simp only [decide_eq_true_eq, decide_eq_false_iff_not, Bool.not_eq_true', Bool.not_eq_false', Bool.not_eq_true, Bool.not_eq_false, not_true_eq_false, not_false_eq_true, reduceCtorEq] at he7)
      refine WpA.t 21 rfl (V.ldA tb) ?_
      refine WpA.t 22 rfl (V.bld tb) ?_
      refine WpA.t 23 rfl (V.eq (TBallot.eqT _ _ _)) ?_
      refine WpA.t 24 rfl (V.pT) ?_
      refine WpA.t 25 rfl (V.pF) ?_
      refine WpA.t 26 rfl (V.pT) ?_
      refine WpA.t 27 rfl (V.as) ?_
      refine WpA.ou ?_
      apply Out.seqN
      apply Wp.ret
      refine Out.f1 rfl ResIs.t ⟨?_, rfl⟩
      rotate_left
      (try simp only [decide_eq_true_eq, decide_eq_false_iff_not, Bool.not_eq_true', Bool.not_eq_false', Bool.not_eq_true, Bool.not_eq_false, not_true_eq_false, not_false_eq_true, reduceCtorEq] at he7)
      refine WpA.s 21 rfl ?_
      refine WpA.s 22 rfl ?_
      refine WpA.s 23 rfl ?_
      refine WpA.t 24 rfl (V.pF) ?_
      refine WpA.t 25 rfl (V.pF) ?_
      refine WpA.t 26 rfl (V.pT) ?_
      refine WpA.t 27 rfl (V.as) ?_
      refine WpA.ou ?_
      apply Out.seqN
      apply Wp.ret
      refine Out.f1 rfl ResIs.t ⟨?_, rfl⟩
      rotate_left
      (try simp only [decide_eq_true_eq, decide_eq_false_iff_not, Bool.not_eq_true', Bool.not_eq_false', Bool.not_eq_true, Bool.not_eq_false, not_true_eq_false, not_false_eq_true, reduceCtorEq] at he5)
      refine WpA.s 15 rfl ?_
      refine WpA.s 16 rfl ?_
      refine WpA.s 17 rfl ?_
      refine WpA.s 18 rfl ?_
      refine WpA.s 19 rfl ?_
      refine WpA.s 20 rfl ?_
      refine WpA.s 21 rfl ?_
      refine WpA.s 22 rfl ?_
      refine WpA.s 23 rfl ?_
      refine WpA.s 24 rfl ?_
      refine WpA.s 25 rfl ?_
      refine WpA.t 26 rfl (V.pF) ?_
      refine WpA.t 27 rfl (V.as) ?_
      refine WpA.ou ?_
      apply Out.seqN
      apply Wp.ret
      refine Out.f1 rfl ResIs.t ⟨?_, rfl⟩
      rotate_left
      (try simp only [decide_eq_true_eq, decide_eq_false_iff_not, Bool.not_eq_true', Bool.not_eq_false', Bool.not_eq_true, Bool.not_eq_false, not_true_eq_false, not_false_eq_true, reduceCtorEq] at he4)
      refine WpA.s 12 rfl ?_
      refine WpA.t 13 rfl (V.pF) ?_
      refine WpA.t 14 rfl (V.mv) ?_
      refine WpA.s 15 rfl ?_
      refine WpA.s 16 rfl ?_
      refine WpA.s 17 rfl ?_
      refine WpA.s 18 rfl ?_
      refine WpA.s 19 rfl ?_
      refine WpA.s 20 rfl ?_
      refine WpA.s 21 rfl ?_
      refine WpA.s 22 rfl ?_
      refine WpA.s 23 rfl ?_
      refine WpA.s 24 rfl ?_
      refine WpA.s 25 rfl ?_
      refine WpA.t 26 rfl (V.pF) ?_
      refine WpA.t 27 rfl (V.as) ?_
      refine WpA.ou ?_
      apply Out.seqN
      apply Wp.ret
      refine Out.f1 rfl ResIs.t ⟨?_, rfl⟩
      rotate_left
      (try simp only [decide_eq_true_eq, decide_eq_false_iff_not, Bool.not_eq_true', Bool.not_eq_false', Bool.not_eq_true, Bool.not_eq_false, not_true_eq_false, not_false_eq_true, reduceCtorEq] at he3)
      all_goals have f1 := (nextB_iff rep xs).1
      all_goals first
        | (exfalso; simp_all; done)
        | (have h0 : xs = [] := List.eq_nil_of_length_eq_zero (by omega)
           simp [h0, maxOf])
open Go Go.ChangeShapes Go.WideShapes Go.ChangeAt Go.RowKit
theorem ballotNext_read : (Try.f6.params.toList.all fun t => Try.prog.readableRec t && decide (t < Try.prog.types.size)) = true := by kernel_rfl
theorem ballotNext_lifted (os : Go.Os) (started : os.Started) (H : Type) (enc : Go.TypeId × Go.Value → H) :
    ReturnsInHanded {} Try.checked os 6 .any (Rows.ballotNextSpec.pre6 enc Try.prog Try.f6 Rows.ballotNextRow.domain false) (Rows.ballotNextSpec.post enc Try.prog Try.f6 false true false false) := by
  refine returnsInHanded_of_change_sized (C := Try.checked) own started (by kernel_rfl) Try.func6
    (ChangeSpec.witness6 (enc := enc) (C := Try.checked) false ⟨#[], #[I 0, .slice none 0 0], []⟩ 8 (by kernel_rfl) (by kernel_rfl) (by kernel_rfl) (by kernel_rfl)) ?_
  intro W base args ds gs before hval0 hW hcnd hsz0 _
  have hsz : (DataW.weightsEach Try.prog (Try.f6.params.toList ++ Rows.ballotNextSpec.plain.varTypes Try.prog) (ds ++ gs)).all (· ≤ reachBytes) = true := hsz0
  have hval : ∀ (j : Nat) t v, Try.f6.params[j]? = some t → args[j]? = some v → Value.okWide Try.prog W .any base t v := hval0
  have hW' := hW
  obtain ⟨p, q, hA0, hV, rfl, hfz, hnd⟩ := hW
  have hA1 : DataW.TrodAll enc Try.prog W 0 (fun _ => true) true Try.f6.params.toList args.toList ds p := hA0
  have hA := hA1
  rw [Try.params6] at hA hval hsz
  obtain ⟨v0, vs0, d0, ds0, p0, q0, hargs, rfl, rfl, h0, r0⟩ := trodAll_cons hA
  obtain ⟨v1, vs1, d1, ds1, p1, q1, rfl, rfl, rfl, h1, r1⟩ := trodAll_cons r0
  obtain ⟨rfl, rfl, rfl⟩ := trodAll_nil r1
  obtain rfl : args = #[v0, v1] := by cases args; simp_all
  obtain ⟨rfl, rfl⟩ := trodVars_none hV
  obtain ⟨x0, rfl, rfl, rfl, w0⟩ := open_int Try.underlying3 (hval 0 3 v0 rfl rfl) h0
  obtain ⟨ao1, b1, off1, len1, cap1, xs1, rfl, hl1, hlc1, hcm1, ha1, hs1, hf1, hby1⟩ := open_slice_plain Try.underlying35 TBallot.leaves (by kernel_rfl) (by decide) (hval 1 35 v1 rfl rfl) h1 (sizedAll hsz 1 rfl rfl)
  obtain ⟨x1, rfl, w1⟩ := fits_map TBallot.c TBallot.wf hf1 TBallot.fit
  obtain rfl : len1 = x1.length := by simpa using hl1.symm
  simp only [List.append_nil] at hW' hA1
  have hbl : ∀ p : Nat × Nat, p ∈ [(x1.length, b1)] → 0 < p.1 → p.2 < W.heap.size := by
    intro p hp h0
    simp only [List.mem_cons, List.mem_nil_iff, or_false] at hp
    rcases hp with rfl
    · exact (ha1 h0).2
  have hR1 : Rd (snap W (blocksOf [(x1.length, b1)])) ao1 x1.length b1 off1 2 (x1.map TBallot.c) := Rd.snap (by simp) (Nat.le_trans hlc1 hcm1) ha1 hs1 (fun h => blocksOf_mem (len := x1.length) (by simp) h)
  refine (Ct.runSnap (blocksOf_nodup _) (blocksOf_lt hbl) (ballotNext_walk _ _ _ _ _ x0 x1 hR1)).mono fun e W' hh => ?_
  obtain ⟨rfl, hS⟩ := hh
  exact ⟨_, rfl, post_law (P := Try.prog) (f := Try.f6) (tbool := 4) hW' hA1 rfl rfl hS laid ballotNext_read rfl Try.underlying4⟩
theorem ballotNext_over : Rows.ballotNextRow.holds Try.pinned (OpenSpec.ofChange Rows.ballotNextSpec) :=
  OpenClaim.holds_of_wide 6 Try.f6 rfl rfl rfl rfl rfl rfl rfl ⟨rfl, rfl, rfl, rfl, rfl⟩ rfl rfl rfl rfl rfl (by kernel_rfl) Try.func6 (by kernel_rfl)
    (of_decide_eq_true (by kernel_rfl)) (by unfold Func.isWrapper; first | (rw [if_pos (by decide +kernel)]; kernel_rfl) | (rw [if_neg (by decide +kernel)]; exact ⟨rfl, rfl⟩))
    (fun os started H enc _ => ballotNext_lifted os started H enc)
/-- THE STATEMENT. -/
theorem ballotNext_proved : Rows.BallotNextSaid := ballotNext_over
#print axioms ballotNext_proved

end Go.Proofs.Ytienlncaffliaaa
