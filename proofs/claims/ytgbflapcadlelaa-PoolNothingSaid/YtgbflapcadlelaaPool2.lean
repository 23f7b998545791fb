/-
  Layer 11: Send, Take, Lose, Twice, Cut, Heal, All, Len, Lost, walked.
-/
import Derived.Test.YtgbflapcadlelaaPool
namespace Go.Proofs.Ytgbflapcadlelaa
open Go.HL
set_option linter.unusedSimpArgs false
set_option linter.unusedVariables false
set_option maxRecDepth 8000
def cutAt (c : List Bool) (a b : Int) : Bool := c.getD (a.toNat * 7 + b.toNat) false
def badL (c : List Bool) (l : List PoolLetter) (x : PoolLetter) : Bool := !isR x.From || (!isR x.To || (cutAt c x.From x.To || decide (256 ≤ l.length)))
def stepS (c : List Bool) (s : List PoolLetter × Int) (x : PoolLetter) : List PoolLetter × Int := if badL c s.1 x then (s.1, s.2 + 1) else (s.1 ++ [x], s.2)
def sends (c : List Bool) (l : List PoolLetter) (xs : List PoolLetter) : List PoolLetter × Int := xs.foldl (stepS c) (l, 0)
theorem sends_snoc (c l xs x) : sends c l (xs ++ [x]) = stepS c (sends c l xs) x := by simp [sends]
theorem isR_spec {a : Int} (h : isR a = true) : ∃ k : Nat, a = (k : Int) ∧ k < 7 := by
  simp only [isR, Bool.and_eq_true, decide_eq_true_eq] at h
  exact ⟨a.toNat, by omega, by omega⟩
theorem poolC.cut {v : Go.Value} {c : List Bool} {n : Int} {i j : Nat} (hc : c.length = 49) (hi : i < 7) (hj : j < 7) : (poolC v c n)[1 + i * 7 + j * 1]? = some (B (cutAt c (i : Int) (j : Int))) := by
  have hk : i * 7 + j < c.length := by omega
  rw [poolC, show 1 + i * 7 + j * 1 = (i * 7 + j) + 1 by omega]
  simp only [List.singleton_append, List.getElem?_cons_succ]
  rw [List.getElem?_append_left (by simp [boolsC]; omega)]
  simp only [boolsC, List.getElem?_map, cutAt, Int.toNat_natCast]
  rw [getD_some hk]
  rfl
theorem poolC.get0 {v : Go.Value} {c : List Bool} {n : Int} : (poolC v c n)[0]? = some v := rfl
theorem poolC.lost {v : Go.Value} {c : List Bool} {n : Int} (hc : c.length = 49) : (poolC v c n)[50]? = some (I n) := by
  simp only [poolC, List.singleton_append, List.getElem?_cons_succ]
  rw [List.getElem?_append_right (by simp [boolsC]; omega)]
  simp [boolsC, hc]
theorem poolC.set0 {v v' : Go.Value} {c : List Bool} {n : Int} : SplOf 0 [v'] (poolC v c n) (poolC v' c n) := ⟨by simp [splice, poolC]⟩
theorem poolC.setL {v : Go.Value} {c : List Bool} {n n' : Int} (hc : c.length = 49) : SplOf 50 [I n'] (poolC v c n) (poolC v c n') := ⟨by
  have e1 : ([v] ++ boolsC c).length = 50 := by simp [boolsC, hc]
  have e : ∀ m : Int, poolC v c m = ([v] ++ boolsC c) ++ [I m] := fun m => by simp [poolC]
  rw [e, e, splice, List.take_append_of_le_length (by omega), List.take_of_length_le (by omega), List.drop_append, List.drop_of_length_le (by omega), List.drop_of_length_le (by simp [boolsC, hc])]
  simp⟩
theorem sends_bounds (c : List Bool) (l : List PoolLetter) (hl : l.length ≤ 256) (xs : List PoolLetter) : (sends c l xs).1.length ≤ 256 ∧ 0 ≤ (sends c l xs).2 ∧ (sends c l xs).2 ≤ xs.length := by
  suffices h : ∀ ys : List PoolLetter, (sends c l ys.reverse).1.length ≤ 256 ∧ 0 ≤ (sends c l ys.reverse).2 ∧ (sends c l ys.reverse).2 ≤ ys.length by
    have := h xs.reverse
    simpa using this
  intro ys
  induction ys with
  | nil => exact ⟨hl, by simp [sends], by simp [sends]⟩
  | cons y ys ih =>
    obtain ⟨h1, h2, h3⟩ := ih
    rw [List.reverse_cons, sends_snoc, stepS]
    cases hb : badL c (sends c l ys.reverse).1 y with
    | true => simp only [if_true, List.length_cons]; exact ⟨h1, by omega, by push_cast; omega⟩
    | false =>
      simp only [badL, Bool.or_eq_false_iff, decide_eq_false_iff_not] at hb
      simp only [Bool.false_eq_true, if_false, List.length_cons, List.length_append, List.length_nil]
      exact ⟨by omega, h2, by push_cast; omega⟩
theorem poolC.b0 {v : Go.Value} {c : List Bool} {n : Int} : Nat.blt 0 (poolC v c n).length = true := by rw [Nat.blt_eq, poolC.len]; omega
theorem poolC.bL {v : Go.Value} {c : List Bool} {n : Int} (hc : c.length = 49) : Nat.blt 50 (poolC v c n).length = true := by rw [Nat.blt_eq, poolC.len]; omega
theorem pool_send (e : Ent) (ao : Option Go.Addr) (cap bb off b : Nat) (v : Go.Value) (l xs : List PoolLetter) (c : List Bool) (n : Int) (hR : Rd e ao xs.length bb off 3 (xs.map PoolLetter.c)) (hc : c.length = 49) (hl : l.length ≤ 256) (hn : 0 ≤ n ∧ n ≤ 1000000) (hx : xs.length ≤ 1000000) :
    Ct Try.prog 41 [Ptr b 0, .slice ao xs.length cap] (e :: poolE b v l c n) (fun r σ' => ∃ v', r = I (sends c l xs).2 ∧ σ' = e :: poolE b v' (sends c l xs).1 c (n + (sends c l xs).2)) := by
  unfold poolE
  refine Ct.enter Try.func41 rfl rfl fun W => ?_
  apply Wp.seq
  apply Wp.region
  refine WpL.v (V.as) ?_
  apply WpL.nil
  apply Out.seqN
  apply Wp.seq
  apply Wp.seq
  apply Wp.region
  refine WpL.v (V.mv) ?_
  refine WpL.v (V.eqP) ?_
  apply WpL.nil
  apply Out.seqN
  refine Wp.cF ?_
  apply Wp.skip
  apply Out.seqN
  apply Wp.seq
  apply Wp.region
  refine WpL.v (V.as) ?_
  apply WpL.nil
  apply Out.seqN
  apply Wp.seq
  apply Wp.seq
  apply Wp.region
  refine WpL.v (V.mv) ?_
  refine WpL.v (V.lenL tb) ?_
  refine WpL.v (V.mv) ?_
  apply WpL.nil
  apply Out.seqN
  apply Wp.block
  refine Wp.lp [13, 12, 0] (fun y : Nat × Go.Value × List PoolLetter × Int => y.1 ≤ xs.length ∧ sends c l (xs.take y.1) = y.2.2) (fun y => [(14, I (y.1 : Int)), (5, I y.2.2.2)]) (fun y => [cells b 126 (poolC y.2.1 c n), rows PoolLetter.c y.2.1 61 3 y.2.2.1])
    (fun y => xs.length - y.1) (0, v, l, 0) ⟨Nat.zero_le _, rfl⟩ ?_
  rintro ⟨i, v', l', m⟩ ⟨hi, hs⟩ K hK
  dsimp only at hi hs
  dsimp only [List.cons_append, List.nil_append]
  obtain ⟨b1, b2, b3⟩ := sends_bounds c l hl (xs.take i)
  rw [hs] at b1 b2 b3
  dsimp only at b1 b2 b3
  have b4 : m ≤ i := by
    rw [List.length_take] at b3; omega
  by_cases hlt : i < xs.length
  · obtain ⟨x, hx⟩ := getS hlt
    have e1 := take_snocS hx
    have e2 : sends c l (xs.take (i + 1)) = stepS c (l', m) x := by rw [e1, sends_snoc, hs]
    have bad : badL c l' x = true → sends c l (xs.take (i + 1)) = (l', m + 1) := fun h => by rw [e2, stepS, if_pos h]
    have hF := pool_is x.From
    have hT := pool_is x.To
    cases h1 : isR x.From with
    | false =>
      rw [h1] at hF
      have e3 := bad (by simp [badL, h1])
      apply Wp.seq
      apply Wp.region
      refine WpL.v (V.cmp) ?_
      apply WpL.nil
      apply Out.seqN
      apply Wp.seq
      refine Wp.c (fun hb0 => ?_) (fun hb0 => ?_)
      (try simp only [decide_eq_true_eq, decide_eq_false_iff_not, Bool.not_eq_true', Bool.not_eq_false', Bool.not_eq_true, Bool.not_eq_false, not_true_eq_false, not_false_eq_true, reduceCtorEq] at hb0)
      apply Wp.skip
      apply Out.seqN
      apply Wp.seq
      apply Wp.block
      apply Wp.seq
      apply Wp.region
      refine WpL.v (V.ixR tb rfl rfl (by assumption)) ?_
      refine WpL.v (V.ldRA tb rfl (by assumption) (getMapS (by assumption))) ?_
      refine WpL.o (O.al tb (fun p7 => ?_))
      refine WpL.o (O.stA tb ?_)
      apply WpL.nil
      apply Out.seqN
      apply Wp.seq
      apply Wp.seq
      refine Wp.dG [] ?_ (List.Sublist.cons_cons _ (List.Sublist.cons_cons _ (List.Sublist.cons_cons _ (List.Sublist.cons_cons _ List.Sublist.slnil)))) (List.Sublist.cons_cons _ (List.Sublist.cons_cons _ (List.Sublist.cons_cons _ (List.Sublist.cons_cons _ List.Sublist.slnil))))
      refine WpA.tF 0 rfl (V.fa tb) ?_
      refine WpA.tF 1 rfl (V.ld1 tb) ?_
      refine WpA.oS 2 rfl (Op1.fn rfl (hF) ⟨?_, ?_, ?_⟩)
      exact holdT
      exact holdT
      refine WpA.tF 3 rfl (V.not) ?_
      refine WpA.tF 4 rfl (V.mv) ?_
      refine WpA.s 5 rfl ?_
      refine WpA.s 6 rfl ?_
      refine WpA.s 7 rfl ?_
      refine WpA.s 8 rfl ?_
      refine WpA.tF 9 rfl (V.pT) ?_
      refine WpA.tF 10 rfl (V.mv) ?_
      refine WpA.s 11 rfl ?_
      refine WpA.s 12 rfl ?_
      refine WpA.s 13 rfl ?_
      refine WpA.s 14 rfl ?_
      refine WpA.s 15 rfl ?_
      refine WpA.s 16 rfl ?_
      refine WpA.s 17 rfl ?_
      refine WpA.s 18 rfl ?_
      refine WpA.s 19 rfl ?_
      refine WpA.s 20 rfl ?_
      refine WpA.tF 21 rfl (V.pT) ?_
      refine WpA.tF 22 rfl (V.mv) ?_
      refine WpA.s 23 rfl ?_
      refine WpA.s 24 rfl ?_
      refine WpA.s 25 rfl ?_
      refine WpA.s 26 rfl ?_
      refine WpA.s 27 rfl ?_
      refine WpA.s 28 rfl ?_
      refine WpA.tF 29 rfl (V.pT) ?_
      refine WpA.ou ?_
      apply Out.seqN
      refine Wp.cT ?_
      apply Wp.seq
      apply Wp.region
      refine WpL.v (V.mv) ?_
      refine WpL.v (V.add) ?_
      refine WpL.v (V.as) ?_
      apply WpL.nil
      apply Out.seqN
      apply Wp.exit
      apply Out.seqE
      apply Out.blockE
      apply Out.seqN
      apply Wp.region
      refine WpL.v (V.add) ?_
      refine WpL.v (V.mv) ?_
      apply WpL.nil
      rotate_left
      (try simp only [decide_eq_true_eq, decide_eq_false_iff_not, Bool.not_eq_true', Bool.not_eq_false', Bool.not_eq_true, Bool.not_eq_false, not_true_eq_false, not_false_eq_true, reduceCtorEq] at hb0)
      (exfalso; omega)
      exact Out.ag hK (i + 1, _, l', m + 1) ⟨by show i + 1 ≤ _; omega, e3⟩ (by show xs.length - (i + 1) < xs.length - i; omega)
    | true =>
      rw [h1] at hF
      cases h2 : isR x.To with
      | false =>
        rw [h2] at hT
        have e3 := bad (by simp [badL, h1, h2])
        apply Wp.seq
        apply Wp.region
        refine WpL.v (V.cmp) ?_
        apply WpL.nil
        apply Out.seqN
        apply Wp.seq
        refine Wp.c (fun hb20 => ?_) (fun hb20 => ?_)
        (try simp only [decide_eq_true_eq, decide_eq_false_iff_not, Bool.not_eq_true', Bool.not_eq_false', Bool.not_eq_true, Bool.not_eq_false, not_true_eq_false, not_false_eq_true, reduceCtorEq] at hb20)
        apply Wp.skip
        apply Out.seqN
        apply Wp.seq
        apply Wp.block
        apply Wp.seq
        apply Wp.region
        refine WpL.v (V.ixR tb rfl rfl (by assumption)) ?_
        refine WpL.v (V.ldRA tb rfl (by assumption) (getMapS (by assumption))) ?_
        refine WpL.o (O.al tb (fun p7 => ?_))
        refine WpL.o (O.stA tb ?_)
        apply WpL.nil
        apply Out.seqN
        apply Wp.seq
        apply Wp.seq
        refine Wp.dG [] ?_ (List.Sublist.cons_cons _ (List.Sublist.cons_cons _ (List.Sublist.cons_cons _ (List.Sublist.cons_cons _ List.Sublist.slnil)))) (List.Sublist.cons_cons _ (List.Sublist.cons_cons _ (List.Sublist.cons_cons _ (List.Sublist.cons_cons _ List.Sublist.slnil))))
        refine WpA.tF 0 rfl (V.fa tb) ?_
        refine WpA.tF 1 rfl (V.ld1 tb) ?_
        refine WpA.oS 2 rfl (Op1.fn rfl (hF) ⟨?_, ?_, ?_⟩)
        exact holdT
        exact holdT
        refine WpA.tF 3 rfl (V.not) ?_
        refine WpA.tF 4 rfl (V.mv) ?_
        refine WpA.tF 5 rfl (V.fa tb) ?_
        refine WpA.tF 6 rfl (V.ld1 tb) ?_
        refine WpA.oS 7 rfl (Op1.fn rfl (hT) ⟨?_, ?_, ?_⟩)
        exact holdT
        exact holdT
        refine WpA.tF 8 rfl (V.not) ?_
        refine WpA.tF 9 rfl (V.pF) ?_
        refine WpA.tF 10 rfl (V.mv) ?_
        refine WpA.s 11 rfl ?_
        refine WpA.s 12 rfl ?_
        refine WpA.s 13 rfl ?_
        refine WpA.s 14 rfl ?_
        refine WpA.s 15 rfl ?_
        refine WpA.s 16 rfl ?_
        refine WpA.s 17 rfl ?_
        refine WpA.s 18 rfl ?_
        refine WpA.s 19 rfl ?_
        refine WpA.s 20 rfl ?_
        refine WpA.tF 21 rfl (V.pT) ?_
        refine WpA.tF 22 rfl (V.mv) ?_
        refine WpA.s 23 rfl ?_
        refine WpA.s 24 rfl ?_
        refine WpA.s 25 rfl ?_
        refine WpA.s 26 rfl ?_
        refine WpA.s 27 rfl ?_
        refine WpA.s 28 rfl ?_
        refine WpA.tF 29 rfl (V.pT) ?_
        refine WpA.ou ?_
        apply Out.seqN
        refine Wp.cT ?_
        apply Wp.seq
        apply Wp.region
        refine WpL.v (V.mv) ?_
        refine WpL.v (V.add) ?_
        refine WpL.v (V.as) ?_
        apply WpL.nil
        apply Out.seqN
        apply Wp.exit
        apply Out.seqE
        apply Out.blockE
        apply Out.seqN
        apply Wp.region
        refine WpL.v (V.add) ?_
        refine WpL.v (V.mv) ?_
        apply WpL.nil
        rotate_left
        (try simp only [decide_eq_true_eq, decide_eq_false_iff_not, Bool.not_eq_true', Bool.not_eq_false', Bool.not_eq_true, Bool.not_eq_false, not_true_eq_false, not_false_eq_true, reduceCtorEq] at hb20)
        (exfalso; omega)
        exact Out.ag hK (i + 1, _, l', m + 1) ⟨by show i + 1 ≤ _; omega, e3⟩ (by show xs.length - (i + 1) < xs.length - i; omega)
      | true =>
        rw [h2] at hT
        obtain ⟨k1, hk1, hk1'⟩ := isR_spec h1
        obtain ⟨k2, hk2, hk2'⟩ := isR_spec h2
        have hcut := fun v n => poolC.cut (v := v) (n := n) hc hk1' hk2'
        rw [← hk1, ← hk2] at hcut
        cases h3 : cutAt c x.From x.To with
        | true =>
          rw [h3] at hcut
          have e3 := bad (by simp [badL, h1, h2, h3])
          apply Wp.seq
          apply Wp.region
          refine WpL.v (V.cmp) ?_
          apply WpL.nil
          apply Out.seqN
          apply Wp.seq
          refine Wp.c (fun hb30 => ?_) (fun hb30 => ?_)
          (try simp only [decide_eq_true_eq, decide_eq_false_iff_not, Bool.not_eq_true', Bool.not_eq_false', Bool.not_eq_true, Bool.not_eq_false, not_true_eq_false, not_false_eq_true, reduceCtorEq] at hb30)
          apply Wp.skip
          apply Out.seqN
          apply Wp.seq
          apply Wp.block
          apply Wp.seq
          apply Wp.region
          refine WpL.v (V.ixR tb rfl rfl (by assumption)) ?_
          refine WpL.v (V.ldRA tb rfl (by assumption) (getMapS (by assumption))) ?_
          refine WpL.o (O.al tb (fun p7 => ?_))
          refine WpL.o (O.stA tb ?_)
          apply WpL.nil
          apply Out.seqN
          apply Wp.seq
          apply Wp.seq
          refine Wp.dG [] ?_ (List.Sublist.cons_cons _ (List.Sublist.cons_cons _ (List.Sublist.cons_cons _ (List.Sublist.cons_cons _ List.Sublist.slnil)))) (List.Sublist.cons_cons _ (List.Sublist.cons_cons _ (List.Sublist.cons_cons _ (List.Sublist.cons_cons _ List.Sublist.slnil))))
          refine WpA.tF 0 rfl (V.fa tb) ?_
          refine WpA.tF 1 rfl (V.ld1 tb) ?_
          refine WpA.oS 2 rfl (Op1.fn rfl (hF) ⟨?_, ?_, ?_⟩)
          exact holdT
          exact holdT
          refine WpA.tF 3 rfl (V.not) ?_
          refine WpA.tF 4 rfl (V.mv) ?_
          refine WpA.tF 5 rfl (V.fa tb) ?_
          refine WpA.tF 6 rfl (V.ld1 tb) ?_
          refine WpA.oS 7 rfl (Op1.fn rfl (hT) ⟨?_, ?_, ?_⟩)
          exact holdT
          exact holdT
          refine WpA.tF 8 rfl (V.not) ?_
          refine WpA.tF 9 rfl (V.pF) ?_
          refine WpA.tF 10 rfl (V.mv) ?_
          refine WpA.tF 11 rfl (V.mv) ?_
          refine WpA.tF 12 rfl (V.fa tb) ?_
          refine WpA.tF 13 rfl (V.ld1 tb) ?_
          refine WpA.tF 14 rfl (V.fa tb) ?_
          refine WpA.tF 15 rfl (V.ld1 tb) ?_
          refine WpA.tF 16 rfl (V.nc) ?_
          refine WpA.tF 17 rfl (V.fa tb) ?_
          refine WpA.tF 18 rfl (V.ixA2 tb rfl rfl hk1) ?_
          refine WpA.tF 19 rfl (V.ixA2 tb rfl rfl hk2) ?_
          refine WpA.tF 20 rfl (V.ld1 tb (hr := hcut _ _)) ?_
          refine WpA.tF 21 rfl (V.pF) ?_
          refine WpA.tF 22 rfl (V.mv) ?_
          refine WpA.s 23 rfl ?_
          refine WpA.s 24 rfl ?_
          refine WpA.s 25 rfl ?_
          refine WpA.s 26 rfl ?_
          refine WpA.s 27 rfl ?_
          refine WpA.s 28 rfl ?_
          refine WpA.tF 29 rfl (V.pT) ?_
          refine WpA.ou ?_
          apply Out.seqN
          refine Wp.cT ?_
          apply Wp.seq
          apply Wp.region
          refine WpL.v (V.mv) ?_
          refine WpL.v (V.add) ?_
          refine WpL.v (V.as) ?_
          apply WpL.nil
          apply Out.seqN
          apply Wp.exit
          apply Out.seqE
          apply Out.blockE
          apply Out.seqN
          apply Wp.region
          refine WpL.v (V.add) ?_
          refine WpL.v (V.mv) ?_
          apply WpL.nil
          rotate_left
          (try simp only [decide_eq_true_eq, decide_eq_false_iff_not, Bool.not_eq_true', Bool.not_eq_false', Bool.not_eq_true, Bool.not_eq_false, not_true_eq_false, not_false_eq_true, reduceCtorEq] at hb30)
          (exfalso; omega)
          exact Out.ag hK (i + 1, _, l', m + 1) ⟨by show i + 1 ≤ _; omega, e3⟩ (by show xs.length - (i + 1) < xs.length - i; omega)
        | false =>
          rw [h3] at hcut
          by_cases h4 : 256 ≤ l'.length
          · have e3 := bad (by simp [badL, h1, h2, h3, h4])
            have h4' : cmpI .geq (l'.length : Int) 256 = some true := by simp [cmpI]; omega
            apply Wp.seq
            apply Wp.region
            refine WpL.v (V.cmp) ?_
            apply WpL.nil
            apply Out.seqN
            apply Wp.seq
            refine Wp.c (fun hb40 => ?_) (fun hb40 => ?_)
            (try simp only [decide_eq_true_eq, decide_eq_false_iff_not, Bool.not_eq_true', Bool.not_eq_false', Bool.not_eq_true, Bool.not_eq_false, not_true_eq_false, not_false_eq_true, reduceCtorEq] at hb40)
            apply Wp.skip
            apply Out.seqN
            apply Wp.seq
            apply Wp.block
            apply Wp.seq
            apply Wp.region
            refine WpL.v (V.ixR tb rfl rfl (by assumption)) ?_
            refine WpL.v (V.ldRA tb rfl (by assumption) (getMapS (by assumption))) ?_
            refine WpL.o (O.al tb (fun p7 => ?_))
            refine WpL.o (O.stA tb ?_)
            apply WpL.nil
            apply Out.seqN
            apply Wp.seq
            apply Wp.seq
            refine Wp.dG [] ?_ (List.Sublist.cons_cons _ (List.Sublist.cons_cons _ (List.Sublist.cons_cons _ (List.Sublist.cons_cons _ List.Sublist.slnil)))) (List.Sublist.cons_cons _ (List.Sublist.cons_cons _ (List.Sublist.cons_cons _ (List.Sublist.cons_cons _ List.Sublist.slnil))))
            refine WpA.tF 0 rfl (V.fa tb) ?_
            refine WpA.tF 1 rfl (V.ld1 tb) ?_
            refine WpA.oS 2 rfl (Op1.fn rfl (hF) ⟨?_, ?_, ?_⟩)
            exact holdT
            exact holdT
            refine WpA.tF 3 rfl (V.not) ?_
            refine WpA.tF 4 rfl (V.mv) ?_
            refine WpA.tF 5 rfl (V.fa tb) ?_
            refine WpA.tF 6 rfl (V.ld1 tb) ?_
            refine WpA.oS 7 rfl (Op1.fn rfl (hT) ⟨?_, ?_, ?_⟩)
            exact holdT
            exact holdT
            refine WpA.tF 8 rfl (V.not) ?_
            refine WpA.tF 9 rfl (V.pF) ?_
            refine WpA.tF 10 rfl (V.mv) ?_
            refine WpA.tF 11 rfl (V.mv) ?_
            refine WpA.tF 12 rfl (V.fa tb) ?_
            refine WpA.tF 13 rfl (V.ld1 tb) ?_
            refine WpA.tF 14 rfl (V.fa tb) ?_
            refine WpA.tF 15 rfl (V.ld1 tb) ?_
            refine WpA.tF 16 rfl (V.nc) ?_
            refine WpA.tF 17 rfl (V.fa tb) ?_
            refine WpA.tF 18 rfl (V.ixA2 tb rfl rfl hk1) ?_
            refine WpA.tF 19 rfl (V.ixA2 tb rfl rfl hk2) ?_
            refine WpA.tF 20 rfl (V.ld1 tb (hr := hcut _ _)) ?_
            refine WpA.tF 21 rfl (V.pF) ?_
            refine WpA.tF 22 rfl (V.mv) ?_
            refine WpA.tF 23 rfl (V.mv) ?_
            refine WpA.tF 24 rfl (V.nc) ?_
            refine WpA.tF 25 rfl (V.fa tb) ?_
            refine WpA.tF 26 rfl (V.ld1 tb) ?_
            refine WpA.tF 27 rfl (V.lenRows tb) ?_
            refine WpA.tF 28 rfl (V.cmp rfl rfl h4') ?_
            refine WpA.tF 29 rfl (V.pF) ?_
            refine WpA.ou ?_
            apply Out.seqN
            refine Wp.cT ?_
            apply Wp.seq
            apply Wp.region
            refine WpL.v (V.mv) ?_
            refine WpL.v (V.add) ?_
            refine WpL.v (V.as) ?_
            apply WpL.nil
            apply Out.seqN
            apply Wp.exit
            apply Out.seqE
            apply Out.blockE
            apply Out.seqN
            apply Wp.region
            refine WpL.v (V.add) ?_
            refine WpL.v (V.mv) ?_
            apply WpL.nil
            rotate_left
            (try simp only [decide_eq_true_eq, decide_eq_false_iff_not, Bool.not_eq_true', Bool.not_eq_false', Bool.not_eq_true, Bool.not_eq_false, not_true_eq_false, not_false_eq_true, reduceCtorEq] at hb40)
            (exfalso; omega)
            exact Out.ag hK (i + 1, _, l', m + 1) ⟨by show i + 1 ≤ _; omega, e3⟩ (by show xs.length - (i + 1) < xs.length - i; omega)
          · have h4' : cmpI .geq (l'.length : Int) 256 = some false := by simp [cmpI]; omega
            have e3 : sends c l (xs.take (i + 1)) = (l' ++ [x], m) := by rw [e2, stepS, if_neg (by simp [badL, h1, h2, h3]; omega)]
            apply Wp.seq
            apply Wp.region
            refine WpL.v (V.cmp) ?_
            apply WpL.nil
            apply Out.seqN
            apply Wp.seq
            refine Wp.c (fun hb50 => ?_) (fun hb50 => ?_)
            (try simp only [decide_eq_true_eq, decide_eq_false_iff_not, Bool.not_eq_true', Bool.not_eq_false', Bool.not_eq_true, Bool.not_eq_false, not_true_eq_false, not_false_eq_true, reduceCtorEq] at hb50)
            apply Wp.skip
            apply Out.seqN
            apply Wp.seq
            apply Wp.block
            apply Wp.seq
            apply Wp.region
            refine WpL.v (V.ixR tb rfl rfl (by assumption)) ?_
            refine WpL.v (V.ldRA tb rfl (by assumption) (getMapS (by assumption))) ?_
            refine WpL.o (O.al tb (fun p7 => ?_))
            refine WpL.o (O.stA tb ?_)
            apply WpL.nil
            apply Out.seqN
            apply Wp.seq
            apply Wp.seq
            refine Wp.dG [] ?_ (List.Sublist.cons_cons _ (List.Sublist.cons_cons _ (List.Sublist.cons_cons _ (List.Sublist.cons_cons _ List.Sublist.slnil)))) (List.Sublist.cons_cons _ (List.Sublist.cons_cons _ (List.Sublist.cons_cons _ (List.Sublist.cons_cons _ List.Sublist.slnil))))
            refine WpA.tF 0 rfl (V.fa tb) ?_
            refine WpA.tF 1 rfl (V.ld1 tb) ?_
            refine WpA.oS 2 rfl (Op1.fn rfl (hF) ⟨?_, ?_, ?_⟩)
            exact holdT
            exact holdT
            refine WpA.tF 3 rfl (V.not) ?_
            refine WpA.tF 4 rfl (V.mv) ?_
            refine WpA.tF 5 rfl (V.fa tb) ?_
            refine WpA.tF 6 rfl (V.ld1 tb) ?_
            refine WpA.oS 7 rfl (Op1.fn rfl (hT) ⟨?_, ?_, ?_⟩)
            exact holdT
            exact holdT
            refine WpA.tF 8 rfl (V.not) ?_
            refine WpA.tF 9 rfl (V.pF) ?_
            refine WpA.tF 10 rfl (V.mv) ?_
            refine WpA.tF 11 rfl (V.mv) ?_
            refine WpA.tF 12 rfl (V.fa tb) ?_
            refine WpA.tF 13 rfl (V.ld1 tb) ?_
            refine WpA.tF 14 rfl (V.fa tb) ?_
            refine WpA.tF 15 rfl (V.ld1 tb) ?_
            refine WpA.tF 16 rfl (V.nc) ?_
            refine WpA.tF 17 rfl (V.fa tb) ?_
            refine WpA.tF 18 rfl (V.ixA2 tb rfl rfl hk1) ?_
            refine WpA.tF 19 rfl (V.ixA2 tb rfl rfl hk2) ?_
            refine WpA.tF 20 rfl (V.ld1 tb (hr := hcut _ _)) ?_
            refine WpA.tF 21 rfl (V.pF) ?_
            refine WpA.tF 22 rfl (V.mv) ?_
            refine WpA.tF 23 rfl (V.mv) ?_
            refine WpA.tF 24 rfl (V.nc) ?_
            refine WpA.tF 25 rfl (V.fa tb) ?_
            refine WpA.tF 26 rfl (V.ld1 tb) ?_
            refine WpA.tF 27 rfl (V.lenRows tb) ?_
            refine WpA.tF 28 rfl (V.cmp rfl rfl h4') ?_
            refine WpA.tF 29 rfl (V.pF) ?_
            refine WpA.ou ?_
            apply Out.seqN
            refine Wp.cF ?_
            apply Wp.skip
            apply Out.seqN
            refine Wp.dG [10] ?_ (List.Sublist.cons_cons _ (List.Sublist.cons_cons _ (List.Sublist.cons _ (List.Sublist.cons _ List.Sublist.slnil)))) (List.Sublist.cons_cons _ (List.Sublist.cons _ (List.Sublist.cons _ (List.Sublist.cons _ List.Sublist.slnil))))
            refine WpA.tF 0 rfl (V.mv) ?_
            refine WpA.tF 1 rfl (V.mv) ?_
            refine WpA.tF 2 rfl (V.nc) ?_
            refine WpA.tF 3 rfl (V.fa tb) ?_
            refine WpA.tF 5 rfl (V.ldA tb) ?_
            refine WpA.t 4 rfl (V.ld1 tb) ?_
            refine WpA.oS 6 rfl (O.lit tb (fun p56 => ⟨?_, ?_, ?_⟩))
            exact holdT
            exact holdT
            refine WpA.oS 7 rfl (O.apL tb rfl rfl (by (intro _; repeat first | exact Upd.here _ _ _ | apply Upd.there)) (SrcL.one tb (by (repeat first | exact List.Mem.head _ | apply List.Mem.tail)) PoolLetter.ones) (fun g57 cap57 => ⟨?_, ?_, ?_⟩))
            exact holdT
            exact holdT
            refine WpA.tF 8 rfl (V.nc) ?_
            refine WpA.tF 9 rfl (V.fa tb) ?_
            refine WpA.l 10 rfl (O.st1 tb ⟨?_, ?_⟩ (hl := poolC.b0) (hs := poolC.set0))
            exact holdT
            refine WpA.ou ?_
            apply Out.blockN
            apply Out.seqN
            apply Wp.region
            refine WpL.v (V.add) ?_
            refine WpL.v (V.mv) ?_
            apply WpL.nil
            rotate_left
            (try simp only [decide_eq_true_eq, decide_eq_false_iff_not, Bool.not_eq_true', Bool.not_eq_false', Bool.not_eq_true, Bool.not_eq_false, not_true_eq_false, not_false_eq_true, reduceCtorEq] at hb50)
            (exfalso; omega)
            exact Out.ag hK (i + 1, _, l' ++ [x], m) ⟨by show i + 1 ≤ _; omega, e3⟩ (by show xs.length - (i + 1) < xs.length - i; omega)
  · obtain rfl : i = xs.length := by omega
    rw [List.take_length] at hs
    clear hK
    rw [hs]
    apply Wp.seq
    apply Wp.region
    refine WpL.v (V.cmp) ?_
    apply WpL.nil
    apply Out.seqN
    apply Wp.seq
    refine Wp.c (fun hz0 => ?_) (fun hz0 => ?_)
    (try simp only [decide_eq_true_eq, decide_eq_false_iff_not, Bool.not_eq_true', Bool.not_eq_false', Bool.not_eq_true, Bool.not_eq_false, not_true_eq_false, not_false_eq_true, reduceCtorEq] at hz0)
    (exfalso; omega)
    (try simp only [decide_eq_true_eq, decide_eq_false_iff_not, Bool.not_eq_true', Bool.not_eq_false', Bool.not_eq_true, Bool.not_eq_false, not_true_eq_false, not_false_eq_true, reduceCtorEq] at hz0)
    apply Wp.exit
    apply Out.seqE
    apply Out.seqE
    apply Out.blockE
    apply Out.seqN
    apply Wp.seq
    apply Wp.region
    refine WpL.v (V.mv) ?_
    refine WpL.v (V.nc) ?_
    refine WpL.v (V.fa tb) ?_
    refine WpL.v (V.ld1 tb (hr := poolC.lost hc)) ?_
    refine WpL.v (V.mv) ?_
    refine WpL.v (V.add) ?_
    refine WpL.v (V.nc) ?_
    refine WpL.v (V.fa tb) ?_
    refine WpL.o (O.st1 tb ?_ (hl := poolC.bL hc) (hs := poolC.setL hc))
    apply WpL.nil
    apply Out.seqN
    apply Wp.seq
    apply Wp.region
    refine WpL.v (V.mv) ?_
    refine WpL.v (V.as) ?_
    apply WpL.nil
    apply Out.seqN
    apply Wp.ret
    refine Out.e1 rfl ResIs.t ?_
    exact ⟨_, _, ⟨_, rfl, rfl⟩, (by (repeat (first | exact Sel.nil | exact Rem.here | apply Sel.cons | apply Rem.there)))⟩
theorem pool_len (b : Nat) (v : Go.Value) (l : List PoolLetter) (c : List Bool) (n : Int) : Ct Try.prog 42 [Ptr b 0] (poolE b v l c n) (fun r σ' => r = I (l.length : Int) ∧ σ' = poolE b v l c n) := by
  unfold poolE
  refine Ct.enter Try.func42 rfl rfl fun W => ?_
  apply Wp.seq
  apply Wp.region
  refine WpL.v (V.as) ?_
  apply WpL.nil
  apply Out.seqN
  apply Wp.seq
  apply Wp.seq
  apply Wp.region
  refine WpL.v (V.mv) ?_
  refine WpL.v (V.eqP) ?_
  apply WpL.nil
  apply Out.seqN
  refine Wp.cF ?_
  apply Wp.skip
  apply Out.seqN
  apply Wp.seq
  apply Wp.region
  refine WpL.v (V.mv) ?_
  refine WpL.v (V.nc) ?_
  refine WpL.v (V.fa tb) ?_
  refine WpL.v (V.ld1 tb) ?_
  refine WpL.v (V.lenRows tb) ?_
  refine WpL.v (V.as) ?_
  apply WpL.nil
  apply Out.seqN
  apply Wp.ret
  refine Out.f1 rfl ResIs.t ⟨?_, rfl⟩
  exact rfl
theorem pool_lost (b : Nat) (v : Go.Value) (l : List PoolLetter) (c : List Bool) (n : Int) (hc : c.length = 49) : Ct Try.prog 43 [Ptr b 0] (poolE b v l c n) (fun r σ' => r = I n ∧ σ' = poolE b v l c n) := by
  unfold poolE
  refine Ct.enter Try.func43 rfl rfl fun W => ?_
  apply Wp.seq
  apply Wp.region
  refine WpL.v (V.as) ?_
  apply WpL.nil
  apply Out.seqN
  apply Wp.seq
  apply Wp.seq
  apply Wp.region
  refine WpL.v (V.mv) ?_
  refine WpL.v (V.eqP) ?_
  apply WpL.nil
  apply Out.seqN
  refine Wp.cF ?_
  apply Wp.skip
  apply Out.seqN
  apply Wp.seq
  apply Wp.region
  refine WpL.v (V.mv) ?_
  refine WpL.v (V.nc) ?_
  refine WpL.v (V.fa tb) ?_
  refine WpL.v (V.ld1 tb (hr := poolC.lost hc)) ?_
  refine WpL.v (V.as) ?_
  apply WpL.nil
  apply Out.seqN
  apply Wp.ret
  refine Out.f1 rfl ResIs.t ⟨?_, rfl⟩
  exact rfl
def atP (l : List PoolLetter) (i : Int) : Option PoolLetter := if 0 ≤ i then l[i.toNat]? else none
theorem atP_some {l : List PoolLetter} {i : Int} {x : PoolLetter} (h : atP l i = some x) : ∃ k : Nat, i = (k : Int) ∧ l[k]? = some x ∧ k < l.length := by
  unfold atP at h
  split at h
  · exact ⟨i.toNat, by omega, h, (List.getElem?_eq_some_iff.1 h).1⟩
  · cases h
theorem atP_none {l : List PoolLetter} {i : Int} (h : atP l i = none) : i < 0 ∨ (l.length : Int) ≤ i := by
  unfold atP at h
  split at h
  · have := List.getElem?_eq_none_iff.1 h; right; omega
  · left; omega
def okL (x : PoolLetter) : Bool := isR x.From && isR x.To
theorem pool_lose (b : Nat) (v : Go.Value) (l : List PoolLetter) (c : List Bool) (n i : Int) (hc : c.length = 49) (hn : 0 ≤ n ∧ n ≤ 1000000) :
    Ct Try.prog 48 [Ptr b 0, I i] (poolE b v l c n) (fun r σ' => ∃ v', r = B (atP l i).isSome ∧ σ' = (match atP l i with | some _ => poolE b v' (l.eraseIdx i.toNat) c (n + 1) | none => poolE b v' l c n)) := by
  cases h : atP l i with
  | none =>
    have h' := atP_none h
    unfold poolE
    refine Ct.enter Try.func48 rfl rfl fun W => ?_
    apply Wp.seq
    apply Wp.region
    refine WpL.v (V.as) ?_
    apply WpL.nil
    apply Out.seqN
    apply Wp.seq
    apply Wp.seq
    apply Wp.region
    refine WpL.v (V.mv) ?_
    refine WpL.v (V.eqP) ?_
    refine WpL.v (V.mv) ?_
    refine WpL.v (V.mv) ?_
    refine WpL.v (V.cmp) ?_
    refine WpL.v (V.pF) ?_
    refine WpL.v (V.mv) ?_
    refine WpL.pt (fun h0 => ?_) (fun h0 => ?_)
    (try simp only [decide_eq_true_eq, decide_eq_false_iff_not, Bool.not_eq_true', Bool.not_eq_false', Bool.not_eq_true, Bool.not_eq_false, not_true_eq_false, not_false_eq_true, reduceCtorEq] at h0)
    refine WpL.sk ?_
    refine WpL.sk ?_
    refine WpL.sk ?_
    refine WpL.sk ?_
    refine WpL.sk ?_
    refine WpL.sk ?_
    refine WpL.sk ?_
    refine WpL.v (V.pT) ?_
    apply WpL.nil
    apply Out.seqN
    refine Wp.cT ?_
    apply Wp.seq
    apply Wp.region
    refine WpL.v (V.as) ?_
    apply WpL.nil
    apply Out.seqN
    apply Wp.ret
    apply Out.seqR
    refine Out.e1 rfl ResIs.t ?_
    exact ⟨_, _, ⟨_, rfl, rfl⟩, (by (repeat (first | exact Sel.nil | exact Rem.here | apply Sel.cons | apply Rem.there)))⟩
    (try simp only [decide_eq_true_eq, decide_eq_false_iff_not, Bool.not_eq_true', Bool.not_eq_false', Bool.not_eq_true, Bool.not_eq_false, not_true_eq_false, not_false_eq_true, reduceCtorEq] at h0)
    refine WpL.v (V.mv) ?_
    refine WpL.v (V.mv) ?_
    refine WpL.v (V.nc) ?_
    refine WpL.v (V.fa tb) ?_
    refine WpL.v (V.ld1 tb) ?_
    refine WpL.v (V.lenRows tb) ?_
    refine WpL.v (V.cmp) ?_
    refine WpL.v (V.pF) ?_
    apply WpL.nil
    apply Out.seqN
    refine Wp.c (fun h1 => ?_) (fun h1 => ?_)
    (try simp only [decide_eq_true_eq, decide_eq_false_iff_not, Bool.not_eq_true', Bool.not_eq_false', Bool.not_eq_true, Bool.not_eq_false, not_true_eq_false, not_false_eq_true, reduceCtorEq] at h1)
    apply Wp.seq
    apply Wp.region
    refine WpL.v (V.as) ?_
    apply WpL.nil
    apply Out.seqN
    apply Wp.ret
    apply Out.seqR
    refine Out.e1 rfl ResIs.t ?_
    exact ⟨_, _, ⟨_, rfl, rfl⟩, (by (repeat (first | exact Sel.nil | exact Rem.here | apply Sel.cons | apply Rem.there)))⟩
    (try simp only [decide_eq_true_eq, decide_eq_false_iff_not, Bool.not_eq_true', Bool.not_eq_false', Bool.not_eq_true, Bool.not_eq_false, not_true_eq_false, not_false_eq_true, reduceCtorEq] at h1)
    (exfalso; omega)
  | some x =>
    obtain ⟨k, rfl, hk, hlt⟩ := atP_some h
    unfold poolE
    refine Ct.enter Try.func48 rfl rfl fun W => ?_
    refine Wp.fact (rowsForm (f := PoolLetter.c) (v := v) (l := l) (E := 61) (sz := 3) (by (repeat first | exact List.Mem.head _ | apply List.Mem.tail))) fun hv => ?_
    rcases hv with ⟨_, rfl⟩ | ⟨g, cap, rfl, hcap, hcm⟩
    · simp at hlt
    simp only [Go.maxLen] at hcm
    have hD := slices_delete g cap l k hlt hcap hcm
    apply Wp.seq
    apply Wp.region
    refine WpL.v (V.as) ?_
    apply WpL.nil
    apply Out.seqN
    apply Wp.seq
    apply Wp.seq
    apply Wp.region
    refine WpL.v (V.mv) ?_
    refine WpL.v (V.eqP) ?_
    refine WpL.v (V.mv) ?_
    refine WpL.v (V.mv) ?_
    refine WpL.v (V.cmp) ?_
    refine WpL.v (V.pF) ?_
    refine WpL.v (V.mv) ?_
    refine WpL.pt (fun h0 => ?_) (fun h0 => ?_)
    (try simp only [decide_eq_true_eq, decide_eq_false_iff_not, Bool.not_eq_true', Bool.not_eq_false', Bool.not_eq_true, Bool.not_eq_false, not_true_eq_false, not_false_eq_true, reduceCtorEq] at h0)
    (exfalso; omega)
    (try simp only [decide_eq_true_eq, decide_eq_false_iff_not, Bool.not_eq_true', Bool.not_eq_false', Bool.not_eq_true, Bool.not_eq_false, not_true_eq_false, not_false_eq_true, reduceCtorEq] at h0)
    refine WpL.v (V.mv) ?_
    refine WpL.v (V.mv) ?_
    refine WpL.v (V.nc) ?_
    refine WpL.v (V.fa tb) ?_
    refine WpL.v (V.ld1 tb) ?_
    refine WpL.v (V.lenL tb) ?_
    refine WpL.v (V.cmp) ?_
    refine WpL.v (V.pF) ?_
    apply WpL.nil
    apply Out.seqN
    refine Wp.c (fun h1 => ?_) (fun h1 => ?_)
    (try simp only [decide_eq_true_eq, decide_eq_false_iff_not, Bool.not_eq_true', Bool.not_eq_false', Bool.not_eq_true, Bool.not_eq_false, not_true_eq_false, not_false_eq_true, reduceCtorEq] at h1)
    (exfalso; omega)
    (try simp only [decide_eq_true_eq, decide_eq_false_iff_not, Bool.not_eq_true', Bool.not_eq_false', Bool.not_eq_true, Bool.not_eq_false, not_true_eq_false, not_false_eq_true, reduceCtorEq] at h1)
    apply Wp.skip
    apply Out.seqN
    apply Wp.seq
    apply Wp.region
    refine WpL.v (V.mv) ?_
    refine WpL.v (V.mv) ?_
    refine WpL.v (V.nc) ?_
    refine WpL.v (V.fa tb) ?_
    refine WpL.v (V.ld1 tb) ?_
    refine WpL.v (V.mv) ?_
    refine WpL.v (V.mv) ?_
    refine WpL.v (V.add) ?_
    refine WpL.o (Op1.callT rfl (hD) (by (repeat (first | exact Sel.nil | exact Rem.here | apply Sel.cons | apply Rem.there))) ?_)
    rintro v2 s3 ⟨rfl, rfl⟩
    refine incat ?_
    refine WpL.v (V.nc) ?_
    refine WpL.v (V.fa tb) ?_
    refine WpL.o (O.st1 tb ?_ (hl := poolC.b0) (hs := poolC.set0))
    apply WpL.nil
    apply Out.seqN
    apply Wp.seq
    apply Wp.region
    refine WpL.v (V.mv) ?_
    refine WpL.v (V.nc) ?_
    refine WpL.v (V.fa tb) ?_
    refine WpL.v (V.ld1 tb (hr := poolC.lost hc)) ?_
    refine WpL.v (V.add) ?_
    refine WpL.v (V.nc) ?_
    refine WpL.v (V.fa tb) ?_
    refine WpL.o (O.st1 tb ?_ (hl := poolC.bL hc) (hs := poolC.setL hc))
    apply WpL.nil
    apply Out.seqN
    apply Wp.seq
    apply Wp.region
    refine WpL.v (V.as) ?_
    apply WpL.nil
    apply Out.seqN
    apply Wp.ret
    refine Out.e1 rfl ResIs.t ?_
    exact ⟨_, _, ⟨_, rfl, rfl⟩, (by (repeat (first | exact Sel.nil | exact Rem.here | apply Sel.cons | apply Rem.there)))⟩
theorem pool_take (b : Nat) (v : Go.Value) (l : List PoolLetter) (c : List Bool) (n i : Int) (hc : c.length = 49) (hn : 0 ≤ n ∧ n ≤ 1000000) (hok : ∀ x ∈ l, okL x = true) :
    Ct Try.prog 44 [Ptr b 0, I i] (poolE b v l c n) (fun r σ' => ∃ v', (match atP l i with
      | some x => if cutAt c x.From x.To then r = .tuple #[A PoolLetter.z.c, B false] ∧ σ' = poolE b v' (l.eraseIdx i.toNat) c (n + 1) else r = .tuple #[A x.c, B true] ∧ σ' = poolE b v' (l.eraseIdx i.toNat) c n
      | none => r = .tuple #[A PoolLetter.z.c, B false] ∧ σ' = poolE b v' l c n)) := by
  cases h : atP l i with
  | none =>
    have h' := atP_none h
    unfold poolE
    refine Ct.enter Try.func44 rfl rfl fun W => ?_
    apply Wp.seq
    apply Wp.region
    refine WpL.o (O.al tb (fun p4 => ?_))
    refine WpL.v (V.as) ?_
    apply WpL.nil
    apply Out.seqN
    apply Wp.seq
    apply Wp.seq
    apply Wp.region
    refine WpL.v (V.mv) ?_
    refine WpL.v (V.eqP) ?_
    refine WpL.v (V.mv) ?_
    refine WpL.v (V.mv) ?_
    refine WpL.v (V.cmp) ?_
    refine WpL.v (V.pF) ?_
    refine WpL.v (V.mv) ?_
    refine WpL.pt (fun h0 => ?_) (fun h0 => ?_)
    (try simp only [decide_eq_true_eq, decide_eq_false_iff_not, Bool.not_eq_true', Bool.not_eq_false', Bool.not_eq_true, Bool.not_eq_false, not_true_eq_false, not_false_eq_true, reduceCtorEq] at h0)
    refine WpL.sk ?_
    refine WpL.sk ?_
    refine WpL.sk ?_
    refine WpL.sk ?_
    refine WpL.sk ?_
    refine WpL.sk ?_
    refine WpL.sk ?_
    refine WpL.v (V.pT) ?_
    apply WpL.nil
    apply Out.seqN
    refine Wp.cT ?_
    apply Wp.seq
    apply Wp.region
    refine WpL.v (V.bld tb) ?_
    refine WpL.o (O.stA tb ?_)
    refine WpL.v (V.as) ?_
    apply WpL.nil
    apply Out.seqN
    apply Wp.ret
    apply Out.seqR
    refine Out.e2 rfl (ResIs.ca tb) ResIs.t ?_
    exact ⟨_, _, ⟨_, rfl, rfl⟩, (by (repeat (first | exact Sel.nil | exact Rem.here | apply Sel.cons | apply Rem.there)))⟩
    (try simp only [decide_eq_true_eq, decide_eq_false_iff_not, Bool.not_eq_true', Bool.not_eq_false', Bool.not_eq_true, Bool.not_eq_false, not_true_eq_false, not_false_eq_true, reduceCtorEq] at h0)
    refine WpL.v (V.mv) ?_
    refine WpL.v (V.mv) ?_
    refine WpL.v (V.nc) ?_
    refine WpL.v (V.fa tb) ?_
    refine WpL.v (V.ld1 tb) ?_
    refine WpL.v (V.lenRows tb) ?_
    refine WpL.v (V.cmp) ?_
    refine WpL.v (V.pF) ?_
    apply WpL.nil
    apply Out.seqN
    refine Wp.c (fun h1 => ?_) (fun h1 => ?_)
    (try simp only [decide_eq_true_eq, decide_eq_false_iff_not, Bool.not_eq_true', Bool.not_eq_false', Bool.not_eq_true, Bool.not_eq_false, not_true_eq_false, not_false_eq_true, reduceCtorEq] at h1)
    apply Wp.seq
    apply Wp.region
    refine WpL.v (V.bld tb) ?_
    refine WpL.o (O.stA tb ?_)
    refine WpL.v (V.as) ?_
    apply WpL.nil
    apply Out.seqN
    apply Wp.ret
    apply Out.seqR
    refine Out.e2 rfl (ResIs.ca tb) ResIs.t ?_
    exact ⟨_, _, ⟨_, rfl, rfl⟩, (by (repeat (first | exact Sel.nil | exact Rem.here | apply Sel.cons | apply Rem.there)))⟩
    (try simp only [decide_eq_true_eq, decide_eq_false_iff_not, Bool.not_eq_true', Bool.not_eq_false', Bool.not_eq_true, Bool.not_eq_false, not_true_eq_false, not_false_eq_true, reduceCtorEq] at h1)
    (exfalso; omega)
  | some x =>
    obtain ⟨k, rfl, hk, hlt⟩ := atP_some h
    have hx := hok x (List.mem_of_getElem? hk)
    simp only [okL, Bool.and_eq_true] at hx
    obtain ⟨k1, hk1, hk1'⟩ := isR_spec hx.1
    obtain ⟨k2, hk2, hk2'⟩ := isR_spec hx.2
    have hcut := fun v n => poolC.cut (v := v) (n := n) hc hk1' hk2'
    rw [← hk1, ← hk2] at hcut
    unfold poolE
    dsimp only
    cases h3 : cutAt c x.From x.To with
    | true =>
      rw [h3] at hcut
      simp only [if_true]
      refine Ct.enter Try.func44 rfl rfl fun W => ?_
      refine Wp.fact (rowsForm (f := PoolLetter.c) (v := v) (l := l) (E := 61) (sz := 3) (by (repeat first | exact List.Mem.head _ | apply List.Mem.tail))) fun hv => ?_
      rcases hv with ⟨_, rfl⟩ | ⟨g, cap, rfl, hcap, hcm⟩
      · simp at hlt
      simp only [Go.maxLen] at hcm
      have hD := slices_delete g cap l k hlt hcap hcm
      apply Wp.seq
      apply Wp.region
      refine WpL.o (O.al tb (fun p4 => ?_))
      refine WpL.v (V.as) ?_
      apply WpL.nil
      apply Out.seqN
      apply Wp.seq
      apply Wp.seq
      apply Wp.region
      refine WpL.v (V.mv) ?_
      refine WpL.v (V.eqP) ?_
      refine WpL.v (V.mv) ?_
      refine WpL.v (V.mv) ?_
      refine WpL.v (V.cmp) ?_
      refine WpL.v (V.pF) ?_
      refine WpL.v (V.mv) ?_
      refine WpL.pt (fun h0 => ?_) (fun h0 => ?_)
      (try simp only [decide_eq_true_eq, decide_eq_false_iff_not, Bool.not_eq_true', Bool.not_eq_false', Bool.not_eq_true, Bool.not_eq_false, not_true_eq_false, not_false_eq_true, reduceCtorEq] at h0)
      (exfalso; omega)
      (try simp only [decide_eq_true_eq, decide_eq_false_iff_not, Bool.not_eq_true', Bool.not_eq_false', Bool.not_eq_true, Bool.not_eq_false, not_true_eq_false, not_false_eq_true, reduceCtorEq] at h0)
      refine WpL.v (V.mv) ?_
      refine WpL.v (V.mv) ?_
      refine WpL.v (V.nc) ?_
      refine WpL.v (V.fa tb) ?_
      refine WpL.v (V.ld1 tb) ?_
      refine WpL.v (V.lenL tb) ?_
      refine WpL.v (V.cmp) ?_
      refine WpL.v (V.pF) ?_
      apply WpL.nil
      apply Out.seqN
      refine Wp.c (fun h1 => ?_) (fun h1 => ?_)
      (try simp only [decide_eq_true_eq, decide_eq_false_iff_not, Bool.not_eq_true', Bool.not_eq_false', Bool.not_eq_true, Bool.not_eq_false, not_true_eq_false, not_false_eq_true, reduceCtorEq] at h1)
      (exfalso; omega)
      (try simp only [decide_eq_true_eq, decide_eq_false_iff_not, Bool.not_eq_true', Bool.not_eq_false', Bool.not_eq_true, Bool.not_eq_false, not_true_eq_false, not_false_eq_true, reduceCtorEq] at h1)
      apply Wp.skip
      apply Out.seqN
      apply Wp.seq
      apply Wp.region
      refine WpL.v (V.mv) ?_
      refine WpL.v (V.nc) ?_
      refine WpL.v (V.fa tb) ?_
      refine WpL.v (V.ld1 tb) ?_
      refine WpL.v (V.mv) ?_
      refine WpL.v (V.ixk tb rfl rfl) ?_
      refine WpL.v (V.ldRow tb rfl (by (repeat first | exact List.Mem.head _ | apply List.Mem.tail)) (fun _ => rfl) (by assumption)) ?_
      refine WpL.o (O.al tb (fun p6 => ?_))
      refine WpL.o (O.stA tb ?_)
      apply WpL.nil
      apply Out.seqN
      apply Wp.seq
      apply Wp.region
      refine WpL.v (V.mv) ?_
      refine WpL.v (V.mv) ?_
      refine WpL.v (V.nc) ?_
      refine WpL.v (V.fa tb) ?_
      refine WpL.v (V.ld1 tb) ?_
      refine WpL.v (V.mv) ?_
      refine WpL.v (V.mv) ?_
      refine WpL.v (V.add) ?_
      refine WpL.o (Op1.callT rfl (hD) (by (repeat (first | exact Sel.nil | exact Rem.here | apply Sel.cons | apply Rem.there))) ?_)
      rintro v2 s3 ⟨rfl, rfl⟩
      refine incat ?_
      refine WpL.v (V.nc) ?_
      refine WpL.v (V.fa tb) ?_
      refine WpL.o (O.st1 tb ?_ (hl := poolC.b0) (hs := poolC.set0))
      apply WpL.nil
      apply Out.seqN
      apply Wp.seq
      apply Wp.seq
      refine Wp.dG [] ?_ (List.Sublist.cons_cons _ (List.Sublist.cons_cons _ (List.Sublist.cons _ (List.Sublist.cons_cons _ List.Sublist.slnil)))) (List.Sublist.cons_cons _ (List.Sublist.cons_cons _ (List.Sublist.cons _ (List.Sublist.cons_cons _ List.Sublist.slnil))))
      refine WpA.tF 0 rfl (V.mv) ?_
      refine WpA.tF 1 rfl (V.fa tb) ?_
      refine WpA.tF 2 rfl (V.ld1 tb) ?_
      refine WpA.tF 3 rfl (V.fa tb) ?_
      refine WpA.tF 4 rfl (V.ld1 tb) ?_
      refine WpA.tF 5 rfl (V.nc) ?_
      refine WpA.tF 6 rfl (V.fa tb) ?_
      refine WpA.tF 7 rfl (V.ixA2 tb rfl rfl hk1) ?_
      refine WpA.tF 8 rfl (V.ixA2 tb rfl rfl hk2) ?_
      refine WpA.tF 9 rfl (V.ld1 tb (hr := hcut _ _)) ?_
      refine WpA.ou ?_
      apply Out.seqN
      refine Wp.cT ?_
      apply Wp.seq
      apply Wp.region
      refine WpL.v (V.mv) ?_
      refine WpL.v (V.nc) ?_
      refine WpL.v (V.fa tb) ?_
      refine WpL.v (V.ld1 tb (hr := poolC.lost hc)) ?_
      refine WpL.v (V.add) ?_
      refine WpL.v (V.nc) ?_
      refine WpL.v (V.fa tb) ?_
      refine WpL.o (O.st1 tb ?_ (hl := poolC.bL hc) (hs := poolC.setL hc))
      apply WpL.nil
      apply Out.seqN
      apply Wp.seq
      apply Wp.region
      refine WpL.v (V.bld tb) ?_
      refine WpL.o (O.stA tb ?_)
      refine WpL.v (V.as) ?_
      apply WpL.nil
      apply Out.seqN
      apply Wp.ret
      apply Out.seqR
      refine Out.e2 rfl (ResIs.ca tb) ResIs.t ?_
      exact ⟨_, _, ⟨_, rfl, rfl⟩, (by (repeat (first | exact Sel.nil | exact Rem.here | apply Sel.cons | apply Rem.there)))⟩
    | false =>
      rw [h3] at hcut
      simp only [Bool.false_eq_true, if_false]
      refine Ct.enter Try.func44 rfl rfl fun W => ?_
      refine Wp.fact (rowsForm (f := PoolLetter.c) (v := v) (l := l) (E := 61) (sz := 3) (by (repeat first | exact List.Mem.head _ | apply List.Mem.tail))) fun hv => ?_
      rcases hv with ⟨_, rfl⟩ | ⟨g, cap, rfl, hcap, hcm⟩
      · simp at hlt
      simp only [Go.maxLen] at hcm
      have hD := slices_delete g cap l k hlt hcap hcm
      apply Wp.seq
      apply Wp.region
      refine WpL.o (O.al tb (fun p4 => ?_))
      refine WpL.v (V.as) ?_
      apply WpL.nil
      apply Out.seqN
      apply Wp.seq
      apply Wp.seq
      apply Wp.region
      refine WpL.v (V.mv) ?_
      refine WpL.v (V.eqP) ?_
      refine WpL.v (V.mv) ?_
      refine WpL.v (V.mv) ?_
      refine WpL.v (V.cmp) ?_
      refine WpL.v (V.pF) ?_
      refine WpL.v (V.mv) ?_
      refine WpL.pt (fun h0 => ?_) (fun h0 => ?_)
      (try simp only [decide_eq_true_eq, decide_eq_false_iff_not, Bool.not_eq_true', Bool.not_eq_false', Bool.not_eq_true, Bool.not_eq_false, not_true_eq_false, not_false_eq_true, reduceCtorEq] at h0)
      (exfalso; omega)
      (try simp only [decide_eq_true_eq, decide_eq_false_iff_not, Bool.not_eq_true', Bool.not_eq_false', Bool.not_eq_true, Bool.not_eq_false, not_true_eq_false, not_false_eq_true, reduceCtorEq] at h0)
      refine WpL.v (V.mv) ?_
      refine WpL.v (V.mv) ?_
      refine WpL.v (V.nc) ?_
      refine WpL.v (V.fa tb) ?_
      refine WpL.v (V.ld1 tb) ?_
      refine WpL.v (V.lenL tb) ?_
      refine WpL.v (V.cmp) ?_
      refine WpL.v (V.pF) ?_
      apply WpL.nil
      apply Out.seqN
      refine Wp.c (fun h1 => ?_) (fun h1 => ?_)
      (try simp only [decide_eq_true_eq, decide_eq_false_iff_not, Bool.not_eq_true', Bool.not_eq_false', Bool.not_eq_true, Bool.not_eq_false, not_true_eq_false, not_false_eq_true, reduceCtorEq] at h1)
      (exfalso; omega)
      (try simp only [decide_eq_true_eq, decide_eq_false_iff_not, Bool.not_eq_true', Bool.not_eq_false', Bool.not_eq_true, Bool.not_eq_false, not_true_eq_false, not_false_eq_true, reduceCtorEq] at h1)
      apply Wp.skip
      apply Out.seqN
      apply Wp.seq
      apply Wp.region
      refine WpL.v (V.mv) ?_
      refine WpL.v (V.nc) ?_
      refine WpL.v (V.fa tb) ?_
      refine WpL.v (V.ld1 tb) ?_
      refine WpL.v (V.mv) ?_
      refine WpL.v (V.ixk tb rfl rfl) ?_
      refine WpL.v (V.ldRow tb rfl (by (repeat first | exact List.Mem.head _ | apply List.Mem.tail)) (fun _ => rfl) (by assumption)) ?_
      refine WpL.o (O.al tb (fun p6 => ?_))
      refine WpL.o (O.stA tb ?_)
      apply WpL.nil
      apply Out.seqN
      apply Wp.seq
      apply Wp.region
      refine WpL.v (V.mv) ?_
      refine WpL.v (V.mv) ?_
      refine WpL.v (V.nc) ?_
      refine WpL.v (V.fa tb) ?_
      refine WpL.v (V.ld1 tb) ?_
      refine WpL.v (V.mv) ?_
      refine WpL.v (V.mv) ?_
      refine WpL.v (V.add) ?_
      refine WpL.o (Op1.callT rfl (hD) (by (repeat (first | exact Sel.nil | exact Rem.here | apply Sel.cons | apply Rem.there))) ?_)
      rintro v2 s3 ⟨rfl, rfl⟩
      refine incat ?_
      refine WpL.v (V.nc) ?_
      refine WpL.v (V.fa tb) ?_
      refine WpL.o (O.st1 tb ?_ (hl := poolC.b0) (hs := poolC.set0))
      apply WpL.nil
      apply Out.seqN
      apply Wp.seq
      apply Wp.seq
      refine Wp.dG [] ?_ (List.Sublist.cons_cons _ (List.Sublist.cons_cons _ (List.Sublist.cons _ (List.Sublist.cons_cons _ List.Sublist.slnil)))) (List.Sublist.cons_cons _ (List.Sublist.cons_cons _ (List.Sublist.cons _ (List.Sublist.cons_cons _ List.Sublist.slnil))))
      refine WpA.tF 0 rfl (V.mv) ?_
      refine WpA.tF 1 rfl (V.fa tb) ?_
      refine WpA.tF 2 rfl (V.ld1 tb) ?_
      refine WpA.tF 3 rfl (V.fa tb) ?_
      refine WpA.tF 4 rfl (V.ld1 tb) ?_
      refine WpA.tF 5 rfl (V.nc) ?_
      refine WpA.tF 6 rfl (V.fa tb) ?_
      refine WpA.tF 7 rfl (V.ixA2 tb rfl rfl hk1) ?_
      refine WpA.tF 8 rfl (V.ixA2 tb rfl rfl hk2) ?_
      refine WpA.tF 9 rfl (V.ld1 tb (hr := hcut _ _)) ?_
      refine WpA.ou ?_
      apply Out.seqN
      refine Wp.cF ?_
      apply Wp.skip
      apply Out.seqN
      apply Wp.seq
      apply Wp.region
      refine WpL.v (V.ldA tb) ?_
      refine WpL.o (O.stA tb ?_)
      refine WpL.v (V.as) ?_
      apply WpL.nil
      apply Out.seqN
      apply Wp.ret
      refine Out.e2 rfl (ResIs.ca tb) ResIs.t ?_
      exact ⟨_, _, ⟨_, rfl, rfl⟩, (by (repeat (first | exact Sel.nil | exact Rem.here | apply Sel.cons | apply Rem.there)))⟩
end Go.Proofs.Ytgbflapcadlelaa
