/-
  Layer 11: Twice, Cut, Heal, All, and what a nil pool answers, walked.
-/
import Derived.Test.YtgbflapcadlelaaPool2
namespace Go.Proofs.Ytgbflapcadlelaa
open Go.HL
set_option linter.unusedSimpArgs false
set_option linter.unusedVariables false
set_option maxRecDepth 8000
def canTwice (l : List PoolLetter) (i : Int) : Bool := (atP l i).isSome && decide (l.length < 256)
def twiceL (l : List PoolLetter) (i : Int) : List PoolLetter := match atP l i with | some x => if l.length < 256 then l ++ [x] else l | none => l
theorem pool_twice (b : Nat) (v : Go.Value) (l : List PoolLetter) (c : List Bool) (n i : Int) (hl : l.length ≤ 256) :
    Ct Try.prog 50 [Ptr b 0, I i] (poolE b v l c n) (fun r σ' => ∃ v', r = B (canTwice l i) ∧ σ' = poolE b v' (twiceL l i) c n) := by
  cases h : atP l i with
  | none =>
    have h' := atP_none h
    have e1 : canTwice l i = false := by simp [canTwice, h]
    have e2 : twiceL l i = l := by simp [twiceL, h]
    rw [e1, e2]
    unfold poolE
    refine Ct.enter Try.func50 rfl rfl fun W => ?_
    apply Wp.seq
    apply Wp.region
    refine WpL.v (V.as) ?_
    apply WpL.nil
    apply Out.seqN
    apply Wp.seq
    apply Wp.seq
    apply Wp.region
    refine WpL.v (V.mv) ?_
    refine WpL.v (V.eqP) ?_
    refine WpL.v (V.mv) ?_
    refine WpL.v (V.mv) ?_
    refine WpL.v (V.cmp) ?_
    refine WpL.v (V.pF) ?_
    refine WpL.v (V.mv) ?_
    refine WpL.pt (fun h0 => ?_) (fun h0 => ?_)
    (try simp only [decide_eq_true_eq, decide_eq_false_iff_not, Bool.not_eq_true', Bool.not_eq_false', Bool.not_eq_true, Bool.not_eq_false, not_true_eq_false, not_false_eq_true, reduceCtorEq] at h0)
    refine WpL.sk ?_
    refine WpL.sk ?_
    refine WpL.sk ?_
    refine WpL.sk ?_
    refine WpL.sk ?_
    refine WpL.sk ?_
    refine WpL.sk ?_
    refine WpL.v (V.pT) ?_
    refine WpL.v (V.mv) ?_
    refine WpL.sk ?_
    refine WpL.sk ?_
    refine WpL.sk ?_
    refine WpL.sk ?_
    refine WpL.sk ?_
    refine WpL.sk ?_
    refine WpL.v (V.pT) ?_
    apply WpL.nil
    apply Out.seqN
    refine Wp.cT ?_
    apply Wp.seq
    apply Wp.region
    refine WpL.v (V.as) ?_
    apply WpL.nil
    apply Out.seqN
    apply Wp.ret
    apply Out.seqR
    refine Out.e1 rfl ResIs.t ?_
    exact ⟨_, _, ⟨_, rfl, rfl⟩, (by (repeat (first | exact Sel.nil | exact Rem.here | apply Sel.cons | apply Rem.there)))⟩
    (try simp only [decide_eq_true_eq, decide_eq_false_iff_not, Bool.not_eq_true', Bool.not_eq_false', Bool.not_eq_true, Bool.not_eq_false, not_true_eq_false, not_false_eq_true, reduceCtorEq] at h0)
    refine WpL.v (V.mv) ?_
    refine WpL.v (V.mv) ?_
    refine WpL.v (V.nc) ?_
    refine WpL.v (V.fa tb) ?_
    refine WpL.v (V.ld1 tb) ?_
    refine WpL.v (V.lenRows tb) ?_
    refine WpL.v (V.cmp) ?_
    refine WpL.v (V.pF) ?_
    refine WpL.v (V.mv) ?_
    refine WpL.pt (fun h1 => ?_) (fun h1 => ?_)
    (try simp only [decide_eq_true_eq, decide_eq_false_iff_not, Bool.not_eq_true', Bool.not_eq_false', Bool.not_eq_true, Bool.not_eq_false, not_true_eq_false, not_false_eq_true, reduceCtorEq] at h1)
    refine WpL.sk ?_
    refine WpL.sk ?_
    refine WpL.sk ?_
    refine WpL.sk ?_
    refine WpL.sk ?_
    refine WpL.sk ?_
    refine WpL.v (V.pT) ?_
    apply WpL.nil
    apply Out.seqN
    refine Wp.cT ?_
    apply Wp.seq
    apply Wp.region
    refine WpL.v (V.as) ?_
    apply WpL.nil
    apply Out.seqN
    apply Wp.ret
    apply Out.seqR
    refine Out.e1 rfl ResIs.t ?_
    exact ⟨_, _, ⟨_, rfl, rfl⟩, (by (repeat (first | exact Sel.nil | exact Rem.here | apply Sel.cons | apply Rem.there)))⟩
    (try simp only [decide_eq_true_eq, decide_eq_false_iff_not, Bool.not_eq_true', Bool.not_eq_false', Bool.not_eq_true, Bool.not_eq_false, not_true_eq_false, not_false_eq_true, reduceCtorEq] at h1)
    (exfalso; omega)
  | some x =>
    obtain ⟨k, rfl, hk, hlt⟩ := atP_some h
    by_cases h4 : l.length < 256
    · have e1 : canTwice l (k : Int) = true := by simp [canTwice, h, h4]
      have e2 : twiceL l (k : Int) = l ++ [x] := by simp [twiceL, h, h4]
      rw [e1, e2]
      unfold poolE
      refine Ct.enter Try.func50 rfl rfl fun W => ?_
      refine Wp.fact (rowsForm (f := PoolLetter.c) (v := v) (l := l) (E := 61) (sz := 3) (by (repeat first | exact List.Mem.head _ | apply List.Mem.tail))) fun hv => ?_
      rcases hv with ⟨_, rfl⟩ | ⟨g, cap, rfl, hcap, hcm⟩
      · simp at hlt
      apply Wp.seq
      apply Wp.region
      refine WpL.v (V.as) ?_
      apply WpL.nil
      apply Out.seqN
      apply Wp.seq
      apply Wp.seq
      apply Wp.region
      refine WpL.v (V.mv) ?_
      refine WpL.v (V.eqP) ?_
      refine WpL.v (V.mv) ?_
      refine WpL.v (V.mv) ?_
      refine WpL.v (V.cmp) ?_
      refine WpL.v (V.pF) ?_
      refine WpL.v (V.mv) ?_
      refine WpL.pt (fun h0 => ?_) (fun h0 => ?_)
      (try simp only [decide_eq_true_eq, decide_eq_false_iff_not, Bool.not_eq_true', Bool.not_eq_false', Bool.not_eq_true, Bool.not_eq_false, not_true_eq_false, not_false_eq_true, reduceCtorEq] at h0)
      (exfalso; omega)
      (try simp only [decide_eq_true_eq, decide_eq_false_iff_not, Bool.not_eq_true', Bool.not_eq_false', Bool.not_eq_true, Bool.not_eq_false, not_true_eq_false, not_false_eq_true, reduceCtorEq] at h0)
      refine WpL.v (V.mv) ?_
      refine WpL.v (V.mv) ?_
      refine WpL.v (V.nc) ?_
      refine WpL.v (V.fa tb) ?_
      refine WpL.v (V.ld1 tb) ?_
      refine WpL.v (V.lenL tb) ?_
      refine WpL.v (V.cmp) ?_
      refine WpL.v (V.pF) ?_
      refine WpL.v (V.mv) ?_
      refine WpL.pt (fun h1 => ?_) (fun h1 => ?_)
      (try simp only [decide_eq_true_eq, decide_eq_false_iff_not, Bool.not_eq_true', Bool.not_eq_false', Bool.not_eq_true, Bool.not_eq_false, not_true_eq_false, not_false_eq_true, reduceCtorEq] at h1)
      (exfalso; omega)
      (try simp only [decide_eq_true_eq, decide_eq_false_iff_not, Bool.not_eq_true', Bool.not_eq_false', Bool.not_eq_true, Bool.not_eq_false, not_true_eq_false, not_false_eq_true, reduceCtorEq] at h1)
      refine WpL.v (V.mv) ?_
      refine WpL.v (V.nc) ?_
      refine WpL.v (V.fa tb) ?_
      refine WpL.v (V.ld1 tb) ?_
      refine WpL.v (V.lenL tb) ?_
      refine WpL.v (V.cmp) ?_
      refine WpL.v (V.pF) ?_
      apply WpL.nil
      apply Out.seqN
      refine Wp.c (fun h2 => ?_) (fun h2 => ?_)
      (try simp only [decide_eq_true_eq, decide_eq_false_iff_not, Bool.not_eq_true', Bool.not_eq_false', Bool.not_eq_true, Bool.not_eq_false, not_true_eq_false, not_false_eq_true, reduceCtorEq] at h2)
      (exfalso; omega)
      (try simp only [decide_eq_true_eq, decide_eq_false_iff_not, Bool.not_eq_true', Bool.not_eq_false', Bool.not_eq_true, Bool.not_eq_false, not_true_eq_false, not_false_eq_true, reduceCtorEq] at h2)
      apply Wp.skip
      apply Out.seqN
      apply Wp.seq
      refine Wp.dG [16] ?_ (List.Sublist.cons_cons _ (List.Sublist.cons _ List.Sublist.slnil)) (List.Sublist.cons _ (List.Sublist.cons _ List.Sublist.slnil))
      refine WpA.tF 0 rfl (V.mv) ?_
      refine WpA.tF 1 rfl (V.mv) ?_
      refine WpA.tF 2 rfl (V.nc) ?_
      refine WpA.tF 3 rfl (V.fa tb) ?_
      refine WpA.tF 5 rfl (V.mv) ?_
      refine WpA.tF 6 rfl (V.nc) ?_
      refine WpA.tF 7 rfl (V.fa tb) ?_
      refine WpA.tF 9 rfl (V.mv) ?_
      refine WpA.t 4 rfl (V.ld1 tb) ?_
      refine WpA.t 8 rfl (V.ld1 tb) ?_
      refine WpA.tF 10 rfl (V.ixk tb rfl rfl) ?_
      refine WpA.oS 11 rfl (Op1.vv (V.ldRow tb rfl (by (repeat first | exact List.Mem.head _ | apply List.Mem.tail)) (fun _ => rfl) (by assumption)) ⟨?_, ?_, ?_⟩)
      exact holdT
      exact holdT
      refine WpA.oS 12 rfl (O.lit tb (fun p40 => ⟨?_, ?_, ?_⟩))
      exact holdT
      exact holdT
      refine WpA.oS 13 rfl (O.apL tb rfl rfl (by (intro _; repeat first | exact Upd.here _ _ _ | apply Upd.there)) (SrcL.one tb (by (repeat first | exact List.Mem.head _ | apply List.Mem.tail)) PoolLetter.ones) (fun g41 cap41 => ⟨?_, ?_, ?_⟩))
      exact holdT
      exact holdT
      refine WpA.tF 14 rfl (V.nc) ?_
      refine WpA.tF 15 rfl (V.fa tb) ?_
      refine WpA.l 16 rfl (O.st1 tb ⟨?_, ?_⟩ (hl := poolC.b0) (hs := poolC.set0))
      exact holdT
      refine WpA.ou ?_
      apply Out.seqN
      apply Wp.seq
      apply Wp.region
      refine WpL.v (V.as) ?_
      apply WpL.nil
      apply Out.seqN
      apply Wp.ret
      refine Out.e1 rfl ResIs.t ?_
      exact ⟨_, _, ⟨_, rfl, rfl⟩, (by (repeat (first | exact Sel.nil | exact Rem.here | apply Sel.cons | apply Rem.there)))⟩
    · have e1 : canTwice l (k : Int) = false := by simp [canTwice, h4]
      have e2 : twiceL l (k : Int) = l := by simp [twiceL, h, h4]
      rw [e1, e2]
      unfold poolE
      refine Ct.enter Try.func50 rfl rfl fun W => ?_
      apply Wp.seq
      apply Wp.region
      refine WpL.v (V.as) ?_
      apply WpL.nil
      apply Out.seqN
      apply Wp.seq
      apply Wp.seq
      apply Wp.region
      refine WpL.v (V.mv) ?_
      refine WpL.v (V.eqP) ?_
      refine WpL.v (V.mv) ?_
      refine WpL.v (V.mv) ?_
      refine WpL.v (V.cmp) ?_
      refine WpL.v (V.pF) ?_
      refine WpL.v (V.mv) ?_
      refine WpL.pt (fun h0 => ?_) (fun h0 => ?_)
      (try simp only [decide_eq_true_eq, decide_eq_false_iff_not, Bool.not_eq_true', Bool.not_eq_false', Bool.not_eq_true, Bool.not_eq_false, not_true_eq_false, not_false_eq_true, reduceCtorEq] at h0)
      (exfalso; omega)
      (try simp only [decide_eq_true_eq, decide_eq_false_iff_not, Bool.not_eq_true', Bool.not_eq_false', Bool.not_eq_true, Bool.not_eq_false, not_true_eq_false, not_false_eq_true, reduceCtorEq] at h0)
      refine WpL.v (V.mv) ?_
      refine WpL.v (V.mv) ?_
      refine WpL.v (V.nc) ?_
      refine WpL.v (V.fa tb) ?_
      refine WpL.v (V.ld1 tb) ?_
      refine WpL.v (V.lenRows tb) ?_
      refine WpL.v (V.cmp) ?_
      refine WpL.v (V.pF) ?_
      refine WpL.v (V.mv) ?_
      refine WpL.pt (fun h1 => ?_) (fun h1 => ?_)
      (try simp only [decide_eq_true_eq, decide_eq_false_iff_not, Bool.not_eq_true', Bool.not_eq_false', Bool.not_eq_true, Bool.not_eq_false, not_true_eq_false, not_false_eq_true, reduceCtorEq] at h1)
      (exfalso; omega)
      (try simp only [decide_eq_true_eq, decide_eq_false_iff_not, Bool.not_eq_true', Bool.not_eq_false', Bool.not_eq_true, Bool.not_eq_false, not_true_eq_false, not_false_eq_true, reduceCtorEq] at h1)
      refine WpL.v (V.mv) ?_
      refine WpL.v (V.nc) ?_
      refine WpL.v (V.fa tb) ?_
      refine WpL.v (V.ld1 tb) ?_
      refine WpL.v (V.lenRows tb) ?_
      refine WpL.v (V.cmp) ?_
      refine WpL.v (V.pF) ?_
      apply WpL.nil
      apply Out.seqN
      refine Wp.c (fun h2 => ?_) (fun h2 => ?_)
      (try simp only [decide_eq_true_eq, decide_eq_false_iff_not, Bool.not_eq_true', Bool.not_eq_false', Bool.not_eq_true, Bool.not_eq_false, not_true_eq_false, not_false_eq_true, reduceCtorEq] at h2)
      apply Wp.seq
      apply Wp.region
      refine WpL.v (V.as) ?_
      apply WpL.nil
      apply Out.seqN
      apply Wp.ret
      apply Out.seqR
      refine Out.e1 rfl ResIs.t ?_
      exact ⟨_, _, ⟨_, rfl, rfl⟩, (by (repeat (first | exact Sel.nil | exact Rem.here | apply Sel.cons | apply Rem.there)))⟩
      (try simp only [decide_eq_true_eq, decide_eq_false_iff_not, Bool.not_eq_true', Bool.not_eq_false', Bool.not_eq_true, Bool.not_eq_false, not_true_eq_false, not_false_eq_true, reduceCtorEq] at h2)
      (exfalso; omega)
def cutL (c : List Bool) (a b : Int) : List Bool := if isR a && isR b then (c.set (a.toNat * 7 + b.toNat) true).set (b.toNat * 7 + a.toNat) true else c
theorem cutL_len (c a b) : (cutL c a b).length = c.length := by unfold cutL; split <;> simp
theorem cells_setB {v : Go.Value} {c : List Bool} {n : Int} {k : Nat} {x : Bool} (hk : k < c.length) : splice (1 + k) [B x] (poolC v c n) = poolC v (c.set k x) n := by
  have e : ∀ c : List Bool, poolC v c n = [v] ++ (boolsC c ++ [I n]) := fun c => rfl
  rw [e, e, splice]
  have h1 : ([v] ++ (boolsC c ++ [I n])).take (1 + k) = [v] ++ (boolsC c).take k := by
    rw [List.take_append, List.take_append_of_le_length (by simp [boolsC]; omega)]
    rw [List.take_of_length_le (by simp)]
    simp
  have h2 : ([v] ++ (boolsC c ++ [I n])).drop (1 + k + [B x].length) = (boolsC c).drop (k + 1) ++ [I n] := by
    rw [show 1 + k + [B x].length = (k + 1) + 1 by simp; omega]
    simp only [List.singleton_append, List.drop_succ_cons]
    rw [List.drop_append_of_le_length (by simp [boolsC]; omega)]
  rw [h1, h2]
  simp only [boolsC, List.map_set]
  rw [List.set_eq_take_append_cons_drop, if_pos (by simpa using hk)]
  simp
theorem poolC.setB {v : Go.Value} {c : List Bool} {n : Int} {i j : Nat} {x : Bool} (hc : c.length = 49) (hi : i < 7) (hj : j < 7) : SplOf (1 + i * 7 + j * 1) [B x] (poolC v c n) (poolC v (c.set (i * 7 + j) x) n) := ⟨by
  rw [show 1 + i * 7 + j * 1 = 1 + (i * 7 + j) by omega]
  exact cells_setB (by omega)⟩
theorem poolC.bB {v : Go.Value} {c : List Bool} {n : Int} {i j : Nat} (hc : c.length = 49) (hi : i < 7) (hj : j < 7) : Nat.blt (1 + i * 7 + j * 1) (poolC v c n).length = true := by rw [Nat.blt_eq, poolC.len]; omega
theorem pool_cut (b : Nat) (v : Go.Value) (l : List PoolLetter) (c : List Bool) (n x y : Int) (hc : c.length = 49) :
    Ct Try.prog 45 [Ptr b 0, I x, I y] (poolE b v l c n) (fun r σ' => r = .tuple #[] ∧ σ' = poolE b v l (cutL c x y) n) := by
  have hF := pool_is x
  have hT := pool_is y
  unfold poolE
  cases h1 : isR x with
  | false =>
    rw [h1] at hF
    have e : cutL c x y = c := by simp [cutL, h1]
    rw [e]
    refine Ct.enter Try.func45 rfl rfl fun W => ?_
    apply Wp.seq
    apply Wp.region
    refine WpL.v (V.mv) ?_
    refine WpL.v (V.neP) ?_
    refine WpL.v (V.mv) ?_
    refine WpL.v (V.mv) ?_
    refine WpL.o (Op1.fn rfl (hF) ?_)
    refine WpL.v (V.pT) ?_
    refine WpL.v (V.mv) ?_
    refine WpL.sk ?_
    refine WpL.sk ?_
    refine WpL.v (V.pF) ?_
    apply WpL.nil
    apply Out.seqN
    refine Wp.cF ?_
    apply Wp.skip
    refine Out.f0 rfl  ⟨?_, rfl⟩
    exact rfl
  | true =>
    rw [h1] at hF
    cases h2 : isR y with
    | false =>
      rw [h2] at hT
      have e : cutL c x y = c := by simp [cutL, h2]
      rw [e]
      refine Ct.enter Try.func45 rfl rfl fun W => ?_
      apply Wp.seq
      apply Wp.region
      refine WpL.v (V.mv) ?_
      refine WpL.v (V.neP) ?_
      refine WpL.v (V.mv) ?_
      refine WpL.v (V.mv) ?_
      refine WpL.o (Op1.fn rfl (hF) ?_)
      refine WpL.v (V.pT) ?_
      refine WpL.v (V.mv) ?_
      refine WpL.v (V.mv) ?_
      refine WpL.o (Op1.fn rfl (hT) ?_)
      refine WpL.v (V.pT) ?_
      apply WpL.nil
      apply Out.seqN
      refine Wp.cF ?_
      apply Wp.skip
      refine Out.f0 rfl  ⟨?_, rfl⟩
      exact rfl
    | true =>
      rw [h2] at hT
      obtain ⟨k1, rfl, hk1'⟩ := isR_spec h1
      obtain ⟨k2, rfl, hk2'⟩ := isR_spec h2
      have e : cutL c k1 k2 = (c.set (k1 * 7 + k2) true).set (k2 * 7 + k1) true := by simp [cutL, h1, h2]
      rw [e]
      have hc' : (c.set (k1 * 7 + k2) true).length = 49 := by simpa using hc
      refine Ct.enter Try.func45 rfl rfl fun W => ?_
      apply Wp.seq
      apply Wp.region
      refine WpL.v (V.mv) ?_
      refine WpL.v (V.neP) ?_
      refine WpL.v (V.mv) ?_
      refine WpL.v (V.mv) ?_
      refine WpL.o (Op1.fn rfl (hF) ?_)
      refine WpL.v (V.pT) ?_
      refine WpL.v (V.mv) ?_
      refine WpL.v (V.mv) ?_
      refine WpL.o (Op1.fn rfl (hT) ?_)
      refine WpL.v (V.pT) ?_
      apply WpL.nil
      apply Out.seqN
      refine Wp.cT ?_
      refine Wp.dG [] ?_ (List.Sublist.cons _ (List.Sublist.cons_cons _ List.Sublist.slnil)) (List.Sublist.cons _ (List.Sublist.cons_cons _ List.Sublist.slnil))
      refine WpA.tF 0 rfl (V.mv) ?_
      refine WpA.tF 1 rfl (V.mv) ?_
      refine WpA.tF 2 rfl (V.mv) ?_
      refine WpA.tF 3 rfl (V.mv) ?_
      refine WpA.tF 4 rfl (V.mv) ?_
      refine WpA.tF 5 rfl (V.mv) ?_
      refine WpA.tF 6 rfl (V.nc) ?_
      refine WpA.tF 7 rfl (V.fa tb) ?_
      refine WpA.tF 8 rfl (V.ixA2 tb (k := k1) rfl rfl rfl) ?_
      refine WpA.tF 9 rfl (V.ixA2 tb (k := k2) rfl rfl rfl) ?_
      refine WpA.tF 11 rfl (V.nc) ?_
      refine WpA.tF 12 rfl (V.fa tb) ?_
      refine WpA.tF 13 rfl (V.ixA2 tb (k := k2) rfl rfl rfl) ?_
      refine WpA.oS 10 rfl (O.st1 tb ⟨?_, ?_, ?_⟩ (hl := poolC.bB hc hk1' hk2') (hs := poolC.setB hc hk1' hk2'))
      exact holdT
      exact holdT
      refine WpA.tF 14 rfl (V.ixA2 tb (k := k1) rfl rfl rfl) ?_
      refine WpA.oS 15 rfl (O.st1 tb ⟨?_, ?_, ?_⟩ (hl := poolC.bB hc' hk2' hk1') (hs := poolC.setB hc' hk2' hk1'))
      exact holdT
      exact holdT
      refine WpA.ou ?_
      refine Out.f0 rfl  ⟨?_, rfl⟩
      exact rfl
end Go.Proofs.Ytgbflapcadlelaa
