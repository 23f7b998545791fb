/-
  The statement PoolCuts of layer 11: what is cut off doesn't get through; healed, it does. Proved for every input.
-/
import Derived.Test.YtgbflapcadlelaaPool5
namespace Go.Proofs.Ytgbflapcadlelaa
open Go.HL
set_option linter.unusedSimpArgs false
set_option linter.unusedVariables false
set_option maxRecDepth 8000
theorem badLen (xs : List PoolLetter) : 0 ≤ ((xs.filter (fun x => !okL x)).length : Int) ∧ ((xs.filter (fun x => !okL x)).length : Int) ≤ xs.length := by
  have := List.length_filter_le (fun x => !okL x) xs
  omega
theorem cutAt_set {c : List Bool} {i j k m : Nat} (hc : c.length = 49) (hi : i < 7) (hj : j < 7) (hk : k < 7) (hm : m < 7) :
    (cutAt ((c.set (i * 7 + j) true).set (j * 7 + i) true) (k : Int) (m : Int)) = (decide (k = i ∧ m = j ∨ k = j ∧ m = i) || cutAt c k m) := by
  unfold cutAt
  have hlt : k * 7 + m < c.length := by omega
  simp only [Int.toNat_natCast, List.getD_eq_getElem?_getD, List.getElem?_set, List.length_set]
  by_cases h1 : j * 7 + i = k * 7 + m
  · have h2 : k = j ∧ m = i := by omega
    rw [if_pos h1, if_pos (by omega)]
    simp [h2]
  · rw [if_neg h1]
    by_cases h2 : i * 7 + j = k * 7 + m
    · have h3 : k = i ∧ m = j := by omega
      rw [if_pos h2, if_pos (by omega)]
      simp [h3]
    · rw [if_neg h2]
      have : ¬ (k = i ∧ m = j ∨ k = j ∧ m = i) := by
        rintro (⟨rfl, rfl⟩ | ⟨rfl, rfl⟩)
        · exact h2 rfl
        · exact h1 rfl
      simp [this]
def lab (a b : Int) : PoolLetter := ⟨a, b, []⟩
theorem poolCuts_walk (e : Ent) (ao : Option Go.Addr) (cap b off : Nat) (xs : List PoolLetter) (x y : Int) (hR : Rd e ao xs.length b off 3 (xs.map PoolLetter.c)) :
    Ct Try.prog 11 [.slice ao xs.length cap, I x, I y] [e] (fun r σ' => r = B true ∧ σ' = [e]) := by
  have hm := hR.small
  simp only [Go.maxLen] at hm
  by_cases hg : 60 < xs.length ∨ x < 0 ∨ 6 < x ∨ y < 0 ∨ 6 < y
  · refine Ct.enter Try.func11 rfl rfl fun W => ?_
    apply Wp.seq
    apply Wp.region
    refine WpL.v (V.as) ?_
    apply WpL.nil
    apply Out.seqN
    apply Wp.seq
    apply Wp.seq
    apply Wp.region
    refine WpL.o (Op1.fn rfl (pool_alive) ?_)
    refine WpL.v (V.not) ?_
    apply WpL.nil
    apply Out.seqN
    refine Wp.cF ?_
    apply Wp.skip
    apply Out.seqN
    apply Wp.seq
    apply Wp.seq
    apply Wp.region
    refine WpL.v (V.mv) ?_
    refine WpL.v (V.lenL tb) ?_
    refine WpL.v (V.cmp) ?_
    refine WpL.v (V.mv) ?_
    refine WpL.pt (fun ha0 => ?_) (fun ha0 => ?_)
    (try simp only [decide_eq_true_eq, decide_eq_false_iff_not, Bool.not_eq_true', Bool.not_eq_false', Bool.not_eq_true, Bool.not_eq_false, not_true_eq_false, not_false_eq_true, reduceCtorEq] at ha0)
    refine WpL.sk ?_
    refine WpL.sk ?_
    refine WpL.v (V.pT) ?_
    refine WpL.v (V.mv) ?_
    refine WpL.sk ?_
    refine WpL.sk ?_
    refine WpL.v (V.pT) ?_
    refine WpL.v (V.mv) ?_
    refine WpL.sk ?_
    refine WpL.sk ?_
    refine WpL.v (V.pT) ?_
    refine WpL.v (V.mv) ?_
    refine WpL.sk ?_
    refine WpL.sk ?_
    refine WpL.v (V.pT) ?_
    apply WpL.nil
    apply Out.seqN
    refine Wp.cT ?_
    apply Wp.seq
    apply Wp.region
    refine WpL.v (V.as) ?_
    apply WpL.nil
    apply Out.seqN
    apply Wp.ret
    apply Out.seqR
    refine Out.f1 rfl ResIs.t ⟨?_, rfl⟩
    exact rfl
    (try simp only [decide_eq_true_eq, decide_eq_false_iff_not, Bool.not_eq_true', Bool.not_eq_false', Bool.not_eq_true, Bool.not_eq_false, not_true_eq_false, not_false_eq_true, reduceCtorEq] at ha0)
    refine WpL.v (V.mv) ?_
    refine WpL.v (V.cmp) ?_
    refine WpL.v (V.pF) ?_
    refine WpL.v (V.mv) ?_
    refine WpL.pt (fun ha1 => ?_) (fun ha1 => ?_)
    (try simp only [decide_eq_true_eq, decide_eq_false_iff_not, Bool.not_eq_true', Bool.not_eq_false', Bool.not_eq_true, Bool.not_eq_false, not_true_eq_false, not_false_eq_true, reduceCtorEq] at ha1)
    refine WpL.sk ?_
    refine WpL.sk ?_
    refine WpL.v (V.pT) ?_
    refine WpL.v (V.mv) ?_
    refine WpL.sk ?_
    refine WpL.sk ?_
    refine WpL.v (V.pT) ?_
    refine WpL.v (V.mv) ?_
    refine WpL.sk ?_
    refine WpL.sk ?_
    refine WpL.v (V.pT) ?_
    apply WpL.nil
    apply Out.seqN
    refine Wp.cT ?_
    apply Wp.seq
    apply Wp.region
    refine WpL.v (V.as) ?_
    apply WpL.nil
    apply Out.seqN
    apply Wp.ret
    apply Out.seqR
    refine Out.f1 rfl ResIs.t ⟨?_, rfl⟩
    exact rfl
    (try simp only [decide_eq_true_eq, decide_eq_false_iff_not, Bool.not_eq_true', Bool.not_eq_false', Bool.not_eq_true, Bool.not_eq_false, not_true_eq_false, not_false_eq_true, reduceCtorEq] at ha1)
    refine WpL.v (V.mv) ?_
    refine WpL.v (V.cmp) ?_
    refine WpL.v (V.pF) ?_
    refine WpL.v (V.mv) ?_
    refine WpL.pt (fun ha2 => ?_) (fun ha2 => ?_)
    (try simp only [decide_eq_true_eq, decide_eq_false_iff_not, Bool.not_eq_true', Bool.not_eq_false', Bool.not_eq_true, Bool.not_eq_false, not_true_eq_false, not_false_eq_true, reduceCtorEq] at ha2)
    refine WpL.sk ?_
    refine WpL.sk ?_
    refine WpL.v (V.pT) ?_
    refine WpL.v (V.mv) ?_
    refine WpL.sk ?_
    refine WpL.sk ?_
    refine WpL.v (V.pT) ?_
    apply WpL.nil
    apply Out.seqN
    refine Wp.cT ?_
    apply Wp.seq
    apply Wp.region
    refine WpL.v (V.as) ?_
    apply WpL.nil
    apply Out.seqN
    apply Wp.ret
    apply Out.seqR
    refine Out.f1 rfl ResIs.t ⟨?_, rfl⟩
    exact rfl
    (try simp only [decide_eq_true_eq, decide_eq_false_iff_not, Bool.not_eq_true', Bool.not_eq_false', Bool.not_eq_true, Bool.not_eq_false, not_true_eq_false, not_false_eq_true, reduceCtorEq] at ha2)
    refine WpL.v (V.mv) ?_
    refine WpL.v (V.cmp) ?_
    refine WpL.v (V.pF) ?_
    refine WpL.v (V.mv) ?_
    refine WpL.pt (fun ha3 => ?_) (fun ha3 => ?_)
    (try simp only [decide_eq_true_eq, decide_eq_false_iff_not, Bool.not_eq_true', Bool.not_eq_false', Bool.not_eq_true, Bool.not_eq_false, not_true_eq_false, not_false_eq_true, reduceCtorEq] at ha3)
    refine WpL.sk ?_
    refine WpL.sk ?_
    refine WpL.v (V.pT) ?_
    apply WpL.nil
    apply Out.seqN
    refine Wp.cT ?_
    apply Wp.seq
    apply Wp.region
    refine WpL.v (V.as) ?_
    apply WpL.nil
    apply Out.seqN
    apply Wp.ret
    apply Out.seqR
    refine Out.f1 rfl ResIs.t ⟨?_, rfl⟩
    exact rfl
    (try simp only [decide_eq_true_eq, decide_eq_false_iff_not, Bool.not_eq_true', Bool.not_eq_false', Bool.not_eq_true, Bool.not_eq_false, not_true_eq_false, not_false_eq_true, reduceCtorEq] at ha3)
    refine WpL.v (V.mv) ?_
    refine WpL.v (V.cmp) ?_
    refine WpL.v (V.pF) ?_
    apply WpL.nil
    apply Out.seqN
    refine Wp.c (fun ha4 => ?_) (fun ha4 => ?_)
    (try simp only [decide_eq_true_eq, decide_eq_false_iff_not, Bool.not_eq_true', Bool.not_eq_false', Bool.not_eq_true, Bool.not_eq_false, not_true_eq_false, not_false_eq_true, reduceCtorEq] at ha4)
    apply Wp.seq
    apply Wp.region
    refine WpL.v (V.as) ?_
    apply WpL.nil
    apply Out.seqN
    apply Wp.ret
    apply Out.seqR
    refine Out.f1 rfl ResIs.t ⟨?_, rfl⟩
    exact rfl
    (try simp only [decide_eq_true_eq, decide_eq_false_iff_not, Bool.not_eq_true', Bool.not_eq_false', Bool.not_eq_true, Bool.not_eq_false, not_true_eq_false, not_false_eq_true, reduceCtorEq] at ha4)
    (exfalso; omega)
  · obtain ⟨i, rfl⟩ := Int.eq_ofNat_of_zero_le (show 0 ≤ x by omega)
    obtain ⟨j, rfl⟩ := Int.eq_ofNat_of_zero_le (show 0 ≤ y by omega)
    have hi : i < 7 := by omega
    have hj : j < 7 := by omega
    have hb := badLen xs
    have hfl := List.length_filter_le okL xs
    have hS (b : Nat) (v : Go.Value) : Ct Try.prog 41 [Ptr b 0, .slice ao xs.length cap] (e :: poolE b v [] (List.replicate 49 false) 0) (fun r σ' => ∃ v', r = I ((xs.filter (fun x => !okL x)).length : Int) ∧ σ' = e :: poolE b v' (xs.filter okL) (List.replicate 49 false) ((xs.filter (fun x => !okL x)).length : Int)) := by
      have h := pool_send e ao cap _ _ b v [] xs (List.replicate 49 false) 0 hR rfl (by simp) (by omega) (by omega)
      rw [show List.replicate 49 false = noCut from rfl, sends_open xs [] (by simp; omega)] at h
      simp only [List.nil_append, Int.zero_add] at h
      exact h
    have hri : isR (i : Int) = true := by simp [isR]; omega
    have hrj : isR (j : Int) = true := by simp [isR]; omega
    obtain ⟨c, hc⟩ : ∃ c, c = cutL (List.replicate 49 false) (i : Int) (j : Int) := ⟨_, rfl⟩
    have hcl : c.length = 49 := by rw [hc, cutL_len]; rfl
    have hcat : ∀ k m : Nat, k < 7 → m < 7 → cutAt c (k : Int) (m : Int) = decide (k = i ∧ m = j ∨ k = j ∧ m = i) := by
      intro k m hk hm
      have e : c = ((List.replicate 49 false).set (i * 7 + j) true).set (j * 7 + i) true := by rw [hc, cutL, hri, hrj]; rfl
      rw [e, cutAt_set rfl hi hj hk hm, show cutAt (List.replicate 49 false) (k : Int) (m : Int) = false from cutAt_no _ _, Bool.or_false]
    have hC (b : Nat) (v : Go.Value) (l : List PoolLetter) (n : Int) : Ct Try.prog 45 [Ptr b 0, I (i : Int), I (j : Int)] (poolE b v l (List.replicate 49 false) n) (fun r σ' => r = .tuple #[] ∧ σ' = poolE b v l c n) := by
      rw [hc]; exact pool_cut b v l _ n _ _ rfl
    refine Ct.enter Try.func11 rfl rfl fun W => ?_
    apply Wp.seq
    apply Wp.region
    refine WpL.v (V.as) ?_
    apply WpL.nil
    apply Out.seqN
    apply Wp.seq
    apply Wp.seq
    apply Wp.region
    refine WpL.o (Op1.fn rfl (pool_alive) ?_)
    refine WpL.v (V.not) ?_
    apply WpL.nil
    apply Out.seqN
    refine Wp.cF ?_
    apply Wp.skip
    apply Out.seqN
    apply Wp.seq
    apply Wp.seq
    apply Wp.region
    refine WpL.v (V.mv) ?_
    refine WpL.v (V.lenL tb) ?_
    refine WpL.v (V.cmp) ?_
    refine WpL.v (V.mv) ?_
    refine WpL.pt (fun hb0 => ?_) (fun hb0 => ?_)
    (try simp only [decide_eq_true_eq, decide_eq_false_iff_not, Bool.not_eq_true', Bool.not_eq_false', Bool.not_eq_true, Bool.not_eq_false, not_true_eq_false, not_false_eq_true, reduceCtorEq] at hb0)
    (exfalso; omega)
    (try simp only [decide_eq_true_eq, decide_eq_false_iff_not, Bool.not_eq_true', Bool.not_eq_false', Bool.not_eq_true, Bool.not_eq_false, not_true_eq_false, not_false_eq_true, reduceCtorEq] at hb0)
    refine WpL.v (V.mv) ?_
    refine WpL.v (V.cmp) ?_
    refine WpL.v (V.pF) ?_
    refine WpL.v (V.mv) ?_
    refine WpL.pt (fun hb1 => ?_) (fun hb1 => ?_)
    (try simp only [decide_eq_true_eq, decide_eq_false_iff_not, Bool.not_eq_true', Bool.not_eq_false', Bool.not_eq_true, Bool.not_eq_false, not_true_eq_false, not_false_eq_true, reduceCtorEq] at hb1)
    (exfalso; omega)
    (try simp only [decide_eq_true_eq, decide_eq_false_iff_not, Bool.not_eq_true', Bool.not_eq_false', Bool.not_eq_true, Bool.not_eq_false, not_true_eq_false, not_false_eq_true, reduceCtorEq] at hb1)
    refine WpL.v (V.mv) ?_
    refine WpL.v (V.cmp) ?_
    refine WpL.v (V.pF) ?_
    refine WpL.v (V.mv) ?_
    refine WpL.pt (fun hb2 => ?_) (fun hb2 => ?_)
    (try simp only [decide_eq_true_eq, decide_eq_false_iff_not, Bool.not_eq_true', Bool.not_eq_false', Bool.not_eq_true, Bool.not_eq_false, not_true_eq_false, not_false_eq_true, reduceCtorEq] at hb2)
    (exfalso; omega)
    (try simp only [decide_eq_true_eq, decide_eq_false_iff_not, Bool.not_eq_true', Bool.not_eq_false', Bool.not_eq_true, Bool.not_eq_false, not_true_eq_false, not_false_eq_true, reduceCtorEq] at hb2)
    refine WpL.v (V.mv) ?_
    refine WpL.v (V.cmp) ?_
    refine WpL.v (V.pF) ?_
    refine WpL.v (V.mv) ?_
    refine WpL.pt (fun hb3 => ?_) (fun hb3 => ?_)
    (try simp only [decide_eq_true_eq, decide_eq_false_iff_not, Bool.not_eq_true', Bool.not_eq_false', Bool.not_eq_true, Bool.not_eq_false, not_true_eq_false, not_false_eq_true, reduceCtorEq] at hb3)
    (exfalso; omega)
    (try simp only [decide_eq_true_eq, decide_eq_false_iff_not, Bool.not_eq_true', Bool.not_eq_false', Bool.not_eq_true, Bool.not_eq_false, not_true_eq_false, not_false_eq_true, reduceCtorEq] at hb3)
    refine WpL.v (V.mv) ?_
    refine WpL.v (V.cmp) ?_
    refine WpL.v (V.pF) ?_
    apply WpL.nil
    apply Out.seqN
    refine Wp.c (fun hb4 => ?_) (fun hb4 => ?_)
    (try simp only [decide_eq_true_eq, decide_eq_false_iff_not, Bool.not_eq_true', Bool.not_eq_false', Bool.not_eq_true, Bool.not_eq_false, not_true_eq_false, not_false_eq_true, reduceCtorEq] at hb4)
    (exfalso; omega)
    (try simp only [decide_eq_true_eq, decide_eq_false_iff_not, Bool.not_eq_true', Bool.not_eq_false', Bool.not_eq_true, Bool.not_eq_false, not_true_eq_false, not_false_eq_true, reduceCtorEq] at hb4)
    apply Wp.skip
    apply Out.seqN
    apply Wp.seq
    apply Wp.region
    refine WpL.o (Op1.callT rfl (pool_new) (by (repeat (first | exact Sel.nil | exact Rem.here | apply Sel.cons | apply Rem.there))) ?_)
    rintro v5 s6 ⟨b31, ⟨rfl, rfl⟩⟩
    refine incat ?_
    refine WpL.v (V.as) ?_
    apply WpL.nil
    apply Out.seqN
    apply Wp.seq
    apply Wp.region
    refine WpL.v (V.mv) ?_
    refine WpL.v (V.mv) ?_
    refine WpL.o (Op1.callT rfl (hS _ _) (by (repeat (first | exact Sel.nil | exact Rem.here | apply Sel.cons | apply Rem.there))) ?_)
    rintro v7 s8 ⟨v'34, ⟨rfl, rfl⟩⟩
    refine incat ?_
    apply WpL.nil
    apply Out.seqN
    apply Wp.seq
    apply Wp.region
    refine WpL.v (V.mv) ?_
    refine WpL.v (V.mv) ?_
    refine WpL.v (V.mv) ?_
    refine WpL.o (Op1.callT rfl (hC _ _ _ _) (by (repeat (first | exact Sel.nil | exact Rem.here | apply Sel.cons | apply Rem.there))) ?_)
    rintro v9 s10 ⟨rfl, rfl⟩
    refine incat ?_
    apply WpL.nil
    apply Out.seqN
    apply Wp.seq
    apply Wp.block
    refine Wp.lp [7, 1, 2] (fun y : Go.Value × List PoolLetter × Int => (∀ x ∈ y.2.1, okL x = true) ∧ 0 ≤ y.2.2 ∧ y.2.2 + y.2.1.length ≤ 200) (fun y => []) (fun y => [cells b31 126 (poolC y.1 c y.2.2), rows PoolLetter.c y.1 61 3 y.2.1])
      (fun y => y.2.1.length) (v'34, xs.filter okL, ((xs.filter (fun x => !okL x)).length : Int)) ⟨fun x hx => (List.mem_filter.1 hx).2, hb.1, by dsimp only; omega⟩ ?_
    rintro ⟨v, l, n⟩ ⟨hok, hn, hle⟩ K hK
    dsimp only at hok hn hle
    dsimp only [List.cons_append, List.nil_append]
    have hL := pool_len b31 v l c n
    cases l with
    | nil =>
      clear hK
      have hb1 : badL c [] (lab i j) = true := by
        have h := hcat i j hi hj
        simp only [badL, lab, h, hri, hrj]; simp
      have hb2 : badL c [] (lab j i) = true := by
        have h := hcat j i hj hi
        simp only [badL, lab, h, hri, hrj]; simp
      have e1 : sends c [] [lab i j, lab j i] = ([], 2) := by simp [sends, stepS, hb1, hb2]
      have e2 : sends noCut [] [lab i j, lab j i] = ([lab i j, lab j i], 0) := by
        have h1 : okL (lab i j) = true := by simp [okL, lab, hri, hrj]
        have h2 : okL (lab j i) = true := by simp [okL, lab, hri, hrj]
        rw [sends_open _ _ (by simp)]
        simp [h1, h2]
      have hS1 (b g : Nat) (v : Go.Value) : Ct Try.prog 41 [Ptr b 0, .slice (some ⟨g, 0, none⟩) 2 2] (rows PoolLetter.c (.slice (some ⟨g, 0, none⟩) 2 2) 61 3 [lab i j, lab j i] :: poolE b v [] c n) (fun r σ' => ∃ v', r = I 2 ∧ σ' = rows PoolLetter.c (.slice (some ⟨g, 0, none⟩) 2 2) 61 3 [lab i j, lab j i] :: poolE b v' [] c (n + 2)) := by
        have h := pool_send (rows PoolLetter.c (.slice (some ⟨g, 0, none⟩) 2 2) 61 3 [lab i j, lab j i]) (some ⟨g, 0, none⟩) 2 g 0 b v [] [lab i j, lab j i] c n (Rd.rows (l := [lab i j, lab j i]) PoolLetter.len (by simp)) hcl (by simp) (by simp at hle; omega) (by simp)
        rw [e1] at h
        exact h
      have hS2 (b g : Nat) (v : Go.Value) : Ct Try.prog 41 [Ptr b 0, .slice (some ⟨g, 0, none⟩) 2 2] (rows PoolLetter.c (.slice (some ⟨g, 0, none⟩) 2 2) 61 3 [lab i j, lab j i] :: poolE b v [] (List.replicate 49 false) (n + 2)) (fun r σ' => ∃ v', r = I 0 ∧ σ' = rows PoolLetter.c (.slice (some ⟨g, 0, none⟩) 2 2) 61 3 [lab i j, lab j i] :: poolE b v' [lab i j, lab j i] (List.replicate 49 false) (n + 2 + 0)) := by
        have h := pool_send (rows PoolLetter.c (.slice (some ⟨g, 0, none⟩) 2 2) 61 3 [lab i j, lab j i]) (some ⟨g, 0, none⟩) 2 g 0 b v [] [lab i j, lab j i] (List.replicate 49 false) (n + 2) (Rd.rows (l := [lab i j, lab j i]) PoolLetter.len (by simp)) rfl (by simp) (by simp at hle; omega) (by simp)
        rw [show List.replicate 49 false = noCut from rfl, e2] at h
        exact h
      have hH := pool_heal b31
      apply Wp.seq
      apply Wp.seq
      apply Wp.region
      refine WpL.v (V.mv) ?_
      refine WpL.o (Op1.callT rfl (hL) (by (repeat (first | exact Sel.nil | exact Rem.here | apply Sel.cons | apply Rem.there))) ?_)
      rintro v0 s1 ⟨rfl, rfl⟩
      refine incat ?_
      refine WpL.v (V.cmp) ?_
      apply WpL.nil
      apply Out.seqN
      refine Wp.cF ?_
      apply Wp.exit
      apply Out.seqE
      apply Out.seqE
      apply Out.blockE
      apply Out.seqN
      apply Wp.seq
      apply Wp.seq
      apply Wp.region
      refine WpL.v (V.mv) ?_
      refine WpL.v (V.mv) ?_
      refine WpL.v (V.mv) ?_
      refine WpL.v (V.bld tb) ?_
      refine WpL.v (V.mv) ?_
      refine WpL.v (V.mv) ?_
      refine WpL.v (V.bld tb) ?_
      refine WpL.o (O.litL tb PoolLetter.c [lab i j, lab j i] rfl (PartsFrom.agg rfl (PartsFrom.agg rfl PartsFrom.nil)) rfl rfl (fun p79 => ?_))
      refine WpL.o (Op1.callT rfl (hS1 _ _ _) (by (repeat (first | exact Sel.nil | exact Rem.here | apply Sel.cons | apply Rem.there))) ?_)
      rintro v2 s3 ⟨v'80, ⟨rfl, rfl⟩⟩
      refine incat ?_
      refine WpL.v (V.cmp) ?_
      apply WpL.nil
      apply Out.seqN
      refine Wp.cF ?_
      apply Wp.skip
      apply Out.seqN
      apply Wp.seq
      apply Wp.region
      refine WpL.v (V.mv) ?_
      refine WpL.o (Op1.callT rfl (pool_heal _ _ _ _ _ hcl) (by (repeat (first | exact Sel.nil | exact Rem.here | apply Sel.cons | apply Rem.there))) ?_)
      rintro v4 s5 ⟨rfl, rfl⟩
      refine incat ?_
      apply WpL.nil
      apply Out.seqN
      apply Wp.seq
      apply Wp.region
      refine WpL.v (V.mv) ?_
      refine WpL.v (V.mv) ?_
      refine WpL.v (V.mv) ?_
      refine WpL.v (V.bld tb) ?_
      refine WpL.v (V.mv) ?_
      refine WpL.v (V.mv) ?_
      refine WpL.v (V.bld tb) ?_
      refine WpL.o (O.litL tb PoolLetter.c [lab i j, lab j i] rfl (PartsFrom.agg rfl (PartsFrom.agg rfl PartsFrom.nil)) rfl rfl (fun p91 => ?_))
      refine WpL.o (Op1.callT rfl (hS2 _ _ _) (by (repeat (first | exact Sel.nil | exact Rem.here | apply Sel.cons | apply Rem.there))) ?_)
      rintro v6 s7 ⟨v'92, ⟨rfl, rfl⟩⟩
      refine incat ?_
      refine WpL.v (V.cmp) ?_
      refine WpL.v (V.mv) ?_
      refine WpL.v (V.mv) ?_
      refine WpL.o (Op1.callT rfl (pool_len _ _ _ _ _) (by (repeat (first | exact Sel.nil | exact Rem.here | apply Sel.cons | apply Rem.there))) ?_)
      rintro v8 s9 ⟨rfl, rfl⟩
      refine incat ?_
      refine WpL.v (V.cmp) ?_
      refine WpL.v (V.pT) ?_
      refine WpL.v (V.as) ?_
      apply WpL.nil
      apply Out.seqN
      apply Wp.ret
      refine Out.f1 rfl ResIs.t ⟨?_, rfl⟩
      exact rfl
    | cons z t =>
      have hz := hok z (List.mem_cons_self ..)
      have ht : ∀ x ∈ t, okL x = true := fun x hx => hok x (List.mem_cons_of_mem _ hx)
      simp only [List.length_cons] at hle
      simp only [okL, Bool.and_eq_true] at hz
      obtain ⟨k1, hk1, hk1'⟩ := isR_spec hz.1
      obtain ⟨k2, hk2, hk2'⟩ := isR_spec hz.2
      have hT := pool_take b31 v (z :: t) c n 0 hcl (by omega) hok
      rw [show atP (z :: t) 0 = some z from rfl] at hT
      have h3 := hcat k1 k2 hk1' hk2'
      rw [← hk1, ← hk2] at h3
      simp only [h3, show (z :: t).eraseIdx (0 : Int).toNat = t from rfl] at hT
      have hpos : cmpI .gtr ((z :: t).length : Int) 0 = some true := by simp [cmpI]
      by_cases h4 : k1 = i ∧ k2 = j ∨ k1 = j ∧ k2 = i
      · simp only [h4, decide_true, if_true] at hT
        apply Wp.seq
        apply Wp.seq
        apply Wp.region
        refine WpL.v (V.mv) ?_
        refine WpL.o (Op1.callT rfl (hL) (by (repeat (first | exact Sel.nil | exact Rem.here | apply Sel.cons | apply Rem.there))) ?_)
        rintro v0 s1 ⟨rfl, rfl⟩
        refine incat ?_
        refine WpL.v (V.cmp rfl rfl hpos) ?_
        apply WpL.nil
        apply Out.seqN
        refine Wp.cT ?_
        apply Wp.skip
        apply Out.seqN
        apply Wp.block
        apply Wp.seq
        apply Wp.region
        refine WpL.v (V.mv) ?_
        refine WpL.o (Op1.callT rfl (hT) (by (repeat (first | exact Sel.nil | exact Rem.here | apply Sel.cons | apply Rem.there))) ?_)
        rintro v2 s3 ⟨v'44, ⟨rfl, rfl⟩⟩
        refine incat ?_
        refine WpL.v (V.mv) ?_
        refine WpL.v (V.ex) ?_
        refine WpL.v (V.ex) ?_
        refine WpL.o (O.al tb (fun p8 => ?_))
        refine WpL.o (O.stA tb ?_)
        refine WpL.v (V.as) ?_
        apply WpL.nil
        apply Out.seqN
        apply Wp.seq
        apply Wp.region
        refine WpL.v (V.mv) ?_
        refine WpL.v (V.mv) ?_
        refine WpL.sk ?_
        refine WpL.sk ?_
        refine WpL.sk ?_
        refine WpL.sk ?_
        refine WpL.sk ?_
        refine WpL.sk ?_
        refine WpL.sk ?_
        refine WpL.sk ?_
        refine WpL.sk ?_
        refine WpL.sk ?_
        refine WpL.sk ?_
        refine WpL.sk ?_
        refine WpL.sk ?_
        refine WpL.sk ?_
        refine WpL.sk ?_
        refine WpL.sk ?_
        refine WpL.sk ?_
        refine WpL.sk ?_
        refine WpL.sk ?_
        refine WpL.sk ?_
        refine WpL.sk ?_
        refine WpL.sk ?_
        refine WpL.v (V.pF) ?_
        apply WpL.nil
        apply Out.seqN
        refine Wp.cF ?_
        apply Wp.skip
        apply Out.blockN
        all_goals exact Out.ag hK (_, t, n + 1) ⟨ht, by show 0 ≤ n + 1; omega, by show n + 1 + (t.length : Int) ≤ 200; omega⟩ (by show t.length < (z :: t).length; simp)
      · simp only [h4, decide_false, Bool.false_eq_true, if_false] at hT
        apply Wp.seq
        apply Wp.seq
        apply Wp.region
        refine WpL.v (V.mv) ?_
        refine WpL.o (Op1.callT rfl (hL) (by (repeat (first | exact Sel.nil | exact Rem.here | apply Sel.cons | apply Rem.there))) ?_)
        rintro v0 s1 ⟨rfl, rfl⟩
        refine incat ?_
        refine WpL.v (V.cmp rfl rfl hpos) ?_
        apply WpL.nil
        apply Out.seqN
        refine Wp.cT ?_
        apply Wp.skip
        apply Out.seqN
        apply Wp.block
        apply Wp.seq
        apply Wp.region
        refine WpL.v (V.mv) ?_
        refine WpL.o (Op1.callT rfl (hT) (by (repeat (first | exact Sel.nil | exact Rem.here | apply Sel.cons | apply Rem.there))) ?_)
        rintro v2 s3 ⟨v'44, ⟨rfl, rfl⟩⟩
        refine incat ?_
        refine WpL.v (V.mv) ?_
        refine WpL.v (V.ex) ?_
        refine WpL.v (V.ex) ?_
        refine WpL.o (O.al tb (fun p8 => ?_))
        refine WpL.o (O.stA tb ?_)
        refine WpL.v (V.as) ?_
        apply WpL.nil
        apply Out.seqN
        apply Wp.seq
        apply Wp.region
        refine WpL.v (V.mv) ?_
        refine WpL.v (V.mv) ?_
        refine WpL.v (V.fa tb) ?_
        refine WpL.v (V.ld1 tb) ?_
        refine WpL.v (V.mv) ?_
        refine WpL.v (V.cmp) ?_
        refine WpL.v (V.mv) ?_
        refine WpL.pt (fun he4 => ?_) (fun he4 => ?_)
        (try simp only [decide_eq_true_eq, decide_eq_false_iff_not, Bool.not_eq_true', Bool.not_eq_false', Bool.not_eq_true, Bool.not_eq_false, not_true_eq_false, not_false_eq_true, reduceCtorEq] at he4)
        refine WpL.v (V.fa tb) ?_
        refine WpL.v (V.ld1 tb) ?_
        refine WpL.v (V.mv) ?_
        refine WpL.v (V.cmp) ?_
        refine WpL.v (V.pT) ?_
        refine WpL.v (V.mv) ?_
        refine WpL.pt (fun he5 => ?_) (fun he5 => ?_)
        (try simp only [decide_eq_true_eq, decide_eq_false_iff_not, Bool.not_eq_true', Bool.not_eq_false', Bool.not_eq_true, Bool.not_eq_false, not_true_eq_false, not_false_eq_true, reduceCtorEq] at he5)
        (exfalso; omega)
        (try simp only [decide_eq_true_eq, decide_eq_false_iff_not, Bool.not_eq_true', Bool.not_eq_false', Bool.not_eq_true, Bool.not_eq_false, not_true_eq_false, not_false_eq_true, reduceCtorEq] at he5)
        refine WpL.v (V.fa tb) ?_
        refine WpL.v (V.ld1 tb) ?_
        refine WpL.v (V.mv) ?_
        refine WpL.v (V.cmp) ?_
        refine WpL.v (V.mv) ?_
        refine WpL.pt (fun he6 => ?_) (fun he6 => ?_)
        (try simp only [decide_eq_true_eq, decide_eq_false_iff_not, Bool.not_eq_true', Bool.not_eq_false', Bool.not_eq_true, Bool.not_eq_false, not_true_eq_false, not_false_eq_true, reduceCtorEq] at he6)
        refine WpL.v (V.fa tb) ?_
        refine WpL.v (V.ld1 tb) ?_
        refine WpL.v (V.mv) ?_
        refine WpL.v (V.cmp) ?_
        refine WpL.v (V.pT) ?_
        refine WpL.v (V.pF) ?_
        refine WpL.v (V.pT) ?_
        apply WpL.nil
        apply Out.seqN
        refine Wp.c (fun he7 => ?_) (fun he7 => ?_)
        (try simp only [decide_eq_true_eq, decide_eq_false_iff_not, Bool.not_eq_true', Bool.not_eq_false', Bool.not_eq_true, Bool.not_eq_false, not_true_eq_false, not_false_eq_true, reduceCtorEq] at he7)
        (exfalso; omega)
        (try simp only [decide_eq_true_eq, decide_eq_false_iff_not, Bool.not_eq_true', Bool.not_eq_false', Bool.not_eq_true, Bool.not_eq_false, not_true_eq_false, not_false_eq_true, reduceCtorEq] at he7)
        apply Wp.skip
        apply Out.blockN
        rotate_left
        (try simp only [decide_eq_true_eq, decide_eq_false_iff_not, Bool.not_eq_true', Bool.not_eq_false', Bool.not_eq_true, Bool.not_eq_false, not_true_eq_false, not_false_eq_true, reduceCtorEq] at he6)
        refine WpL.sk ?_
        refine WpL.sk ?_
        refine WpL.sk ?_
        refine WpL.sk ?_
        refine WpL.v (V.pF) ?_
        refine WpL.v (V.pF) ?_
        refine WpL.v (V.pT) ?_
        apply WpL.nil
        apply Out.seqN
        refine Wp.cF ?_
        apply Wp.skip
        apply Out.blockN
        rotate_left
        (try simp only [decide_eq_true_eq, decide_eq_false_iff_not, Bool.not_eq_true', Bool.not_eq_false', Bool.not_eq_true, Bool.not_eq_false, not_true_eq_false, not_false_eq_true, reduceCtorEq] at he4)
        refine WpL.sk ?_
        refine WpL.sk ?_
        refine WpL.sk ?_
        refine WpL.sk ?_
        refine WpL.v (V.pF) ?_
        refine WpL.v (V.mv) ?_
        refine WpL.v (V.fa tb) ?_
        refine WpL.v (V.ld1 tb) ?_
        refine WpL.v (V.mv) ?_
        refine WpL.v (V.cmp) ?_
        refine WpL.v (V.mv) ?_
        refine WpL.pt (fun he8 => ?_) (fun he8 => ?_)
        (try simp only [decide_eq_true_eq, decide_eq_false_iff_not, Bool.not_eq_true', Bool.not_eq_false', Bool.not_eq_true, Bool.not_eq_false, not_true_eq_false, not_false_eq_true, reduceCtorEq] at he8)
        refine WpL.v (V.fa tb) ?_
        refine WpL.v (V.ld1 tb) ?_
        refine WpL.v (V.mv) ?_
        refine WpL.v (V.cmp) ?_
        refine WpL.v (V.pT) ?_
        refine WpL.v (V.pF) ?_
        refine WpL.v (V.pT) ?_
        apply WpL.nil
        apply Out.seqN
        refine Wp.c (fun he9 => ?_) (fun he9 => ?_)
        (try simp only [decide_eq_true_eq, decide_eq_false_iff_not, Bool.not_eq_true', Bool.not_eq_false', Bool.not_eq_true, Bool.not_eq_false, not_true_eq_false, not_false_eq_true, reduceCtorEq] at he9)
        (exfalso; omega)
        (try simp only [decide_eq_true_eq, decide_eq_false_iff_not, Bool.not_eq_true', Bool.not_eq_false', Bool.not_eq_true, Bool.not_eq_false, not_true_eq_false, not_false_eq_true, reduceCtorEq] at he9)
        apply Wp.skip
        apply Out.blockN
        rotate_left
        (try simp only [decide_eq_true_eq, decide_eq_false_iff_not, Bool.not_eq_true', Bool.not_eq_false', Bool.not_eq_true, Bool.not_eq_false, not_true_eq_false, not_false_eq_true, reduceCtorEq] at he8)
        refine WpL.sk ?_
        refine WpL.sk ?_
        refine WpL.sk ?_
        refine WpL.sk ?_
        refine WpL.v (V.pF) ?_
        refine WpL.v (V.pF) ?_
        refine WpL.v (V.pT) ?_
        apply WpL.nil
        apply Out.seqN
        refine Wp.cF ?_
        apply Wp.skip
        apply Out.blockN
        rotate_left
        all_goals exact Out.ag hK (_, t, n) ⟨ht, hn, by show n + (t.length : Int) ≤ 200; omega⟩ (by show t.length < (z :: t).length; simp)
open Go Go.ChangeShapes Go.WideShapes Go.ChangeAt Go.RowKit
theorem poolCuts_read : (Try.f11.params.toList.all fun t => Try.prog.readableRec t && decide (t < Try.prog.types.size)) = true := by kernel_rfl
theorem poolCuts_lifted (os : Go.Os) (started : os.Started) (H : Type) (enc : Go.TypeId × Go.Value → H) :
    ReturnsInHanded {} Try.checked os 11 .any (Rows.poolCutsSpec.pre6 enc Try.prog Try.f11 Rows.poolCutsRow.domain false) (Rows.poolCutsSpec.post enc Try.prog Try.f11 false true false false) := by
  refine returnsInHanded_of_change_sized (C := Try.checked) own started (by kernel_rfl) Try.func11
    (ChangeSpec.witness6 (enc := enc) (C := Try.checked) false ⟨#[], #[.slice none 0 0, I 0, I 0], []⟩ 8 (by kernel_rfl) (by kernel_rfl) (by kernel_rfl) (by kernel_rfl)) ?_
  intro W base args ds gs before hval0 hW hcnd hsz0 _
  have hsz : (DataW.weightsEach Try.prog (Try.f11.params.toList ++ Rows.poolCutsSpec.plain.varTypes Try.prog) (ds ++ gs)).all (· ≤ reachBytes) = true := hsz0
  have hval : ∀ (j : Nat) t v, Try.f11.params[j]? = some t → args[j]? = some v → Value.okWide Try.prog W .any base t v := hval0
  have hW' := hW
  obtain ⟨p, q, hA0, hV, rfl, hfz, hnd⟩ := hW
  have hA1 : DataW.TrodAll enc Try.prog W 0 (fun _ => true) true Try.f11.params.toList args.toList ds p := hA0
  have hA := hA1
  rw [Try.params11] at hA hval hsz
  obtain ⟨v0, vs0, d0, ds0, p0, q0, hargs, rfl, rfl, h0, r0⟩ := trodAll_cons hA
  obtain ⟨v1, vs1, d1, ds1, p1, q1, rfl, rfl, rfl, h1, r1⟩ := trodAll_cons r0
  obtain ⟨v2, vs2, d2, ds2, p2, q2, rfl, rfl, rfl, h2, r2⟩ := trodAll_cons r1
  obtain ⟨rfl, rfl, rfl⟩ := trodAll_nil r2
  obtain rfl : args = #[v0, v1, v2] := by cases args; simp_all
  obtain ⟨rfl, rfl⟩ := trodVars_none hV
  obtain ⟨ao0, b0, off0, len0, cap0, xs0, rfl, hl0, hlc0, hcm0, ha0, hs0, hf0, hby0⟩ := open_slice_plain Try.underlying58 PoolLetter.leaves (by kernel_rfl) (by decide) (hval 0 58 v0 rfl rfl) h0 (sizedAll hsz 0 rfl rfl)
  obtain ⟨x0, rfl, w0⟩ := fits_map PoolLetter.c PoolLetter.wf hf0 PoolLetter.fit
  obtain rfl : len0 = x0.length := by simpa using hl0.symm
  obtain ⟨x1, rfl, rfl, rfl, w1⟩ := open_int Try.underlying3 (hval 1 3 v1 rfl rfl) h1
  obtain ⟨x2, rfl, rfl, rfl, w2⟩ := open_int Try.underlying3 (hval 2 3 v2 rfl rfl) h2
  simp only [List.append_nil] at hW' hA1
  have hbl : ∀ p : Nat × Nat, p ∈ [(x0.length, b0)] → 0 < p.1 → p.2 < W.heap.size := by
    intro p hp h0
    simp only [List.mem_cons, List.mem_nil_iff, or_false] at hp
    rcases hp with rfl
    · exact (ha0 h0).2
  have hR0 : Rd (snap W (blocksOf [(x0.length, b0)])) ao0 x0.length b0 off0 3 (x0.map PoolLetter.c) := Rd.snap (by simp) (Nat.le_trans hlc0 hcm0) ha0 hs0 (fun h => blocksOf_mem (len := x0.length) (by simp) h)
  refine (Ct.runSnap (blocksOf_nodup _) (blocksOf_lt hbl) (poolCuts_walk _ _ _ _ _ x0 x1 x2 hR0)).mono fun e W' hh => ?_
  obtain ⟨rfl, hS⟩ := hh
  exact ⟨_, rfl, post_law (P := Try.prog) (f := Try.f11) (tbool := 4) hW' hA1 rfl rfl hS laid poolCuts_read rfl Try.underlying4⟩
theorem poolCuts_over : Rows.poolCutsRow.holds Try.pinned (OpenSpec.ofChange Rows.poolCutsSpec) :=
  OpenClaim.holds_of_wide 11 Try.f11 rfl rfl rfl rfl rfl rfl rfl ⟨rfl, rfl, rfl, rfl, rfl⟩ rfl rfl rfl rfl rfl (by kernel_rfl) Try.func11 (by kernel_rfl)
    (of_decide_eq_true (by kernel_rfl)) (by unfold Func.isWrapper; first | (rw [if_pos (by decide +kernel)]; kernel_rfl) | (rw [if_neg (by decide +kernel)]; exact ⟨rfl, rfl⟩))
    (fun os started H enc _ => poolCuts_lifted os started H enc)
/-- THE STATEMENT. -/
theorem poolCuts_proved : Rows.PoolCutsSaid := poolCuts_over
#print axioms poolCuts_proved

end Go.Proofs.Ytgbflapcadlelaa
