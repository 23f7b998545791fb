/-
  The statement ItemTop of layer 3: Top is the greatest number of a replica's at which there is something; all rows together have as many things as Len tells. Proved for every input.
-/
import Derived.Test.YtgbflapcadlelaaItem5
namespace Go.Proofs.Ytgbflapcadlelaa
open Go.HL
set_option linter.unusedSimpArgs false
set_option linter.unusedVariables false
set_option maxRecDepth 8000
/-- The greatest number up to j at which there is something. -/
def IP.last_ (p : IP) (k : Nat) : Nat → Nat
  | 0 => 0
  | j + 1 => if (p.at ⟨(k : Int), (j : Int) + 1⟩).isSome = true then j + 1 else p.last_ k j
theorem IP.at_none {p : IP} (hp : p.ok) {k j : Nat} (h : p.top (k : Int) ≤ j) : p.at ⟨(k : Int), (j : Int) + 1⟩ = none := by
  cases hat : p.at ⟨(k : Int), (j : Int) + 1⟩ with
  | none => rfl
  | some t =>
    have := IP.at_lt hp hat
    simp only at this
    omega
theorem IP.last_top {p : IP} (hp : p.ok) (k : Nat) : ∀ d, p.last_ k (p.top (k : Int) + d) = p.top (k : Int)
  | d + 1 => by
    rw [← Nat.add_assoc, IP.last_, IP.at_none hp (by omega)]
    exact IP.last_top hp k d
  | 0 => by
    cases h : p.top (k : Int) with
    | zero => rfl
    | succ m => rw [Nat.add_zero, IP.last_, if_pos (IP.at_top hp h)]
theorem IP.last_64 {p : IP} (hp : p.ok) (k : Nat) : p.last_ k 64 = p.top (k : Int) := by
  have h := IP.top_le hp.towf (k : Int)
  have := IP.last_top hp k (64 - p.top (k : Int))
  rwa [show p.top (k : Int) + (64 - p.top (k : Int)) = 64 by omega] at this
theorem IP.row_top {p : IP} (hp : p.ok) (k : Nat) : ∀ d, p.row k (p.top (k : Int) + d) = p.row k (p.top (k : Int))
  | 0 => rfl
  | d + 1 => by rw [← Nat.add_assoc, IP.row_succ, IP.at_none hp (by omega), IP.row_top hp k d]; simp
theorem IP.row_64 {p : IP} (hp : p.ok) (k : Nat) : p.row k 64 = p.row k (p.top (k : Int)) := by
  have h := IP.top_le hp.towf (k : Int)
  have := IP.row_top hp k (64 - p.top (k : Int))
  rwa [show p.top (k : Int) + (64 - p.top (k : Int)) = 64 by omega] at this
theorem itemTop_walk (e : Ent) (ao : Option Go.Addr) (cap b off : Nat) (n : Int) (xs : List Caucuslaw03Call) (hR : Rd e ao xs.length b off 3 (xs.map Caucuslaw03Call.c)) :
    Ct Try.prog 7 [I n, .slice ao xs.length cap] [e] (fun v σ' => v = B true ∧ σ' = [e]) := by
  have hm := hR.small
  simp only [Go.maxLen] at hm
  refine Ct.enter Try.func7 rfl rfl fun W => ?_
  apply Wp.seq
  apply Wp.region
  refine WpL.v (V.as) ?_
  apply WpL.nil
  apply Out.seqN
  apply Wp.seq
  apply Wp.seq
  apply Wp.region
  refine WpL.o (Op1.fn rfl (alive03) ?_)
  refine WpL.v (V.not) ?_
  apply WpL.nil
  apply Out.seqN
  refine Wp.cF ?_
  apply Wp.skip
  apply Out.seqN
  apply Wp.seq
  apply Wp.seq
  apply Wp.region
  refine WpL.v (V.mv) ?_
  refine WpL.v (V.lenL tb) ?_
  refine WpL.v (V.cmp) ?_
  apply WpL.nil
  apply Out.seqN
  refine Wp.c (fun ha0 => ?_) (fun ha0 => ?_)
  (try simp only [decide_eq_true_eq, decide_eq_false_iff_not, Bool.not_eq_true', Bool.not_eq_false', Bool.not_eq_true, Bool.not_eq_false, not_true_eq_false, not_false_eq_true, reduceCtorEq] at ha0)
  apply Wp.seq
  apply Wp.region
  refine WpL.v (V.as) ?_
  apply WpL.nil
  apply Out.seqN
  apply Wp.ret
  apply Out.seqR
  refine Out.f1 rfl ResIs.t ⟨?_, rfl⟩
  exact rfl
  (try simp only [decide_eq_true_eq, decide_eq_false_iff_not, Bool.not_eq_true', Bool.not_eq_false', Bool.not_eq_true, Bool.not_eq_false, not_true_eq_false, not_false_eq_true, reduceCtorEq] at ha0)
  apply Wp.skip
  apply Out.seqN
  apply Wp.seq
  apply Wp.region
  refine WpL.v (V.mv) ?_
  refine WpL.o (Op1.callT rfl (item_new _) (by (repeat (first | exact Sel.nil | exact Rem.here | apply Sel.cons | apply Rem.there))) ?_)
  rintro v1 s2 ⟨b20, ⟨rfl, rfl⟩⟩
  refine incat ?_
  refine WpL.v (V.as) ?_
  apply WpL.nil
  apply Out.seqN
  apply Wp.seq
  apply Wp.seq
  apply Wp.region
  refine WpL.v (V.mv) ?_
  refine WpL.v (V.lenL tb) ?_
  refine WpL.v (V.mv) ?_
  apply WpL.nil
  apply Out.seqN
  apply Wp.block
  refine Wp.lp [22, 21, 5] (fun y : Nat × List Go.Value × List Go.Value => y.1 ≤ xs.length ∧ y.2.1.length = 7 ∧ y.2.2.length = 7) (fun y => [(23, I (y.1 : Int))]) (fun y => [itemE b20 y.2.1 y.2.2 (IP.run n (xs.take y.1))]) (fun y => xs.length - y.1) (0, _, _) ⟨Nat.zero_le _, rfl, rfl⟩ ?_
  rintro ⟨i, vs, us⟩ ⟨hi, hv, hu⟩ K hK
  dsimp only at hi hv hu
  dsimp only [List.cons_append, List.nil_append]
  have hok := IP.run_ok n (xs.take i)
  have hw := hok.towf
  by_cases hlt : i < xs.length
  · obtain ⟨x, hx⟩ := getS hlt
    have e1 := take_snocS hx
    have hS : Ct Try.prog 27 [Ptr b20 0, A x.Item.c, I x.N] [itemE b20 vs us (IP.run n (xs.take i))] (fun r σ' => ∃ vs' us', vs'.length = 7 ∧ us'.length = 7 ∧ r = B (goodI x.Item (IP.run n (xs.take i)).reps) ∧ σ' = [itemE b20 vs' us' (IP.run n (xs.take (i + 1)))]) := by
      rw [e1, IP.run_snoc]; exact item_set _ _ _ _ _ _ hw hv hu
    apply Wp.seq
    apply Wp.region
    refine WpL.v (V.cmp) ?_
    apply WpL.nil
    apply Out.seqN
    apply Wp.seq
    refine Wp.c (fun hb0 => ?_) (fun hb0 => ?_)
    (try simp only [decide_eq_true_eq, decide_eq_false_iff_not, Bool.not_eq_true', Bool.not_eq_false', Bool.not_eq_true, Bool.not_eq_false, not_true_eq_false, not_false_eq_true, reduceCtorEq] at hb0)
    apply Wp.skip
    apply Out.seqN
    apply Wp.seq
    apply Wp.block
    apply Wp.seq
    apply Wp.region
    refine WpL.v (V.ixR tb rfl rfl (by assumption)) ?_
    refine WpL.v (V.ldRA tb rfl (by assumption) (getMapS (by assumption))) ?_
    refine WpL.o (O.al tb (fun p7 => ?_))
    refine WpL.o (O.stA tb ?_)
    apply WpL.nil
    apply Out.seqN
    apply Wp.region
    refine WpL.v (V.mv) ?_
    refine WpL.v (V.fa tb) ?_
    refine WpL.v (V.ldA tb) ?_
    refine WpL.v (V.fa tb) ?_
    refine WpL.v (V.ld1 tb) ?_
    refine WpL.o (Op1.callT rfl (hS) (by (repeat (first | exact Sel.nil | exact Rem.here | apply Sel.cons | apply Rem.there))) ?_)
    rintro v3 s4 ⟨vs'32, ⟨us'32, ⟨hx1, ⟨hx2, ⟨rfl, rfl⟩⟩⟩⟩⟩
    refine incat ?_
    apply WpL.nil
    apply Out.blockN
    apply Out.seqN
    apply Wp.region
    refine WpL.v (V.add) ?_
    refine WpL.v (V.mv) ?_
    apply WpL.nil
    rotate_left
    (try simp only [decide_eq_true_eq, decide_eq_false_iff_not, Bool.not_eq_true', Bool.not_eq_false', Bool.not_eq_true, Bool.not_eq_false, not_true_eq_false, not_false_eq_true, reduceCtorEq] at hb0)
    (exfalso; omega)
    exact Out.ag hK (i + 1, vs'32, us'32) ⟨by show i + 1 ≤ _; omega, hx1, hx2⟩ (by show xs.length - (i + 1) < xs.length - i; omega)
  · obtain rfl : i = xs.length := by omega
    apply Wp.seq
    apply Wp.region
    refine WpL.v (V.cmp) ?_
    apply WpL.nil
    apply Out.seqN
    apply Wp.seq
    refine Wp.c (fun hc0 => ?_) (fun hc0 => ?_)
    (try simp only [decide_eq_true_eq, decide_eq_false_iff_not, Bool.not_eq_true', Bool.not_eq_false', Bool.not_eq_true, Bool.not_eq_false, not_true_eq_false, not_false_eq_true, reduceCtorEq] at hc0)
    (exfalso; omega)
    (try simp only [decide_eq_true_eq, decide_eq_false_iff_not, Bool.not_eq_true', Bool.not_eq_false', Bool.not_eq_true, Bool.not_eq_false, not_true_eq_false, not_false_eq_true, reduceCtorEq] at hc0)
    apply Wp.exit
    apply Out.seqE
    apply Out.seqE
    apply Out.blockE
    apply Out.seqN
    apply Wp.seq
    apply Wp.region
    refine WpL.v (V.as) ?_
    apply WpL.nil
    apply Out.seqN
    apply Wp.seq
    apply Wp.seq
    apply Wp.region
    refine WpL.v (V.as) ?_
    apply WpL.nil
    apply Out.seqN
    apply Wp.block
    rw [List.take_length] at hok hw
    rw [List.take_length]
    clear hK
    generalize hp : IP.run n xs = p at hok hw
    refine Wp.lp [5] (fun y : Nat => y ≤ 7) (fun y => [(9, I (y : Int)), (8, I ((p.upto y).length : Int))]) (fun y => []) (fun y => 7 - y) 0 (Nat.zero_le _) ?_
    rintro k hk K2 hK2
    dsimp only [List.cons_append, List.nil_append]
    have hul := IP.upto_len hw k
    by_cases hk7 : k < 7
    · apply Wp.seq
      apply Wp.seq
      apply Wp.region
      refine WpL.v (V.mv) ?_
      refine WpL.v (V.cmp) ?_
      apply WpL.nil
      apply Out.seqN
      refine Wp.c (fun hd0 => ?_) (fun hd0 => ?_)
      (try simp only [decide_eq_true_eq, decide_eq_false_iff_not, Bool.not_eq_true', Bool.not_eq_false', Bool.not_eq_true, Bool.not_eq_false, not_true_eq_false, not_false_eq_true, reduceCtorEq] at hd0)
      apply Wp.skip
      apply Out.seqN
      apply Wp.seq
      apply Wp.block
      apply Wp.seq
      apply Wp.region
      refine WpL.v (V.as) ?_
      apply WpL.nil
      apply Out.seqN
      apply Wp.seq
      apply Wp.seq
      apply Wp.region
      refine WpL.v (V.as) ?_
      apply WpL.nil
      apply Out.seqN
      apply Wp.block
      rotate_left
      (try simp only [decide_eq_true_eq, decide_eq_false_iff_not, Bool.not_eq_true', Bool.not_eq_false', Bool.not_eq_true, Bool.not_eq_false, not_true_eq_false, not_false_eq_true, reduceCtorEq] at hd0)
      (exfalso; omega)
      refine Wp.lp [9, 5] (fun y : Nat => y ≤ 64) (fun y => [(11, I ((y : Int) + 1)), (10, I (p.last_ k y : Int)), (8, I (((p.upto k).length + (p.row k y).length : Nat) : Int))]) (fun y => []) (fun y => 64 - y) 0 (Nat.zero_le _) ?_
      rintro j hj K3 hK3
      dsimp only [List.cons_append, List.nil_append]
      have hrl := IP.row_le p k j
      by_cases hj64 : j < 64
      · have hA := item_at b20 vs us p ⟨(k : Int), (j : Int) + 1⟩ hw hv hu
        have hrow := IP.row_succ p k j
        have hlast : p.last_ k (j + 1) = if (p.at ⟨(k : Int), (j : Int) + 1⟩).isSome = true then j + 1 else p.last_ k j := rfl
        cases hat : p.at ⟨(k : Int), (j : Int) + 1⟩ with
        | none =>
          rw [hat] at hA hrow hlast
          have h1 : p.row k (j + 1) = p.row k j := by simpa using hrow
          have h2 : p.last_ k (j + 1) = p.last_ k j := by simpa using hlast
          apply Wp.seq
          apply Wp.seq
          apply Wp.region
          refine WpL.v (V.mv) ?_
          refine WpL.v (V.cmp) ?_
          apply WpL.nil
          apply Out.seqN
          refine Wp.c (fun he0 => ?_) (fun he0 => ?_)
          (try simp only [decide_eq_true_eq, decide_eq_false_iff_not, Bool.not_eq_true', Bool.not_eq_false', Bool.not_eq_true, Bool.not_eq_false, not_true_eq_false, not_false_eq_true, reduceCtorEq] at he0)
          apply Wp.skip
          apply Out.seqN
          apply Wp.seq
          apply Wp.block
          apply Wp.seq
          apply Wp.region
          refine WpL.v (V.mv) ?_
          refine WpL.v (V.mv) ?_
          refine WpL.v (V.mv) ?_
          refine WpL.v (V.bld tb) ?_
          refine WpL.o (Op1.callT rfl (hA) (by (repeat (first | exact Sel.nil | exact Rem.here | apply Sel.cons | apply Rem.there))) ?_)
          rintro v1 s2 ⟨rfl, rfl⟩
          refine incat ?_
          refine WpL.v (V.mv) ?_
          refine WpL.v (V.ex) ?_
          refine WpL.v (V.ex) ?_
          refine WpL.v (V.as) ?_
          refine WpL.v (V.as) ?_
          apply WpL.nil
          apply Out.seqN
          apply Wp.seq
          apply Wp.region
          refine WpL.v (V.mv) ?_
          apply WpL.nil
          apply Out.seqN
          refine Wp.cF ?_
          apply Wp.skip
          apply Out.blockN
          apply Out.seqN
          apply Wp.region
          refine WpL.v (V.mv) ?_
          refine WpL.v (V.add) ?_
          refine WpL.v (V.as) ?_
          apply WpL.nil
          rotate_left
          (try simp only [decide_eq_true_eq, decide_eq_false_iff_not, Bool.not_eq_true', Bool.not_eq_false', Bool.not_eq_true, Bool.not_eq_false, not_true_eq_false, not_false_eq_true, reduceCtorEq] at he0)
          (exfalso; omega)
          exact Out.ag hK3 (j + 1) (by show j + 1 ≤ 64; omega) (by show 64 - (j + 1) < 64 - j; omega) (by rw [h1, h2]; (repeat (first | exact subEnv.nil | refine subEnv.cons rfl rfl ?_)))
        | some t =>
          rw [hat] at hA hrow hlast
          have h1 : (p.row k (j + 1)).length = (p.row k j).length + 1 := by rw [hrow]; simp
          have h2 : p.last_ k (j + 1) = j + 1 := by simpa using hlast
          apply Wp.seq
          apply Wp.seq
          apply Wp.region
          refine WpL.v (V.mv) ?_
          refine WpL.v (V.cmp) ?_
          apply WpL.nil
          apply Out.seqN
          refine Wp.c (fun hf0 => ?_) (fun hf0 => ?_)
          (try simp only [decide_eq_true_eq, decide_eq_false_iff_not, Bool.not_eq_true', Bool.not_eq_false', Bool.not_eq_true, Bool.not_eq_false, not_true_eq_false, not_false_eq_true, reduceCtorEq] at hf0)
          apply Wp.skip
          apply Out.seqN
          apply Wp.seq
          apply Wp.block
          apply Wp.seq
          apply Wp.region
          refine WpL.v (V.mv) ?_
          refine WpL.v (V.mv) ?_
          refine WpL.v (V.mv) ?_
          refine WpL.v (V.bld tb) ?_
          refine WpL.o (Op1.callT rfl (hA) (by (repeat (first | exact Sel.nil | exact Rem.here | apply Sel.cons | apply Rem.there))) ?_)
          rintro v1 s2 ⟨rfl, rfl⟩
          refine incat ?_
          refine WpL.v (V.mv) ?_
          refine WpL.v (V.ex) ?_
          refine WpL.v (V.ex) ?_
          refine WpL.v (V.as) ?_
          refine WpL.v (V.as) ?_
          apply WpL.nil
          apply Out.seqN
          apply Wp.seq
          apply Wp.region
          refine WpL.v (V.mv) ?_
          apply WpL.nil
          apply Out.seqN
          refine Wp.cT ?_
          apply Wp.seq
          apply Wp.region
          refine WpL.v (V.mv) ?_
          refine WpL.v (V.as) ?_
          apply WpL.nil
          apply Out.seqN
          apply Wp.region
          refine WpL.v (V.mv) ?_
          refine WpL.v (V.add) ?_
          refine WpL.v (V.as) ?_
          apply WpL.nil
          apply Out.blockN
          apply Out.seqN
          apply Wp.region
          refine WpL.v (V.mv) ?_
          refine WpL.v (V.add) ?_
          refine WpL.v (V.as) ?_
          apply WpL.nil
          rotate_left
          (try simp only [decide_eq_true_eq, decide_eq_false_iff_not, Bool.not_eq_true', Bool.not_eq_false', Bool.not_eq_true, Bool.not_eq_false, not_true_eq_false, not_false_eq_true, reduceCtorEq] at hf0)
          (exfalso; omega)
          exact Out.ag hK3 (j + 1) (by show j + 1 ≤ 64; omega) (by show 64 - (j + 1) < 64 - j; omega) (by rw [h1, h2]; (repeat (first | exact subEnv.nil | refine subEnv.cons rfl rfl ?_)))
      · obtain rfl : j = 64 := by omega
        rw [IP.last_64 hok, IP.row_64 hok]
        have hT := item_top b20 vs us p (k : Int) hw hv hu
        apply Wp.seq
        apply Wp.seq
        apply Wp.region
        refine WpL.v (V.mv) ?_
        refine WpL.v (V.cmp) ?_
        apply WpL.nil
        apply Out.seqN
        refine Wp.cF ?_
        apply Wp.exit
        apply Out.seqE
        apply Out.seqE
        apply Out.blockE
        apply Out.seqN
        apply Wp.seq
        apply Wp.region
        refine WpL.v (V.mv) ?_
        refine WpL.v (V.mv) ?_
        refine WpL.o (Op1.callT rfl (hT) (by (repeat (first | exact Sel.nil | exact Rem.here | apply Sel.cons | apply Rem.there))) ?_)
        rintro v0 s1 ⟨rfl, rfl⟩
        refine incat ?_
        refine WpL.v (V.mv) ?_
        refine WpL.v (V.cmp) ?_
        apply WpL.nil
        apply Out.seqN
        refine Wp.c (fun hg2 => ?_) (fun hg2 => ?_)
        (try simp only [decide_eq_true_eq, decide_eq_false_iff_not, Bool.not_eq_true', Bool.not_eq_false', Bool.not_eq_true, Bool.not_eq_false, not_true_eq_false, not_false_eq_true, reduceCtorEq] at hg2)
        (try simp only [decide_eq_true_eq, decide_eq_false_iff_not, Bool.not_eq_true', Bool.not_eq_false', Bool.not_eq_true, Bool.not_eq_false, not_true_eq_false, not_false_eq_true, reduceCtorEq] at hg2)
        apply Wp.skip
        apply Out.blockN
        apply Out.seqN
        apply Wp.region
        refine WpL.v (V.mv) ?_
        refine WpL.v (V.add) ?_
        refine WpL.v (V.as) ?_
        apply WpL.nil
        exact Out.ag hK2 (k + 1) (by show k + 1 ≤ 7; omega) (by show 7 - (k + 1) < 7 - k; omega) (by rw [IP.upto_succ, List.length_append]; (repeat (first | exact subEnv.nil | refine subEnv.cons rfl rfl ?_)))
    · obtain rfl : k = 7 := by omega
      have t1 : p.top (-1) = 0 := by simp [IP.top]
      have t2 : p.top 7 = 0 := by unfold IP.top; rw [if_neg (by have := hw.hi; omega)]
      have hT1 := item_top b20 vs us p (-1) hw hv hu
      have hT2 := item_top b20 vs us p 7 hw hv hu
      have hL : Ct Try.prog 29 [Ptr b20 0] [itemE b20 vs us p] (fun r σ' => r = I ((p.upto 7).length : Int) ∧ σ' = [itemE b20 vs us p]) := item_len b20 vs us p hw hv hu
      rw [t1] at hT1
      rw [t2] at hT2
      apply Wp.seq
      apply Wp.seq
      apply Wp.region
      refine WpL.v (V.mv) ?_
      refine WpL.v (V.cmp) ?_
      apply WpL.nil
      apply Out.seqN
      refine Wp.cF ?_
      apply Wp.exit
      apply Out.seqE
      apply Out.seqE
      apply Out.blockE
      apply Out.seqN
      apply Wp.seq
      apply Wp.region
      refine WpL.v (V.mv) ?_
      refine WpL.v (V.mv) ?_
      refine WpL.o (Op1.callT rfl (hL) (by (repeat (first | exact Sel.nil | exact Rem.here | apply Sel.cons | apply Rem.there))) ?_)
      rintro v0 s1 ⟨rfl, rfl⟩
      refine incat ?_
      refine WpL.v (V.cmp) ?_
      refine WpL.v (V.mv) ?_
      refine WpL.pt (fun hh2 => ?_) (fun hh2 => ?_)
      (try simp only [decide_eq_true_eq, decide_eq_false_iff_not, Bool.not_eq_true', Bool.not_eq_false', Bool.not_eq_true, Bool.not_eq_false, not_true_eq_false, not_false_eq_true, reduceCtorEq] at hh2)
      refine WpL.v (V.mv) ?_
      refine WpL.o (Op1.callT rfl (hT1) (by (repeat (first | exact Sel.nil | exact Rem.here | apply Sel.cons | apply Rem.there))) ?_)
      rintro v3 s4 ⟨rfl, rfl⟩
      refine incat ?_
      refine WpL.v (V.mv) ?_
      refine WpL.o (Op1.callT rfl (hT2) (by (repeat (first | exact Sel.nil | exact Rem.here | apply Sel.cons | apply Rem.there))) ?_)
      rintro v5 s6 ⟨rfl, rfl⟩
      refine incat ?_
      refine WpL.v (V.add) ?_
      refine WpL.v (V.cmp) ?_
      refine WpL.v (V.pT) ?_
      refine WpL.v (V.as) ?_
      apply WpL.nil
      apply Out.seqN
      apply Wp.ret
      refine Out.f1 rfl ResIs.t ⟨?_, rfl⟩
      exact rfl
      (try simp only [decide_eq_true_eq, decide_eq_false_iff_not, Bool.not_eq_true', Bool.not_eq_false', Bool.not_eq_true, Bool.not_eq_false, not_true_eq_false, not_false_eq_true, reduceCtorEq] at hh2)
open Go Go.ChangeShapes Go.WideShapes Go.ChangeAt Go.RowKit
theorem itemTop_read : (Try.f7.params.toList.all fun t => Try.prog.readableRec t && decide (t < Try.prog.types.size)) = true := by kernel_rfl
theorem itemTop_lifted (os : Go.Os) (started : os.Started) (H : Type) (enc : Go.TypeId × Go.Value → H) :
    ReturnsInHanded {} Try.checked os 7 .any (Rows.itemTopSpec.pre6 enc Try.prog Try.f7 Rows.itemTopRow.domain false) (Rows.itemTopSpec.post enc Try.prog Try.f7 false true false false) := by
  refine returnsInHanded_of_change_sized (C := Try.checked) own started (by kernel_rfl) Try.func7
    (ChangeSpec.witness6 (enc := enc) (C := Try.checked) false ⟨#[], #[I 0, .slice none 0 0], []⟩ 8 (by kernel_rfl) (by kernel_rfl) (by kernel_rfl) (by kernel_rfl)) ?_
  intro W base args ds gs before hval0 hW hcnd hsz0 _
  have hsz : (DataW.weightsEach Try.prog (Try.f7.params.toList ++ Rows.itemTopSpec.plain.varTypes Try.prog) (ds ++ gs)).all (· ≤ reachBytes) = true := hsz0
  have hval : ∀ (j : Nat) t v, Try.f7.params[j]? = some t → args[j]? = some v → Value.okWide Try.prog W .any base t v := hval0
  have hW' := hW
  obtain ⟨p, q, hA0, hV, rfl, hfz, hnd⟩ := hW
  have hA1 : DataW.TrodAll enc Try.prog W 0 (fun _ => true) true Try.f7.params.toList args.toList ds p := hA0
  have hA := hA1
  rw [Try.params7] at hA hval hsz
  obtain ⟨v0, vs0, d0, ds0, p0, q0, hargs, rfl, rfl, h0, r0⟩ := trodAll_cons hA
  obtain ⟨v1, vs1, d1, ds1, p1, q1, rfl, rfl, rfl, h1, r1⟩ := trodAll_cons r0
  obtain ⟨rfl, rfl, rfl⟩ := trodAll_nil r1
  obtain rfl : args = #[v0, v1] := by cases args; simp_all
  obtain ⟨rfl, rfl⟩ := trodVars_none hV
  obtain ⟨x0, rfl, rfl, rfl, w0⟩ := open_int Try.underlying3 (hval 0 3 v0 rfl rfl) h0
  obtain ⟨ao1, b1, off1, len1, cap1, xs1, rfl, hl1, hlc1, hcm1, ha1, hs1, hf1, hby1⟩ := open_slice_plain Try.underlying28 Caucuslaw03Call.leaves (by kernel_rfl) (by decide) (hval 1 28 v1 rfl rfl) h1 (sizedAll hsz 1 rfl rfl)
  obtain ⟨x1, rfl, w1⟩ := fits_map Caucuslaw03Call.c Caucuslaw03Call.wf hf1 Caucuslaw03Call.fit
  obtain rfl : len1 = x1.length := by simpa using hl1.symm
  simp only [List.append_nil] at hW' hA1
  have hbl : ∀ p : Nat × Nat, p ∈ [(x1.length, b1)] → 0 < p.1 → p.2 < W.heap.size := by
    intro p hp h0
    simp only [List.mem_cons, List.mem_nil_iff, or_false] at hp
    rcases hp with rfl
    · exact (ha1 h0).2
  have hR1 : Rd (snap W (blocksOf [(x1.length, b1)])) ao1 x1.length b1 off1 3 (x1.map Caucuslaw03Call.c) := Rd.snap (by simp) (Nat.le_trans hlc1 hcm1) ha1 hs1 (fun h => blocksOf_mem (len := x1.length) (by simp) h)
  refine (Ct.runSnap (blocksOf_nodup _) (blocksOf_lt hbl) (itemTop_walk _ _ _ _ _ x0 x1 hR1)).mono fun e W' hh => ?_
  obtain ⟨rfl, hS⟩ := hh
  exact ⟨_, rfl, post_law (P := Try.prog) (f := Try.f7) (tbool := 4) hW' hA1 rfl rfl hS laid itemTop_read rfl Try.underlying4⟩
theorem itemTop_over : Rows.itemTopRow.holds Try.pinned (OpenSpec.ofChange Rows.itemTopSpec) :=
  OpenClaim.holds_of_wide 7 Try.f7 rfl rfl rfl rfl rfl rfl rfl ⟨rfl, rfl, rfl, rfl, rfl⟩ rfl rfl rfl rfl rfl (by kernel_rfl) Try.func7 (by kernel_rfl)
    (of_decide_eq_true (by kernel_rfl)) (by unfold Func.isWrapper; first | (rw [if_pos (by decide +kernel)]; kernel_rfl) | (rw [if_neg (by decide +kernel)]; exact ⟨rfl, rfl⟩))
    (fun os started H enc _ => itemTop_lifted os started H enc)
/-- THE STATEMENT. -/
theorem itemTop_proved : Rows.ItemTopSaid := itemTop_over
#print axioms itemTop_proved

end Go.Proofs.Ytgbflapcadlelaa
