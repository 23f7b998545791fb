/-
  Layer 17: how long is waited.
-/
import Derived.Test.YthoepbbpmdmfeaaTypes
import Derived.Test.YthoepbbpmdmfeaaHeapG
namespace Go.Proofs.Ythoepbbpmdmfeaa
open Go.HL
set_option linter.unusedSimpArgs false
set_option linter.unusedVariables false
set_option maxRecDepth 8000
def tk (tries : Int) : Nat := (Min.min (Max.max tries 0) 4).toNat
theorem tk_le (tries : Int) : tk tries ≤ 4 := by unfold tk; omega
def waitV (n self rep tries : Int) : Int := if n < 1 then 4 else 4 * (1 + (self - rep) % n) * 2 ^ tk tries
theorem two_tk (tries : Int) : (1 : Int) ≤ 2 ^ tk tries ∧ (2 : Int) ^ tk tries ≤ 16 := by
  have := tk_le tries
  generalize tk tries = k at *
  rcases (by omega : k = 0 ∨ k = 1 ∨ k = 2 ∨ k = 3 ∨ k = 4) with rfl | rfl | rfl | rfl | rfl <;> decide
theorem mul16 {a b : Int} (ha : 4 ≤ a) (hm : a ≤ 8388608) (h : 1 ≤ b ∧ b ≤ 16) : 4 ≤ a * b ∧ a * b ≤ 134217728 := by
  have h1 : a * 1 ≤ a * b := Int.mul_le_mul_of_nonneg_left h.1 (by omega)
  have h2 : a * b ≤ a * 16 := Int.mul_le_mul_of_nonneg_left h.2 (by omega)
  omega
theorem waitV_ge (n self rep tries : Int) (hn : n ≤ 1048576) : 4 ≤ waitV n self rep tries ∧ waitV n self rep tries ≤ 134217728 := by
  unfold waitV
  split
  · decide
  · have h1 := Int.emod_nonneg (self - rep) (by omega : n ≠ 0)
    have h2 := Int.emod_lt_of_pos (self - rep) (by omega : 0 < n)
    exact mul16 (by omega) (by omega) (two_tk tries)
theorem far_t {a n : Int} (hn : 1 ≤ n) : (a.tmod n = a % n ∨ a.tmod n = a % n - n) ∧ 0 ≤ a % n ∧ a % n < n ∧ (a.tmod n < 0 → a.tmod n + n = a % n) ∧ (0 ≤ a.tmod n → a.tmod n = a % n) ∧ (a.tmod n + n).tmod n = a % n := by
  have h1 := Int.emod_nonneg a (by omega : n ≠ 0)
  have h2 := Int.emod_lt_of_pos a (by omega : 0 < n)
  have h3 : a.tmod n = a % n ∨ a.tmod n = a % n - n := by
    rw [Int.tmod_eq_emod]
    split
    · left; omega
    · right; omega
  have h4 : 0 ≤ a.tmod n + n := by omega
  refine ⟨h3, h1, h2, by omega, by omega, ?_⟩
  rw [Int.tmod_eq_emod_of_nonneg h4, Int.add_emod_right]
  rcases h3 with h | h
  · rw [h, Int.emod_emod_of_dvd a (Int.dvd_refl n)]
  · rw [h, Int.sub_emod_right, Int.emod_emod_of_dvd a (Int.dvd_refl n)]
theorem pace_wait (n self : Int) (x : TItem) (tries : Int) (hn : n ≤ 1048576) (hs : -1048576 ≤ self ∧ self ≤ 1048576) (hr : -1048576 ≤ x.Rep ∧ x.Rep ≤ 1048576) : Fun Try.prog 60 [I n, I self, A x.c, I tries] (I (waitV n self x.Rep tries)) := by
  unfold waitV
  by_cases h : n < 1
  · rw [if_pos h]
    refine Ct.enter Try.func60 rfl rfl fun W => ?_
    apply Wp.seq
    apply Wp.region
    refine WpL.o (O.bxA (fun p6 => ?_))
    refine WpL.v (V.as) ?_
    apply WpL.nil
    apply Out.seqN
    apply Wp.seq
    apply Wp.seq
    apply Wp.region
    refine WpL.v (V.mv) ?_
    refine WpL.v (V.cmp) ?_
    apply WpL.nil
    apply Out.seqN
    refine Wp.c (fun hw00 => ?_) (fun hw00 => ?_)
    (try simp only [decide_eq_true_eq, decide_eq_false_iff_not, Bool.not_eq_true', Bool.not_eq_false', Bool.not_eq_true, Bool.not_eq_false, not_true_eq_false, not_false_eq_true, reduceCtorEq] at hw00)
    apply Wp.seq
    apply Wp.region
    refine WpL.v (V.as) ?_
    apply WpL.nil
    apply Out.seqN
    apply Wp.ret
    apply Out.seqR
    refine Out.f1 rfl ResIs.t ⟨?_, rfl⟩
    exact rfl
    (try simp only [decide_eq_true_eq, decide_eq_false_iff_not, Bool.not_eq_true', Bool.not_eq_false', Bool.not_eq_true, Bool.not_eq_false, not_true_eq_false, not_false_eq_true, reduceCtorEq] at hw00)
    (exfalso; omega)
  · rw [if_neg h]
    obtain ⟨h1, h2, h3, h4, h5, h6⟩ := far_t (a := self - x.Rep) (n := n) (by omega)
    have hq := two_tk tries
    generalize (self - x.Rep) % n = far at *
    have e1 : (Go.IntKind.i64.wrap (4 * (1 + far) * 2 ^ (Min.min (Min.min (Max.max tries 0) 4).toNat Go.IntKind.i64.bits))) = 4 * (1 + far) * 2 ^ tk tries := by
      rw [show Min.min (Min.min (Max.max tries 0) 4).toNat Go.IntKind.i64.bits = tk tries by unfold tk; show Min.min _ 64 = _; omega]
      have := mul16 (a := 4 * (1 + far)) (by omega) (by omega) hq
      exact wrap_in (In.mk64 (by omega))
    refine Ct.enter Try.func60 rfl rfl fun W => ?_
    apply Wp.seq
    apply Wp.region
    refine WpL.o (O.bxA (fun p6 => ?_))
    refine WpL.v (V.as) ?_
    apply WpL.nil
    apply Out.seqN
    apply Wp.seq
    apply Wp.seq
    apply Wp.region
    refine WpL.v (V.mv) ?_
    refine WpL.v (V.cmp) ?_
    apply WpL.nil
    apply Out.seqN
    refine Wp.c (fun hw10 => ?_) (fun hw10 => ?_)
    (try simp only [decide_eq_true_eq, decide_eq_false_iff_not, Bool.not_eq_true', Bool.not_eq_false', Bool.not_eq_true, Bool.not_eq_false, not_true_eq_false, not_false_eq_true, reduceCtorEq] at hw10)
    (exfalso; omega)
    (try simp only [decide_eq_true_eq, decide_eq_false_iff_not, Bool.not_eq_true', Bool.not_eq_false', Bool.not_eq_true, Bool.not_eq_false, not_true_eq_false, not_false_eq_true, reduceCtorEq] at hw10)
    apply Wp.skip
    apply Out.seqN
    apply Wp.seq
    apply Wp.region
    refine WpL.v (V.mv) ?_
    refine WpL.v (V.fa tb) ?_
    refine WpL.v (V.ld1 tb) ?_
    refine WpL.v (V.sub) ?_
    refine WpL.v (V.mv) ?_
    refine WpL.v (V.remT rfl rfl) ?_
    refine WpL.v (V.mv) ?_
    refine WpL.v (V.add) ?_
    refine WpL.v (V.mv) ?_
    refine WpL.v (V.remT rfl rfl) ?_
    refine WpL.v (V.as) ?_
    apply WpL.nil
    apply Out.seqN
    apply Wp.seq
    apply Wp.region
    refine WpL.v (V.mv) ?_
    refine WpL.v (V.add) ?_
    refine WpL.v (V.mul) ?_
    refine WpL.v (V.mv) ?_
    refine WpL.v (V.max) ?_
    refine WpL.v (V.min) ?_
    refine WpL.v (V.shl) ?_
    refine WpL.v (V.as) ?_
    apply WpL.nil
    apply Out.seqN
    apply Wp.ret
    refine Out.f1 rfl ResIs.t ⟨?_, rfl⟩
    focus ((rw [h6]; exact congrArg (fun z : Int => I z) e1); done)
def dbl (w : Int) : Nat → Int
  | 0 => w
  | i + 1 => 2 * dbl w i
theorem dbl_eq (w : Int) : ∀ i, dbl w i = w * 2 ^ i
  | 0 => by simp [dbl]
  | i + 1 => by rw [dbl, dbl_eq w i, Int.pow_succ, Int.mul_left_comm, Int.mul_comm 2]
theorem ref_wait (n self rep tries : Int) (hn : n ≤ 1048576) (hs : -1048576 ≤ self ∧ self ≤ 1048576) (hr : -1048576 ≤ rep ∧ rep ≤ 1048576) : Fun Try.prog 61 [I n, I self, I rep, I tries] (I (waitV n self rep tries)) := by
  unfold waitV
  by_cases h : n < 1
  · rw [if_pos h]
    refine Ct.enter Try.func61 rfl rfl fun W => ?_
    apply Wp.seq
    apply Wp.region
    refine WpL.v (V.as) ?_
    apply WpL.nil
    apply Out.seqN
    apply Wp.seq
    apply Wp.seq
    apply Wp.region
    refine WpL.v (V.mv) ?_
    refine WpL.v (V.cmp) ?_
    apply WpL.nil
    apply Out.seqN
    refine Wp.c (fun hr00 => ?_) (fun hr00 => ?_)
    (try simp only [decide_eq_true_eq, decide_eq_false_iff_not, Bool.not_eq_true', Bool.not_eq_false', Bool.not_eq_true, Bool.not_eq_false, not_true_eq_false, not_false_eq_true, reduceCtorEq] at hr00)
    apply Wp.seq
    apply Wp.region
    refine WpL.v (V.as) ?_
    apply WpL.nil
    apply Out.seqN
    apply Wp.ret
    apply Out.seqR
    refine Out.f1 rfl ResIs.t ⟨?_, rfl⟩
    exact rfl
    (try simp only [decide_eq_true_eq, decide_eq_false_iff_not, Bool.not_eq_true', Bool.not_eq_false', Bool.not_eq_true, Bool.not_eq_false, not_true_eq_false, not_false_eq_true, reduceCtorEq] at hr00)
    (exfalso; omega)
  · rw [if_neg h]
    obtain ⟨h1, h2, h3, h4, h5, h6⟩ := far_t (a := self - rep) (n := n) (by omega)
    refine Ct.enter Try.func61 rfl rfl fun W => ?_
    apply Wp.seq
    apply Wp.region
    refine WpL.v (V.as) ?_
    apply WpL.nil
    apply Out.seqN
    apply Wp.seq
    apply Wp.seq
    apply Wp.region
    refine WpL.v (V.mv) ?_
    refine WpL.v (V.cmp) ?_
    apply WpL.nil
    apply Out.seqN
    refine Wp.c (fun hr10 => ?_) (fun hr10 => ?_)
    (try simp only [decide_eq_true_eq, decide_eq_false_iff_not, Bool.not_eq_true', Bool.not_eq_false', Bool.not_eq_true, Bool.not_eq_false, not_true_eq_false, not_false_eq_true, reduceCtorEq] at hr10)
    (exfalso; omega)
    (try simp only [decide_eq_true_eq, decide_eq_false_iff_not, Bool.not_eq_true', Bool.not_eq_false', Bool.not_eq_true, Bool.not_eq_false, not_true_eq_false, not_false_eq_true, reduceCtorEq] at hr10)
    apply Wp.skip
    apply Out.seqN
    apply Wp.seq
    apply Wp.region
    refine WpL.v (V.mv) ?_
    refine WpL.v (V.mv) ?_
    refine WpL.v (V.sub) ?_
    refine WpL.v (V.mv) ?_
    refine WpL.v (V.remT rfl rfl) ?_
    refine WpL.v (V.as) ?_
    apply WpL.nil
    apply Out.seqN
    apply Wp.seq
    apply Wp.seq
    apply Wp.region
    refine WpL.v (V.mv) ?_
    refine WpL.v (V.cmp) ?_
    apply WpL.nil
    apply Out.seqN
    refine Wp.c (fun hr11 => ?_) (fun hr11 => ?_)
    (try simp only [decide_eq_true_eq, decide_eq_false_iff_not, Bool.not_eq_true', Bool.not_eq_false', Bool.not_eq_true, Bool.not_eq_false, not_true_eq_false, not_false_eq_true, reduceCtorEq] at hr11)
    apply Wp.region
    refine WpL.v (V.mv) ?_
    refine WpL.v (V.mv) ?_
    refine WpL.v (V.add) ?_
    refine WpL.v (V.as) ?_
    apply WpL.nil
    apply Out.seqN
    apply Wp.seq
    apply Wp.region
    refine WpL.v (V.mv) ?_
    refine WpL.v (V.add) ?_
    refine WpL.v (V.mul) ?_
    refine WpL.v (V.as) ?_
    apply WpL.nil
    apply Out.seqN
    apply Wp.seq
    apply Wp.seq
    apply Wp.region
    refine WpL.v (V.as) ?_
    apply WpL.nil
    apply Out.seqN
    apply Wp.block
    rotate_left
    (try simp only [decide_eq_true_eq, decide_eq_false_iff_not, Bool.not_eq_true', Bool.not_eq_false', Bool.not_eq_true, Bool.not_eq_false, not_true_eq_false, not_false_eq_true, reduceCtorEq] at hr11)
    apply Wp.skip
    apply Out.seqN
    apply Wp.seq
    apply Wp.region
    refine WpL.v (V.mv) ?_
    refine WpL.v (V.add) ?_
    refine WpL.v (V.mul) ?_
    refine WpL.v (V.as) ?_
    apply WpL.nil
    apply Out.seqN
    apply Wp.seq
    apply Wp.seq
    apply Wp.region
    refine WpL.v (V.as) ?_
    apply WpL.nil
    apply Out.seqN
    apply Wp.block
    rotate_left
    · rw [h4 (by assumption)]
      generalize (self - rep) % n = far at *
      have hb : ∀ i, i ≤ 4 → 4 ≤ dbl (4 * (1 + far)) i ∧ dbl (4 * (1 + far)) i ≤ 134217728 := fun i hi => by
        rw [dbl_eq]
        refine mul16 (by omega) (by omega) ?_
        rcases (by omega : i = 0 ∨ i = 1 ∨ i = 2 ∨ i = 3 ∨ i = 4) with rfl | rfl | rfl | rfl | rfl <;> decide
      have ht := tk_le tries
      refine Wp.lp [3] (fun i : Nat => i ≤ tk tries) (fun i => [(11, I (i : Int)), (10, I (dbl (4 * (1 + far)) i))]) (fun _ => []) (fun i => 4 - i) 0 (Nat.zero_le _) ?_
      intro i hi K hK
      dsimp only [List.cons_append, List.nil_append]
      have hbi := hb i (by omega)
      by_cases hlt : i < tk tries
      · have g1 : (i : Int) < tries ∧ i < 4 := by unfold tk at hlt; omega
        obtain ⟨g1, g2⟩ := g1
        apply Wp.seq
        apply Wp.seq
        apply Wp.region
        refine WpL.v (V.mv) ?_
        refine WpL.v (V.mv) ?_
        refine WpL.v (V.cmp) ?_
        refine WpL.v (V.mv) ?_
        refine WpL.pt (fun h0 => ?_) (fun h0 => ?_)
        (try simp only [decide_eq_true_eq, decide_eq_false_iff_not, Bool.not_eq_true', Bool.not_eq_false', Bool.not_eq_true, Bool.not_eq_false, not_true_eq_false, not_false_eq_true, reduceCtorEq] at h0)
        refine WpL.v (V.mv) ?_
        refine WpL.v (V.cmp) ?_
        refine WpL.v (V.pT) ?_
        apply WpL.nil
        apply Out.seqN
        refine Wp.c (fun h1 => ?_) (fun h1 => ?_)
        (try simp only [decide_eq_true_eq, decide_eq_false_iff_not, Bool.not_eq_true', Bool.not_eq_false', Bool.not_eq_true, Bool.not_eq_false, not_true_eq_false, not_false_eq_true, reduceCtorEq] at h1)
        apply Wp.skip
        apply Out.seqN
        apply Wp.seq
        apply Wp.block
        apply Wp.region
        refine WpL.v (V.mv) ?_
        refine WpL.v (V.mul) ?_
        refine WpL.v (V.as) ?_
        apply WpL.nil
        apply Out.blockN
        apply Out.seqN
        apply Wp.region
        refine WpL.v (V.mv) ?_
        refine WpL.v (V.add) ?_
        refine WpL.v (V.as) ?_
        apply WpL.nil
        rotate_left
        (try simp only [decide_eq_true_eq, decide_eq_false_iff_not, Bool.not_eq_true', Bool.not_eq_false', Bool.not_eq_true, Bool.not_eq_false, not_true_eq_false, not_false_eq_true, reduceCtorEq] at h1)
        (exfalso; omega)
        (try simp only [decide_eq_true_eq, decide_eq_false_iff_not, Bool.not_eq_true', Bool.not_eq_false', Bool.not_eq_true, Bool.not_eq_false, not_true_eq_false, not_false_eq_true, reduceCtorEq] at h0)
        (exfalso; omega)
        exact Out.ag hK (i + 1) (by omega) (by show 4 - (i + 1) < 4 - i; omega)
      · obtain rfl : i = tk tries := by omega
        rw [← dbl_eq]
        by_cases g1 : (tk tries : Int) < tries
        · have g2 : ¬ (tk tries) < 4 := by unfold tk at *; omega
          apply Wp.seq
          apply Wp.seq
          apply Wp.region
          refine WpL.v (V.mv) ?_
          refine WpL.v (V.mv) ?_
          refine WpL.v (V.cmp) ?_
          refine WpL.v (V.mv) ?_
          refine WpL.pt (fun h0 => ?_) (fun h0 => ?_)
          (try simp only [decide_eq_true_eq, decide_eq_false_iff_not, Bool.not_eq_true', Bool.not_eq_false', Bool.not_eq_true, Bool.not_eq_false, not_true_eq_false, not_false_eq_true, reduceCtorEq] at h0)
          refine WpL.v (V.mv) ?_
          refine WpL.v (V.cmp) ?_
          refine WpL.v (V.pT) ?_
          apply WpL.nil
          apply Out.seqN
          refine Wp.c (fun h1 => ?_) (fun h1 => ?_)
          (try simp only [decide_eq_true_eq, decide_eq_false_iff_not, Bool.not_eq_true', Bool.not_eq_false', Bool.not_eq_true, Bool.not_eq_false, not_true_eq_false, not_false_eq_true, reduceCtorEq] at h1)
          (exfalso; omega)
          (try simp only [decide_eq_true_eq, decide_eq_false_iff_not, Bool.not_eq_true', Bool.not_eq_false', Bool.not_eq_true, Bool.not_eq_false, not_true_eq_false, not_false_eq_true, reduceCtorEq] at h1)
          apply Wp.exit
          apply Out.seqE
          apply Out.seqE
          apply Out.blockE
          apply Out.seqN
          apply Wp.seq
          apply Wp.region
          refine WpL.v (V.mv) ?_
          refine WpL.v (V.as) ?_
          apply WpL.nil
          apply Out.seqN
          apply Wp.ret
          refine Out.f1 rfl ResIs.t ⟨?_, rfl⟩
          exact rfl
          (try simp only [decide_eq_true_eq, decide_eq_false_iff_not, Bool.not_eq_true', Bool.not_eq_false', Bool.not_eq_true, Bool.not_eq_false, not_true_eq_false, not_false_eq_true, reduceCtorEq] at h0)
          (exfalso; omega)
        · apply Wp.seq
          apply Wp.seq
          apply Wp.region
          refine WpL.v (V.mv) ?_
          refine WpL.v (V.mv) ?_
          refine WpL.v (V.cmp) ?_
          refine WpL.v (V.mv) ?_
          refine WpL.pt (fun h0 => ?_) (fun h0 => ?_)
          (try simp only [decide_eq_true_eq, decide_eq_false_iff_not, Bool.not_eq_true', Bool.not_eq_false', Bool.not_eq_true, Bool.not_eq_false, not_true_eq_false, not_false_eq_true, reduceCtorEq] at h0)
          (exfalso; omega)
          (try simp only [decide_eq_true_eq, decide_eq_false_iff_not, Bool.not_eq_true', Bool.not_eq_false', Bool.not_eq_true, Bool.not_eq_false, not_true_eq_false, not_false_eq_true, reduceCtorEq] at h0)
          refine WpL.sk ?_
          refine WpL.sk ?_
          refine WpL.v (V.pF) ?_
          apply WpL.nil
          apply Out.seqN
          refine Wp.cF ?_
          apply Wp.exit
          apply Out.seqE
          apply Out.seqE
          apply Out.blockE
          apply Out.seqN
          apply Wp.seq
          apply Wp.region
          refine WpL.v (V.mv) ?_
          refine WpL.v (V.as) ?_
          apply WpL.nil
          apply Out.seqN
          apply Wp.ret
          refine Out.f1 rfl ResIs.t ⟨?_, rfl⟩
          exact rfl
    · rw [h5 (by omega)]
      generalize (self - rep) % n = far at *
      have hb : ∀ i, i ≤ 4 → 4 ≤ dbl (4 * (1 + far)) i ∧ dbl (4 * (1 + far)) i ≤ 134217728 := fun i hi => by
        rw [dbl_eq]
        refine mul16 (by omega) (by omega) ?_
        rcases (by omega : i = 0 ∨ i = 1 ∨ i = 2 ∨ i = 3 ∨ i = 4) with rfl | rfl | rfl | rfl | rfl <;> decide
      have ht := tk_le tries
      refine Wp.lp [3] (fun i : Nat => i ≤ tk tries) (fun i => [(11, I (i : Int)), (10, I (dbl (4 * (1 + far)) i))]) (fun _ => []) (fun i => 4 - i) 0 (Nat.zero_le _) ?_
      intro i hi K hK
      dsimp only [List.cons_append, List.nil_append]
      have hbi := hb i (by omega)
      by_cases hlt : i < tk tries
      · have g1 : (i : Int) < tries ∧ i < 4 := by unfold tk at hlt; omega
        obtain ⟨g1, g2⟩ := g1
        apply Wp.seq
        apply Wp.seq
        apply Wp.region
        refine WpL.v (V.mv) ?_
        refine WpL.v (V.mv) ?_
        refine WpL.v (V.cmp) ?_
        refine WpL.v (V.mv) ?_
        refine WpL.pt (fun h0 => ?_) (fun h0 => ?_)
        (try simp only [decide_eq_true_eq, decide_eq_false_iff_not, Bool.not_eq_true', Bool.not_eq_false', Bool.not_eq_true, Bool.not_eq_false, not_true_eq_false, not_false_eq_true, reduceCtorEq] at h0)
        refine WpL.v (V.mv) ?_
        refine WpL.v (V.cmp) ?_
        refine WpL.v (V.pT) ?_
        apply WpL.nil
        apply Out.seqN
        refine Wp.c (fun h1 => ?_) (fun h1 => ?_)
        (try simp only [decide_eq_true_eq, decide_eq_false_iff_not, Bool.not_eq_true', Bool.not_eq_false', Bool.not_eq_true, Bool.not_eq_false, not_true_eq_false, not_false_eq_true, reduceCtorEq] at h1)
        apply Wp.skip
        apply Out.seqN
        apply Wp.seq
        apply Wp.block
        apply Wp.region
        refine WpL.v (V.mv) ?_
        refine WpL.v (V.mul) ?_
        refine WpL.v (V.as) ?_
        apply WpL.nil
        apply Out.blockN
        apply Out.seqN
        apply Wp.region
        refine WpL.v (V.mv) ?_
        refine WpL.v (V.add) ?_
        refine WpL.v (V.as) ?_
        apply WpL.nil
        rotate_left
        (try simp only [decide_eq_true_eq, decide_eq_false_iff_not, Bool.not_eq_true', Bool.not_eq_false', Bool.not_eq_true, Bool.not_eq_false, not_true_eq_false, not_false_eq_true, reduceCtorEq] at h1)
        (exfalso; omega)
        (try simp only [decide_eq_true_eq, decide_eq_false_iff_not, Bool.not_eq_true', Bool.not_eq_false', Bool.not_eq_true, Bool.not_eq_false, not_true_eq_false, not_false_eq_true, reduceCtorEq] at h0)
        (exfalso; omega)
        exact Out.ag hK (i + 1) (by omega) (by show 4 - (i + 1) < 4 - i; omega)
      · obtain rfl : i = tk tries := by omega
        rw [← dbl_eq]
        by_cases g1 : (tk tries : Int) < tries
        · have g2 : ¬ (tk tries) < 4 := by unfold tk at *; omega
          apply Wp.seq
          apply Wp.seq
          apply Wp.region
          refine WpL.v (V.mv) ?_
          refine WpL.v (V.mv) ?_
          refine WpL.v (V.cmp) ?_
          refine WpL.v (V.mv) ?_
          refine WpL.pt (fun h0 => ?_) (fun h0 => ?_)
          (try simp only [decide_eq_true_eq, decide_eq_false_iff_not, Bool.not_eq_true', Bool.not_eq_false', Bool.not_eq_true, Bool.not_eq_false, not_true_eq_false, not_false_eq_true, reduceCtorEq] at h0)
          refine WpL.v (V.mv) ?_
          refine WpL.v (V.cmp) ?_
          refine WpL.v (V.pT) ?_
          apply WpL.nil
          apply Out.seqN
          refine Wp.c (fun h1 => ?_) (fun h1 => ?_)
          (try simp only [decide_eq_true_eq, decide_eq_false_iff_not, Bool.not_eq_true', Bool.not_eq_false', Bool.not_eq_true, Bool.not_eq_false, not_true_eq_false, not_false_eq_true, reduceCtorEq] at h1)
          (exfalso; omega)
          (try simp only [decide_eq_true_eq, decide_eq_false_iff_not, Bool.not_eq_true', Bool.not_eq_false', Bool.not_eq_true, Bool.not_eq_false, not_true_eq_false, not_false_eq_true, reduceCtorEq] at h1)
          apply Wp.exit
          apply Out.seqE
          apply Out.seqE
          apply Out.blockE
          apply Out.seqN
          apply Wp.seq
          apply Wp.region
          refine WpL.v (V.mv) ?_
          refine WpL.v (V.as) ?_
          apply WpL.nil
          apply Out.seqN
          apply Wp.ret
          refine Out.f1 rfl ResIs.t ⟨?_, rfl⟩
          exact rfl
          (try simp only [decide_eq_true_eq, decide_eq_false_iff_not, Bool.not_eq_true', Bool.not_eq_false', Bool.not_eq_true, Bool.not_eq_false, not_true_eq_false, not_false_eq_true, reduceCtorEq] at h0)
          (exfalso; omega)
        · apply Wp.seq
          apply Wp.seq
          apply Wp.region
          refine WpL.v (V.mv) ?_
          refine WpL.v (V.mv) ?_
          refine WpL.v (V.cmp) ?_
          refine WpL.v (V.mv) ?_
          refine WpL.pt (fun h0 => ?_) (fun h0 => ?_)
          (try simp only [decide_eq_true_eq, decide_eq_false_iff_not, Bool.not_eq_true', Bool.not_eq_false', Bool.not_eq_true, Bool.not_eq_false, not_true_eq_false, not_false_eq_true, reduceCtorEq] at h0)
          (exfalso; omega)
          (try simp only [decide_eq_true_eq, decide_eq_false_iff_not, Bool.not_eq_true', Bool.not_eq_false', Bool.not_eq_true, Bool.not_eq_false, not_true_eq_false, not_false_eq_true, reduceCtorEq] at h0)
          refine WpL.sk ?_
          refine WpL.sk ?_
          refine WpL.v (V.pF) ?_
          apply WpL.nil
          apply Out.seqN
          refine Wp.cF ?_
          apply Wp.exit
          apply Out.seqE
          apply Out.seqE
          apply Out.blockE
          apply Out.seqN
          apply Wp.seq
          apply Wp.region
          refine WpL.v (V.mv) ?_
          refine WpL.v (V.as) ?_
          apply WpL.nil
          apply Out.seqN
          apply Wp.ret
          refine Out.f1 rfl ResIs.t ⟨?_, rfl⟩
          exact rfl
end Go.Proofs.Ythoepbbpmdmfeaa
