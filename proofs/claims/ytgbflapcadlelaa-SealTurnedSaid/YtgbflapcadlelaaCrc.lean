/-
  Layer 6: sums, bit by bit and byte by byte.
-/
import Derived.Test.YtgbflapcadlelaaOct
namespace Go.Proofs.Ytgbflapcadlelaa
open Go.HL
set_option linter.unusedSimpArgs false
set_option linter.unusedVariables false
set_option maxRecDepth 8000
def poly : Nat := 3988292384
def stepA (c : Nat) : Nat := if c % 2 = 1 then (c / 2) ^^^ poly else c / 2
def itA : Nat → Nat → Nat
  | 0, c => c
  | k + 1, c => stepA (itA k c)
def refA (b c : Nat) (k : Nat) : Nat := if b / 2 ^ k % 2 ≠ c % 2 then (c / 2) ^^^ poly else c / 2
def itR (b : Nat) : Nat → Nat → Nat
  | 0, c => c
  | k + 1, c => refA b (itR b k c) k
theorem xor_half (a b : Nat) : (a ^^^ b) / 2 = (a / 2) ^^^ (b / 2) := by
  have := Nat.shiftRight_xor_distrib (a := a) (b := b) (i := 1)
  simpa [Nat.shiftRight_eq_div_pow] using this
theorem xor_low (a b : Nat) : (a ^^^ b) % 2 = (a % 2 + b % 2) % 2 := by
  have := Nat.xor_mod_two_eq_one (a := a) (b := b)
  omega
theorem it_eq (b c : Nat) : ∀ k, itA k (c ^^^ b) = itR b k c ^^^ (b / 2 ^ k)
  | 0 => by simp [itA, itR]
  | k + 1 => by
    have e : b / 2 ^ (k + 1) = b / 2 ^ k / 2 := by rw [Nat.pow_succ, Nat.div_div_eq_div_mul]
    rw [itA, itR, it_eq b c k, stepA, refA, xor_half, xor_low, e]
    by_cases h : b / 2 ^ k % 2 = itR b k c % 2
    · rw [if_neg (by omega), if_neg (by omega)]
    · rw [if_pos (by omega), if_pos (by omega), Nat.xor_assoc, Nat.xor_assoc, Nat.xor_comm poly]
def stepN (c b : Nat) : Nat := itA 8 (c ^^^ b)
theorem stepN_ref (c b : Nat) (hb : b < 256) : stepN c b = itR b 8 c := by
  rw [stepN, it_eq, show b / 2 ^ 8 = 0 by omega, Nat.xor_zero]
theorem u32wrap (m : Nat) (h : m < 4294967296) : IntKind.u32.wrap (m : Int) = (m : Int) := by
  simp only [IntKind.wrap, IntKind.signed, IntKind.bits]
  simp
  omega
theorem xor32 {a b : Nat} (ha : a < 4294967296) (hb : b < 4294967296) : a ^^^ b < 4294967296 := Nat.xor_lt_two_pow (n := 32) ha hb
theorem xorB {a b : Nat} (ha : a < 4294967296) (hb : b < 4294967296) : bitI .xor .u32 (a : Int) (b : Int) = some ((a ^^^ b : Nat) : Int) := by
  have h := xor32 ha hb
  simp only [bitI, BitVec.ofInt_natCast]
  show some (IntKind.u32.wrap ((BitVec.ofNat 32 a ^^^ BitVec.ofNat 32 b).toNat : Int)) = _
  rw [BitVec.toNat_xor, BitVec.toNat_ofNat, BitVec.toNat_ofNat, Nat.mod_eq_of_lt ha, Nat.mod_eq_of_lt hb]
  congr 1
  exact u32wrap _ h
theorem and1B {a : Nat} (ha : a < 4294967296) : bitI .and .u32 (a : Int) 1 = some ((a % 2 : Nat) : Int) := by
  simp only [bitI, BitVec.ofInt_natCast]
  show some (IntKind.u32.wrap ((BitVec.ofNat 32 a &&& BitVec.ofNat 32 1).toNat : Int)) = _
  rw [BitVec.toNat_and, BitVec.toNat_ofNat, BitVec.toNat_ofNat, Nat.mod_eq_of_lt ha, show 1 % 2 ^ 32 = 1 from rfl, Nat.and_one_is_mod]
  congr 1
  exact u32wrap _ (by omega)
theorem shr1 (m : Nat) : (m : Int).fdiv (2 ^ (Min.min (1 : Int).toNat IntKind.u32.bits)) = ((m / 2 : Nat) : Int) := by
  have : (2 ^ (Min.min (1 : Int).toNat IntKind.u32.bits) : Int) = ((2 : Nat) : Int) := rfl
  rw [this, Int.fdiv_eq_ediv_of_nonneg _ (by omega)]
  omega
theorem stepA_lt {c : Nat} (h : c < 4294967296) : stepA c < 4294967296 := by
  unfold stepA poly
  split
  · exact xor32 (by omega) (by omega)
  · omega
theorem itA_lt {c : Nat} (h : c < 4294967296) : ∀ k, itA k c < 4294967296
  | 0 => h
  | k + 1 => stepA_lt (itA_lt h k)
theorem stepN_lt {c b : Nat} (h : c < 4294967296) (hb : b < 256) : stepN c b < 4294967296 := itA_lt (xor32 h (by omega)) 8
theorem xorP {a : Nat} (ha : a < 4294967296) : bitI .xor .u32 (a : Int) 3988292384 = some ((a ^^^ poly : Nat) : Int) := xorB ha (b := poly) (by decide)
theorem step_any (c : Nat) (b : UInt8) (h : c < 4294967296) : Fun Try.prog 69 [.int .u32 (c : Int), .int .u8 (b.toNat : Int)] (.int .u32 (stepN c b.toNat : Int)) := by
  have hb := b.toNat_lt
  refine Ct.enter Try.func69 rfl rfl fun W => ?_
  have hx := xor32 h (show b.toNat < 4294967296 by omega)
  apply Wp.seq
  apply Wp.region
  refine WpL.v (V.as) ?_
  apply WpL.nil
  apply Out.seqN
  apply Wp.seq
  apply Wp.region
  refine WpL.v (V.mv) ?_
  refine WpL.v (V.mv) ?_
  refine WpL.v (V.cvE tb rfl rfl (u32wrap _ (by omega))) ?_
  refine WpL.v (V.bitE rfl rfl (xorB h (by omega))) ?_
  refine WpL.v (V.as) ?_
  apply WpL.nil
  apply Out.seqN
  apply Wp.seq
  apply Wp.seq
  apply Wp.region
  refine WpL.v (V.mv) ?_
  apply WpL.nil
  apply Out.seqN
  apply Wp.block
  refine Wp.lp [] (fun k : Nat => k ≤ 8) (fun k => [(9, I (k : Int)), (0, .int .u32 (itA k (c ^^^ b.toNat) : Int))]) (fun k => []) (fun k => 8 - k) 0 (Nat.zero_le _) ?_
  rintro k hk K hK
  dsimp only [List.cons_append, List.nil_append]
  by_cases hlt : k < 8
  · have hc := itA_lt hx k
    have e1 : itA (k + 1) (c ^^^ b.toNat) = stepA (itA k (c ^^^ b.toNat)) := rfl
    rw [stepA] at e1
    apply Wp.seq
    apply Wp.region
    refine WpL.v (V.cmp) ?_
    apply WpL.nil
    apply Out.seqN
    apply Wp.seq
    refine Wp.c (fun hsb0 => ?_) (fun hsb0 => ?_)
    (try simp only [decide_eq_true_eq, decide_eq_false_iff_not, Bool.not_eq_true', Bool.not_eq_false', Bool.not_eq_true, Bool.not_eq_false, not_true_eq_false, not_false_eq_true, reduceCtorEq] at hsb0)
    apply Wp.skip
    apply Out.seqN
    apply Wp.seq
    apply Wp.block
    apply Wp.seq
    apply Wp.region
    refine WpL.v (V.mv) ?_
    refine WpL.v (V.bitE rfl rfl (and1B hc)) ?_
    refine WpL.v (V.cmp) ?_
    apply WpL.nil
    apply Out.seqN
    refine Wp.c (fun hsb1 => ?_) (fun hsb1 => ?_)
    (try simp only [decide_eq_true_eq, decide_eq_false_iff_not, Bool.not_eq_true', Bool.not_eq_false', Bool.not_eq_true, Bool.not_eq_false, not_true_eq_false, not_false_eq_true, reduceCtorEq] at hsb1)
    apply Wp.region
    refine WpL.v (V.mv) ?_
    refine WpL.v (V.shrE rfl rfl (shr1 _)) ?_
    refine WpL.v (V.bitE rfl rfl (xorP (by omega))) ?_
    refine WpL.v (V.as) ?_
    apply WpL.nil
    apply Out.blockN
    apply Out.seqN
    apply Wp.region
    refine WpL.v (V.add) ?_
    refine WpL.v (V.mv) ?_
    apply WpL.nil
    rotate_left
    (try simp only [decide_eq_true_eq, decide_eq_false_iff_not, Bool.not_eq_true', Bool.not_eq_false', Bool.not_eq_true, Bool.not_eq_false, not_true_eq_false, not_false_eq_true, reduceCtorEq] at hsb1)
    apply Wp.region
    refine WpL.v (V.mv) ?_
    refine WpL.v (V.shrE rfl rfl (shr1 _)) ?_
    refine WpL.v (V.as) ?_
    apply WpL.nil
    apply Out.blockN
    apply Out.seqN
    apply Wp.region
    refine WpL.v (V.add) ?_
    refine WpL.v (V.mv) ?_
    apply WpL.nil
    rotate_left
    (try simp only [decide_eq_true_eq, decide_eq_false_iff_not, Bool.not_eq_true', Bool.not_eq_false', Bool.not_eq_true, Bool.not_eq_false, not_true_eq_false, not_false_eq_true, reduceCtorEq] at hsb0)
    (exfalso; omega)
    · rw [if_pos (by omega)] at e1
      rw [← e1]
      exact Out.ag hK (k + 1) (by omega) (by omega)
    · rw [if_neg (by omega)] at e1
      rw [← e1]
      exact Out.ag hK (k + 1) (by omega) (by omega)
  · obtain rfl : k = 8 := by omega
    apply Wp.seq
    apply Wp.region
    refine WpL.v (V.cmp) ?_
    apply WpL.nil
    apply Out.seqN
    apply Wp.seq
    refine Wp.cF ?_
    apply Wp.exit
    apply Out.seqE
    apply Out.seqE
    apply Out.blockE
    apply Out.seqN
    apply Wp.seq
    apply Wp.region
    refine WpL.v (V.mv) ?_
    refine WpL.v (V.as) ?_
    apply WpL.nil
    apply Out.seqN
    apply Wp.ret
    refine Out.f1 rfl ResIs.t ⟨?_, rfl⟩
    exact rfl
/-- A text's sum, behind a sum. -/
def sumF (c : Nat) (s : List UInt8) : Nat := s.foldl (fun c b => stepN c b.toNat) c
def sumL (ss : List (List UInt8)) : Nat := ss.foldl sumF 4294967295
theorem sumF_lt {c : Nat} (h : c < 4294967296) (s : List UInt8) : sumF c s < 4294967296 := by
  induction s generalizing c with
  | nil => exact h
  | cons x s ih => exact ih (stepN_lt h x.toNat_lt)
theorem sumFs_lt {c : Nat} (h : c < 4294967296) (ss : List (List UInt8)) : ss.foldl sumF c < 4294967296 := by
  induction ss generalizing c with
  | nil => exact h
  | cons x s ih => exact ih (sumF_lt h x)
theorem sumF_snoc {s : List UInt8} {k : Nat} {x : UInt8} (c : Nat) (h : s[k]? = some x) : sumF c (s.take (k + 1)) = stepN (sumF c (s.take k)) x.toNat := by
  rw [take_snocS h, sumF, List.foldl_append]; rfl
theorem sumF_app (c : Nat) (s t : List UInt8) : sumF c (s ++ t) = sumF (sumF c s) t := List.foldl_append ..
theorem cplB {a : Nat} (ha : a < 4294967296) : bitI .xor .u32 (if IntKind.u32.signed then -1 else IntKind.u32.max) (a : Int) = some ((4294967295 - a : Nat) : Int) := by
  have h := xorB (a := 4294967295) (b := a) (by decide) ha
  have e : 4294967295 ^^^ a = 4294967295 - a := by
    have h1 := BitVec.toNat_not (x := BitVec.ofNat 32 a)
    rw [BitVec.toNat_ofNat, Nat.mod_eq_of_lt ha] at h1
    have h2 : (~~~ (BitVec.ofNat 32 a)) = BitVec.allOnes 32 ^^^ BitVec.ofNat 32 a := by ext i hi; simp [-BitVec.reduceAllOnes]
    rw [h2, BitVec.toNat_xor, BitVec.toNat_allOnes, BitVec.toNat_ofNat, Nat.mod_eq_of_lt ha] at h1
    simpa using h1
  rw [e] at h
  exact h
theorem sum_any (e : Ent) (ao : Option Go.Addr) (cap bb off : Nat) (ss : List (List UInt8)) (hR : Rd e ao ss.length bb off 1 (ss.map strc)) (hw : ∀ s, s ∈ ss → s.length ≤ 9223372036854775807) :
    Ct Try.prog 21 [.slice ao ss.length cap] [e] (fun r σ' => r = .int .u32 ((4294967295 - sumL ss : Nat) : Int) ∧ σ' = [e]) := by
  have hm := hR.len
  refine Ct.enter Try.func21 rfl rfl fun W => ?_
  apply Wp.seq
  apply Wp.region
  refine WpL.v (V.as) ?_
  apply WpL.nil
  apply Out.seqN
  apply Wp.seq
  apply Wp.region
  refine WpL.v (V.as) ?_
  apply WpL.nil
  apply Out.seqN
  apply Wp.seq
  apply Wp.seq
  apply Wp.region
  refine WpL.v (V.mv) ?_
  refine WpL.v (V.lenL tb) ?_
  refine WpL.v (V.mv) ?_
  apply WpL.nil
  apply Out.seqN
  apply Wp.block
  refine Wp.lp [7, 8] (fun k : Nat => k ≤ ss.length) (fun k => [(9, I (k : Int)), (3, .int .u32 (sumL (ss.take k) : Int))]) (fun k => [e]) (fun k => ss.length - k) 0 (Nat.zero_le _) ?_
  rintro k hk K hK
  dsimp only [List.cons_append, List.nil_append]
  have hc : sumL (ss.take k) < 4294967296 := sumFs_lt (by decide) _
  by_cases hlt : k < ss.length
  · have hs := getD_some (l := ss) hlt
    have hsl := hw (ss.getD k default) (List.mem_of_getElem? hs)
    have e2 : sumL (ss.take (k + 1)) = sumF (sumL (ss.take k)) (ss.getD k default) := by rw [take_snocS hs, sumL, List.foldl_append]; rfl
    apply Wp.seq
    apply Wp.region
    refine WpL.v (V.cmp) ?_
    apply WpL.nil
    apply Out.seqN
    apply Wp.seq
    refine Wp.c (fun hub0 => ?_) (fun hub0 => ?_)
    (try simp only [decide_eq_true_eq, decide_eq_false_iff_not, Bool.not_eq_true', Bool.not_eq_false', Bool.not_eq_true, Bool.not_eq_false, not_true_eq_false, not_false_eq_true, reduceCtorEq] at hub0)
    apply Wp.skip
    apply Out.seqN
    apply Wp.seq
    apply Wp.block
    apply Wp.seq
    apply Wp.region
    refine WpL.v (V.ixR tb rfl rfl (by assumption)) ?_
    refine WpL.v (V.ldR1 tb rfl (by assumption) (getMapD1 (by omega))) ?_
    refine WpL.v (V.as) ?_
    apply WpL.nil
    apply Out.seqN
    apply Wp.seq
    apply Wp.region
    refine WpL.v (V.mv) ?_
    refine WpL.v (V.lenS tb) ?_
    refine WpL.v (V.mv) ?_
    apply WpL.nil
    apply Out.seqN
    apply Wp.block
    rotate_left
    (try simp only [decide_eq_true_eq, decide_eq_false_iff_not, Bool.not_eq_true', Bool.not_eq_false', Bool.not_eq_true, Bool.not_eq_false, not_true_eq_false, not_false_eq_true, reduceCtorEq] at hub0)
    (exfalso; omega)
    refine Wp.lp [14, 5, 7, 8, 9] (fun j : Nat => j ≤ (ss.getD k default).length) (fun j => [(15, I (j : Int)), (3, .int .u32 (sumF (sumL (ss.take k)) ((ss.getD k default).take j) : Int))]) (fun j => [e]) (fun j => (ss.getD k default).length - j) 0 (Nat.zero_le _) ?_
    rintro j hj L hL
    dsimp only [List.cons_append, List.nil_append]
    have hd : sumF (sumL (ss.take k)) ((ss.getD k default).take j) < 4294967296 := sumF_lt hc _
    by_cases hjl : j < (ss.getD k default).length
    · obtain ⟨x, hx⟩ := getS hjl
      have e3 := sumF_snoc (sumL (ss.take k)) hx
      apply Wp.seq
      apply Wp.region
      refine WpL.v (V.cmp) ?_
      apply WpL.nil
      apply Out.seqN
      apply Wp.seq
      refine Wp.c (fun hud0 => ?_) (fun hud0 => ?_)
      (try simp only [decide_eq_true_eq, decide_eq_false_iff_not, Bool.not_eq_true', Bool.not_eq_false', Bool.not_eq_true, Bool.not_eq_false, not_true_eq_false, not_false_eq_true, reduceCtorEq] at hud0)
      apply Wp.skip
      apply Out.seqN
      apply Wp.seq
      apply Wp.block
      apply Wp.seq
      apply Wp.region
      refine WpL.v (V.mv) ?_
      refine WpL.v (V.as) ?_
      apply WpL.nil
      apply Out.seqN
      apply Wp.region
      refine WpL.v (V.mv) ?_
      refine WpL.v (V.mv) ?_
      refine WpL.v (V.mv) ?_
      refine WpL.v (V.ixN tb rfl rfl (by assumption)) ?_
      refine WpL.o (Op1.fn rfl (step_any _ _ ?_) ?_)
      (first | with_reducible assumption | omega | (simp only [List.length_append, List.length_cons, List.length_nil, List.length_map] at *; omega) | (focus (simp; done)))
      refine WpL.v (V.as) ?_
      apply WpL.nil
      apply Out.blockN
      apply Out.seqN
      apply Wp.region
      refine WpL.v (V.add) ?_
      refine WpL.v (V.mv) ?_
      apply WpL.nil
      rotate_left
      (try simp only [decide_eq_true_eq, decide_eq_false_iff_not, Bool.not_eq_true', Bool.not_eq_false', Bool.not_eq_true, Bool.not_eq_false, not_true_eq_false, not_false_eq_true, reduceCtorEq] at hud0)
      (exfalso; omega)
      rw [← e3]
      exact Out.ag hL (j + 1) (by omega) (by omega)
    · obtain rfl : j = (ss.getD k default).length := by omega
      rw [List.take_length, ← e2]
      apply Wp.seq
      apply Wp.region
      refine WpL.v (V.cmp) ?_
      apply WpL.nil
      apply Out.seqN
      apply Wp.seq
      refine Wp.c (fun hue0 => ?_) (fun hue0 => ?_)
      (try simp only [decide_eq_true_eq, decide_eq_false_iff_not, Bool.not_eq_true', Bool.not_eq_false', Bool.not_eq_true, Bool.not_eq_false, not_true_eq_false, not_false_eq_true, reduceCtorEq] at hue0)
      (exfalso; omega)
      (try simp only [decide_eq_true_eq, decide_eq_false_iff_not, Bool.not_eq_true', Bool.not_eq_false', Bool.not_eq_true, Bool.not_eq_false, not_true_eq_false, not_false_eq_true, reduceCtorEq] at hue0)
      apply Wp.exit
      apply Out.seqE
      apply Out.seqE
      apply Out.blockE
      apply Out.blockN
      apply Out.seqN
      apply Wp.region
      refine WpL.v (V.add) ?_
      refine WpL.v (V.mv) ?_
      apply WpL.nil
      exact Out.ag hK (k + 1) (by omega) (by omega)
  · obtain rfl : k = ss.length := by omega
    rw [List.take_length] at *
    apply Wp.seq
    apply Wp.region
    refine WpL.v (V.cmp) ?_
    apply WpL.nil
    apply Out.seqN
    apply Wp.seq
    refine Wp.c (fun huc0 => ?_) (fun huc0 => ?_)
    (try simp only [decide_eq_true_eq, decide_eq_false_iff_not, Bool.not_eq_true', Bool.not_eq_false', Bool.not_eq_true, Bool.not_eq_false, not_true_eq_false, not_false_eq_true, reduceCtorEq] at huc0)
    (exfalso; omega)
    (try simp only [decide_eq_true_eq, decide_eq_false_iff_not, Bool.not_eq_true', Bool.not_eq_false', Bool.not_eq_true, Bool.not_eq_false, not_true_eq_false, not_false_eq_true, reduceCtorEq] at huc0)
    apply Wp.exit
    apply Out.seqE
    apply Out.seqE
    apply Out.blockE
    apply Out.seqN
    apply Wp.seq
    apply Wp.region
    refine WpL.v (V.mv) ?_
    refine WpL.v (V.compl rfl rfl (cplB hc)) ?_
    refine WpL.v (V.as) ?_
    apply WpL.nil
    apply Out.seqN
    apply Wp.ret
    refine Out.f1 rfl ResIs.t ⟨?_, rfl⟩
    exact rfl
end Go.Proofs.Ytgbflapcadlelaa
