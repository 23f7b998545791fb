/-
  Layer 1: the source; the document's number that bytes begin with.
-/
import Derived.Test.YtgbflapcadlelaaSeal
namespace Go.Proofs.Ytgbflapcadlelaa
open Go.HL
set_option linter.unusedSimpArgs false
set_option linter.unusedVariables false
set_option maxRecDepth 8000
theorem sinkNat2 (b : Nat) (v : Go.Value) (xs : List UInt8) (m n : Int) (g : Nat) (hm : m ≤ 9223372036854775807) (h : n ≤ 9223372036854775807) (hx : xs.length ≤ 900000) :
    Ct Try.prog 70 [Ptr b 0, .slice (some ⟨g, 0, none⟩) 2 2] [cells b 94 (OctaveSink.c ⟨v⟩), rows u8c v 5 1 xs, row (.slice (some ⟨g, 0, none⟩) 2 2) 3 1 2 [I m, I n]]
      (fun r σ' => ∃ v', r = .tuple #[] ∧ σ' = [cells b 94 (OctaveSink.c ⟨v'⟩), rows u8c v' 5 1 (xs ++ (natI m ++ natI n)), row (.slice (some ⟨g, 0, none⟩) 2 2) 3 1 2 [I m, I n]]) := by
  have := sinkNat b v xs [m, n] _ _ 2 g 0 (Rd.lits (E := 3) (cap := 2) i64c [m, n] rfl rfl (fun _ => rfl) (by simp)) (by intro q hq; simp at hq; rcases hq with rfl | rfl <;> assumption) (by simp; omega)
  simp only [List.flatMap_cons, List.flatMap_nil, List.append_nil] at this
  exact this
theorem srcFrom (s : List UInt8) : Ct Try.prog 58 [S s] [] (fun r σ' => ∃ b, r = Ptr b 0 ∧ σ' = [cells b 130 (OctaveSource.c ⟨s, false⟩)]) := by
  refine Ct.enter Try.func58 rfl rfl fun W => ?_
  apply Wp.seq
  apply Wp.region
  refine WpL.v (V.as) ?_
  apply WpL.nil
  apply Out.seqN
  apply Wp.seq
  apply Wp.region
  refine WpL.v (V.mv) ?_
  refine WpL.v (V.bld tb) ?_
  refine WpL.o (O.bxA (fun p5 => ?_))
  refine WpL.v (V.as) ?_
  apply WpL.nil
  apply Out.seqN
  apply Wp.ret
  refine Out.e1 rfl ResIs.t ?_
  exact ⟨_, _, ⟨_, rfl, rfl⟩, (by (repeat (first | exact Sel.nil | exact Rem.here | apply Sel.cons | apply Rem.there)))⟩
theorem srcStop (b : Nat) (s : OctaveSource) : Ct Try.prog 86 [Ptr b 0] [cells b 130 s.c] (fun r σ' => r = .tuple #[] ∧ σ' = [cells b 130 (OctaveSource.c ⟨[], true⟩)]) := by
  refine Ct.enter Try.func86 rfl rfl fun W => ?_
  apply Wp.seq
  apply Wp.region
  refine WpL.v (V.mv) ?_
  refine WpL.v (V.neP) ?_
  apply WpL.nil
  apply Out.seqN
  refine Wp.cT ?_
  apply Wp.region
  refine WpL.v (V.mv) ?_
  refine WpL.v (V.mv) ?_
  refine WpL.v (V.nc) ?_
  refine WpL.v (V.fa tb) ?_
  refine WpL.o (O.st1 tb ?_)
  refine WpL.v (V.nc) ?_
  refine WpL.v (V.fa tb) ?_
  refine WpL.o (O.st1 tb ?_)
  apply WpL.nil
  refine Out.f0 rfl  ⟨?_, rfl⟩
  exact rfl
theorem srcStopN : Fun Try.prog 86 [.pointer none] (.tuple #[]) := by
  refine Ct.enter Try.func86 rfl rfl fun W => ?_
  apply Wp.seq
  apply Wp.region
  refine WpL.v (V.mv) ?_
  refine WpL.v (V.neN) ?_
  apply WpL.nil
  apply Out.seqN
  refine Wp.cF ?_
  apply Wp.skip
  refine Out.f0 rfl  ⟨?_, rfl⟩
  exact rfl
theorem srcDry (b : Nat) (s : OctaveSource) : Ct Try.prog 63 [Ptr b 0] [cells b 130 s.c] (fun r σ' => r = B s.dry ∧ σ' = [cells b 130 s.c]) := by
  refine Ct.enter Try.func63 rfl rfl fun W => ?_
  apply Wp.seq
  apply Wp.region
  refine WpL.v (V.as) ?_
  apply WpL.nil
  apply Out.seqN
  apply Wp.seq
  apply Wp.region
  refine WpL.v (V.mv) ?_
  refine WpL.v (V.eqP) ?_
  refine WpL.v (V.mv) ?_
  refine WpL.v (V.mv) ?_
  refine WpL.v (V.nc) ?_
  refine WpL.v (V.fa tb) ?_
  refine WpL.v (V.ld1 tb) ?_
  refine WpL.v (V.pF) ?_
  refine WpL.v (V.as) ?_
  apply WpL.nil
  apply Out.seqN
  apply Wp.ret
  refine Out.f1 rfl ResIs.t ⟨?_, rfl⟩
  exact rfl
theorem srcLeft (b : Nat) (s : OctaveSource) : Ct Try.prog 62 [Ptr b 0] [cells b 130 s.c] (fun r σ' => r = I (s.in_.length : Int) ∧ σ' = [cells b 130 s.c]) := by
  refine Ct.enter Try.func62 rfl rfl fun W => ?_
  apply Wp.seq
  apply Wp.region
  refine WpL.v (V.as) ?_
  apply WpL.nil
  apply Out.seqN
  apply Wp.seq
  apply Wp.seq
  apply Wp.region
  refine WpL.v (V.mv) ?_
  refine WpL.v (V.eqP) ?_
  apply WpL.nil
  apply Out.seqN
  refine Wp.cF ?_
  apply Wp.skip
  apply Out.seqN
  apply Wp.seq
  apply Wp.region
  refine WpL.v (V.mv) ?_
  refine WpL.v (V.nc) ?_
  refine WpL.v (V.fa tb) ?_
  refine WpL.v (V.ld1 tb) ?_
  refine WpL.v (V.lenS tb) ?_
  refine WpL.v (V.as) ?_
  apply WpL.nil
  apply Out.seqN
  apply Wp.ret
  refine Out.f1 rfl ResIs.t ⟨?_, rfl⟩
  exact rfl
def rawS (s : OctaveSource) (n : Int) : List UInt8 × OctaveSource := if s.dry = true ∨ n < 0 ∨ (s.in_.length : Int) < n then ([], ⟨[], true⟩) else (s.in_.take n.toNat, ⟨s.in_.drop n.toNat, s.dry⟩)
theorem srcRaw (b : Nat) (s : OctaveSource) (n : Int) (hs : s.in_.length ≤ 9223372036854775807) : Ct Try.prog 81 [Ptr b 0, I n] [cells b 130 s.c] (fun r σ' => r = S (rawS s n).1 ∧ σ' = [cells b 130 (rawS s n).2.c]) := by
  refine Ct.enter Try.func81 rfl rfl fun W => ?_
  apply Wp.seq
  apply Wp.region
  refine WpL.v (V.as) ?_
  apply WpL.nil
  apply Out.seqN
  apply Wp.seq
  apply Wp.seq
  apply Wp.region
  refine WpL.v (V.mv) ?_
  refine WpL.v (V.eqP) ?_
  refine WpL.v (V.mv) ?_
  refine WpL.v (V.mv) ?_
  refine WpL.v (V.nc) ?_
  refine WpL.v (V.fa tb) ?_
  refine WpL.v (V.ld1 tb) ?_
  refine WpL.v (V.pF) ?_
  refine WpL.v (V.mv) ?_
  refine WpL.pt (fun h0 => ?_) (fun h0 => ?_)
  (try simp only [decide_eq_true_eq, decide_eq_false_iff_not, Bool.not_eq_true', Bool.not_eq_false', Bool.not_eq_true, Bool.not_eq_false, not_true_eq_false, not_false_eq_true, reduceCtorEq] at h0)
  refine WpL.sk ?_
  refine WpL.sk ?_
  refine WpL.v (V.pT) ?_
  refine WpL.v (V.mv) ?_
  refine WpL.sk ?_
  refine WpL.sk ?_
  refine WpL.sk ?_
  refine WpL.sk ?_
  refine WpL.sk ?_
  refine WpL.sk ?_
  refine WpL.sk ?_
  refine WpL.v (V.pT) ?_
  apply WpL.nil
  apply Out.seqN
  refine Wp.cT ?_
  apply Wp.seq
  apply Wp.region
  refine WpL.v (V.mv) ?_
  refine WpL.o (Op1.callT rfl (srcStop _ _) (by (repeat (first | exact Sel.nil | exact Rem.here | apply Sel.cons | apply Rem.there))) ?_)
  rintro v1 s2 ⟨rfl, rfl⟩
  refine incat ?_
  apply WpL.nil
  apply Out.seqN
  apply Wp.seq
  apply Wp.region
  refine WpL.v (V.as) ?_
  apply WpL.nil
  apply Out.seqN
  apply Wp.ret
  apply Out.seqR
  refine Out.e1 rfl ResIs.t ?_
  rotate_left
  (try simp only [decide_eq_true_eq, decide_eq_false_iff_not, Bool.not_eq_true', Bool.not_eq_false', Bool.not_eq_true, Bool.not_eq_false, not_true_eq_false, not_false_eq_true, reduceCtorEq] at h0)
  refine WpL.v (V.mv) ?_
  refine WpL.v (V.cmp) ?_
  refine WpL.v (V.pF) ?_
  refine WpL.v (V.mv) ?_
  refine WpL.pt (fun h3 => ?_) (fun h3 => ?_)
  (try simp only [decide_eq_true_eq, decide_eq_false_iff_not, Bool.not_eq_true', Bool.not_eq_false', Bool.not_eq_true, Bool.not_eq_false, not_true_eq_false, not_false_eq_true, reduceCtorEq] at h3)
  refine WpL.sk ?_
  refine WpL.sk ?_
  refine WpL.sk ?_
  refine WpL.sk ?_
  refine WpL.sk ?_
  refine WpL.sk ?_
  refine WpL.sk ?_
  refine WpL.v (V.pT) ?_
  apply WpL.nil
  apply Out.seqN
  refine Wp.cT ?_
  apply Wp.seq
  apply Wp.region
  refine WpL.v (V.mv) ?_
  refine WpL.o (Op1.callT rfl (srcStop _ _) (by (repeat (first | exact Sel.nil | exact Rem.here | apply Sel.cons | apply Rem.there))) ?_)
  rintro v4 s5 ⟨rfl, rfl⟩
  refine incat ?_
  apply WpL.nil
  apply Out.seqN
  apply Wp.seq
  apply Wp.region
  refine WpL.v (V.as) ?_
  apply WpL.nil
  apply Out.seqN
  apply Wp.ret
  apply Out.seqR
  refine Out.e1 rfl ResIs.t ?_
  rotate_left
  (try simp only [decide_eq_true_eq, decide_eq_false_iff_not, Bool.not_eq_true', Bool.not_eq_false', Bool.not_eq_true, Bool.not_eq_false, not_true_eq_false, not_false_eq_true, reduceCtorEq] at h3)
  refine WpL.v (V.mv) ?_
  refine WpL.v (V.mv) ?_
  refine WpL.v (V.nc) ?_
  refine WpL.v (V.fa tb) ?_
  refine WpL.v (V.ld1 tb) ?_
  refine WpL.v (V.lenS tb) ?_
  refine WpL.v (V.cmp) ?_
  refine WpL.v (V.pF) ?_
  apply WpL.nil
  apply Out.seqN
  refine Wp.c (fun h6 => ?_) (fun h6 => ?_)
  (try simp only [decide_eq_true_eq, decide_eq_false_iff_not, Bool.not_eq_true', Bool.not_eq_false', Bool.not_eq_true, Bool.not_eq_false, not_true_eq_false, not_false_eq_true, reduceCtorEq] at h6)
  apply Wp.seq
  apply Wp.region
  refine WpL.v (V.mv) ?_
  refine WpL.o (Op1.callT rfl (srcStop _ _) (by (repeat (first | exact Sel.nil | exact Rem.here | apply Sel.cons | apply Rem.there))) ?_)
  rintro v7 s8 ⟨rfl, rfl⟩
  refine incat ?_
  apply WpL.nil
  apply Out.seqN
  apply Wp.seq
  apply Wp.region
  refine WpL.v (V.as) ?_
  apply WpL.nil
  apply Out.seqN
  apply Wp.ret
  apply Out.seqR
  refine Out.e1 rfl ResIs.t ?_
  rotate_left
  (try simp only [decide_eq_true_eq, decide_eq_false_iff_not, Bool.not_eq_true', Bool.not_eq_false', Bool.not_eq_true, Bool.not_eq_false, not_true_eq_false, not_false_eq_true, reduceCtorEq] at h6)
  apply Wp.skip
  apply Out.seqN
  apply Wp.seq
  apply Wp.region
  refine WpL.v (V.mv) ?_
  refine WpL.v (V.nc) ?_
  refine WpL.v (V.fa tb) ?_
  refine WpL.v (V.ld1 tb) ?_
  refine WpL.v (V.mv) ?_
  refine WpL.v (V.slHi tb) ?_
  refine WpL.v (V.as) ?_
  apply WpL.nil
  apply Out.seqN
  apply Wp.seq
  apply Wp.region
  refine WpL.v (V.mv) ?_
  refine WpL.v (V.mv) ?_
  refine WpL.v (V.nc) ?_
  refine WpL.v (V.fa tb) ?_
  refine WpL.v (V.ld1 tb) ?_
  refine WpL.v (V.mv) ?_
  refine WpL.v (V.slLo tb) ?_
  refine WpL.v (V.nc) ?_
  refine WpL.v (V.fa tb) ?_
  refine WpL.o (O.st1 tb ?_)
  apply WpL.nil
  apply Out.seqN
  apply Wp.seq
  apply Wp.region
  refine WpL.v (V.mv) ?_
  refine WpL.v (V.as) ?_
  apply WpL.nil
  apply Out.seqN
  apply Wp.ret
  refine Out.e1 rfl ResIs.t ?_
  rotate_left
  all_goals first
    | (rw [show rawS s n = ([], ⟨[], true⟩) from if_pos (by simp_all)]; exact ⟨_, _, ⟨rfl, rfl⟩, Sel.cons Rem.here Sel.nil⟩)
    | (rw [show rawS s n = (s.in_.take n.toNat, ⟨s.in_.drop n.toNat, s.dry⟩) from if_neg (by simp_all)]; exact ⟨_, _, ⟨rfl, rfl⟩, Sel.cons Rem.here Sel.nil⟩)
theorem srcRawN (n : Int) : Fun Try.prog 81 [.pointer none, I n] (S []) := by
  refine Ct.enter Try.func81 rfl rfl fun W => ?_
  apply Wp.seq
  apply Wp.region
  refine WpL.v (V.as) ?_
  apply WpL.nil
  apply Out.seqN
  apply Wp.seq
  apply Wp.seq
  apply Wp.region
  refine WpL.v (V.mv) ?_
  refine WpL.v (V.eqN) ?_
  refine WpL.v (V.mv) ?_
  refine WpL.sk ?_
  refine WpL.sk ?_
  refine WpL.sk ?_
  refine WpL.sk ?_
  refine WpL.v (V.pT) ?_
  refine WpL.v (V.mv) ?_
  refine WpL.sk ?_
  refine WpL.sk ?_
  refine WpL.v (V.pT) ?_
  refine WpL.v (V.mv) ?_
  refine WpL.sk ?_
  refine WpL.sk ?_
  refine WpL.sk ?_
  refine WpL.sk ?_
  refine WpL.sk ?_
  refine WpL.sk ?_
  refine WpL.sk ?_
  refine WpL.v (V.pT) ?_
  apply WpL.nil
  apply Out.seqN
  refine Wp.cT ?_
  apply Wp.seq
  apply Wp.region
  refine WpL.v (V.mv) ?_
  refine WpL.o (Op1.fn rfl (srcStopN) ?_)
  apply WpL.nil
  apply Out.seqN
  apply Wp.seq
  apply Wp.region
  refine WpL.v (V.as) ?_
  apply WpL.nil
  apply Out.seqN
  apply Wp.ret
  apply Out.seqR
  refine Out.f1 rfl ResIs.t ⟨?_, rfl⟩
  exact rfl
def natG : List UInt8 → Nat → Nat → Option (Nat × List UInt8)
  | [], _, _ => none
  | x :: xs, i, acc => if 8 < i then none else if x.toNat < 128 then (if x.toNat = 0 ∧ 0 < i then none else some (acc + x.toNat % 128 * 128 ^ i, xs)) else natG xs (i + 1) (acc + (x.toNat % 128) * 128 ^ i)
def natT (most : Int) (s : OctaveSource) (i acc : Nat) : Int × OctaveSource :=
  if s.dry = true then (0, ⟨[], true⟩) else match natG s.in_ i acc with
    | some (v, rest) => if most < (v : Int) then (0, ⟨[], true⟩) else ((v : Int), ⟨rest, false⟩)
    | none => (0, ⟨[], true⟩)
def natS (s : OctaveSource) (most : Int) : Int × OctaveSource := natT most s 0 0
theorem and127 : ∀ x : Fin 256, (BitVec.ofNat 8 x.val &&& 127#8).toNat = x.val % 128 := by decide
theorem andB (x : UInt8) : bitI .and .u8 (x.toNat : Int) 127 = some ((x.toNat % 128 : Nat) : Int) := by
  have h1 := and127 ⟨x.toNat, x.toNat_lt⟩
  have e1 : BitVec.ofInt IntKind.u8.bits (x.toNat : Int) = BitVec.ofNat 8 x.toNat := BitVec.ofInt_natCast 8 _
  have e2 : BitVec.ofInt IntKind.u8.bits 127 = 127#8 := rfl
  simp only [bitI, e1, e2]
  show some (IntKind.u8.wrap ((BitVec.ofNat 8 x.toNat &&& 127#8).toNat : Int)) = _
  rw [h1, u8wrap]
  simp only
  congr 2
  omega
theorem u64wrap (m : Nat) (h : m < 2 ^ 64) : IntKind.u64.wrap (m : Int) = (m : Int) := by
  simp only [IntKind.wrap, IntKind.signed, IntKind.bits]
  simp
  omega
theorem pow128 (i : Nat) : (2 : Nat) ^ (7 * i) = 128 ^ i := by rw [Nat.pow_mul]
theorem pow128_le {i : Nat} (h : i ≤ 8) : 128 ^ i ≤ 128 ^ 8 := Nat.pow_le_pow_right (by omega) h
theorem shlB (x i : Nat) (hx : x < 128) (hi : i ≤ 8) : IntKind.u64.wrap ((x : Int) * 2 ^ (Min.min (7 * (i : Int)).toNat IntKind.u64.bits)) = ((x * 128 ^ i : Nat) : Int) := by
  have e : Min.min (7 * (i : Int)).toNat IntKind.u64.bits = 7 * i := by
    have : IntKind.u64.bits = 64 := rfl
    omega
  rw [e]
  have e2 : ((x : Int) * 2 ^ (7 * i)) = ((x * 128 ^ i : Nat) : Int) := by
    rw [← pow128]; simp
  rw [e2]
  have := Nat.mul_le_mul (show x ≤ 127 by omega) (pow128_le hi)
  exact u64wrap _ (by omega)
theorem orAdd (a y i : Nat) (ha : a < 128 ^ i) (hi : i ≤ 8) (hy : y < 128) : bitI .or .u64 (a : Int) ((y * 128 ^ i : Nat) : Int) = some ((a + y * 128 ^ i : Nat) : Int) := by
  have h1 := pow128_le hi
  have h2 := Nat.mul_le_mul (show y ≤ 127 by omega) h1
  have e1 : BitVec.ofInt IntKind.u64.bits (a : Int) = BitVec.ofNat 64 a := BitVec.ofInt_natCast 64 _
  have e2 : BitVec.ofInt IntKind.u64.bits ((y * 128 ^ i : Nat) : Int) = BitVec.ofNat 64 (y * 128 ^ i) := BitVec.ofInt_natCast 64 _
  have e3 : a ||| y * 128 ^ i = a + y * 128 ^ i := by
    rw [← pow128] at ha ⊢
    have := Nat.two_pow_add_eq_or_of_lt ha y
    rw [Nat.mul_comm y, Nat.or_comm, ← this]; omega
  simp only [bitI, e1, e2]
  show some (IntKind.u64.wrap ((BitVec.ofNat 64 a ||| BitVec.ofNat 64 (y * 128 ^ i)).toNat : Int)) = _
  rw [BitVec.toNat_or, BitVec.toNat_ofNat, BitVec.toNat_ofNat, Nat.mod_eq_of_lt (by omega), Nat.mod_eq_of_lt (by omega), e3, u64wrap _ (by omega)]
theorem i64wrap (m : Nat) (h : m < 2 ^ 63) : IntKind.i64.wrap (m : Int) = (m : Int) := wrap_in (In.mk64 (by omega))
theorem rawS_one (s : OctaveSource) : rawS s 1 = match s.dry, s.in_ with
    | false, x :: xs => ([x], ⟨xs, false⟩)
    | _, _ => ([], ⟨[], true⟩) := by
  unfold rawS
  cases hd : s.dry <;> cases hi : s.in_ <;> simp <;> omega
theorem natT_cons {most : Int} {c : OctaveSource} {i acc : Nat} {x : UInt8} {xs : List UInt8} (hd : ¬ c.dry = true) (hc : c.in_ = x :: xs) : natT most c i acc =
    if 8 < i then (0, ⟨[], true⟩) else if x.toNat < 128 then (if x.toNat = 0 ∧ 0 < i then (0, ⟨[], true⟩) else if most < ((acc + x.toNat % 128 * 128 ^ i : Nat) : Int) then (0, ⟨[], true⟩) else (((acc + x.toNat % 128 * 128 ^ i : Nat) : Int), ⟨xs, false⟩))
    else natT most ⟨xs, false⟩ (i + 1) (acc + x.toNat % 128 * 128 ^ i) := by
  unfold natT
  rw [if_neg hd, hc]
  simp only [natG]
  by_cases h1 : 8 < i
  · simp only [if_pos h1]
  · by_cases h2 : x.toNat < 128
    · by_cases h3 : x.toNat = 0 ∧ 0 < i
      · simp only [if_neg h1, if_pos h2, if_pos h3]
      · simp only [if_neg h1, if_pos h2, if_neg h3]
    · simp only [if_neg h1, if_neg h2, Bool.false_eq_true, if_false]
theorem srcNat (b : Nat) (s : OctaveSource) (most : Int) (hs : s.in_.length ≤ 9223372036854775807) : Ct Try.prog 80 [Ptr b 0, I most] [cells b 130 s.c] (fun r σ' => r = I (natS s most).1 ∧ σ' = [cells b 130 (natS s most).2.c]) := by
  refine Ct.enter Try.func80 rfl rfl fun W => ?_
  apply Wp.seq
  apply Wp.region
  refine WpL.v (V.as) ?_
  apply WpL.nil
  apply Out.seqN
  apply Wp.seq
  apply Wp.region
  refine WpL.v (V.as) ?_
  apply WpL.nil
  apply Out.seqN
  apply Wp.seq
  apply Wp.region
  refine WpL.v (V.as) ?_
  apply WpL.nil
  apply Out.seqN
  apply Wp.block
  refine Wp.lp [0, 1] (fun x : Nat × Nat × OctaveSource => natT most x.2.2 x.1 x.2.1 = natS s most ∧ x.2.1 < 128 ^ x.1 ∧ x.1 ≤ 9 ∧ x.2.2.in_.length ≤ 9223372036854775807) (fun x => [(5, .int .u64 (x.2.1 : Int)), (6, I (7 * (x.1 : Int)))]) (fun x => [cells b 130 x.2.2.c]) (fun x => 10 - x.1) (0, 0, s) ⟨rfl, by simp, by simp, hs⟩ ?_
  rintro ⟨i, acc, c⟩ ⟨he, ha, hi, hc⟩ K hK
  dsimp only at he ha hi hc
  dsimp only [List.cons_append, List.nil_append]
  have hr := rawS_one c
  by_cases hd : c.dry = true
  · have hraw : Ct Try.prog 81 [Ptr b 0, I 1] [cells b 130 c.c] (fun r σ' => r = S [] ∧ σ' = [cells b 130 (OctaveSource.c ⟨[], true⟩)]) := by
      have := srcRaw b c 1 hc
      rwa [show rawS c 1 = ([], ⟨[], true⟩) by rw [hr, hd]] at this
    apply Wp.seq
    apply Wp.block
    apply Wp.seq
    apply Wp.region
    refine WpL.v (V.mv) ?_
    refine WpL.o (Op1.callT rfl (hraw) (by (repeat (first | exact Sel.nil | exact Rem.here | apply Sel.cons | apply Rem.there))) ?_)
    rintro v0 s1 ⟨rfl, rfl⟩
    refine incat ?_
    refine WpL.v (V.as) ?_
    apply WpL.nil
    apply Out.seqN
    apply Wp.seq
    apply Wp.seq
    apply Wp.region
    refine WpL.v (V.mv) ?_
    refine WpL.v (V.cmpS) ?_
    refine WpL.v (V.mv) ?_
    refine WpL.sk ?_
    refine WpL.sk ?_
    refine WpL.v (V.pT) ?_
    apply WpL.nil
    apply Out.seqN
    refine Wp.cT ?_
    apply Wp.seq
    apply Wp.region
    refine WpL.v (V.mv) ?_
    refine WpL.o (Op1.callT rfl (srcStop _ _) (by (repeat (first | exact Sel.nil | exact Rem.here | apply Sel.cons | apply Rem.there))) ?_)
    rintro v2 s3 ⟨rfl, rfl⟩
    refine incat ?_
    apply WpL.nil
    apply Out.seqN
    apply Wp.seq
    apply Wp.region
    refine WpL.v (V.as) ?_
    apply WpL.nil
    apply Out.seqN
    apply Wp.ret
    apply Out.seqR
    apply Out.blockR
    apply Out.seqR
    apply Out.seqR
    apply Out.blockR
    refine Out.e1 rfl ResIs.t ?_
    rw [← he, show natT most c i acc = (0, ⟨[], true⟩) from if_pos hd]
    exact ⟨_, _, ⟨rfl, rfl⟩, Sel.cons Rem.here Sel.nil⟩
  · cases hcin : c.in_ with
    | nil =>
      have hraw : Ct Try.prog 81 [Ptr b 0, I 1] [cells b 130 c.c] (fun r σ' => r = S [] ∧ σ' = [cells b 130 (OctaveSource.c ⟨[], true⟩)]) := by
        have := srcRaw b c 1 hc
        rwa [show rawS c 1 = ([], ⟨[], true⟩) by rw [hr, hcin]; cases c.dry <;> rfl] at this
      apply Wp.seq
      apply Wp.block
      apply Wp.seq
      apply Wp.region
      refine WpL.v (V.mv) ?_
      refine WpL.o (Op1.callT rfl (hraw) (by (repeat (first | exact Sel.nil | exact Rem.here | apply Sel.cons | apply Rem.there))) ?_)
      rintro v0 s1 ⟨rfl, rfl⟩
      refine incat ?_
      refine WpL.v (V.as) ?_
      apply WpL.nil
      apply Out.seqN
      apply Wp.seq
      apply Wp.seq
      apply Wp.region
      refine WpL.v (V.mv) ?_
      refine WpL.v (V.cmpS) ?_
      refine WpL.v (V.mv) ?_
      refine WpL.sk ?_
      refine WpL.sk ?_
      refine WpL.v (V.pT) ?_
      apply WpL.nil
      apply Out.seqN
      refine Wp.cT ?_
      apply Wp.seq
      apply Wp.region
      refine WpL.v (V.mv) ?_
      refine WpL.o (Op1.callT rfl (srcStop _ _) (by (repeat (first | exact Sel.nil | exact Rem.here | apply Sel.cons | apply Rem.there))) ?_)
      rintro v2 s3 ⟨rfl, rfl⟩
      refine incat ?_
      apply WpL.nil
      apply Out.seqN
      apply Wp.seq
      apply Wp.region
      refine WpL.v (V.as) ?_
      apply WpL.nil
      apply Out.seqN
      apply Wp.ret
      apply Out.seqR
      apply Out.blockR
      apply Out.seqR
      apply Out.seqR
      apply Out.blockR
      refine Out.e1 rfl ResIs.t ?_
      rw [← he, show natT most c i acc = (0, ⟨[], true⟩) by unfold natT; rw [if_neg hd, hcin]; rfl]
      exact ⟨_, _, ⟨rfl, rfl⟩, Sel.cons Rem.here Sel.nil⟩
    | cons x xs =>
      have hraw : Ct Try.prog 81 [Ptr b 0, I 1] [cells b 130 c.c] (fun r σ' => r = S [x] ∧ σ' = [cells b 130 (OctaveSource.c ⟨xs, false⟩)]) := by
        have := srcRaw b c 1 hc
        rwa [show rawS c 1 = ([x], ⟨xs, false⟩) by rw [hr, hcin]; simp at hd; rw [hd]] at this
      have hB : i ≤ 8 → acc + (x.toNat % 128) * 128 ^ i < 2 ^ 63 := fun h8 => by
        have h1 := pow128_le h8
        have h2 := Nat.mul_le_mul (show x.toNat % 128 ≤ 127 by omega) h1
        omega
      have hxl := x.toNat_lt
      clear hr
      apply Wp.seq
      apply Wp.block
      apply Wp.seq
      apply Wp.region
      refine WpL.v (V.mv) ?_
      refine WpL.o (Op1.callT rfl (hraw) (by (repeat (first | exact Sel.nil | exact Rem.here | apply Sel.cons | apply Rem.there))) ?_)
      rintro v0 s1 ⟨rfl, rfl⟩
      refine incat ?_
      refine WpL.v (V.as) ?_
      apply WpL.nil
      apply Out.seqN
      apply Wp.seq
      apply Wp.seq
      apply Wp.region
      refine WpL.v (V.mv) ?_
      refine WpL.v (V.cmpS) ?_
      refine WpL.v (V.mv) ?_
      refine WpL.pt (fun h2 => ?_) (fun h2 => ?_)
      (try simp only [decide_eq_true_eq, decide_eq_false_iff_not, Bool.not_eq_true', Bool.not_eq_false', Bool.not_eq_true, Bool.not_eq_false, not_true_eq_false, not_false_eq_true, reduceCtorEq] at h2)
      (try simp only [decide_eq_true_eq, decide_eq_false_iff_not, Bool.not_eq_true', Bool.not_eq_false', Bool.not_eq_true, Bool.not_eq_false, not_true_eq_false, not_false_eq_true, reduceCtorEq] at h2)
      refine WpL.v (V.mv) ?_
      refine WpL.v (V.cmp) ?_
      refine WpL.v (V.pF) ?_
      apply WpL.nil
      apply Out.seqN
      refine Wp.c (fun h3 => ?_) (fun h3 => ?_)
      (try simp only [decide_eq_true_eq, decide_eq_false_iff_not, Bool.not_eq_true', Bool.not_eq_false', Bool.not_eq_true, Bool.not_eq_false, not_true_eq_false, not_false_eq_true, reduceCtorEq] at h3)
      apply Wp.seq
      apply Wp.region
      refine WpL.v (V.mv) ?_
      refine WpL.o (Op1.callT rfl (srcStop _ _) (by (repeat (first | exact Sel.nil | exact Rem.here | apply Sel.cons | apply Rem.there))) ?_)
      rintro v4 s5 ⟨rfl, rfl⟩
      refine incat ?_
      apply WpL.nil
      apply Out.seqN
      apply Wp.seq
      apply Wp.region
      refine WpL.v (V.as) ?_
      apply WpL.nil
      apply Out.seqN
      apply Wp.ret
      apply Out.seqR
      apply Out.blockR
      apply Out.seqR
      apply Out.seqR
      apply Out.blockR
      refine Out.e1 rfl ResIs.t ?_
      rotate_left
      (try simp only [decide_eq_true_eq, decide_eq_false_iff_not, Bool.not_eq_true', Bool.not_eq_false', Bool.not_eq_true, Bool.not_eq_false, not_true_eq_false, not_false_eq_true, reduceCtorEq] at h3)
      apply Wp.skip
      apply Out.seqN
      apply Wp.seq
      apply Wp.region
      refine WpL.v (V.mv) ?_
      refine WpL.v (V.mv) ?_
      refine WpL.v (V.ixS tb rfl rfl (by omega) rfl) ?_
      refine WpL.v (V.bitE rfl rfl (andB _)) ?_
      refine WpL.v (V.cvE tb rfl rfl (u64wrap _ (by omega))) ?_
      refine WpL.v (V.mv) ?_
      refine WpL.v (V.shlE rfl rfl (shlB _ _ (by omega) (by omega))) ?_
      refine WpL.v (V.bitE rfl rfl (orAdd _ _ _ (by assumption) (by omega) (by omega))) ?_
      refine WpL.v (V.as) ?_
      apply WpL.nil
      apply Out.seqN
      apply Wp.seq
      apply Wp.region
      refine WpL.v (V.mv) ?_
      refine WpL.v (V.ixS tb rfl rfl (by omega) rfl) ?_
      refine WpL.v (V.cmp) ?_
      apply WpL.nil
      apply Out.seqN
      refine Wp.c (fun h6 => ?_) (fun h6 => ?_)
      (try simp only [decide_eq_true_eq, decide_eq_false_iff_not, Bool.not_eq_true', Bool.not_eq_false', Bool.not_eq_true, Bool.not_eq_false, not_true_eq_false, not_false_eq_true, reduceCtorEq] at h6)
      apply Wp.seq
      apply Wp.seq
      apply Wp.region
      refine WpL.v (V.mv) ?_
      refine WpL.v (V.ixS tb rfl rfl (by omega) rfl) ?_
      refine WpL.v (V.cmp) ?_
      refine WpL.v (V.mv) ?_
      refine WpL.pt (fun h7 => ?_) (fun h7 => ?_)
      (try simp only [decide_eq_true_eq, decide_eq_false_iff_not, Bool.not_eq_true', Bool.not_eq_false', Bool.not_eq_true, Bool.not_eq_false, not_true_eq_false, not_false_eq_true, reduceCtorEq] at h7)
      refine WpL.v (V.mv) ?_
      refine WpL.v (V.cmp) ?_
      refine WpL.v (V.pT) ?_
      refine WpL.v (V.mv) ?_
      refine WpL.pt (fun h8 => ?_) (fun h8 => ?_)
      (try simp only [decide_eq_true_eq, decide_eq_false_iff_not, Bool.not_eq_true', Bool.not_eq_false', Bool.not_eq_true, Bool.not_eq_false, not_true_eq_false, not_false_eq_true, reduceCtorEq] at h8)
      refine WpL.sk ?_
      refine WpL.sk ?_
      refine WpL.sk ?_
      refine WpL.sk ?_
      refine WpL.v (V.pT) ?_
      apply WpL.nil
      apply Out.seqN
      refine Wp.cT ?_
      apply Wp.seq
      apply Wp.region
      refine WpL.v (V.mv) ?_
      refine WpL.o (Op1.callT rfl (srcStop _ _) (by (repeat (first | exact Sel.nil | exact Rem.here | apply Sel.cons | apply Rem.there))) ?_)
      rintro v9 s10 ⟨rfl, rfl⟩
      refine incat ?_
      apply WpL.nil
      apply Out.seqN
      apply Wp.seq
      apply Wp.region
      refine WpL.v (V.as) ?_
      apply WpL.nil
      apply Out.seqN
      apply Wp.ret
      apply Out.seqR
      apply Out.blockR
      apply Out.seqR
      apply Out.seqR
      apply Out.blockR
      refine Out.e1 rfl ResIs.t ?_
      rotate_left
      (try simp only [decide_eq_true_eq, decide_eq_false_iff_not, Bool.not_eq_true', Bool.not_eq_false', Bool.not_eq_true, Bool.not_eq_false, not_true_eq_false, not_false_eq_true, reduceCtorEq] at h8)
      refine WpL.v (V.mv) ?_
      refine WpL.v (V.cvE tb rfl rfl (i64wrap _ (hB (by omega)))) ?_
      refine WpL.v (V.mv) ?_
      refine WpL.v (V.cmp) ?_
      refine WpL.v (V.pF) ?_
      apply WpL.nil
      apply Out.seqN
      refine Wp.c (fun h11 => ?_) (fun h11 => ?_)
      (try simp only [decide_eq_true_eq, decide_eq_false_iff_not, Bool.not_eq_true', Bool.not_eq_false', Bool.not_eq_true, Bool.not_eq_false, not_true_eq_false, not_false_eq_true, reduceCtorEq] at h11)
      apply Wp.seq
      apply Wp.region
      refine WpL.v (V.mv) ?_
      refine WpL.o (Op1.callT rfl (srcStop _ _) (by (repeat (first | exact Sel.nil | exact Rem.here | apply Sel.cons | apply Rem.there))) ?_)
      rintro v12 s13 ⟨rfl, rfl⟩
      refine incat ?_
      apply WpL.nil
      apply Out.seqN
      apply Wp.seq
      apply Wp.region
      refine WpL.v (V.as) ?_
      apply WpL.nil
      apply Out.seqN
      apply Wp.ret
      apply Out.seqR
      apply Out.blockR
      apply Out.seqR
      apply Out.seqR
      apply Out.blockR
      refine Out.e1 rfl ResIs.t ?_
      rotate_left
      (try simp only [decide_eq_true_eq, decide_eq_false_iff_not, Bool.not_eq_true', Bool.not_eq_false', Bool.not_eq_true, Bool.not_eq_false, not_true_eq_false, not_false_eq_true, reduceCtorEq] at h11)
      apply Wp.skip
      apply Out.seqN
      apply Wp.seq
      apply Wp.region
      refine WpL.v (V.mv) ?_
      refine WpL.v (V.cvE tb rfl rfl (i64wrap _ (hB (by omega)))) ?_
      refine WpL.v (V.as) ?_
      apply WpL.nil
      apply Out.seqN
      apply Wp.ret
      apply Out.blockR
      apply Out.seqR
      apply Out.seqR
      apply Out.blockR
      refine Out.e1 rfl ResIs.t ?_
      rotate_left
      (try simp only [decide_eq_true_eq, decide_eq_false_iff_not, Bool.not_eq_true', Bool.not_eq_false', Bool.not_eq_true, Bool.not_eq_false, not_true_eq_false, not_false_eq_true, reduceCtorEq] at h7)
      refine WpL.sk ?_
      refine WpL.sk ?_
      refine WpL.v (V.pF) ?_
      refine WpL.v (V.mv) ?_
      refine WpL.v (V.mv) ?_
      refine WpL.v (V.cvE tb rfl rfl (i64wrap _ (hB (by omega)))) ?_
      refine WpL.v (V.mv) ?_
      refine WpL.v (V.cmp) ?_
      refine WpL.v (V.pF) ?_
      apply WpL.nil
      apply Out.seqN
      refine Wp.c (fun h14 => ?_) (fun h14 => ?_)
      (try simp only [decide_eq_true_eq, decide_eq_false_iff_not, Bool.not_eq_true', Bool.not_eq_false', Bool.not_eq_true, Bool.not_eq_false, not_true_eq_false, not_false_eq_true, reduceCtorEq] at h14)
      apply Wp.seq
      apply Wp.region
      refine WpL.v (V.mv) ?_
      refine WpL.o (Op1.callT rfl (srcStop _ _) (by (repeat (first | exact Sel.nil | exact Rem.here | apply Sel.cons | apply Rem.there))) ?_)
      rintro v15 s16 ⟨rfl, rfl⟩
      refine incat ?_
      apply WpL.nil
      apply Out.seqN
      apply Wp.seq
      apply Wp.region
      refine WpL.v (V.as) ?_
      apply WpL.nil
      apply Out.seqN
      apply Wp.ret
      apply Out.seqR
      apply Out.blockR
      apply Out.seqR
      apply Out.seqR
      apply Out.blockR
      refine Out.e1 rfl ResIs.t ?_
      rotate_left
      (try simp only [decide_eq_true_eq, decide_eq_false_iff_not, Bool.not_eq_true', Bool.not_eq_false', Bool.not_eq_true, Bool.not_eq_false, not_true_eq_false, not_false_eq_true, reduceCtorEq] at h14)
      apply Wp.skip
      apply Out.seqN
      apply Wp.seq
      apply Wp.region
      refine WpL.v (V.mv) ?_
      refine WpL.v (V.cvE tb rfl rfl (i64wrap _ (hB (by omega)))) ?_
      refine WpL.v (V.as) ?_
      apply WpL.nil
      apply Out.seqN
      apply Wp.ret
      apply Out.blockR
      apply Out.seqR
      apply Out.seqR
      apply Out.blockR
      refine Out.e1 rfl ResIs.t ?_
      rotate_left
      (try simp only [decide_eq_true_eq, decide_eq_false_iff_not, Bool.not_eq_true', Bool.not_eq_false', Bool.not_eq_true, Bool.not_eq_false, not_true_eq_false, not_false_eq_true, reduceCtorEq] at h6)
      apply Wp.skip
      apply Out.blockN
      apply Out.seqN
      apply Wp.region
      refine WpL.v (V.mv) ?_
      refine WpL.v (V.add) ?_
      refine WpL.v (V.as) ?_
      apply WpL.nil
      rotate_left
      all_goals first
        | (rw [← he, natT_cons hd hcin, if_pos (by omega)]; exact ⟨_, _, ⟨rfl, rfl⟩, Sel.cons Rem.here Sel.nil⟩; done)
        | (rw [← he, natT_cons hd hcin, if_neg (by omega), if_pos (by omega), if_pos (by omega)]; exact ⟨_, _, ⟨rfl, rfl⟩, Sel.cons Rem.here Sel.nil⟩; done)
        | (rw [← he, natT_cons hd hcin, if_neg (by omega), if_pos (by omega), if_neg (by omega), if_pos (by assumption)]; exact ⟨_, _, ⟨rfl, rfl⟩, Sel.cons Rem.here Sel.nil⟩; done)
        | (rw [← he, natT_cons hd hcin, if_neg (by omega), if_pos (by omega), if_neg (by omega), if_neg (by assumption)]; exact ⟨_, _, ⟨rfl, rfl⟩, Sel.cons Rem.here Sel.nil⟩; done)
        | skip
      have hlt : acc + x.toNat % 128 * 128 ^ i < 128 ^ (i + 1) := by
        have h2 := Nat.mul_le_mul_right (128 ^ i) (show x.toNat % 128 + 1 ≤ 128 by omega)
        rw [Nat.pow_succ]
        rw [Nat.add_mul] at h2
        omega
      exact Out.ag hK (i + 1, acc + x.toNat % 128 * 128 ^ i, ⟨xs, false⟩) ⟨by dsimp only; rw [← he, natT_cons hd hcin, if_neg (by omega), if_neg (by omega)], hlt, by dsimp only; omega, by dsimp only; rw [hcin] at hc; simp at hc; omega⟩ (by dsimp only; omega)
theorem natG_len : ∀ (l : List UInt8) (i acc v : Nat) (rest : List UInt8), natG l i acc = some (v, rest) → rest.length ≤ l.length
  | [], _, _, _, _, h => by simp [natG] at h
  | x :: xs, i, acc, v, rest, h => by
    simp only [natG] at h
    split at h
    · cases h
    · split at h
      · split at h
        · cases h
        · simp only [Option.some.injEq, Prod.mk.injEq] at h
          rw [← h.2]; simp
      · have := natG_len xs _ _ _ _ h
        simp; omega
theorem natS_len (s : OctaveSource) (most : Int) : (natS s most).2.in_.length ≤ s.in_.length := by
  unfold natS natT
  split
  · simp
  · split
    · rename_i v rest h
      have := natG_len _ _ _ _ _ h
      split <;> simp <;> omega
    · simp
def valB : List UInt8 → Nat
  | [] => 0
  | x :: xs => x.toNat % 128 + 128 * valB xs
theorem valB_snoc (p : List UInt8) (x : UInt8) : valB (p ++ [x]) = valB p + x.toNat % 128 * 128 ^ p.length := by
  induction p with
  | nil => simp [valB]
  | cons y p ih =>
    simp only [List.cons_append, valB, ih, List.length_cons, Nat.pow_succ]
    rw [Nat.mul_add, Nat.add_assoc]
    congr 2
    rw [← Nat.mul_assoc, Nat.mul_comm 128, Nat.mul_assoc, Nat.mul_comm 128]
theorem natB_valB (p : List UInt8) (x : UInt8) (hp : ∀ y, y ∈ p → 128 ≤ y.toNat) (hx : x.toNat < 128) (h0 : x.toNat ≠ 0 ∨ p = []) : natB (valB (p ++ [x])) = p ++ [x] ∧ (x.toNat ≠ 0 → 1 ≤ valB (p ++ [x])) := by
  induction p with
  | nil =>
    have e : valB ([] ++ [x]) = x.toNat := by simp [valB]; omega
    rw [e, natB_lo hx]
    exact ⟨by simp, by omega⟩
  | cons y p ih =>
    have hx0 : x.toNat ≠ 0 := by
      rcases h0 with h | h
      · exact h
      · cases h
    obtain ⟨h1, h2⟩ := ih (fun z hz => hp z (by simp [hz])) (.inl hx0)
    have hy := hp y (by simp)
    have hyl := y.toNat_lt
    have h3 := h2 hx0
    have e : valB (y :: p ++ [x]) = y.toNat % 128 + 128 * valB (p ++ [x]) := rfl
    refine ⟨?_, fun _ => by rw [e]; omega⟩
    rw [e, natB_hi (by omega), show (y.toNat % 128 + 128 * valB (p ++ [x])) / 128 = valB (p ++ [x]) by omega, h1]
    rw [show 128 + (y.toNat % 128 + 128 * valB (p ++ [x])) % 128 = y.toNat by omega]
    simp
theorem natB_last (n : Nat) : ∀ (q : List UInt8) (x : UInt8), natB n = q ++ [x] → x.toNat = 0 → q = [] := by
  induction n using Nat.strongRecOn with
  | _ n ih =>
    intro q x h hx
    by_cases hn : n < 128
    · rw [natB_lo hn] at h
      cases q with
      | nil => rfl
      | cons y q => simp at h
    · rw [natB_hi hn] at h
      cases q with
      | nil => rfl
      | cons y q =>
        simp only [List.cons_append, List.cons.injEq] at h
        have hq := ih (n / 128) (by omega) q x h.2 hx
        subst hq
        have h3 : natB (n / 128) = [x] := h.2
        exfalso
        by_cases h4 : n / 128 < 128
        · rw [natB_lo h4] at h3
          have : x = UInt8.ofNat (n / 128) := by simpa using h3.symm
          rw [this] at hx
          simp at hx
          omega
        · rw [natB_hi h4] at h3
          have := natB_pos (n / 128 / 128)
          have h2 := congrArg List.length h3
          simp only [List.length_cons, List.length_nil] at h2
          omega
def takenR (s : List UInt8) (most : Int) : Int × Int :=
  match natG s 0 0 with
  | some (v, rest) => if most < (v : Int) then (0, 0) else ((v : Int), ((s.length - rest.length : Nat) : Int))
  | none => (0, 0)
theorem w128 {i : Nat} (h : i ≤ 8) : IntKind.i64.wrap ((128 ^ i : Nat) : Int) = ((128 ^ i : Nat) : Int) := by
  have := pow128_le h
  exact i64wrap _ (by omega)
theorem mulW (x : UInt8) {i : Nat} (h : i ≤ 8) : ariI .mul .i64 ((x.toNat : Int) % 128) (IntKind.i64.wrap ((128 ^ i : Nat) : Int)) = some ((x.toNat % 128 * 128 ^ i : Nat) : Int) := by
  have h1 := pow128_le h
  have h2 := Nat.mul_le_mul (show x.toNat % 128 ≤ 127 by omega) h1
  rw [w128 h]
  simp only [ariI, Option.some.injEq]
  have e : ((x.toNat : Int) % 128) * ((128 ^ i : Nat) : Int) = ((x.toNat % 128 * 128 ^ i : Nat) : Int) := by simp
  rw [e, i64wrap _ (by omega)]
theorem mul128 {i : Nat} (h : i ≤ 8) : ariI .mul .i64 (IntKind.i64.wrap ((128 ^ i : Nat) : Int)) 128 = some (IntKind.i64.wrap ((128 ^ (i + 1) : Nat) : Int)) := by
  rw [w128 h]
  simp only [ariI, Option.some.injEq]
  congr 1
theorem addW {a y : Nat} (h : a + y < 2 ^ 63) : ariI .add .i64 (a : Int) (y : Int) = some ((a + y : Nat) : Int) := by
  simp only [ariI, Option.some.injEq]
  have e : (a : Int) + (y : Int) = ((a + y : Nat) : Int) := by simp
  rw [e, i64wrap _ h]
theorem taken (s : List UInt8) (most : Int) (hs : s.length ≤ 9223372036854775807) : Fun Try.prog 82 [S s, I most] (.tuple #[I (takenR s most).1, I (takenR s most).2]) := by
  refine Ct.enter Try.func82 rfl rfl fun W => ?_
  apply Wp.seq
  apply Wp.region
  refine WpL.v (V.as) ?_
  refine WpL.v (V.as) ?_
  apply WpL.nil
  apply Out.seqN
  apply Wp.seq
  apply Wp.region
  refine WpL.v (V.as) ?_
  apply WpL.nil
  apply Out.seqN
  apply Wp.seq
  apply Wp.region
  refine WpL.v (V.as) ?_
  apply WpL.nil
  apply Out.seqN
  apply Wp.seq
  apply Wp.seq
  apply Wp.region
  refine WpL.v (V.as) ?_
  apply WpL.nil
  apply Out.seqN
  apply Wp.block
  refine Wp.lp [0, 1] (fun i : Nat => i ≤ 9 ∧ i ≤ s.length ∧ (∀ y, y ∈ s.take i → 128 ≤ y.toNat) ∧ natG s 0 0 = natG (s.drop i) i (valB (s.take i)) ∧ valB (s.take i) < 128 ^ i) (fun i => [(6, I (valB (s.take i) : Int)), (7, I (IntKind.i64.wrap ((128 ^ i : Nat) : Int))), (8, I (i : Int))]) (fun i => []) (fun i => 10 - i) 0 ⟨by omega, by omega, by simp, by simp [valB], by simp [valB]⟩ ?_
  rintro i ⟨hi, hil, hp, hg, hv⟩ K hK
  dsimp only [List.cons_append, List.nil_append]
  by_cases h9 : i < s.length ∧ i < 9
  · obtain ⟨hlt, h9⟩ := h9
    obtain ⟨x, hx⟩ : ∃ x, s[i]? = some x := ⟨_, List.getElem?_eq_getElem hlt⟩
    have hxl := x.toNat_lt
    have h1 := pow128_le (show i ≤ 8 by omega)
    have h2 := Nat.mul_le_mul (show x.toNat % 128 ≤ 127 by omega) h1
    have hB : valB (s.take i) + x.toNat % 128 * 128 ^ i < 2 ^ 63 := by omega
    have ht : s.take (i + 1) = s.take i ++ [x] := by rw [List.take_add_one, hx]; rfl
    have hd : s.drop i = x :: s.drop (i + 1) := by rw [List.drop_eq_getElem_cons hlt]; congr 1; simpa [hlt] using hx
    have htl : (s.take i).length = i := by rw [List.length_take]; omega
    have hvs : valB (s.take (i + 1)) = valB (s.take i) + x.toNat % 128 * 128 ^ i := by rw [ht, valB_snoc, htl]
    have hg2 : natG s 0 0 = if x.toNat < 128 then (if x.toNat = 0 ∧ 0 < i then none else some (valB (s.take i) + x.toNat % 128 * 128 ^ i, s.drop (i + 1))) else natG (s.drop (i + 1)) (i + 1) (valB (s.take i) + x.toNat % 128 * 128 ^ i) := by
      rw [hg, hd]
      simp only [natG]
      rw [if_neg (by omega)]
    have hcan : x.toNat < 128 → (natI ((valB (s.take i) + x.toNat % 128 * 128 ^ i : Nat) : Int) = s.take (i + 1) ↔ ¬ (x.toNat = 0 ∧ 0 < i)) := fun hx8 => by
      unfold natI
      rw [Int.toNat_natCast, ← hvs, ht]
      constructor
      · intro h ⟨h0, hi0⟩
        have := natB_last _ _ _ h h0
        rw [this] at htl; simp at htl; omega
      · intro h
        refine (natB_valB _ x hp hx8 ?_).1
        by_cases h0 : x.toNat = 0
        · right
          have : i = 0 := by omega
          subst this; rfl
        · exact .inl h0
    apply Wp.seq
    apply Wp.seq
    apply Wp.region
    refine WpL.v (V.mv) ?_
    refine WpL.v (V.mv) ?_
    refine WpL.v (V.lenS tb) ?_
    refine WpL.v (V.cmp) ?_
    refine WpL.v (V.mv) ?_
    refine WpL.pt (fun hb0 => ?_) (fun hb0 => ?_)
    (try simp only [decide_eq_true_eq, decide_eq_false_iff_not, Bool.not_eq_true', Bool.not_eq_false', Bool.not_eq_true, Bool.not_eq_false, not_true_eq_false, not_false_eq_true, reduceCtorEq] at hb0)
    refine WpL.v (V.mv) ?_
    refine WpL.v (V.cmp) ?_
    refine WpL.v (V.pT) ?_
    apply WpL.nil
    apply Out.seqN
    refine Wp.c (fun hb1 => ?_) (fun hb1 => ?_)
    (try simp only [decide_eq_true_eq, decide_eq_false_iff_not, Bool.not_eq_true', Bool.not_eq_false', Bool.not_eq_true, Bool.not_eq_false, not_true_eq_false, not_false_eq_true, reduceCtorEq] at hb1)
    apply Wp.skip
    apply Out.seqN
    apply Wp.seq
    apply Wp.block
    apply Wp.seq
    apply Wp.region
    refine WpL.v (V.mv) ?_
    refine WpL.v (V.mv) ?_
    refine WpL.v (V.mv) ?_
    refine WpL.v (V.ixN tb rfl rfl (by assumption)) ?_
    refine WpL.v (V.cvE tb rfl rfl (i64wrap _ (by omega))) ?_
    refine WpL.v (V.rem) ?_
    refine WpL.v (V.mv) ?_
    refine WpL.v (V.ariE rfl rfl (mulW x (by omega))) ?_
    refine WpL.v (V.ariE rfl rfl (addW hB)) ?_
    refine WpL.v (V.as) ?_
    apply WpL.nil
    apply Out.seqN
    apply Wp.seq
    apply Wp.seq
    apply Wp.region
    refine WpL.v (V.mv) ?_
    refine WpL.v (V.mv) ?_
    refine WpL.v (V.ixN tb rfl rfl (by assumption)) ?_
    refine WpL.v (V.cmp) ?_
    apply WpL.nil
    apply Out.seqN
    refine Wp.c (fun hb2 => ?_) (fun hb2 => ?_)
    (try simp only [decide_eq_true_eq, decide_eq_false_iff_not, Bool.not_eq_true', Bool.not_eq_false', Bool.not_eq_true, Bool.not_eq_false, not_true_eq_false, not_false_eq_true, reduceCtorEq] at hb2)
    apply Wp.seq
    apply Wp.seq
    refine Wp.dG [] ?_ List.Sublist.slnil List.Sublist.slnil
    refine WpA.tF 0 rfl (V.mv) ?_
    refine WpA.tF 1 rfl (V.mv) ?_
    refine WpA.tF 2 rfl (V.cmp) ?_
    refine WpA.tF 3 rfl (V.mv) ?_
    refine WpA.pt 35 (fun hb3 => ?_) (fun hb3 => ?_)
    (try simp only [decide_eq_true_eq, decide_eq_false_iff_not, Bool.not_eq_true', Bool.not_eq_false', Bool.not_eq_true, Bool.not_eq_false, not_true_eq_false, not_false_eq_true, reduceCtorEq] at hb3)
    refine WpA.s 4 rfl ?_
    refine WpA.s 5 rfl ?_
    refine WpA.s 6 rfl ?_
    refine WpA.s 7 rfl ?_
    refine WpA.s 8 rfl ?_
    refine WpA.s 9 rfl ?_
    refine WpA.s 10 rfl ?_
    refine WpA.tF 11 rfl (V.pT) ?_
    refine WpA.ou ?_
    apply Out.seqN
    refine Wp.cT ?_
    apply Wp.seq
    apply Wp.region
    refine WpL.v (V.as) ?_
    refine WpL.v (V.as) ?_
    apply WpL.nil
    apply Out.seqN
    apply Wp.ret
    apply Out.seqR
    apply Out.seqR
    apply Out.blockR
    apply Out.seqR
    apply Out.seqR
    apply Out.blockR
    apply Out.seqR
    refine Out.f2 rfl ResIs.t ResIs.t ⟨?_, rfl⟩
    rotate_left
    (try simp only [decide_eq_true_eq, decide_eq_false_iff_not, Bool.not_eq_true', Bool.not_eq_false', Bool.not_eq_true, Bool.not_eq_false, not_true_eq_false, not_false_eq_true, reduceCtorEq] at hb3)
    refine WpA.tF 4 rfl (V.mv) ?_
    refine WpA.tF 6 rfl (V.mv) ?_
    refine WpA.tF 7 rfl (V.mv) ?_
    refine WpA.tF 8 rfl (V.add) ?_
    refine WpA.tF 9 rfl (V.slHi tb) ?_
    refine WpA.oS 5 rfl (Op1.fn rfl (refNat _ ?_) ⟨?_, ?_, ?_⟩)
    (first | with_reducible assumption | omega | (simp only [List.length_append, List.length_cons, List.length_nil, List.length_map] at *; omega) | (focus (simp; done)))
    exact holdT
    exact holdT
    refine WpA.tF 10 rfl (V.cmpS) ?_
    refine WpA.tF 11 rfl (V.pF) ?_
    refine WpA.ou ?_
    apply Out.seqN
    refine Wp.c (fun hb4 => ?_) (fun hb4 => ?_)
    (try simp only [decide_eq_true_eq, decide_eq_false_iff_not, Bool.not_eq_true', Bool.not_eq_false', Bool.not_eq_true, Bool.not_eq_false, not_true_eq_false, not_false_eq_true, reduceCtorEq] at hb4)
    apply Wp.seq
    apply Wp.region
    refine WpL.v (V.as) ?_
    refine WpL.v (V.as) ?_
    apply WpL.nil
    apply Out.seqN
    apply Wp.ret
    apply Out.seqR
    apply Out.seqR
    apply Out.blockR
    apply Out.seqR
    apply Out.seqR
    apply Out.blockR
    apply Out.seqR
    refine Out.f2 rfl ResIs.t ResIs.t ⟨?_, rfl⟩
    rotate_left
    (try simp only [decide_eq_true_eq, decide_eq_false_iff_not, Bool.not_eq_true', Bool.not_eq_false', Bool.not_eq_true, Bool.not_eq_false, not_true_eq_false, not_false_eq_true, reduceCtorEq] at hb4)
    apply Wp.skip
    apply Out.seqN
    apply Wp.seq
    apply Wp.region
    refine WpL.v (V.mv) ?_
    refine WpL.v (V.mv) ?_
    refine WpL.v (V.add) ?_
    refine WpL.v (V.as) ?_
    refine WpL.v (V.as) ?_
    apply WpL.nil
    apply Out.seqN
    apply Wp.ret
    apply Out.seqR
    apply Out.blockR
    apply Out.seqR
    apply Out.seqR
    apply Out.blockR
    apply Out.seqR
    refine Out.f2 rfl ResIs.t ResIs.t ⟨?_, rfl⟩
    rotate_left
    (try simp only [decide_eq_true_eq, decide_eq_false_iff_not, Bool.not_eq_true', Bool.not_eq_false', Bool.not_eq_true, Bool.not_eq_false, not_true_eq_false, not_false_eq_true, reduceCtorEq] at hb2)
    apply Wp.skip
    apply Out.seqN
    apply Wp.region
    refine WpL.v (V.mv) ?_
    refine WpL.v (V.ariE rfl rfl (mul128 (by omega))) ?_
    refine WpL.v (V.as) ?_
    apply WpL.nil
    apply Out.blockN
    apply Out.seqN
    apply Wp.region
    refine WpL.v (V.mv) ?_
    refine WpL.v (V.add) ?_
    refine WpL.v (V.as) ?_
    apply WpL.nil
    rotate_left
    (try simp only [decide_eq_true_eq, decide_eq_false_iff_not, Bool.not_eq_true', Bool.not_eq_false', Bool.not_eq_true, Bool.not_eq_false, not_true_eq_false, not_false_eq_true, reduceCtorEq] at hb1)
    (exfalso; omega)
    (try simp only [decide_eq_true_eq, decide_eq_false_iff_not, Bool.not_eq_true', Bool.not_eq_false', Bool.not_eq_true, Bool.not_eq_false, not_true_eq_false, not_false_eq_true, reduceCtorEq] at hb0)
    (exfalso; omega)
    · unfold takenR
      rw [hg2, if_pos (by omega)]
      split
      · rename_i h; split at h
        · cases h
        · simp only [Option.some.injEq, Prod.mk.injEq] at h
          rw [← h.1, if_pos (by assumption)]
      · rfl
    · have hc : x.toNat = 0 ∧ 0 < i := by
        by_cases hz : x.toNat = 0 ∧ 0 < i
        · exact hz
        · exact absurd ((hcan (by omega)).2 hz) (by assumption)
      unfold takenR
      rw [hg2, if_pos (by omega), if_pos (by omega)]
    · have hc := (hcan (by omega)).1 (by assumption)
      unfold takenR
      rw [hg2, if_pos (by omega), if_neg hc]
      simp only
      rw [if_neg (by assumption)]
      have : s.length - (s.drop (i + 1)).length = i + 1 := by rw [List.length_drop]; omega
      rw [this]
      rfl
    · refine Out.ag hK (i + 1) ⟨by omega, by omega, ?_, ?_, ?_⟩ (by omega) (he := ?_)
      · intro y hy
        rw [ht] at hy
        rcases List.mem_append.1 hy with hy | hy
        · exact hp y hy
        · have : y = x := by simpa using hy
          subst this; omega
      · rw [hg2, if_neg (by omega), hvs]
      · rw [hvs, Nat.pow_succ]
        have h3 := Nat.mul_le_mul_right (128 ^ i) (show x.toNat % 128 + 1 ≤ 128 by omega)
        rw [Nat.add_mul] at h3
        omega
      · dsimp only [List.cons_append, List.nil_append]
        rw [hvs]
        exact subEnv.cons rfl rfl (subEnv.cons rfl rfl (subEnv.cons rfl rfl (subEnv.cons rfl rfl (subEnv.cons rfl rfl subEnv.nil))))
  · have hno : takenR s most = (0, 0) := by
      unfold takenR
      rw [hg]
      by_cases h1 : i < s.length
      · rw [List.drop_eq_getElem_cons h1]
        simp only [natG]
        rw [if_pos (by omega)]
      · rw [List.drop_of_length_le (by omega)]
        rfl
    apply Wp.seq
    apply Wp.seq
    apply Wp.region
    refine WpL.v (V.mv) ?_
    refine WpL.v (V.mv) ?_
    refine WpL.v (V.lenS tb) ?_
    refine WpL.v (V.cmp) ?_
    refine WpL.v (V.mv) ?_
    refine WpL.pt (fun hc0 => ?_) (fun hc0 => ?_)
    (try simp only [decide_eq_true_eq, decide_eq_false_iff_not, Bool.not_eq_true', Bool.not_eq_false', Bool.not_eq_true, Bool.not_eq_false, not_true_eq_false, not_false_eq_true, reduceCtorEq] at hc0)
    refine WpL.v (V.mv) ?_
    refine WpL.v (V.cmp) ?_
    refine WpL.v (V.pT) ?_
    apply WpL.nil
    apply Out.seqN
    refine Wp.c (fun hc1 => ?_) (fun hc1 => ?_)
    (try simp only [decide_eq_true_eq, decide_eq_false_iff_not, Bool.not_eq_true', Bool.not_eq_false', Bool.not_eq_true, Bool.not_eq_false, not_true_eq_false, not_false_eq_true, reduceCtorEq] at hc1)
    (exfalso; omega)
    (try simp only [decide_eq_true_eq, decide_eq_false_iff_not, Bool.not_eq_true', Bool.not_eq_false', Bool.not_eq_true, Bool.not_eq_false, not_true_eq_false, not_false_eq_true, reduceCtorEq] at hc1)
    apply Wp.exit
    apply Out.seqE
    apply Out.seqE
    apply Out.blockE
    apply Out.seqN
    apply Wp.seq
    apply Wp.region
    refine WpL.v (V.as) ?_
    refine WpL.v (V.as) ?_
    apply WpL.nil
    apply Out.seqN
    apply Wp.ret
    refine Out.f2 rfl ResIs.t ResIs.t ⟨?_, rfl⟩
    rotate_left
    (try simp only [decide_eq_true_eq, decide_eq_false_iff_not, Bool.not_eq_true', Bool.not_eq_false', Bool.not_eq_true, Bool.not_eq_false, not_true_eq_false, not_false_eq_true, reduceCtorEq] at hc0)
    refine WpL.sk ?_
    refine WpL.sk ?_
    refine WpL.v (V.pF) ?_
    apply WpL.nil
    apply Out.seqN
    refine Wp.cF ?_
    apply Wp.exit
    apply Out.seqE
    apply Out.seqE
    apply Out.blockE
    apply Out.seqN
    apply Wp.seq
    apply Wp.region
    refine WpL.v (V.as) ?_
    refine WpL.v (V.as) ?_
    apply WpL.nil
    apply Out.seqN
    apply Wp.ret
    refine Out.f2 rfl ResIs.t ResIs.t ⟨?_, rfl⟩
    rotate_left
    all_goals rw [hno]
theorem natG_lt : ∀ (l : List UInt8) (i acc v : Nat) (rest : List UInt8), natG l i acc = some (v, rest) → rest.length < l.length
  | [], _, _, _, _, h => by simp [natG] at h
  | x :: xs, i, acc, v, rest, h => by
    simp only [natG] at h
    split at h
    · cases h
    · split at h
      · split at h
        · cases h
        · simp only [Option.some.injEq, Prod.mk.injEq] at h
          rw [← h.2]; simp
      · have := natG_lt xs _ _ _ _ h
        simp; omega
theorem natG_natB (n : Nat) : ∀ (i acc : Nat) (rest : List UInt8), n < 128 ^ (9 - i) → (n ≠ 0 ∨ i = 0) → natG (natB n ++ rest) i acc = some (acc + n * 128 ^ i, rest) := by
  induction n using Nat.strongRecOn with
  | _ n ih =>
    intro i acc rest hn h0
    have hi : i ≤ 8 := by
      rcases Nat.lt_or_ge 8 i with h | h
      · rw [show 9 - i = 0 by omega] at hn
        simp at hn; omega
      · exact h
    by_cases hl : n < 128
    · rw [natB_lo hl]
      have e : (UInt8.ofNat n).toNat = n := by simp; omega
      simp only [List.cons_append, List.nil_append, natG, e]
      rw [if_neg (by omega), if_pos hl, if_neg (by omega), Nat.mod_eq_of_lt hl]
    · rw [natB_hi hl]
      have e : (UInt8.ofNat (128 + n % 128)).toNat = 128 + n % 128 := by simp; omega
      simp only [List.cons_append, natG, e]
      have hi7 : i ≤ 7 := by
        rcases Nat.lt_or_ge 7 i with h | h
        · rw [show 9 - i = 1 by omega] at hn; omega
        · exact h
      rw [if_neg (by omega), if_neg (by omega), ih (n / 128) (by omega) (i + 1) _ rest (by
        have e2 : 9 - i = (9 - (i + 1)) + 1 := by omega
        rw [e2, Nat.pow_succ] at hn
        exact Nat.div_lt_of_lt_mul (by omega)) (.inl (by omega))]
      congr 2
      rw [show (128 + n % 128) % 128 = n % 128 by omega, Nat.pow_succ, Nat.add_assoc, Nat.mul_comm (128 ^ i) 128, ← Nat.mul_assoc, ← Nat.add_mul]
      congr 2
      omega
theorem natS_natI {n : Int} (hn : n ≤ 9223372036854775807) (rest : List UInt8) (most : Int) : natS ⟨natI n ++ rest, false⟩ most = if most < (n.toNat : Int) then (0, ⟨[], true⟩) else ((n.toNat : Int), ⟨rest, false⟩) := by
  unfold natS natT natI
  rw [natG_natB n.toNat 0 0 rest (by omega) (.inr rfl)]
  simp
theorem natS_taken (b : List UInt8) (most : Int) : (natS ⟨b, false⟩ most).1 = (takenR b most).1 ∧ (natS ⟨b, false⟩ most).2.dry = decide ((takenR b most).2 = 0) := by
  unfold natS natT takenR
  cases h : natG b 0 0 with
  | none => simp
  | some p =>
    obtain ⟨v, rest⟩ := p
    have := natG_lt _ _ _ _ _ h
    simp only [Bool.false_eq_true, if_false]
    split
    · simp
    · refine ⟨rfl, ?_⟩
      simp
      omega
theorem natG_suf : ∀ (l : List UInt8) (i acc v : Nat) (rest : List UInt8), natG l i acc = some (v, rest) → ∃ p, l = p ++ rest ∧ 0 < p.length
  | [], _, _, _, _, h => by simp [natG] at h
  | x :: xs, i, acc, v, rest, h => by
    simp only [natG] at h
    split at h
    · cases h
    · split at h
      · split at h
        · cases h
        · simp only [Option.some.injEq, Prod.mk.injEq] at h
          exact ⟨[x], by rw [← h.2]; rfl, by simp⟩
      · obtain ⟨p, hp, _⟩ := natG_suf xs _ _ _ _ h
        exact ⟨x :: p, by rw [hp]; rfl, by simp⟩
theorem taken_law (b : List UInt8) (m : Int) : (takenR b m = (0, 0) ∧ natS ⟨b, false⟩ m = (0, ⟨[], true⟩)) ∨ ∃ (v : Nat) (p rest : List UInt8), b = p ++ rest ∧ 0 < p.length ∧ (v : Int) ≤ m ∧ takenR b m = ((v : Int), (p.length : Int)) ∧ natS ⟨b, false⟩ m = ((v : Int), ⟨rest, false⟩) := by
  unfold natS natT takenR
  cases h : natG b 0 0 with
  | none => left; simp
  | some q =>
    obtain ⟨v, rest⟩ := q
    obtain ⟨p, hp, h0⟩ := natG_suf _ _ _ _ _ h
    by_cases hv : m < (v : Int)
    · left; simp [hv]
    · right
      refine ⟨v, p, rest, hp, h0, by omega, ?_, ?_⟩
      · simp only [if_neg hv]
        rw [hp]; simp
      · simp [hv]
theorem natS_dry (m : Int) : natS ⟨[], true⟩ m = (0, ⟨[], true⟩) := by simp [natS, natT]
theorem rawS_dry (n : Int) : rawS ⟨[], true⟩ n = ([], ⟨[], true⟩) := by simp [rawS]
end Go.Proofs.Ytgbflapcadlelaa
