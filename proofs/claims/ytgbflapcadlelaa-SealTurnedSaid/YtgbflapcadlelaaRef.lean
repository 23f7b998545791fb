/-
  Layer 6: the document's sum.
-/
import Derived.Test.YtgbflapcadlelaaCrc
namespace Go.Proofs.Ytgbflapcadlelaa
open Go.HL
set_option linter.unusedSimpArgs false
set_option linter.unusedVariables false
set_option maxRecDepth 8000
theorem shrK (m k : Nat) (hk : k < 8) : (m : Int).fdiv (2 ^ (Min.min ((k : Int)).toNat IntKind.u32.bits)) = ((m / 2 ^ k : Nat) : Int) := by
  have e : Min.min ((k : Int)).toNat IntKind.u32.bits = k := by
    have : IntKind.u32.bits = 32 := rfl
    omega
  rw [e, Int.fdiv_eq_ediv_of_nonneg _ (by exact Int.le_of_lt (Int.pow_pos (by decide)))]
  simp
theorem refA_lt {b c k : Nat} (h : c < 4294967296) : refA b c k < 4294967296 := by
  unfold refA poly
  split
  · exact xor32 (by omega) (by omega)
  · omega
theorem itR_lt {b c : Nat} (h : c < 4294967296) : ∀ k, itR b k c < 4294967296
  | 0 => h
  | k + 1 => refA_lt (itR_lt h k)
theorem quo2 {c : Nat} (h : c < 4294967296) : IntKind.u32.wrap ((c : Int).tdiv 2) = ((c / 2 : Nat) : Int) := by
  rw [show (c : Int).tdiv 2 = ((c / 2 : Nat) : Int) by rw [Int.tdiv_eq_ediv_of_nonneg (by omega)]; omega]
  exact u32wrap _ (by omega)
theorem V.quoE {P : Go.Program} {n : Fm} {dst : Nat} {env : Env} {σ : List Ent} {ty : Go.TypeId} {pos : String} {af : Array Go.Edge} {gd : Option (Nat × Bool)} {t ty' : Nat} {x y : Go.Operand} {k : Go.IntKind} {p q u : Int} (hx : ev env x = some (.int k p)) (hy : ev env y = some (.int k q)) (hu : k.wrap (p.tdiv q) = u) (hb : q ≠ 0 := by first | omega | decide) : Val P n env σ ⟨some dst, .binOp .quo t x y ty', ty, pos, af, gd⟩ (.int k u) := hu ▸ V.quoT hx hy hb
theorem V.remE {P : Go.Program} {n : Fm} {dst : Nat} {env : Env} {σ : List Ent} {ty : Go.TypeId} {pos : String} {af : Array Go.Edge} {gd : Option (Nat × Bool)} {t ty' : Nat} {x y : Go.Operand} {k : Go.IntKind} {p q u : Int} (hx : ev env x = some (.int k p)) (hy : ev env y = some (.int k q)) (hu : p % q = u) (hb : 0 ≤ p ∧ 1 ≤ q := by omega) : Val P n env σ ⟨some dst, .binOp .rem t x y ty', ty, pos, af, gd⟩ (.int k u) := hu ▸ V.rem hx hy hb
theorem V.remN {P : Go.Program} {n : Fm} {dst : Nat} {env : Env} {σ : List Ent} {ty : Go.TypeId} {pos : String} {af : Array Go.Edge} {gd : Option (Nat × Bool)} {t ty' : Nat} {x y : Go.Operand} {k : Go.IntKind} {c : Nat} (hx : ev env x = some (.int k (c : Int))) (hy : ev env y = some (.int k 2)) : Val P n env σ ⟨some dst, .binOp .rem t x y ty', ty, pos, af, gd⟩ (.int k ((c % 2 : Nat) : Int)) := by
  have := V.rem (P := P) (n := n) (env := env) (σ := σ) (dst := dst) (ty := ty) (pos := pos) (af := af) (gd := gd) (t := t) (ty' := ty') hx hy ⟨Int.natCast_nonneg _, by decide⟩
  rwa [show (c : Int) % 2 = ((c % 2 : Nat) : Int) by omega] at this
theorem subB {c : Nat} (h : c < 4294967296) : ariI .sub .u32 4294967295 (c : Int) = some ((4294967295 - c : Nat) : Int) := by
  simp only [ariI, Option.some.injEq]
  rw [show (4294967295 : Int) - (c : Int) = ((4294967295 - c : Nat) : Int) by omega]
  exact u32wrap _ (by omega)
theorem rem2 (c : Nat) : (c : Int) % 2 = ((c % 2 : Nat) : Int) := by omega
theorem kwrap (k : Nat) (h : k < 8) : IntKind.u64.wrap (k : Int) = (k : Int) := by
  simp only [IntKind.wrap, IntKind.signed, IntKind.bits]
  simp
  omega
theorem refSum (s : List UInt8) (hs : s.length ≤ 9223372036854775807) : Fun Try.prog 22 [S s] (.int .u32 ((4294967295 - sumF 4294967295 s : Nat) : Int)) := by
  refine Ct.enter Try.func22 rfl rfl fun W => ?_
  apply Wp.seq
  apply Wp.region
  refine WpL.v (V.as) ?_
  apply WpL.nil
  apply Out.seqN
  apply Wp.seq
  apply Wp.region
  refine WpL.v (V.as) ?_
  apply WpL.nil
  apply Out.seqN
  apply Wp.seq
  apply Wp.seq
  apply Wp.region
  refine WpL.v (V.as) ?_
  apply WpL.nil
  apply Out.seqN
  apply Wp.block
  refine Wp.lp [0] (fun i : Nat => i ≤ s.length) (fun i => [(4, I (i : Int)), (3, .int .u32 (sumF 4294967295 (s.take i) : Int))]) (fun i => []) (fun i => s.length - i) 0 (Nat.zero_le _) ?_
  rintro i hi K hK
  dsimp only [List.cons_append, List.nil_append]
  have hc : sumF 4294967295 (s.take i) < 4294967296 := sumF_lt (by decide) _
  by_cases hlt : i < s.length
  · obtain ⟨x, hx⟩ := getS hlt
    have e2 := sumF_snoc 4294967295 hx
    rw [stepN_ref _ _ x.toNat_lt] at e2
    apply Wp.seq
    apply Wp.seq
    apply Wp.region
    refine WpL.v (V.mv) ?_
    refine WpL.v (V.mv) ?_
    refine WpL.v (V.lenS tb) ?_
    refine WpL.v (V.cmp) ?_
    apply WpL.nil
    apply Out.seqN
    refine Wp.c (fun hb0 => ?_) (fun hb0 => ?_)
    (try simp only [decide_eq_true_eq, decide_eq_false_iff_not, Bool.not_eq_true', Bool.not_eq_false', Bool.not_eq_true, Bool.not_eq_false, not_true_eq_false, not_false_eq_true, reduceCtorEq] at hb0)
    apply Wp.skip
    apply Out.seqN
    apply Wp.seq
    apply Wp.block
    apply Wp.seq
    apply Wp.region
    refine WpL.v (V.as) ?_
    apply WpL.nil
    apply Out.seqN
    apply Wp.block
    rotate_left
    (try simp only [decide_eq_true_eq, decide_eq_false_iff_not, Bool.not_eq_true', Bool.not_eq_false', Bool.not_eq_true, Bool.not_eq_false, not_true_eq_false, not_false_eq_true, reduceCtorEq] at hb0)
    (exfalso; omega)
    refine Wp.lp [0, 4] (fun k : Nat => k ≤ 8) (fun k => [(5, I (k : Int)), (3, .int .u32 (itR x.toNat k (sumF 4294967295 (s.take i)) : Int))]) (fun k => []) (fun k => 8 - k) 0 (Nat.zero_le _) ?_
    rintro k hk L hL
    dsimp only [List.cons_append, List.nil_append]
    have hd := itR_lt (b := x.toNat) hc k
    have e1 : itR x.toNat (k + 1) (sumF 4294967295 (s.take i)) = refA x.toNat (itR x.toNat k (sumF 4294967295 (s.take i))) k := rfl
    by_cases hk8 : k < 8
    · have hxl := x.toNat_lt
      rw [refA] at e1
      apply Wp.seq
      apply Wp.seq
      apply Wp.region
      refine WpL.v (V.mv) ?_
      refine WpL.v (V.cmp) ?_
      apply WpL.nil
      apply Out.seqN
      refine Wp.c (fun hc0 => ?_) (fun hc0 => ?_)
      (try simp only [decide_eq_true_eq, decide_eq_false_iff_not, Bool.not_eq_true', Bool.not_eq_false', Bool.not_eq_true, Bool.not_eq_false, not_true_eq_false, not_false_eq_true, reduceCtorEq] at hc0)
      apply Wp.skip
      apply Out.seqN
      apply Wp.seq
      apply Wp.block
      apply Wp.seq
      apply Wp.region
      refine WpL.v (V.mv) ?_
      refine WpL.v (V.mv) ?_
      refine WpL.v (V.ixS tb rfl rfl (by omega) hx) ?_
      refine WpL.v (V.cvE tb rfl rfl (u32wrap _ (by omega))) ?_
      refine WpL.v (V.mv) ?_
      refine WpL.v (V.cvE tb rfl rfl (kwrap _ hk8)) ?_
      refine WpL.v (V.shrE rfl rfl (shrK _ _ hk8)) ?_
      refine WpL.v (V.remN rfl rfl) ?_
      refine WpL.v (V.as) ?_
      apply WpL.nil
      apply Out.seqN
      apply Wp.seq
      apply Wp.region
      refine WpL.v (V.mv) ?_
      refine WpL.v (V.remN rfl rfl) ?_
      refine WpL.v (V.as) ?_
      apply WpL.nil
      apply Out.seqN
      apply Wp.seq
      apply Wp.region
      refine WpL.v (V.mv) ?_
      refine WpL.v (V.quoE rfl rfl (quo2 hd)) ?_
      refine WpL.v (V.as) ?_
      apply WpL.nil
      apply Out.seqN
      apply Wp.seq
      apply Wp.region
      refine WpL.v (V.mv) ?_
      refine WpL.v (V.mv) ?_
      refine WpL.v (V.cmp) ?_
      apply WpL.nil
      apply Out.seqN
      refine Wp.c (fun hc1 => ?_) (fun hc1 => ?_)
      (try simp only [decide_eq_true_eq, decide_eq_false_iff_not, Bool.not_eq_true', Bool.not_eq_false', Bool.not_eq_true, Bool.not_eq_false, not_true_eq_false, not_false_eq_true, reduceCtorEq] at hc1)
      apply Wp.region
      refine WpL.v (V.mv) ?_
      refine WpL.v (V.bitE rfl rfl (xorP (by omega))) ?_
      refine WpL.v (V.as) ?_
      apply WpL.nil
      apply Out.blockN
      apply Out.seqN
      apply Wp.region
      refine WpL.v (V.mv) ?_
      refine WpL.v (V.add) ?_
      refine WpL.v (V.as) ?_
      apply WpL.nil
      rotate_left
      (try simp only [decide_eq_true_eq, decide_eq_false_iff_not, Bool.not_eq_true', Bool.not_eq_false', Bool.not_eq_true, Bool.not_eq_false, not_true_eq_false, not_false_eq_true, reduceCtorEq] at hc1)
      apply Wp.skip
      apply Out.blockN
      apply Out.seqN
      apply Wp.region
      refine WpL.v (V.mv) ?_
      refine WpL.v (V.add) ?_
      refine WpL.v (V.as) ?_
      apply WpL.nil
      rotate_left
      (try simp only [decide_eq_true_eq, decide_eq_false_iff_not, Bool.not_eq_true', Bool.not_eq_false', Bool.not_eq_true, Bool.not_eq_false, not_true_eq_false, not_false_eq_true, reduceCtorEq] at hc0)
      (exfalso; omega)
      · rw [if_pos (by omega)] at e1
        rw [← e1]
        exact Out.ag hL (k + 1) (by omega) (by omega)
      · rw [if_neg (by omega)] at e1
        rw [← e1]
        exact Out.ag hL (k + 1) (by omega) (by omega)
    · obtain rfl : k = 8 := by omega
      rw [← e2]
      apply Wp.seq
      apply Wp.seq
      apply Wp.region
      refine WpL.v (V.mv) ?_
      refine WpL.v (V.cmp) ?_
      apply WpL.nil
      apply Out.seqN
      refine Wp.cF ?_
      apply Wp.exit
      apply Out.seqE
      apply Out.seqE
      apply Out.blockE
      apply Out.blockN
      apply Out.seqN
      apply Wp.region
      refine WpL.v (V.mv) ?_
      refine WpL.v (V.add) ?_
      refine WpL.v (V.as) ?_
      apply WpL.nil
      exact Out.ag hK (i + 1) (by omega) (by omega)
  · obtain rfl : i = s.length := by omega
    rw [List.take_length] at *
    apply Wp.seq
    apply Wp.seq
    apply Wp.region
    refine WpL.v (V.mv) ?_
    refine WpL.v (V.mv) ?_
    refine WpL.v (V.lenS tb) ?_
    refine WpL.v (V.cmp) ?_
    apply WpL.nil
    apply Out.seqN
    refine Wp.c (fun he0 => ?_) (fun he0 => ?_)
    (try simp only [decide_eq_true_eq, decide_eq_false_iff_not, Bool.not_eq_true', Bool.not_eq_false', Bool.not_eq_true, Bool.not_eq_false, not_true_eq_false, not_false_eq_true, reduceCtorEq] at he0)
    (exfalso; omega)
    (try simp only [decide_eq_true_eq, decide_eq_false_iff_not, Bool.not_eq_true', Bool.not_eq_false', Bool.not_eq_true, Bool.not_eq_false, not_true_eq_false, not_false_eq_true, reduceCtorEq] at he0)
    apply Wp.exit
    apply Out.seqE
    apply Out.seqE
    apply Out.blockE
    apply Out.seqN
    apply Wp.seq
    apply Wp.region
    refine WpL.v (V.mv) ?_
    refine WpL.v (V.ariE rfl rfl (subB hc)) ?_
    refine WpL.v (V.as) ?_
    apply WpL.nil
    apply Out.seqN
    apply Wp.ret
    refine Out.f1 rfl ResIs.t ⟨?_, rfl⟩
    exact rfl
end Go.Proofs.Ytgbflapcadlelaa
