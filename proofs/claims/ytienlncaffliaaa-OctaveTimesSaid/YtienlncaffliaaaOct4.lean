/-
  Layer 1: nil sources; what a source gives of any bytes.
-/
import Derived.Test.YtienlncaffliaaaOct3
namespace Go.Proofs.Ytienlncaffliaaa
open Go.HL
set_option linter.unusedSimpArgs false
set_option linter.unusedVariables false
set_option maxRecDepth 8000
theorem srcNatN (n : Int) : Fun Try.prog 40 [.pointer none, I n] (I 0) := by
  refine Ct.enter Try.func40 rfl rfl fun W => ?_
  apply Wp.seq
  apply Wp.region
  refine WpL.v (V.as) ?_
  apply WpL.nil
  apply Out.seqN
  apply Wp.seq
  apply Wp.region
  refine WpL.v (V.as) ?_
  apply WpL.nil
  apply Out.seqN
  apply Wp.seq
  apply Wp.region
  refine WpL.v (V.as) ?_
  apply WpL.nil
  apply Out.seqN
  apply Wp.block
  refine Wp.lp [0, 1] (fun k : Nat => True) (fun k => [(5, .int .u64 0), (6, I 0)]) (fun k => []) (fun k => k) 0 trivial ?_
  rintro k - K hK
  dsimp only [List.cons_append, List.nil_append]
  apply Wp.seq
  apply Wp.block
  apply Wp.seq
  apply Wp.region
  refine WpL.v (V.mv) ?_
  refine WpL.o (Op1.fn rfl (srcRawN _) ?_)
  refine WpL.v (V.as) ?_
  apply WpL.nil
  apply Out.seqN
  apply Wp.seq
  apply Wp.seq
  apply Wp.region
  refine WpL.v (V.mv) ?_
  refine WpL.v (V.cmpS) ?_
  refine WpL.v (V.mv) ?_
  refine WpL.sk ?_
  refine WpL.sk ?_
  refine WpL.v (V.pT) ?_
  apply WpL.nil
  apply Out.seqN
  refine Wp.cT ?_
  apply Wp.seq
  apply Wp.region
  refine WpL.v (V.mv) ?_
  refine WpL.o (Op1.fn rfl (srcStopN) ?_)
  apply WpL.nil
  apply Out.seqN
  apply Wp.seq
  apply Wp.region
  refine WpL.v (V.as) ?_
  apply WpL.nil
  apply Out.seqN
  apply Wp.ret
  apply Out.seqR
  apply Out.blockR
  apply Out.seqR
  apply Out.seqR
  apply Out.blockR
  refine Out.f1 rfl ResIs.t ⟨?_, rfl⟩
  exact rfl
theorem srcBitN : Fun Try.prog 44 [.pointer none] (B false) := by
  refine Ct.enter Try.func44 rfl rfl fun W => ?_
  apply Wp.seq
  apply Wp.region
  refine WpL.v (V.as) ?_
  apply WpL.nil
  apply Out.seqN
  apply Wp.seq
  apply Wp.region
  refine WpL.v (V.mv) ?_
  refine WpL.o (Op1.fn rfl (srcNatN _) ?_)
  refine WpL.v (V.cmp) ?_
  refine WpL.v (V.as) ?_
  apply WpL.nil
  apply Out.seqN
  apply Wp.ret
  refine Out.f1 rfl ResIs.t ⟨?_, rfl⟩
  exact rfl
theorem srcTextN (n : Int) : Fun Try.prog 45 [.pointer none, I n] (S []) := by
  refine Ct.enter Try.func45 rfl rfl fun W => ?_
  apply Wp.seq
  apply Wp.region
  refine WpL.v (V.as) ?_
  apply WpL.nil
  apply Out.seqN
  apply Wp.seq
  apply Wp.region
  refine WpL.v (V.mv) ?_
  refine WpL.v (V.mv) ?_
  refine WpL.v (V.mv) ?_
  refine WpL.o (Op1.fn rfl (srcNatN _) ?_)
  refine WpL.o (Op1.fn rfl (srcRawN _) ?_)
  refine WpL.v (V.as) ?_
  apply WpL.nil
  apply Out.seqN
  apply Wp.ret
  refine Out.f1 rfl ResIs.t ⟨?_, rfl⟩
  exact rfl
theorem srcDryN : Fun Try.prog 42 [.pointer none] (B true) := by
  refine Ct.enter Try.func42 rfl rfl fun W => ?_
  apply Wp.seq
  apply Wp.region
  refine WpL.v (V.as) ?_
  apply WpL.nil
  apply Out.seqN
  apply Wp.seq
  apply Wp.region
  refine WpL.v (V.mv) ?_
  refine WpL.v (V.eqN) ?_
  refine WpL.v (V.mv) ?_
  refine WpL.sk ?_
  refine WpL.sk ?_
  refine WpL.sk ?_
  refine WpL.sk ?_
  refine WpL.v (V.pT) ?_
  refine WpL.v (V.as) ?_
  apply WpL.nil
  apply Out.seqN
  apply Wp.ret
  refine Out.f1 rfl ResIs.t ⟨?_, rfl⟩
  exact rfl
theorem srcOverN : Fun Try.prog 43 [.pointer none] (B false) := by
  refine Ct.enter Try.func43 rfl rfl fun W => ?_
  apply Wp.seq
  apply Wp.region
  refine WpL.v (V.as) ?_
  apply WpL.nil
  apply Out.seqN
  apply Wp.seq
  apply Wp.region
  refine WpL.v (V.mv) ?_
  refine WpL.v (V.neN) ?_
  refine WpL.v (V.mv) ?_
  refine WpL.sk ?_
  refine WpL.sk ?_
  refine WpL.sk ?_
  refine WpL.sk ?_
  refine WpL.sk ?_
  refine WpL.v (V.pF) ?_
  refine WpL.v (V.mv) ?_
  refine WpL.sk ?_
  refine WpL.sk ?_
  refine WpL.sk ?_
  refine WpL.sk ?_
  refine WpL.sk ?_
  refine WpL.v (V.pF) ?_
  refine WpL.v (V.as) ?_
  apply WpL.nil
  apply Out.seqN
  apply Wp.ret
  refine Out.f1 rfl ResIs.t ⟨?_, rfl⟩
  exact rfl
theorem srcLeftN : Fun Try.prog 47 [.pointer none] (I 0) := by
  refine Ct.enter Try.func47 rfl rfl fun W => ?_
  apply Wp.seq
  apply Wp.region
  refine WpL.v (V.as) ?_
  apply WpL.nil
  apply Out.seqN
  apply Wp.seq
  apply Wp.seq
  apply Wp.region
  refine WpL.v (V.mv) ?_
  refine WpL.v (V.eqN) ?_
  apply WpL.nil
  apply Out.seqN
  refine Wp.cT ?_
  apply Wp.seq
  apply Wp.region
  refine WpL.v (V.as) ?_
  apply WpL.nil
  apply Out.seqN
  apply Wp.ret
  apply Out.seqR
  refine Out.f1 rfl ResIs.t ⟨?_, rfl⟩
  exact rfl
theorem natG_suf : ∀ (l : List UInt8) (i acc v : Nat) (rest : List UInt8), natG l i acc = some (v, rest) → ∃ p, l = p ++ rest ∧ 0 < p.length
  | [], _, _, _, _, h => by simp [natG] at h
  | x :: xs, i, acc, v, rest, h => by
    simp only [natG] at h
    split at h
    · cases h
    · split at h
      · split at h
        · cases h
        · simp only [Option.some.injEq, Prod.mk.injEq] at h
          exact ⟨[x], by rw [← h.2]; rfl, by simp⟩
      · obtain ⟨p, hp, _⟩ := natG_suf xs _ _ _ _ h
        exact ⟨x :: p, by rw [hp]; rfl, by simp⟩
/-- A number that is taken: none, or one of them. -/
theorem taken_law (b : List UInt8) (m : Int) : (takenR b m = (0, 0) ∧ natS ⟨b, false⟩ m = (0, ⟨[], true⟩)) ∨ ∃ (v : Nat) (p rest : List UInt8), b = p ++ rest ∧ 0 < p.length ∧ (v : Int) ≤ m ∧ takenR b m = ((v : Int), (p.length : Int)) ∧ natS ⟨b, false⟩ m = ((v : Int), ⟨rest, false⟩) := by
  unfold natS natT takenR
  cases h : natG b 0 0 with
  | none => left; simp
  | some q =>
    obtain ⟨v, rest⟩ := q
    obtain ⟨p, hp, h0⟩ := natG_suf _ _ _ _ _ h
    by_cases hv : m < (v : Int)
    · left; simp [hv]
    · right
      refine ⟨v, p, rest, hp, h0, by omega, ?_, ?_⟩
      · simp only [if_neg hv]
        rw [hp]; simp
      · simp [hv]
theorem natS_dry (m : Int) : natS ⟨[], true⟩ m = (0, ⟨[], true⟩) := by simp [natS, natT]
theorem rawS_dry (n : Int) : rawS ⟨[], true⟩ n = ([], ⟨[], true⟩) := by simp [rawS]
theorem textS_dry (m : Int) : textS ⟨[], true⟩ m = ([], ⟨[], true⟩) := by rw [textS, natS_dry, rawS_dry]
theorem eql_self (a : Int) : cmpI .eql a a = some true := by simp [cmpI]
theorem neq_self (a : Int) : cmpI .neq a a = some false := by simp [cmpI]
theorem eqlS_self (a : List UInt8) : HL.cmpS .eql a a = some true := by simp [HL.cmpS]
theorem V.slLoE {P : Go.Program} {n : Fm} {dst : Nat} {env : Env} {σ : List Ent} {ty : Go.TypeId} {pos : String} {af : Array Go.Edge} {gd : Option (Nat × Bool)} (tb : Tabs P) {t u : Nat} {x lo : Go.Operand} {p q : List UInt8} {k : Go.IntKind} {i : Int} (hx : ev env x = some (S p)) (hl : ev env lo = some (.int k i)) (hq : p.drop i.toNat = q) (h0 : 0 ≤ i := by omega) (h1 : i ≤ p.length := by omega) (ht : lk1 tb.strs t = some u := by exact rfl) : Val P n env σ ⟨some dst, .slice t x (some lo) none none, ty, pos, af, gd⟩ (S q) := hq ▸ V.slLo tb hx hl ht h0 h1
theorem V.slHiE {P : Go.Program} {n : Fm} {dst : Nat} {env : Env} {σ : List Ent} {ty : Go.TypeId} {pos : String} {af : Array Go.Edge} {gd : Option (Nat × Bool)} (tb : Tabs P) {t u : Nat} {x lo : Go.Operand} {p q : List UInt8} {k : Go.IntKind} {i : Int} (hx : ev env x = some (S p)) (hl : ev env lo = some (.int k i)) (hq : p.take i.toNat = q) (h0 : 0 ≤ i := by omega) (h1 : i ≤ p.length := by omega) (ht : lk1 tb.strs t = some u := by exact rfl) : Val P n env σ ⟨some dst, .slice t x none (some lo) none, ty, pos, af, gd⟩ (S q) := hq ▸ V.slHi tb hx hl ht h0 h1
theorem V.slLHE {P : Go.Program} {n : Fm} {dst : Nat} {env : Env} {σ : List Ent} {ty : Go.TypeId} {pos : String} {af : Array Go.Edge} {gd : Option (Nat × Bool)} (tb : Tabs P) {t u : Nat} {x lo hi : Go.Operand} {p q : List UInt8} {k k' : Go.IntKind} {i j : Int} (hx : ev env x = some (S p)) (hl : ev env lo = some (.int k i)) (hh : ev env hi = some (.int k' j)) (hq : (p.drop i.toNat).take (j.toNat - i.toNat) = q) (h0 : 0 ≤ i := by omega) (h1 : i ≤ j := by omega) (h2 : j ≤ p.length := by omega) (ht : lk1 tb.strs t = some u := by exact rfl) : Val P n env σ ⟨some dst, .slice t x (some lo) (some hi) none, ty, pos, af, gd⟩ (S q) := hq ▸ V.slLH tb hx hl hh ht h0 h1 h2
theorem V.neBE {P : Go.Program} {n : Fm} {dst : Nat} {env : Env} {σ : List Ent} {ty : Go.TypeId} {pos : String} {af : Array Go.Edge} {gd : Option (Nat × Bool)} (tb : Tabs P) {t u ty' : Nat} {x y : Go.Operand} {p q b : Bool} (hx : ev env x = some (.bool p)) (hy : ev env y = some (.bool q)) (hb : (!(p == q)) = b) (ht : lk1 tb.bools t = some u := by exact rfl) : Val P n env σ ⟨some dst, .binOp .neq t x y ty', ty, pos, af, gd⟩ (.bool b) := hb ▸ V.neB tb hx hy ht
theorem V.eqBE {P : Go.Program} {n : Fm} {dst : Nat} {env : Env} {σ : List Ent} {ty : Go.TypeId} {pos : String} {af : Array Go.Edge} {gd : Option (Nat × Bool)} (tb : Tabs P) {t u ty' : Nat} {x y : Go.Operand} {p q b : Bool} (hx : ev env x = some (.bool p)) (hy : ev env y = some (.bool q)) (hb : (p == q) = b) (ht : lk1 tb.bools t = some u := by exact rfl) : Val P n env σ ⟨some dst, .binOp .eql t x y ty', ty, pos, af, gd⟩ (.bool b) := hb ▸ V.eqB tb hx hy ht
end Go.Proofs.Ytienlncaffliaaa
