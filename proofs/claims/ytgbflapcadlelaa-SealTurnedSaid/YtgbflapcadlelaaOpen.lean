/-
  Layer 6: a sealed text opened.
-/
import Derived.Test.YtgbflapcadlelaaSeal
import Derived.Test.YtgbflapcadlelaaSrc
namespace Go.Proofs.Ytgbflapcadlelaa
open Go.HL
set_option linter.unusedSimpArgs false
set_option linter.unusedVariables false
set_option maxRecDepth 8000
theorem eqlS_self (a : List UInt8) : HL.cmpS .eql a a = some true := by simp [HL.cmpS]
theorem V.slLoE {P : Go.Program} {n : Fm} {dst : Nat} {env : Env} {σ : List Ent} {ty : Go.TypeId} {pos : String} {af : Array Go.Edge} {gd : Option (Nat × Bool)} (tb : Tabs P) {t u : Nat} {x lo : Go.Operand} {p q : List UInt8} {k : Go.IntKind} {i : Int} (hx : ev env x = some (S p)) (hl : ev env lo = some (.int k i)) (hq : p.drop i.toNat = q) (h0 : 0 ≤ i := by omega) (h1 : i ≤ p.length := by omega) (ht : lk1 tb.strs t = some u := by exact rfl) : Val P n env σ ⟨some dst, .slice t x (some lo) none none, ty, pos, af, gd⟩ (S q) := hq ▸ V.slLo tb hx hl ht h0 h1
theorem V.slHiE {P : Go.Program} {n : Fm} {dst : Nat} {env : Env} {σ : List Ent} {ty : Go.TypeId} {pos : String} {af : Array Go.Edge} {gd : Option (Nat × Bool)} (tb : Tabs P) {t u : Nat} {x lo : Go.Operand} {p q : List UInt8} {k : Go.IntKind} {i : Int} (hx : ev env x = some (S p)) (hl : ev env lo = some (.int k i)) (hq : p.take i.toNat = q) (h0 : 0 ≤ i := by omega) (h1 : i ≤ p.length := by omega) (ht : lk1 tb.strs t = some u := by exact rfl) : Val P n env σ ⟨some dst, .slice t x none (some lo) none, ty, pos, af, gd⟩ (S q) := hq ▸ V.slHi tb hx hl ht h0 h1
theorem V.slLHE {P : Go.Program} {n : Fm} {dst : Nat} {env : Env} {σ : List Ent} {ty : Go.TypeId} {pos : String} {af : Array Go.Edge} {gd : Option (Nat × Bool)} (tb : Tabs P) {t u : Nat} {x lo hi : Go.Operand} {p q : List UInt8} {k k' : Go.IntKind} {i j : Int} (hx : ev env x = some (S p)) (hl : ev env lo = some (.int k i)) (hh : ev env hi = some (.int k' j)) (hq : (p.drop i.toNat).take (j.toNat - i.toNat) = q) (h0 : 0 ≤ i := by omega) (h1 : i ≤ j := by omega) (h2 : j ≤ p.length := by omega) (ht : lk1 tb.strs t = some u := by exact rfl) : Val P n env σ ⟨some dst, .slice t x (some lo) (some hi) none, ty, pos, af, gd⟩ (S q) := hq ▸ V.slLH tb hx hl hh ht h0 h1 h2
theorem neqS_self (a : List UInt8) : HL.cmpS .neq a a = some false := by simp [HL.cmpS]
theorem neqS_of {a b : List UInt8} (h : a ≠ b) : HL.cmpS .neq a b = some true := by simp [HL.cmpS, h]
theorem natG_split : ∀ (l : List UInt8) (i acc v : Nat) (rest : List UInt8), natG l i acc = some (v, rest) →
    ∃ p x, l = p ++ x :: rest ∧ (∀ y, y ∈ p → 128 ≤ y.toNat) ∧ x.toNat < 128 ∧ (x.toNat ≠ 0 ∨ (i = 0 ∧ p = [])) ∧ v = acc + valB (p ++ [x]) * 128 ^ i
  | [], _, _, _, _, h => by simp [natG] at h
  | x :: xs, i, acc, v, rest, h => by
    simp only [natG] at h
    split at h
    · cases h
    · split at h
      · split at h
        · cases h
        · rename_i hx h0
          simp only [Option.some.injEq, Prod.mk.injEq] at h
          obtain ⟨rfl, rfl⟩ := h
          refine ⟨[], x, rfl, by simp, hx, ?_, by simp [valB]⟩
          by_cases e : x.toNat = 0
          · right; exact ⟨by omega, rfl⟩
          · exact .inl e
      · rename_i hx
        obtain ⟨p, y, h1, h2, h3, h4, h5⟩ := natG_split xs (i + 1) _ v rest h
        refine ⟨x :: p, y, by rw [h1]; rfl, ?_, h3, ?_, ?_⟩
        · intro z hz
          rcases List.mem_cons.1 hz with rfl | hz
          · omega
          · exact h2 z hz
        · rcases h4 with h4 | ⟨h4, _⟩
          · exact .inl h4
          · omega
        · rw [h5, List.cons_append, valB, Nat.pow_succ, Nat.add_mul, Nat.add_assoc, Nat.mul_comm 128 (valB _), Nat.mul_assoc, Nat.mul_comm 128 (128 ^ i)]
theorem natG_canon {s : List UInt8} {v : Nat} {rest : List UInt8} (h : natG s 0 0 = some (v, rest)) : s = natI (v : Int) ++ rest := by
  obtain ⟨p, x, h1, h2, h3, h4, h5⟩ := natG_split _ _ _ _ _ h
  have := (natB_valB p x h2 h3 (h4.imp id And.right)).1
  have e : v = valB (p ++ [x]) := by rw [h5]; simp
  rw [natI, Int.toNat_natCast, e, this, h1]
  simp
/-- What Open answers. -/
def openR (s : List UInt8) : List UInt8 × Int :=
  match natG s 0 0 with
  | none => ([], 0)
  | some (v, rest) =>
    if 16384 < v then ([], 0) else if rest.length < 4 + v then ([], 0)
    else if fourB (sumS (natI (v : Int) ++ (rest.drop 4).take v)) = rest.take 4 then ((rest.drop 4).take v, ((s.length - rest.length + 4 + v : Nat) : Int)) else ([], 0)
theorem app_len4 {a b c a' b' c' : List UInt8} (h1 : a.length = a'.length) (h2 : b.length = b'.length) : (a ++ b ++ c = a' ++ b' ++ c') ↔ (a = a' ∧ b = b' ∧ c = c') := by
  constructor
  · intro h
    have h3 := List.append_inj h (by simp [h1, h2])
    have h4 := List.append_inj h3.1 h1
    exact ⟨h4.1, h4.2, h3.2⟩
  · rintro ⟨rfl, rfl, rfl⟩; rfl
theorem sealB_iff {v : Nat} {rest : List UInt8} (hv : ¬ 16384 < v) (hr : ¬ rest.length < 4 + v) : sealB ((rest.drop 4).take v) = (natI (v : Int) ++ rest).take ((natI (v : Int)).length + 4 + v) ↔ fourB (sumS (natI (v : Int) ++ (rest.drop 4).take v)) = rest.take 4 := by
  have hl : ((rest.drop 4).take v).length = v := by rw [List.length_take, List.length_drop]; omega
  have e1 : (natI (v : Int) ++ rest).take ((natI (v : Int)).length + 4 + v) = natI (v : Int) ++ rest.take 4 ++ (rest.drop 4).take v := by
    rw [Nat.add_assoc, List.take_length_add_append, List.append_assoc, List.take_add]
  rw [e1, sealB, if_neg (by omega), hl, app_len4 rfl (by rw [List.length_take]; simp [fourB]; omega)]
  simp
theorem refOpen (s : List UInt8) (hs : s.length ≤ 140737488351232) : Fun Try.prog 64 [S s] (.tuple #[S (openR s).1, I (openR s).2]) := by
  have hT := taken s 16384 (by omega)
  unfold takenR at hT
  unfold openR
  cases hg : natG s 0 0 with
  | none =>
    rw [hg] at hT
    refine Ct.enter Try.func64 rfl rfl fun W => ?_
    apply Wp.seq
    apply Wp.region
    refine WpL.v (V.as) ?_
    refine WpL.v (V.as) ?_
    apply WpL.nil
    apply Out.seqN
    apply Wp.seq
    apply Wp.region
    refine WpL.v (V.mv) ?_
    refine WpL.o (Op1.fn rfl (hT) ?_)
    refine WpL.v (V.mv) ?_
    refine WpL.v (V.ex) ?_
    refine WpL.v (V.ex) ?_
    refine WpL.v (V.as) ?_
    refine WpL.v (V.as) ?_
    apply WpL.nil
    apply Out.seqN
    apply Wp.seq
    apply Wp.seq
    apply Wp.region
    refine WpL.v (V.mv) ?_
    refine WpL.v (V.cmp) ?_
    refine WpL.v (V.mv) ?_
    refine WpL.pt (fun ha0 => ?_) (fun ha0 => ?_)
    (try simp only [decide_eq_true_eq, decide_eq_false_iff_not, Bool.not_eq_true', Bool.not_eq_false', Bool.not_eq_true, Bool.not_eq_false, not_true_eq_false, not_false_eq_true, reduceCtorEq] at ha0)
    refine WpL.sk ?_
    refine WpL.sk ?_
    refine WpL.sk ?_
    refine WpL.sk ?_
    refine WpL.sk ?_
    refine WpL.sk ?_
    refine WpL.sk ?_
    refine WpL.v (V.pT) ?_
    apply WpL.nil
    apply Out.seqN
    refine Wp.cT ?_
    apply Wp.seq
    apply Wp.region
    refine WpL.v (V.as) ?_
    refine WpL.v (V.as) ?_
    apply WpL.nil
    apply Out.seqN
    apply Wp.ret
    apply Out.seqR
    refine Out.f2 rfl ResIs.t ResIs.t ⟨?_, rfl⟩
    exact rfl
    (try simp only [decide_eq_true_eq, decide_eq_false_iff_not, Bool.not_eq_true', Bool.not_eq_false', Bool.not_eq_true, Bool.not_eq_false, not_true_eq_false, not_false_eq_true, reduceCtorEq] at ha0)
  | some q =>
    obtain ⟨v, rest⟩ := q
    rw [hg] at hT
    dsimp only at hT ⊢
    have hc := natG_canon hg
    by_cases hv : 16384 < v
    · rw [if_pos (by omega)] at hT; rw [if_pos hv]
      refine Ct.enter Try.func64 rfl rfl fun W => ?_
      apply Wp.seq
      apply Wp.region
      refine WpL.v (V.as) ?_
      refine WpL.v (V.as) ?_
      apply WpL.nil
      apply Out.seqN
      apply Wp.seq
      apply Wp.region
      refine WpL.v (V.mv) ?_
      refine WpL.o (Op1.fn rfl (hT) ?_)
      refine WpL.v (V.mv) ?_
      refine WpL.v (V.ex) ?_
      refine WpL.v (V.ex) ?_
      refine WpL.v (V.as) ?_
      refine WpL.v (V.as) ?_
      apply WpL.nil
      apply Out.seqN
      apply Wp.seq
      apply Wp.seq
      apply Wp.region
      refine WpL.v (V.mv) ?_
      refine WpL.v (V.cmp) ?_
      refine WpL.v (V.mv) ?_
      refine WpL.sk ?_
      refine WpL.sk ?_
      refine WpL.sk ?_
      refine WpL.sk ?_
      refine WpL.sk ?_
      refine WpL.sk ?_
      refine WpL.sk ?_
      refine WpL.v (V.pT) ?_
      apply WpL.nil
      apply Out.seqN
      refine Wp.cT ?_
      apply Wp.seq
      apply Wp.region
      refine WpL.v (V.as) ?_
      refine WpL.v (V.as) ?_
      apply WpL.nil
      apply Out.seqN
      apply Wp.ret
      apply Out.seqR
      refine Out.f2 rfl ResIs.t ResIs.t ⟨?_, rfl⟩
      exact rfl
    · rw [if_neg (by omega)] at hT; rw [if_neg hv]
      have hnl := natI_len (n := (v : Int)) (by omega)
      have hnp : 1 ≤ (natI (v : Int)).length := natB_pos _
      have hsl : s.length = (natI (v : Int)).length + rest.length := by rw [hc, List.length_append]
      have hiff := sealB_iff (v := v) (rest := rest) hv
      rw [← hc] at hiff
      have hdr : s.drop (natI (v : Int)).length = rest := by rw [hc]; exact List.drop_left
      rw [show s.length - rest.length = (natI (v : Int)).length by omega] at hT ⊢
      generalize (natI (v : Int)).length = k at *
      have e0 : cmpI .eql (k : Int) 0 = some false := by simp [cmpI]; omega
      by_cases hr : rest.length < 4 + v
      · rw [if_pos hr]
        refine Ct.enter Try.func64 rfl rfl fun W => ?_
        apply Wp.seq
        apply Wp.region
        refine WpL.v (V.as) ?_
        refine WpL.v (V.as) ?_
        apply WpL.nil
        apply Out.seqN
        apply Wp.seq
        apply Wp.region
        refine WpL.v (V.mv) ?_
        refine WpL.o (Op1.fn rfl (hT) ?_)
        refine WpL.v (V.mv) ?_
        refine WpL.v (V.ex) ?_
        refine WpL.v (V.ex) ?_
        refine WpL.v (V.as) ?_
        refine WpL.v (V.as) ?_
        apply WpL.nil
        apply Out.seqN
        apply Wp.seq
        apply Wp.seq
        apply Wp.region
        refine WpL.v (V.mv) ?_
        refine WpL.v (V.cmp rfl rfl e0) ?_
        refine WpL.v (V.mv) ?_
        refine WpL.v (V.mv) ?_
        refine WpL.v (V.lenS tb) ?_
        refine WpL.v (V.mv) ?_
        refine WpL.v (V.add) ?_
        refine WpL.v (V.mv) ?_
        refine WpL.v (V.add) ?_
        refine WpL.v (V.cmp) ?_
        refine WpL.v (V.pF) ?_
        apply WpL.nil
        apply Out.seqN
        refine Wp.c (fun hc0 => ?_) (fun hc0 => ?_)
        (try simp only [decide_eq_true_eq, decide_eq_false_iff_not, Bool.not_eq_true', Bool.not_eq_false', Bool.not_eq_true, Bool.not_eq_false, not_true_eq_false, not_false_eq_true, reduceCtorEq] at hc0)
        apply Wp.seq
        apply Wp.region
        refine WpL.v (V.as) ?_
        refine WpL.v (V.as) ?_
        apply WpL.nil
        apply Out.seqN
        apply Wp.ret
        apply Out.seqR
        refine Out.f2 rfl ResIs.t ResIs.t ⟨?_, rfl⟩
        exact rfl
        (try simp only [decide_eq_true_eq, decide_eq_false_iff_not, Bool.not_eq_true', Bool.not_eq_false', Bool.not_eq_true, Bool.not_eq_false, not_true_eq_false, not_false_eq_true, reduceCtorEq] at hc0)
        (exfalso; omega)
      · rw [if_neg hr]
        have hS : Fun Try.prog 24 [S ((rest.drop 4).take v)] (S (sealB ((rest.drop 4).take v))) := refSeal _ (by rw [List.length_take]; omega)
        have hs1 : (s.drop ((k : Int) + 4).toNat).take (((k : Int) + 4 + v).toNat - ((k : Int) + 4).toNat) = (rest.drop 4).take v := by
          rw [show ((k : Int) + 4).toNat = k + 4 by omega, ← List.drop_drop, hdr]
          congr 1
          omega
        have hs2 : s.take ((k : Int) + 4 + v).toNat = s.take (k + 4 + v) := by congr 1
        have hiff := hiff hr
        by_cases hq : fourB (sumS (natI (v : Int) ++ (rest.drop 4).take v)) = rest.take 4
        · rw [if_pos hq]
          rw [hiff.2 hq] at hS
          refine Ct.enter Try.func64 rfl rfl fun W => ?_
          apply Wp.seq
          apply Wp.region
          refine WpL.v (V.as) ?_
          refine WpL.v (V.as) ?_
          apply WpL.nil
          apply Out.seqN
          apply Wp.seq
          apply Wp.region
          refine WpL.v (V.mv) ?_
          refine WpL.o (Op1.fn rfl (hT) ?_)
          refine WpL.v (V.mv) ?_
          refine WpL.v (V.ex) ?_
          refine WpL.v (V.ex) ?_
          refine WpL.v (V.as) ?_
          refine WpL.v (V.as) ?_
          apply WpL.nil
          apply Out.seqN
          apply Wp.seq
          apply Wp.seq
          apply Wp.region
          refine WpL.v (V.mv) ?_
          refine WpL.v (V.cmp rfl rfl e0) ?_
          refine WpL.v (V.mv) ?_
          refine WpL.v (V.mv) ?_
          refine WpL.v (V.lenS tb) ?_
          refine WpL.v (V.mv) ?_
          refine WpL.v (V.add) ?_
          refine WpL.v (V.mv) ?_
          refine WpL.v (V.add) ?_
          refine WpL.v (V.cmp) ?_
          refine WpL.v (V.pF) ?_
          apply WpL.nil
          apply Out.seqN
          refine Wp.c (fun hd0 => ?_) (fun hd0 => ?_)
          (try simp only [decide_eq_true_eq, decide_eq_false_iff_not, Bool.not_eq_true', Bool.not_eq_false', Bool.not_eq_true, Bool.not_eq_false, not_true_eq_false, not_false_eq_true, reduceCtorEq] at hd0)
          (exfalso; omega)
          (try simp only [decide_eq_true_eq, decide_eq_false_iff_not, Bool.not_eq_true', Bool.not_eq_false', Bool.not_eq_true, Bool.not_eq_false, not_true_eq_false, not_false_eq_true, reduceCtorEq] at hd0)
          apply Wp.skip
          apply Out.seqN
          apply Wp.seq
          apply Wp.region
          refine WpL.v (V.mv) ?_
          refine WpL.v (V.mv) ?_
          refine WpL.v (V.add) ?_
          refine WpL.v (V.mv) ?_
          refine WpL.v (V.add) ?_
          refine WpL.v (V.mv) ?_
          refine WpL.v (V.add) ?_
          refine WpL.v (V.slLHE tb rfl rfl rfl hs1) ?_
          refine WpL.v (V.as) ?_
          apply WpL.nil
          apply Out.seqN
          apply Wp.seq
          apply Wp.seq
          refine Wp.dG [] ?_ List.Sublist.slnil List.Sublist.slnil
          refine WpA.tF 0 rfl (V.mv) ?_
          refine WpA.tF 2 rfl (V.mv) ?_
          refine WpA.tF 3 rfl (V.mv) ?_
          refine WpA.tF 4 rfl (V.add) ?_
          refine WpA.tF 5 rfl (V.mv) ?_
          refine WpA.tF 6 rfl (V.add) ?_
          refine WpA.tF 7 rfl (V.slHiE tb rfl rfl hs2) ?_
          refine WpA.oS 1 rfl (Op1.fn rfl (hS) ⟨?_, ?_, ?_⟩)
          exact holdT
          exact holdT
          refine WpA.tF 8 rfl (V.cmpS rfl rfl (neqS_self _)) ?_
          refine WpA.ou ?_
          apply Out.seqN
          refine Wp.cF ?_
          apply Wp.skip
          apply Out.seqN
          apply Wp.seq
          apply Wp.region
          refine WpL.v (V.mv) ?_
          refine WpL.v (V.mv) ?_
          refine WpL.v (V.add) ?_
          refine WpL.v (V.mv) ?_
          refine WpL.v (V.add) ?_
          refine WpL.v (V.as) ?_
          refine WpL.v (V.as) ?_
          apply WpL.nil
          apply Out.seqN
          apply Wp.ret
          refine Out.f2 rfl ResIs.t ResIs.t ⟨?_, rfl⟩
          exact rfl
        · rw [if_neg hq]
          have hne := fun h => hq (hiff.1 h)
          refine Ct.enter Try.func64 rfl rfl fun W => ?_
          apply Wp.seq
          apply Wp.region
          refine WpL.v (V.as) ?_
          refine WpL.v (V.as) ?_
          apply WpL.nil
          apply Out.seqN
          apply Wp.seq
          apply Wp.region
          refine WpL.v (V.mv) ?_
          refine WpL.o (Op1.fn rfl (hT) ?_)
          refine WpL.v (V.mv) ?_
          refine WpL.v (V.ex) ?_
          refine WpL.v (V.ex) ?_
          refine WpL.v (V.as) ?_
          refine WpL.v (V.as) ?_
          apply WpL.nil
          apply Out.seqN
          apply Wp.seq
          apply Wp.seq
          apply Wp.region
          refine WpL.v (V.mv) ?_
          refine WpL.v (V.cmp rfl rfl e0) ?_
          refine WpL.v (V.mv) ?_
          refine WpL.v (V.mv) ?_
          refine WpL.v (V.lenS tb) ?_
          refine WpL.v (V.mv) ?_
          refine WpL.v (V.add) ?_
          refine WpL.v (V.mv) ?_
          refine WpL.v (V.add) ?_
          refine WpL.v (V.cmp) ?_
          refine WpL.v (V.pF) ?_
          apply WpL.nil
          apply Out.seqN
          refine Wp.c (fun he0 => ?_) (fun he0 => ?_)
          (try simp only [decide_eq_true_eq, decide_eq_false_iff_not, Bool.not_eq_true', Bool.not_eq_false', Bool.not_eq_true, Bool.not_eq_false, not_true_eq_false, not_false_eq_true, reduceCtorEq] at he0)
          (exfalso; omega)
          (try simp only [decide_eq_true_eq, decide_eq_false_iff_not, Bool.not_eq_true', Bool.not_eq_false', Bool.not_eq_true, Bool.not_eq_false, not_true_eq_false, not_false_eq_true, reduceCtorEq] at he0)
          apply Wp.skip
          apply Out.seqN
          apply Wp.seq
          apply Wp.region
          refine WpL.v (V.mv) ?_
          refine WpL.v (V.mv) ?_
          refine WpL.v (V.add) ?_
          refine WpL.v (V.mv) ?_
          refine WpL.v (V.add) ?_
          refine WpL.v (V.mv) ?_
          refine WpL.v (V.add) ?_
          refine WpL.v (V.slLHE tb rfl rfl rfl hs1) ?_
          refine WpL.v (V.as) ?_
          apply WpL.nil
          apply Out.seqN
          apply Wp.seq
          apply Wp.seq
          refine Wp.dG [] ?_ List.Sublist.slnil List.Sublist.slnil
          refine WpA.tF 0 rfl (V.mv) ?_
          refine WpA.tF 2 rfl (V.mv) ?_
          refine WpA.tF 3 rfl (V.mv) ?_
          refine WpA.tF 4 rfl (V.add) ?_
          refine WpA.tF 5 rfl (V.mv) ?_
          refine WpA.tF 6 rfl (V.add) ?_
          refine WpA.tF 7 rfl (V.slHiE tb rfl rfl hs2) ?_
          refine WpA.oS 1 rfl (Op1.fn rfl (hS) ⟨?_, ?_, ?_⟩)
          exact holdT
          exact holdT
          refine WpA.tF 8 rfl (V.cmpS rfl rfl (neqS_of hne)) ?_
          refine WpA.ou ?_
          apply Out.seqN
          refine Wp.cT ?_
          apply Wp.seq
          apply Wp.region
          refine WpL.v (V.as) ?_
          refine WpL.v (V.as) ?_
          apply WpL.nil
          apply Out.seqN
          apply Wp.ret
          apply Out.seqR
          refine Out.f2 rfl ResIs.t ResIs.t ⟨?_, rfl⟩
          exact rfl
theorem rawS_few {rest : List UInt8} {n : Nat} (h : rest.length < n) : rawS ⟨rest, false⟩ (n : Int) = ([], ⟨[], true⟩) := by
  unfold rawS; rw [if_pos (by right; right; show ((rest.length : Nat) : Int) < n; omega)]
theorem rawS_ok {rest : List UInt8} {n : Nat} (h : ¬ rest.length < n) : rawS ⟨rest, false⟩ (n : Int) = (rest.take n, ⟨rest.drop n, false⟩) := by
  unfold rawS
  rw [if_neg (by rintro (h1 | h1 | h1); · cases h1
                 · omega
                 · have : ((rest.length : Nat) : Int) < n := h1
                   omega)]
  simp
theorem sealOpen (s : List UInt8) (hs : s.length ≤ 140737488351232) : Fun Try.prog 56 [S s] (.tuple #[S (openR s).1, I (openR s).2]) := by
  have hN := fun b => srcNat b ⟨s, false⟩ 16384 (by show s.length ≤ _; omega)
  have hR := fun b n => srcRaw b ⟨[], true⟩ n (by simp)
  have hD := fun b => srcDry b ⟨[], true⟩
  simp only [rawS_dry] at hR
  unfold natS natT at hN
  rw [if_neg (by simp)] at hN
  unfold openR
  cases hg : natG s 0 0 with
  | none =>
    simp only [hg] at hN
    refine Ct.enter Try.func56 rfl rfl fun W => ?_
    apply Wp.seq
    apply Wp.region
    refine WpL.v (V.as) ?_
    refine WpL.v (V.as) ?_
    apply WpL.nil
    apply Out.seqN
    apply Wp.seq
    apply Wp.region
    refine WpL.v (V.mv) ?_
    refine WpL.o (Op1.callT rfl (srcFrom _) (by (repeat (first | exact Sel.nil | exact Rem.here | apply Sel.cons | apply Rem.there))) ?_)
    rintro v0 s1 ⟨b10, ⟨rfl, rfl⟩⟩
    refine incat ?_
    refine WpL.v (V.as) ?_
    apply WpL.nil
    apply Out.seqN
    apply Wp.seq
    apply Wp.region
    refine WpL.v (V.mv) ?_
    refine WpL.o (Op1.callT rfl (hN _) (by (repeat (first | exact Sel.nil | exact Rem.here | apply Sel.cons | apply Rem.there))) ?_)
    rintro v2 s3 ⟨rfl, rfl⟩
    refine incat ?_
    refine WpL.v (V.as) ?_
    apply WpL.nil
    apply Out.seqN
    apply Wp.seq
    apply Wp.region
    refine WpL.v (V.mv) ?_
    refine WpL.o (Op1.callT rfl (hR _ _) (by (repeat (first | exact Sel.nil | exact Rem.here | apply Sel.cons | apply Rem.there))) ?_)
    rintro v4 s5 ⟨rfl, rfl⟩
    refine incat ?_
    refine WpL.v (V.as) ?_
    apply WpL.nil
    apply Out.seqN
    apply Wp.seq
    apply Wp.region
    refine WpL.v (V.mv) ?_
    refine WpL.v (V.mv) ?_
    refine WpL.o (Op1.callT rfl (hR _ _) (by (repeat (first | exact Sel.nil | exact Rem.here | apply Sel.cons | apply Rem.there))) ?_)
    rintro v6 s7 ⟨rfl, rfl⟩
    refine incat ?_
    refine WpL.v (V.as) ?_
    apply WpL.nil
    apply Out.seqN
    apply Wp.seq
    apply Wp.seq
    apply Wp.region
    refine WpL.v (V.mv) ?_
    refine WpL.o (Op1.callT rfl (hD _) (by (repeat (first | exact Sel.nil | exact Rem.here | apply Sel.cons | apply Rem.there))) ?_)
    rintro v8 s9 ⟨rfl, rfl⟩
    refine incat ?_
    apply WpL.nil
    apply Out.seqN
    refine Wp.cT ?_
    apply Wp.seq
    apply Wp.region
    refine WpL.v (V.as) ?_
    refine WpL.v (V.as) ?_
    apply WpL.nil
    apply Out.seqN
    apply Wp.ret
    apply Out.seqR
    refine Out.f2 rfl ResIs.t ResIs.t ⟨?_, rfl⟩
    exact rfl
  | some q =>
    obtain ⟨v, rest⟩ := q
    simp only [hg] at hN
    dsimp only at hN ⊢
    have hc := natG_canon hg
    by_cases hv : 16384 < v
    · rw [if_pos (show (16384 : Int) < (v : Int) by omega)] at hN; rw [if_pos hv]
      refine Ct.enter Try.func56 rfl rfl fun W => ?_
      apply Wp.seq
      apply Wp.region
      refine WpL.v (V.as) ?_
      refine WpL.v (V.as) ?_
      apply WpL.nil
      apply Out.seqN
      apply Wp.seq
      apply Wp.region
      refine WpL.v (V.mv) ?_
      refine WpL.o (Op1.callT rfl (srcFrom _) (by (repeat (first | exact Sel.nil | exact Rem.here | apply Sel.cons | apply Rem.there))) ?_)
      rintro v0 s1 ⟨b10, ⟨rfl, rfl⟩⟩
      refine incat ?_
      refine WpL.v (V.as) ?_
      apply WpL.nil
      apply Out.seqN
      apply Wp.seq
      apply Wp.region
      refine WpL.v (V.mv) ?_
      refine WpL.o (Op1.callT rfl (hN _) (by (repeat (first | exact Sel.nil | exact Rem.here | apply Sel.cons | apply Rem.there))) ?_)
      rintro v2 s3 ⟨rfl, rfl⟩
      refine incat ?_
      refine WpL.v (V.as) ?_
      apply WpL.nil
      apply Out.seqN
      apply Wp.seq
      apply Wp.region
      refine WpL.v (V.mv) ?_
      refine WpL.o (Op1.callT rfl (hR _ _) (by (repeat (first | exact Sel.nil | exact Rem.here | apply Sel.cons | apply Rem.there))) ?_)
      rintro v4 s5 ⟨rfl, rfl⟩
      refine incat ?_
      refine WpL.v (V.as) ?_
      apply WpL.nil
      apply Out.seqN
      apply Wp.seq
      apply Wp.region
      refine WpL.v (V.mv) ?_
      refine WpL.v (V.mv) ?_
      refine WpL.o (Op1.callT rfl (hR _ _) (by (repeat (first | exact Sel.nil | exact Rem.here | apply Sel.cons | apply Rem.there))) ?_)
      rintro v6 s7 ⟨rfl, rfl⟩
      refine incat ?_
      refine WpL.v (V.as) ?_
      apply WpL.nil
      apply Out.seqN
      apply Wp.seq
      apply Wp.seq
      apply Wp.region
      refine WpL.v (V.mv) ?_
      refine WpL.o (Op1.callT rfl (hD _) (by (repeat (first | exact Sel.nil | exact Rem.here | apply Sel.cons | apply Rem.there))) ?_)
      rintro v8 s9 ⟨rfl, rfl⟩
      refine incat ?_
      apply WpL.nil
      apply Out.seqN
      refine Wp.cT ?_
      apply Wp.seq
      apply Wp.region
      refine WpL.v (V.as) ?_
      refine WpL.v (V.as) ?_
      apply WpL.nil
      apply Out.seqN
      apply Wp.ret
      apply Out.seqR
      refine Out.f2 rfl ResIs.t ResIs.t ⟨?_, rfl⟩
      exact rfl
    · rw [if_neg (show ¬ (16384 : Int) < (v : Int) by omega)] at hN; rw [if_neg hv]
      have hsl : s.length = (natI (v : Int)).length + rest.length := by rw [hc, List.length_append]
      have hA := fun b => srcRaw b ⟨rest, false⟩ ((4 : Nat) : Int) (by show rest.length ≤ _; omega)
      by_cases h4 : rest.length < 4
      · rw [if_pos (by omega)]
        simp only [rawS_few h4] at hA
        refine Ct.enter Try.func56 rfl rfl fun W => ?_
        apply Wp.seq
        apply Wp.region
        refine WpL.v (V.as) ?_
        refine WpL.v (V.as) ?_
        apply WpL.nil
        apply Out.seqN
        apply Wp.seq
        apply Wp.region
        refine WpL.v (V.mv) ?_
        refine WpL.o (Op1.callT rfl (srcFrom _) (by (repeat (first | exact Sel.nil | exact Rem.here | apply Sel.cons | apply Rem.there))) ?_)
        rintro v0 s1 ⟨b10, ⟨rfl, rfl⟩⟩
        refine incat ?_
        refine WpL.v (V.as) ?_
        apply WpL.nil
        apply Out.seqN
        apply Wp.seq
        apply Wp.region
        refine WpL.v (V.mv) ?_
        refine WpL.o (Op1.callT rfl (hN _) (by (repeat (first | exact Sel.nil | exact Rem.here | apply Sel.cons | apply Rem.there))) ?_)
        rintro v2 s3 ⟨rfl, rfl⟩
        refine incat ?_
        refine WpL.v (V.as) ?_
        apply WpL.nil
        apply Out.seqN
        apply Wp.seq
        apply Wp.region
        refine WpL.v (V.mv) ?_
        refine WpL.o (Op1.callT rfl (hA _) (by (repeat (first | exact Sel.nil | exact Rem.here | apply Sel.cons | apply Rem.there))) ?_)
        rintro v4 s5 ⟨rfl, rfl⟩
        refine incat ?_
        refine WpL.v (V.as) ?_
        apply WpL.nil
        apply Out.seqN
        apply Wp.seq
        apply Wp.region
        refine WpL.v (V.mv) ?_
        refine WpL.v (V.mv) ?_
        refine WpL.o (Op1.callT rfl (hR _ _) (by (repeat (first | exact Sel.nil | exact Rem.here | apply Sel.cons | apply Rem.there))) ?_)
        rintro v6 s7 ⟨rfl, rfl⟩
        refine incat ?_
        refine WpL.v (V.as) ?_
        apply WpL.nil
        apply Out.seqN
        apply Wp.seq
        apply Wp.seq
        apply Wp.region
        refine WpL.v (V.mv) ?_
        refine WpL.o (Op1.callT rfl (hD _) (by (repeat (first | exact Sel.nil | exact Rem.here | apply Sel.cons | apply Rem.there))) ?_)
        rintro v8 s9 ⟨rfl, rfl⟩
        refine incat ?_
        apply WpL.nil
        apply Out.seqN
        refine Wp.cT ?_
        apply Wp.seq
        apply Wp.region
        refine WpL.v (V.as) ?_
        refine WpL.v (V.as) ?_
        apply WpL.nil
        apply Out.seqN
        apply Wp.ret
        apply Out.seqR
        refine Out.f2 rfl ResIs.t ResIs.t ⟨?_, rfl⟩
        exact rfl
      · simp only [rawS_ok h4] at hA
        have hB := fun b => srcRaw b ⟨rest.drop 4, false⟩ (v : Int) (by show (rest.drop 4).length ≤ _; rw [List.length_drop]; omega)
        by_cases hr : rest.length < 4 + v
        · rw [if_pos hr]
          simp only [rawS_few (rest := rest.drop 4) (n := v) (by rw [List.length_drop]; omega)] at hB
          refine Ct.enter Try.func56 rfl rfl fun W => ?_
          apply Wp.seq
          apply Wp.region
          refine WpL.v (V.as) ?_
          refine WpL.v (V.as) ?_
          apply WpL.nil
          apply Out.seqN
          apply Wp.seq
          apply Wp.region
          refine WpL.v (V.mv) ?_
          refine WpL.o (Op1.callT rfl (srcFrom _) (by (repeat (first | exact Sel.nil | exact Rem.here | apply Sel.cons | apply Rem.there))) ?_)
          rintro v0 s1 ⟨b10, ⟨rfl, rfl⟩⟩
          refine incat ?_
          refine WpL.v (V.as) ?_
          apply WpL.nil
          apply Out.seqN
          apply Wp.seq
          apply Wp.region
          refine WpL.v (V.mv) ?_
          refine WpL.o (Op1.callT rfl (hN _) (by (repeat (first | exact Sel.nil | exact Rem.here | apply Sel.cons | apply Rem.there))) ?_)
          rintro v2 s3 ⟨rfl, rfl⟩
          refine incat ?_
          refine WpL.v (V.as) ?_
          apply WpL.nil
          apply Out.seqN
          apply Wp.seq
          apply Wp.region
          refine WpL.v (V.mv) ?_
          refine WpL.o (Op1.callT rfl (hA _) (by (repeat (first | exact Sel.nil | exact Rem.here | apply Sel.cons | apply Rem.there))) ?_)
          rintro v4 s5 ⟨rfl, rfl⟩
          refine incat ?_
          refine WpL.v (V.as) ?_
          apply WpL.nil
          apply Out.seqN
          apply Wp.seq
          apply Wp.region
          refine WpL.v (V.mv) ?_
          refine WpL.v (V.mv) ?_
          refine WpL.o (Op1.callT rfl (hB _) (by (repeat (first | exact Sel.nil | exact Rem.here | apply Sel.cons | apply Rem.there))) ?_)
          rintro v6 s7 ⟨rfl, rfl⟩
          refine incat ?_
          refine WpL.v (V.as) ?_
          apply WpL.nil
          apply Out.seqN
          apply Wp.seq
          apply Wp.seq
          apply Wp.region
          refine WpL.v (V.mv) ?_
          refine WpL.o (Op1.callT rfl (hD _) (by (repeat (first | exact Sel.nil | exact Rem.here | apply Sel.cons | apply Rem.there))) ?_)
          rintro v8 s9 ⟨rfl, rfl⟩
          refine incat ?_
          apply WpL.nil
          apply Out.seqN
          refine Wp.cT ?_
          apply Wp.seq
          apply Wp.region
          refine WpL.v (V.as) ?_
          refine WpL.v (V.as) ?_
          apply WpL.nil
          apply Out.seqN
          apply Wp.ret
          apply Out.seqR
          refine Out.f2 rfl ResIs.t ResIs.t ⟨?_, rfl⟩
          exact rfl
        · rw [if_neg hr]
          simp only [rawS_ok (rest := rest.drop 4) (n := v) (by rw [List.length_drop]; omega)] at hB
          have hE (b : Nat) := srcDry b ⟨(rest.drop 4).drop v, false⟩
          have hL (b : Nat) := srcLeft b ⟨(rest.drop 4).drop v, false⟩
          have h2 (g : Nat) := sum_two g (natI (v : Int)) ((rest.drop 4).take v) (by omega) (by rw [List.length_take]; omega)
          have hl3 : ((rest.drop 4).drop v).length = rest.length - 4 - v := by rw [List.length_drop, List.length_drop]
          by_cases hq : fourB (sumS (natI (v : Int) ++ (rest.drop 4).take v)) = rest.take 4
          · rw [if_pos hq]
            have h5 := four_any (sumS (natI (v : Int) ++ (rest.drop 4).take v))
            rw [hq] at h5
            refine Ct.enter Try.func56 rfl rfl fun W => ?_
            apply Wp.seq
            apply Wp.region
            refine WpL.v (V.as) ?_
            refine WpL.v (V.as) ?_
            apply WpL.nil
            apply Out.seqN
            apply Wp.seq
            apply Wp.region
            refine WpL.v (V.mv) ?_
            refine WpL.o (Op1.callT rfl (srcFrom _) (by (repeat (first | exact Sel.nil | exact Rem.here | apply Sel.cons | apply Rem.there))) ?_)
            rintro v0 s1 ⟨b10, ⟨rfl, rfl⟩⟩
            refine incat ?_
            refine WpL.v (V.as) ?_
            apply WpL.nil
            apply Out.seqN
            apply Wp.seq
            apply Wp.region
            refine WpL.v (V.mv) ?_
            refine WpL.o (Op1.callT rfl (hN _) (by (repeat (first | exact Sel.nil | exact Rem.here | apply Sel.cons | apply Rem.there))) ?_)
            rintro v2 s3 ⟨rfl, rfl⟩
            refine incat ?_
            refine WpL.v (V.as) ?_
            apply WpL.nil
            apply Out.seqN
            apply Wp.seq
            apply Wp.region
            refine WpL.v (V.mv) ?_
            refine WpL.o (Op1.callT rfl (hA _) (by (repeat (first | exact Sel.nil | exact Rem.here | apply Sel.cons | apply Rem.there))) ?_)
            rintro v4 s5 ⟨rfl, rfl⟩
            refine incat ?_
            refine WpL.v (V.as) ?_
            apply WpL.nil
            apply Out.seqN
            apply Wp.seq
            apply Wp.region
            refine WpL.v (V.mv) ?_
            refine WpL.v (V.mv) ?_
            refine WpL.o (Op1.callT rfl (hB _) (by (repeat (first | exact Sel.nil | exact Rem.here | apply Sel.cons | apply Rem.there))) ?_)
            rintro v6 s7 ⟨rfl, rfl⟩
            refine incat ?_
            refine WpL.v (V.as) ?_
            apply WpL.nil
            apply Out.seqN
            apply Wp.seq
            apply Wp.seq
            apply Wp.region
            refine WpL.v (V.mv) ?_
            refine WpL.o (Op1.callT rfl (hE _) (by (repeat (first | exact Sel.nil | exact Rem.here | apply Sel.cons | apply Rem.there))) ?_)
            rintro v8 s9 ⟨rfl, rfl⟩
            refine incat ?_
            apply WpL.nil
            apply Out.seqN
            refine Wp.cF ?_
            apply Wp.skip
            apply Out.seqN
            apply Wp.seq
            apply Wp.region
            refine WpL.v (V.bld tb) ?_
            refine WpL.o (O.bxR u8c 5 1 rfl (fun p21 => ?_))
            refine WpL.v (V.as) ?_
            apply WpL.nil
            apply Out.seqN
            apply Wp.seq
            apply Wp.region
            refine WpL.v (V.mv) ?_
            refine WpL.v (V.mv) ?_
            refine WpL.o (O.lit tb (fun p24 => ?_))
            refine WpL.o (Op1.callT rfl (sinkNat1 _ _ _ _ _ ?_ ?_) (by (repeat (first | exact Sel.nil | exact Rem.here | apply Sel.cons | apply Rem.there))) ?_)
            (first | with_reducible assumption | omega | (simp only [List.length_append, List.length_cons, List.length_nil, List.length_map] at *; omega) | (focus (simp; done)))
            (first | with_reducible assumption | omega | (simp only [List.length_append, List.length_cons, List.length_nil, List.length_map] at *; omega) | (focus (simp; done)))
            rintro v10 s11 ⟨v'25, ⟨rfl, rfl⟩⟩
            refine incat ?_
            apply WpL.nil
            apply Out.seqN
            apply Wp.seq
            apply Wp.seq
            apply Wp.region
            refine WpL.v (V.mv) ?_
            refine WpL.o (Op1.callT rfl (sinkBytes _ _ _) (by (repeat (first | exact Sel.nil | exact Rem.here | apply Sel.cons | apply Rem.there))) ?_)
            rintro v12 s13 ⟨rfl, rfl⟩
            refine incat ?_
            refine WpL.v (V.mv) ?_
            refine WpL.o (O.lit tb (fun p29 => ?_))
            refine WpL.o (Op1.callT rfl (h2 _) (by (repeat (first | exact Sel.nil | exact Rem.here | apply Sel.cons | apply Rem.there))) ?_)
            rintro v14 s15 ⟨rfl, rfl⟩
            refine incat ?_
            refine WpL.o (Op1.fn rfl (h5) ?_)
            refine WpL.v (V.mv) ?_
            refine WpL.v (V.cmpS rfl rfl (neqS_self _)) ?_
            apply WpL.nil
            apply Out.seqN
            refine Wp.cF ?_
            apply Wp.skip
            apply Out.seqN
            apply Wp.seq
            apply Wp.region
            refine WpL.v (V.mv) ?_
            refine WpL.v (V.mv) ?_
            refine WpL.v (V.lenS tb) ?_
            refine WpL.v (V.mv) ?_
            refine WpL.o (Op1.callT rfl (hL _) (by (repeat (first | exact Sel.nil | exact Rem.here | apply Sel.cons | apply Rem.there))) ?_)
            rintro v16 s17 ⟨rfl, rfl⟩
            refine incat ?_
            refine WpL.v (V.sub) ?_
            refine WpL.v (V.as) ?_
            refine WpL.v (V.as) ?_
            apply WpL.nil
            apply Out.seqN
            apply Wp.ret
            refine Out.f2 rfl ResIs.t ResIs.t ⟨?_, rfl⟩
            have h6 : ((s.length : Int) - ((((rest.drop 4).drop v).length : Nat) : Int)) = ((s.length - rest.length + 4 + v : Nat) : Int) := by rw [hl3]; omega
            dsimp only
            rw [h6]
          · rw [if_neg hq]
            have h5 := four_any (sumS (natI (v : Int) ++ (rest.drop 4).take v))
            refine Ct.enter Try.func56 rfl rfl fun W => ?_
            apply Wp.seq
            apply Wp.region
            refine WpL.v (V.as) ?_
            refine WpL.v (V.as) ?_
            apply WpL.nil
            apply Out.seqN
            apply Wp.seq
            apply Wp.region
            refine WpL.v (V.mv) ?_
            refine WpL.o (Op1.callT rfl (srcFrom _) (by (repeat (first | exact Sel.nil | exact Rem.here | apply Sel.cons | apply Rem.there))) ?_)
            rintro v0 s1 ⟨b10, ⟨rfl, rfl⟩⟩
            refine incat ?_
            refine WpL.v (V.as) ?_
            apply WpL.nil
            apply Out.seqN
            apply Wp.seq
            apply Wp.region
            refine WpL.v (V.mv) ?_
            refine WpL.o (Op1.callT rfl (hN _) (by (repeat (first | exact Sel.nil | exact Rem.here | apply Sel.cons | apply Rem.there))) ?_)
            rintro v2 s3 ⟨rfl, rfl⟩
            refine incat ?_
            refine WpL.v (V.as) ?_
            apply WpL.nil
            apply Out.seqN
            apply Wp.seq
            apply Wp.region
            refine WpL.v (V.mv) ?_
            refine WpL.o (Op1.callT rfl (hA _) (by (repeat (first | exact Sel.nil | exact Rem.here | apply Sel.cons | apply Rem.there))) ?_)
            rintro v4 s5 ⟨rfl, rfl⟩
            refine incat ?_
            refine WpL.v (V.as) ?_
            apply WpL.nil
            apply Out.seqN
            apply Wp.seq
            apply Wp.region
            refine WpL.v (V.mv) ?_
            refine WpL.v (V.mv) ?_
            refine WpL.o (Op1.callT rfl (hB _) (by (repeat (first | exact Sel.nil | exact Rem.here | apply Sel.cons | apply Rem.there))) ?_)
            rintro v6 s7 ⟨rfl, rfl⟩
            refine incat ?_
            refine WpL.v (V.as) ?_
            apply WpL.nil
            apply Out.seqN
            apply Wp.seq
            apply Wp.seq
            apply Wp.region
            refine WpL.v (V.mv) ?_
            refine WpL.o (Op1.callT rfl (hE _) (by (repeat (first | exact Sel.nil | exact Rem.here | apply Sel.cons | apply Rem.there))) ?_)
            rintro v8 s9 ⟨rfl, rfl⟩
            refine incat ?_
            apply WpL.nil
            apply Out.seqN
            refine Wp.cF ?_
            apply Wp.skip
            apply Out.seqN
            apply Wp.seq
            apply Wp.region
            refine WpL.v (V.bld tb) ?_
            refine WpL.o (O.bxR u8c 5 1 rfl (fun p21 => ?_))
            refine WpL.v (V.as) ?_
            apply WpL.nil
            apply Out.seqN
            apply Wp.seq
            apply Wp.region
            refine WpL.v (V.mv) ?_
            refine WpL.v (V.mv) ?_
            refine WpL.o (O.lit tb (fun p24 => ?_))
            refine WpL.o (Op1.callT rfl (sinkNat1 _ _ _ _ _ ?_ ?_) (by (repeat (first | exact Sel.nil | exact Rem.here | apply Sel.cons | apply Rem.there))) ?_)
            (first | with_reducible assumption | omega | (simp only [List.length_append, List.length_cons, List.length_nil, List.length_map] at *; omega) | (focus (simp; done)))
            (first | with_reducible assumption | omega | (simp only [List.length_append, List.length_cons, List.length_nil, List.length_map] at *; omega) | (focus (simp; done)))
            rintro v10 s11 ⟨v'25, ⟨rfl, rfl⟩⟩
            refine incat ?_
            apply WpL.nil
            apply Out.seqN
            apply Wp.seq
            apply Wp.seq
            apply Wp.region
            refine WpL.v (V.mv) ?_
            refine WpL.o (Op1.callT rfl (sinkBytes _ _ _) (by (repeat (first | exact Sel.nil | exact Rem.here | apply Sel.cons | apply Rem.there))) ?_)
            rintro v12 s13 ⟨rfl, rfl⟩
            refine incat ?_
            refine WpL.v (V.mv) ?_
            refine WpL.o (O.lit tb (fun p29 => ?_))
            refine WpL.o (Op1.callT rfl (h2 _) (by (repeat (first | exact Sel.nil | exact Rem.here | apply Sel.cons | apply Rem.there))) ?_)
            rintro v14 s15 ⟨rfl, rfl⟩
            refine incat ?_
            refine WpL.o (Op1.fn rfl (h5) ?_)
            refine WpL.v (V.mv) ?_
            refine WpL.v (V.cmpS rfl rfl (neqS_of hq)) ?_
            apply WpL.nil
            apply Out.seqN
            refine Wp.cT ?_
            apply Wp.seq
            apply Wp.region
            refine WpL.v (V.as) ?_
            refine WpL.v (V.as) ?_
            apply WpL.nil
            apply Out.seqN
            apply Wp.ret
            apply Out.seqR
            refine Out.f2 rfl ResIs.t ResIs.t ⟨?_, rfl⟩
            exact rfl
theorem openR_le (s : List UInt8) : (openR s).2 = 0 ∨ ∃ k : Nat, (openR s).2 = (k : Int) ∧ 5 ≤ k ∧ k ≤ s.length := by
  unfold openR
  cases hg : natG s 0 0 with
  | none => exact .inl rfl
  | some q =>
    obtain ⟨v, rest⟩ := q
    have hlt := natG_lt _ _ _ _ _ hg
    dsimp only
    split
    · exact .inl rfl
    · split
      · exact .inl rfl
      · split
        · exact .inr ⟨_, rfl, by omega, by omega⟩
        · exact .inl rfl
/-- What All goes over: where each ends, and what it is. -/
def goS (s : List UInt8) : Nat → Nat → List (Nat × List UInt8)
  | 0, _ => []
  | f + 1, i => if (openR (s.drop i)).2 = 0 then [] else (i + (openR (s.drop i)).2.toNat, (openR (s.drop i)).1) :: goS s f (i + (openR (s.drop i)).2.toNat)
def allS (s : List UInt8) : List (Nat × List UInt8) := goS s (s.length + 1) 0
def encS (x : Nat × List UInt8) : List Go.Value := [I (x.1 : Int), S x.2]
theorem seal_all (s : List UInt8) : Ct Try.prog 68 [S s] [] (fun v σ' => ∃ q, v = .func (.func 85) #[] #[Ptr q 0] ∧ σ' = [cells q 9 [S s]]) := by
  refine Ct.enter Try.func68 rfl rfl fun W => ?_
  apply Wp.seq
  apply Wp.region
  refine WpL.o (O.bx1 (fun p1 => ?_))
  refine WpL.v (V.as) ?_
  apply WpL.nil
  apply Out.seqN
  apply Wp.seq
  apply Wp.region
  refine WpL.v (V.mf) ?_
  refine WpL.v (V.as) ?_
  apply WpL.nil
  apply Out.seqN
  apply Wp.ret
  refine Out.e1 rfl ResIs.t ?_
  exact ⟨_, _, ⟨_, rfl, rfl⟩, (by (repeat (first | exact Sel.nil | exact Rem.here | apply Sel.cons | apply Rem.there)))⟩
theorem seal_iter (q : Nat) (s : List UInt8) (hs : s.length ≤ 140737488351232) : Iter Try.prog 85 [Ptr q 0] [cells q 9 [S s]] encS (allS s) [cells q 9 [S s]] := by
  intro l β G X Se b0 hG0 hY
  refine Ct.enter Try.func85 rfl rfl fun W => ?_
  apply Wp.seq
  apply Wp.region
  refine WpL.v (V.as) ?_
  apply WpL.nil
  apply Out.seqN
  apply Wp.block
  refine Wp.lp [0, 1] (fun y : Nat × List (Nat × List UInt8) × Nat × β => y.1 ≤ s.length ∧ s.length + 1 ≤ y.2.2.1 + y.1 ∧ allS s = y.2.1 ++ goS s y.2.2.1 y.1 ∧ G y.2.1 y.2.2.2) (fun y => [(3, I (y.1 : Int))]) (fun y => [Se y.2.2.2]) (fun y => s.length - y.1) (0, [], s.length + 1, b0) ⟨Nat.zero_le _, Nat.le_refl _, rfl, hG0⟩ ?_
  rintro ⟨i, pre, f, b1⟩ ⟨hi, hf, hsp, hG1⟩ K hK
  dsimp only at hi hf hsp hG1
  dsimp only [List.cons_append, List.nil_append]
  obtain ⟨f, rfl⟩ : ∃ f', f = f' + 1 := ⟨f - 1, by omega⟩
  rw [goS] at hsp
  have hsl : s.drop ((i : Int)).toNat = s.drop i := by rw [Int.toNat_natCast]
  have hO := sealOpen (s.drop i) (by rw [List.length_drop]; omega)
  rcases openR_le (s.drop i) with h0 | ⟨k, h0, h5, hk⟩
  · rw [h0] at hO
    rw [if_pos h0, List.append_nil] at hsp
    apply Wp.block
    apply Wp.seq
    apply Wp.region
    refine WpL.v (V.ld1 tb) ?_
    refine WpL.v (V.mv) ?_
    refine WpL.v (V.slLoE tb rfl rfl hsl) ?_
    refine WpL.o (Op1.fn rfl (hO) ?_)
    refine WpL.v (V.mv) ?_
    refine WpL.v (V.ex) ?_
    refine WpL.v (V.ex) ?_
    refine WpL.v (V.as) ?_
    refine WpL.v (V.as) ?_
    apply WpL.nil
    apply Out.seqN
    apply Wp.seq
    apply Wp.seq
    apply Wp.region
    refine WpL.v (V.mv) ?_
    refine WpL.v (V.cmp) ?_
    apply WpL.nil
    apply Out.seqN
    refine Wp.cT ?_
    apply Wp.ret
    apply Out.seqR
    apply Out.blockR
    apply Out.seqR
    apply Out.blockR
    refine Out.e0 rfl  ?_
    focus (exact ⟨_, _, ⟨b1, .inl (by rw [hsp]; exact hG1), rfl⟩, (by (repeat (first | exact Sel.nil | exact Rem.here | apply Sel.cons | apply Rem.there)))⟩; done)
  · rw [h0] at hO
    rw [if_neg (by rw [h0]; omega), h0, Int.toNat_natCast] at hsp
    rw [List.length_drop] at hk
    have e0 : cmpI .eql (k : Int) 0 = some false := by simp [cmpI]; omega
    have hYy := hY _ _ _ b1 hsp hG1
    unfold encS at hYy
    dsimp only at hYy
    rw [show ((i + k : Nat) : Int) = (i : Int) + (k : Int) by omega] at hYy
    apply Wp.block
    apply Wp.seq
    apply Wp.region
    refine WpL.v (V.ld1 tb) ?_
    refine WpL.v (V.mv) ?_
    refine WpL.v (V.slLoE tb rfl rfl hsl) ?_
    refine WpL.o (Op1.fn rfl (hO) ?_)
    refine WpL.v (V.mv) ?_
    refine WpL.v (V.ex) ?_
    refine WpL.v (V.ex) ?_
    refine WpL.v (V.as) ?_
    refine WpL.v (V.as) ?_
    apply WpL.nil
    apply Out.seqN
    apply Wp.seq
    apply Wp.seq
    apply Wp.region
    refine WpL.v (V.mv) ?_
    refine WpL.v (V.cmp rfl rfl e0) ?_
    apply WpL.nil
    apply Out.seqN
    refine Wp.cF ?_
    apply Wp.skip
    apply Out.seqN
    apply Wp.seq
    apply Wp.region
    refine WpL.v (V.mv) ?_
    refine WpL.v (V.mv) ?_
    refine WpL.v (V.add) ?_
    refine WpL.v (V.as) ?_
    apply WpL.nil
    apply Out.seqN
    apply Wp.seq
    apply Wp.region
    refine WpL.v (V.mv) ?_
    refine WpL.v (V.mv) ?_
    refine WpL.v (V.mv) ?_
    refine WpL.o (Op1.callY rfl rfl (hYy) (by (repeat (first | exact Sel.nil | exact Rem.here | apply Sel.cons | apply Rem.there))) ?_)
    rintro v2 s3 ⟨b'21, ⟨t21, ⟨rfl, ⟨hx0, ⟨hx1, rfl⟩⟩⟩⟩⟩
    refine incat ?_
    refine WpL.v (V.not) ?_
    apply WpL.nil
    apply Out.seqN
    refine Wp.c (fun h4 => ?_) (fun h4 => ?_)
    (try simp only [decide_eq_true_eq, decide_eq_false_iff_not, Bool.not_eq_true', Bool.not_eq_false', Bool.not_eq_true, Bool.not_eq_false, not_true_eq_false, not_false_eq_true, reduceCtorEq] at h4)
    apply Wp.ret
    apply Out.blockR
    apply Out.seqR
    apply Out.blockR
    refine Out.e0 rfl  ?_
    focus (exact ⟨_, _, ⟨_, .inr ⟨pre ++ [(i + k, (openR (s.drop i)).1)], ⟨goS s f (i + k), by rw [hsp]; simp⟩, hx1 (by assumption)⟩, rfl⟩, (by (repeat (first | exact Sel.nil | exact Rem.here | apply Sel.cons | apply Rem.there)))⟩; done)
    (try simp only [decide_eq_true_eq, decide_eq_false_iff_not, Bool.not_eq_true', Bool.not_eq_false', Bool.not_eq_true, Bool.not_eq_false, not_true_eq_false, not_false_eq_true, reduceCtorEq] at h4)
    apply Wp.skip
    apply Out.blockN
    refine Out.ag hK (i + k, pre ++ [(i + k, (openR (s.drop i)).1)], f, _) ⟨by show i + k ≤ _; omega, by show _ ≤ f + (i + k); omega, by rw [hsp]; simp, hx0 (by assumption)⟩ (by show s.length - (i + k) < s.length - i; omega) (he := ?_)
    exact subEnv.cons rfl rfl (subEnv.cons rfl rfl (subEnv.cons rfl rfl subEnv.nil))
theorem goS_len (s : List UInt8) : ∀ f i, i ≤ s.length → 5 * (goS s f i).length + i ≤ s.length
  | 0, i, h => by simpa [goS] using h
  | f + 1, i, h => by
    rw [goS]
    split
    · simpa using h
    · rename_i h0
      rcases openR_le (s.drop i) with h1 | ⟨k, h1, h5, hk⟩
      · exact absurd h1 h0
      · rw [h1, Int.toNat_natCast, List.length_cons]
        rw [List.length_drop] at hk
        have := goS_len s f (i + k) (by omega)
        omega
theorem allS_len (s : List UInt8) : 5 * (allS s).length ≤ s.length := by
  have := goS_len s (s.length + 1) 0 (by omega)
  simpa [allS] using this
def lastS (l : List (Nat × List UInt8)) : Nat := ((l.map Prod.fst).getLast?).getD 0
theorem lastS_snoc (l : List (Nat × List UInt8)) (x : Nat × List UInt8) : lastS (l ++ [x]) = x.1 := by simp [lastS]
theorem seal_split (s : List UInt8) (hs : s.length ≤ 4000000) : Ct Try.prog 65 [S s] [] (fun v σ' => ∃ r, v = .tuple #[r, I (lastS (allS s) : Int)] ∧ σ' = [rows strc r 9 1 ((allS s).map Prod.snd)]) := by
  have hal := allS_len s
  refine Ct.enter Try.func65 rfl rfl fun W => ?_
  apply Wp.seq
  apply Wp.region
  refine WpL.v (V.as) ?_
  refine WpL.v (V.as) ?_
  apply WpL.nil
  apply Out.seqN
  apply Wp.seq
  apply Wp.region
  refine WpL.o (O.al tb (fun p4 => ?_))
  apply WpL.nil
  apply Out.seqN
  apply Wp.seq
  apply Wp.region
  refine WpL.o (O.al tb (fun p5 => ?_))
  refine WpL.o (O.st1 tb ?_)
  apply WpL.nil
  apply Out.seqN
  apply Wp.seq
  apply Wp.seq
  apply Wp.region
  refine WpL.v (V.mv) ?_
  refine WpL.o (Op1.callT rfl (seal_all _) (by (repeat (first | exact Sel.nil | exact Rem.here | apply Sel.cons | apply Rem.there))) ?_)
  rintro v0 s1 ⟨q9, ⟨rfl, rfl⟩⟩
  refine incat ?_
  apply WpL.nil
  apply Out.seqN
  apply Wp.block
  refine Wp.nilRows strc 9 1 ?_
  refine Wp.rg (seal_iter _ s (by omega)) (fun y : Go.Value × List (List UInt8) × Nat => [cells p4 76 [y.1], cells p5 3 [I (y.2.2 : Int)], rows strc y.1 9 1 y.2.1]) (fun pre y => y.2.1 = pre.map Prod.snd ∧ y.2.2 = lastS pre ∧ y.1.oneCell' = true) (fun _ _ _ => False) (.slice none 0 0, [], 0) ⟨rfl, rfl, rfl⟩ ?_ ?_ ?_
  · rintro pre x post ⟨v, l, k⟩ lp rec hx ⟨hl, hk, hv1⟩ hr W' D' K1 hK1
    dsimp only at hl hk hv1
    have hlen : l.length ≤ 800000 := by rw [hl, List.length_map]; rw [hx] at hal; simp at hal; omega
    apply Wp.seq
    apply Wp.region
    refine WpL.v (V.as) ?_
    apply WpL.nil
    apply Out.seqN
    apply Wp.region
    refine WpL.v (V.as) ?_
    apply WpL.nil
    refine Out.bg (by assumption) ?_
    apply Wp.block
    apply Wp.region
    refine WpL.v (V.ld1 tb) ?_
    refine WpL.v (V.mv) ?_
    refine WpL.o (O.lit tb (fun p14 => ?_))
    refine WpL.o (O.apL tb rfl rfl (by (intro _; repeat first | exact Upd.here _ _ _ | apply Upd.there)) (SrcL.one tb (by (repeat first | exact List.Mem.head _ | apply List.Mem.tail)) ones_strc) (fun g15 cap15 => ?_))
    refine WpL.v (V.mv) ?_
    refine WpL.o (O.st1 tb ?_)
    refine WpL.o (O.st1 tb ?_)
    apply WpL.nil
    apply Out.blockN
    exact Out.rd hK1 (_, l ++ [x.2], x.1) ⟨by simp [hl], (lastS_snoc pre x).symm, rfl⟩
  · rintro ⟨v, l, k⟩ c ⟨hl, hk, hv1⟩
    dsimp only at hl hk hv1
    subst hl hk
    apply Out.blockN
    apply Out.seqN
    apply Wp.seq
    refine Wp.dG [] ?_ (List.Sublist.cons _ (List.Sublist.cons_cons _ (List.Sublist.cons_cons _ (List.Sublist.cons _ (List.Sublist.cons _ List.Sublist.slnil))))) (List.Sublist.cons _ (List.Sublist.cons_cons _ (List.Sublist.cons_cons _ (List.Sublist.cons _ (List.Sublist.cons _ List.Sublist.slnil)))))
    refine WpA.tF 0 rfl (V.ld1 tb) ?_
    refine WpA.tF 1 rfl (V.ld1 tb) ?_
    refine WpA.tF 2 rfl (V.as) ?_
    refine WpA.tF 3 rfl (V.as) ?_
    refine WpA.ou ?_
    apply Out.seqN
    apply Wp.ret
    refine Out.e2 rfl ResIs.t ResIs.t ?_
    exact ⟨_, _, ⟨_, rfl, rfl⟩, (by (repeat (first | exact Sel.nil | exact Rem.here | apply Sel.cons | apply Rem.there)))⟩
  · rintro _ _ _ _ _ _ _ h
    exact h.elim
def lastD (i : Nat) (l : List (Nat × List UInt8)) : Nat := ((l.map Prod.fst).getLast?).getD i
theorem lastD_cons (i : Nat) (x : Nat × List UInt8) (l : List (Nat × List UInt8)) : lastD i (x :: l) = lastD x.1 l := by
  unfold lastD
  rw [List.map_cons, List.getLast?_cons]
  rfl
theorem goS_split (s : List UInt8) : ∀ (pre : List (Nat × List UInt8)) (f i : Nat) (x : Nat × List UInt8) (post : List (Nat × List UInt8)), i ≤ s.length → goS s f i = pre ++ x :: post →
    lastD i pre ≤ s.length ∧ ∃ k : Nat, (openR (s.drop (lastD i pre))).2 = (k : Int) ∧ 5 ≤ k ∧ k + lastD i pre ≤ s.length ∧ x = (lastD i pre + k, (openR (s.drop (lastD i pre))).1)
  | pre, 0, i, x, post, _, h => by simp [goS] at h
  | pre, f + 1, i, x, post, hi, h => by
    rw [goS] at h
    rcases openR_le (s.drop i) with h1 | ⟨k, h1, h5, hk⟩
    · rw [if_pos h1] at h; simp at h
    · rw [if_neg (by omega), h1, Int.toNat_natCast] at h
      rw [List.length_drop] at hk
      cases pre with
      | nil =>
        simp only [List.nil_append, List.cons.injEq] at h
        exact ⟨hi, k, h1, h5, by show k + i ≤ _; omega, h.1.symm⟩
      | cons y pre =>
        simp only [List.cons_append, List.cons.injEq] at h
        rw [lastD_cons, ← h.1]
        exact goS_split s pre f (i + k) x post (by omega) h.2
theorem goS_end (s : List UInt8) : ∀ (f i : Nat), i ≤ s.length → s.length + 1 ≤ f + i → lastD i (goS s f i) ≤ s.length ∧ (openR (s.drop (lastD i (goS s f i)))).2 = 0
  | 0, i, h1, h2 => by omega
  | f + 1, i, hi, hf => by
    rw [goS]
    rcases openR_le (s.drop i) with h1 | ⟨k, h1, h5, hk⟩
    · rw [if_pos h1]; exact ⟨hi, h1⟩
    · rw [if_neg (by omega), h1, Int.toNat_natCast, lastD_cons]
      rw [List.length_drop] at hk
      exact goS_end s f (i + k) (by omega) (by omega)
theorem allS_split {s : List UInt8} {pre : List (Nat × List UInt8)} {x : Nat × List UInt8} {post : List (Nat × List UInt8)} (h : allS s = pre ++ x :: post) :
    lastS pre ≤ s.length ∧ ∃ k : Nat, (openR (s.drop (lastS pre))).2 = (k : Int) ∧ 5 ≤ k ∧ k + lastS pre ≤ s.length ∧ x = (lastS pre + k, (openR (s.drop (lastS pre))).1) :=
  goS_split s pre _ 0 x post (Nat.zero_le _) h
theorem allS_end (s : List UInt8) : lastS (allS s) ≤ s.length ∧ (openR (s.drop (lastS (allS s)))).2 = 0 := goS_end s _ 0 (Nat.zero_le _) (by omega)
end Go.Proofs.Ytgbflapcadlelaa
