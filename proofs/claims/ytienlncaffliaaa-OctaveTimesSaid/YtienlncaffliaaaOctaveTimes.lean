/-
  The statement OctaveTimes of layer 1: Times goes over as many numbers as the count tells, and no further than there is something. Proved for every input.
-/
import Derived.Test.YtienlncaffliaaaOct4
import Derived.Test.YtienlncaffliaaaHeapB
namespace Go.Proofs.Ytienlncaffliaaa
open Go.HL
set_option linter.unusedSimpArgs false
set_option linter.unusedVariables false
set_option maxRecDepth 8000
theorem src_times (p : Go.Value) (most : Int) (hp : p.oneCell' = true) : Ct Try.prog 49 [p, I most] [] (fun v σ' => ∃ q1 q2, v = .func (.func 67) #[] #[Ptr q1 0, Ptr q2 0] ∧ σ' = [cells q1 66 [p], cells q2 3 [I most]]) := by
  refine Ct.enter Try.func49 rfl rfl fun W => ?_
  apply Wp.seq
  apply Wp.region
  refine WpL.o (O.bx1 (fun p2 => ?_))
  refine WpL.o (O.bx1 (fun p3 => ?_))
  refine WpL.v (V.as) ?_
  apply WpL.nil
  apply Out.seqN
  apply Wp.seq
  apply Wp.region
  refine WpL.v (V.mf) ?_
  refine WpL.v (V.as) ?_
  apply WpL.nil
  apply Out.seqN
  apply Wp.ret
  refine Out.e1 rfl ResIs.t ?_
  focus (exact ⟨_, _, ⟨_, _, rfl, rfl⟩, (by (repeat (first | exact Sel.nil | exact Rem.here | apply Sel.cons | apply Rem.there)))⟩; done)
theorem natS_nonneg (s : OctaveSource) (most : Int) : 0 ≤ (natS s most).1 := by
  unfold natS natT
  split
  · simp
  · split
    · split <;> simp <;> omega
    · simp
theorem times_iter (b q1 q2 : Nat) (s : OctaveSource) (most : Int) (hs : s.in_.length ≤ 9223372036854775807) (hm : (natS s most).1 ≤ 100000) :
    IterZ Try.prog 67 [Ptr q1 0, Ptr q2 0] (fun s : OctaveSource => [cells b 99 s.c]) (fun i : Nat => [I (i : Int)]) (fun k i c c' => i = k ∧ (k : Int) < (natS s most).1 ∧ c.dry = false ∧ c' = c)
      (fun k c => (k : Int) ≤ (natS s most).1 ∧ ((k : Int) = (natS s most).1 ∨ c.dry = true)) [cells q1 66 [Ptr b 0], cells q2 3 [I most], cells b 99 s.c] [cells q1 66 [Ptr b 0], cells q2 3 [I most]] (natS s most).2 := by
  have h0 := natS_nonneg s most
  intro l γ pr G X S c0 hp0 hG0 hY
  refine Ct.enter Try.func67 rfl rfl fun W => ?_
  apply Wp.seq
  apply Wp.region
  refine WpL.v (V.ld1 tb) ?_
  refine WpL.v (V.ld1 tb) ?_
  refine WpL.o (Op1.callT rfl (srcNat _ _ _ ?_) (by (repeat (first | exact Sel.nil | exact Rem.here | apply Sel.cons | apply Rem.there))) ?_)
  (first | with_reducible assumption | omega | (simp only [List.length_append, List.length_cons, List.length_nil, List.length_map] at *; omega) | (focus (simp; done)))
  rintro v0 s1 ⟨rfl, rfl⟩
  refine incat ?_
  refine WpL.v (V.mv) ?_
  apply WpL.nil
  apply Out.seqN
  apply Wp.block
  rw [← hp0]
  generalize (natS s most).1 = n at *
  refine Wp.lp [7, 0, 1] (fun y : Nat × γ => (y.1 : Int) ≤ n ∧ G y.1 y.2) (fun y => [(8, I (y.1 : Int))]) (fun y => [S y.2, cells b 99 (pr y.2).c]) (fun y => n.toNat - y.1) (0, c0) ⟨by simpa using h0, hG0⟩ ?_
  rintro ⟨k, c⟩ ⟨hk, hG⟩ K hK
  dsimp only at hk hG
  dsimp only [List.cons_append, List.nil_append]
  by_cases hlt : (k : Int) < n
  · have hD := srcDry b (pr c)
    cases hd : (pr c).dry with
    | true =>
      rw [hd] at hD
      apply Wp.seq
      apply Wp.region
      refine WpL.v (V.cmp) ?_
      apply WpL.nil
      apply Out.seqN
      apply Wp.seq
      refine Wp.c (fun ht10 => ?_) (fun ht10 => ?_)
      (try simp only [decide_eq_true_eq, decide_eq_false_iff_not, Bool.not_eq_true', Bool.not_eq_false', Bool.not_eq_true, Bool.not_eq_false, not_true_eq_false, not_false_eq_true, reduceCtorEq] at ht10)
      apply Wp.skip
      apply Out.seqN
      apply Wp.seq
      apply Wp.block
      apply Wp.seq
      apply Wp.region
      refine WpL.v (V.mv) ?_
      refine WpL.v (V.as) ?_
      apply WpL.nil
      apply Out.seqN
      apply Wp.seq
      apply Wp.region
      refine WpL.v (V.ld1 tb) ?_
      refine WpL.o (Op1.callT rfl (hD) (by (repeat (first | exact Sel.nil | exact Rem.here | apply Sel.cons | apply Rem.there))) ?_)
      rintro v1 s2 ⟨rfl, rfl⟩
      refine incat ?_
      refine WpL.v (V.mv) ?_
      refine WpL.sk ?_
      refine WpL.sk ?_
      refine WpL.sk ?_
      refine WpL.sk ?_
      refine WpL.v (V.pT) ?_
      apply WpL.nil
      apply Out.seqN
      refine Wp.cT ?_
      apply Wp.ret
      apply Out.blockR
      apply Out.seqR
      apply Out.seqR
      apply Out.blockR
      refine Out.e0 rfl  ?_
      focus (exact ⟨_, _, ⟨c, k, .inl ⟨hG, by omega, .inr hd⟩, rfl⟩, (by (repeat (first | exact Sel.nil | exact Rem.here | apply Sel.cons | apply Rem.there)))⟩; done)
      (try simp only [decide_eq_true_eq, decide_eq_false_iff_not, Bool.not_eq_true', Bool.not_eq_false', Bool.not_eq_true, Bool.not_eq_false, not_true_eq_false, not_false_eq_true, reduceCtorEq] at ht10)
      (exfalso; omega)
    | false =>
      rw [hd] at hD
      have hYy := hY k k c (pr c) hG ⟨rfl, hlt, hd, rfl⟩
      apply Wp.seq
      apply Wp.region
      refine WpL.v (V.cmp) ?_
      apply WpL.nil
      apply Out.seqN
      apply Wp.seq
      refine Wp.c (fun ht20 => ?_) (fun ht20 => ?_)
      (try simp only [decide_eq_true_eq, decide_eq_false_iff_not, Bool.not_eq_true', Bool.not_eq_false', Bool.not_eq_true, Bool.not_eq_false, not_true_eq_false, not_false_eq_true, reduceCtorEq] at ht20)
      apply Wp.skip
      apply Out.seqN
      apply Wp.seq
      apply Wp.block
      apply Wp.seq
      apply Wp.region
      refine WpL.v (V.mv) ?_
      refine WpL.v (V.as) ?_
      apply WpL.nil
      apply Out.seqN
      apply Wp.seq
      apply Wp.region
      refine WpL.v (V.ld1 tb) ?_
      refine WpL.o (Op1.callT rfl (hD) (by (repeat (first | exact Sel.nil | exact Rem.here | apply Sel.cons | apply Rem.there))) ?_)
      rintro v1 s2 ⟨rfl, rfl⟩
      refine incat ?_
      refine WpL.v (V.mv) ?_
      refine WpL.v (V.mv) ?_
      refine WpL.v (V.mv) ?_
      refine WpL.o (Op1.callY rfl rfl (hYy) (by (repeat (first | exact Sel.nil | exact Rem.here | apply Sel.cons | apply Rem.there))) ?_)
      rintro v5 s6 ⟨c'16, ⟨t16, ⟨rfl, ⟨hx3, ⟨hx4, rfl⟩⟩⟩⟩⟩
      refine incat ?_
      refine WpL.v (V.not) ?_
      refine WpL.v (V.pF) ?_
      apply WpL.nil
      apply Out.seqN
      refine Wp.c (fun ht27 => ?_) (fun ht27 => ?_)
      (try simp only [decide_eq_true_eq, decide_eq_false_iff_not, Bool.not_eq_true', Bool.not_eq_false', Bool.not_eq_true, Bool.not_eq_false, not_true_eq_false, not_false_eq_true, reduceCtorEq] at ht27)
      apply Wp.ret
      apply Out.blockR
      apply Out.seqR
      apply Out.seqR
      apply Out.blockR
      refine Out.e0 rfl  ?_
      focus (exact ⟨_, _, ⟨_, k + 1, .inr (by apply_assumption; assumption), rfl⟩, (by (repeat (first | exact Sel.nil | exact Rem.here | apply Sel.cons | apply Rem.there)))⟩; done)
      (try simp only [decide_eq_true_eq, decide_eq_false_iff_not, Bool.not_eq_true', Bool.not_eq_false', Bool.not_eq_true, Bool.not_eq_false, not_true_eq_false, not_false_eq_true, reduceCtorEq] at ht27)
      apply Wp.skip
      apply Out.blockN
      apply Out.seqN
      apply Wp.region
      refine WpL.v (V.add) ?_
      refine WpL.v (V.mv) ?_
      apply WpL.nil
      rotate_left
      (try simp only [decide_eq_true_eq, decide_eq_false_iff_not, Bool.not_eq_true', Bool.not_eq_false', Bool.not_eq_true, Bool.not_eq_false, not_true_eq_false, not_false_eq_true, reduceCtorEq] at ht20)
      (exfalso; omega)
      exact Out.ag hK (k + 1, _) ⟨by show ((k + 1 : Nat) : Int) ≤ n; omega, by apply_assumption; assumption⟩ (by show n.toNat - (k + 1) < n.toNat - k; omega)
  · have hkn : (k : Int) = n := by omega
    apply Wp.seq
    apply Wp.region
    refine WpL.v (V.cmp) ?_
    apply WpL.nil
    apply Out.seqN
    apply Wp.seq
    refine Wp.c (fun ht30 => ?_) (fun ht30 => ?_)
    (try simp only [decide_eq_true_eq, decide_eq_false_iff_not, Bool.not_eq_true', Bool.not_eq_false', Bool.not_eq_true, Bool.not_eq_false, not_true_eq_false, not_false_eq_true, reduceCtorEq] at ht30)
    (exfalso; omega)
    (try simp only [decide_eq_true_eq, decide_eq_false_iff_not, Bool.not_eq_true', Bool.not_eq_false', Bool.not_eq_true, Bool.not_eq_false, not_true_eq_false, not_false_eq_true, reduceCtorEq] at ht30)
    apply Wp.exit
    apply Out.seqE
    apply Out.seqE
    apply Out.blockE
    refine Out.e0 rfl  ?_
    focus (exact ⟨_, _, ⟨c, k, .inl ⟨hG, by omega, .inl hkn⟩, rfl⟩, (by (repeat (first | exact Sel.nil | exact Rem.here | apply Sel.cons | apply Rem.there)))⟩; done)
/-- The source behind k single bytes. -/
def srcAt (l : List UInt8) (k : Nat) : OctaveSource := if k ≤ l.length then ⟨l.drop k, false⟩ else ⟨[], true⟩
theorem srcAt_succ (l : List UInt8) {k : Nat} (h : k ≤ l.length) : (rawS (srcAt l k) 1).2 = srcAt l (k + 1) := by
  rw [rawS_one]
  simp only [srcAt, if_pos h]
  by_cases h1 : k < l.length
  · have : l.drop k = l[k] :: l.drop (k + 1) := by rw [List.drop_eq_getElem_cons h1]
    rw [this, if_pos (by omega)]
  · have : l.drop k = [] := List.drop_eq_nil_of_le (by omega)
    rw [this, if_neg (by omega)]
theorem srcAt_len (l : List UInt8) (k : Nat) : (srcAt l k).in_.length ≤ l.length := by
  unfold srcAt; split <;> simp
theorem octaveTimes_walk (b : List UInt8) (most stop : Int) : Fun Try.prog 15 [S b, I most, I stop] (B true) := by
  refine Ct.enter Try.func15 rfl rfl fun W => ?_
  apply Wp.seq
  apply Wp.region
  refine WpL.o (O.bx1 (fun p5 => ?_))
  refine WpL.o (O.al tb (fun p6 => ?_))
  apply WpL.nil
  apply Out.seqN
  apply Wp.seq
  apply Wp.seq
  apply Wp.region
  refine WpL.o (Op1.fn rfl (alive01) ?_)
  refine WpL.v (V.not) ?_
  apply WpL.nil
  apply Out.seqN
  refine Wp.cF ?_
  apply Wp.skip
  apply Out.seqN
  apply Wp.seq
  apply Wp.seq
  apply Wp.region
  refine WpL.v (V.mv) ?_
  refine WpL.v (V.lenS tb) ?_
  refine WpL.v (V.cmp) ?_
  refine WpL.v (V.mv) ?_
  refine WpL.pt (fun ha0 => ?_) (fun ha0 => ?_)
  (try simp only [decide_eq_true_eq, decide_eq_false_iff_not, Bool.not_eq_true', Bool.not_eq_false', Bool.not_eq_true, Bool.not_eq_false, not_true_eq_false, not_false_eq_true, reduceCtorEq] at ha0)
  refine WpL.sk ?_
  refine WpL.sk ?_
  refine WpL.v (V.pT) ?_
  apply WpL.nil
  apply Out.seqN
  refine Wp.cT ?_
  apply Wp.seq
  apply Wp.region
  refine WpL.o (O.st1 tb ?_)
  apply WpL.nil
  apply Out.seqN
  apply Wp.ret
  apply Out.seqR
  refine Out.f1 rfl (ResIs.c1 tb) ⟨?_, rfl⟩
  exact rfl
  (try simp only [decide_eq_true_eq, decide_eq_false_iff_not, Bool.not_eq_true', Bool.not_eq_false', Bool.not_eq_true, Bool.not_eq_false, not_true_eq_false, not_false_eq_true, reduceCtorEq] at ha0)
  refine WpL.v (V.mv) ?_
  refine WpL.v (V.cmp) ?_
  refine WpL.v (V.pF) ?_
  apply WpL.nil
  apply Out.seqN
  refine Wp.c (fun ha1 => ?_) (fun ha1 => ?_)
  (try simp only [decide_eq_true_eq, decide_eq_false_iff_not, Bool.not_eq_true', Bool.not_eq_false', Bool.not_eq_true, Bool.not_eq_false, not_true_eq_false, not_false_eq_true, reduceCtorEq] at ha1)
  apply Wp.seq
  apply Wp.region
  refine WpL.o (O.st1 tb ?_)
  apply WpL.nil
  apply Out.seqN
  apply Wp.ret
  apply Out.seqR
  refine Out.f1 rfl (ResIs.c1 tb) ⟨?_, rfl⟩
  exact rfl
  (try simp only [decide_eq_true_eq, decide_eq_false_iff_not, Bool.not_eq_true', Bool.not_eq_false', Bool.not_eq_true, Bool.not_eq_false, not_true_eq_false, not_false_eq_true, reduceCtorEq] at ha1)
  apply Wp.skip
  apply Out.seqN
  apply Wp.seq
  apply Wp.region
  refine WpL.v (V.mv) ?_
  refine WpL.o (Op1.callT rfl (srcFrom _) (by (repeat (first | exact Sel.nil | exact Rem.here | apply Sel.cons | apply Rem.there))) ?_)
  rintro v2 s3 ⟨b24, ⟨rfl, rfl⟩⟩
  refine incat ?_
  refine WpL.o (O.al tb (fun p7 => ?_))
  refine WpL.o (O.st1 tb ?_)
  apply WpL.nil
  apply Out.seqN
  apply Wp.seq
  apply Wp.region
  refine WpL.v (V.mv) ?_
  refine WpL.v (V.mv) ?_
  refine WpL.o (Op1.fn rfl (taken _ _ ?_) ?_)
  (first | with_reducible assumption | omega | (simp only [List.length_append, List.length_cons, List.length_nil, List.length_map] at *; omega) | (focus (simp; done)))
  refine WpL.v (V.mv) ?_
  refine WpL.v (V.ex) ?_
  refine WpL.v (V.ex) ?_
  refine WpL.v (V.as) ?_
  refine WpL.v (V.as) ?_
  apply WpL.nil
  apply Out.seqN
  apply Wp.seq
  apply Wp.region
  refine WpL.o (O.al tb (fun p10 => ?_))
  refine WpL.o (O.st1 tb ?_)
  apply WpL.nil
  apply Out.seqN
  apply Wp.seq
  have hbig : (OctaveSource.mk b false).in_.length ≤ 9223372036854775807 := by show b.length ≤ _; omega
  rcases taken_law b most with ⟨ht, hn⟩ | ⟨v, p, rest, hb, hp0, hvm, ht, hn⟩
  · have hI := fun q1 q2 => times_iter b24 q1 q2 ⟨b, false⟩ most hbig (by rw [hn]; simp)
    rw [hn] at hI
    simp only [ht]
    apply Wp.seq
    apply Wp.region
    refine WpL.v (V.ld1 tb) ?_
    refine WpL.v (V.mv) ?_
    refine WpL.o (Op1.callT rfl (src_times _ _ rfl) (by (repeat (first | exact Sel.nil | exact Rem.here | apply Sel.cons | apply Rem.there))) ?_)
    rintro v0 s1 ⟨q133, ⟨q233, ⟨rfl, rfl⟩⟩⟩
    refine incat ?_
    apply WpL.nil
    apply Out.seqN
    apply Wp.block
    refine Wp.rgZ (hI _ _) (fun c : OctaveSource => c) (fun c => [cells p10 3 [I 0]]) (fun k c => k = 0) (fun _ _ _ => False) ⟨[], true⟩ rfl rfl ?_ ?_ ?_
    · rintro k i c b' l rec hk ⟨_, h, _⟩
      simp only at h
      omega
    · rintro k c b' hk _
      dsimp only [List.cons_append, List.nil_append]
      apply Out.blockN
      apply Out.seqN
      apply Wp.seq
      apply Wp.region
      refine WpL.v (V.mv) ?_
      refine WpL.v (V.lenS tb) ?_
      refine WpL.v (V.mv) ?_
      refine WpL.v (V.sub) ?_
      refine WpL.v (V.as) ?_
      apply WpL.nil
      apply Out.seqN
      apply Wp.seq
      apply Wp.region
      refine WpL.v (V.mv) ?_
      refine WpL.v (V.mv) ?_
      refine WpL.v (V.add) ?_
      refine WpL.v (V.min) ?_
      refine WpL.v (V.as) ?_
      apply WpL.nil
      apply Out.seqN
      apply Wp.seq
      apply Wp.seq
      apply Wp.region
      refine WpL.v (V.ld1 tb) ?_
      refine WpL.v (V.cmp) ?_
      refine WpL.v (V.mv) ?_
      refine WpL.pt (fun hc0 => ?_) (fun hc0 => ?_)
      (try simp only [decide_eq_true_eq, decide_eq_false_iff_not, Bool.not_eq_true', Bool.not_eq_false', Bool.not_eq_true, Bool.not_eq_false, not_true_eq_false, not_false_eq_true, reduceCtorEq] at hc0)
      refine WpL.v (V.ld1 tb) ?_
      refine WpL.v (V.mv) ?_
      refine WpL.v (V.cmp) ?_
      refine WpL.v (V.pT) ?_
      apply WpL.nil
      apply Out.seqN
      refine Wp.c (fun hc1 => ?_) (fun hc1 => ?_)
      (try simp only [decide_eq_true_eq, decide_eq_false_iff_not, Bool.not_eq_true', Bool.not_eq_false', Bool.not_eq_true, Bool.not_eq_false, not_true_eq_false, not_false_eq_true, reduceCtorEq] at hc1)
      (exfalso; omega)
      (try simp only [decide_eq_true_eq, decide_eq_false_iff_not, Bool.not_eq_true', Bool.not_eq_false', Bool.not_eq_true, Bool.not_eq_false, not_true_eq_false, not_false_eq_true, reduceCtorEq] at hc1)
      apply Wp.skip
      apply Out.seqN
      apply Wp.seq
      apply Wp.region
      refine WpL.v (V.ld1 tb) ?_
      refine WpL.v (V.mv) ?_
      refine WpL.v (V.cmp) ?_
      refine WpL.o (O.st1 tb ?_)
      apply WpL.nil
      apply Out.seqN
      apply Wp.ret
      refine Out.f1 rfl (ResIs.c1 tb) ⟨?_, rfl⟩
      exact rfl
      (try simp only [decide_eq_true_eq, decide_eq_false_iff_not, Bool.not_eq_true', Bool.not_eq_false', Bool.not_eq_true, Bool.not_eq_false, not_true_eq_false, not_false_eq_true, reduceCtorEq] at hc0)
      refine WpL.sk ?_
      refine WpL.sk ?_
      refine WpL.sk ?_
      refine WpL.v (V.pF) ?_
      apply WpL.nil
      apply Out.seqN
      refine Wp.cF ?_
      apply Wp.skip
      apply Out.seqN
      apply Wp.seq
      apply Wp.region
      refine WpL.v (V.ld1 tb) ?_
      refine WpL.v (V.mv) ?_
      refine WpL.v (V.cmp) ?_
      refine WpL.o (O.st1 tb ?_)
      apply WpL.nil
      apply Out.seqN
      apply Wp.ret
      refine Out.f1 rfl (ResIs.c1 tb) ⟨?_, rfl⟩
      exact rfl
    · rintro _ _ _ _ _ _ h
      exact h.elim
  · have hbl : b.length = p.length + rest.length := by rw [hb]; simp
    have hI := fun q1 q2 => times_iter b24 q1 q2 ⟨b, false⟩ most hbig (by rw [hn]; show (v : Int) ≤ _; omega)
    rw [hn] at hI
    simp only [ht]
    have hs0 : srcAt rest 0 = ⟨rest, false⟩ := by simp [srcAt]
    apply Wp.seq
    apply Wp.region
    refine WpL.v (V.ld1 tb) ?_
    refine WpL.v (V.mv) ?_
    refine WpL.o (Op1.callT rfl (src_times _ _ rfl) (by (repeat (first | exact Sel.nil | exact Rem.here | apply Sel.cons | apply Rem.there))) ?_)
    rintro v0 s1 ⟨q133, ⟨q233, ⟨rfl, rfl⟩⟩⟩
    refine incat ?_
    apply WpL.nil
    apply Out.seqN
    apply Wp.block
    refine Wp.rgZ (hI _ _) (fun c : Nat × OctaveSource => c.2) (fun c => [cells p10 3 [I (c.1 : Int)], cells p5 3 [I stop], cells p6 4 [B false], cells p7 66 [Ptr b24 0]]) (fun k c => c = (k, srcAt rest k) ∧ (stop < 0 ∨ (k : Int) ≤ stop) ∧ k ≤ rest.length + 1)
      (fun e k c => e = .exit 0 ∧ c.1 = k ∧ (k : Int) = stop + 1 ∧ 0 ≤ stop ∧ k ≤ v ∧ k ≤ rest.length + 1) (0, srcAt rest 0) hs0 ⟨rfl, by omega, by omega⟩ ?_ ?_ ?_
    · rintro k i c b' l rec ⟨rfl, hst, hkl⟩ ⟨rfl, hlt, hdry, rfl⟩ hr W' D' K hK
      dsimp only at hlt hdry
      dsimp only [List.cons_append, List.nil_append]
      have hkr : i ≤ rest.length := by
        unfold srcAt at hdry
        split at hdry
        · assumption
        · cases hdry
      have hraw := srcRaw b24 (srcAt rest i) 1 (by have := srcAt_len rest i; omega)
      rw [srcAt_succ rest hkr] at hraw
      apply Wp.region
      refine WpL.v (V.as) ?_
      apply WpL.nil
      refine Out.bg (by assumption) ?_
      apply Wp.block
      apply Wp.seq
      apply Wp.seq
      apply Wp.region
      refine WpL.v (V.mv) ?_
      refine WpL.v (V.ld1 tb) ?_
      refine WpL.v (V.cmp) ?_
      apply WpL.nil
      apply Out.seqN
      refine Wp.c (fun he0 => ?_) (fun he0 => ?_)
      (try simp only [decide_eq_true_eq, decide_eq_false_iff_not, Bool.not_eq_true', Bool.not_eq_false', Bool.not_eq_true, Bool.not_eq_false, not_true_eq_false, not_false_eq_true, reduceCtorEq] at he0)
      (try simp only [decide_eq_true_eq, decide_eq_false_iff_not, Bool.not_eq_true', Bool.not_eq_false', Bool.not_eq_true, Bool.not_eq_false, not_true_eq_false, not_false_eq_true, reduceCtorEq] at he0)
      apply Wp.skip
      apply Out.seqN
      apply Wp.seq
      apply Wp.region
      refine WpL.v (V.ld1 tb) ?_
      refine WpL.v (V.add) ?_
      refine WpL.o (O.st1 tb ?_)
      apply WpL.nil
      apply Out.seqN
      apply Wp.seq
      apply Wp.seq
      apply Wp.region
      refine WpL.v (V.mv) ?_
      refine WpL.v (V.ld1 tb) ?_
      refine WpL.v (V.cmp) ?_
      apply WpL.nil
      apply Out.seqN
      refine Wp.c (fun he1 => ?_) (fun he1 => ?_)
      (try simp only [decide_eq_true_eq, decide_eq_false_iff_not, Bool.not_eq_true', Bool.not_eq_false', Bool.not_eq_true, Bool.not_eq_false, not_true_eq_false, not_false_eq_true, reduceCtorEq] at he1)
      apply Wp.exit
      apply Out.seqE
      refine Out.blockO' ?_
      rotate_left
      (try simp only [decide_eq_true_eq, decide_eq_false_iff_not, Bool.not_eq_true', Bool.not_eq_false', Bool.not_eq_true, Bool.not_eq_false, not_true_eq_false, not_false_eq_true, reduceCtorEq] at he1)
      apply Wp.skip
      apply Out.seqN
      apply Wp.region
      refine WpL.v (V.ld1 tb) ?_
      refine WpL.o (Op1.callT rfl (hraw) (by (repeat (first | exact Sel.nil | exact Rem.here | apply Sel.cons | apply Rem.there))) ?_)
      rintro v2 s3 ⟨rfl, rfl⟩
      refine incat ?_
      apply WpL.nil
      apply Out.blockN
      rotate_left
      · exact Out.rd hK (i + 1, srcAt rest i) ⟨rfl, rfl, by push_cast; omega, by omega, by omega, by omega⟩
      · exact Out.rd hK (i + 1, srcAt rest (i + 1)) ⟨rfl, by omega, by omega⟩
    · rintro k c b' ⟨rfl, hst, hkl⟩ ⟨hkn, hend⟩
      dsimp only at hkn hend
      have hend2 : (k : Int) = v ∨ rest.length < k := by
        rcases hend with h | h
        · exact .inl h
        · right
          unfold srcAt at h
          split at h
          · cases h
          · omega
      dsimp only [List.cons_append, List.nil_append]
      apply Out.blockN
      apply Out.seqN
      apply Wp.seq
      apply Wp.region
      refine WpL.v (V.mv) ?_
      refine WpL.v (V.lenS tb) ?_
      refine WpL.v (V.mv) ?_
      refine WpL.v (V.sub) ?_
      refine WpL.v (V.as) ?_
      apply WpL.nil
      apply Out.seqN
      apply Wp.seq
      apply Wp.region
      refine WpL.v (V.mv) ?_
      refine WpL.v (V.mv) ?_
      refine WpL.v (V.add) ?_
      refine WpL.v (V.min) ?_
      refine WpL.v (V.as) ?_
      apply WpL.nil
      apply Out.seqN
      apply Wp.seq
      apply Wp.seq
      apply Wp.region
      refine WpL.v (V.ld1 tb) ?_
      refine WpL.v (V.cmp) ?_
      refine WpL.v (V.mv) ?_
      refine WpL.pt (fun hf0 => ?_) (fun hf0 => ?_)
      (try simp only [decide_eq_true_eq, decide_eq_false_iff_not, Bool.not_eq_true', Bool.not_eq_false', Bool.not_eq_true, Bool.not_eq_false, not_true_eq_false, not_false_eq_true, reduceCtorEq] at hf0)
      refine WpL.v (V.ld1 tb) ?_
      refine WpL.v (V.mv) ?_
      refine WpL.v (V.cmp) ?_
      refine WpL.v (V.pT) ?_
      apply WpL.nil
      apply Out.seqN
      refine Wp.c (fun hf1 => ?_) (fun hf1 => ?_)
      (try simp only [decide_eq_true_eq, decide_eq_false_iff_not, Bool.not_eq_true', Bool.not_eq_false', Bool.not_eq_true, Bool.not_eq_false, not_true_eq_false, not_false_eq_true, reduceCtorEq] at hf1)
      (exfalso; omega)
      (try simp only [decide_eq_true_eq, decide_eq_false_iff_not, Bool.not_eq_true', Bool.not_eq_false', Bool.not_eq_true, Bool.not_eq_false, not_true_eq_false, not_false_eq_true, reduceCtorEq] at hf1)
      apply Wp.skip
      apply Out.seqN
      apply Wp.seq
      apply Wp.region
      refine WpL.v (V.ld1 tb) ?_
      refine WpL.v (V.mv) ?_
      refine WpL.v (V.cmp) ?_
      refine WpL.o (O.st1 tb ?_)
      apply WpL.nil
      apply Out.seqN
      apply Wp.ret
      refine Out.f1 rfl (ResIs.c1 tb) ⟨?_, rfl⟩
      focus ((refine congrArg Go.Value.bool ?_; simp only [decide_eq_true_eq]; omega); done)
      (try simp only [decide_eq_true_eq, decide_eq_false_iff_not, Bool.not_eq_true', Bool.not_eq_false', Bool.not_eq_true, Bool.not_eq_false, not_true_eq_false, not_false_eq_true, reduceCtorEq] at hf0)
      refine WpL.sk ?_
      refine WpL.sk ?_
      refine WpL.sk ?_
      refine WpL.v (V.pF) ?_
      apply WpL.nil
      apply Out.seqN
      refine Wp.cF ?_
      apply Wp.skip
      apply Out.seqN
      apply Wp.seq
      apply Wp.region
      refine WpL.v (V.ld1 tb) ?_
      refine WpL.v (V.mv) ?_
      refine WpL.v (V.cmp) ?_
      refine WpL.o (O.st1 tb ?_)
      apply WpL.nil
      apply Out.seqN
      apply Wp.ret
      refine Out.f1 rfl (ResIs.c1 tb) ⟨?_, rfl⟩
      focus ((refine congrArg Go.Value.bool ?_; simp only [decide_eq_true_eq]; omega); done)
    · rintro k ⟨c1, c2⟩ b' e hwy hgo ⟨rfl, h1, h2, h3, h4, h5⟩
      dsimp only at h1
      subst h1
      dsimp only [List.cons_append, List.nil_append]
      apply Out.blockE
      apply Out.seqN
      apply Wp.seq
      apply Wp.region
      refine WpL.v (V.mv) ?_
      refine WpL.v (V.lenS tb) ?_
      refine WpL.v (V.mv) ?_
      refine WpL.v (V.sub) ?_
      refine WpL.v (V.as) ?_
      apply WpL.nil
      apply Out.seqN
      apply Wp.seq
      apply Wp.region
      refine WpL.v (V.mv) ?_
      refine WpL.v (V.mv) ?_
      refine WpL.v (V.add) ?_
      refine WpL.v (V.min) ?_
      refine WpL.v (V.as) ?_
      apply WpL.nil
      apply Out.seqN
      apply Wp.seq
      apply Wp.seq
      apply Wp.region
      refine WpL.v (V.ld1 tb) ?_
      refine WpL.v (V.cmp) ?_
      refine WpL.v (V.mv) ?_
      refine WpL.pt (fun hg0 => ?_) (fun hg0 => ?_)
      (try simp only [decide_eq_true_eq, decide_eq_false_iff_not, Bool.not_eq_true', Bool.not_eq_false', Bool.not_eq_true, Bool.not_eq_false, not_true_eq_false, not_false_eq_true, reduceCtorEq] at hg0)
      refine WpL.v (V.ld1 tb) ?_
      refine WpL.v (V.mv) ?_
      refine WpL.v (V.cmp) ?_
      refine WpL.v (V.pT) ?_
      apply WpL.nil
      apply Out.seqN
      refine Wp.c (fun hg1 => ?_) (fun hg1 => ?_)
      (try simp only [decide_eq_true_eq, decide_eq_false_iff_not, Bool.not_eq_true', Bool.not_eq_false', Bool.not_eq_true, Bool.not_eq_false, not_true_eq_false, not_false_eq_true, reduceCtorEq] at hg1)
      apply Wp.region
      refine WpL.v (V.ld1 tb) ?_
      refine WpL.v (V.add) ?_
      refine WpL.v (V.as) ?_
      apply WpL.nil
      apply Out.seqN
      apply Wp.seq
      apply Wp.region
      refine WpL.v (V.ld1 tb) ?_
      refine WpL.v (V.mv) ?_
      refine WpL.v (V.cmp) ?_
      refine WpL.o (O.st1 tb ?_)
      apply WpL.nil
      apply Out.seqN
      apply Wp.ret
      refine Out.f1 rfl (ResIs.c1 tb) ⟨?_, rfl⟩
      focus ((refine congrArg Go.Value.bool ?_; simp only [decide_eq_true_eq]; omega); done)
      (try simp only [decide_eq_true_eq, decide_eq_false_iff_not, Bool.not_eq_true', Bool.not_eq_false', Bool.not_eq_true, Bool.not_eq_false, not_true_eq_false, not_false_eq_true, reduceCtorEq] at hg1)
      (exfalso; omega)
      (try simp only [decide_eq_true_eq, decide_eq_false_iff_not, Bool.not_eq_true', Bool.not_eq_false', Bool.not_eq_true, Bool.not_eq_false, not_true_eq_false, not_false_eq_true, reduceCtorEq] at hg0)
      (exfalso; omega)
open Go Go.ChangeShapes Go.WideShapes Go.ChangeAt Go.RowKit
theorem octaveTimes_read : (Try.f15.params.toList.all fun t => Try.prog.readableRec t && decide (t < Try.prog.types.size)) = true := by kernel_rfl
theorem octaveTimes_lifted (os : Go.Os) (started : os.Started) (H : Type) (enc : Go.TypeId × Go.Value → H) :
    ReturnsInHanded {} Try.checked os 15 .any (Rows.octaveTimesSpec.pre6 enc Try.prog Try.f15 Rows.octaveTimesRow.domain false) (Rows.octaveTimesSpec.post enc Try.prog Try.f15 false true false false) := by
  refine returnsInHanded_of_change_sized (C := Try.checked) own started (by kernel_rfl) Try.func15
    (ChangeSpec.witness6 (enc := enc) (C := Try.checked) false ⟨#[], #[S [], I 0, I 0], []⟩ 8 (by kernel_rfl) (by kernel_rfl) (by kernel_rfl) (by kernel_rfl)) ?_
  intro W base args ds gs before hval0 hW hcnd hsz0 _
  have hsz : (DataW.weightsEach Try.prog (Try.f15.params.toList ++ Rows.octaveTimesSpec.plain.varTypes Try.prog) (ds ++ gs)).all (· ≤ reachBytes) = true := hsz0
  have hval : ∀ (j : Nat) t v, Try.f15.params[j]? = some t → args[j]? = some v → Value.okWide Try.prog W .any base t v := hval0
  have hW' := hW
  obtain ⟨p, q, hA0, hV, rfl, hfz, hnd⟩ := hW
  have hA1 : DataW.TrodAll enc Try.prog W 0 (fun _ => true) true Try.f15.params.toList args.toList ds p := hA0
  have hA := hA1
  rw [Try.params15] at hA hval hsz
  obtain ⟨v0, vs0, d0, ds0, p0, q0, hargs, rfl, rfl, h0, r0⟩ := trodAll_cons hA
  obtain ⟨v1, vs1, d1, ds1, p1, q1, rfl, rfl, rfl, h1, r1⟩ := trodAll_cons r0
  obtain ⟨v2, vs2, d2, ds2, p2, q2, rfl, rfl, rfl, h2, r2⟩ := trodAll_cons r1
  obtain ⟨rfl, rfl, rfl⟩ := trodAll_nil r2
  obtain rfl : args = #[v0, v1, v2] := by cases args; simp_all
  obtain ⟨rfl, rfl⟩ := trodVars_none hV
  obtain ⟨x0, rfl, w0⟩ := open_str (P := Try.prog) Try.underlying9 h0 (string_cells (hval 0 9 v0 rfl rfl) Try.underlying9) (sizedAll hsz 0 rfl rfl)
  obtain ⟨x1, rfl, rfl, rfl, w1⟩ := open_int Try.underlying3 (hval 1 3 v1 rfl rfl) h1
  obtain ⟨x2, rfl, rfl, rfl, w2⟩ := open_int Try.underlying3 (hval 2 3 v2 rfl rfl) h2
  simp only [List.append_nil] at hW' hA1
  refine (Fun.run (octaveTimes_walk x0 x1 x2) W).mono fun e W' hh => ?_
  obtain ⟨rfl, hS⟩ := hh
  exact ⟨_, rfl, post_law (P := Try.prog) (f := Try.f15) (tbool := 4) hW' hA1 rfl rfl hS laid octaveTimes_read rfl Try.underlying4⟩
theorem octaveTimes_over : Rows.octaveTimesRow.holds Try.pinned (OpenSpec.ofChange Rows.octaveTimesSpec) :=
  OpenClaim.holds_of_wide 15 Try.f15 rfl rfl rfl rfl rfl rfl rfl ⟨rfl, rfl, rfl, rfl, rfl⟩ rfl rfl rfl rfl rfl (by kernel_rfl) Try.func15 (by kernel_rfl)
    (of_decide_eq_true (by kernel_rfl)) (by unfold Func.isWrapper; first | (rw [if_pos (by decide +kernel)]; kernel_rfl) | (rw [if_neg (by decide +kernel)]; exact ⟨rfl, rfl⟩))
    (fun os started H enc _ => octaveTimes_lifted os started H enc)
/-- THE STATEMENT. -/
theorem octaveTimes_proved : Rows.OctaveTimesSaid := octaveTimes_over
#print axioms octaveTimes_proved

end Go.Proofs.Ytienlncaffliaaa
