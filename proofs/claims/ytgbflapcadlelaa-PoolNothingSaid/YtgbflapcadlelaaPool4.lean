/-
  Layer 11: Heal, All, and what a nil pool answers, walked.
-/
import Derived.Test.YtgbflapcadlelaaPool3
namespace Go.Proofs.Ytgbflapcadlelaa
open Go.HL
set_option linter.unusedSimpArgs false
set_option linter.unusedVariables false
set_option maxRecDepth 8000
def healL (i : Nat) (c : List Bool) : List Bool := List.replicate (i * 7) false ++ c.drop (i * 7)
theorem healL_len {i : Nat} {c : List Bool} (hc : c.length = 49) (hi : i ≤ 7) : (healL i c).length = 49 := by simp [healL]; omega
theorem healL_all {c : List Bool} (hc : c.length = 49) : healL 7 c = List.replicate 49 false := by
  simp [healL, List.drop_of_length_le, hc]
theorem poolC_heal {v : Go.Value} {c : List Bool} {n : Int} {i : Nat} (hc : c.length = 49) (hi : i < 7) : splice (1 + i * 7) (List.replicate 7 (B false)) (poolC v (healL i c) n) = poolC v (healL (i + 1) c) n := by
  have e : ∀ c : List Bool, poolC v c n = [v] ++ (boolsC c ++ [I n]) := fun c => rfl
  have e1 : boolsC (healL i c) = List.replicate (i * 7) (B false) ++ boolsC (c.drop (i * 7)) := by simp [boolsC, healL]
  have e2 : boolsC (healL (i + 1) c) = List.replicate (i * 7) (B false) ++ List.replicate 7 (B false) ++ boolsC (c.drop (i * 7 + 7)) := by
    rw [List.replicate_append_replicate]
    simp [boolsC, healL, Nat.add_mul]
  rw [e, e, splice, e1, e2]
  have h1 : ([v] ++ (List.replicate (i * 7) (B false) ++ boolsC (c.drop (i * 7)) ++ [I n])).take (1 + i * 7) = [v] ++ List.replicate (i * 7) (B false) := by
    rw [Nat.add_comm 1]
    simp only [List.singleton_append, List.take_succ_cons, List.append_assoc]
    rw [List.take_append_of_le_length (by simp), List.take_of_length_le (by simp)]
  have h2 : ([v] ++ (List.replicate (i * 7) (B false) ++ boolsC (c.drop (i * 7)) ++ [I n])).drop (1 + i * 7 + (List.replicate 7 (B false)).length) = boolsC (c.drop (i * 7 + 7)) ++ [I n] := by
    rw [show 1 + i * 7 + (List.replicate 7 (B false)).length = (i * 7 + 7) + 1 by simp; omega]
    simp only [List.singleton_append, List.drop_succ_cons, List.append_assoc]
    rw [List.drop_append, List.drop_of_length_le (by simp)]
    simp only [List.length_replicate, List.nil_append, Nat.add_sub_cancel_left]
    rw [List.drop_append_of_le_length (by simp [boolsC]; omega)]
    simp [boolsC, List.drop_drop]
  rw [h1, h2]
  simp
theorem pool_heal (b : Nat) (v : Go.Value) (l : List PoolLetter) (c : List Bool) (n : Int) (hc : c.length = 49) :
    Ct Try.prog 46 [Ptr b 0] (poolE b v l c n) (fun r σ' => r = .tuple #[] ∧ σ' = poolE b v l (List.replicate 49 false) n) := by
  unfold poolE
  refine Ct.enter Try.func46 rfl rfl fun W => ?_
  apply Wp.seq
  apply Wp.region
  refine WpL.v (V.mv) ?_
  refine WpL.v (V.neP) ?_
  apply WpL.nil
  apply Out.seqN
  refine Wp.cT ?_
  apply Wp.seq
  apply Wp.region
  refine WpL.v (V.mv) ?_
  apply WpL.nil
  apply Out.seqN
  apply Wp.block
  refine Wp.lp [0] (fun i : Nat => i ≤ 7) (fun i => [(5, I (i : Int))]) (fun i => [cells b 126 (poolC v (healL i c) n)]) (fun i => 7 - i) 0 (Nat.zero_le _) ?_
  intro i hi K hK
  dsimp only [List.cons_append, List.nil_append]
  by_cases h7 : i < 7
  · apply Wp.seq
    apply Wp.region
    refine WpL.v (V.cmp) ?_
    apply WpL.nil
    apply Out.seqN
    apply Wp.seq
    refine Wp.c (fun h0 => ?_) (fun h0 => ?_)
    (try simp only [decide_eq_true_eq, decide_eq_false_iff_not, Bool.not_eq_true', Bool.not_eq_false', Bool.not_eq_true, Bool.not_eq_false, not_true_eq_false, not_false_eq_true, reduceCtorEq] at h0)
    apply Wp.skip
    apply Out.seqN
    apply Wp.seq
    apply Wp.block
    apply Wp.seq
    apply Wp.region
    refine WpL.v (V.mv) ?_
    refine WpL.v (V.as) ?_
    apply WpL.nil
    apply Out.seqN
    apply Wp.region
    refine WpL.v (V.mv) ?_
    refine WpL.v (V.mv) ?_
    refine WpL.v (V.nc) ?_
    refine WpL.v (V.fa tb) ?_
    refine WpL.v (V.ixA2 tb (k := i) rfl rfl rfl) ?_
    refine WpL.v (V.slArr tb rfl) ?_
    refine WpL.o (O.clrC tb rfl (by (repeat first | exact Upd.here _ _ _ | apply Upd.there)) (by omega) (by rw [poolC.len, healL_len hc hi]; omega) (poolC_heal hc h7) ?_)
    apply WpL.nil
    apply Out.blockN
    apply Out.seqN
    apply Wp.region
    refine WpL.v (V.add) ?_
    refine WpL.v (V.mv) ?_
    apply WpL.nil
    rotate_left
    (try simp only [decide_eq_true_eq, decide_eq_false_iff_not, Bool.not_eq_true', Bool.not_eq_false', Bool.not_eq_true, Bool.not_eq_false, not_true_eq_false, not_false_eq_true, reduceCtorEq] at h0)
    (exfalso; omega)
    exact Out.ag hK (i + 1) (by show i + 1 ≤ _; omega) (by show 7 - (i + 1) < 7 - i; omega)
  · obtain rfl : i = 7 := by omega
    rw [healL_all hc]
    apply Wp.seq
    apply Wp.region
    refine WpL.v (V.cmp) ?_
    apply WpL.nil
    apply Out.seqN
    apply Wp.seq
    refine Wp.cF ?_
    apply Wp.exit
    apply Out.seqE
    apply Out.seqE
    apply Out.blockE
    refine Out.f0 rfl  ⟨?_, rfl⟩
    exact rfl
theorem pool_all (b : Nat) (v : Go.Value) (l : List PoolLetter) (c : List Bool) (n : Int) (hl : l.length ≤ 256) :
    Ct Try.prog 49 [Ptr b 0] (poolE b v l c n) (fun r σ' => ∃ e ao cap bb, Rd e ao l.length bb 0 3 (l.map PoolLetter.c) ∧ r = .slice ao l.length cap ∧ σ' = e :: poolE b v l c n) := by
  unfold poolE
  refine Ct.enter Try.func49 rfl rfl fun W => ?_
  refine Wp.fact (rowsForm (f := PoolLetter.c) (v := v) (l := l) (E := 61) (sz := 3) (by (repeat first | exact List.Mem.head _ | apply List.Mem.tail))) fun hv => ?_
  rcases hv with ⟨rfl, rfl⟩ | ⟨g, cap, rfl, hcap, hcm⟩
  · refine Wp.nilRows PoolLetter.c 61 3 ?_
    apply Wp.seq
    apply Wp.region
    refine WpL.v (V.as) ?_
    apply WpL.nil
    apply Out.seqN
    apply Wp.seq
    apply Wp.seq
    apply Wp.region
    refine WpL.v (V.mv) ?_
    refine WpL.v (V.eqP) ?_
    apply WpL.nil
    apply Out.seqN
    refine Wp.cF ?_
    apply Wp.skip
    apply Out.seqN
    apply Wp.seq
    apply Wp.region
    refine WpL.v (V.mv) ?_
    refine WpL.v (V.nc) ?_
    refine WpL.v (V.fa tb) ?_
    refine WpL.v (V.ld1 tb) ?_
    refine WpL.o (Op1.callT rfl (slices_clone0) (by (repeat (first | exact Sel.nil | exact Rem.here | apply Sel.cons | apply Rem.there))) ?_)
    rintro v0 s1 ⟨rfl, rfl⟩
    refine incat ?_
    refine WpL.v (V.as) ?_
    apply WpL.nil
    apply Out.seqN
    apply Wp.ret
    refine Out.e1 rfl ResIs.t ?_
    focus (exact ⟨_, _, ⟨_, none, 0, 0, Rd.nil, rfl, rfl⟩, (by (repeat (first | exact Sel.nil | exact Rem.here | apply Sel.cons | apply Rem.there)))⟩; done)
  · by_cases h0 : l = []
    · subst h0
      have hE := slices_cloneE g cap
      apply Wp.seq
      apply Wp.region
      refine WpL.v (V.as) ?_
      apply WpL.nil
      apply Out.seqN
      apply Wp.seq
      apply Wp.seq
      apply Wp.region
      refine WpL.v (V.mv) ?_
      refine WpL.v (V.eqP) ?_
      apply WpL.nil
      apply Out.seqN
      refine Wp.cF ?_
      apply Wp.skip
      apply Out.seqN
      apply Wp.seq
      apply Wp.region
      refine WpL.v (V.mv) ?_
      refine WpL.v (V.nc) ?_
      refine WpL.v (V.fa tb) ?_
      refine WpL.v (V.ld1 tb) ?_
      refine WpL.o (Op1.callT rfl (hE) (by (repeat (first | exact Sel.nil | exact Rem.here | apply Sel.cons | apply Rem.there))) ?_)
      rintro v0 s1 ⟨g'9, ⟨rfl, rfl⟩⟩
      refine incat ?_
      refine WpL.v (V.as) ?_
      apply WpL.nil
      apply Out.seqN
      apply Wp.ret
      refine Out.e1 rfl ResIs.t ?_
      focus (exact ⟨_, _, ⟨_, some ⟨g'9, 0, none⟩, 0, 0, Rd.nil, rfl, rfl⟩, (by refine Sel.cons Rem.here (Sel.cons (Rem.there Rem.here) (Sel.cons Rem.here Sel.nil)))⟩; done)
    · have hE := slices_clone g cap l h0 (by omega)
      apply Wp.seq
      apply Wp.region
      refine WpL.v (V.as) ?_
      apply WpL.nil
      apply Out.seqN
      apply Wp.seq
      apply Wp.seq
      apply Wp.region
      refine WpL.v (V.mv) ?_
      refine WpL.v (V.eqP) ?_
      apply WpL.nil
      apply Out.seqN
      refine Wp.cF ?_
      apply Wp.skip
      apply Out.seqN
      apply Wp.seq
      apply Wp.region
      refine WpL.v (V.mv) ?_
      refine WpL.v (V.nc) ?_
      refine WpL.v (V.fa tb) ?_
      refine WpL.v (V.ld1 tb) ?_
      refine WpL.o (Op1.callT rfl (hE) (by (repeat (first | exact Sel.nil | exact Rem.here | apply Sel.cons | apply Rem.there))) ?_)
      rintro v0 s1 ⟨g'9, ⟨cap'9, ⟨rfl, rfl⟩⟩⟩
      refine incat ?_
      refine WpL.v (V.as) ?_
      apply WpL.nil
      apply Out.seqN
      apply Wp.ret
      refine Out.e1 rfl ResIs.t ?_
      focus (exact ⟨_, _, ⟨_, some ⟨_, 0, none⟩, _, _, Rd.rows PoolLetter.len (by omega), rfl, rfl⟩, (by (repeat (first | exact Sel.nil | exact Rem.here | apply Sel.cons | apply Rem.there)))⟩; done)
theorem pool_send0 (e : Ent) (ao : Option Go.Addr) (len cap : Nat) : Ct Try.prog 41 [.pointer none, .slice ao len cap] [] (fun r σ' => r = I (len : Int) ∧ σ' = []) := by
  refine Ct.enter Try.func41 rfl rfl fun W => ?_
  apply Wp.seq
  apply Wp.region
  refine WpL.v (V.as) ?_
  apply WpL.nil
  apply Out.seqN
  apply Wp.seq
  apply Wp.seq
  apply Wp.region
  refine WpL.v (V.mv) ?_
  refine WpL.v (V.eqN) ?_
  apply WpL.nil
  apply Out.seqN
  refine Wp.cT ?_
  apply Wp.seq
  apply Wp.region
  refine WpL.v (V.mv) ?_
  refine WpL.v (V.lenL tb) ?_
  refine WpL.v (V.as) ?_
  apply WpL.nil
  apply Out.seqN
  apply Wp.ret
  apply Out.seqR
  refine Out.f1 rfl ResIs.t ⟨?_, rfl⟩
  exact rfl
theorem pool_take0 (i : Int) : Fun Try.prog 44 [.pointer none, I i] (.tuple #[A PoolLetter.z.c, B false]) := by
  refine Ct.enter Try.func44 rfl rfl fun W => ?_
  apply Wp.seq
  apply Wp.region
  refine WpL.o (O.al tb (fun p4 => ?_))
  refine WpL.v (V.as) ?_
  apply WpL.nil
  apply Out.seqN
  apply Wp.seq
  apply Wp.seq
  apply Wp.region
  refine WpL.v (V.mv) ?_
  refine WpL.v (V.eqN) ?_
  refine WpL.v (V.mv) ?_
  refine WpL.sk ?_
  refine WpL.sk ?_
  refine WpL.v (V.pT) ?_
  refine WpL.v (V.mv) ?_
  refine WpL.sk ?_
  refine WpL.sk ?_
  refine WpL.sk ?_
  refine WpL.sk ?_
  refine WpL.sk ?_
  refine WpL.sk ?_
  refine WpL.sk ?_
  refine WpL.v (V.pT) ?_
  apply WpL.nil
  apply Out.seqN
  refine Wp.cT ?_
  apply Wp.seq
  apply Wp.region
  refine WpL.v (V.bld tb) ?_
  refine WpL.o (O.stA tb ?_)
  refine WpL.v (V.as) ?_
  apply WpL.nil
  apply Out.seqN
  apply Wp.ret
  apply Out.seqR
  refine Out.f2 rfl (ResIs.ca tb) ResIs.t ⟨?_, rfl⟩
  exact rfl
theorem pool_lose0 (i : Int) : Fun Try.prog 48 [.pointer none, I i] (B false) := by
  refine Ct.enter Try.func48 rfl rfl fun W => ?_
  apply Wp.seq
  apply Wp.region
  refine WpL.v (V.as) ?_
  apply WpL.nil
  apply Out.seqN
  apply Wp.seq
  apply Wp.seq
  apply Wp.region
  refine WpL.v (V.mv) ?_
  refine WpL.v (V.eqN) ?_
  refine WpL.v (V.mv) ?_
  refine WpL.sk ?_
  refine WpL.sk ?_
  refine WpL.v (V.pT) ?_
  refine WpL.v (V.mv) ?_
  refine WpL.sk ?_
  refine WpL.sk ?_
  refine WpL.sk ?_
  refine WpL.sk ?_
  refine WpL.sk ?_
  refine WpL.sk ?_
  refine WpL.sk ?_
  refine WpL.v (V.pT) ?_
  apply WpL.nil
  apply Out.seqN
  refine Wp.cT ?_
  apply Wp.seq
  apply Wp.region
  refine WpL.v (V.as) ?_
  apply WpL.nil
  apply Out.seqN
  apply Wp.ret
  apply Out.seqR
  refine Out.f1 rfl ResIs.t ⟨?_, rfl⟩
  exact rfl
theorem pool_twice0 (i : Int) : Fun Try.prog 50 [.pointer none, I i] (B false) := by
  refine Ct.enter Try.func50 rfl rfl fun W => ?_
  apply Wp.seq
  apply Wp.region
  refine WpL.v (V.as) ?_
  apply WpL.nil
  apply Out.seqN
  apply Wp.seq
  apply Wp.seq
  apply Wp.region
  refine WpL.v (V.mv) ?_
  refine WpL.v (V.eqN) ?_
  refine WpL.v (V.mv) ?_
  refine WpL.sk ?_
  refine WpL.sk ?_
  refine WpL.v (V.pT) ?_
  refine WpL.v (V.mv) ?_
  refine WpL.sk ?_
  refine WpL.sk ?_
  refine WpL.sk ?_
  refine WpL.sk ?_
  refine WpL.sk ?_
  refine WpL.sk ?_
  refine WpL.sk ?_
  refine WpL.v (V.pT) ?_
  refine WpL.v (V.mv) ?_
  refine WpL.sk ?_
  refine WpL.sk ?_
  refine WpL.sk ?_
  refine WpL.sk ?_
  refine WpL.sk ?_
  refine WpL.sk ?_
  refine WpL.v (V.pT) ?_
  apply WpL.nil
  apply Out.seqN
  refine Wp.cT ?_
  apply Wp.seq
  apply Wp.region
  refine WpL.v (V.as) ?_
  apply WpL.nil
  apply Out.seqN
  apply Wp.ret
  apply Out.seqR
  refine Out.f1 rfl ResIs.t ⟨?_, rfl⟩
  exact rfl
theorem pool_cut0 (i j : Int) : Fun Try.prog 45 [.pointer none, I i, I j] (.tuple #[]) := by
  refine Ct.enter Try.func45 rfl rfl fun W => ?_
  apply Wp.seq
  apply Wp.region
  refine WpL.v (V.mv) ?_
  refine WpL.v (V.neN) ?_
  refine WpL.v (V.mv) ?_
  refine WpL.sk ?_
  refine WpL.sk ?_
  refine WpL.v (V.pF) ?_
  refine WpL.v (V.mv) ?_
  refine WpL.sk ?_
  refine WpL.sk ?_
  refine WpL.v (V.pF) ?_
  apply WpL.nil
  apply Out.seqN
  refine Wp.cF ?_
  apply Wp.skip
  refine Out.f0 rfl  ⟨?_, rfl⟩
  exact rfl
theorem pool_heal0 : Fun Try.prog 46 [.pointer none] (.tuple #[]) := by
  refine Ct.enter Try.func46 rfl rfl fun W => ?_
  apply Wp.seq
  apply Wp.region
  refine WpL.v (V.mv) ?_
  refine WpL.v (V.neN) ?_
  apply WpL.nil
  apply Out.seqN
  refine Wp.cF ?_
  apply Wp.skip
  refine Out.f0 rfl  ⟨?_, rfl⟩
  exact rfl
theorem pool_all0 : Fun Try.prog 49 [.pointer none] (.slice none 0 0) := by
  refine Ct.enter Try.func49 rfl rfl fun W => ?_
  apply Wp.seq
  apply Wp.region
  refine WpL.v (V.as) ?_
  apply WpL.nil
  apply Out.seqN
  apply Wp.seq
  apply Wp.seq
  apply Wp.region
  refine WpL.v (V.mv) ?_
  refine WpL.v (V.eqN) ?_
  apply WpL.nil
  apply Out.seqN
  refine Wp.cT ?_
  apply Wp.seq
  apply Wp.region
  refine WpL.v (V.as) ?_
  apply WpL.nil
  apply Out.seqN
  apply Wp.ret
  apply Out.seqR
  refine Out.f1 rfl ResIs.t ⟨?_, rfl⟩
  exact rfl
theorem pool_len0 : Fun Try.prog 42 [.pointer none] (I 0) := by
  refine Ct.enter Try.func42 rfl rfl fun W => ?_
  apply Wp.seq
  apply Wp.region
  refine WpL.v (V.as) ?_
  apply WpL.nil
  apply Out.seqN
  apply Wp.seq
  apply Wp.seq
  apply Wp.region
  refine WpL.v (V.mv) ?_
  refine WpL.v (V.eqN) ?_
  apply WpL.nil
  apply Out.seqN
  refine Wp.cT ?_
  apply Wp.seq
  apply Wp.region
  refine WpL.v (V.as) ?_
  apply WpL.nil
  apply Out.seqN
  apply Wp.ret
  apply Out.seqR
  refine Out.f1 rfl ResIs.t ⟨?_, rfl⟩
  exact rfl
theorem pool_lost0 : Fun Try.prog 43 [.pointer none] (I 0) := by
  refine Ct.enter Try.func43 rfl rfl fun W => ?_
  apply Wp.seq
  apply Wp.region
  refine WpL.v (V.as) ?_
  apply WpL.nil
  apply Out.seqN
  apply Wp.seq
  apply Wp.seq
  apply Wp.region
  refine WpL.v (V.mv) ?_
  refine WpL.v (V.eqN) ?_
  apply WpL.nil
  apply Out.seqN
  refine Wp.cT ?_
  apply Wp.seq
  apply Wp.region
  refine WpL.v (V.as) ?_
  apply WpL.nil
  apply Out.seqN
  apply Wp.ret
  apply Out.seqR
  refine Out.f1 rfl ResIs.t ⟨?_, rfl⟩
  exact rfl
end Go.Proofs.Ytgbflapcadlelaa
