/-
  Layer 11: the pool's steps, walked.
-/
import Derived.Test.YtgbflapcadlelaaTypes
import Derived.Test.YtgbflapcadlelaaHeapF
namespace Go.Proofs.Ytgbflapcadlelaa
open Go.HL
set_option linter.unusedSimpArgs false
set_option linter.unusedVariables false
set_option maxRecDepth 8000
/-- What is between whom, as cells. -/
def boolsC (c : List Bool) : List Go.Value := c.map fun b => B b
def poolC (v : Go.Value) (c : List Bool) (n : Int) : List Go.Value := [v] ++ (boolsC c ++ [I n])
theorem poolC.len {v : Go.Value} {c : List Bool} {n : Int} : (poolC v c n).length = c.length + 2 := by simp [poolC, boolsC]
def poolE (b : Nat) (v : Go.Value) (l : List PoolLetter) (c : List Bool) (n : Int) : List Ent := [cells b 126 (poolC v c n), rows PoolLetter.c v 61 3 l]
def isR (a : Int) : Bool := decide (0 ≤ a) && decide (a < 7)
theorem pool_is (a : Int) : Fun Try.prog 75 [I a] (B (isR a)) := by
  refine Ct.enter Try.func75 rfl rfl fun W => ?_
  apply Wp.seq
  apply Wp.region
  refine WpL.v (V.as) ?_
  apply WpL.nil
  apply Out.seqN
  apply Wp.seq
  apply Wp.region
  refine WpL.v (V.mv) ?_
  refine WpL.v (V.cmp) ?_
  refine WpL.v (V.mv) ?_
  refine WpL.pt (fun his0 => ?_) (fun his0 => ?_)
  (try simp only [decide_eq_true_eq, decide_eq_false_iff_not, Bool.not_eq_true', Bool.not_eq_false', Bool.not_eq_true, Bool.not_eq_false, not_true_eq_false, not_false_eq_true, reduceCtorEq] at his0)
  refine WpL.v (V.mv) ?_
  refine WpL.v (V.cmp) ?_
  refine WpL.v (V.pT) ?_
  refine WpL.v (V.as) ?_
  apply WpL.nil
  apply Out.seqN
  apply Wp.ret
  refine Out.f1 rfl ResIs.t ⟨?_, rfl⟩
  focus ((simp [isR, *]); done)
  (try simp only [decide_eq_true_eq, decide_eq_false_iff_not, Bool.not_eq_true', Bool.not_eq_false', Bool.not_eq_true, Bool.not_eq_false, not_true_eq_false, not_false_eq_true, reduceCtorEq] at his0)
  refine WpL.sk ?_
  refine WpL.sk ?_
  refine WpL.v (V.pF) ?_
  refine WpL.v (V.as) ?_
  apply WpL.nil
  apply Out.seqN
  apply Wp.ret
  refine Out.f1 rfl ResIs.t ⟨?_, rfl⟩
  focus ((simp [isR, *]); done)
theorem pool_new : Ct Try.prog 40 [] [] (fun v σ' => ∃ b, v = Ptr b 0 ∧ σ' = poolE b (.slice none 0 0) [] (List.replicate 49 false) 0) := by
  refine Ct.enter Try.func40 rfl rfl fun W => ?_
  refine Wp.nilRows PoolLetter.c 61 3 ?_
  apply Wp.seq
  apply Wp.region
  refine WpL.v (V.as) ?_
  apply WpL.nil
  apply Out.seqN
  apply Wp.seq
  apply Wp.region
  refine WpL.v (V.bld tb) ?_
  refine WpL.o (O.bxA (fun p2 => ?_))
  refine WpL.v (V.as) ?_
  apply WpL.nil
  apply Out.seqN
  apply Wp.ret
  refine Out.e1 rfl ResIs.t ?_
  exact ⟨_, _, ⟨_, rfl, rfl⟩, (by (repeat (first | exact Sel.nil | exact Rem.here | apply Sel.cons | apply Rem.there)))⟩
theorem slices_delete (g cap : Nat) (l : List PoolLetter) (i : Nat) (hi : i < l.length) (hm : l.length ≤ cap) (hc : cap ≤ 9223372036854775807) :
    Ct Try.prog 76 [.slice (some ⟨g, 0, none⟩) l.length cap, I (i : Int), I ((i : Int) + 1)] [rows PoolLetter.c (.slice (some ⟨g, 0, none⟩) l.length cap) 61 3 l] (fun v σ' => v = .slice (some ⟨g, 0, none⟩) (l.eraseIdx i).length cap ∧ σ' = [rows PoolLetter.c (.slice (some ⟨g, 0, none⟩) (l.eraseIdx i).length cap) 61 3 (l.eraseIdx i)]) := by
  have e1 : l.eraseIdx i = l.take i ++ l.drop (i + 1) := by rw [List.eraseIdx_eq_take_drop_succ]
  have e2 : (l.eraseIdx i).length = i + (l.length - (i + 1)) := by rw [List.length_eraseIdx, if_pos hi]; omega
  rw [e2, e1]
  refine Ct.enter Try.func76 rfl rfl fun W => ?_
  apply Wp.seq
  apply Wp.region
  refine WpL.v (V.as) ?_
  apply WpL.nil
  apply Out.seqN
  apply Wp.seq
  apply Wp.region
  refine WpL.v (V.mv) ?_
  refine WpL.v (V.mv) ?_
  refine WpL.v (V.mv) ?_
  refine WpL.v (V.mv) ?_
  refine WpL.v (V.lenL tb) ?_
  refine WpL.v (V.slPart3 tb (i := i) (j := i + 1) (m := l.length) rfl rfl rfl rfl (by omega) (by omega) (by omega)) ?_
  apply WpL.nil
  apply Out.seqN
  apply Wp.seq
  apply Wp.seq
  apply Wp.region
  refine WpL.v (V.mv) ?_
  refine WpL.v (V.mv) ?_
  refine WpL.v (V.cmp) ?_
  apply WpL.nil
  apply Out.seqN
  refine Wp.c (fun h0 => ?_) (fun h0 => ?_)
  (try simp only [decide_eq_true_eq, decide_eq_false_iff_not, Bool.not_eq_true', Bool.not_eq_false', Bool.not_eq_true, Bool.not_eq_false, not_true_eq_false, not_false_eq_true, reduceCtorEq] at h0)
  (exfalso; omega)
  (try simp only [decide_eq_true_eq, decide_eq_false_iff_not, Bool.not_eq_true', Bool.not_eq_false', Bool.not_eq_true, Bool.not_eq_false, not_true_eq_false, not_false_eq_true, reduceCtorEq] at h0)
  apply Wp.skip
  apply Out.seqN
  apply Wp.seq
  apply Wp.region
  refine WpL.v (V.mv) ?_
  refine WpL.v (V.lenL tb) ?_
  refine WpL.v (V.as) ?_
  apply WpL.nil
  apply Out.seqN
  apply Wp.seq
  refine Wp.dG [] ?_ (List.Sublist.cons _ List.Sublist.slnil) (List.Sublist.cons _ List.Sublist.slnil)
  refine WpA.tF 0 rfl (V.mv) ?_
  refine WpA.tF 1 rfl (V.mv) ?_
  refine WpA.tF 2 rfl (V.slTo tb (j := i) rfl rfl (by omega)) ?_
  refine WpA.tF 3 rfl (V.mv) ?_
  refine WpA.tF 4 rfl (V.mv) ?_
  refine WpA.tF 5 rfl (V.slFrom tb (i := i + 1) rfl rfl (by omega)) ?_
  refine WpA.oS 6 rfl (O.apIn tb (i := i) (j := i + 1) rfl rfl (by (repeat first | exact Upd.here _ _ _ | apply Upd.there)) rfl (by omega) (by omega) PoolLetter.len PoolLetter.ones ⟨?_, ?_, ?_⟩)
  exact holdT
  exact holdT
  refine WpA.tF 7 rfl (V.as) ?_
  refine WpA.ou ?_
  apply Out.seqN
  apply Wp.seq
  apply Wp.region
  refine WpL.v (V.mv) ?_
  refine WpL.v (V.mv) ?_
  refine WpL.v (V.lenL tb) ?_
  refine WpL.v (V.mv) ?_
  refine WpL.v (V.slPart tb (i := i + (l.length - (i + 1))) (j := l.length) rfl rfl rfl (by omega) (by omega)) ?_
  refine WpL.o (O.clrIn tb rfl (by (repeat first | exact Upd.here _ _ _ | apply Upd.there)) (by simp; omega) (by omega) (by omega) ?_)
  apply WpL.nil
  apply Out.seqN
  apply Wp.seq
  apply Wp.region
  refine WpL.v (V.mv) ?_
  refine WpL.v (V.as) ?_
  apply WpL.nil
  apply Out.seqN
  apply Wp.ret
  refine Out.f1 rfl ResIs.t ⟨?_, rfl⟩
  exact rfl
theorem slices_clone (g cap : Nat) (l : List PoolLetter) (h0 : l ≠ []) (hm : l.length ≤ 1000) :
    Ct Try.prog 77 [.slice (some ⟨g, 0, none⟩) l.length cap] [rows PoolLetter.c (.slice (some ⟨g, 0, none⟩) l.length cap) 61 3 l] (fun v σ' => ∃ g' cap', v = .slice (some ⟨g', 0, none⟩) l.length cap' ∧ σ' = [rows PoolLetter.c (.slice (some ⟨g', 0, none⟩) l.length cap') 61 3 l, rows PoolLetter.c (.slice (some ⟨g, 0, none⟩) l.length cap) 61 3 l]) := by
  refine Ct.enter Try.func77 rfl rfl fun W => ?_
  apply Wp.seq
  apply Wp.region
  refine WpL.v (V.as) ?_
  apply WpL.nil
  apply Out.seqN
  apply Wp.seq
  apply Wp.seq
  apply Wp.region
  refine WpL.v (V.mv) ?_
  refine WpL.v (V.eqSS tb) ?_
  apply WpL.nil
  apply Out.seqN
  refine Wp.cF ?_
  apply Wp.skip
  apply Out.seqN
  apply Wp.seq
  apply Wp.region
  refine WpL.o (O.lit tb (fun p5 => ?_))
  refine WpL.v (V.mv) ?_
  refine WpL.o (O.apNew tb rfl rfl (SrcL.rows tb (by (repeat first | exact List.Mem.head _ | apply List.Mem.tail)) PoolLetter.ones) h0 PoolLetter.len (fun g7 cap7 => ?_))
  refine WpL.v (V.as) ?_
  apply WpL.nil
  apply Out.seqN
  apply Wp.ret
  refine Out.e1 rfl ResIs.t ?_
  focus (exact ⟨_, _, ⟨_, _, rfl, rfl⟩, (by (repeat (first | exact Sel.nil | exact Rem.here | apply Sel.cons | apply Rem.there)))⟩; done)
theorem slices_cloneE (g cap : Nat) :
    Ct Try.prog 77 [.slice (some ⟨g, 0, none⟩) 0 cap] [rows PoolLetter.c (.slice (some ⟨g, 0, none⟩) 0 cap) 61 3 []] (fun v σ' => ∃ g', v = .slice (some ⟨g', 0, none⟩) 0 0 ∧ σ' = [rows PoolLetter.c (.slice (some ⟨g', 0, none⟩) 0 0) 61 3 [], rows PoolLetter.c (.slice (some ⟨g, 0, none⟩) 0 cap) 61 3 []]) := by
  refine Ct.enter Try.func77 rfl rfl fun W => ?_
  apply Wp.seq
  apply Wp.region
  refine WpL.v (V.as) ?_
  apply WpL.nil
  apply Out.seqN
  apply Wp.seq
  apply Wp.seq
  apply Wp.region
  refine WpL.v (V.mv) ?_
  refine WpL.v (V.eqSS tb) ?_
  apply WpL.nil
  apply Out.seqN
  refine Wp.cF ?_
  apply Wp.skip
  apply Out.seqN
  apply Wp.seq
  apply Wp.region
  refine WpL.o (O.litL tb PoolLetter.c [] rfl PartsFrom.nil rfl rfl (fun p5 => ?_))
  refine WpL.v (V.mv) ?_
  refine WpL.v (V.apNone tb rfl rfl (SrcL.rows tb (by (repeat first | exact List.Mem.head _ | apply List.Mem.tail)) PoolLetter.ones) (by omega)) ?_
  refine WpL.v (V.as) ?_
  apply WpL.nil
  apply Out.seqN
  apply Wp.ret
  refine Out.e1 rfl ResIs.t ?_
  exact ⟨_, _, ⟨_, rfl, rfl⟩, (by (repeat (first | exact Sel.nil | exact Rem.here | apply Sel.cons | apply Rem.there)))⟩
theorem slices_clone0 : Ct Try.prog 77 [.slice none 0 0] [] (fun v σ' => v = .slice none 0 0 ∧ σ' = []) := by
  refine Ct.enter Try.func77 rfl rfl fun W => ?_
  apply Wp.seq
  apply Wp.region
  refine WpL.v (V.as) ?_
  apply WpL.nil
  apply Out.seqN
  apply Wp.seq
  apply Wp.seq
  apply Wp.region
  refine WpL.v (V.mv) ?_
  refine WpL.v (V.eqSN tb) ?_
  apply WpL.nil
  apply Out.seqN
  refine Wp.cT ?_
  apply Wp.seq
  apply Wp.region
  refine WpL.v (V.as) ?_
  apply WpL.nil
  apply Out.seqN
  apply Wp.ret
  apply Out.seqR
  refine Out.f1 rfl ResIs.t ⟨?_, rfl⟩
  exact rfl
end Go.Proofs.Ytgbflapcadlelaa
