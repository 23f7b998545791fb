/-
  Layer 11: the laws of the statements: what is sent where nothing is cut.
-/
import Derived.Test.YtgbflapcadlelaaPool4
namespace Go.Proofs.Ytgbflapcadlelaa
open Go.HL
set_option linter.unusedSimpArgs false
set_option linter.unusedVariables false
set_option maxRecDepth 8000
def noCut : List Bool := List.replicate 49 false
theorem cutAt_no (a b : Int) : cutAt noCut a b = false := by
  unfold cutAt noCut
  rw [List.getD_eq_getElem?_getD, List.getElem?_replicate]
  split <;> rfl
theorem sends_cons (c l x xs) : sends c l (x :: xs) = (let s := stepS c (l, 0) x; let t := sends c s.1 xs; (t.1, s.2 + t.2)) := by
  have gen : ∀ (xs : List PoolLetter) (l : List PoolLetter) (m : Int), xs.foldl (stepS c) (l, m) = ((sends c l xs).1, m + (sends c l xs).2) := by
    intro xs
    induction xs with
    | nil => intro l m; simp [sends]
    | cons y ys ih =>
      intro l m
      rw [show sends c l (y :: ys) = ys.foldl (stepS c) (stepS c (l, 0) y) from rfl, List.foldl_cons]
      cases hb : badL c l y with
      | true =>
        rw [show stepS c (l, m) y = (l, m + 1) by simp [stepS, hb], show stepS c (l, 0) y = (l, 0 + 1) by simp [stepS, hb], ih, ih]
        simp only [Prod.mk.injEq, true_and]
        omega
      | false =>
        rw [show stepS c (l, m) y = (l ++ [y], m) by simp [stepS, hb], show stepS c (l, 0) y = (l ++ [y], 0) by simp [stepS, hb], ih, ih]
        simp
  simp only [sends, List.foldl_cons]
  rw [show stepS c (l, 0) x = ((stepS c (l, 0) x).1, (stepS c (l, 0) x).2) from rfl, gen]
  rfl
theorem sends_open : ∀ (xs l : List PoolLetter), l.length + xs.length ≤ 256 → sends noCut l xs = (l ++ xs.filter okL, ((xs.filter (fun x => !okL x)).length : Int))
  | [], l, _ => by simp [sends]
  | x :: xs, l, h => by
    simp only [List.length_cons] at h
    rw [sends_cons]
    have hb : badL noCut l x = !okL x := by
      simp only [badL, cutAt_no, okL, Bool.false_or, Bool.not_and]
      have : decide (256 ≤ l.length) = false := by simp; omega
      rw [this]; simp
    unfold stepS
    rw [hb]
    cases ho : okL x with
    | true =>
      simp only [Bool.not_true, Bool.false_eq_true, if_false]
      rw [sends_open xs (l ++ [x]) (by simp; omega)]
      simp [ho]
    | false =>
      simp only [Bool.not_false, if_true]
      rw [sends_open xs l (by omega)]
      simp [ho]
      omega
def la0 : PoolLetter := ⟨0, 0, [97]⟩
def la1 : PoolLetter := ⟨0, 1, [98]⟩
theorem pool_alive : Fun Try.prog 39 [] (B true) := by
  have hS (b g : Nat) (v : Go.Value) : Ct Try.prog 41 [Ptr b 0, .slice (some ⟨g, 0, none⟩) 2 2] (rows PoolLetter.c (.slice (some ⟨g, 0, none⟩) 2 2) 61 3 [la0, la1] :: poolE b v [] (List.replicate 49 false) 0) (fun r σ' => ∃ v', r = I 0 ∧ σ' = rows PoolLetter.c (.slice (some ⟨g, 0, none⟩) 2 2) 61 3 [la0, la1] :: poolE b v' [la0, la1] (List.replicate 49 false) 0) :=
    pool_send (rows PoolLetter.c (.slice (some ⟨g, 0, none⟩) 2 2) 61 3 [la0, la1]) (some ⟨g, 0, none⟩) 2 g 0 b v [] [la0, la1] (List.replicate 49 false) 0 (Rd.rows (l := [la0, la1]) PoolLetter.len (by decide)) rfl (by decide) (by decide) (by decide)
  have hT (b : Nat) (v : Go.Value) : Ct Try.prog 44 [Ptr b 0, I 1] (poolE b v [la0, la1] (List.replicate 49 false) 0) (fun r σ' => ∃ v', r = .tuple #[A la1.c, B true] ∧ σ' = poolE b v' [la0] (List.replicate 49 false) 0) :=
    pool_take b v [la0, la1] (List.replicate 49 false) 0 1 rfl (by decide) (by decide)
  refine Ct.enter Try.func39 rfl rfl fun W => ?_
  apply Wp.seq
  apply Wp.region
  refine WpL.v (V.as) ?_
  apply WpL.nil
  apply Out.seqN
  apply Wp.seq
  apply Wp.region
  refine WpL.o (Op1.callT rfl (pool_new) (by (repeat (first | exact Sel.nil | exact Rem.here | apply Sel.cons | apply Rem.there))) ?_)
  rintro v0 s1 ⟨b5, ⟨rfl, rfl⟩⟩
  refine incat ?_
  refine WpL.v (V.as) ?_
  apply WpL.nil
  apply Out.seqN
  apply Wp.seq
  apply Wp.region
  refine WpL.v (V.mv) ?_
  refine WpL.v (V.bld tb) ?_
  refine WpL.v (V.bld tb) ?_
  refine WpL.o (O.litL tb PoolLetter.c [la0, la1] rfl (PartsFrom.agg rfl (PartsFrom.agg rfl PartsFrom.nil)) rfl rfl (fun p9 => ?_))
  refine WpL.o (Op1.callT rfl (hS _ _ _) (by (repeat (first | exact Sel.nil | exact Rem.here | apply Sel.cons | apply Rem.there))) ?_)
  rintro v2 s3 ⟨v'10, ⟨rfl, rfl⟩⟩
  refine incat ?_
  refine WpL.v (V.as) ?_
  apply WpL.nil
  apply Out.seqN
  apply Wp.seq
  apply Wp.region
  refine WpL.v (V.mv) ?_
  refine WpL.o (Op1.callT rfl (hT _ _) (by (repeat (first | exact Sel.nil | exact Rem.here | apply Sel.cons | apply Rem.there))) ?_)
  rintro v4 s5 ⟨v'13, ⟨rfl, rfl⟩⟩
  refine incat ?_
  refine WpL.v (V.mv) ?_
  refine WpL.v (V.ex) ?_
  refine WpL.v (V.ex) ?_
  refine WpL.o (O.al tb (fun p3 => ?_))
  refine WpL.o (O.stA tb ?_)
  refine WpL.v (V.as) ?_
  apply WpL.nil
  apply Out.seqN
  apply Wp.seq
  apply Wp.region
  refine WpL.v (V.mv) ?_
  refine WpL.v (V.cmp) ?_
  refine WpL.v (V.mv) ?_
  refine WpL.v (V.mv) ?_
  refine WpL.v (V.pT) ?_
  refine WpL.v (V.mv) ?_
  refine WpL.v (V.fa tb) ?_
  refine WpL.v (V.ld1 tb) ?_
  refine WpL.v (V.cmpS) ?_
  refine WpL.v (V.pT) ?_
  refine WpL.v (V.mv) ?_
  refine WpL.v (V.mv) ?_
  refine WpL.o (Op1.callT rfl (pool_len _ _ _ _ _) (by (repeat (first | exact Sel.nil | exact Rem.here | apply Sel.cons | apply Rem.there))) ?_)
  rintro v6 s7 ⟨rfl, rfl⟩
  refine incat ?_
  refine WpL.v (V.cmp) ?_
  refine WpL.v (V.pT) ?_
  refine WpL.v (V.as) ?_
  apply WpL.nil
  apply Out.seqN
  apply Wp.ret
  refine Out.f1 rfl ResIs.t ⟨?_, rfl⟩
  exact rfl
end Go.Proofs.Ytgbflapcadlelaa
