/-
  Layer 16: highest, same; the document's best, walked.
-/
import Derived.Test.YthoepbbpmdmfeaaDeps
namespace Go.Proofs.Ythoepbbpmdmfeaa
open Go.HL
set_option linter.unusedSimpArgs false
set_option linter.unusedVariables false
set_option maxRecDepth 8000
def hiStep (st : Int) (o : Option TMsg) (m : TMsg) : Option TMsg := if decide (m.Status = st) && (match o with | none => true | some a => bLt a.Vote m.Vote) then some m else o
def hi (st : Int) (xs : List TMsg) : Option TMsg := xs.foldl (hiStep st) none
theorem hi_snoc (st xs x) : hi st (xs ++ [x]) = hiStep st (hi st xs) x := by simp [hi]
def isTop (st : Int) (xs : List TMsg) (i : Nat) (m : TMsg) : Prop := xs[i]? = some m ∧ m.Status = st ∧ ∀ k o, xs[k]? = some o → o.Status = st → bLt m.Vote o.Vote = false ∧ ¬ (m.Vote = o.Vote ∧ k < i)
theorem bLt_trans {a b c : TBallot} (h1 : bLt a b = true) (h2 : bLt b c = true) : bLt a c = true := by
  rw [bLt_iff] at *; omega
theorem bLt_total {a b : TBallot} (h1 : bLt a b = false) (h2 : bLt b a = false) : a = b := by
  rw [← Bool.not_eq_true, bLt_iff] at h1 h2
  rw [bEq_iff]; omega
theorem isTop_unique {st xs i j m n} (h1 : isTop st xs i m) (h2 : isTop st xs j n) : i = j ∧ m = n := by
  obtain ⟨a1, a2, a3⟩ := h1
  obtain ⟨b1, b2, b3⟩ := h2
  have c1 := a3 j n b1 b2
  have c2 := b3 i m a1 a2
  have e := bLt_total c1.1 c2.1
  have e2 : i = j := by
    have d1 := c1.2
    have d2 := c2.2
    rw [e] at d1 d2
    simp only [true_and, Nat.not_lt] at d1 d2
    omega
  subst e2
  rw [a1] at b1
  exact ⟨rfl, Option.some.inj b1⟩
theorem snoc_cases {xs : List TMsg} {x o : TMsg} {k : Nat} (h : (xs ++ [x])[k]? = some o) : xs[k]? = some o ∧ k < xs.length ∨ k = xs.length ∧ o = x := by
  rcases Nat.lt_trichotomy k xs.length with hk | hk | hk
  · rw [List.getElem?_append_left hk] at h
    exact .inl ⟨h, hk⟩
  · subst hk
    rw [List.getElem?_append_right (Nat.le_refl _)] at h
    simp at h
    exact .inr ⟨rfl, h.symm⟩
  · rw [List.getElem?_eq_none (by simp; omega)] at h
    cases h
theorem hi_spec (st : Int) (xs : List TMsg) : match hi st xs with | none => ∀ m ∈ xs, m.Status ≠ st | some a => ∃ i, isTop st xs i a := by
  suffices h : ∀ ys : List TMsg, match hi st ys.reverse with | none => ∀ m ∈ ys.reverse, m.Status ≠ st | some a => ∃ i, isTop st ys.reverse i a by
    have := h xs.reverse
    rwa [List.reverse_reverse] at this
  intro ys
  induction ys with
  | nil => simp [hi]
  | cons y ys ih =>
    rw [List.reverse_cons, hi_snoc]
    generalize ys.reverse = zs at *
    cases hz : hi st zs with
    | none =>
      rw [hz] at ih
      simp only at ih
      by_cases hy : y.Status = st
      · simp only [hiStep, hy, decide_true, Bool.and_self, if_true]
        refine ⟨zs.length, by simp, hy, fun k o hk ho => ?_⟩
        rcases snoc_cases hk with ⟨h1, _⟩ | ⟨h1, h2⟩
        · exact absurd ho (ih o (List.mem_of_getElem? h1))
        · rw [h2]
          exact ⟨bLt_irr, by omega⟩
      · simp only [hiStep, hy, decide_false, Bool.false_and, Bool.false_eq_true, if_false]
        intro m hm
        rcases List.mem_append.1 hm with h | h
        · exact ih m h
        · rw [List.mem_singleton.1 h]; exact hy
    | some a =>
      rw [hz] at ih
      simp only at ih
      obtain ⟨i, a1, a2, a3⟩ := ih
      have hi1 := (List.getElem?_eq_some_iff.1 a1).1
      by_cases hy : y.Status = st ∧ bLt a.Vote y.Vote = true
      · simp only [hiStep, hy.1, hy.2, decide_true, Bool.and_self, if_true]
        refine ⟨zs.length, by simp, hy.1, fun k o hk ho => ?_⟩
        rcases snoc_cases hk with ⟨h1, h3⟩ | ⟨h1, h2⟩
        · have h4 := (a3 k o h1 ho).1
          refine ⟨?_, ?_⟩
          · cases hq : bLt y.Vote o.Vote with
            | false => rfl
            | true => rw [bLt_trans hy.2 hq] at h4; cases h4
          · rintro ⟨h5, _⟩
            rw [← h5, hy.2] at h4; cases h4
        · rw [h2]
          exact ⟨bLt_irr, by omega⟩
      · have hf : (decide (y.Status = st) && bLt a.Vote y.Vote) = false := by
          rw [← Bool.not_eq_true, Bool.and_eq_true, decide_eq_true_eq]; exact hy
        simp only [hiStep, hf, Bool.false_eq_true, if_false]
        refine ⟨i, by rw [List.getElem?_append_left hi1]; exact a1, a2, fun k o hk ho => ?_⟩
        rcases snoc_cases hk with ⟨h1, h3⟩ | ⟨h1, h2⟩
        · exact a3 k o h1 ho
        · rw [h2] at ho ⊢
          refine ⟨?_, by omega⟩
          cases hq : bLt a.Vote y.Vote with
          | false => rfl
          | true => exact absurd ⟨ho, hq⟩ hy
theorem rescue_highest (e : Ent) (ao : Option Go.Addr) (cap b off : Nat) (xs : List TMsg) (st : Int) (hR : Rd e ao xs.length b off 25 (xs.map TMsg.c)) :
    Ct Try.prog 76 [.slice ao xs.length cap, I st] [e] (fun r σ' => r = .tuple #[A ((hi st xs).getD TMsg.z).c, B (hi st xs).isSome] ∧ σ' = [e]) := by
  have hm := hR.small
  simp only [Go.maxLen] at hm
  refine Ct.enter Try.func76 rfl rfl fun W => ?_
  apply Wp.seq
  apply Wp.region
  refine WpL.o (O.al tb (fun p4 => ?_))
  refine WpL.v (V.as) ?_
  apply WpL.nil
  apply Out.seqN
  apply Wp.seq
  apply Wp.region
  refine WpL.o (O.al tb (fun p6 => ?_))
  apply WpL.nil
  apply Out.seqN
  apply Wp.seq
  apply Wp.region
  refine WpL.v (V.as) ?_
  apply WpL.nil
  apply Out.seqN
  apply Wp.seq
  apply Wp.seq
  apply Wp.region
  refine WpL.v (V.mv) ?_
  refine WpL.v (V.lenL tb) ?_
  refine WpL.v (V.mv) ?_
  apply WpL.nil
  apply Out.seqN
  apply Wp.block
  refine Wp.lp [11, 10, 6, 4, 1] (fun i : Nat => i ≤ xs.length) (fun i => [(12, I (i : Int)), (7, B (hi st (xs.take i)).isSome)]) (fun i => [cells p6 44 ((hi st (xs.take i)).getD TMsg.z).c]) (fun i => xs.length - i) 0 (Nat.zero_le _) ?_
  rintro i hi0 K hK
  dsimp only [List.cons_append, List.nil_append]
  by_cases hlt : i < xs.length
  · obtain ⟨x, hx⟩ := getS hlt
    have e1 := take_snocS hx
    have e2 : hi st (xs.take (i + 1)) = hiStep st (hi st (xs.take i)) x := by rw [e1, hi_snoc]
    generalize hi st (xs.take i) = o at *
    cases o with
    | none =>
      by_cases hs : x.Status = st
      · have e3 : hi st (xs.take (i + 1)) = some x := by rw [e2]; simp [hiStep, hs]
        apply Wp.seq
        apply Wp.region
        refine WpL.v (V.cmp) ?_
        apply WpL.nil
        apply Out.seqN
        apply Wp.seq
        refine Wp.c (fun hh10 => ?_) (fun hh10 => ?_)
        (try simp only [decide_eq_true_eq, decide_eq_false_iff_not, Bool.not_eq_true', Bool.not_eq_false', Bool.not_eq_true, Bool.not_eq_false, not_true_eq_false, not_false_eq_true, reduceCtorEq] at hh10)
        apply Wp.skip
        apply Out.seqN
        apply Wp.seq
        apply Wp.block
        apply Wp.seq
        apply Wp.region
        refine WpL.v (V.ixR tb rfl rfl (by assumption)) ?_
        refine WpL.v (V.ldRA tb rfl (by assumption) (getMapS (by assumption))) ?_
        refine WpL.o (O.al tb (fun p9 => ?_))
        refine WpL.o (O.stA tb ?_)
        apply WpL.nil
        apply Out.seqN
        apply Wp.seq
        apply Wp.region
        refine WpL.v (V.fa tb) ?_
        refine WpL.v (V.ld1 tb) ?_
        refine WpL.v (V.mv) ?_
        refine WpL.v (V.cmp) ?_
        refine WpL.v (V.mv) ?_
        refine WpL.pt (fun hh11 => ?_) (fun hh11 => ?_)
        (try simp only [decide_eq_true_eq, decide_eq_false_iff_not, Bool.not_eq_true', Bool.not_eq_false', Bool.not_eq_true, Bool.not_eq_false, not_true_eq_false, not_false_eq_true, reduceCtorEq] at hh11)
        refine WpL.v (V.mv) ?_
        refine WpL.v (V.not) ?_
        refine WpL.v (V.mv) ?_
        refine WpL.sk ?_
        refine WpL.sk ?_
        refine WpL.sk ?_
        refine WpL.sk ?_
        refine WpL.sk ?_
        refine WpL.v (V.pT) ?_
        refine WpL.v (V.pT) ?_
        apply WpL.nil
        apply Out.seqN
        refine Wp.cT ?_
        apply Wp.region
        refine WpL.v (V.ldA tb) ?_
        refine WpL.o (O.stA tb ?_)
        refine WpL.v (V.as) ?_
        apply WpL.nil
        apply Out.blockN
        apply Out.seqN
        apply Wp.region
        refine WpL.v (V.add) ?_
        refine WpL.v (V.mv) ?_
        apply WpL.nil
        rotate_left
        (try simp only [decide_eq_true_eq, decide_eq_false_iff_not, Bool.not_eq_true', Bool.not_eq_false', Bool.not_eq_true, Bool.not_eq_false, not_true_eq_false, not_false_eq_true, reduceCtorEq] at hh11)
        (exfalso; omega)
        (try simp only [decide_eq_true_eq, decide_eq_false_iff_not, Bool.not_eq_true', Bool.not_eq_false', Bool.not_eq_true, Bool.not_eq_false, not_true_eq_false, not_false_eq_true, reduceCtorEq] at hh10)
        (exfalso; omega)
        all_goals exact Out.ag hK (i + 1) (by show i + 1 ≤ _; omega) (by show xs.length - (i + 1) < xs.length - i; omega) (he := by rw [e3]; (repeat (first | exact subEnv.nil | refine subEnv.cons rfl rfl ?_))) (hs := by rw [e3]; (repeat (first | exact Sel.nil | exact Rem.here | apply Sel.cons | apply Rem.there)))
      · have e3 : hi st (xs.take (i + 1)) = none := by rw [e2]; simp [hiStep, hs]
        apply Wp.seq
        apply Wp.region
        refine WpL.v (V.cmp) ?_
        apply WpL.nil
        apply Out.seqN
        apply Wp.seq
        refine Wp.c (fun hh20 => ?_) (fun hh20 => ?_)
        (try simp only [decide_eq_true_eq, decide_eq_false_iff_not, Bool.not_eq_true', Bool.not_eq_false', Bool.not_eq_true, Bool.not_eq_false, not_true_eq_false, not_false_eq_true, reduceCtorEq] at hh20)
        apply Wp.skip
        apply Out.seqN
        apply Wp.seq
        apply Wp.block
        apply Wp.seq
        apply Wp.region
        refine WpL.v (V.ixR tb rfl rfl (by assumption)) ?_
        refine WpL.v (V.ldRA tb rfl (by assumption) (getMapS (by assumption))) ?_
        refine WpL.o (O.al tb (fun p9 => ?_))
        refine WpL.o (O.stA tb ?_)
        apply WpL.nil
        apply Out.seqN
        apply Wp.seq
        apply Wp.region
        refine WpL.v (V.fa tb) ?_
        refine WpL.v (V.ld1 tb) ?_
        refine WpL.v (V.mv) ?_
        refine WpL.v (V.cmp) ?_
        refine WpL.v (V.mv) ?_
        refine WpL.pt (fun hh21 => ?_) (fun hh21 => ?_)
        (try simp only [decide_eq_true_eq, decide_eq_false_iff_not, Bool.not_eq_true', Bool.not_eq_false', Bool.not_eq_true, Bool.not_eq_false, not_true_eq_false, not_false_eq_true, reduceCtorEq] at hh21)
        (exfalso; omega)
        (try simp only [decide_eq_true_eq, decide_eq_false_iff_not, Bool.not_eq_true', Bool.not_eq_false', Bool.not_eq_true, Bool.not_eq_false, not_true_eq_false, not_false_eq_true, reduceCtorEq] at hh21)
        refine WpL.sk ?_
        refine WpL.sk ?_
        refine WpL.sk ?_
        refine WpL.sk ?_
        refine WpL.sk ?_
        refine WpL.sk ?_
        refine WpL.sk ?_
        refine WpL.sk ?_
        refine WpL.sk ?_
        refine WpL.v (V.pF) ?_
        apply WpL.nil
        apply Out.seqN
        refine Wp.cF ?_
        apply Wp.skip
        apply Out.blockN
        apply Out.seqN
        apply Wp.region
        refine WpL.v (V.add) ?_
        refine WpL.v (V.mv) ?_
        apply WpL.nil
        rotate_left
        (try simp only [decide_eq_true_eq, decide_eq_false_iff_not, Bool.not_eq_true', Bool.not_eq_false', Bool.not_eq_true, Bool.not_eq_false, not_true_eq_false, not_false_eq_true, reduceCtorEq] at hh20)
        (exfalso; omega)
        all_goals exact Out.ag hK (i + 1) (by show i + 1 ≤ _; omega) (by show xs.length - (i + 1) < xs.length - i; omega) (he := by rw [e3]; (repeat (first | exact subEnv.nil | refine subEnv.cons rfl rfl ?_))) (hs := by rw [e3]; (repeat (first | exact Sel.nil | exact Rem.here | apply Sel.cons | apply Rem.there)))
    | some a =>
      by_cases hs : x.Status = st
      · have hL := ballot_less a.Vote x.Vote
        cases hb : bLt a.Vote x.Vote with
        | true =>
          rw [hb] at hL
          have e3 : hi st (xs.take (i + 1)) = some x := by rw [e2]; simp [hiStep, hs, hb]
          apply Wp.seq
          apply Wp.region
          refine WpL.v (V.cmp) ?_
          apply WpL.nil
          apply Out.seqN
          apply Wp.seq
          refine Wp.c (fun hh30 => ?_) (fun hh30 => ?_)
          (try simp only [decide_eq_true_eq, decide_eq_false_iff_not, Bool.not_eq_true', Bool.not_eq_false', Bool.not_eq_true, Bool.not_eq_false, not_true_eq_false, not_false_eq_true, reduceCtorEq] at hh30)
          apply Wp.skip
          apply Out.seqN
          apply Wp.seq
          apply Wp.block
          apply Wp.seq
          apply Wp.region
          refine WpL.v (V.ixR tb rfl rfl (by assumption)) ?_
          refine WpL.v (V.ldRA tb rfl (by assumption) (getMapS (by assumption))) ?_
          refine WpL.o (O.al tb (fun p9 => ?_))
          refine WpL.o (O.stA tb ?_)
          apply WpL.nil
          apply Out.seqN
          apply Wp.seq
          apply Wp.region
          refine WpL.v (V.fa tb) ?_
          refine WpL.v (V.ld1 tb) ?_
          refine WpL.v (V.mv) ?_
          refine WpL.v (V.cmp) ?_
          refine WpL.v (V.mv) ?_
          refine WpL.pt (fun hh31 => ?_) (fun hh31 => ?_)
          (try simp only [decide_eq_true_eq, decide_eq_false_iff_not, Bool.not_eq_true', Bool.not_eq_false', Bool.not_eq_true, Bool.not_eq_false, not_true_eq_false, not_false_eq_true, reduceCtorEq] at hh31)
          refine WpL.v (V.mv) ?_
          refine WpL.v (V.not) ?_
          refine WpL.v (V.mv) ?_
          refine WpL.pt (fun hh32 => ?_) (fun hh32 => ?_)
          (try simp only [decide_eq_true_eq, decide_eq_false_iff_not, Bool.not_eq_true', Bool.not_eq_false', Bool.not_eq_true, Bool.not_eq_false, not_true_eq_false, not_false_eq_true, reduceCtorEq] at hh32)
          contradiction
          (try simp only [decide_eq_true_eq, decide_eq_false_iff_not, Bool.not_eq_true', Bool.not_eq_false', Bool.not_eq_true, Bool.not_eq_false, not_true_eq_false, not_false_eq_true, reduceCtorEq] at hh32)
          refine WpL.v (V.fa tb) ?_
          refine WpL.v (V.ldA tb) ?_
          refine WpL.v (V.fa tb) ?_
          refine WpL.v (V.ldA tb) ?_
          refine WpL.o (Op1.fn rfl (hL) ?_)
          refine WpL.v (V.pF) ?_
          refine WpL.v (V.pT) ?_
          apply WpL.nil
          apply Out.seqN
          refine Wp.cT ?_
          apply Wp.region
          refine WpL.v (V.ldA tb) ?_
          refine WpL.o (O.stA tb ?_)
          refine WpL.v (V.as) ?_
          apply WpL.nil
          apply Out.blockN
          apply Out.seqN
          apply Wp.region
          refine WpL.v (V.add) ?_
          refine WpL.v (V.mv) ?_
          apply WpL.nil
          rotate_left
          (try simp only [decide_eq_true_eq, decide_eq_false_iff_not, Bool.not_eq_true', Bool.not_eq_false', Bool.not_eq_true, Bool.not_eq_false, not_true_eq_false, not_false_eq_true, reduceCtorEq] at hh31)
          (exfalso; omega)
          (try simp only [decide_eq_true_eq, decide_eq_false_iff_not, Bool.not_eq_true', Bool.not_eq_false', Bool.not_eq_true, Bool.not_eq_false, not_true_eq_false, not_false_eq_true, reduceCtorEq] at hh30)
          (exfalso; omega)
          all_goals exact Out.ag hK (i + 1) (by show i + 1 ≤ _; omega) (by show xs.length - (i + 1) < xs.length - i; omega) (he := by rw [e3]; (repeat (first | exact subEnv.nil | refine subEnv.cons rfl rfl ?_))) (hs := by rw [e3]; (repeat (first | exact Sel.nil | exact Rem.here | apply Sel.cons | apply Rem.there)))
        | false =>
          rw [hb] at hL
          have e3 : hi st (xs.take (i + 1)) = some a := by rw [e2]; simp [hiStep, hs, hb]
          apply Wp.seq
          apply Wp.region
          refine WpL.v (V.cmp) ?_
          apply WpL.nil
          apply Out.seqN
          apply Wp.seq
          refine Wp.c (fun hh40 => ?_) (fun hh40 => ?_)
          (try simp only [decide_eq_true_eq, decide_eq_false_iff_not, Bool.not_eq_true', Bool.not_eq_false', Bool.not_eq_true, Bool.not_eq_false, not_true_eq_false, not_false_eq_true, reduceCtorEq] at hh40)
          apply Wp.skip
          apply Out.seqN
          apply Wp.seq
          apply Wp.block
          apply Wp.seq
          apply Wp.region
          refine WpL.v (V.ixR tb rfl rfl (by assumption)) ?_
          refine WpL.v (V.ldRA tb rfl (by assumption) (getMapS (by assumption))) ?_
          refine WpL.o (O.al tb (fun p9 => ?_))
          refine WpL.o (O.stA tb ?_)
          apply WpL.nil
          apply Out.seqN
          apply Wp.seq
          apply Wp.region
          refine WpL.v (V.fa tb) ?_
          refine WpL.v (V.ld1 tb) ?_
          refine WpL.v (V.mv) ?_
          refine WpL.v (V.cmp) ?_
          refine WpL.v (V.mv) ?_
          refine WpL.pt (fun hh41 => ?_) (fun hh41 => ?_)
          (try simp only [decide_eq_true_eq, decide_eq_false_iff_not, Bool.not_eq_true', Bool.not_eq_false', Bool.not_eq_true, Bool.not_eq_false, not_true_eq_false, not_false_eq_true, reduceCtorEq] at hh41)
          refine WpL.v (V.mv) ?_
          refine WpL.v (V.not) ?_
          refine WpL.v (V.mv) ?_
          refine WpL.pt (fun hh42 => ?_) (fun hh42 => ?_)
          (try simp only [decide_eq_true_eq, decide_eq_false_iff_not, Bool.not_eq_true', Bool.not_eq_false', Bool.not_eq_true, Bool.not_eq_false, not_true_eq_false, not_false_eq_true, reduceCtorEq] at hh42)
          contradiction
          (try simp only [decide_eq_true_eq, decide_eq_false_iff_not, Bool.not_eq_true', Bool.not_eq_false', Bool.not_eq_true, Bool.not_eq_false, not_true_eq_false, not_false_eq_true, reduceCtorEq] at hh42)
          refine WpL.v (V.fa tb) ?_
          refine WpL.v (V.ldA tb) ?_
          refine WpL.v (V.fa tb) ?_
          refine WpL.v (V.ldA tb) ?_
          refine WpL.o (Op1.fn rfl (hL) ?_)
          refine WpL.v (V.pF) ?_
          refine WpL.v (V.pT) ?_
          apply WpL.nil
          apply Out.seqN
          refine Wp.cF ?_
          apply Wp.skip
          apply Out.blockN
          apply Out.seqN
          apply Wp.region
          refine WpL.v (V.add) ?_
          refine WpL.v (V.mv) ?_
          apply WpL.nil
          rotate_left
          (try simp only [decide_eq_true_eq, decide_eq_false_iff_not, Bool.not_eq_true', Bool.not_eq_false', Bool.not_eq_true, Bool.not_eq_false, not_true_eq_false, not_false_eq_true, reduceCtorEq] at hh41)
          (exfalso; omega)
          (try simp only [decide_eq_true_eq, decide_eq_false_iff_not, Bool.not_eq_true', Bool.not_eq_false', Bool.not_eq_true, Bool.not_eq_false, not_true_eq_false, not_false_eq_true, reduceCtorEq] at hh40)
          (exfalso; omega)
          all_goals exact Out.ag hK (i + 1) (by show i + 1 ≤ _; omega) (by show xs.length - (i + 1) < xs.length - i; omega) (he := by rw [e3]; (repeat (first | exact subEnv.nil | refine subEnv.cons rfl rfl ?_))) (hs := by rw [e3]; (repeat (first | exact Sel.nil | exact Rem.here | apply Sel.cons | apply Rem.there)))
      · have e3 : hi st (xs.take (i + 1)) = some a := by rw [e2]; simp [hiStep, hs]
        apply Wp.seq
        apply Wp.region
        refine WpL.v (V.cmp) ?_
        apply WpL.nil
        apply Out.seqN
        apply Wp.seq
        refine Wp.c (fun hh50 => ?_) (fun hh50 => ?_)
        (try simp only [decide_eq_true_eq, decide_eq_false_iff_not, Bool.not_eq_true', Bool.not_eq_false', Bool.not_eq_true, Bool.not_eq_false, not_true_eq_false, not_false_eq_true, reduceCtorEq] at hh50)
        apply Wp.skip
        apply Out.seqN
        apply Wp.seq
        apply Wp.block
        apply Wp.seq
        apply Wp.region
        refine WpL.v (V.ixR tb rfl rfl (by assumption)) ?_
        refine WpL.v (V.ldRA tb rfl (by assumption) (getMapS (by assumption))) ?_
        refine WpL.o (O.al tb (fun p9 => ?_))
        refine WpL.o (O.stA tb ?_)
        apply WpL.nil
        apply Out.seqN
        apply Wp.seq
        apply Wp.region
        refine WpL.v (V.fa tb) ?_
        refine WpL.v (V.ld1 tb) ?_
        refine WpL.v (V.mv) ?_
        refine WpL.v (V.cmp) ?_
        refine WpL.v (V.mv) ?_
        refine WpL.pt (fun hh51 => ?_) (fun hh51 => ?_)
        (try simp only [decide_eq_true_eq, decide_eq_false_iff_not, Bool.not_eq_true', Bool.not_eq_false', Bool.not_eq_true, Bool.not_eq_false, not_true_eq_false, not_false_eq_true, reduceCtorEq] at hh51)
        (exfalso; omega)
        (try simp only [decide_eq_true_eq, decide_eq_false_iff_not, Bool.not_eq_true', Bool.not_eq_false', Bool.not_eq_true, Bool.not_eq_false, not_true_eq_false, not_false_eq_true, reduceCtorEq] at hh51)
        refine WpL.sk ?_
        refine WpL.sk ?_
        refine WpL.sk ?_
        refine WpL.sk ?_
        refine WpL.sk ?_
        refine WpL.sk ?_
        refine WpL.sk ?_
        refine WpL.sk ?_
        refine WpL.sk ?_
        refine WpL.v (V.pF) ?_
        apply WpL.nil
        apply Out.seqN
        refine Wp.cF ?_
        apply Wp.skip
        apply Out.blockN
        apply Out.seqN
        apply Wp.region
        refine WpL.v (V.add) ?_
        refine WpL.v (V.mv) ?_
        apply WpL.nil
        rotate_left
        (try simp only [decide_eq_true_eq, decide_eq_false_iff_not, Bool.not_eq_true', Bool.not_eq_false', Bool.not_eq_true, Bool.not_eq_false, not_true_eq_false, not_false_eq_true, reduceCtorEq] at hh50)
        (exfalso; omega)
        all_goals exact Out.ag hK (i + 1) (by show i + 1 ≤ _; omega) (by show xs.length - (i + 1) < xs.length - i; omega) (he := by rw [e3]; (repeat (first | exact subEnv.nil | refine subEnv.cons rfl rfl ?_))) (hs := by rw [e3]; (repeat (first | exact Sel.nil | exact Rem.here | apply Sel.cons | apply Rem.there)))
  · obtain rfl : i = xs.length := by omega
    rw [List.take_length]
    clear hK
    apply Wp.seq
    apply Wp.region
    refine WpL.v (V.cmp) ?_
    apply WpL.nil
    apply Out.seqN
    apply Wp.seq
    refine Wp.c (fun hh90 => ?_) (fun hh90 => ?_)
    (try simp only [decide_eq_true_eq, decide_eq_false_iff_not, Bool.not_eq_true', Bool.not_eq_false', Bool.not_eq_true, Bool.not_eq_false, not_true_eq_false, not_false_eq_true, reduceCtorEq] at hh90)
    (exfalso; omega)
    (try simp only [decide_eq_true_eq, decide_eq_false_iff_not, Bool.not_eq_true', Bool.not_eq_false', Bool.not_eq_true, Bool.not_eq_false, not_true_eq_false, not_false_eq_true, reduceCtorEq] at hh90)
    apply Wp.exit
    apply Out.seqE
    apply Out.seqE
    apply Out.blockE
    apply Out.seqN
    apply Wp.seq
    apply Wp.region
    refine WpL.v (V.ldA tb) ?_
    refine WpL.v (V.mv) ?_
    refine WpL.o (O.stA tb ?_)
    refine WpL.v (V.as) ?_
    apply WpL.nil
    apply Out.seqN
    apply Wp.ret
    refine Out.f2 rfl (ResIs.ca tb) ResIs.t ⟨?_, rfl⟩
    exact rfl
def BestIs (st : Int) (xs : List TMsg) (r : Int) : Prop := (r = -1 ∧ ∀ i m, ¬ isTop st xs i m) ∨ ∃ i : Nat, ∃ m, r = (i : Int) ∧ isTop st xs i m
theorem best_iff {st : Int} {xs : List TMsg} {r0 : Int} (hr : BestIs st xs r0) {i : Nat} {m : TMsg} (hx : xs[i]? = some m) : r0 = (i : Int) ↔ isTop st xs i m := by
  constructor
  · intro h
    rcases hr with ⟨h1, _⟩ | ⟨j, n, h1, h2⟩
    · omega
    · obtain rfl : j = i := by omega
      have h3 := h2.1
      rw [hx] at h3
      rw [Option.some.inj h3]; exact h2
  · intro h
    rcases hr with ⟨_, h1⟩ | ⟨j, n, h1, h2⟩
    · exact absurd h (h1 i m)
    · have := (isTop_unique h h2).1
      omega
def badB (st : Int) (m : TMsg) (i : Nat) (o : TMsg) (k : Nat) : Bool := decide (o.Status = st) && (bLt m.Vote o.Vote || (decide (m.Vote = o.Vote) && decide (k < i)))
theorem top_iff {st : Int} {xs : List TMsg} {i : Nat} {m : TMsg} (hx : xs[i]? = some m) (hs : m.Status = st) : isTop st xs i m ↔ ∀ k, k < xs.length → ∀ o, xs[k]? = some o → badB st m i o k = false := by
  constructor
  · rintro ⟨_, _, h⟩ k _ o ho
    unfold badB
    by_cases h1 : o.Status = st
    · have h2 := h k o ho h1
      rw [h2.1]
      have h3 := h2.2
      by_cases h4 : m.Vote = o.Vote
      · have : ¬ k < i := fun h5 => h3 ⟨h4, h5⟩
        simp [this]
      · simp [h4]
    · simp [h1]
  · intro h
    refine ⟨hx, hs, fun k o ho h1 => ?_⟩
    have h2 := h k (List.getElem?_eq_some_iff.1 ho).1 o ho
    unfold badB at h2
    simp only [h1, decide_true, Bool.true_and, Bool.or_eq_false_iff, Bool.and_eq_false_iff, decide_eq_false_iff_not] at h2
    refine ⟨h2.1, fun ⟨h3, h4⟩ => ?_⟩
    rcases h2.2 with h5 | h5
    · exact h5 h3
    · exact h5 h4
theorem ref_best (e : Ent) (ao : Option Go.Addr) (cap b off : Nat) (xs : List TMsg) (st : Int) (r0 : Int) (hr : BestIs st xs r0) (hR : Rd e ao xs.length b off 25 (xs.map TMsg.c)) :
    Ct Try.prog 81 [.slice ao xs.length cap, I st] [e] (fun r σ' => r = I r0 ∧ σ' = [e]) := by
  have hm := hR.small
  simp only [Go.maxLen] at hm
  refine Ct.enter Try.func81 rfl rfl fun W => ?_
  apply Wp.seq
  apply Wp.region
  refine WpL.v (V.as) ?_
  apply WpL.nil
  apply Out.seqN
  apply Wp.seq
  apply Wp.region
  refine WpL.v (V.as) ?_
  apply WpL.nil
  apply Out.seqN
  apply Wp.seq
  apply Wp.seq
  apply Wp.region
  refine WpL.v (V.mv) ?_
  refine WpL.v (V.lenL tb) ?_
  refine WpL.v (V.mv) ?_
  apply WpL.nil
  apply Out.seqN
  apply Wp.block
  refine Wp.lp [12, 11, 0, 1] (fun y : Nat × Int => y.1 ≤ xs.length ∧ y.2 = (if 0 ≤ r0 ∧ r0 < y.1 then r0 else -1)) (fun y => [(13, I (y.1 : Int)), (5, I y.2)]) (fun y => []) (fun y => xs.length - y.1) (0, -1) ⟨Nat.zero_le _, by rw [if_neg]; show ¬ (0 ≤ r0 ∧ r0 < ((0 : Nat) : Int)); omega⟩ ?_
  rintro ⟨i, a⟩ ⟨hi0, ha⟩ K hK
  dsimp only at hi0 ha
  dsimp only [List.cons_append, List.nil_append]
  by_cases hlt : i < xs.length
  · obtain ⟨m, hx⟩ := getS hlt
    have hbi := best_iff hr hx
    by_cases hs : m.Status = st
    · have hti := top_iff hx hs
      apply Wp.seq
      apply Wp.region
      refine WpL.v (V.cmp) ?_
      apply WpL.nil
      apply Out.seqN
      apply Wp.seq
      refine Wp.c (fun hb10 => ?_) (fun hb10 => ?_)
      (try simp only [decide_eq_true_eq, decide_eq_false_iff_not, Bool.not_eq_true', Bool.not_eq_false', Bool.not_eq_true, Bool.not_eq_false, not_true_eq_false, not_false_eq_true, reduceCtorEq] at hb10)
      apply Wp.skip
      apply Out.seqN
      apply Wp.seq
      apply Wp.block
      apply Wp.seq
      apply Wp.region
      refine WpL.v (V.mv) ?_
      refine WpL.v (V.ixR tb rfl rfl (by assumption)) ?_
      refine WpL.v (V.ldRA tb rfl (by assumption) (getMapS (by assumption))) ?_
      refine WpL.o (O.al tb (fun p7 => ?_))
      refine WpL.v (V.as) ?_
      refine WpL.o (O.stA tb ?_)
      apply WpL.nil
      apply Out.seqN
      apply Wp.seq
      apply Wp.seq
      apply Wp.region
      refine WpL.v (V.fa tb) ?_
      refine WpL.v (V.ld1 tb) ?_
      refine WpL.v (V.mv) ?_
      refine WpL.v (V.cmp) ?_
      apply WpL.nil
      apply Out.seqN
      refine Wp.c (fun hb11 => ?_) (fun hb11 => ?_)
      (try simp only [decide_eq_true_eq, decide_eq_false_iff_not, Bool.not_eq_true', Bool.not_eq_false', Bool.not_eq_true, Bool.not_eq_false, not_true_eq_false, not_false_eq_true, reduceCtorEq] at hb11)
      (exfalso; omega)
      (try simp only [decide_eq_true_eq, decide_eq_false_iff_not, Bool.not_eq_true', Bool.not_eq_false', Bool.not_eq_true, Bool.not_eq_false, not_true_eq_false, not_false_eq_true, reduceCtorEq] at hb11)
      apply Wp.skip
      apply Out.seqN
      apply Wp.seq
      apply Wp.region
      refine WpL.v (V.as) ?_
      apply WpL.nil
      apply Out.seqN
      apply Wp.seq
      apply Wp.seq
      apply Wp.region
      refine WpL.v (V.mv) ?_
      refine WpL.v (V.lenL tb) ?_
      refine WpL.v (V.mv) ?_
      apply WpL.nil
      apply Out.seqN
      apply Wp.block
      rotate_left
      (try simp only [decide_eq_true_eq, decide_eq_false_iff_not, Bool.not_eq_true', Bool.not_eq_false', Bool.not_eq_true, Bool.not_eq_false, not_true_eq_false, not_false_eq_true, reduceCtorEq] at hb10)
      (exfalso; omega)
      refine Wp.lp [23, 22, 6, 7, 13, 5, 12, 11, 0, 1] (fun y : Nat × Bool => y.1 ≤ xs.length ∧ (y.2 = true ↔ ∀ k, k < y.1 → ∀ o, xs[k]? = some o → badB st m i o k = false)) (fun y => [(24, I (y.1 : Int)), (8, B y.2)]) (fun y => []) (fun y => xs.length - y.1) (0, true) ⟨Nat.zero_le _, ⟨fun _ k hk => absurd hk (Nat.not_lt_zero _), fun _ => rfl⟩⟩ ?_
      rintro ⟨k, t⟩ ⟨hk0, ht⟩ K2 hK2
      dsimp only at hk0 ht
      dsimp only [List.cons_append, List.nil_append]
      by_cases hlk : k < xs.length
      · obtain ⟨o, ho⟩ := getS hlk
        have hL := ref_less m.Vote o.Vote
        cases hb : badB st m i o k with
        | true =>
          have hJ : (false = true ↔ ∀ j, j < k + 1 → ∀ o, xs[j]? = some o → badB st m i o j = false) := by
            constructor
            · intro h; cases h
            · intro h; rw [h k (by omega) o ho] at hb; cases hb
          unfold badB at hb
          simp only [Bool.and_eq_true, Bool.or_eq_true, decide_eq_true_eq] at hb
          obtain ⟨hb1, hb2⟩ := hb
          cases hl : bLt m.Vote o.Vote with
          | true =>
            rw [hl] at hL
            apply Wp.seq
            apply Wp.region
            refine WpL.v (V.cmp) ?_
            apply WpL.nil
            apply Out.seqN
            apply Wp.seq
            refine Wp.c (fun hb30 => ?_) (fun hb30 => ?_)
            (try simp only [decide_eq_true_eq, decide_eq_false_iff_not, Bool.not_eq_true', Bool.not_eq_false', Bool.not_eq_true, Bool.not_eq_false, not_true_eq_false, not_false_eq_true, reduceCtorEq] at hb30)
            apply Wp.skip
            apply Out.seqN
            apply Wp.seq
            apply Wp.block
            apply Wp.seq
            apply Wp.region
            refine WpL.v (V.mv) ?_
            refine WpL.v (V.ixR tb rfl rfl (by assumption)) ?_
            refine WpL.v (V.ldRA tb rfl (by assumption) (getMapS (by assumption))) ?_
            refine WpL.o (O.al tb (fun p10 => ?_))
            refine WpL.v (V.as) ?_
            refine WpL.o (O.stA tb ?_)
            apply WpL.nil
            apply Out.seqN
            apply Wp.seq
            apply Wp.region
            refine WpL.v (V.fa tb) ?_
            refine WpL.v (V.ld1 tb) ?_
            refine WpL.v (V.mv) ?_
            refine WpL.v (V.cmp) ?_
            refine WpL.v (V.mv) ?_
            refine WpL.pt (fun hb31 => ?_) (fun hb31 => ?_)
            (try simp only [decide_eq_true_eq, decide_eq_false_iff_not, Bool.not_eq_true', Bool.not_eq_false', Bool.not_eq_true, Bool.not_eq_false, not_true_eq_false, not_false_eq_true, reduceCtorEq] at hb31)
            refine WpL.v (V.fa tb) ?_
            refine WpL.v (V.ldA tb) ?_
            refine WpL.v (V.fa tb) ?_
            refine WpL.v (V.ldA tb) ?_
            refine WpL.o (Op1.fn rfl (hL) ?_)
            refine WpL.v (V.mv) ?_
            refine WpL.sk ?_
            refine WpL.sk ?_
            refine WpL.sk ?_
            refine WpL.sk ?_
            refine WpL.sk ?_
            refine WpL.sk ?_
            refine WpL.sk ?_
            refine WpL.sk ?_
            refine WpL.sk ?_
            refine WpL.sk ?_
            refine WpL.v (V.pT) ?_
            refine WpL.v (V.pT) ?_
            apply WpL.nil
            apply Out.seqN
            refine Wp.cT ?_
            apply Wp.region
            refine WpL.v (V.as) ?_
            apply WpL.nil
            apply Out.blockN
            apply Out.seqN
            apply Wp.region
            refine WpL.v (V.add) ?_
            refine WpL.v (V.mv) ?_
            apply WpL.nil
            rotate_left
            (try simp only [decide_eq_true_eq, decide_eq_false_iff_not, Bool.not_eq_true', Bool.not_eq_false', Bool.not_eq_true, Bool.not_eq_false, not_true_eq_false, not_false_eq_true, reduceCtorEq] at hb31)
            (exfalso; omega)
            (try simp only [decide_eq_true_eq, decide_eq_false_iff_not, Bool.not_eq_true', Bool.not_eq_false', Bool.not_eq_true, Bool.not_eq_false, not_true_eq_false, not_false_eq_true, reduceCtorEq] at hb30)
            (exfalso; omega)
            all_goals exact Out.ag hK2 (k + 1, false) ⟨by show k + 1 ≤ _; omega, hJ⟩ (by show xs.length - (k + 1) < xs.length - k; omega)
          | false =>
            rw [hl] at hL hb2
            obtain ⟨hb3, hb4⟩ := hb2.resolve_left (by simp)
            apply Wp.seq
            apply Wp.region
            refine WpL.v (V.cmp) ?_
            apply WpL.nil
            apply Out.seqN
            apply Wp.seq
            refine Wp.c (fun hb40 => ?_) (fun hb40 => ?_)
            (try simp only [decide_eq_true_eq, decide_eq_false_iff_not, Bool.not_eq_true', Bool.not_eq_false', Bool.not_eq_true, Bool.not_eq_false, not_true_eq_false, not_false_eq_true, reduceCtorEq] at hb40)
            apply Wp.skip
            apply Out.seqN
            apply Wp.seq
            apply Wp.block
            apply Wp.seq
            apply Wp.region
            refine WpL.v (V.mv) ?_
            refine WpL.v (V.ixR tb rfl rfl (by assumption)) ?_
            refine WpL.v (V.ldRA tb rfl (by assumption) (getMapS (by assumption))) ?_
            refine WpL.o (O.al tb (fun p10 => ?_))
            refine WpL.v (V.as) ?_
            refine WpL.o (O.stA tb ?_)
            apply WpL.nil
            apply Out.seqN
            apply Wp.seq
            apply Wp.region
            refine WpL.v (V.fa tb) ?_
            refine WpL.v (V.ld1 tb) ?_
            refine WpL.v (V.mv) ?_
            refine WpL.v (V.cmp) ?_
            refine WpL.v (V.mv) ?_
            refine WpL.pt (fun hb41 => ?_) (fun hb41 => ?_)
            (try simp only [decide_eq_true_eq, decide_eq_false_iff_not, Bool.not_eq_true', Bool.not_eq_false', Bool.not_eq_true, Bool.not_eq_false, not_true_eq_false, not_false_eq_true, reduceCtorEq] at hb41)
            refine WpL.v (V.fa tb) ?_
            refine WpL.v (V.ldA tb) ?_
            refine WpL.v (V.fa tb) ?_
            refine WpL.v (V.ldA tb) ?_
            refine WpL.o (Op1.fn rfl (hL) ?_)
            refine WpL.v (V.mv) ?_
            refine WpL.v (V.fa tb) ?_
            refine WpL.v (V.ldA tb) ?_
            refine WpL.v (V.fa tb) ?_
            refine WpL.v (V.ldA tb) ?_
            refine WpL.v (V.eq (TBallot.eqT _ _ _)) ?_
            refine WpL.v (V.mv) ?_
            refine WpL.pt (fun hb42 => ?_) (fun hb42 => ?_)
            (try simp only [decide_eq_true_eq, decide_eq_false_iff_not, Bool.not_eq_true', Bool.not_eq_false', Bool.not_eq_true, Bool.not_eq_false, not_true_eq_false, not_false_eq_true, reduceCtorEq] at hb42)
            refine WpL.v (V.mv) ?_
            refine WpL.v (V.mv) ?_
            refine WpL.v (V.cmp) ?_
            refine WpL.v (V.pT) ?_
            refine WpL.v (V.pF) ?_
            refine WpL.v (V.pT) ?_
            apply WpL.nil
            apply Out.seqN
            refine Wp.c (fun hb43 => ?_) (fun hb43 => ?_)
            (try simp only [decide_eq_true_eq, decide_eq_false_iff_not, Bool.not_eq_true', Bool.not_eq_false', Bool.not_eq_true, Bool.not_eq_false, not_true_eq_false, not_false_eq_true, reduceCtorEq] at hb43)
            apply Wp.region
            refine WpL.v (V.as) ?_
            apply WpL.nil
            apply Out.blockN
            apply Out.seqN
            apply Wp.region
            refine WpL.v (V.add) ?_
            refine WpL.v (V.mv) ?_
            apply WpL.nil
            rotate_left
            (try simp only [decide_eq_true_eq, decide_eq_false_iff_not, Bool.not_eq_true', Bool.not_eq_false', Bool.not_eq_true, Bool.not_eq_false, not_true_eq_false, not_false_eq_true, reduceCtorEq] at hb43)
            (exfalso; omega)
            (try simp only [decide_eq_true_eq, decide_eq_false_iff_not, Bool.not_eq_true', Bool.not_eq_false', Bool.not_eq_true, Bool.not_eq_false, not_true_eq_false, not_false_eq_true, reduceCtorEq] at hb42)
            contradiction
            (try simp only [decide_eq_true_eq, decide_eq_false_iff_not, Bool.not_eq_true', Bool.not_eq_false', Bool.not_eq_true, Bool.not_eq_false, not_true_eq_false, not_false_eq_true, reduceCtorEq] at hb41)
            (exfalso; omega)
            (try simp only [decide_eq_true_eq, decide_eq_false_iff_not, Bool.not_eq_true', Bool.not_eq_false', Bool.not_eq_true, Bool.not_eq_false, not_true_eq_false, not_false_eq_true, reduceCtorEq] at hb40)
            (exfalso; omega)
            all_goals exact Out.ag hK2 (k + 1, false) ⟨by show k + 1 ≤ _; omega, hJ⟩ (by show xs.length - (k + 1) < xs.length - k; omega)
        | false =>
          have hJ : (t = true ↔ ∀ j, j < k + 1 → ∀ o, xs[j]? = some o → badB st m i o j = false) := by
            rw [ht]
            constructor
            · intro h j hj o' ho'
              by_cases hjk : j = k
              · subst hjk; rw [ho] at ho'; rw [← Option.some.inj ho']; exact hb
              · exact h j (by omega) o' ho'
            · intro h j hj; exact h j (by omega)
          unfold badB at hb
          by_cases hos : o.Status = st
          · simp only [hos, decide_true, Bool.true_and, Bool.or_eq_false_iff, Bool.and_eq_false_iff, decide_eq_false_iff_not] at hb
            obtain ⟨hl, hb2⟩ := hb
            rw [hl] at hL
            by_cases hv : m.Vote = o.Vote
            · have hb3 : ¬ k < i := hb2.resolve_left (fun h => h hv)
              apply Wp.seq
              apply Wp.region
              refine WpL.v (V.cmp) ?_
              apply WpL.nil
              apply Out.seqN
              apply Wp.seq
              refine Wp.c (fun hb50 => ?_) (fun hb50 => ?_)
              (try simp only [decide_eq_true_eq, decide_eq_false_iff_not, Bool.not_eq_true', Bool.not_eq_false', Bool.not_eq_true, Bool.not_eq_false, not_true_eq_false, not_false_eq_true, reduceCtorEq] at hb50)
              apply Wp.skip
              apply Out.seqN
              apply Wp.seq
              apply Wp.block
              apply Wp.seq
              apply Wp.region
              refine WpL.v (V.mv) ?_
              refine WpL.v (V.ixR tb rfl rfl (by assumption)) ?_
              refine WpL.v (V.ldRA tb rfl (by assumption) (getMapS (by assumption))) ?_
              refine WpL.o (O.al tb (fun p10 => ?_))
              refine WpL.v (V.as) ?_
              refine WpL.o (O.stA tb ?_)
              apply WpL.nil
              apply Out.seqN
              apply Wp.seq
              apply Wp.region
              refine WpL.v (V.fa tb) ?_
              refine WpL.v (V.ld1 tb) ?_
              refine WpL.v (V.mv) ?_
              refine WpL.v (V.cmp) ?_
              refine WpL.v (V.mv) ?_
              refine WpL.pt (fun hb51 => ?_) (fun hb51 => ?_)
              (try simp only [decide_eq_true_eq, decide_eq_false_iff_not, Bool.not_eq_true', Bool.not_eq_false', Bool.not_eq_true, Bool.not_eq_false, not_true_eq_false, not_false_eq_true, reduceCtorEq] at hb51)
              refine WpL.v (V.fa tb) ?_
              refine WpL.v (V.ldA tb) ?_
              refine WpL.v (V.fa tb) ?_
              refine WpL.v (V.ldA tb) ?_
              refine WpL.o (Op1.fn rfl (hL) ?_)
              refine WpL.v (V.mv) ?_
              refine WpL.v (V.fa tb) ?_
              refine WpL.v (V.ldA tb) ?_
              refine WpL.v (V.fa tb) ?_
              refine WpL.v (V.ldA tb) ?_
              refine WpL.v (V.eq (TBallot.eqT _ _ _)) ?_
              refine WpL.v (V.mv) ?_
              refine WpL.pt (fun hb52 => ?_) (fun hb52 => ?_)
              (try simp only [decide_eq_true_eq, decide_eq_false_iff_not, Bool.not_eq_true', Bool.not_eq_false', Bool.not_eq_true, Bool.not_eq_false, not_true_eq_false, not_false_eq_true, reduceCtorEq] at hb52)
              refine WpL.v (V.mv) ?_
              refine WpL.v (V.mv) ?_
              refine WpL.v (V.cmp) ?_
              refine WpL.v (V.pT) ?_
              refine WpL.v (V.pF) ?_
              refine WpL.v (V.pT) ?_
              apply WpL.nil
              apply Out.seqN
              refine Wp.c (fun hb53 => ?_) (fun hb53 => ?_)
              (try simp only [decide_eq_true_eq, decide_eq_false_iff_not, Bool.not_eq_true', Bool.not_eq_false', Bool.not_eq_true, Bool.not_eq_false, not_true_eq_false, not_false_eq_true, reduceCtorEq] at hb53)
              (exfalso; omega)
              (try simp only [decide_eq_true_eq, decide_eq_false_iff_not, Bool.not_eq_true', Bool.not_eq_false', Bool.not_eq_true, Bool.not_eq_false, not_true_eq_false, not_false_eq_true, reduceCtorEq] at hb53)
              apply Wp.skip
              apply Out.blockN
              apply Out.seqN
              apply Wp.region
              refine WpL.v (V.add) ?_
              refine WpL.v (V.mv) ?_
              apply WpL.nil
              rotate_left
              (try simp only [decide_eq_true_eq, decide_eq_false_iff_not, Bool.not_eq_true', Bool.not_eq_false', Bool.not_eq_true, Bool.not_eq_false, not_true_eq_false, not_false_eq_true, reduceCtorEq] at hb52)
              contradiction
              (try simp only [decide_eq_true_eq, decide_eq_false_iff_not, Bool.not_eq_true', Bool.not_eq_false', Bool.not_eq_true, Bool.not_eq_false, not_true_eq_false, not_false_eq_true, reduceCtorEq] at hb51)
              (exfalso; omega)
              (try simp only [decide_eq_true_eq, decide_eq_false_iff_not, Bool.not_eq_true', Bool.not_eq_false', Bool.not_eq_true, Bool.not_eq_false, not_true_eq_false, not_false_eq_true, reduceCtorEq] at hb50)
              (exfalso; omega)
              all_goals exact Out.ag hK2 (k + 1, t) ⟨by show k + 1 ≤ _; omega, hJ⟩ (by show xs.length - (k + 1) < xs.length - k; omega)
            · apply Wp.seq
              apply Wp.region
              refine WpL.v (V.cmp) ?_
              apply WpL.nil
              apply Out.seqN
              apply Wp.seq
              refine Wp.c (fun hb60 => ?_) (fun hb60 => ?_)
              (try simp only [decide_eq_true_eq, decide_eq_false_iff_not, Bool.not_eq_true', Bool.not_eq_false', Bool.not_eq_true, Bool.not_eq_false, not_true_eq_false, not_false_eq_true, reduceCtorEq] at hb60)
              apply Wp.skip
              apply Out.seqN
              apply Wp.seq
              apply Wp.block
              apply Wp.seq
              apply Wp.region
              refine WpL.v (V.mv) ?_
              refine WpL.v (V.ixR tb rfl rfl (by assumption)) ?_
              refine WpL.v (V.ldRA tb rfl (by assumption) (getMapS (by assumption))) ?_
              refine WpL.o (O.al tb (fun p10 => ?_))
              refine WpL.v (V.as) ?_
              refine WpL.o (O.stA tb ?_)
              apply WpL.nil
              apply Out.seqN
              apply Wp.seq
              apply Wp.region
              refine WpL.v (V.fa tb) ?_
              refine WpL.v (V.ld1 tb) ?_
              refine WpL.v (V.mv) ?_
              refine WpL.v (V.cmp) ?_
              refine WpL.v (V.mv) ?_
              refine WpL.pt (fun hb61 => ?_) (fun hb61 => ?_)
              (try simp only [decide_eq_true_eq, decide_eq_false_iff_not, Bool.not_eq_true', Bool.not_eq_false', Bool.not_eq_true, Bool.not_eq_false, not_true_eq_false, not_false_eq_true, reduceCtorEq] at hb61)
              refine WpL.v (V.fa tb) ?_
              refine WpL.v (V.ldA tb) ?_
              refine WpL.v (V.fa tb) ?_
              refine WpL.v (V.ldA tb) ?_
              refine WpL.o (Op1.fn rfl (hL) ?_)
              refine WpL.v (V.mv) ?_
              refine WpL.v (V.fa tb) ?_
              refine WpL.v (V.ldA tb) ?_
              refine WpL.v (V.fa tb) ?_
              refine WpL.v (V.ldA tb) ?_
              refine WpL.v (V.eq (TBallot.eqT _ _ _)) ?_
              refine WpL.v (V.mv) ?_
              refine WpL.pt (fun hb62 => ?_) (fun hb62 => ?_)
              (try simp only [decide_eq_true_eq, decide_eq_false_iff_not, Bool.not_eq_true', Bool.not_eq_false', Bool.not_eq_true, Bool.not_eq_false, not_true_eq_false, not_false_eq_true, reduceCtorEq] at hb62)
              contradiction
              (try simp only [decide_eq_true_eq, decide_eq_false_iff_not, Bool.not_eq_true', Bool.not_eq_false', Bool.not_eq_true, Bool.not_eq_false, not_true_eq_false, not_false_eq_true, reduceCtorEq] at hb62)
              refine WpL.sk ?_
              refine WpL.sk ?_
              refine WpL.sk ?_
              refine WpL.v (V.pF) ?_
              refine WpL.v (V.pF) ?_
              refine WpL.v (V.pT) ?_
              apply WpL.nil
              apply Out.seqN
              refine Wp.cF ?_
              apply Wp.skip
              apply Out.blockN
              apply Out.seqN
              apply Wp.region
              refine WpL.v (V.add) ?_
              refine WpL.v (V.mv) ?_
              apply WpL.nil
              rotate_left
              (try simp only [decide_eq_true_eq, decide_eq_false_iff_not, Bool.not_eq_true', Bool.not_eq_false', Bool.not_eq_true, Bool.not_eq_false, not_true_eq_false, not_false_eq_true, reduceCtorEq] at hb61)
              (exfalso; omega)
              (try simp only [decide_eq_true_eq, decide_eq_false_iff_not, Bool.not_eq_true', Bool.not_eq_false', Bool.not_eq_true, Bool.not_eq_false, not_true_eq_false, not_false_eq_true, reduceCtorEq] at hb60)
              (exfalso; omega)
              all_goals exact Out.ag hK2 (k + 1, t) ⟨by show k + 1 ≤ _; omega, hJ⟩ (by show xs.length - (k + 1) < xs.length - k; omega)
          · apply Wp.seq
            apply Wp.region
            refine WpL.v (V.cmp) ?_
            apply WpL.nil
            apply Out.seqN
            apply Wp.seq
            refine Wp.c (fun hb70 => ?_) (fun hb70 => ?_)
            (try simp only [decide_eq_true_eq, decide_eq_false_iff_not, Bool.not_eq_true', Bool.not_eq_false', Bool.not_eq_true, Bool.not_eq_false, not_true_eq_false, not_false_eq_true, reduceCtorEq] at hb70)
            apply Wp.skip
            apply Out.seqN
            apply Wp.seq
            apply Wp.block
            apply Wp.seq
            apply Wp.region
            refine WpL.v (V.mv) ?_
            refine WpL.v (V.ixR tb rfl rfl (by assumption)) ?_
            refine WpL.v (V.ldRA tb rfl (by assumption) (getMapS (by assumption))) ?_
            refine WpL.o (O.al tb (fun p10 => ?_))
            refine WpL.v (V.as) ?_
            refine WpL.o (O.stA tb ?_)
            apply WpL.nil
            apply Out.seqN
            apply Wp.seq
            apply Wp.region
            refine WpL.v (V.fa tb) ?_
            refine WpL.v (V.ld1 tb) ?_
            refine WpL.v (V.mv) ?_
            refine WpL.v (V.cmp) ?_
            refine WpL.v (V.mv) ?_
            refine WpL.pt (fun hb71 => ?_) (fun hb71 => ?_)
            (try simp only [decide_eq_true_eq, decide_eq_false_iff_not, Bool.not_eq_true', Bool.not_eq_false', Bool.not_eq_true, Bool.not_eq_false, not_true_eq_false, not_false_eq_true, reduceCtorEq] at hb71)
            (exfalso; omega)
            (try simp only [decide_eq_true_eq, decide_eq_false_iff_not, Bool.not_eq_true', Bool.not_eq_false', Bool.not_eq_true, Bool.not_eq_false, not_true_eq_false, not_false_eq_true, reduceCtorEq] at hb71)
            refine WpL.sk ?_
            refine WpL.sk ?_
            refine WpL.sk ?_
            refine WpL.sk ?_
            refine WpL.sk ?_
            refine WpL.sk ?_
            refine WpL.sk ?_
            refine WpL.sk ?_
            refine WpL.sk ?_
            refine WpL.sk ?_
            refine WpL.sk ?_
            refine WpL.sk ?_
            refine WpL.sk ?_
            refine WpL.sk ?_
            refine WpL.sk ?_
            refine WpL.sk ?_
            refine WpL.sk ?_
            refine WpL.v (V.pF) ?_
            apply WpL.nil
            apply Out.seqN
            refine Wp.cF ?_
            apply Wp.skip
            apply Out.blockN
            apply Out.seqN
            apply Wp.region
            refine WpL.v (V.add) ?_
            refine WpL.v (V.mv) ?_
            apply WpL.nil
            rotate_left
            (try simp only [decide_eq_true_eq, decide_eq_false_iff_not, Bool.not_eq_true', Bool.not_eq_false', Bool.not_eq_true, Bool.not_eq_false, not_true_eq_false, not_false_eq_true, reduceCtorEq] at hb70)
            (exfalso; omega)
            all_goals exact Out.ag hK2 (k + 1, t) ⟨by show k + 1 ≤ _; omega, hJ⟩ (by show xs.length - (k + 1) < xs.length - k; omega)
      · obtain rfl : k = xs.length := by omega
        rw [← hti, ← hbi] at ht
        clear hK2
        cases t with
        | true =>
          have hr1 : r0 = (i : Int) := ht.1 rfl
          apply Wp.seq
          apply Wp.region
          refine WpL.v (V.cmp) ?_
          apply WpL.nil
          apply Out.seqN
          apply Wp.seq
          refine Wp.c (fun hb80 => ?_) (fun hb80 => ?_)
          (try simp only [decide_eq_true_eq, decide_eq_false_iff_not, Bool.not_eq_true', Bool.not_eq_false', Bool.not_eq_true, Bool.not_eq_false, not_true_eq_false, not_false_eq_true, reduceCtorEq] at hb80)
          (exfalso; omega)
          (try simp only [decide_eq_true_eq, decide_eq_false_iff_not, Bool.not_eq_true', Bool.not_eq_false', Bool.not_eq_true, Bool.not_eq_false, not_true_eq_false, not_false_eq_true, reduceCtorEq] at hb80)
          apply Wp.exit
          apply Out.seqE
          apply Out.seqE
          apply Out.blockE
          apply Out.seqN
          apply Wp.seq
          apply Wp.region
          refine WpL.v (V.mv) ?_
          apply WpL.nil
          apply Out.seqN
          refine Wp.cT ?_
          apply Wp.region
          refine WpL.v (V.mv) ?_
          refine WpL.v (V.as) ?_
          apply WpL.nil
          apply Out.blockN
          apply Out.seqN
          apply Wp.region
          refine WpL.v (V.add) ?_
          refine WpL.v (V.mv) ?_
          apply WpL.nil
          all_goals exact Out.ag hK (i + 1, (i : Int)) ⟨by show i + 1 ≤ _; omega, by show (i : Int) = (if 0 ≤ r0 ∧ r0 < ((i + 1 : Nat) : Int) then r0 else -1); rw [if_pos (by omega)]; omega⟩ (by show xs.length - (i + 1) < xs.length - i; omega)
        | false =>
          have hne : r0 ≠ (i : Int) := fun h => by have := ht.2 h; cases this
          apply Wp.seq
          apply Wp.region
          refine WpL.v (V.cmp) ?_
          apply WpL.nil
          apply Out.seqN
          apply Wp.seq
          refine Wp.c (fun hba0 => ?_) (fun hba0 => ?_)
          (try simp only [decide_eq_true_eq, decide_eq_false_iff_not, Bool.not_eq_true', Bool.not_eq_false', Bool.not_eq_true, Bool.not_eq_false, not_true_eq_false, not_false_eq_true, reduceCtorEq] at hba0)
          (exfalso; omega)
          (try simp only [decide_eq_true_eq, decide_eq_false_iff_not, Bool.not_eq_true', Bool.not_eq_false', Bool.not_eq_true, Bool.not_eq_false, not_true_eq_false, not_false_eq_true, reduceCtorEq] at hba0)
          apply Wp.exit
          apply Out.seqE
          apply Out.seqE
          apply Out.blockE
          apply Out.seqN
          apply Wp.seq
          apply Wp.region
          refine WpL.v (V.mv) ?_
          apply WpL.nil
          apply Out.seqN
          refine Wp.cF ?_
          apply Wp.skip
          apply Out.blockN
          apply Out.seqN
          apply Wp.region
          refine WpL.v (V.add) ?_
          refine WpL.v (V.mv) ?_
          apply WpL.nil
          all_goals exact Out.ag hK (i + 1, a) ⟨by show i + 1 ≤ _; omega, by show a = (if 0 ≤ r0 ∧ r0 < ((i + 1 : Nat) : Int) then r0 else -1); rw [ha]; split <;> split <;> omega⟩ (by show xs.length - (i + 1) < xs.length - i; omega)
    · have hne : r0 ≠ (i : Int) := fun h => hs (hbi.1 h).2.1
      apply Wp.seq
      apply Wp.region
      refine WpL.v (V.cmp) ?_
      apply WpL.nil
      apply Out.seqN
      apply Wp.seq
      refine Wp.c (fun hb20 => ?_) (fun hb20 => ?_)
      (try simp only [decide_eq_true_eq, decide_eq_false_iff_not, Bool.not_eq_true', Bool.not_eq_false', Bool.not_eq_true, Bool.not_eq_false, not_true_eq_false, not_false_eq_true, reduceCtorEq] at hb20)
      apply Wp.skip
      apply Out.seqN
      apply Wp.seq
      apply Wp.block
      apply Wp.seq
      apply Wp.region
      refine WpL.v (V.mv) ?_
      refine WpL.v (V.ixR tb rfl rfl (by assumption)) ?_
      refine WpL.v (V.ldRA tb rfl (by assumption) (getMapS (by assumption))) ?_
      refine WpL.o (O.al tb (fun p7 => ?_))
      refine WpL.v (V.as) ?_
      refine WpL.o (O.stA tb ?_)
      apply WpL.nil
      apply Out.seqN
      apply Wp.seq
      apply Wp.seq
      apply Wp.region
      refine WpL.v (V.fa tb) ?_
      refine WpL.v (V.ld1 tb) ?_
      refine WpL.v (V.mv) ?_
      refine WpL.v (V.cmp) ?_
      apply WpL.nil
      apply Out.seqN
      refine Wp.c (fun hb21 => ?_) (fun hb21 => ?_)
      (try simp only [decide_eq_true_eq, decide_eq_false_iff_not, Bool.not_eq_true', Bool.not_eq_false', Bool.not_eq_true, Bool.not_eq_false, not_true_eq_false, not_false_eq_true, reduceCtorEq] at hb21)
      apply Wp.exit
      apply Out.seqE
      apply Out.blockE
      apply Out.seqN
      apply Wp.region
      refine WpL.v (V.add) ?_
      refine WpL.v (V.mv) ?_
      apply WpL.nil
      rotate_left
      (try simp only [decide_eq_true_eq, decide_eq_false_iff_not, Bool.not_eq_true', Bool.not_eq_false', Bool.not_eq_true, Bool.not_eq_false, not_true_eq_false, not_false_eq_true, reduceCtorEq] at hb21)
      (exfalso; omega)
      (try simp only [decide_eq_true_eq, decide_eq_false_iff_not, Bool.not_eq_true', Bool.not_eq_false', Bool.not_eq_true, Bool.not_eq_false, not_true_eq_false, not_false_eq_true, reduceCtorEq] at hb20)
      (exfalso; omega)
      all_goals exact Out.ag hK (i + 1, a) ⟨by show i + 1 ≤ _; omega, by show a = (if 0 ≤ r0 ∧ r0 < ((i + 1 : Nat) : Int) then r0 else -1); rw [ha]; split <;> split <;> omega⟩ (by show xs.length - (i + 1) < xs.length - i; omega)
  · obtain rfl : i = xs.length := by omega
    have hfin : a = r0 := by
      rw [ha]
      rcases hr with ⟨h1, _⟩ | ⟨j, n, h1, h2⟩
      · rw [if_neg (by omega)]; omega
      · have := (List.getElem?_eq_some_iff.1 h2.1).1
        rw [if_pos (by omega)]
    rw [hfin]
    clear hK
    apply Wp.seq
    apply Wp.region
    refine WpL.v (V.cmp) ?_
    apply WpL.nil
    apply Out.seqN
    apply Wp.seq
    refine Wp.c (fun hb90 => ?_) (fun hb90 => ?_)
    (try simp only [decide_eq_true_eq, decide_eq_false_iff_not, Bool.not_eq_true', Bool.not_eq_false', Bool.not_eq_true, Bool.not_eq_false, not_true_eq_false, not_false_eq_true, reduceCtorEq] at hb90)
    (exfalso; omega)
    (try simp only [decide_eq_true_eq, decide_eq_false_iff_not, Bool.not_eq_true', Bool.not_eq_false', Bool.not_eq_true, Bool.not_eq_false, not_true_eq_false, not_false_eq_true, reduceCtorEq] at hb90)
    apply Wp.exit
    apply Out.seqE
    apply Out.seqE
    apply Out.blockE
    apply Out.seqN
    apply Wp.seq
    apply Wp.region
    refine WpL.v (V.mv) ?_
    refine WpL.v (V.as) ?_
    apply WpL.nil
    apply Out.seqN
    apply Wp.ret
    refine Out.f1 rfl ResIs.t ⟨?_, rfl⟩
    exact rfl
def sameP (x : TItem) (m : TMsg) : Bool := decide (m.Status = 1) && (m.Same && decide (m.Vote = ⟨0, x.Rep⟩))
def sameL (x : TItem) (xs : List TMsg) : List TMsg := if xs.any (fun m => decide (m.From = x.Rep)) then [] else xs.filter (sameP x)
theorem rescue_same (e : Ent) (ao : Option Go.Addr) (cap b off : Nat) (xs : List TMsg) (x : TItem) (hx : xs.length ≤ 1000) (hR : Rd e ao xs.length b off 25 (xs.map TMsg.c)) :
    Ct Try.prog 78 [A x.c, .slice ao xs.length cap] [e] (fun r σ' => ∃ v, r = v ∧ σ' = [rows TMsg.c v 44 25 (sameL x xs), e]) := by
  refine Ct.enter Try.func78 rfl rfl fun W => ?_
  refine Wp.nilRows TMsg.c 44 25 ?_
  refine Wp.nilRows TMsg.c 44 25 ?_
  apply Wp.seq
  apply Wp.region
  refine WpL.o (O.bxA (fun p2 => ?_))
  refine WpL.v (V.as) ?_
  apply WpL.nil
  apply Out.seqN
  apply Wp.seq
  apply Wp.region
  refine WpL.v (V.as) ?_
  apply WpL.nil
  apply Out.seqN
  apply Wp.seq
  apply Wp.seq
  apply Wp.region
  refine WpL.v (V.mv) ?_
  refine WpL.v (V.lenL tb) ?_
  refine WpL.v (V.mv) ?_
  apply WpL.nil
  apply Out.seqN
  apply Wp.block
  refine Wp.lp [9, 8, 2] (fun y : Nat × Go.Value => y.1 ≤ xs.length ∧ (xs.take y.1).any (fun m => decide (m.From = x.Rep)) = false) (fun y => [(10, I (y.1 : Int)), (5, y.2)]) (fun y => [rows TMsg.c y.2 44 25 ((xs.take y.1).filter (sameP x))]) (fun y => xs.length - y.1) (0, .slice none 0 0) ⟨Nat.zero_le _, rfl⟩ ?_
  rintro ⟨i, v⟩ ⟨hi0, hF⟩ K hK
  dsimp only at hi0 hF
  dsimp only [List.cons_append, List.nil_append]
  by_cases hlt : i < xs.length
  · obtain ⟨m, hm⟩ := getS hlt
    have e1 := take_snocS hm
    by_cases hfr : m.From = x.Rep
    · have e3 : sameL x xs = [] := by
        unfold sameL
        rw [if_pos]
        rw [List.any_eq_true]
        exact ⟨m, List.mem_of_getElem? hm, by simpa using hfr⟩
      rw [e3]
      apply Wp.seq
      apply Wp.region
      refine WpL.v (V.cmp) ?_
      apply WpL.nil
      apply Out.seqN
      apply Wp.seq
      refine Wp.c (fun hs10 => ?_) (fun hs10 => ?_)
      (try simp only [decide_eq_true_eq, decide_eq_false_iff_not, Bool.not_eq_true', Bool.not_eq_false', Bool.not_eq_true, Bool.not_eq_false, not_true_eq_false, not_false_eq_true, reduceCtorEq] at hs10)
      apply Wp.skip
      apply Out.seqN
      apply Wp.seq
      apply Wp.block
      apply Wp.seq
      apply Wp.region
      refine WpL.v (V.ixR tb rfl rfl (by assumption)) ?_
      refine WpL.v (V.ldRA tb rfl (by assumption) (getMapS (by assumption))) ?_
      refine WpL.o (O.al tb (fun p7 => ?_))
      refine WpL.o (O.stA tb ?_)
      apply WpL.nil
      apply Out.seqN
      apply Wp.seq
      apply Wp.seq
      apply Wp.region
      refine WpL.v (V.fa tb) ?_
      refine WpL.v (V.ld1 tb) ?_
      refine WpL.v (V.fa tb) ?_
      refine WpL.v (V.ld1 tb) ?_
      refine WpL.v (V.cmp) ?_
      apply WpL.nil
      apply Out.seqN
      refine Wp.c (fun hs11 => ?_) (fun hs11 => ?_)
      (try simp only [decide_eq_true_eq, decide_eq_false_iff_not, Bool.not_eq_true', Bool.not_eq_false', Bool.not_eq_true, Bool.not_eq_false, not_true_eq_false, not_false_eq_true, reduceCtorEq] at hs11)
      apply Wp.seq
      apply Wp.region
      refine WpL.v (V.as) ?_
      apply WpL.nil
      apply Out.seqN
      apply Wp.ret
      apply Out.seqR
      apply Out.blockR
      apply Out.seqR
      apply Out.seqR
      apply Out.blockR
      apply Out.seqR
      refine Out.e1 rfl ResIs.t ?_
      exact ⟨_, _, ⟨_, rfl, rfl⟩, (by (repeat (first | exact Sel.nil | exact Rem.here | apply Sel.cons | apply Rem.there)))⟩
      (try simp only [decide_eq_true_eq, decide_eq_false_iff_not, Bool.not_eq_true', Bool.not_eq_false', Bool.not_eq_true, Bool.not_eq_false, not_true_eq_false, not_false_eq_true, reduceCtorEq] at hs11)
      (exfalso; omega)
      (try simp only [decide_eq_true_eq, decide_eq_false_iff_not, Bool.not_eq_true', Bool.not_eq_false', Bool.not_eq_true, Bool.not_eq_false, not_true_eq_false, not_false_eq_true, reduceCtorEq] at hs10)
      (exfalso; omega)
    · have e2 : (xs.take (i + 1)).any (fun m => decide (m.From = x.Rep)) = false := by rw [e1, List.any_append, hF]; simp [hfr]
      have hB := ballot_first x.Rep
      have hlen : ((xs.take i).filter (sameP x)).length ≤ 1000 := Nat.le_trans (List.length_filter_le _ _) (by rw [List.length_take]; omega)
      cases hp : sameP x m with
      | true =>
        have e4 : (xs.take (i + 1)).filter (sameP x) = (xs.take i).filter (sameP x) ++ [m] := by rw [e1, List.filter_append]; simp [hp]
        unfold sameP at hp
        simp only [Bool.and_eq_true, decide_eq_true_eq] at hp
        obtain ⟨h1, h2, h3⟩ := hp
        apply Wp.seq
        apply Wp.region
        refine WpL.v (V.cmp) ?_
        apply WpL.nil
        apply Out.seqN
        apply Wp.seq
        refine Wp.c (fun hs20 => ?_) (fun hs20 => ?_)
        (try simp only [decide_eq_true_eq, decide_eq_false_iff_not, Bool.not_eq_true', Bool.not_eq_false', Bool.not_eq_true, Bool.not_eq_false, not_true_eq_false, not_false_eq_true, reduceCtorEq] at hs20)
        apply Wp.skip
        apply Out.seqN
        apply Wp.seq
        apply Wp.block
        apply Wp.seq
        apply Wp.region
        refine WpL.v (V.ixR tb rfl rfl (by assumption)) ?_
        refine WpL.v (V.ldRA tb rfl (by assumption) (getMapS (by assumption))) ?_
        refine WpL.o (O.al tb (fun p7 => ?_))
        refine WpL.o (O.stA tb ?_)
        apply WpL.nil
        apply Out.seqN
        apply Wp.seq
        apply Wp.seq
        apply Wp.region
        refine WpL.v (V.fa tb) ?_
        refine WpL.v (V.ld1 tb) ?_
        refine WpL.v (V.fa tb) ?_
        refine WpL.v (V.ld1 tb) ?_
        refine WpL.v (V.cmp) ?_
        apply WpL.nil
        apply Out.seqN
        refine Wp.c (fun hs21 => ?_) (fun hs21 => ?_)
        (try simp only [decide_eq_true_eq, decide_eq_false_iff_not, Bool.not_eq_true', Bool.not_eq_false', Bool.not_eq_true, Bool.not_eq_false, not_true_eq_false, not_false_eq_true, reduceCtorEq] at hs21)
        (exfalso; omega)
        (try simp only [decide_eq_true_eq, decide_eq_false_iff_not, Bool.not_eq_true', Bool.not_eq_false', Bool.not_eq_true, Bool.not_eq_false, not_true_eq_false, not_false_eq_true, reduceCtorEq] at hs21)
        apply Wp.skip
        apply Out.seqN
        apply Wp.seq
        refine Wp.dG [] ?_ (List.Sublist.cons_cons _ (List.Sublist.cons_cons _ (List.Sublist.cons_cons _ (List.Sublist.cons_cons _ (List.Sublist.cons_cons _ List.Sublist.slnil))))) (List.Sublist.cons_cons _ (List.Sublist.cons_cons _ (List.Sublist.cons_cons _ (List.Sublist.cons_cons _ (List.Sublist.cons_cons _ List.Sublist.slnil)))))
        refine WpA.tF 0 rfl (V.fa tb) ?_
        refine WpA.tF 1 rfl (V.ld1 tb) ?_
        refine WpA.tF 2 rfl (V.cmp) ?_
        refine WpA.tF 3 rfl (V.mv) ?_
        refine WpA.pt 22 (fun hs22 => ?_) (fun hs22 => ?_)
        (try simp only [decide_eq_true_eq, decide_eq_false_iff_not, Bool.not_eq_true', Bool.not_eq_false', Bool.not_eq_true, Bool.not_eq_false, not_true_eq_false, not_false_eq_true, reduceCtorEq] at hs22)
        refine WpA.tF 4 rfl (V.fa tb) ?_
        refine WpA.tF 5 rfl (V.ld1 tb) ?_
        refine WpA.tF 6 rfl (V.pT) ?_
        refine WpA.tF 7 rfl (V.mv) ?_
        refine WpA.pt 26 (fun hs23 => ?_) (fun hs23 => ?_)
        (try simp only [decide_eq_true_eq, decide_eq_false_iff_not, Bool.not_eq_true', Bool.not_eq_false', Bool.not_eq_true, Bool.not_eq_false, not_true_eq_false, not_false_eq_true, reduceCtorEq] at hs23)
        refine WpA.tF 8 rfl (V.fa tb) ?_
        refine WpA.tF 9 rfl (V.ldA tb) ?_
        refine WpA.tF 10 rfl (V.fa tb) ?_
        refine WpA.tF 11 rfl (V.ld1 tb) ?_
        refine WpA.oS 12 rfl (Op1.fn rfl (hB) ⟨?_, ?_, ?_⟩)
        exact holdT
        exact holdT
        refine WpA.tF 13 rfl (V.eq (TBallot.eqT _ _ _)) ?_
        refine WpA.tF 14 rfl (V.pT) ?_
        refine WpA.ou ?_
        apply Out.seqN
        refine Wp.c (fun hs24 => ?_) (fun hs24 => ?_)
        (try simp only [decide_eq_true_eq, decide_eq_false_iff_not, Bool.not_eq_true', Bool.not_eq_false', Bool.not_eq_true, Bool.not_eq_false, not_true_eq_false, not_false_eq_true, reduceCtorEq] at hs24)
        apply Wp.region
        refine WpL.v (V.mv) ?_
        refine WpL.v (V.ldA tb) ?_
        refine WpL.o (O.lit tb (fun p36 => ?_))
        refine WpL.o (O.apL tb rfl rfl (by (intro _; repeat first | exact Upd.here _ _ _ | apply Upd.there)) (SrcL.one tb (by (repeat first | exact List.Mem.head _ | apply List.Mem.tail)) TMsg.ones) (fun g37 cap37 => ?_))
        refine WpL.v (V.as) ?_
        apply WpL.nil
        apply Out.blockN
        apply Out.seqN
        apply Wp.region
        refine WpL.v (V.add) ?_
        refine WpL.v (V.mv) ?_
        apply WpL.nil
        rotate_left
        (try simp only [decide_eq_true_eq, decide_eq_false_iff_not, Bool.not_eq_true', Bool.not_eq_false', Bool.not_eq_true, Bool.not_eq_false, not_true_eq_false, not_false_eq_true, reduceCtorEq] at hs24)
        contradiction
        (try simp only [decide_eq_true_eq, decide_eq_false_iff_not, Bool.not_eq_true', Bool.not_eq_false', Bool.not_eq_true, Bool.not_eq_false, not_true_eq_false, not_false_eq_true, reduceCtorEq] at hs23)
        exact absurd (Eq.trans (Eq.symm hs23) (by assumption) : false = true) (by decide)
        (try simp only [decide_eq_true_eq, decide_eq_false_iff_not, Bool.not_eq_true', Bool.not_eq_false', Bool.not_eq_true, Bool.not_eq_false, not_true_eq_false, not_false_eq_true, reduceCtorEq] at hs22)
        (exfalso; omega)
        (try simp only [decide_eq_true_eq, decide_eq_false_iff_not, Bool.not_eq_true', Bool.not_eq_false', Bool.not_eq_true, Bool.not_eq_false, not_true_eq_false, not_false_eq_true, reduceCtorEq] at hs20)
        (exfalso; omega)
        all_goals exact Out.ag hK (i + 1, _) ⟨by show i + 1 ≤ _; omega, e2⟩ (by show xs.length - (i + 1) < xs.length - i; omega) (hs := by rw [e4]; (repeat (first | exact Sel.nil | exact Rem.here | apply Sel.cons | apply Rem.there)))
      | false =>
        have e4 : (xs.take (i + 1)).filter (sameP x) = (xs.take i).filter (sameP x) := by rw [e1, List.filter_append]; simp [hp]
        unfold sameP at hp
        simp only [Bool.and_eq_false_iff, decide_eq_false_iff_not] at hp
        by_cases h1 : m.Status = 1
        · cases h2 : m.Same with
          | false =>
            apply Wp.seq
            apply Wp.region
            refine WpL.v (V.cmp) ?_
            apply WpL.nil
            apply Out.seqN
            apply Wp.seq
            refine Wp.c (fun hs30 => ?_) (fun hs30 => ?_)
            (try simp only [decide_eq_true_eq, decide_eq_false_iff_not, Bool.not_eq_true', Bool.not_eq_false', Bool.not_eq_true, Bool.not_eq_false, not_true_eq_false, not_false_eq_true, reduceCtorEq] at hs30)
            apply Wp.skip
            apply Out.seqN
            apply Wp.seq
            apply Wp.block
            apply Wp.seq
            apply Wp.region
            refine WpL.v (V.ixR tb rfl rfl (by assumption)) ?_
            refine WpL.v (V.ldRA tb rfl (by assumption) (getMapS (by assumption))) ?_
            refine WpL.o (O.al tb (fun p7 => ?_))
            refine WpL.o (O.stA tb ?_)
            apply WpL.nil
            apply Out.seqN
            apply Wp.seq
            apply Wp.seq
            apply Wp.region
            refine WpL.v (V.fa tb) ?_
            refine WpL.v (V.ld1 tb) ?_
            refine WpL.v (V.fa tb) ?_
            refine WpL.v (V.ld1 tb) ?_
            refine WpL.v (V.cmp) ?_
            apply WpL.nil
            apply Out.seqN
            refine Wp.c (fun hs31 => ?_) (fun hs31 => ?_)
            (try simp only [decide_eq_true_eq, decide_eq_false_iff_not, Bool.not_eq_true', Bool.not_eq_false', Bool.not_eq_true, Bool.not_eq_false, not_true_eq_false, not_false_eq_true, reduceCtorEq] at hs31)
            (exfalso; omega)
            (try simp only [decide_eq_true_eq, decide_eq_false_iff_not, Bool.not_eq_true', Bool.not_eq_false', Bool.not_eq_true, Bool.not_eq_false, not_true_eq_false, not_false_eq_true, reduceCtorEq] at hs31)
            apply Wp.skip
            apply Out.seqN
            apply Wp.seq
            refine Wp.dG [] ?_ (List.Sublist.cons_cons _ (List.Sublist.cons_cons _ (List.Sublist.cons_cons _ (List.Sublist.cons_cons _ (List.Sublist.cons_cons _ List.Sublist.slnil))))) (List.Sublist.cons_cons _ (List.Sublist.cons_cons _ (List.Sublist.cons_cons _ (List.Sublist.cons_cons _ (List.Sublist.cons_cons _ List.Sublist.slnil)))))
            refine WpA.tF 0 rfl (V.fa tb) ?_
            refine WpA.tF 1 rfl (V.ld1 tb) ?_
            refine WpA.tF 2 rfl (V.cmp) ?_
            refine WpA.tF 3 rfl (V.mv) ?_
            refine WpA.pt 22 (fun hs32 => ?_) (fun hs32 => ?_)
            (try simp only [decide_eq_true_eq, decide_eq_false_iff_not, Bool.not_eq_true', Bool.not_eq_false', Bool.not_eq_true, Bool.not_eq_false, not_true_eq_false, not_false_eq_true, reduceCtorEq] at hs32)
            refine WpA.tF 4 rfl (V.fa tb) ?_
            refine WpA.tF 5 rfl (V.ld1 tb) ?_
            refine WpA.tF 6 rfl (V.pT) ?_
            refine WpA.tF 7 rfl (V.mv) ?_
            refine WpA.pt 26 (fun hs33 => ?_) (fun hs33 => ?_)
            (try simp only [decide_eq_true_eq, decide_eq_false_iff_not, Bool.not_eq_true', Bool.not_eq_false', Bool.not_eq_true, Bool.not_eq_false, not_true_eq_false, not_false_eq_true, reduceCtorEq] at hs33)
            exact absurd (Eq.trans (Eq.symm hs33) (by assumption) : true = false) (by decide)
            (try simp only [decide_eq_true_eq, decide_eq_false_iff_not, Bool.not_eq_true', Bool.not_eq_false', Bool.not_eq_true, Bool.not_eq_false, not_true_eq_false, not_false_eq_true, reduceCtorEq] at hs33)
            refine WpA.s 8 rfl ?_
            refine WpA.s 9 rfl ?_
            refine WpA.s 10 rfl ?_
            refine WpA.s 11 rfl ?_
            refine WpA.s 12 rfl ?_
            refine WpA.s 13 rfl ?_
            refine WpA.tF 14 rfl (V.pF) ?_
            refine WpA.ou ?_
            apply Out.seqN
            refine Wp.cF ?_
            apply Wp.skip
            apply Out.blockN
            apply Out.seqN
            apply Wp.region
            refine WpL.v (V.add) ?_
            refine WpL.v (V.mv) ?_
            apply WpL.nil
            rotate_left
            (try simp only [decide_eq_true_eq, decide_eq_false_iff_not, Bool.not_eq_true', Bool.not_eq_false', Bool.not_eq_true, Bool.not_eq_false, not_true_eq_false, not_false_eq_true, reduceCtorEq] at hs32)
            (exfalso; omega)
            (try simp only [decide_eq_true_eq, decide_eq_false_iff_not, Bool.not_eq_true', Bool.not_eq_false', Bool.not_eq_true, Bool.not_eq_false, not_true_eq_false, not_false_eq_true, reduceCtorEq] at hs30)
            (exfalso; omega)
            all_goals exact Out.ag hK (i + 1, v) ⟨by show i + 1 ≤ _; omega, e2⟩ (by show xs.length - (i + 1) < xs.length - i; omega) (hs := by rw [e4]; (repeat (first | exact Sel.nil | exact Rem.here | apply Sel.cons | apply Rem.there)))
          | true =>
            have h3 : ¬ m.Vote = ⟨0, x.Rep⟩ := by
              rcases hp with h | h | h
              · exact absurd h1 h
              · rw [h2] at h; cases h
              · exact h
            apply Wp.seq
            apply Wp.region
            refine WpL.v (V.cmp) ?_
            apply WpL.nil
            apply Out.seqN
            apply Wp.seq
            refine Wp.c (fun hs40 => ?_) (fun hs40 => ?_)
            (try simp only [decide_eq_true_eq, decide_eq_false_iff_not, Bool.not_eq_true', Bool.not_eq_false', Bool.not_eq_true, Bool.not_eq_false, not_true_eq_false, not_false_eq_true, reduceCtorEq] at hs40)
            apply Wp.skip
            apply Out.seqN
            apply Wp.seq
            apply Wp.block
            apply Wp.seq
            apply Wp.region
            refine WpL.v (V.ixR tb rfl rfl (by assumption)) ?_
            refine WpL.v (V.ldRA tb rfl (by assumption) (getMapS (by assumption))) ?_
            refine WpL.o (O.al tb (fun p7 => ?_))
            refine WpL.o (O.stA tb ?_)
            apply WpL.nil
            apply Out.seqN
            apply Wp.seq
            apply Wp.seq
            apply Wp.region
            refine WpL.v (V.fa tb) ?_
            refine WpL.v (V.ld1 tb) ?_
            refine WpL.v (V.fa tb) ?_
            refine WpL.v (V.ld1 tb) ?_
            refine WpL.v (V.cmp) ?_
            apply WpL.nil
            apply Out.seqN
            refine Wp.c (fun hs41 => ?_) (fun hs41 => ?_)
            (try simp only [decide_eq_true_eq, decide_eq_false_iff_not, Bool.not_eq_true', Bool.not_eq_false', Bool.not_eq_true, Bool.not_eq_false, not_true_eq_false, not_false_eq_true, reduceCtorEq] at hs41)
            (exfalso; omega)
            (try simp only [decide_eq_true_eq, decide_eq_false_iff_not, Bool.not_eq_true', Bool.not_eq_false', Bool.not_eq_true, Bool.not_eq_false, not_true_eq_false, not_false_eq_true, reduceCtorEq] at hs41)
            apply Wp.skip
            apply Out.seqN
            apply Wp.seq
            refine Wp.dG [] ?_ (List.Sublist.cons_cons _ (List.Sublist.cons_cons _ (List.Sublist.cons_cons _ (List.Sublist.cons_cons _ (List.Sublist.cons_cons _ List.Sublist.slnil))))) (List.Sublist.cons_cons _ (List.Sublist.cons_cons _ (List.Sublist.cons_cons _ (List.Sublist.cons_cons _ (List.Sublist.cons_cons _ List.Sublist.slnil)))))
            refine WpA.tF 0 rfl (V.fa tb) ?_
            refine WpA.tF 1 rfl (V.ld1 tb) ?_
            refine WpA.tF 2 rfl (V.cmp) ?_
            refine WpA.tF 3 rfl (V.mv) ?_
            refine WpA.pt 22 (fun hs42 => ?_) (fun hs42 => ?_)
            (try simp only [decide_eq_true_eq, decide_eq_false_iff_not, Bool.not_eq_true', Bool.not_eq_false', Bool.not_eq_true, Bool.not_eq_false, not_true_eq_false, not_false_eq_true, reduceCtorEq] at hs42)
            refine WpA.tF 4 rfl (V.fa tb) ?_
            refine WpA.tF 5 rfl (V.ld1 tb) ?_
            refine WpA.tF 6 rfl (V.pT) ?_
            refine WpA.tF 7 rfl (V.mv) ?_
            refine WpA.pt 26 (fun hs43 => ?_) (fun hs43 => ?_)
            (try simp only [decide_eq_true_eq, decide_eq_false_iff_not, Bool.not_eq_true', Bool.not_eq_false', Bool.not_eq_true, Bool.not_eq_false, not_true_eq_false, not_false_eq_true, reduceCtorEq] at hs43)
            refine WpA.tF 8 rfl (V.fa tb) ?_
            refine WpA.tF 9 rfl (V.ldA tb) ?_
            refine WpA.tF 10 rfl (V.fa tb) ?_
            refine WpA.tF 11 rfl (V.ld1 tb) ?_
            refine WpA.oS 12 rfl (Op1.fn rfl (hB) ⟨?_, ?_, ?_⟩)
            exact holdT
            exact holdT
            refine WpA.tF 13 rfl (V.eq (TBallot.eqT _ _ _)) ?_
            refine WpA.tF 14 rfl (V.pT) ?_
            refine WpA.ou ?_
            apply Out.seqN
            refine Wp.c (fun hs44 => ?_) (fun hs44 => ?_)
            (try simp only [decide_eq_true_eq, decide_eq_false_iff_not, Bool.not_eq_true', Bool.not_eq_false', Bool.not_eq_true, Bool.not_eq_false, not_true_eq_false, not_false_eq_true, reduceCtorEq] at hs44)
            contradiction
            (try simp only [decide_eq_true_eq, decide_eq_false_iff_not, Bool.not_eq_true', Bool.not_eq_false', Bool.not_eq_true, Bool.not_eq_false, not_true_eq_false, not_false_eq_true, reduceCtorEq] at hs44)
            apply Wp.skip
            apply Out.blockN
            apply Out.seqN
            apply Wp.region
            refine WpL.v (V.add) ?_
            refine WpL.v (V.mv) ?_
            apply WpL.nil
            rotate_left
            (try simp only [decide_eq_true_eq, decide_eq_false_iff_not, Bool.not_eq_true', Bool.not_eq_false', Bool.not_eq_true, Bool.not_eq_false, not_true_eq_false, not_false_eq_true, reduceCtorEq] at hs43)
            exact absurd (Eq.trans (Eq.symm hs43) (by assumption) : false = true) (by decide)
            (try simp only [decide_eq_true_eq, decide_eq_false_iff_not, Bool.not_eq_true', Bool.not_eq_false', Bool.not_eq_true, Bool.not_eq_false, not_true_eq_false, not_false_eq_true, reduceCtorEq] at hs42)
            (exfalso; omega)
            (try simp only [decide_eq_true_eq, decide_eq_false_iff_not, Bool.not_eq_true', Bool.not_eq_false', Bool.not_eq_true, Bool.not_eq_false, not_true_eq_false, not_false_eq_true, reduceCtorEq] at hs40)
            (exfalso; omega)
            all_goals exact Out.ag hK (i + 1, v) ⟨by show i + 1 ≤ _; omega, e2⟩ (by show xs.length - (i + 1) < xs.length - i; omega) (hs := by rw [e4]; (repeat (first | exact Sel.nil | exact Rem.here | apply Sel.cons | apply Rem.there)))
        · apply Wp.seq
          apply Wp.region
          refine WpL.v (V.cmp) ?_
          apply WpL.nil
          apply Out.seqN
          apply Wp.seq
          refine Wp.c (fun hs50 => ?_) (fun hs50 => ?_)
          (try simp only [decide_eq_true_eq, decide_eq_false_iff_not, Bool.not_eq_true', Bool.not_eq_false', Bool.not_eq_true, Bool.not_eq_false, not_true_eq_false, not_false_eq_true, reduceCtorEq] at hs50)
          apply Wp.skip
          apply Out.seqN
          apply Wp.seq
          apply Wp.block
          apply Wp.seq
          apply Wp.region
          refine WpL.v (V.ixR tb rfl rfl (by assumption)) ?_
          refine WpL.v (V.ldRA tb rfl (by assumption) (getMapS (by assumption))) ?_
          refine WpL.o (O.al tb (fun p7 => ?_))
          refine WpL.o (O.stA tb ?_)
          apply WpL.nil
          apply Out.seqN
          apply Wp.seq
          apply Wp.seq
          apply Wp.region
          refine WpL.v (V.fa tb) ?_
          refine WpL.v (V.ld1 tb) ?_
          refine WpL.v (V.fa tb) ?_
          refine WpL.v (V.ld1 tb) ?_
          refine WpL.v (V.cmp) ?_
          apply WpL.nil
          apply Out.seqN
          refine Wp.c (fun hs51 => ?_) (fun hs51 => ?_)
          (try simp only [decide_eq_true_eq, decide_eq_false_iff_not, Bool.not_eq_true', Bool.not_eq_false', Bool.not_eq_true, Bool.not_eq_false, not_true_eq_false, not_false_eq_true, reduceCtorEq] at hs51)
          (exfalso; omega)
          (try simp only [decide_eq_true_eq, decide_eq_false_iff_not, Bool.not_eq_true', Bool.not_eq_false', Bool.not_eq_true, Bool.not_eq_false, not_true_eq_false, not_false_eq_true, reduceCtorEq] at hs51)
          apply Wp.skip
          apply Out.seqN
          apply Wp.seq
          refine Wp.dG [] ?_ (List.Sublist.cons_cons _ (List.Sublist.cons_cons _ (List.Sublist.cons_cons _ (List.Sublist.cons_cons _ (List.Sublist.cons_cons _ List.Sublist.slnil))))) (List.Sublist.cons_cons _ (List.Sublist.cons_cons _ (List.Sublist.cons_cons _ (List.Sublist.cons_cons _ (List.Sublist.cons_cons _ List.Sublist.slnil)))))
          refine WpA.tF 0 rfl (V.fa tb) ?_
          refine WpA.tF 1 rfl (V.ld1 tb) ?_
          refine WpA.tF 2 rfl (V.cmp) ?_
          refine WpA.tF 3 rfl (V.mv) ?_
          refine WpA.pt 22 (fun hs52 => ?_) (fun hs52 => ?_)
          (try simp only [decide_eq_true_eq, decide_eq_false_iff_not, Bool.not_eq_true', Bool.not_eq_false', Bool.not_eq_true, Bool.not_eq_false, not_true_eq_false, not_false_eq_true, reduceCtorEq] at hs52)
          (exfalso; omega)
          (try simp only [decide_eq_true_eq, decide_eq_false_iff_not, Bool.not_eq_true', Bool.not_eq_false', Bool.not_eq_true, Bool.not_eq_false, not_true_eq_false, not_false_eq_true, reduceCtorEq] at hs52)
          refine WpA.s 4 rfl ?_
          refine WpA.s 5 rfl ?_
          refine WpA.tF 6 rfl (V.pF) ?_
          refine WpA.tF 7 rfl (V.mv) ?_
          refine WpA.s 8 rfl ?_
          refine WpA.s 9 rfl ?_
          refine WpA.s 10 rfl ?_
          refine WpA.s 11 rfl ?_
          refine WpA.s 12 rfl ?_
          refine WpA.s 13 rfl ?_
          refine WpA.tF 14 rfl (V.pF) ?_
          refine WpA.ou ?_
          apply Out.seqN
          refine Wp.cF ?_
          apply Wp.skip
          apply Out.blockN
          apply Out.seqN
          apply Wp.region
          refine WpL.v (V.add) ?_
          refine WpL.v (V.mv) ?_
          apply WpL.nil
          rotate_left
          (try simp only [decide_eq_true_eq, decide_eq_false_iff_not, Bool.not_eq_true', Bool.not_eq_false', Bool.not_eq_true, Bool.not_eq_false, not_true_eq_false, not_false_eq_true, reduceCtorEq] at hs50)
          (exfalso; omega)
          all_goals exact Out.ag hK (i + 1, v) ⟨by show i + 1 ≤ _; omega, e2⟩ (by show xs.length - (i + 1) < xs.length - i; omega) (hs := by rw [e4]; (repeat (first | exact Sel.nil | exact Rem.here | apply Sel.cons | apply Rem.there)))
  · obtain rfl : i = xs.length := by omega
    rw [List.take_length] at hF ⊢
    have e3 : sameL x xs = xs.filter (sameP x) := by unfold sameL; rw [hF]; rfl
    rw [e3]
    clear hK
    apply Wp.seq
    apply Wp.region
    refine WpL.v (V.cmp) ?_
    apply WpL.nil
    apply Out.seqN
    apply Wp.seq
    refine Wp.c (fun hs90 => ?_) (fun hs90 => ?_)
    (try simp only [decide_eq_true_eq, decide_eq_false_iff_not, Bool.not_eq_true', Bool.not_eq_false', Bool.not_eq_true, Bool.not_eq_false, not_true_eq_false, not_false_eq_true, reduceCtorEq] at hs90)
    (exfalso; omega)
    (try simp only [decide_eq_true_eq, decide_eq_false_iff_not, Bool.not_eq_true', Bool.not_eq_false', Bool.not_eq_true, Bool.not_eq_false, not_true_eq_false, not_false_eq_true, reduceCtorEq] at hs90)
    apply Wp.exit
    apply Out.seqE
    apply Out.seqE
    apply Out.blockE
    apply Out.seqN
    apply Wp.seq
    apply Wp.region
    refine WpL.v (V.mv) ?_
    refine WpL.v (V.as) ?_
    apply WpL.nil
    apply Out.seqN
    apply Wp.ret
    refine Out.e1 rfl ResIs.t ?_
    exact ⟨_, _, ⟨_, rfl, rfl⟩, (by (repeat (first | exact Sel.nil | exact Rem.here | apply Sel.cons | apply Rem.there)))⟩
end Go.Proofs.Ythoepbbpmdmfeaa
