/-
  Layer 20: a map's keys, sorted.
-/
import Derived.Test.YtgihkocnmgkihaaSort
import Derived.Test.YtgihkocnmgkihaaHeapJ
import Derived.Test.YtgihkocnmgkihaaHeapP
namespace Go.Proofs.Ytgihkocnmgkihaa
open Go.HL
set_option linter.unusedSimpArgs false
set_option linter.unusedVariables false
set_option maxRecDepth 8000
abbrev PM := List (List UInt8 × RegistryPair)
abbrev kS : List UInt8 → Go.Value := fun k => S k
abbrev vP : RegistryPair → Go.Value := fun p => A p.c
abbrev mE (m : Nat) (l : PM) : Ent := mapK kS vP m l
def encS (k : List UInt8) : List Go.Value := [S k]
theorem map72 : mapTB Try.prog 72 9 52 = true := rfl
theorem map_keys (m : Nat) : Ct Try.prog 52 [.map (some m)] [] (fun r σ' => ∃ a, r = .func (.func 64) #[] #[Ptr a 0] ∧ σ' = [cells a 72 [.map (some m)]]) := by
  refine Ct.enter Try.func52 rfl rfl fun W => ?_
  apply Wp.seq
  apply Wp.region
  refine WpL.o (O.bx1 (fun p1 => ?_))
  refine WpL.v (V.as) ?_
  apply WpL.nil
  apply Out.seqN
  apply Wp.seq
  apply Wp.region
  refine WpL.v (V.mf) ?_
  refine WpL.v (V.as) ?_
  apply WpL.nil
  apply Out.seqN
  apply Wp.ret
  refine Out.e1 rfl ResIs.t ?_
  exact ⟨_, _, ⟨_, rfl, rfl⟩, (by (repeat (first | exact Sel.nil | exact Rem.here | apply Sel.cons | apply Rem.there)))⟩
theorem erase_perm {α : Type} : ∀ {l : List α} {j : Nat} {x : α}, l[j]? = some x → (x :: l.eraseIdx j).Perm l
  | [], _, _, h => by simp at h
  | a :: l, 0, x, h => by
    have : a = x := by simpa using h
    subst this
    exact List.Perm.refl _
  | a :: l, j + 1, x, h => by
    have ih := erase_perm (l := l) (j := j) (x := x) (by simpa using h)
    show (x :: a :: l.eraseIdx j).Perm (a :: l)
    exact (List.Perm.swap a x _).trans (ih.cons a)
structure KS (γ : Type) where
  pre : List (List UInt8)
  c : γ
  todo : PM
  last : Option (List UInt8 × RegistryPair)
theorem keys_iter (a m : Nat) (l : PM) : IterM Try.prog 64 [Ptr a 0] encS (l.map (·.1)) [cells a 72 [.map (some m)], mE m l] [cells a 72 [.map (some m)], mE m l] := by
  intro y γ G X S' c0 hG0 hY
  refine Ct.post (R := fun _ σ' => ∃ c' pre q todo last, ((G pre c' ∧ pre.Perm (l.map (·.1))) ∨ X pre c') ∧ σ' = [mapR kS vP m q l todo last, S' c', cells a 72 [.map (some m)]]) ?_ ?_
  · refine Ct.enter Try.func64 rfl rfl fun W => ?_
    apply Wp.seq
    apply Wp.region
    refine WpL.v (V.ld1 tb) ?_
    refine WpL.o (Op1.rngM map72 rfl (by (intro _; repeat first | exact Upd.here _ _ _ | apply Upd.there)) (fun q5 => ?_))
    apply WpL.nil
    apply Out.seqN
    apply Wp.block
    refine Wp.lp [0, 5] (fun y : KS γ => G y.pre y.c ∧ (y.pre ++ y.todo.map (·.1)).Perm (l.map (·.1))) (fun _ => []) (fun y => [mapR kS vP m q5 l y.todo y.last, S' y.c]) (fun y => y.todo.length) ⟨[], c0, l, none⟩ ⟨hG0, List.Perm.refl _⟩ ?_
    rintro ⟨pre, c, todo, last⟩ ⟨hG, hp⟩ K hK
    dsimp only at hG hp
    dsimp only [List.cons_append, List.nil_append]
    by_cases h0 : todo = []
    · subst h0
      clear hK
      apply Wp.seq
      apply Wp.region
      refine WpL.o (Op1.nxtM0 rfl (by (repeat first | exact List.Mem.head _ | apply List.Mem.tail)) ?_)
      refine WpL.v (V.ex) ?_
      apply WpL.nil
      apply Out.seqN
      apply Wp.seq
      refine Wp.cF ?_
      apply Wp.exit
      apply Out.seqE
      apply Out.seqE
      apply Out.blockE
      refine Out.e0 rfl  ?_
      focus (exact ⟨_, _, ⟨c, pre, q5, [], last, .inl ⟨hG, by simpa using hp⟩, rfl⟩, (by (repeat (first | exact Sel.nil | exact Rem.here | apply Sel.cons | apply Rem.there)))⟩; done)
    · apply Wp.seq
      apply Wp.region
      refine WpL.o (Op1.nxtM1 h0 rfl (by (intro _ _; repeat first | exact Upd.here _ _ _ | apply Upd.there)) (fun j6 p6 hj6 => ?_))
      refine WpL.v (V.ex) ?_
      apply WpL.nil
      apply Out.seqN
      apply Wp.seq
      refine Wp.cT ?_
      apply Wp.skip
      apply Out.seqN
      apply Wp.block
      obtain ⟨ke, ve⟩ := p6
      have hjl := (List.getElem?_eq_some_iff.1 hj6).1
      have hpe : ((ke, ve) :: todo.eraseIdx j6).Perm todo := erase_perm hj6
      have hp2 : (pre ++ ke :: (todo.eraseIdx j6).map (·.1)).Perm (l.map (·.1)) := by
        refine List.Perm.trans ?_ hp
        exact (hpe.map (·.1)).append_left pre
      have hYy := hY pre ke _ c hp2 hG
      apply Wp.seq
      apply Wp.region
      refine WpL.v (Val.entM (p := (ke, ve)) rfl (by (repeat first | exact List.Mem.head _ | apply List.Mem.tail))) ?_
      refine WpL.v (V.ex) ?_
      refine WpL.v (V.as) ?_
      apply WpL.nil
      apply Out.seqN
      apply Wp.seq
      apply Wp.region
      refine WpL.v (V.mv) ?_
      refine WpL.v (V.mv) ?_
      refine WpL.o (Op1.callY rfl rfl (hYy) (by (repeat (first | exact Sel.nil | exact Rem.here | apply Sel.cons | apply Rem.there))) ?_)
      rintro v2 s3 ⟨c'12, ⟨t12, ⟨rfl, ⟨hx0, ⟨hx1, rfl⟩⟩⟩⟩⟩
      refine incat ?_
      refine WpL.v (V.not) ?_
      apply WpL.nil
      apply Out.seqN
      refine Wp.c (fun hk34 => ?_) (fun hk34 => ?_)
      (try simp only [decide_eq_true_eq, decide_eq_false_iff_not, Bool.not_eq_true', Bool.not_eq_false', Bool.not_eq_true, Bool.not_eq_false, not_true_eq_false, not_false_eq_true, reduceCtorEq] at hk34)
      apply Wp.ret
      apply Out.blockR
      apply Out.seqR
      apply Out.blockR
      refine Out.e0 rfl  ?_
      focus (exact ⟨_, _, ⟨_, pre ++ [ke], q5, todo.eraseIdx j6, _, .inr (by apply_assumption; assumption), rfl⟩, (by (repeat (first | exact Sel.nil | exact Rem.here | apply Sel.cons | apply Rem.there)))⟩; done)
      (try simp only [decide_eq_true_eq, decide_eq_false_iff_not, Bool.not_eq_true', Bool.not_eq_false', Bool.not_eq_true, Bool.not_eq_false, not_true_eq_false, not_false_eq_true, reduceCtorEq] at hk34)
      apply Wp.skip
      apply Out.blockN
      exact Out.ag hK ⟨pre ++ [ke], _, todo.eraseIdx j6, some (ke, ve)⟩ ⟨by apply_assumption; assumption, by rw [List.append_assoc]; exact hp2⟩ (by show (todo.eraseIdx j6).length < todo.length; rw [List.length_eraseIdx, if_pos hjl]; omega)
  · rintro v σ' ⟨c', pre, q, todo, last, h, rfl⟩
    refine ⟨[S' c', cells a 72 [.map (some m)], mE m l], ⟨c', pre, h, rfl⟩, fun W D w hH => ?_⟩
    exact hH.endT.perm (List.perm_append_comm (l₁ := [_]) (l₂ := [_, _]))
end Go.Proofs.Ytgihkocnmgkihaa
