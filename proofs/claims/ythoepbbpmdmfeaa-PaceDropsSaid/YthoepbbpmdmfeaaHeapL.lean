/-
  A twelfth part of the heap logic: a range over an iterator that shares what it goes over with the loop's body, where the rounds' number has a bound.
-/
import Derived.Test.YthoepbbpmdmfeaaHeapB
namespace Go.HL
open Go
section
variable {P : Program} {r : Option Nat} {W : World} {D : List Nat} {n : Fm} {Q : Post} {env env' : Env} {σ σ' τ : List Ent} {ops : Array Oper} {rest : List Oper} {w : World}
/-- What a function does that hands things to yield, one by one, while the rounds may turn what it goes over (told by Z): 'step' says what it hands, in which round, and what it turns itself ahead of that; 'stop' where it ends. -/
def IterB (P : Program) (gf : FuncId) (caps : List Value) {β ι : Type} (Z : β → List Ent) (enc : ι → List Value) (step : Nat → ι → β → β → Prop) (stop : Nat → β → Prop) (Z0 σ1 : List Ent) (b0 : β) : Prop :=
  ∀ (N l : Nat) (γ : Type) (pr : γ → β) (G X : Nat → γ → Prop) (S : γ → Ent) (c0 : γ), (∀ k c, G k c → k ≤ N) → pr c0 = b0 → G 0 c0 →
    (∀ k i c b', G k c → step k i (pr c) b' → Yd P l (enc i) (S c :: Z b') (fun v σ' => ∃ c' t, v = .bool t ∧ (t = true → G (k + 1) c') ∧ (t = false → X (k + 1) c') ∧ σ' = S c' :: Z (pr c'))) →
    Ct P gf (.func (.yield l) #[] #[] :: caps) (S c0 :: Z0) (fun _ σ' => ∃ c' k, ((G k c' ∧ stop k (pr c')) ∨ X k c') ∧ σ' = S c' :: (Z (pr c') ++ σ1))

/-- A RANGE OVER SUCH AN ITERATOR, the outermost one. -/
theorem Wp.rgB {β ι γ : Type} {g : Operand} {ps : List Tmp} {assign body : Code} {gf : FuncId} {caps : List Value} {Z : β → List Ent} {enc : ι → List Value} {step : Nat → ι → β → β → Prop} {stop : Nat → β → Prop} {Z0 σ1 σr : List Ent} {b0 : β}
    (hI : IterB P gf caps Z enc step stop Z0 σ1 b0) (pr : γ → β) (S : γ → List Ent) (G : Nat → γ → Prop) (X : Exit → Nat → γ → Prop) (c0 : γ) (N : Nat) (hN : ∀ k c, G k c → k ≤ N) (hp0 : pr c0 = b0) (h0 : G 0 c0)
    (round : ∀ k i c b' l rec, G k c → step k i (pr c) b' → RecIs rec → ∀ (W' : World) (D' : List Nat) (K : Post), (∀ e c', isWay e = true → WayZ G X (k + 1) e c' → ∀ a w, H W' D' (lpB l rec :: (S c' ++ Z (pr c'))) w → K e a w) →
      Wp P (some l) W' D' ⟨n.n, []⟩ (Exit.then (beginK P l body K) noWay) assign (zipEnv ps (enc i) env) (lpD l rec .normal :: (S c ++ Z b')))
    (done : ∀ k c b, G k c → stop k (pr c) → Out W D ⟨n.n, b :: n.ds⟩ Q .normal env (dfr b :: (S c ++ (Z (pr c) ++ (σ1 ++ σr)))))
    (left : ∀ k c b e, isWay e = true → goesOn e = false → X e k c → Out W D ⟨n.n, b :: n.ds⟩ Q e env (dfr b :: (S c ++ (Z (pr c) ++ (σ1 ++ σr)))))
    (hg : ev env g = some (.func (.func gf) #[] caps.toArray) := by exact rfl) (hok : fnOk P gf = true := by kernel_rfl) (hσ : Sel σ (S c0 ++ Z0) σr := by (repeat (first | exact Sel.nil | exact Rem.here | apply Sel.cons | apply Rem.there)))
    (hA : ∀ x, ps.length = (enc x).length := by intro _; rfl) (hp : (ps.all fun p => Nat.blt p n.n) = true := by exact rfl) :
    Wp P none W D n Q (.rangeFunc g ps.toArray assign body) env σ := by
  have sel : ∀ (l : List Ent) (s : Ent), Sel (s :: (l ++ σr)) (s :: l) σr := by
    intro l s
    refine Sel.cons Rem.here ?_
    induction l with
    | nil => exact Sel.nil
    | cons x l ih => exact Sel.cons Rem.here ih
  have hw0 : ∀ {e : Exit} {k : Nat} {c : γ}, isWay e = true → WayZ G X k e c → (goesOn e = true ∧ G k c) ∨ (goesOn e = false ∧ X e k c) := by
    intro e k c hw h
    cases e with
    | normal => exact .inl ⟨rfl, h⟩
    | ret => exact .inr ⟨rfl, h⟩
    | exit id => exact .inr ⟨rfl, h⟩
    | _ => cases hw
  have key : Wp P none W D n Q (.rangeFunc g ps.toArray assign body) env (bag (S c0) :: (Z0 ++ σr)) := by
    refine Wp.rf0 (ι := { p : Nat × ι × γ × β // G p.1 p.2.2.1 ∧ step p.1 p.2.1 (pr p.2.2.1) p.2.2.2 }) (σc := Z0) (σr := σr) (fun i => enc i.1.2.1) (bag (S c0)) (fun i => bag (bag (S i.1.2.2.1) :: Z i.1.2.2.2)) (fun i e s' => ∃ c', s' = bag (bag (S c') :: Z (pr c')) ∧ WayZ G X (i.1.1 + 1) e c')
      (fun e σ'' => ∃ c' k, σ'' = bag (S c') :: (Z (pr c') ++ σ1) ∧ ((e = .normal ∧ G k c' ∧ stop k (pr c')) ∨ (goesOn e = false ∧ X e k c'))) hg hok (sel _ _) (fun i => hA _) hp ?_ ?_ ?_
    · rintro ⟨⟨k, i, c, b'⟩, hG, hs⟩ l rec hr W' K hK
      have E : ∀ (c : γ) (b : β) (e : Ent), Eqv [e, bag (bag (S c) :: Z b)] (e :: (S c ++ Z b)) := fun c b e =>
        Eqv.cons e (Eqv.bag.trans (Eqv.append (σ := [bag (S c)]) Eqv.bag (Eqv.refl (Z b))))
      have := round k i c b' l rec hG hs hr W' (doms [lpD l rec .normal, bag (bag (S c) :: Z b')]) K (fun e c' hw hT a w hH => hK e _ hw ⟨c', rfl, hT⟩ a w (hH.eqv (E c' (pr c') _).symm))
      exact Wp.eqv (E c b' _) this
    · intro l rec hy
      have hc := hI N l (Exit × γ) (fun p => pr p.2) (fun k p => p.1 = .normal ∧ G k p.2) (fun k p => isWay p.1 = true ∧ goesOn p.1 = false ∧ X p.1 k p.2) (fun p => bag [lpD l rec p.1, bag (S p.2)]) (.normal, c0) (fun k p h => hN k p.2 h.2) hp0 ⟨rfl, h0⟩ ?_
      · refine hc.eqv (σ := lpD l rec .normal :: bag (S c0) :: Z0) ?_ ?_
        · exact (Eqv.append (σ := [bag [lpD l rec .normal, bag (S c0)]]) Eqv.bag (Eqv.refl Z0)).symm
        · rintro v σ' ⟨⟨e, c'⟩, k, hb, rfl⟩
          refine ⟨lpD l rec e :: bag (S c') :: (Z (pr c') ++ σ1), ⟨e, _, ?_, ⟨c', k, rfl, ?_⟩, rfl⟩, Eqv.append (σ := [bag [lpD l rec e, bag (S c')]]) Eqv.bag (Eqv.refl _)⟩
          · rcases hb with ⟨⟨h, _⟩, _⟩ | ⟨h, _⟩
            · simp only at h; subst h; rfl
            · exact h
          · rcases hb with ⟨⟨h, h2⟩, h3⟩ | ⟨_, h3, h4⟩
            · exact .inl ⟨h, h2, h3⟩
            · exact .inr ⟨h3, h4⟩
      · rintro k i ⟨e, c⟩ b' ⟨he, hG⟩ hs
        simp only at he hG hs
        subst he
        refine (hy ⟨(k, i, c, b'), hG, hs⟩).eqv (σ := bag [lpD l rec .normal, bag (S c)] :: Z b') ?_ ?_
        · have h1 := Eqv.append (σ := [bag [lpD l rec .normal, bag (S c)]]) Eqv.bag (Eqv.refl (Z b'))
          refine h1.trans ?_
          exact Eqv.cons _ (Eqv.bag (τ := bag (S c) :: Z b')).symm
        · rintro v σ' ⟨e, s', rfl, hw, ⟨c', rfl, hT⟩, rfl⟩
          refine ⟨bag [lpD l rec e, bag (S c')] :: Z (pr c'), ⟨(e, c'), goesOn e, rfl, fun h => ?_, fun h => ?_, rfl⟩, ?_⟩
          · rcases hw0 hw hT with ⟨h1, h2⟩ | ⟨h1, h2⟩
            · refine ⟨?_, h2⟩
              cases e <;> first | rfl | cases h1
            · rw [h1] at h; cases h
          · rcases hw0 hw hT with ⟨h1, h2⟩ | ⟨h1, h2⟩
            · rw [h1] at h; cases h
            · exact ⟨hw, h1, h2⟩
          · have h1 := Eqv.append (σ := [bag [lpD l rec e, bag (S c')]]) Eqv.bag (Eqv.refl (Z (pr c')))
            exact (Eqv.cons (lpD l rec e) (Eqv.bag (τ := bag (S c') :: Z (pr c')))).trans h1.symm
    · rintro b e σ'' hw ⟨c', k, rfl, hb⟩
      have conv : ∀ {e : Exit}, Out W D ⟨n.n, b :: n.ds⟩ Q e env (dfr b :: (S c' ++ (Z (pr c') ++ (σ1 ++ σr)))) → Out W D ⟨n.n, b :: n.ds⟩ Q e env (dfr b :: (bag (S c') :: (Z (pr c') ++ σ1) ++ σr)) := fun h =>
        Out.eqv (Eqv.cons _ (by
          have := Eqv.append (σ := [bag (S c')]) Eqv.bag (Eqv.refl (Z (pr c') ++ (σ1 ++ σr)))
          simpa using this)) h
      rcases hb with ⟨rfl, hG, hst⟩ | ⟨hg', hX⟩
      · exact conv (done k c' b hG hst)
      · exact conv (left k c' b e hw hg' hX)
  refine Wp.eqv (τ := bag (S c0) :: (Z0 ++ σr)) ?_ key
  refine (Eqv.of_perm hσ.perm).trans ?_
  rw [List.append_assoc]
  exact (Eqv.append (σ := [bag (S c0)]) Eqv.bag (Eqv.refl (Z0 ++ σr))).symm

end
end Go.HL
