/-
  A sixteenth part of the heap logic: a range over an iterator that hands the things of a row in some order that nobody knows (a map's keys).
-/
import Derived.Test.YtgihkocnmgkihaaHeapB
namespace Go.HL
open Go
section
variable {P : Program} {r : Option Nat} {W : World} {D : List Nat} {n : Fm} {Q : Post} {env env' : Env} {σ σ' τ : List Ent} {ops : Array Oper} {rest : List Oper} {w : World}
/-- What a function does that hands the things of xs to yield, each once, in whatever order. -/
def IterM (P : Program) (gf : FuncId) (caps : List Value) {ι : Type} (enc : ι → List Value) (xs : List ι) (Z0 σ1 : List Ent) : Prop :=
  ∀ (l : Nat) (γ : Type) (G X : List ι → γ → Prop) (S : γ → Ent) (c0 : γ), G [] c0 →
    (∀ pre i post c, (pre ++ i :: post).Perm xs → G pre c → Yd P l (enc i) [S c] (fun v σ' => ∃ c' t, v = .bool t ∧ (t = true → G (pre ++ [i]) c') ∧ (t = false → X (pre ++ [i]) c') ∧ σ' = [S c'])) →
    Ct P gf (.func (.yield l) #[] #[] :: caps) (S c0 :: Z0) (fun _ σ' => ∃ c' pre, ((G pre c' ∧ pre.Perm xs) ∨ X pre c') ∧ σ' = S c' :: σ1)

/-- A RANGE OVER SUCH AN ITERATOR, the outermost one. -/
theorem Wp.rgM {ι γ : Type} {g : Operand} {ps : List Tmp} {assign body : Code} {gf : FuncId} {caps : List Value} {enc : ι → List Value} {xs : List ι} {Z0 σ1 σr : List Ent}
    (hI : IterM P gf caps enc xs Z0 σ1) (S : γ → List Ent) (G : List ι → γ → Prop) (X : Exit → List ι → γ → Prop) (c0 : γ) (h0 : G [] c0)
    (round : ∀ pre i post c l rec, (pre ++ i :: post).Perm xs → G pre c → RecIs rec → ∀ (W' : World) (D' : List Nat) (K : Post), (∀ e c', isWay e = true → Way G X (pre ++ [i]) e c' → ∀ a w, H W' D' (lpB l rec :: S c') w → K e a w) →
      Wp P (some l) W' D' ⟨n.n, []⟩ (Exit.then (beginK P l body K) noWay) assign (zipEnv ps (enc i) env) (lpD l rec .normal :: S c))
    (done : ∀ pre c b, G pre c → pre.Perm xs → Out W D ⟨n.n, b :: n.ds⟩ Q .normal env (dfr b :: (S c ++ (σ1 ++ σr))))
    (left : ∀ pre c b e, isWay e = true → goesOn e = false → X e pre c → Out W D ⟨n.n, b :: n.ds⟩ Q e env (dfr b :: (S c ++ (σ1 ++ σr))))
    (hg : ev env g = some (.func (.func gf) #[] caps.toArray) := by exact rfl) (hok : fnOk P gf = true := by kernel_rfl) (hσ : Sel σ (S c0 ++ Z0) σr := by (repeat (first | exact Sel.nil | exact Rem.here | apply Sel.cons | apply Rem.there)))
    (hA : ∀ x, ps.length = (enc x).length := by intro _; rfl) (hp : (ps.all fun p => Nat.blt p n.n) = true := by exact rfl) :
    Wp P none W D n Q (.rangeFunc g ps.toArray assign body) env σ := by
  have sel : ∀ (l : List Ent) (s : Ent), Sel (s :: (l ++ σr)) (s :: l) σr := by
    intro l s
    refine Sel.cons Rem.here ?_
    induction l with
    | nil => exact Sel.nil
    | cons x l ih => exact Sel.cons Rem.here ih
  have hw0 : ∀ {e : Exit} {k : List ι} {c : γ}, isWay e = true → Way G X k e c → (goesOn e = true ∧ G k c) ∨ (goesOn e = false ∧ X e k c) := by
    intro e k c hw h
    cases e with
    | normal => exact .inl ⟨rfl, h⟩
    | ret => exact .inr ⟨rfl, h⟩
    | exit id => exact .inr ⟨rfl, h⟩
    | _ => cases hw
  have key : Wp P none W D n Q (.rangeFunc g ps.toArray assign body) env (bag (S c0) :: (Z0 ++ σr)) := by
    refine Wp.rf0 (ι := { p : List ι × ι × List ι × γ // (p.1 ++ p.2.1 :: p.2.2.1).Perm xs ∧ G p.1 p.2.2.2 }) (σc := Z0) (σr := σr) (fun i => enc i.1.2.1) (bag (S c0)) (fun i => bag (S i.1.2.2.2)) (fun i e s' => ∃ c', s' = bag (S c') ∧ Way G X (i.1.1 ++ [i.1.2.1]) e c')
      (fun e σ'' => ∃ c' k, σ'' = bag (S c') :: σ1 ∧ ((e = .normal ∧ G k c' ∧ k.Perm xs) ∨ (goesOn e = false ∧ X e k c'))) hg hok (sel _ _) (fun i => hA _) hp ?_ ?_ ?_
    · rintro ⟨⟨pre, i, post, c⟩, hs, hG⟩ l rec hr W' K hK
      have E : ∀ (c : γ) (e : Ent), Eqv [e, bag (S c)] (e :: S c) := fun c e => Eqv.cons e Eqv.bag
      have := round pre i post c l rec hs hG hr W' (doms [lpD l rec .normal, bag (S c)]) K (fun e c' hw hT a w hH => hK e _ hw ⟨c', rfl, hT⟩ a w (hH.eqv (E c' _).symm))
      exact Wp.eqv (E c _) this
    · intro l rec hy
      have hc := hI l (Exit × γ) (fun k p => p.1 = .normal ∧ G k p.2) (fun k p => isWay p.1 = true ∧ goesOn p.1 = false ∧ X p.1 k p.2) (fun p => bag [lpD l rec p.1, bag (S p.2)]) (.normal, c0) ⟨rfl, h0⟩ ?_
      · refine hc.eqv (σ := lpD l rec .normal :: bag (S c0) :: Z0) ?_ ?_
        · exact (Eqv.append (σ := [bag [lpD l rec .normal, bag (S c0)]]) Eqv.bag (Eqv.refl Z0)).symm
        · rintro v σ' ⟨⟨e, c'⟩, k, hb, rfl⟩
          refine ⟨lpD l rec e :: bag (S c') :: σ1, ⟨e, _, ?_, ⟨c', k, rfl, ?_⟩, rfl⟩, Eqv.append (σ := [bag [lpD l rec e, bag (S c')]]) Eqv.bag (Eqv.refl _)⟩
          · rcases hb with ⟨⟨h, _⟩, _⟩ | ⟨h, _⟩
            · simp only at h; subst h; rfl
            · exact h
          · rcases hb with ⟨⟨h, h2⟩, h3⟩ | ⟨_, h3, h4⟩
            · exact .inl ⟨h, h2, h3⟩
            · exact .inr ⟨h3, h4⟩
      · rintro pre i post ⟨e, c⟩ hs ⟨he, hG⟩
        simp only at he hG
        subst he
        refine (hy ⟨(pre, i, post, c), hs, hG⟩).eqv (σ := [bag [lpD l rec .normal, bag (S c)]]) Eqv.bag ?_
        rintro v σ' ⟨e, s', rfl, hw, ⟨c', rfl, hT⟩, rfl⟩
        refine ⟨[bag [lpD l rec e, bag (S c')]], ⟨(e, c'), goesOn e, rfl, fun h => ?_, fun h => ?_, rfl⟩, Eqv.bag.symm⟩
        · rcases hw0 hw hT with ⟨h1, h2⟩ | ⟨h1, h2⟩
          · refine ⟨?_, h2⟩
            cases e <;> first | rfl | cases h1
          · rw [h1] at h; cases h
        · rcases hw0 hw hT with ⟨h1, h2⟩ | ⟨h1, h2⟩
          · rw [h1] at h; cases h
          · exact ⟨hw, h1, h2⟩
    · rintro b e σ'' hw ⟨c', k, rfl, hb⟩
      have conv : ∀ {e : Exit}, Out W D ⟨n.n, b :: n.ds⟩ Q e env (dfr b :: (S c' ++ (σ1 ++ σr))) → Out W D ⟨n.n, b :: n.ds⟩ Q e env (dfr b :: (bag (S c') :: σ1 ++ σr)) := fun h =>
        Out.eqv (Eqv.cons _ (by
          have := Eqv.append (σ := [bag (S c')]) Eqv.bag (Eqv.refl (σ1 ++ σr))
          simpa using this)) h
      rcases hb with ⟨rfl, hG, hst⟩ | ⟨hg', hX⟩
      · exact conv (done k c' b hG hst)
      · exact conv (left k c' b e hw hg' hX)
  refine Wp.eqv (τ := bag (S c0) :: (Z0 ++ σr)) ?_ key
  refine (Eqv.of_perm hσ.perm).trans ?_
  rw [List.append_assoc]
  exact (Eqv.append (σ := [bag (S c0)]) Eqv.bag (Eqv.refl (Z0 ++ σr))).symm
/-- A contract's end, said in other entries. -/
theorem Ct.post {f : FuncId} {args : List Value} {R R' : Value → List Ent → Prop} (h : Ct P f args σ R) (hr : ∀ v σ', R v σ' → ∃ τ, R' v τ ∧ ∀ W D w, H W D σ' w → H W D τ w) : Ct P f args σ R' := Ct.of fun w h0 =>
  (h.get w h0).mono fun e w' ⟨v, σ', he, hR, hH⟩ => by
    obtain ⟨τ, h1, h2⟩ := hr v σ' hR
    exact ⟨v, τ, he, h1, h2 _ _ _ hH⟩
end
end Go.HL
