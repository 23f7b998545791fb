/-
  A thirteenth part of the heap logic: a loop in which ranges over iterators lie: each of them leaves a block of deferred calls in the frame.
-/
import Derived.Test.YtgihkocnmgkihaaHeapB
namespace Go.HL
open Go
section
variable {P : Program} {r : Option Nat} {W : World} {D : List Nat} {N : Nat} {Q : Post} {env env' : Env} {σ σ' τ : List Ent} {w : World}
theorem eqvBagC (τ σ : List Ent) : Eqv (bag τ :: σ) (τ ++ σ) := Eqv.append (σ := [bag τ]) Eqv.bag (Eqv.refl σ)
theorem eqvBagIn (τ ρ σ : List Ent) : Eqv (τ ++ (bag ρ :: σ)) (τ ++ (ρ ++ σ)) := (Eqv.refl τ).append (eqvBagC ρ σ)
theorem dfrs_append : ∀ (bs ds : List Nat), dfrs (bs ++ ds) = dfrs bs ++ dfrs ds
  | [], _ => rfl
  | b :: bs, ds => by simp only [List.cons_append, dfrs]; rw [dfrs_append bs ds]
/-- A loop whose rounds add blocks of deferred calls. -/
theorem Wp.lpD {α : Type} {c : Code} (ks : List Nat) (J : α → Prop) (E : α → Env) (S : α → List Ent) (μ : α → Nat) (x0 : α) {env0 : Env} {σ0 : List Ent} (h0 : J x0)
    (h : ∀ x ds, J x → ∀ K : Act → World → Prop, (∀ y ds', J y → μ y < μ x → ∀ a w, Fr ⟨N, ds'⟩ (E y ++ env0) a → H W D (S y ++ (bag (dfrs ds') :: σ0)) w → K a w) → Wp P r W D ⟨N, ds⟩ (Exit.then K Q) c (E x ++ env0) (S x ++ (bag (dfrs ds) :: σ0)))
    (hk : Keep env ks env0 := by (repeat (first | exact Keep.nil | apply Keep.cons rfl))) (he : subEnv env (E x0) := by (repeat (first | exact subEnv.nil | refine subEnv.cons rfl rfl ?_))) (hs : Sel σ (S x0) σ0 := by (repeat (first | exact Sel.nil | exact Rem.here | apply Sel.cons | apply Rem.there))) : Wp P r W D ⟨N, []⟩ Q (.loop c) env σ := Wp.of fun a w hF hH => by
  classical
  let I : Act → World → Prop := fun a w => ∃ x ds, J x ∧ Fr ⟨N, ds⟩ (E x ++ env0) a ∧ H W D (S x ++ (bag (dfrs ds) :: σ0)) w
  let M : Act → World → Nat → Prop := fun a w k => ∃ x ds, J x ∧ μ x = k ∧ Fr ⟨N, ds⟩ (E x ++ env0) a ∧ H W D (S x ++ (bag (dfrs ds) :: σ0)) w
  have ex : ∀ a w, I a w → ∃ k, M a w k ∧ ∀ j, j < k → ¬ M a w j := fun a w ⟨x, ds, hx, hf⟩ => exists_min _ (μ x) ⟨x, ds, hx, rfl, hf⟩
  let m : Act → World → Nat := fun a w => if h : I a w then Classical.choose (ex a w h) else 0
  have mspec : ∀ a w (h : I a w), M a w (m a w) ∧ ∀ j, j < m a w → ¬ M a w j := fun a w h => by
    simp only [m, dif_pos h]
    exact Classical.choose_spec (ex a w h)
  have hst : H W D (S x0 ++ (bag (dfrs []) :: σ0)) w := (hH.sel' hs).eqv (eqvBagIn (S x0) [] σ0).symm
  refine wpIn_loop I m ⟨x0, [], h0, hF.sub (he.app hk.sub).get, hst⟩ fun a w hI => ?_
  obtain ⟨⟨x, ds, hJ, hx, hf, hh⟩, _⟩ := mspec a w hI
  refine wpIn_mono (Wp.get (h x ds hJ (fun a w => ∃ y ds', J y ∧ μ y < μ x ∧ Fr ⟨N, ds'⟩ (E y ++ env0) a ∧ H W D (S y ++ (bag (dfrs ds') :: σ0)) w) (fun y ds' h1 h2 a w h3 h4 => ⟨y, ds', h1, h2, h3, h4⟩)) a w hf hh) fun e a' w' hq => ?_
  cases e with
  | normal =>
    obtain ⟨y, ds', hy0, hy, hfy, hhy⟩ := hq
    refine ⟨⟨y, ds', hy0, hfy, hhy⟩, ?_⟩
    have hI' : I a' w' := ⟨y, ds', hy0, hfy, hhy⟩
    have := (mspec a' w' hI').2 (μ y)
    rcases Nat.lt_or_ge (μ y) (m a' w') with hlt | hge
    · exact absurd ⟨y, ds', hy0, rfl, hfy, hhy⟩ (this hlt)
    · omega
  | _ => exact hq
/-- A round's end; bs are the blocks that it added. -/
theorem Out.agD {α : Type} {J G : α → Prop} {E : α → Env} {S : α → List Ent} {env0 : Env} {σ0 ρ : List Ent} {K : Act → World → Prop} {ds : List Nat}
    (hK : ∀ y ds', J y → G y → ∀ a w, Fr ⟨N, ds'⟩ (E y ++ env0) a → H W D (S y ++ (bag (dfrs ds') :: σ0)) w → K a w) (bs : List Nat) (y : α) (hJ : J y) (hμ : G y)
    (he : subEnv env (E y ++ env0) := by (repeat (first | exact subEnv.nil | refine subEnv.cons rfl rfl ?_))) (hs : Sel σ (S y ++ (dfrs bs ++ (bag (dfrs ds) :: σ0))) ρ := by (repeat (first | exact Sel.nil | exact Rem.here | apply Sel.cons | apply Rem.there))) :
    Out W D ⟨N, bs ++ ds⟩ (Exit.then K Q) .normal env σ := Out.of fun a w hF hH => by
  refine hK y (bs ++ ds) hJ hμ a w (hF.sub he.get) ?_
  have h1 := hH.sel hs
  refine h1.eqv ?_
  refine (Eqv.refl (S y)).append ?_
  refine Eqv.trans ?_ (eqvBagC (dfrs (bs ++ ds)) σ0).symm
  rw [dfrs_append, List.append_assoc]
  exact (Eqv.refl (dfrs bs)).append (eqvBagC (dfrs ds) σ0)
/-- A function's end behind such a loop; one result. -/
theorem Out.f1D {fn : Func} {R : Value → List Ent → Prop} {n : Fm} {e : Exit} {rv : ResultVar} {v : Value} {τ ρ : List Ent} (hr : fn.results = #[rv]) (h1 : ResIs P env σ rv v) (hR : R v τ) (hs : Sel σ (bag (dfrs n.ds) :: τ) ρ := by (repeat (first | exact Sel.nil | exact Rem.here | apply Sel.cons | apply Rem.there)))
    (he : e = .ret ∨ e = .normal := by first | exact .inl rfl | exact .inr rfl) : Out W D n (endPost P fn (Ends R W D)) e env σ := Out.of fun a w hF hH => by
  have hb : LeavesInM Fence.wide 0 P fn a.tmps (Ends R W D) a.defers .returning w := by
    rw [hF.defers]
    exact leave n.ds τ w ((hH.sel hs).eqv (eqvBagC _ _)) hH.hc fun w' h2 h3 => ⟨v, results1 hr hF h3 h1, v, τ, rfl, hR, h2⟩
  rcases he with rfl | rfl <;> exact hb
theorem remTail (x : Ent) (m : List Ent) : ∀ l : List Ent, Rem (l ++ x :: m) x (l ++ m)
  | [] => Rem.here
  | _ :: l => Rem.there (remTail x m l)
theorem selTail : ∀ (m l : List Ent), Sel (l ++ m) (m ++ []) l
  | [], l => by rw [List.append_nil]; exact Sel.nil
  | x :: m, l => Sel.cons (remTail x m l) (selTail m l)
/-- A bag opened, its things behind all others. -/
theorem Wp.unbagE {n : Fm} {c : Code} {ρ : List Ent} (h : Wp P r W D n Q c env (ρ ++ τ)) (hs : Sel σ [bag τ] ρ := by (repeat (first | exact Sel.nil | exact Rem.here | apply Sel.cons | apply Rem.there))) : Wp P r W D n Q c env σ := by
  refine Wp.eqv ?_ h
  refine (Eqv.of_perm hs.perm).trans ?_
  exact (eqvBagC τ ρ).trans (Eqv.of_perm List.perm_append_comm)
end
end Go.HL
