/-
  A second part of the heap logic: a range over an iterator that shares what it goes over with the loop's body; maps.
-/
import Derived.Test.YtgihkocnmgkihaaHeap
namespace Go.HL
open Go
section
variable {P : Program} {r : Option Nat} {W : World} {D : List Nat} {n : Fm} {Q : Post} {env env' : Env} {σ σ' τ : List Ent} {ops : Array Oper} {rest : List Oper} {w : World}

/-- What a function does that hands things to yield, one by one, while the rounds may turn what it goes over (told by Z): 'step' says what it hands, in which round, and what it turns itself ahead of that; 'stop' where it ends. -/
def IterZ (P : Program) (gf : FuncId) (caps : List Value) {β ι : Type} (Z : β → List Ent) (enc : ι → List Value) (step : Nat → ι → β → β → Prop) (stop : Nat → β → Prop) (Z0 σ1 : List Ent) (b0 : β) : Prop :=
  ∀ (l : Nat) (γ : Type) (pr : γ → β) (G X : Nat → γ → Prop) (S : γ → Ent) (c0 : γ), pr c0 = b0 → G 0 c0 →
    (∀ k i c b', G k c → step k i (pr c) b' → Yd P l (enc i) (S c :: Z b') (fun v σ' => ∃ c' t, v = .bool t ∧ (t = true → G (k + 1) c') ∧ (t = false → X (k + 1) c') ∧ σ' = S c' :: Z (pr c'))) →
    Ct P gf (.func (.yield l) #[] #[] :: caps) (S c0 :: Z0) (fun _ σ' => ∃ c' k, ((G k c' ∧ stop k (pr c')) ∨ X k c') ∧ σ' = S c' :: (Z (pr c') ++ σ1))

def WayZ {γ : Type} (G : Nat → γ → Prop) (X : Exit → Nat → γ → Prop) (k : Nat) (e : Exit) (c : γ) : Prop :=
  match e with
  | .normal => G k c
  | e => X e k c

theorem Ct.convP {f : FuncId} {args : List Value} {R R' : Value → List Ent → Prop} (h : Ct P f args σ R) (hE : Eqv τ σ) (hr : ∀ v σ', R v σ' → ∃ τ', R' v τ' ∧ Eqv σ' τ') : Ct P f args τ R' := Ct.eqv hE h hr

/-- A RANGE OVER SUCH AN ITERATOR, the outermost one. -/
theorem Wp.rgZ {β ι γ : Type} {g : Operand} {ps : List Tmp} {assign body : Code} {gf : FuncId} {caps : List Value} {Z : β → List Ent} {enc : ι → List Value} {step : Nat → ι → β → β → Prop} {stop : Nat → β → Prop} {Z0 σ1 σr : List Ent} {b0 : β}
    (hI : IterZ P gf caps Z enc step stop Z0 σ1 b0) (pr : γ → β) (S : γ → List Ent) (G : Nat → γ → Prop) (X : Exit → Nat → γ → Prop) (c0 : γ) (hp0 : pr c0 = b0) (h0 : G 0 c0)
    (round : ∀ k i c b' l rec, G k c → step k i (pr c) b' → RecIs rec → ∀ (W' : World) (D' : List Nat) (K : Post), (∀ e c', isWay e = true → WayZ G X (k + 1) e c' → ∀ a w, H W' D' (lpB l rec :: (S c' ++ Z (pr c'))) w → K e a w) →
      Wp P (some l) W' D' ⟨n.n, []⟩ (Exit.then (beginK P l body K) noWay) assign (zipEnv ps (enc i) env) (lpD l rec .normal :: (S c ++ Z b')))
    (done : ∀ k c b, G k c → stop k (pr c) → Out W D ⟨n.n, b :: n.ds⟩ Q .normal env (dfr b :: (S c ++ (Z (pr c) ++ (σ1 ++ σr)))))
    (left : ∀ k c b e, isWay e = true → goesOn e = false → X e k c → Out W D ⟨n.n, b :: n.ds⟩ Q e env (dfr b :: (S c ++ (Z (pr c) ++ (σ1 ++ σr)))))
    (hg : ev env g = some (.func (.func gf) #[] caps.toArray) := by exact rfl) (hok : fnOk P gf = true := by kernel_rfl) (hσ : Sel σ (S c0 ++ Z0) σr := by (repeat (first | exact Sel.nil | exact Rem.here | apply Sel.cons | apply Rem.there)))
    (hA : ∀ x, ps.length = (enc x).length := by intro _; rfl) (hp : (ps.all fun p => Nat.blt p n.n) = true := by exact rfl) :
    Wp P none W D n Q (.rangeFunc g ps.toArray assign body) env σ := by
  have sel : ∀ (l : List Ent) (s : Ent), Sel (s :: (l ++ σr)) (s :: l) σr := by
    intro l s
    refine Sel.cons Rem.here ?_
    induction l with
    | nil => exact Sel.nil
    | cons x l ih => exact Sel.cons Rem.here ih
  have hw0 : ∀ {e : Exit} {k : Nat} {c : γ}, isWay e = true → WayZ G X k e c → (goesOn e = true ∧ G k c) ∨ (goesOn e = false ∧ X e k c) := by
    intro e k c hw h
    cases e with
    | normal => exact .inl ⟨rfl, h⟩
    | ret => exact .inr ⟨rfl, h⟩
    | exit id => exact .inr ⟨rfl, h⟩
    | _ => cases hw
  have key : Wp P none W D n Q (.rangeFunc g ps.toArray assign body) env (bag (S c0) :: (Z0 ++ σr)) := by
    refine Wp.rf0 (ι := { p : Nat × ι × γ × β // G p.1 p.2.2.1 ∧ step p.1 p.2.1 (pr p.2.2.1) p.2.2.2 }) (σc := Z0) (σr := σr) (fun i => enc i.1.2.1) (bag (S c0)) (fun i => bag (bag (S i.1.2.2.1) :: Z i.1.2.2.2)) (fun i e s' => ∃ c', s' = bag (bag (S c') :: Z (pr c')) ∧ WayZ G X (i.1.1 + 1) e c')
      (fun e σ'' => ∃ c' k, σ'' = bag (S c') :: (Z (pr c') ++ σ1) ∧ ((e = .normal ∧ G k c' ∧ stop k (pr c')) ∨ (goesOn e = false ∧ X e k c'))) hg hok (sel _ _) (fun i => hA _) hp ?_ ?_ ?_
    · rintro ⟨⟨k, i, c, b'⟩, hG, hs⟩ l rec hr W' K hK
      have E : ∀ (c : γ) (b : β) (e : Ent), Eqv [e, bag (bag (S c) :: Z b)] (e :: (S c ++ Z b)) := fun c b e =>
        Eqv.cons e (Eqv.bag.trans (Eqv.append (σ := [bag (S c)]) Eqv.bag (Eqv.refl (Z b))))
      have := round k i c b' l rec hG hs hr W' (doms [lpD l rec .normal, bag (bag (S c) :: Z b')]) K (fun e c' hw hT a w hH => hK e _ hw ⟨c', rfl, hT⟩ a w (hH.eqv (E c' (pr c') _).symm))
      exact Wp.eqv (E c b' _) this
    · intro l rec hy
      have hc := hI l (Exit × γ) (fun p => pr p.2) (fun k p => p.1 = .normal ∧ G k p.2) (fun k p => isWay p.1 = true ∧ goesOn p.1 = false ∧ X p.1 k p.2) (fun p => bag [lpD l rec p.1, bag (S p.2)]) (.normal, c0) hp0 ⟨rfl, h0⟩ ?_
      · refine hc.eqv (σ := lpD l rec .normal :: bag (S c0) :: Z0) ?_ ?_
        · exact (Eqv.append (σ := [bag [lpD l rec .normal, bag (S c0)]]) Eqv.bag (Eqv.refl Z0)).symm
        · rintro v σ' ⟨⟨e, c'⟩, k, hb, rfl⟩
          refine ⟨lpD l rec e :: bag (S c') :: (Z (pr c') ++ σ1), ⟨e, _, ?_, ⟨c', k, rfl, ?_⟩, rfl⟩, Eqv.append (σ := [bag [lpD l rec e, bag (S c')]]) Eqv.bag (Eqv.refl _)⟩
          · rcases hb with ⟨⟨h, _⟩, _⟩ | ⟨h, _⟩
            · simp only at h; subst h; rfl
            · exact h
          · rcases hb with ⟨⟨h, h2⟩, h3⟩ | ⟨_, h3, h4⟩
            · exact .inl ⟨h, h2, h3⟩
            · exact .inr ⟨h3, h4⟩
      · rintro k i ⟨e, c⟩ b' ⟨he, hG⟩ hs
        simp only at he hG hs
        subst he
        refine (hy ⟨(k, i, c, b'), hG, hs⟩).eqv (σ := bag [lpD l rec .normal, bag (S c)] :: Z b') ?_ ?_
        · have h1 := Eqv.append (σ := [bag [lpD l rec .normal, bag (S c)]]) Eqv.bag (Eqv.refl (Z b'))
          refine h1.trans ?_
          exact Eqv.cons _ (Eqv.bag (τ := bag (S c) :: Z b')).symm
        · rintro v σ' ⟨e, s', rfl, hw, ⟨c', rfl, hT⟩, rfl⟩
          refine ⟨bag [lpD l rec e, bag (S c')] :: Z (pr c'), ⟨(e, c'), goesOn e, rfl, fun h => ?_, fun h => ?_, rfl⟩, ?_⟩
          · rcases hw0 hw hT with ⟨h1, h2⟩ | ⟨h1, h2⟩
            · refine ⟨?_, h2⟩
              cases e <;> first | rfl | cases h1
            · rw [h1] at h; cases h
          · rcases hw0 hw hT with ⟨h1, h2⟩ | ⟨h1, h2⟩
            · rw [h1] at h; cases h
            · exact ⟨hw, h1, h2⟩
          · have h1 := Eqv.append (σ := [bag [lpD l rec e, bag (S c')]]) Eqv.bag (Eqv.refl (Z (pr c')))
            exact (Eqv.cons (lpD l rec e) (Eqv.bag (τ := bag (S c') :: Z (pr c')))).trans h1.symm
    · rintro b e σ'' hw ⟨c', k, rfl, hb⟩
      have conv : ∀ {e : Exit}, Out W D ⟨n.n, b :: n.ds⟩ Q e env (dfr b :: (S c' ++ (Z (pr c') ++ (σ1 ++ σr)))) → Out W D ⟨n.n, b :: n.ds⟩ Q e env (dfr b :: (bag (S c') :: (Z (pr c') ++ σ1) ++ σr)) := fun h =>
        Out.eqv (Eqv.cons _ (by
          have := Eqv.append (σ := [bag (S c')]) Eqv.bag (Eqv.refl (Z (pr c') ++ (σ1 ++ σr)))
          simpa using this)) h
      rcases hb with ⟨rfl, hG, hst⟩ | ⟨hg', hX⟩
      · exact conv (done k c' b hG hst)
      · exact conv (left k c' b e hw hg' hX)
  refine Wp.eqv (τ := bag (S c0) :: (Z0 ++ σr)) ?_ key
  refine (Eqv.of_perm hσ.perm).trans ?_
  rw [List.append_assoc]
  exact (Eqv.append (σ := [bag (S c0)]) Eqv.bag (Eqv.refl (Z0 ++ σr))).symm

/-- A round's end. -/
theorem Out.rdZ {β γ : Type} {l : Nat} {rec : LoopState → Option Code → Loop} {T : Exit → γ → Prop} {S : γ → List Ent} {Z : β → List Ent} {pr : γ → β} {K : Post} {e : Exit} {ρ : List Ent}
    (hK : ∀ e c, isWay e = true → T e c → ∀ a w, H W D (lpB l rec :: (S c ++ Z (pr c))) w → K e a w) (c : γ) (hT : T e c)
    (hs : Sel σ (lpB l rec :: (S c ++ Z (pr c))) ρ := by (repeat (first | exact Sel.nil | exact Rem.here | apply Sel.cons | apply Rem.there))) (hw : isWay e = true := by exact rfl) :
    Out W D n K e env σ := Out.of fun a w _ hH => hK e c hw hT a w (hH.sel hs)
end
end Go.HL
/-! ### Maps -/
namespace Go.HL
open Go
section keys
variable {P : Program} {α : Type} [DecidableEq α]
/-- A map's keys, as the machine asks them. -/
structure KeyOk (P : Program) (kt : TypeId) (kf : α → Value) : Prop where
  check : ∀ e a w, (Instr.checkKey e 10000 kt (kf a)).run P w = .ok () w
  eq : ∀ a b w, (Op.equal kt (kf a) (kf b)).run P w = .ok (decide (a = b)) w
  und : ∃ d, P.underlying kt = some d ∧ ((∀ a b, Instr.sameNow d (kf a) (kf b) = some (decide (a = b))) ∨ (∀ a b, Instr.sameNow d (kf a) (kf b) = none))
  bits : ∀ a, Instr.sameBits 10000 (kf a) (kf a) = true
theorem bytes_beq (a b : List UInt8) : (({ data := a.toArray } : ByteArray) == { data := b.toArray }) = decide (a = b) := by
  rw [Bool.eq_iff_iff]
  rw [show ((({ data := a.toArray } : ByteArray) == { data := b.toArray }) = true ↔ ({ data := a.toArray } : ByteArray) = { data := b.toArray }) from MapKept.bytes_beq _ _]
  simp only [ByteArray.mk.injEq, decide_eq_true_eq]
  exact ⟨fun h => by have := congrArg Array.toList h; exact this, fun h => by rw [h]⟩
theorem KeyOk.int {kt : TypeId} {k : IntKind} (h : P.underlying kt = some (.int k)) : KeyOk P kt (fun n : Int => .int k n) where
  check e a w := MapKept.run_checkKey h (by simp [MapKept.IsKey]) e 9999
  eq a b w := by
    have := EqT.int (P := P) (d := 9999) (k := k) (p := a) (q := b) h
    unfold EqT at this
    exact this w
  und := ⟨_, h, .inl fun a b => by
    simp only [Instr.sameNow, if_true]
    rw [Option.some.injEq, Bool.eq_iff_iff]; simp⟩
  bits a := MapKept.sameBits_self (d := .int k) (by simp [MapKept.IsKey]) 10000
theorem KeyOk.bool {kt : TypeId} (h : P.underlying kt = some .bool) : KeyOk P kt (fun n : Bool => .bool n) where
  check e a w := MapKept.run_checkKey h (by simp [MapKept.IsKey]) e 9999
  eq a b w := by
    have := EqT.bool (P := P) (d := 9999) (p := a) (q := b) h
    unfold EqT at this
    have e : (a == b) = decide (a = b) := by cases a <;> cases b <;> rfl
    rw [← e]
    exact this w
  und := ⟨_, h, .inl fun a b => by
    simp only [Instr.sameNow, Option.some.injEq]
    rw [Bool.eq_iff_iff]; simp⟩
  bits a := MapKept.sameBits_self (d := .bool) (by simp [MapKept.IsKey]) 10000
theorem KeyOk.str {kt : TypeId} (h : P.underlying kt = some .string) : KeyOk P kt (fun l : List UInt8 => S l) where
  check e a w := MapKept.run_checkKey h (by simp [MapKept.IsKey]) e 9999
  eq a b w := by
    have := EqT.str (P := P) (d := 9999) (p := a) (q := b) h
    unfold EqT at this
    exact this w
  und := ⟨_, h, .inl fun a b => by
    simp only [Instr.sameNow, bytes_beq]⟩
  bits a := MapKept.sameBits_self (d := .string) (by simp [MapKept.IsKey]) 10000
end keys

section
variable {α β : Type} [DecidableEq α]
def fnd (k : α) : List (α × β) → Nat → Option (Nat × β)
  | [], _ => none
  | p :: l, i => if k = p.1 then some (i, p.2) else fnd k l (i + 1)
def mget (l : List (α × β)) (k : α) : Option β := (fnd k l 0).map (·.2)
def mput (l : List (α × β)) (k : α) (v : β) : List (α × β) :=
  match fnd k l 0 with
  | some (i, _) => l.set i (k, v)
  | none => l ++ [(k, v)]
def mdel (l : List (α × β)) (k : α) : List (α × β) :=
  match fnd k l 0 with
  | some (i, _) => l.eraseIdx i
  | none => l
theorem fnd_some {k : α} : ∀ {l : List (α × β)} {i : Nat} {j : Nat} {v : β}, fnd k l i = some (j, v) → i ≤ j ∧ l[j - i]? = some (k, v)
  | [], _, _, _, h => by cases h
  | p :: l, i, j, v, h => by
    simp only [fnd] at h
    split at h
    · rename_i e
      simp only [Option.some.injEq, Prod.mk.injEq] at h
      obtain ⟨rfl, rfl⟩ := h
      subst e
      exact ⟨Nat.le_refl _, by simp⟩
    · obtain ⟨h1, h2⟩ := fnd_some h
      refine ⟨by omega, ?_⟩
      rw [show j - i = (j - (i + 1)) + 1 by omega, List.getElem?_cons_succ]
      exact h2
theorem fnd_none {k : α} : ∀ {l : List (α × β)} {i : Nat}, fnd k l i = none ↔ ∀ v, (k, v) ∉ l
  | [], _ => by simp [fnd]
  | p :: l, i => by
    simp only [fnd]
    split
    · rename_i e
      subst e
      simp only [reduceCtorEq, false_iff]
      intro h
      exact h p.2 (by simp)
    · rename_i e
      rw [fnd_none]
      constructor
      · intro h v hv
        rcases List.mem_cons.1 hv with hv | hv
        · exact e (by rw [← hv])
        · exact h v hv
      · intro h v hv
        exact h v (by simp [hv])

variable {P : Program} {kf : α → Value} {vf : β → Value} {kt : TypeId}
theorem run_findAsking (K : KeyOk P kt kf) (k : α) (w : World) : ∀ (es : List MapEntry) (l : List (α × β)) (i : Nat), es.map (fun e => (e.key, e.val)) = l.map (fun p => (kf p.1, vf p.2)) →
    (Instr.findAsking kt (kf k) es i).run P w = .ok ((fnd k l i).map fun p => (p.1, vf p.2)) w
  | [], [], i, _ => by simp [Instr.findAsking, fnd]
  | [], _ :: _, _, h => by simp at h
  | _ :: _, [], _, h => by simp at h
  | e :: es, p :: l, i, h => by
    simp only [List.map_cons, List.cons.injEq, Prod.mk.injEq] at h
    obtain ⟨⟨h1, h2⟩, h3⟩ := h
    unfold Instr.findAsking
    rw [Sem.run_bind, h1, K.eq k p.1 w]
    simp only [Result.andThen_ok, fnd]
    by_cases e0 : k = p.1
    · simp [e0, h2]
    · simp only [e0, decide_false, Bool.false_eq_true, if_false]
      exact run_findAsking K k w es l (i + 1) h3
theorem findNow_some {d : TypeDesc} {k : α} (h : ∀ a b, Instr.sameNow d (kf a) (kf b) = some (decide (a = b))) : ∀ (es : List MapEntry) (l : List (α × β)) (i : Nat), es.map (fun e => (e.key, e.val)) = l.map (fun p => (kf p.1, vf p.2)) →
    Instr.findNow d (kf k) es i = some ((fnd k l i).map fun p => (p.1, vf p.2))
  | [], [], i, _ => by simp [Instr.findNow, fnd]
  | [], _ :: _, _, h => by simp at h
  | _ :: _, [], _, h => by simp at h
  | e :: es, p :: l, i, he => by
    simp only [List.map_cons, List.cons.injEq, Prod.mk.injEq] at he
    obtain ⟨⟨h1, h2⟩, h3⟩ := he
    unfold Instr.findNow
    rw [h1, h k p.1]
    by_cases e0 : k = p.1
    · simp [e0, fnd, h2]
    · simp only [e0, decide_false, fnd, if_false]
      exact findNow_some h es l (i + 1) h3
theorem run_findKey (K : KeyOk P kt kf) (k : α) (w : World) {es : List MapEntry} {l : List (α × β)} (h : es.map (fun e => (e.key, e.val)) = l.map (fun p => (kf p.1, vf p.2))) :
    (Instr.findKey kt (kf k) es).run P w = .ok ((fnd k l 0).map fun p => (p.1, vf p.2)) w := by
  obtain ⟨d, hd, hs⟩ := K.und
  unfold Instr.findKey
  rw [Sem.run_bind, run_underlying hd]
  simp only [Result.andThen_ok]
  rcases hs with hs | hs
  · rw [findNow_some hs es l 0 h]
    simp
  · cases es with
    | nil =>
      cases l with
      | nil => simp [Instr.findNow, fnd]
      | cons _ _ => simp at h
    | cons e es =>
      cases l with
      | nil => simp at h
      | cons p l =>
        have h' := h
        simp only [List.map_cons, List.cons.injEq, Prod.mk.injEq] at h'
        have : Instr.findNow d (kf k) (e :: es) 0 = none := by
          unfold Instr.findNow
          rw [h'.1.1, hs k p.1]
        rw [this]
        exact run_findAsking K k w (e :: es) (p :: l) 0 h

/-- A map's block: what it holds, in the order in which it came. -/
def MapHolds (w : World) (b : Nat) (l : List (Value × Value)) : Prop :=
  ∃ es clock, w.heap[b]? = some (.map es clock) ∧ es.toList.map (fun e => (e.key, e.val)) = l ∧ (∀ e, e ∈ es.toList → e.born < clock) ∧ (es.toList.map (·.born)).Nodup
@[irreducible] def mapB (b : Nat) (l : List (Value × Value)) : Ent where
  dom := [b]
  holds w := MapHolds w b l
  loc w w' h hw := by
    obtain ⟨es, clock, hb, rest⟩ := hw
    exact ⟨es, clock, by rw [h b (by simp)]; exact hb, rest⟩
  lt w h x hx := by
    have : x = b := by simpa using hx
    subst this
    obtain ⟨es, clock, hb, _⟩ := h
    exact (Array.getElem?_eq_some_iff.1 hb).1
theorem mapB_dom (b l) : (mapB b l).dom = [b] := by unfold mapB; rfl
theorem mapB_holds (b l w) : (mapB b l).holds w ↔ MapHolds w b l := by unfold mapB; rfl
/-- A map of things. -/
def mapK (kf : α → Value) (vf : β → Value) (b : Nat) (l : List (α × β)) : Ent := mapB b (l.map fun p => (kf p.1, vf p.2))

variable {r : Option Nat} {W : World} {D : List Nat} {n : Fm} {env : Env} {σ σ' : List Ent} {w : World} {l : List (α × β)}
variable {dst : Nat} {ty : TypeId} {pos : String} {af : Array Edge} {gd : Option (Nat × Bool)} {C : Env → List Ent → Prop}
def mapTB (P : Program) (t k e : Nat) : Bool := match P.underlying t with | some (.map k' e') => k == k' && e == e' | _ => false
theorem mapTB_spec {t k e : Nat} (h : mapTB P t k e = true) : P.underlying t = some (.map k e) := by
  unfold mapTB at h
  split at h
  · rename_i k' e' he
    simp only [Bool.and_eq_true, beq_iff_eq] at h
    rw [he, h.1, h.2]
  · cases h
theorem run_zeroT (tb : Tabs P) {T : Nat} {c : List Value} (h : lkZ tb.zeros T = some c) {z : Value} (hz : c = [z]) (h1 : z.cells.toList = [z]) (w : World) (ho : lk1 tb.one T = some 1) : ∃ z', (zeroValue T).run P w = .ok z' w ∧ z'.cells.toList = [z] := by
  obtain ⟨z', h2, h3⟩ := tb.zeroAt h
  obtain ⟨i, hi, hz'⟩ := Option.bind_eq_some_iff.1 h2
  exact ⟨z', by simp [zeroValue, typeInfo, hi, hz'], by rw [h3, hz]⟩
/-- m[k]. -/
theorem Val.look {t e : TypeId} {x y : Operand} {b : Nat} {k : α} {zv : Value} (hK : KeyOk P kt kf) (ht : mapTB P t kt e = true) (hz : ∀ w, (zeroValue e).run P w = .ok zv w)
    (hx : ev env x = some (.map (some b))) (hy : ev env y = some (kf k)) (hm : mapK kf vf b l ∈ σ) : Val P n env σ ⟨some dst, .lookup t x y false, ty, pos, af, gd⟩ (match mget l k with | some v => vf v | none => zv) := Val.of fun a w hF hH => by
  have h := hH.get _ hm
  unfold mapK at h
  rw [mapB_holds] at h
  obtain ⟨es, clock, hb, hl, _⟩ := h
  simp only [execOp, hF.eval hx, hF.eval hy]
  unfold Instr.lookup
  simp only [Sem.run_bind, run_underlying (mapTB_spec ht), Result.andThen_ok, MapKept.run_getObj_map hb, Sem.run_pure, hK.check, run_findKey hK k w hl]
  unfold mget
  cases fnd k l 0 with
  | none => simp [hz w]
  | some p => simp
/-- v, ok := m[k]. -/
theorem Val.look2 {t e : TypeId} {x y : Operand} {b : Nat} {k : α} {zv : Value} (hK : KeyOk P kt kf) (ht : mapTB P t kt e = true) (hz : ∀ w, (zeroValue e).run P w = .ok zv w)
    (hx : ev env x = some (.map (some b))) (hy : ev env y = some (kf k)) (hm : mapK kf vf b l ∈ σ) : Val P n env σ ⟨some dst, .lookup t x y true, ty, pos, af, gd⟩ (match mget l k with | some v => .tuple #[vf v, .bool true] | none => .tuple #[zv, .bool false]) := Val.of fun a w hF hH => by
  have h := hH.get _ hm
  unfold mapK at h
  rw [mapB_holds] at h
  obtain ⟨es, clock, hb, hl, _⟩ := h
  simp only [execOp, hF.eval hx, hF.eval hy]
  unfold Instr.lookup
  simp only [Sem.run_bind, run_underlying (mapTB_spec ht), Result.andThen_ok, MapKept.run_getObj_map hb, Sem.run_pure, hK.check, run_findKey hK k w hl]
  unfold mget
  cases fnd k l 0 with
  | none => simp [hz w]
  | some p => simp
omit [DecidableEq α] in
/-- len(m). -/
theorem Val.lenM {t e : TypeId} {x : Operand} {b : Nat} (ht : mapTB P t kt e = true) (hx : ev env x = some (.map (some b))) (hm : mapK kf vf b l ∈ σ) : Val P n env σ ⟨some dst, .call ⟨.builtin .len, #[x], #[t]⟩, ty, pos, af, gd⟩ (I (l.length : Int)) := Val.of fun a w hF hH => by
  have h := hH.get _ hm
  unfold mapK at h
  rw [mapB_holds] at h
  obtain ⟨es, clock, hb, hl, _⟩ := h
  have hlen : es.size = l.length := by
    have := congrArg List.length hl
    simpa using this
  simp [execOp, resolve, invoke, builtin, Builtin.len_, hF.eval hx, run_underlying (mapTB_spec ht), goInt, MapKept.run_getObj_map hb, Sem.run_bind, hlen]
omit [DecidableEq α] in
theorem H.allocMap (h : H W D σ w) : H W D (mapK kf vf w.heap.size [] :: σ) (w.alloc (.map #[] 0)) := by
  have : H w [] [mapK kf vf w.heap.size []] (w.alloc (.map #[] 0)) := by
    refine ⟨fun e he => ?_, by simp [doms, mapK, mapB_dom], fun b hb => ?_, fun b hb _ => heap_alloc_old _ _ hb, by simp, rfl, rfl, rfl⟩
    · obtain rfl : e = _ := by simpa using he
      unfold mapK
      rw [mapB_holds]
      exact ⟨#[], 0, World.alloc_heap_new _ _, by simp, by simp, by simp⟩
    · obtain rfl : b = w.heap.size := by simpa [doms, mapK, mapB_dom] using hb
      exact .inr (Nat.le_refl _)
  exact h.new this
omit [DecidableEq α] in
/-- make(map[..]..), with no hint. -/
theorem Op1.mkMap {t : TypeId} (kf : α → Value) (vf : β → Value) (hd : Nat.blt dst n.n = true) (hC : ∀ b, C ((dst, .map (some b)) :: env) (mapK kf vf b [] :: σ)) : Op1 P r W D n ⟨some dst, .makeMap t none, ty, pos, af, gd⟩ env σ C := Op1.of fun K Q hK a w hF hH => by
  have hrun : (Instr.makeMap t none).run P w = .ok (.map (some w.heap.size)) (w.alloc (.map #[] 0)) := by
    simp [Instr.makeMap]
  refine opW_value rfl ?_ (hK _ _ (hC w.heap.size) _ _ (hF.put hd _) hH.allocMap)
  simp only [execOp, Option.map_none, Sem.run_bind, hrun, Result.andThen_ok, Sem.run_pure]
omit [DecidableEq α] in
theorem H.setMap {b : Nat} {l l' : List (α × β)} {o : Obj} (h : H W D σ w) (u : Upd σ (mapK kf vf b l) (mapK kf vf b l') σ') (ho : MapHolds (w.putObj b o) b (l'.map fun p => (kf p.1, vf p.2))) : H W D σ' (w.putObj b o) := by
  have hm : mapK kf vf b l ∈ σ := by obtain ⟨p, q, rfl, _⟩ := u.split; simp
  refine h.upd u ⟨fun e he => ?_, by simp [doms, mapK, mapB_dom], fun x hx => ?_, fun k hk hn => ?_, by simp, rfl, rfl, rfl⟩
  · obtain rfl : e = _ := by simpa using he
    unfold mapK; rw [mapB_holds]; exact ho
  · left; simpa [doms, mapK, mapB_dom] using hx
  · exact World.putObj_heap_other (by simpa [mapK, mapB_dom] using hn)
theorem modify_toList {γ : Type} (es : Array γ) (i : Nat) (f : γ → γ) : (es.modify i f).toList = es.toList.modify i f := by simp
/-- m[k] = v. -/
theorem run_mapUpdate {t e : TypeId} (hK : KeyOk P kt kf) (ht : mapTB P t kt e = true) {b : Nat} {k : α} {v : β} (h : MapHolds w b (l.map fun p => (kf p.1, vf p.2))) :
    ∃ o, (Instr.mapUpdate t (.map (some b)) (kf k) (vf v)).run P w = .ok () (w.putObj b o) ∧ MapHolds (w.putObj b o) b ((mput l k v).map fun p => (kf p.1, vf p.2)) := by
  obtain ⟨es, clock, hb, hl, h1, h2⟩ := h
  have hlt := (Array.getElem?_eq_some_iff.1 hb).1
  have hset : ∀ o, (setObj b o).run P w = .ok () (w.putObj b o) := fun o => by simp [setObj, Sem.run, hb, World.putObj]
  unfold Instr.mapUpdate mput
  simp only [Sem.run_bind, run_underlying (mapTB_spec ht), Result.andThen_ok, MapKept.run_getObj_map hb, hK.check, run_findKey hK k w hl]
  cases hf : fnd k l 0 with
  | none =>
    refine ⟨.map (es.push { key := kf k, val := vf v, born := clock }) (clock + 1), by simp [hset], ?_⟩
    refine ⟨_, _, World.putObj_heap_same hlt, by simp [hl], ?_, ?_⟩
    · intro x hx
      simp only [Array.toList_push, List.mem_append, List.mem_singleton] at hx
      rcases hx with hx | rfl
      · have := h1 x hx; omega
      · simp
    · simp only [Array.toList_push, List.map_append, List.map_cons, List.map_nil]
      rw [List.nodup_append]
      refine ⟨h2, by simp, ?_⟩
      intro x hx y hy
      simp only [List.mem_singleton] at hy
      subst hy
      obtain ⟨z, hz, rfl⟩ := List.mem_map.1 hx
      have := h1 z hz
      omega
  | some q =>
    obtain ⟨i, v0⟩ := q
    have hi := (fnd_some hf).2
    simp only [Nat.sub_zero] at hi
    have hil := (List.getElem?_eq_some_iff.1 hi).1
    have hes : es.toList.length = l.length := by have := congrArg List.length hl; simpa using this
    have hlt2 : i < es.size := by rw [← Array.length_toList, hes]; exact hil
    have hkey : ((es[i]?).map (·.key)).getD (kf k) = kf k := by
      have h3 : (es.toList.map (fun e => (e.key, e.val)))[i]? = some (kf k, vf v0) := by rw [hl]; simp [hi]
      rw [List.getElem?_map] at h3
      cases hq : es[i]? with
      | none => rfl
      | some x =>
        have : es.toList[i]? = some x := by simpa using hq
        rw [this] at h3
        simp at h3
        simp [h3.1]
    refine ⟨.map (es.modify i fun e => { e with key := kf k, val := vf v }) clock, ?_, ?_⟩
    · simp [hkey, Instr.keyThatStays, hK.bits k, hset]
    · refine ⟨_, _, World.putObj_heap_same hlt, ?_, ?_, ?_⟩
      · rw [modify_toList]
        apply List.ext_getElem?
        intro j
        have hj : (es.toList.map (fun e => (e.key, e.val)))[j]? = (l.map fun p => (kf p.1, vf p.2))[j]? := by rw [hl]
        simp only [List.getElem?_map, List.getElem?_modify, List.getElem?_set] at hj ⊢
        by_cases e : i = j
        · subst e
          have : ∃ x, es.toList[i]? = some x := ⟨_, List.getElem?_eq_getElem (by rw [hes]; exact hil)⟩
          obtain ⟨x, hx⟩ := this
          simp [hx, hil]
        · simp only [e, if_false]
          cases hq : es.toList[j]? with
          | none => rw [hq] at hj; simpa using hj
          | some x => rw [hq] at hj; simpa using hj
      · intro x hx
        rw [modify_toList] at hx
        obtain ⟨j, hj⟩ := List.getElem?_of_mem hx
        rw [List.getElem?_modify] at hj
        cases hq : es.toList[j]? with
        | none => rw [hq] at hj; simp at hj
        | some y =>
          rw [hq] at hj
          have hy := h1 y (List.mem_of_getElem? hq)
          split at hj <;> (simp only [Option.map_eq_map, Option.map_some, Option.some.injEq] at hj; subst hj; exact hy)
      · have : (es.modify i fun e => { e with key := kf k, val := vf v }).toList.map (·.born) = es.toList.map (·.born) := by
          rw [modify_toList]
          apply List.ext_getElem?
          intro j
          simp only [List.getElem?_map, List.getElem?_modify]
          cases es.toList[j]? with
          | none => rfl
          | some y => split <;> rfl
        rw [this]; exact h2
theorem Op1.insM {t e : TypeId} {x y z : Operand} {b : Nat} {k : α} {v : β} {l : List (α × β)} (hK : KeyOk P kt kf) (ht : mapTB P t kt e = true) (hx : ev env x = some (.map (some b))) (hy : ev env y = some (kf k)) (hz : ev env z = some (vf v))
    (hm : Upd σ (mapK kf vf b l) (mapK kf vf b (mput l k v)) σ') (hC : C env σ') : Op1 P r W D n ⟨none, .insert t x y z, ty, pos, af, gd⟩ env σ C := Op1.of fun K Q hK' a w hF hH => by
  have hmem : mapK kf vf b l ∈ σ := by obtain ⟨l, r, rfl, _⟩ := hm.split; simp
  have h := hH.mem hmem
  unfold mapK at h
  rw [mapB_holds] at h
  obtain ⟨o, hrun, ho⟩ := run_mapUpdate (k := k) (v := v) hK ht h
  refine opW_skip rfl ?_ (hK' _ _ hC _ _ (hF.putNone undef) (hH.setMap hm ho))
  simp only [execOp, hF.eval hx, hF.eval hy, hF.eval hz, Sem.run_bind, hrun, Result.andThen_ok, Sem.run_pure]
theorem Op1.updM {t e : TypeId} {x y z : Operand} {b : Nat} {k : α} {v : β} {l : List (α × β)} (hK : KeyOk P kt kf) (ht : mapTB P t kt e = true) (hx : ev env x = some (.map (some b))) (hy : ev env y = some (kf k)) (hz : ev env z = some (vf v))
    (hm : Upd σ (mapK kf vf b l) (mapK kf vf b (mput l k v)) σ') (hC : C env σ') : Op1 P r W D n ⟨none, .mapUpdate t x y z, ty, pos, af, gd⟩ env σ C := Op1.of fun K Q hK' a w hF hH => by
  have hmem : mapK kf vf b l ∈ σ := by obtain ⟨l, r, rfl, _⟩ := hm.split; simp
  have h := hH.mem hmem
  unfold mapK at h
  rw [mapB_holds] at h
  obtain ⟨o, hrun, ho⟩ := run_mapUpdate (k := k) (v := v) hK ht h
  refine opW_skip rfl ?_ (hK' _ _ hC _ _ (hF.putNone undef) (hH.setMap hm ho))
  simp only [execOp, hF.eval hx, hF.eval hy, hF.eval hz, Sem.run_bind, hrun, Result.andThen_ok, Sem.run_pure]
end
end Go.HL
