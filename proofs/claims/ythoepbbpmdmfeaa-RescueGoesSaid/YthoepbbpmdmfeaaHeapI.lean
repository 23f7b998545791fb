/-
  A ninth part of the heap logic: drawn regions whose last effect waits for the rest by a longer way.
-/
import Derived.Test.YthoepbbpmdmfeaaHeap
namespace Go.HL
open Go
section
variable {P : Program} {r : Option Nat} {md : Region.Mode} {ops : Array Oper}
/-- j waits for i, over at most so many steps. -/
def reachB (md : Region.Mode) (ops : Array Oper) : Nat → Nat → Nat → Bool
  | 0, _, _ => false
  | f + 1, j, i => match ops[j]? with
    | some oj => oj.after.any fun e => Region.binds md e && (e.on == i || reachB md ops f e.on i)
    | none => false
def tailD (md : Region.Mode) (ops : Array Oper) (tl : List Nat) (i : Nat) : Bool := tl.all fun j => reachB md ops 12 j i
theorem reachB_listed {listed : Array Bool} (hc : Closed md ops listed) {i : Nat} : ∀ (f : Nat) {j : Nat}, (∀ oj, ops[j]? = some oj → ∀ e ∈ oj.after, Region.binds md e = true → listed.getD e.on false = true) → reachB md ops f j i = true → listed.getD i false = true
  | 0, _, _, h => by cases h
  | f + 1, j, hj, h => by
    unfold reachB at h
    split at h
    · rename_i oj ho
      obtain ⟨e, he, hb⟩ := Array.any_eq_true'.1 h
      simp only [Bool.and_eq_true, Bool.or_eq_true, beq_iff_eq] at hb
      have h1 := hj oj ho e he hb.1
      rcases hb.2 with h2 | h2
      · rw [← h2]; exact h1
      · exact reachB_listed hc f (fun om hom e' he' hb' => hc e.on om hom h1 e' he' hb') h2
    · cases h
theorem Any.firstD {M : Act → World → Prop} {S T : World → Prop} {tl : List Nat} {i : Nat} {oi : Oper} {v : Value} (hi : ops[i]? = some oi) (hnd : allNd ops = true) (ht : tailD md ops tl i = true) :
    ∀ (fuel : Nat) (listed : Array Bool) (a : Act) (w : World),
      (∀ j oj, ops[j]? = some oj → j ≠ i → listed.getD j true = false → (∀ e ∈ oj.after, Region.binds md e = true → e.on ≠ i) → oi.apart ops oj = true) →
      i ∈ Region.ready md ops listed → Closed md ops listed → YieldsW P ops S oi v a → S w → T w →
      Any P r md ops (OnlyN M) S T tl fuel (listed.setIfInBounds i true) (a.put oi.dst v) w → Any P r md ops (OnlyN M) S T tl (fuel + 1) listed a w := by
  have hnd' : ∀ (j : Nat) (oj : Oper), ops[j]? = some oj → notDefer oj.op = true ∧ ∀ cs b, oj.op ≠ .select cs b := fun j oj hj => by
    have := Array.all_eq_true_iff_forall_mem.1 hnd oj (Array.mem_of_getElem? hj)
    simp only [Bool.and_eq_true] at this
    exact ⟨this.1, fun cs b e => by rw [e] at this; simp at this⟩
  intro fuel
  induction fuel with
  | zero =>
    intro listed a w _ hr _ hy hS hT H
    refine ⟨fun h => (by rw [h] at hr; cases hr), fun j hj => ?_⟩
    by_cases hji : j = i
    · subst hji; exact hy.opN hi hS ⟨hT, fun _ _ => hS, H⟩
    · have := ready_mono hj hji
      rw [H.1] at this
      cases this
  | succ fuel ih =>
    intro listed a w hfree hr hcl hy hS hT H
    have hun := (mem_ready.1 hr).1
    refine ⟨fun h => (by rw [h] at hr; cases hr), fun j hj => ?_⟩
    by_cases hji : j = i
    · subst hji; exact hy.opN hi hS ⟨hT, fun _ _ => hS, H⟩
    · have h1 := H.2 j (ready_mono hj hji)
      obtain ⟨hjun, oj, hoj, hall⟩ := mem_ready.1 hj
      have hnot : ∀ e ∈ oj.after, Region.binds md e = true → e.on ≠ i := fun e he hb heq => by
        have h1 := hall e he hb
        rw [heq] at h1
        rcases Nat.lt_or_ge i listed.size with h' | h'
        · simp [h'] at hun h1; rw [hun] at h1; cases h1
        · simp [Array.getElem?_eq_none h'] at h1
      have htj : tl.contains j = false := by
        cases hc : tl.contains j with
        | false => rfl
        | true =>
          have hm : j ∈ tl := by simpa using hc
          have := List.all_eq_true.1 ht j hm
          have h3 := reachB_listed hcl 12 (fun oj' ho' => by rw [hoj] at ho'; cases ho'; exact hall) this
          rcases Nat.lt_or_ge i listed.size with h' | h'
          · simp [h'] at hun h3; rw [hun] at h3; cases h3
          · simp [Array.getElem?_eq_none h'] at h3
      have h2 := opN_put hoj (hfree j oj hoj hji hjun hnot) (hnd' i oi hi).2 (hnd' j oj hoj).2 (hnd' j oj hoj).1 hy h1
      have hfree' : ∀ k ok, ops[k]? = some ok → k ≠ i → (listed.setIfInBounds j true).getD k true = false →
          (∀ e ∈ ok.after, Region.binds md e = true → e.on ≠ i) → oi.apart ops ok = true := fun k ok hk hki hun hno => by
        refine hfree k ok hk hki ?_ hno
        by_cases hjk : j = k
        · subst hjk; exact hjun
        · rw [getD_set_ne true hjk] at hun; exact hun
      refine opN_mono (fun a' w' h3 => ⟨h3.2.1, h3.2.2.1, ih (listed.setIfInBounds j true) a' w' hfree' (ready_mono hr (Ne.symm hji)) (hcl.step hj) h3.1 (h3.2.2.1 hS htj) h3.2.1 ?_⟩) h2
      rw [Array.setIfInBounds_comm _ _ hji]
      exact h3.2.2.2

end
section
variable {P : Program} {r : Option Nat} {W : World} {D : List Nat} {n : Fm} {Q : Post} {env : Env} {σ : List Ent} {ops : Array Oper}
variable {M : Act → World → Prop} {σS σT : List Ent} {tl : List Nat} {fuel : Nat} {listed : Array Bool}
variable {dst : Nat} {op : Op} {ty : TypeId} {pos : String} {af : Array Edge} {gd : Option (Nat × Bool)}
def takeD (ops : Array Oper) (tl : List Nat) (listed : Array Bool) (i : Nat) : Bool :=
  allNd ops && tailD .any ops tl i && Region.free .any ops listed i && (Region.ready .any ops listed).contains i && closedB .any ops listed
theorem WpA.tD {v : Value} (i : Nat) (hi : ops[i]? = some ⟨some dst, op, ty, pos, af, gd⟩) (hy : Val P n env σS ⟨some dst, op, ty, pos, af, gd⟩ v) (h : WpA P r W D n ops M σS σT tl true fuel (listed.setIfInBounds i true) ((dst, v) :: env) σ)
    (hb : takeD ops tl listed i = true := by kernel_rfl)
    (hg : guardIs env ops gd = some true := by exact rfl) (hnd : notDefer op = true := by exact rfl) (hd : Nat.blt dst n.n = true := by exact rfl) : WpA P r W D n ops M σS σT tl true (fuel + 1) listed env σ := by
  have hy' := hy.get
  unfold WpA at h ⊢
  intro a w hF hH hT hS
  simp only [takeD, Bool.and_eq_true] at hb
  obtain ⟨⟨⟨⟨h1, h2⟩, h3⟩, h4⟩, h5⟩ := hb
  exact Any.firstD hi h1 h2 fuel listed a w (Region.free_spec hi h3) (by simpa using h4) (Closed.of h5) (.inl ⟨guard_wanted hF hg, hnd, fun w' hw' => hy' a w' hF hw'⟩) (hS rfl) hT (h _ _ (hF.put hd v) hH hT hS)
theorem WpA.sD (i : Nat) (hi : ops[i]? = some ⟨some dst, op, ty, pos, af, gd⟩) (h : WpA P r W D n ops M σS σT tl true fuel (listed.setIfInBounds i true) ((dst, undef) :: env) σ) (hb : takeD ops tl listed i = true := by kernel_rfl)
    (hg : guardIs env ops gd = some false := by exact rfl) (hd : Nat.blt dst n.n = true := by exact rfl) : WpA P r W D n ops M σS σT tl true (fuel + 1) listed env σ := by
  unfold WpA at h ⊢
  intro a w hF hH hT hS
  simp only [takeD, Bool.and_eq_true] at hb
  obtain ⟨⟨⟨⟨h1, h2⟩, h3⟩, h4⟩, h5⟩ := hb
  exact Any.firstD hi h1 h2 fuel listed a w (Region.free_spec hi h3) (by simpa using h4) (Closed.of h5) (.inr ⟨guard_wanted hF hg, rfl⟩) (hS rfl) hT (h _ _ (hF.put hd undef) hH hT hS)
end
end Go.HL
