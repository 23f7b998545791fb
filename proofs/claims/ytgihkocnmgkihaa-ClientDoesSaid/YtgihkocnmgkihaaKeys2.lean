/-
  Layer 20: a map's keys, sorted: what is collected.
-/
import Derived.Test.YtgihkocnmgkihaaKeys
namespace Go.Proofs.Ytgihkocnmgkihaa
open Go.HL
set_option linter.unusedSimpArgs false
set_option linter.unusedVariables false
set_option maxRecDepth 8000
theorem append_seq (a m : Nat) (l : PM) (hl : l.length ≤ 100000) : Ct Try.prog 69 [.slice none 0 0, .func (.func 64) #[] #[Ptr a 0]] [cells a 72 [.map (some m)], mE m l] (fun r σ' => ∃ v ks, ks.Perm (l.map (·.1)) ∧ r = v ∧ σ' = [cells a 72 [.map (some m)], mE m l, rows strc v 9 1 ks]) := by
  refine Ct.enter Try.func69 rfl rfl fun W => ?_
  refine Wp.nilRows strc 9 1 ?_
  apply Wp.seq
  apply Wp.region
  refine WpL.o (O.bx1 (fun p2 => ?_))
  refine WpL.v (V.as) ?_
  apply WpL.nil
  apply Out.seqN
  apply Wp.seq
  apply Wp.seq
  apply Wp.region
  refine WpL.v (V.mv) ?_
  apply WpL.nil
  apply Out.seqN
  apply Wp.block
  refine Wp.rgM (keys_iter a m l) (fun y : Go.Value × List (List UInt8) => [cells p2 30 [y.1], rows strc y.1 9 1 y.2]) (fun pre y => y.2 = pre) (fun _ _ _ => False) (.slice none 0 0, []) rfl ?_ ?_ ?_
  · rintro pre i post ⟨v, ks⟩ lp rec hp hks hr W' D' K hK
    dsimp only at hks
    subst hks
    have hlen := hp.length_eq
    simp only [List.length_append, List.length_cons, List.length_map] at hlen
    dsimp only [List.cons_append, List.nil_append]
    apply Wp.region
    refine WpL.v (V.as) ?_
    apply WpL.nil
    refine Out.bg (by assumption) ?_
    apply Wp.block
    apply Wp.region
    refine WpL.v (V.ld1 tb) ?_
    refine WpL.v (V.mv) ?_
    refine WpL.o (O.lit tb (fun p10 => ?_))
    refine WpL.o (O.apL tb rfl rfl (by (intro _; repeat first | exact Upd.here _ _ _ | apply Upd.there)) (SrcL.one (f := strc) (a := i) tb (by (repeat first | exact List.Mem.head _ | apply List.Mem.tail)) (fun _ => rfl)) (fun g11 cap11 => ?_))
    refine WpL.o (O.st1 tb ?_)
    apply WpL.nil
    apply Out.blockN
    exact Out.rd hK (.slice (some ⟨g11, 0, none⟩) (ks ++ [i]).length cap11, ks ++ [i]) rfl
  · rintro pre ⟨v, ks⟩ b hks hp
    dsimp only at hks
    subst hks
    dsimp only [List.cons_append, List.nil_append]
    apply Out.blockN
    apply Out.seqN
    apply Wp.seq
    apply Wp.region
    refine WpL.v (V.ld1 tb) ?_
    refine WpL.v (V.as) ?_
    apply WpL.nil
    apply Out.seqN
    apply Wp.ret
    refine Out.e1 rfl ResIs.t ?_
    focus (exact ⟨_, _, ⟨_, ks, hp, rfl, rfl⟩, (by (repeat (first | exact Sel.nil | exact Rem.here | apply Sel.cons | apply Rem.there)))⟩; done)
  · intro _ _ _ _ _ _ h
    exact h.elim
theorem collect (a m : Nat) (l : PM) (hl : l.length ≤ 100000) : Ct Try.prog 62 [.func (.func 64) #[] #[Ptr a 0]] [cells a 72 [.map (some m)], mE m l] (fun r σ' => ∃ v ks, ks.Perm (l.map (·.1)) ∧ r = v ∧ σ' = [cells a 72 [.map (some m)], mE m l, rows strc v 9 1 ks]) := by
  have hA := append_seq a m l hl
  refine Ct.enter Try.func62 rfl rfl fun W => ?_
  apply Wp.seq
  apply Wp.region
  refine WpL.v (V.as) ?_
  apply WpL.nil
  apply Out.seqN
  apply Wp.seq
  apply Wp.region
  refine WpL.v (V.mv) ?_
  refine WpL.o (Op1.callT rfl (hA) (by (repeat (first | exact Sel.nil | exact Rem.here | apply Sel.cons | apply Rem.there))) ?_)
  rintro v1 s2 ⟨v4, ⟨ks4, ⟨hx0, ⟨rfl, rfl⟩⟩⟩⟩
  refine incat ?_
  refine WpL.v (V.as) ?_
  apply WpL.nil
  apply Out.seqN
  apply Wp.ret
  refine Out.e1 rfl ResIs.t ?_
  focus (exact ⟨_, _, ⟨_, _, by assumption, rfl, rfl⟩, (by (repeat (first | exact Sel.nil | exact Rem.here | apply Sel.cons | apply Rem.there)))⟩; done)
theorem sort_perm {l1 l2 : List (List UInt8)} (h : l1.Perm l2) : (l1.mergeSort fun x y => decide (x ≤ y)) = (l2.mergeSort fun x y => decide (x ≤ y)) := by
  have tr : ∀ a b c : List UInt8, decide (a ≤ b) = true → decide (b ≤ c) = true → decide (a ≤ c) = true := by
    intro a b c h1 h2
    simp only [decide_eq_true_eq] at *
    exact List.le_trans h1 h2
  have to : ∀ a b : List UInt8, (decide (a ≤ b) || decide (b ≤ a)) = true := by
    intro a b
    simp only [Bool.or_eq_true, decide_eq_true_eq]
    exact List.le_total a b
  have p : (l1.mergeSort fun x y => decide (x ≤ y)).Perm (l2.mergeSort fun x y => decide (x ≤ y)) := (List.mergeSort_perm _ _).trans (h.trans (List.mergeSort_perm _ _).symm)
  have s1 := List.pairwise_mergeSort (le := fun x y : List UInt8 => decide (x ≤ y)) tr to l1
  have s2 := List.pairwise_mergeSort (le := fun x y : List UInt8 => decide (x ≤ y)) tr to l2
  refine List.Perm.eq_of_pairwise ?_ s1 s2 p
  intro a b _ _ h1 h2
  simp only [decide_eq_true_eq] at *
  exact List.le_antisymm h1 h2
/-- The keys of a map, rising. -/
def skeys (l : PM) : List (List UInt8) := (l.map (·.1)).mergeSort fun x y => decide (x ≤ y)
theorem sorted (a m : Nat) (l : PM) (hl : l.length ≤ 100000) : Ct Try.prog 51 [.func (.func 64) #[] #[Ptr a 0]] [cells a 72 [.map (some m)], mE m l] (fun r σ' => ∃ v, r = v ∧ σ' = [cells a 72 [.map (some m)], mE m l, rows strc v 9 1 (skeys l)]) := by
  have hA := collect a m l hl
  refine Ct.enter Try.func51 rfl rfl fun W => ?_
  apply Wp.seq
  apply Wp.region
  refine WpL.v (V.as) ?_
  apply WpL.nil
  apply Out.seqN
  apply Wp.seq
  apply Wp.region
  refine WpL.v (V.mv) ?_
  refine WpL.o (Op1.callT rfl (hA) (by (repeat (first | exact Sel.nil | exact Rem.here | apply Sel.cons | apply Rem.there))) ?_)
  rintro v1 s2 ⟨v5, ⟨ks5, ⟨hx0, ⟨rfl, rfl⟩⟩⟩⟩
  refine incat ?_
  refine WpL.v (V.as) ?_
  apply WpL.nil
  apply Out.seqN
  have hpm : ks5.Perm (l.map (·.1)) := by assumption
  have hsk : skeys l = ks5.mergeSort fun x y => decide (x ≤ y) := (sort_perm hpm).symm
  have hlen := hpm.length_eq
  rw [List.length_map] at hlen
  rw [hsk]
  refine Wp.fact (rowsForm (List.Mem.tail _ (List.Mem.tail _ (List.Mem.head _)))) fun hform => ?_
  rcases hform with ⟨rfl, rfl⟩ | ⟨g, cp, rfl, _⟩
  · have h0 := sort_texts0 []
    rw [show ([] : List (List UInt8)).mergeSort (fun x y => decide (x ≤ y)) = [] by simp]
    apply Wp.seq
    apply Wp.region
    refine WpL.v (V.mv) ?_
    refine WpL.o (Op1.callT rfl (h0) (by (repeat (first | exact Sel.nil | exact Rem.here | apply Sel.cons | apply Rem.there))) ?_)
    rintro v0 s1 ⟨rfl, rfl⟩
    refine incat ?_
    apply WpL.nil
    apply Out.seqN
    apply Wp.seq
    apply Wp.region
    refine WpL.v (V.mv) ?_
    refine WpL.v (V.as) ?_
    apply WpL.nil
    apply Out.seqN
    apply Wp.ret
    refine Out.e1 rfl ResIs.t ?_
    exact ⟨_, _, ⟨_, rfl, rfl⟩, (by (repeat (first | exact Sel.nil | exact Rem.here | apply Sel.cons | apply Rem.there)))⟩
  · have h0 := sort_texts 9 g cp ks5 (by omega)
    apply Wp.seq
    apply Wp.region
    refine WpL.v (V.mv) ?_
    refine WpL.o (Op1.callT rfl (h0) (by (repeat (first | exact Sel.nil | exact Rem.here | apply Sel.cons | apply Rem.there))) ?_)
    rintro v0 s1 ⟨rfl, rfl⟩
    refine incat ?_
    apply WpL.nil
    apply Out.seqN
    apply Wp.seq
    apply Wp.region
    refine WpL.v (V.mv) ?_
    refine WpL.v (V.as) ?_
    apply WpL.nil
    apply Out.seqN
    apply Wp.ret
    refine Out.e1 rfl ResIs.t ?_
    exact ⟨_, _, ⟨_, rfl, rfl⟩, (by (repeat (first | exact Sel.nil | exact Rem.here | apply Sel.cons | apply Rem.there)))⟩
end Go.Proofs.Ytgihkocnmgkihaa
