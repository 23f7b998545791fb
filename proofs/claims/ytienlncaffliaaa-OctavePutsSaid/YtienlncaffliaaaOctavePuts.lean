/-
  The statement OctavePuts of layer 1: what is put is what the document says; it is given again, item by item, and nothing is left. Proved for every input.
-/
import Derived.Test.YtienlncaffliaaaOct3
namespace Go.Proofs.Ytienlncaffliaaa
open Go.HL
set_option linter.unusedSimpArgs false
set_option linter.unusedVariables false
set_option maxRecDepth 8000
theorem flat_len (xs : List Item) (hn : ∀ x, x ∈ xs → x.N ≤ 9223372036854775807) (hw : ∀ x, x ∈ xs → x.T.length ≤ 140737488351232) : (xs.flatMap itemB).length ≤ 9 * xs.length + sumT xs := by
  induction xs with
  | nil => simp
  | cons x xs ih =>
    have h1 := itemB_len x (hn x (by simp)) (by have := hw x (by simp); omega)
    have h2 := ih (fun y hy => hn y (by simp [hy])) (fun y hy => hw y (by simp [hy]))
    simp only [List.flatMap_cons, List.length_append, List.length_cons, sumT, List.map_cons, List.sum_cons] at *
    omega
theorem rawS_app (t rest : List UInt8) : rawS ⟨t ++ rest, false⟩ (t.length : Int) = (t, ⟨rest, false⟩) := by
  unfold rawS
  rw [if_neg (by simp; omega)]
  simp
theorem textS_app (t rest : List UInt8) (h : t.length ≤ 4096) : textS ⟨natI t.length ++ t ++ rest, false⟩ 4096 = (t, ⟨rest, false⟩) := by
  unfold textS
  rw [List.append_assoc, natS_natI (by omega), if_neg (by omega)]
  exact rawS_app t rest
theorem octavePuts_walk (e : Ent) (ao : Option Go.Addr) (cap b off : Nat) (xs : List Item) (hR : Rd e ao xs.length b off 4 (xs.map Caucuslaw01Item.c)) (hw : ∀ x, x ∈ xs → x.T.length ≤ 140737488351232) (hn : ∀ x, x ∈ xs → x.N ≤ 9223372036854775807) :
    Ct Try.prog 17 [.slice ao xs.length cap] [e] (fun r σ' => r = B true ∧ σ' = [e]) := by
  have hl1 := hR.len
  have hf1 := flat_len xs hn hw
  refine Ct.enter Try.func17 rfl rfl fun W => ?_
  cases hg : greatI xs
  · have hg3 := hg
    simp only [greatI, decide_eq_false_iff_not, not_or, Nat.not_lt] at hg3
    obtain ⟨hs1, hk1⟩ := hg3
    have hG1 := great01 e ao cap b off xs hR hw
    rw [hg] at hG1
    have hP1 := put01 e ao cap b off xs hR hn (by omega) (by omega)
    apply Wp.seq
    apply Wp.region
    refine WpL.v (V.as) ?_
    apply WpL.nil
    apply Out.seqN
    apply Wp.seq
    apply Wp.seq
    apply Wp.region
    refine WpL.o (Op1.fn rfl (alive01) ?_)
    refine WpL.v (V.not) ?_
    apply WpL.nil
    apply Out.seqN
    refine Wp.cF ?_
    apply Wp.skip
    apply Out.seqN
    apply Wp.seq
    apply Wp.seq
    apply Wp.region
    refine WpL.v (V.mv) ?_
    refine WpL.o (Op1.callT rfl (hG1) (by (repeat (first | exact Sel.nil | exact Rem.here | apply Sel.cons | apply Rem.there))) ?_)
    rintro v0 s1 ⟨rfl, rfl⟩
    refine incat ?_
    apply WpL.nil
    apply Out.seqN
    refine Wp.cF ?_
    apply Wp.skip
    apply Out.seqN
    apply Wp.seq
    apply Wp.region
    refine WpL.v (V.mv) ?_
    refine WpL.o (Op1.callT rfl (hP1) (by (repeat (first | exact Sel.nil | exact Rem.here | apply Sel.cons | apply Rem.there))) ?_)
    rintro v2 s3 ⟨rfl, rfl⟩
    refine incat ?_
    refine WpL.v (V.mv) ?_
    refine WpL.v (V.ex) ?_
    refine WpL.v (V.ex) ?_
    refine WpL.v (V.as) ?_
    refine WpL.v (V.as) ?_
    apply WpL.nil
    apply Out.seqN
    apply Wp.seq
    apply Wp.seq
    apply Wp.region
    refine WpL.v (V.mv) ?_
    refine WpL.v (V.mv) ?_
    refine WpL.v (V.cmpS) ?_
    apply WpL.nil
    apply Out.seqN
    refine Wp.c (fun ha4 => ?_) (fun ha4 => ?_)
    (try simp only [decide_eq_true_eq, decide_eq_false_iff_not, Bool.not_eq_true', Bool.not_eq_false', Bool.not_eq_true, Bool.not_eq_false, not_true_eq_false, not_false_eq_true, reduceCtorEq] at ha4)
    (try simp only [decide_eq_true_eq, decide_eq_false_iff_not, Bool.not_eq_true', Bool.not_eq_false', Bool.not_eq_true, Bool.not_eq_false, not_true_eq_false, not_false_eq_true, reduceCtorEq] at ha4)
    apply Wp.skip
    apply Out.seqN
    apply Wp.seq
    apply Wp.region
    refine WpL.v (V.mv) ?_
    refine WpL.o (Op1.callT rfl (srcFrom _) (by (repeat (first | exact Sel.nil | exact Rem.here | apply Sel.cons | apply Rem.there))) ?_)
    rintro v5 s6 ⟨b22, ⟨rfl, rfl⟩⟩
    refine incat ?_
    refine WpL.v (V.as) ?_
    apply WpL.nil
    apply Out.seqN
    apply Wp.seq
    apply Wp.seq
    apply Wp.region
    refine WpL.v (V.mv) ?_
    refine WpL.v (V.lenL tb) ?_
    refine WpL.v (V.mv) ?_
    apply WpL.nil
    apply Out.seqN
    apply Wp.block
    refine Wp.lp [0, 24, 23, 5] (fun k : Nat => k ≤ xs.length) (fun k => [(25, I (k : Int))]) (fun k => [cells b22 99 (OctaveSource.c ⟨(xs.drop k).flatMap itemB, false⟩)]) (fun k => xs.length - k) 0 (by omega) ?_
    intro k hk K hK
    dsimp only [List.cons_append, List.nil_append]
    by_cases hlt : k < xs.length
    · obtain ⟨x, hx⟩ := getS hlt
      have hd : (xs.drop k).flatMap itemB = itemB x ++ (xs.drop (k + 1)).flatMap itemB := by
        rw [List.drop_eq_getElem_cons hlt, List.flatMap_cons]
        congr 2
        simpa [hlt] using hx
      have hlen : ((xs.drop k).flatMap itemB).length ≤ 100000 := by
        have := flat_len (xs.drop k) (fun y hy => hn y (List.mem_of_mem_drop hy)) (fun y hy => hw y (List.mem_of_mem_drop hy))
        have h2 : sumT (xs.drop k) ≤ sumT xs := by
          have h3 : xs.take k ++ xs.drop k = xs := List.take_append_drop k xs
          conv => rhs; rw [← h3]
          unfold sumT
          rw [List.map_append, List.sum_append]
          omega
        rw [List.length_drop] at this; omega
      rw [hd] at hlen ⊢
      have hxm := List.mem_of_getElem? hx
      have hN := hn x hxm
      have hxT : x.T.length ≤ 4096 := by
        have h3 := sumT_take xs (k + 1)
        rw [take_snocS hx, sumT_snoc] at h3
        omega
      obtain ⟨rest, hrest⟩ : ∃ r, (xs.drop (k + 1)).flatMap itemB = r := ⟨_, rfl⟩
      rw [hrest] at hlen hd ⊢
      have hK0 (h : x.Kind = 0) (bb : Nat) : Ct Try.prog 40 [Ptr bb 0, I 9223372036854775807] [cells bb 99 (OctaveSource.c ⟨itemB x ++ rest, false⟩)] (fun r σ' => r = I (x.N.toNat : Int) ∧ σ' = [cells bb 99 (OctaveSource.c ⟨rest, false⟩)]) := by
        have h2 := srcNat bb ⟨itemB x ++ rest, false⟩ 9223372036854775807 (by dsimp only; omega)
        rw [show itemB x = natI x.N by unfold itemB; rw [if_pos h]] at h2 ⊢
        rwa [natS_natI hN, if_neg (by omega)] at h2
      have hK1 (h : x.Kind = 1) (bb : Nat) : Ct Try.prog 44 [Ptr bb 0] [cells bb 99 (OctaveSource.c ⟨itemB x ++ rest, false⟩)] (fun r σ' => r = B x.Yes ∧ σ' = [cells bb 99 (OctaveSource.c ⟨rest, false⟩)]) := by
        have h2 := srcBit bb ⟨itemB x ++ rest, false⟩ (by dsimp only; omega)
        rw [show itemB x = natI (if x.Yes then 1 else 0) by unfold itemB; rw [if_neg (by omega), if_pos h]] at h2 ⊢
        cases hy : x.Yes <;> rw [hy] at h2 <;> simpa [natS_natI] using h2
      have hK2 (h : x.Kind = 2) (bb : Nat) : Ct Try.prog 45 [Ptr bb 0, I 4096] [cells bb 99 (OctaveSource.c ⟨itemB x ++ rest, false⟩)] (fun r σ' => r = S x.T ∧ σ' = [cells bb 99 (OctaveSource.c ⟨rest, false⟩)]) := by
        have h2 := srcText bb ⟨itemB x ++ rest, false⟩ 4096 (by dsimp only; omega)
        rw [show itemB x = natI x.T.length ++ x.T by unfold itemB; rw [if_neg (by omega), if_neg (by omega), if_pos h]] at h2 ⊢
        rwa [textS_app _ _ hxT] at h2
      have hK3 (h : x.Kind = 3) (bb : Nat) : Ct Try.prog 46 [Ptr bb 0, I (x.T.length : Int)] [cells bb 99 (OctaveSource.c ⟨itemB x ++ rest, false⟩)] (fun r σ' => r = S x.T ∧ σ' = [cells bb 99 (OctaveSource.c ⟨rest, false⟩)]) := by
        have h2 := srcRaw bb ⟨itemB x ++ rest, false⟩ x.T.length (by dsimp only; omega)
        rw [show itemB x = x.T by unfold itemB; rw [if_neg (by omega), if_neg (by omega), if_neg (by omega), if_pos h]] at h2 ⊢
        rwa [rawS_app] at h2
      apply Wp.seq
      apply Wp.region
      refine WpL.v (V.cmp) ?_
      apply WpL.nil
      apply Out.seqN
      apply Wp.seq
      refine Wp.c (fun hd0 => ?_) (fun hd0 => ?_)
      (try simp only [decide_eq_true_eq, decide_eq_false_iff_not, Bool.not_eq_true', Bool.not_eq_false', Bool.not_eq_true, Bool.not_eq_false, not_true_eq_false, not_false_eq_true, reduceCtorEq] at hd0)
      apply Wp.skip
      apply Out.seqN
      apply Wp.seq
      apply Wp.block
      apply Wp.seq
      apply Wp.region
      refine WpL.v (V.ixR tb rfl rfl (by assumption)) ?_
      refine WpL.v (V.ldRA tb rfl (by assumption) (getMapS (by assumption))) ?_
      refine WpL.o (O.al tb (fun p7 => ?_))
      refine WpL.o (O.stA tb ?_)
      apply WpL.nil
      apply Out.seqN
      apply Wp.seq
      apply Wp.region
      refine WpL.v (V.as) ?_
      apply WpL.nil
      apply Out.seqN
      apply Wp.seq
      apply Wp.seq
      apply Wp.region
      refine WpL.v (V.fa tb) ?_
      refine WpL.v (V.ld1 tb) ?_
      apply WpL.nil
      apply Out.seqN
      apply Wp.block
      apply Wp.seq
      apply Wp.region
      refine WpL.v (V.cmp) ?_
      refine WpL.v (V.as) ?_
      apply WpL.nil
      apply Out.seqN
      refine Wp.c (fun hd1 => ?_) (fun hd1 => ?_)
      (try simp only [decide_eq_true_eq, decide_eq_false_iff_not, Bool.not_eq_true', Bool.not_eq_false', Bool.not_eq_true, Bool.not_eq_false, not_true_eq_false, not_false_eq_true, reduceCtorEq] at hd1)
      refine Wp.dG [] ?_ (List.Sublist.cons_cons _ (List.Sublist.cons _ (List.Sublist.cons_cons _ List.Sublist.slnil)))
      refine WpA.t 0 rfl (V.mv) ?_
      refine WpA.t 2 rfl (V.fa tb) ?_
      refine WpA.t 3 rfl (V.ld1 tb) ?_
      refine WpA.t 4 rfl (V.max) ?_
      refine WpA.oS 1 rfl (Op1.callT rfl (hK0 ?_ _) (by (repeat (first | exact Sel.nil | exact Rem.here | apply Sel.cons | apply Rem.there))) ?_)
      (first | with_reducible assumption | omega | (simp only [List.length_append, List.length_cons, List.length_nil, List.length_map] at *; omega) | (focus (simp; done)))
      rintro v2 s3 ⟨rfl, rfl⟩
      refine incat ⟨?_, ?_⟩
      exact holdT
      refine WpA.t 5 rfl (V.cmp) ?_
      refine WpA.t 6 rfl (V.as) ?_
      refine WpA.ou ?_
      apply Out.blockN
      apply Out.seqN
      apply Wp.seq
      apply Wp.region
      refine WpL.v (V.mv) ?_
      refine WpL.v (V.not) ?_
      apply WpL.nil
      apply Out.seqN
      refine Wp.c (fun hd4 => ?_) (fun hd4 => ?_)
      (try simp only [decide_eq_true_eq, decide_eq_false_iff_not, Bool.not_eq_true', Bool.not_eq_false', Bool.not_eq_true, Bool.not_eq_false, not_true_eq_false, not_false_eq_true, reduceCtorEq] at hd4)
      (exfalso; omega)
      (try simp only [decide_eq_true_eq, decide_eq_false_iff_not, Bool.not_eq_true', Bool.not_eq_false', Bool.not_eq_true, Bool.not_eq_false, not_true_eq_false, not_false_eq_true, reduceCtorEq] at hd4)
      apply Wp.skip
      apply Out.blockN
      apply Out.seqN
      apply Wp.region
      refine WpL.v (V.add) ?_
      refine WpL.v (V.mv) ?_
      apply WpL.nil
      rotate_left
      (try simp only [decide_eq_true_eq, decide_eq_false_iff_not, Bool.not_eq_true', Bool.not_eq_false', Bool.not_eq_true, Bool.not_eq_false, not_true_eq_false, not_false_eq_true, reduceCtorEq] at hd1)
      apply Wp.seq
      apply Wp.region
      refine WpL.v (V.cmp) ?_
      refine WpL.v (V.as) ?_
      apply WpL.nil
      apply Out.seqN
      refine Wp.c (fun hd5 => ?_) (fun hd5 => ?_)
      (try simp only [decide_eq_true_eq, decide_eq_false_iff_not, Bool.not_eq_true', Bool.not_eq_false', Bool.not_eq_true, Bool.not_eq_false, not_true_eq_false, not_false_eq_true, reduceCtorEq] at hd5)
      refine Wp.dG [] ?_ (List.Sublist.cons_cons _ (List.Sublist.cons _ (List.Sublist.cons_cons _ List.Sublist.slnil)))
      refine WpA.t 0 rfl (V.mv) ?_
      refine WpA.t 2 rfl (V.fa tb) ?_
      refine WpA.t 3 rfl (V.ld1 tb) ?_
      refine WpA.oS 1 rfl (Op1.callT rfl (hK1 ?_ _) (by (repeat (first | exact Sel.nil | exact Rem.here | apply Sel.cons | apply Rem.there))) ?_)
      (first | with_reducible assumption | omega | (simp only [List.length_append, List.length_cons, List.length_nil, List.length_map] at *; omega) | (focus (simp; done)))
      rintro v6 s7 ⟨rfl, rfl⟩
      refine incat ⟨?_, ?_⟩
      exact holdT
      refine WpA.t 4 rfl (V.eqB tb) ?_
      refine WpA.t 5 rfl (V.as) ?_
      refine WpA.ou ?_
      apply Out.blockN
      apply Out.seqN
      apply Wp.seq
      apply Wp.region
      refine WpL.v (V.mv) ?_
      refine WpL.v (V.not) ?_
      apply WpL.nil
      apply Out.seqN
      refine Wp.c (fun hd8 => ?_) (fun hd8 => ?_)
      (try simp only [decide_eq_true_eq, decide_eq_false_iff_not, Bool.not_eq_true', Bool.not_eq_false', Bool.not_eq_true, Bool.not_eq_false, not_true_eq_false, not_false_eq_true, reduceCtorEq] at hd8)
      apply Wp.seq
      apply Wp.region
      refine WpL.v (V.as) ?_
      apply WpL.nil
      apply Out.seqN
      apply Wp.ret
      apply Out.blockR
      apply Out.seqR
      apply Out.seqR
      apply Out.blockR
      apply Out.seqR
      refine Out.f1 rfl ResIs.t ⟨?_, rfl⟩
      rotate_left
      (try simp only [decide_eq_true_eq, decide_eq_false_iff_not, Bool.not_eq_true', Bool.not_eq_false', Bool.not_eq_true, Bool.not_eq_false, not_true_eq_false, not_false_eq_true, reduceCtorEq] at hd8)
      apply Wp.skip
      apply Out.blockN
      apply Out.seqN
      apply Wp.region
      refine WpL.v (V.add) ?_
      refine WpL.v (V.mv) ?_
      apply WpL.nil
      rotate_left
      (try simp only [decide_eq_true_eq, decide_eq_false_iff_not, Bool.not_eq_true', Bool.not_eq_false', Bool.not_eq_true, Bool.not_eq_false, not_true_eq_false, not_false_eq_true, reduceCtorEq] at hd5)
      apply Wp.seq
      apply Wp.region
      refine WpL.v (V.cmp) ?_
      refine WpL.v (V.as) ?_
      apply WpL.nil
      apply Out.seqN
      refine Wp.c (fun hd9 => ?_) (fun hd9 => ?_)
      (try simp only [decide_eq_true_eq, decide_eq_false_iff_not, Bool.not_eq_true', Bool.not_eq_false', Bool.not_eq_true, Bool.not_eq_false, not_true_eq_false, not_false_eq_true, reduceCtorEq] at hd9)
      refine Wp.dG [] ?_ (List.Sublist.cons_cons _ (List.Sublist.cons _ (List.Sublist.cons_cons _ List.Sublist.slnil)))
      refine WpA.t 0 rfl (V.mv) ?_
      refine WpA.t 2 rfl (V.fa tb) ?_
      refine WpA.t 3 rfl (V.ld1 tb) ?_
      refine WpA.oS 1 rfl (Op1.callT rfl (hK2 ?_ _) (by (repeat (first | exact Sel.nil | exact Rem.here | apply Sel.cons | apply Rem.there))) ?_)
      (first | with_reducible assumption | omega | (simp only [List.length_append, List.length_cons, List.length_nil, List.length_map] at *; omega) | (focus (simp; done)))
      rintro v10 s11 ⟨rfl, rfl⟩
      refine incat ⟨?_, ?_⟩
      exact holdT
      refine WpA.t 4 rfl (V.cmpS) ?_
      refine WpA.t 5 rfl (V.as) ?_
      refine WpA.ou ?_
      apply Out.blockN
      apply Out.seqN
      apply Wp.seq
      apply Wp.region
      refine WpL.v (V.mv) ?_
      refine WpL.v (V.not) ?_
      apply WpL.nil
      apply Out.seqN
      refine Wp.c (fun hd12 => ?_) (fun hd12 => ?_)
      (try simp only [decide_eq_true_eq, decide_eq_false_iff_not, Bool.not_eq_true', Bool.not_eq_false', Bool.not_eq_true, Bool.not_eq_false, not_true_eq_false, not_false_eq_true, reduceCtorEq] at hd12)
      (try simp only [decide_eq_true_eq, decide_eq_false_iff_not, Bool.not_eq_true', Bool.not_eq_false', Bool.not_eq_true, Bool.not_eq_false, not_true_eq_false, not_false_eq_true, reduceCtorEq] at hd12)
      apply Wp.skip
      apply Out.blockN
      apply Out.seqN
      apply Wp.region
      refine WpL.v (V.add) ?_
      refine WpL.v (V.mv) ?_
      apply WpL.nil
      rotate_left
      (try simp only [decide_eq_true_eq, decide_eq_false_iff_not, Bool.not_eq_true', Bool.not_eq_false', Bool.not_eq_true, Bool.not_eq_false, not_true_eq_false, not_false_eq_true, reduceCtorEq] at hd9)
      apply Wp.seq
      apply Wp.region
      refine WpL.v (V.cmp) ?_
      refine WpL.v (V.as) ?_
      apply WpL.nil
      apply Out.seqN
      refine Wp.c (fun hd13 => ?_) (fun hd13 => ?_)
      (try simp only [decide_eq_true_eq, decide_eq_false_iff_not, Bool.not_eq_true', Bool.not_eq_false', Bool.not_eq_true, Bool.not_eq_false, not_true_eq_false, not_false_eq_true, reduceCtorEq] at hd13)
      refine Wp.dG [] ?_ (List.Sublist.cons_cons _ (List.Sublist.cons _ (List.Sublist.cons_cons _ List.Sublist.slnil)))
      refine WpA.t 0 rfl (V.mv) ?_
      refine WpA.t 1 rfl (V.fa tb) ?_
      refine WpA.t 2 rfl (V.ld1 tb) ?_
      refine WpA.t 3 rfl (V.lenS tb) ?_
      refine WpA.t 5 rfl (V.fa tb) ?_
      refine WpA.t 6 rfl (V.ld1 tb) ?_
      refine WpA.oS 4 rfl (Op1.callT rfl (hK3 ?_ _) (by (repeat (first | exact Sel.nil | exact Rem.here | apply Sel.cons | apply Rem.there))) ?_)
      (first | with_reducible assumption | omega | (simp only [List.length_append, List.length_cons, List.length_nil, List.length_map] at *; omega) | (focus (simp; done)))
      rintro v14 s15 ⟨rfl, rfl⟩
      refine incat ⟨?_, ?_⟩
      exact holdT
      refine WpA.t 7 rfl (V.cmpS) ?_
      refine WpA.t 8 rfl (V.as) ?_
      refine WpA.ou ?_
      apply Out.blockN
      apply Out.seqN
      apply Wp.seq
      apply Wp.region
      refine WpL.v (V.mv) ?_
      refine WpL.v (V.not) ?_
      apply WpL.nil
      apply Out.seqN
      refine Wp.c (fun hd16 => ?_) (fun hd16 => ?_)
      (try simp only [decide_eq_true_eq, decide_eq_false_iff_not, Bool.not_eq_true', Bool.not_eq_false', Bool.not_eq_true, Bool.not_eq_false, not_true_eq_false, not_false_eq_true, reduceCtorEq] at hd16)
      (try simp only [decide_eq_true_eq, decide_eq_false_iff_not, Bool.not_eq_true', Bool.not_eq_false', Bool.not_eq_true, Bool.not_eq_false, not_true_eq_false, not_false_eq_true, reduceCtorEq] at hd16)
      apply Wp.skip
      apply Out.blockN
      apply Out.seqN
      apply Wp.region
      refine WpL.v (V.add) ?_
      refine WpL.v (V.mv) ?_
      apply WpL.nil
      rotate_left
      (try simp only [decide_eq_true_eq, decide_eq_false_iff_not, Bool.not_eq_true', Bool.not_eq_false', Bool.not_eq_true, Bool.not_eq_false, not_true_eq_false, not_false_eq_true, reduceCtorEq] at hd13)
      apply Wp.skip
      apply Out.blockN
      apply Out.seqN
      apply Wp.seq
      apply Wp.region
      refine WpL.v (V.mv) ?_
      refine WpL.v (V.not) ?_
      apply WpL.nil
      apply Out.seqN
      refine Wp.cF ?_
      apply Wp.skip
      apply Out.blockN
      apply Out.seqN
      apply Wp.region
      refine WpL.v (V.add) ?_
      refine WpL.v (V.mv) ?_
      apply WpL.nil
      rotate_left
      (try simp only [decide_eq_true_eq, decide_eq_false_iff_not, Bool.not_eq_true', Bool.not_eq_false', Bool.not_eq_true, Bool.not_eq_false, not_true_eq_false, not_false_eq_true, reduceCtorEq] at hd0)
      (exfalso; omega)
      all_goals first
        | (rw [← hrest]; exact Out.ag hK (k + 1) (by omega) (by omega))
        | (rw [show itemB x = [] by unfold itemB; rw [if_neg (by omega), if_neg (by omega), if_neg (by omega), if_neg (by omega)], List.nil_append, ← hrest]; exact Out.ag hK (k + 1) (by omega) (by omega))
        | (exfalso; simp_all; done)
        | (exfalso; omega)
    · obtain rfl : k = xs.length := by omega
      rw [List.drop_length]
      apply Wp.seq
      apply Wp.region
      refine WpL.v (V.cmp) ?_
      apply WpL.nil
      apply Out.seqN
      apply Wp.seq
      refine Wp.c (fun hc0 => ?_) (fun hc0 => ?_)
      (try simp only [decide_eq_true_eq, decide_eq_false_iff_not, Bool.not_eq_true', Bool.not_eq_false', Bool.not_eq_true, Bool.not_eq_false, not_true_eq_false, not_false_eq_true, reduceCtorEq] at hc0)
      (exfalso; omega)
      (try simp only [decide_eq_true_eq, decide_eq_false_iff_not, Bool.not_eq_true', Bool.not_eq_false', Bool.not_eq_true, Bool.not_eq_false, not_true_eq_false, not_false_eq_true, reduceCtorEq] at hc0)
      apply Wp.exit
      apply Out.seqE
      apply Out.seqE
      apply Out.blockE
      apply Out.seqN
      apply Wp.seq
      apply Wp.region
      refine WpL.v (V.mv) ?_
      refine WpL.o (Op1.callT rfl (srcOver _ _) (by (repeat (first | exact Sel.nil | exact Rem.here | apply Sel.cons | apply Rem.there))) ?_)
      rintro v1 s2 ⟨rfl, rfl⟩
      refine incat ?_
      refine WpL.v (V.mv) ?_
      refine WpL.v (V.mv) ?_
      refine WpL.o (Op1.callT rfl (srcDry _ _) (by (repeat (first | exact Sel.nil | exact Rem.here | apply Sel.cons | apply Rem.there))) ?_)
      rintro v3 s4 ⟨rfl, rfl⟩
      refine incat ?_
      refine WpL.v (V.not) ?_
      refine WpL.v (V.pT) ?_
      refine WpL.v (V.mv) ?_
      refine WpL.v (V.mv) ?_
      refine WpL.o (Op1.callT rfl (srcLeft _ _) (by (repeat (first | exact Sel.nil | exact Rem.here | apply Sel.cons | apply Rem.there))) ?_)
      rintro v5 s6 ⟨rfl, rfl⟩
      refine incat ?_
      refine WpL.v (V.cmp) ?_
      refine WpL.v (V.pT) ?_
      refine WpL.v (V.as) ?_
      apply WpL.nil
      apply Out.seqN
      apply Wp.ret
      refine Out.f1 rfl ResIs.t ⟨?_, rfl⟩
      exact rfl
  · apply Wp.seq
    apply Wp.region
    refine WpL.v (V.as) ?_
    apply WpL.nil
    apply Out.seqN
    apply Wp.seq
    apply Wp.seq
    apply Wp.region
    refine WpL.o (Op1.fn rfl (alive01) ?_)
    refine WpL.v (V.not) ?_
    apply WpL.nil
    apply Out.seqN
    refine Wp.cF ?_
    apply Wp.skip
    apply Out.seqN
    apply Wp.seq
    apply Wp.seq
    apply Wp.region
    refine WpL.v (V.mv) ?_
    refine WpL.o (Op1.callT rfl (great01 e ao cap b off xs hR hw) (by (repeat (first | exact Sel.nil | exact Rem.here | apply Sel.cons | apply Rem.there))) ?_)
    rintro v0 s1 ⟨rfl, rfl⟩
    refine incat ?_
    apply WpL.nil
    apply Out.seqN
    refine Wp.c (fun hb2 => ?_) (fun hb2 => ?_)
    (try simp only [decide_eq_true_eq, decide_eq_false_iff_not, Bool.not_eq_true', Bool.not_eq_false', Bool.not_eq_true, Bool.not_eq_false, not_true_eq_false, not_false_eq_true, reduceCtorEq] at hb2)
    apply Wp.seq
    apply Wp.region
    refine WpL.v (V.as) ?_
    apply WpL.nil
    apply Out.seqN
    apply Wp.ret
    apply Out.seqR
    refine Out.f1 rfl ResIs.t ⟨?_, rfl⟩
    exact rfl
    (try simp only [decide_eq_true_eq, decide_eq_false_iff_not, Bool.not_eq_true', Bool.not_eq_false', Bool.not_eq_true, Bool.not_eq_false, not_true_eq_false, not_false_eq_true, reduceCtorEq] at hb2)
    apply Wp.skip
    apply Out.seqN
    apply Wp.seq
    apply Wp.region
    refine WpL.v (V.mv) ?_
    simp_all
open Go Go.ChangeShapes Go.WideShapes Go.ChangeAt Go.RowKit
theorem octavePuts_read : (Try.f17.params.toList.all fun t => Try.prog.readableRec t && decide (t < Try.prog.types.size)) = true := by kernel_rfl
theorem octavePuts_lifted (os : Go.Os) (started : os.Started) (H : Type) (enc : Go.TypeId × Go.Value → H) :
    ReturnsInHanded {} Try.checked os 17 .any (Rows.octavePutsSpec.pre6 enc Try.prog Try.f17 Rows.octavePutsRow.domain false) (Rows.octavePutsSpec.post enc Try.prog Try.f17 false true false false) := by
  refine returnsInHanded_of_change_sized (C := Try.checked) own started (by kernel_rfl) Try.func17
    (ChangeSpec.witness6 (enc := enc) (C := Try.checked) false ⟨#[], #[.slice none 0 0], []⟩ 8 (by kernel_rfl) (by kernel_rfl) (by kernel_rfl) (by kernel_rfl)) ?_
  intro W base args ds gs before hval0 hW hcnd hsz0 _
  have hsz : (DataW.weightsEach Try.prog (Try.f17.params.toList ++ Rows.octavePutsSpec.plain.varTypes Try.prog) (ds ++ gs)).all (· ≤ reachBytes) = true := hsz0
  have hval : ∀ (j : Nat) t v, Try.f17.params[j]? = some t → args[j]? = some v → Value.okWide Try.prog W .any base t v := hval0
  have hW' := hW
  obtain ⟨p, q, hA0, hV, rfl, hfz, hnd⟩ := hW
  have hA1 : DataW.TrodAll enc Try.prog W 0 (fun _ => true) true Try.f17.params.toList args.toList ds p := hA0
  have hA := hA1
  rw [Try.params17] at hA hval hsz
  obtain ⟨v0, vs0, d0, ds0, p0, q0, hargs, rfl, rfl, h0, r0⟩ := trodAll_cons hA
  obtain ⟨rfl, rfl, rfl⟩ := trodAll_nil r0
  obtain rfl : args = #[v0] := by cases args; simp_all
  obtain ⟨rfl, rfl⟩ := trodVars_none hV
  obtain ⟨ao0, b0, off0, len0, cap0, xs0, rfl, hl0, hlc0, hcm0, ha0, hs0, hf0, hby0⟩ := open_slice_plain Try.underlying30 Caucuslaw01Item.leaves (by kernel_rfl) (by decide) (hval 0 30 v0 rfl rfl) h0 (sizedAll hsz 0 rfl rfl)
  obtain ⟨x0, rfl, w0⟩ := fits_map Caucuslaw01Item.c Caucuslaw01Item.wf hf0 Caucuslaw01Item.fit
  obtain rfl : len0 = x0.length := by simpa using hl0.symm
  simp only [List.append_nil] at hW' hA1
  have hbl : ∀ p : Nat × Nat, p ∈ [(x0.length, b0)] → 0 < p.1 → p.2 < W.heap.size := by
    intro p hp h0
    simp only [List.mem_cons, List.mem_nil_iff, or_false] at hp
    rcases hp with rfl
    · exact (ha0 h0).2
  have hR0 : Rd (snap W (blocksOf [(x0.length, b0)])) ao0 x0.length b0 off0 4 (x0.map Caucuslaw01Item.c) := Rd.snap (by simp) (Nat.le_trans hlc0 hcm0) ha0 hs0 (fun h => blocksOf_mem (len := x0.length) (by simp) h)
  refine (Ct.runSnap (blocksOf_nodup _) (blocksOf_lt hbl) (octavePuts_walk _ _ _ _ _ x0 hR0 (fun x hx => (w0 x hx).2.2) (fun x hx => (In.i64 (w0 x hx).2.1).2))).mono fun e W' hh => ?_
  obtain ⟨rfl, hS⟩ := hh
  exact ⟨_, rfl, post_law (P := Try.prog) (f := Try.f17) (tbool := 4) hW' hA1 rfl rfl hS laid octavePuts_read rfl Try.underlying4⟩
theorem octavePuts_over : Rows.octavePutsRow.holds Try.pinned (OpenSpec.ofChange Rows.octavePutsSpec) :=
  OpenClaim.holds_of_wide 17 Try.f17 rfl rfl rfl rfl rfl rfl rfl ⟨rfl, rfl, rfl, rfl, rfl⟩ rfl rfl rfl rfl rfl (by kernel_rfl) Try.func17 (by kernel_rfl)
    (of_decide_eq_true (by kernel_rfl)) (by unfold Func.isWrapper; first | (rw [if_pos (by decide +kernel)]; kernel_rfl) | (rw [if_neg (by decide +kernel)]; exact ⟨rfl, rfl⟩))
    (fun os started H enc _ => octavePuts_lifted os started H enc)
/-- THE STATEMENT. -/
theorem octavePuts_proved : Rows.OctavePutsSaid := octavePuts_over
#print axioms octavePuts_proved

end Go.Proofs.Ytienlncaffliaaa
