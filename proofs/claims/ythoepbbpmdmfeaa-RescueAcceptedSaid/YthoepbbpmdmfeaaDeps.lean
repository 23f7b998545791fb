/-
  Layer 5: rows of dependences, walked.
-/
import Derived.Test.YthoepbbpmdmfeaaBal
namespace Go.Proofs.Ythoepbbpmdmfeaa
open Go.HL
set_option linter.unusedSimpArgs false
set_option linter.unusedVariables false
set_option maxRecDepth 8000
def TDeps.l (x : TDeps) : List Int := [x.e0, x.e1, x.e2, x.e3, x.e4, x.e5, x.e6]
def depsC (l : List Int) : List Go.Value := l.map fun n => I n
theorem TDeps.c_l (x : TDeps) : x.c = depsC x.l := rfl
def mx (a b : TDeps) : TDeps := ⟨Max.max a.e0 b.e0, Max.max a.e1 b.e1, Max.max a.e2 b.e2, Max.max a.e3 b.e3, Max.max a.e4 b.e4, Max.max a.e5 b.e5, Max.max a.e6 b.e6⟩
def mxk (a b : TDeps) (k : Nat) : List Int := (mx a b).l.take k ++ a.l.drop k
theorem TDeps.len_l (a : TDeps) : a.l.length = 7 := rfl
theorem mxk_len (a b : TDeps) (k : Nat) : (mxk a b k).length = 7 := by
  unfold mxk; rw [List.length_append, List.length_take, List.length_drop, TDeps.len_l, TDeps.len_l]; omega
theorem mxk_all (a b : TDeps) : mxk a b 7 = (mx a b).l := rfl
theorem mxk_zero (a b : TDeps) : mxk a b 0 = a.l := rfl
theorem mx_get (a b : TDeps) {k : Nat} (hk : k < 7) : ∃ x y, a.l[k]? = some x ∧ b.l[k]? = some y ∧ (mx a b).l[k]? = some (Max.max x y) := by
  rcases (by omega : k = 0 ∨ k = 1 ∨ k = 2 ∨ k = 3 ∨ k = 4 ∨ k = 5 ∨ k = 6) with h | h | h | h | h | h | h <;> subst h <;> exact ⟨_, _, rfl, rfl, rfl⟩
theorem mxk_get (a b : TDeps) {k : Nat} (hk : k < 7) : (mxk a b k)[k]? = a.l[k]? := by
  unfold mxk
  rw [List.getElem?_append_right (by rw [List.length_take, TDeps.len_l]; omega), List.length_take, TDeps.len_l, List.getElem?_drop]
  congr 1; omega
theorem mxk_set (a b : TDeps) {k : Nat} {v : Int} (hk : k < 7) (hv : (mx a b).l[k]? = some v) : (mxk a b k).set k v = mxk a b (k + 1) := by
  unfold mxk
  rw [List.set_append, if_neg (by rw [List.length_take, TDeps.len_l]; omega), List.take_add_one, hv, List.length_take, TDeps.len_l]
  rw [show k - Min.min k 7 = 0 by omega]
  have :  a.l.drop k = a.l[k]'(by rw [TDeps.len_l]; exact hk) :: a.l.drop (k + 1) := List.drop_eq_getElem_cons _
  rw [this, List.set_cons_zero]
  simp
theorem depsC_get {l : List Int} {k : Nat} {x : Int} (h : l[k]? = some x) : (depsC l)[0 + k * 1]? = some (I x) := by
  rw [Nat.mul_one, Nat.zero_add, depsC, List.getElem?_map, h]; rfl
theorem depsC_set {l : List Int} {k : Nat} {x : Int} (h : k < l.length) : SplOf (0 + k * 1) [I x] (depsC l) (depsC (l.set k x)) := ⟨by
  rw [Nat.mul_one, Nat.zero_add, splice, depsC, depsC, List.map_set, List.set_eq_take_append_cons_drop, if_pos (by simpa using h)]
  simp⟩
theorem depsC_blt {l : List Int} {k : Nat} (h : k < l.length) : Nat.blt (0 + k * 1) (depsC l).length = true := by rw [Nat.blt_eq, depsC, List.length_map]; omega
def joins (xs : List TDeps) : TDeps := xs.foldl mx TDeps.z
theorem joins_snoc (xs : List TDeps) (x : TDeps) : joins (xs ++ [x]) = mx (joins xs) x := by simp [joins]
theorem deps_join (e : Ent) (ao : Option Go.Addr) (cap b off : Nat) (xs : List TDeps) (hR : Rd e ao xs.length b off 7 (xs.map TDeps.c)) :
    Ct Try.prog 108 [.slice ao xs.length cap] [e] (fun r σ' => r = A (joins xs).c ∧ σ' = [e]) := by
  have hm := hR.small
  simp only [Go.maxLen] at hm
  refine Ct.enter Try.func108 rfl rfl fun W => ?_
  apply Wp.seq
  apply Wp.region
  refine WpL.o (O.al tb (fun p2 => ?_))
  apply WpL.nil
  apply Out.seqN
  apply Wp.seq
  apply Wp.region
  refine WpL.o (O.al tb (fun p3 => ?_))
  apply WpL.nil
  apply Out.seqN
  apply Wp.seq
  apply Wp.seq
  apply Wp.region
  refine WpL.v (V.mv) ?_
  refine WpL.v (V.lenL tb) ?_
  refine WpL.v (V.mv) ?_
  apply WpL.nil
  apply Out.seqN
  apply Wp.block
  refine Wp.lp [9, 8, 3, 2] (fun y : Nat => y ≤ xs.length) (fun y => [(10, I (y : Int))]) (fun y => [cells p3 31 (joins (xs.take y)).c]) (fun y => xs.length - y) 0 (Nat.zero_le _) ?_
  rintro i hi K hK
  dsimp only [List.cons_append, List.nil_append]
  by_cases hlt : i < xs.length
  · obtain ⟨x, hx⟩ := getS hlt
    have e1 := take_snocS hx
    have e2 : joins (xs.take (i + 1)) = mx (joins (xs.take i)) x := by rw [e1, joins_snoc]
    generalize joins (xs.take i) = a at *
    apply Wp.seq
    apply Wp.region
    refine WpL.v (V.cmp) ?_
    apply WpL.nil
    apply Out.seqN
    apply Wp.seq
    refine Wp.c (fun hj10 => ?_) (fun hj10 => ?_)
    (try simp only [decide_eq_true_eq, decide_eq_false_iff_not, Bool.not_eq_true', Bool.not_eq_false', Bool.not_eq_true, Bool.not_eq_false, not_true_eq_false, not_false_eq_true, reduceCtorEq] at hj10)
    apply Wp.skip
    apply Out.seqN
    apply Wp.seq
    apply Wp.block
    apply Wp.seq
    apply Wp.region
    refine WpL.v (V.ixR tb rfl rfl (by assumption)) ?_
    refine WpL.v (V.ldRA tb rfl (by assumption) (getMapS (by assumption))) ?_
    refine WpL.o (O.al tb (fun p5 => ?_))
    refine WpL.o (O.stA tb ?_)
    apply WpL.nil
    apply Out.seqN
    apply Wp.seq
    apply Wp.region
    refine WpL.v (V.ldA tb) ?_
    refine WpL.v (V.mv) ?_
    apply WpL.nil
    apply Out.seqN
    apply Wp.block
    rotate_left
    (try simp only [decide_eq_true_eq, decide_eq_false_iff_not, Bool.not_eq_true', Bool.not_eq_false', Bool.not_eq_true, Bool.not_eq_false, not_true_eq_false, not_false_eq_true, reduceCtorEq] at hj10)
    (exfalso; omega)
    refine Wp.lp [14, 10, 9, 8, 3, 2] (fun k : Nat => k ≤ 7) (fun k => [(15, I (k : Int))]) (fun k => [cells p3 31 (depsC (mxk a x k))]) (fun k => 7 - k) 0 (Nat.zero_le _) ?_
    intro k hk K2 hK2
    dsimp only [List.cons_append, List.nil_append]
    by_cases hk7 : k < 7
    · obtain ⟨u, v, hu, hv, huv⟩ := mx_get a x hk7
      have hu' : (mxk a x k)[k]? = some u := by rw [mxk_get a x hk7, hu]
      have hl := mxk_len a x k
      have hx' : x.c[k]? = some (I v) := by rw [TDeps.c_l, depsC, List.getElem?_map, hv]; rfl
      apply Wp.seq
      apply Wp.region
      refine WpL.v (V.cmp) ?_
      apply WpL.nil
      apply Out.seqN
      apply Wp.seq
      refine Wp.c (fun hj20 => ?_) (fun hj20 => ?_)
      (try simp only [decide_eq_true_eq, decide_eq_false_iff_not, Bool.not_eq_true', Bool.not_eq_false', Bool.not_eq_true, Bool.not_eq_false, not_true_eq_false, not_false_eq_true, reduceCtorEq] at hj20)
      apply Wp.skip
      apply Out.seqN
      apply Wp.seq
      apply Wp.block
      apply Wp.seq
      apply Wp.region
      refine WpL.v (V.mv) ?_
      refine WpL.v (V.ixAgg tb rfl rfl hx' hk7) ?_
      refine WpL.v (V.as) ?_
      refine WpL.v (V.as) ?_
      apply WpL.nil
      apply Out.seqN
      apply Wp.region
      refine WpL.v (V.mv) ?_
      refine WpL.v (V.mv) ?_
      refine WpL.v (V.ixA2 tb (k := k) rfl rfl rfl) ?_
      refine WpL.v (V.ld1 tb (hr := depsC_get hu')) ?_
      refine WpL.v (V.mv) ?_
      refine WpL.v (V.max) ?_
      refine WpL.v (V.ixA2 tb (k := k) rfl rfl rfl) ?_
      refine WpL.o (O.st1 tb ?_ (hl := depsC_blt (by omega)) (hs := depsC_set (by omega)))
      apply WpL.nil
      apply Out.blockN
      apply Out.seqN
      apply Wp.region
      refine WpL.v (V.add) ?_
      refine WpL.v (V.mv) ?_
      apply WpL.nil
      rotate_left
      (try simp only [decide_eq_true_eq, decide_eq_false_iff_not, Bool.not_eq_true', Bool.not_eq_false', Bool.not_eq_true, Bool.not_eq_false, not_true_eq_false, not_false_eq_true, reduceCtorEq] at hj20)
      (exfalso; omega)
      exact Out.ag hK2 (k + 1) (by omega) (by show 7 - (k + 1) < 7 - k; omega) (hs := by rw [← mxk_set a x hk7 huv]; (repeat (first | exact Sel.nil | exact Rem.here | apply Sel.cons | apply Rem.there)))
    · obtain rfl : k = 7 := by omega
      rw [mxk_all]
      apply Wp.seq
      apply Wp.region
      refine WpL.v (V.cmp) ?_
      apply WpL.nil
      apply Out.seqN
      apply Wp.seq
      refine Wp.cF ?_
      apply Wp.exit
      apply Out.seqE
      apply Out.seqE
      apply Out.blockE
      apply Out.blockN
      apply Out.seqN
      apply Wp.region
      refine WpL.v (V.add) ?_
      refine WpL.v (V.mv) ?_
      apply WpL.nil
      exact Out.ag hK (i + 1) (by show i + 1 ≤ _; omega) (by show xs.length - (i + 1) < xs.length - i; omega) (hs := by rw [e2, TDeps.c_l (mx a x)]; (repeat (first | exact Sel.nil | exact Rem.here | apply Sel.cons | apply Rem.there)))
  · obtain rfl : i = xs.length := by omega
    rw [List.take_length]
    clear hK
    apply Wp.seq
    apply Wp.region
    refine WpL.v (V.cmp) ?_
    apply WpL.nil
    apply Out.seqN
    apply Wp.seq
    refine Wp.c (fun hj90 => ?_) (fun hj90 => ?_)
    (try simp only [decide_eq_true_eq, decide_eq_false_iff_not, Bool.not_eq_true', Bool.not_eq_false', Bool.not_eq_true, Bool.not_eq_false, not_true_eq_false, not_false_eq_true, reduceCtorEq] at hj90)
    (exfalso; omega)
    (try simp only [decide_eq_true_eq, decide_eq_false_iff_not, Bool.not_eq_true', Bool.not_eq_false', Bool.not_eq_true, Bool.not_eq_false, not_true_eq_false, not_false_eq_true, reduceCtorEq] at hj90)
    apply Wp.exit
    apply Out.seqE
    apply Out.seqE
    apply Out.blockE
    apply Out.seqN
    apply Wp.seq
    apply Wp.region
    refine WpL.v (V.ldA tb) ?_
    refine WpL.o (O.stA tb ?_)
    apply WpL.nil
    apply Out.seqN
    apply Wp.ret
    refine Out.f1 rfl (ResIs.ca tb) ⟨?_, rfl⟩
    exact rfl
def gk (p q : List Int) (k : Nat) : List Int := p.take k ++ q.drop k
theorem gk_get {p q : List Int} (hp : p.length = 7) {k : Nat} (hk : k < 7) : (gk p q k)[k]? = q[k]? := by
  unfold gk
  rw [List.getElem?_append_right (by rw [List.length_take, hp]; omega), List.length_take, hp, List.getElem?_drop]
  congr 1; omega
theorem gk_len {p q : List Int} (hp : p.length = 7) (hq : q.length = 7) {k : Nat} : (gk p q k).length = 7 := by
  unfold gk; rw [List.length_append, List.length_take, List.length_drop, hp, hq]; omega
theorem gk_set {p q : List Int} (hp : p.length = 7) (hq : q.length = 7) {k : Nat} {v : Int} (hk : k < 7) (hv : p[k]? = some v) : (gk p q k).set k v = gk p q (k + 1) := by
  unfold gk
  rw [List.set_append, if_neg (by rw [List.length_take, hp]; omega), List.take_add_one, hv, List.length_take, hp]
  rw [show k - Min.min k 7 = 0 by omega]
  have : q.drop k = q[k]'(by rw [hq]; exact hk) :: q.drop (k + 1) := List.drop_eq_getElem_cons _
  rw [this, List.set_cons_zero]
  simp
theorem gk_keep {p q : List Int} (hp : p.length = 7) (hq : q.length = 7) {k : Nat} {v : Int} (hk : k < 7) (hv : p[k]? = some v) (hv2 : q[k]? = some v) : gk p q k = gk p q (k + 1) := by
  rw [← gk_set hp hq hk hv]
  apply List.ext_getElem?
  intro j
  rw [List.getElem?_set]
  by_cases h : k = j
  · subst h
    rw [if_pos rfl, if_pos (by rw [gk_len hp hq]; exact hk), gk_get hp hk, hv2]
  · rw [if_neg h]
theorem join_get (a b : TDeps) {k : Nat} (hk : k < 7) : ∃ x y, a.l[k]? = some x ∧ b.l[k]? = some y ∧ (joins [a, b]).l[k]? = some (Max.max (Max.max 0 x) y) := by
  rcases (by omega : k = 0 ∨ k = 1 ∨ k = 2 ∨ k = 3 ∨ k = 4 ∨ k = 5 ∨ k = 6) with h | h | h | h | h | h | h <;> subst h <;> exact ⟨_, _, rfl, rfl, rfl⟩
theorem z_get {k : Nat} (hk : k < 7) : TDeps.z.l[k]? = some 0 := by
  rcases (by omega : k = 0 ∨ k = 1 ∨ k = 2 ∨ k = 3 ∨ k = 4 ∨ k = 5 ∨ k = 6) with h | h | h | h | h | h | h <;> subst h <;> rfl
theorem ref_join (a b : TDeps) : Fun Try.prog 37 [A a.c, A b.c] (A (joins [a, b]).c) := by
  refine Ct.enter Try.func37 rfl rfl fun W => ?_
  apply Wp.seq
  apply Wp.region
  refine WpL.o (O.bxA (fun p2 => ?_))
  refine WpL.o (O.bxA (fun p3 => ?_))
  refine WpL.o (O.al tb (fun p4 => ?_))
  apply WpL.nil
  apply Out.seqN
  apply Wp.seq
  apply Wp.region
  refine WpL.o (O.al tb (fun p5 => ?_))
  apply WpL.nil
  apply Out.seqN
  apply Wp.seq
  apply Wp.seq
  apply Wp.region
  refine WpL.v (V.as) ?_
  apply WpL.nil
  apply Out.seqN
  apply Wp.block
  refine Wp.lp [5, 4, 3, 2] (fun k : Nat => k ≤ 7) (fun k => [(6, I (k : Int))]) (fun k => [cells p5 31 (depsC (gk (joins [a, b]).l TDeps.z.l k))]) (fun k => 7 - k) 0 (Nat.zero_le _) ?_
  intro k hk K hK
  dsimp only [List.cons_append, List.nil_append]
  by_cases hk7 : k < 7
  · obtain ⟨u, v, hu, hv, huv⟩ := join_get a b hk7
    have h0 := gk_get (p := (joins [a, b]).l) (q := TDeps.z.l) rfl hk7
    rw [z_get hk7] at h0
    have hl := gk_len (p := (joins [a, b]).l) (q := TDeps.z.l) rfl rfl (k := k)
    have hs := fun w (h : w = Max.max (Max.max 0 u) v) => gk_set (p := (joins [a, b]).l) (q := TDeps.z.l) rfl rfl hk7 (h ▸ huv)
    have hset : ∀ w w' : Int, ((gk (joins [a, b]).l TDeps.z.l k).set k w)[k]? = some w := fun w _ => by rw [List.getElem?_set]; simp; omega
    have hu' : (TDeps.c a)[0 + k * 1]? = some (I u) := by rw [TDeps.c_l]; exact depsC_get hu
    have hv' : (TDeps.c b)[0 + k * 1]? = some (I v) := by rw [TDeps.c_l]; exact depsC_get hv
    by_cases h1 : 0 < u
    · by_cases h2 : u < v
      · apply Wp.seq
        apply Wp.seq
        apply Wp.region
        refine WpL.v (V.mv) ?_
        refine WpL.v (V.cmp) ?_
        apply WpL.nil
        apply Out.seqN
        refine Wp.c (fun hr10 => ?_) (fun hr10 => ?_)
        (try simp only [decide_eq_true_eq, decide_eq_false_iff_not, Bool.not_eq_true', Bool.not_eq_false', Bool.not_eq_true, Bool.not_eq_false, not_true_eq_false, not_false_eq_true, reduceCtorEq] at hr10)
        apply Wp.skip
        apply Out.seqN
        apply Wp.seq
        apply Wp.block
        apply Wp.seq
        apply Wp.seq
        refine Wp.dG [] ?_ (List.Sublist.cons_cons _ (List.Sublist.cons _ (List.Sublist.cons _ (List.Sublist.cons_cons _ List.Sublist.slnil)))) (List.Sublist.cons_cons _ (List.Sublist.cons _ (List.Sublist.cons _ (List.Sublist.cons_cons _ List.Sublist.slnil))))
        refine WpA.tF 0 rfl (V.mv) ?_
        refine WpA.tF 1 rfl (V.ixA2 tb (k := k) rfl rfl rfl) ?_
        refine WpA.tF 2 rfl (V.ld1 tb (hr := hu')) ?_
        refine WpA.tF 3 rfl (V.mv) ?_
        refine WpA.tF 4 rfl (V.ixA2 tb (k := k) rfl rfl rfl) ?_
        refine WpA.tF 5 rfl (V.ld1 tb (hr := depsC_get h0)) ?_
        refine WpA.tF 6 rfl (V.cmp) ?_
        refine WpA.ou ?_
        apply Out.seqN
        refine Wp.c (fun hr11 => ?_) (fun hr11 => ?_)
        (try simp only [decide_eq_true_eq, decide_eq_false_iff_not, Bool.not_eq_true', Bool.not_eq_false', Bool.not_eq_true, Bool.not_eq_false, not_true_eq_false, not_false_eq_true, reduceCtorEq] at hr11)
        apply Wp.region
        refine WpL.v (V.mv) ?_
        refine WpL.v (V.mv) ?_
        refine WpL.v (V.ixA2 tb (k := k) rfl rfl rfl) ?_
        refine WpL.v (V.ld1 tb (hr := hu')) ?_
        refine WpL.v (V.ixA2 tb (k := k) rfl rfl rfl) ?_
        refine WpL.o (O.st1 tb ?_ (hl := depsC_blt (by first | omega | (rw [List.length_set]; omega))) (hs := depsC_set (by first | omega | (rw [List.length_set]; omega))))
        apply WpL.nil
        apply Out.seqN
        apply Wp.seq
        refine Wp.dG [] ?_ (List.Sublist.cons_cons _ (List.Sublist.cons _ (List.Sublist.cons_cons _ (List.Sublist.cons _ List.Sublist.slnil)))) (List.Sublist.cons_cons _ (List.Sublist.cons _ (List.Sublist.cons_cons _ (List.Sublist.cons _ List.Sublist.slnil))))
        refine WpA.tF 0 rfl (V.mv) ?_
        refine WpA.tF 1 rfl (V.ixA2 tb (k := k) rfl rfl rfl) ?_
        refine WpA.tF 2 rfl (V.ld1 tb (hr := hv')) ?_
        refine WpA.tF 3 rfl (V.mv) ?_
        refine WpA.tF 4 rfl (V.ixA2 tb (k := k) rfl rfl rfl) ?_
        refine WpA.tF 5 rfl (V.ld1 tb (hr := depsC_get (hset u 0))) ?_
        refine WpA.tF 6 rfl (V.cmp) ?_
        refine WpA.ou ?_
        apply Out.seqN
        refine Wp.c (fun hr12 => ?_) (fun hr12 => ?_)
        (try simp only [decide_eq_true_eq, decide_eq_false_iff_not, Bool.not_eq_true', Bool.not_eq_false', Bool.not_eq_true, Bool.not_eq_false, not_true_eq_false, not_false_eq_true, reduceCtorEq] at hr12)
        apply Wp.region
        refine WpL.v (V.mv) ?_
        refine WpL.v (V.mv) ?_
        refine WpL.v (V.ixA2 tb (k := k) rfl rfl rfl) ?_
        refine WpL.v (V.ld1 tb (hr := hv')) ?_
        refine WpL.v (V.ixA2 tb (k := k) rfl rfl rfl) ?_
        refine WpL.o (O.st1 tb ?_ (hl := depsC_blt (by first | omega | (rw [List.length_set]; omega))) (hs := depsC_set (by first | omega | (rw [List.length_set]; omega))))
        apply WpL.nil
        apply Out.blockN
        apply Out.seqN
        apply Wp.region
        refine WpL.v (V.mv) ?_
        refine WpL.v (V.add) ?_
        refine WpL.v (V.as) ?_
        apply WpL.nil
        rotate_left
        (try simp only [decide_eq_true_eq, decide_eq_false_iff_not, Bool.not_eq_true', Bool.not_eq_false', Bool.not_eq_true, Bool.not_eq_false, not_true_eq_false, not_false_eq_true, reduceCtorEq] at hr12)
        (exfalso; omega)
        (try simp only [decide_eq_true_eq, decide_eq_false_iff_not, Bool.not_eq_true', Bool.not_eq_false', Bool.not_eq_true, Bool.not_eq_false, not_true_eq_false, not_false_eq_true, reduceCtorEq] at hr11)
        (exfalso; omega)
        (try simp only [decide_eq_true_eq, decide_eq_false_iff_not, Bool.not_eq_true', Bool.not_eq_false', Bool.not_eq_true, Bool.not_eq_false, not_true_eq_false, not_false_eq_true, reduceCtorEq] at hr10)
        (exfalso; omega)
        all_goals exact Out.ag hK (k + 1) (by omega) (by show 7 - (k + 1) < 7 - k; omega) (hs := by rw [← hs v (by omega)]; simp only [List.set_set]; (repeat (first | exact Sel.nil | exact Rem.here | apply Sel.cons | apply Rem.there)))
      · apply Wp.seq
        apply Wp.seq
        apply Wp.region
        refine WpL.v (V.mv) ?_
        refine WpL.v (V.cmp) ?_
        apply WpL.nil
        apply Out.seqN
        refine Wp.c (fun hr20 => ?_) (fun hr20 => ?_)
        (try simp only [decide_eq_true_eq, decide_eq_false_iff_not, Bool.not_eq_true', Bool.not_eq_false', Bool.not_eq_true, Bool.not_eq_false, not_true_eq_false, not_false_eq_true, reduceCtorEq] at hr20)
        apply Wp.skip
        apply Out.seqN
        apply Wp.seq
        apply Wp.block
        apply Wp.seq
        apply Wp.seq
        refine Wp.dG [] ?_ (List.Sublist.cons_cons _ (List.Sublist.cons _ (List.Sublist.cons _ (List.Sublist.cons_cons _ List.Sublist.slnil)))) (List.Sublist.cons_cons _ (List.Sublist.cons _ (List.Sublist.cons _ (List.Sublist.cons_cons _ List.Sublist.slnil))))
        refine WpA.tF 0 rfl (V.mv) ?_
        refine WpA.tF 1 rfl (V.ixA2 tb (k := k) rfl rfl rfl) ?_
        refine WpA.tF 2 rfl (V.ld1 tb (hr := hu')) ?_
        refine WpA.tF 3 rfl (V.mv) ?_
        refine WpA.tF 4 rfl (V.ixA2 tb (k := k) rfl rfl rfl) ?_
        refine WpA.tF 5 rfl (V.ld1 tb (hr := depsC_get h0)) ?_
        refine WpA.tF 6 rfl (V.cmp) ?_
        refine WpA.ou ?_
        apply Out.seqN
        refine Wp.c (fun hr21 => ?_) (fun hr21 => ?_)
        (try simp only [decide_eq_true_eq, decide_eq_false_iff_not, Bool.not_eq_true', Bool.not_eq_false', Bool.not_eq_true, Bool.not_eq_false, not_true_eq_false, not_false_eq_true, reduceCtorEq] at hr21)
        apply Wp.region
        refine WpL.v (V.mv) ?_
        refine WpL.v (V.mv) ?_
        refine WpL.v (V.ixA2 tb (k := k) rfl rfl rfl) ?_
        refine WpL.v (V.ld1 tb (hr := hu')) ?_
        refine WpL.v (V.ixA2 tb (k := k) rfl rfl rfl) ?_
        refine WpL.o (O.st1 tb ?_ (hl := depsC_blt (by first | omega | (rw [List.length_set]; omega))) (hs := depsC_set (by first | omega | (rw [List.length_set]; omega))))
        apply WpL.nil
        apply Out.seqN
        apply Wp.seq
        refine Wp.dG [] ?_ (List.Sublist.cons_cons _ (List.Sublist.cons _ (List.Sublist.cons_cons _ (List.Sublist.cons _ List.Sublist.slnil)))) (List.Sublist.cons_cons _ (List.Sublist.cons _ (List.Sublist.cons_cons _ (List.Sublist.cons _ List.Sublist.slnil))))
        refine WpA.tF 0 rfl (V.mv) ?_
        refine WpA.tF 1 rfl (V.ixA2 tb (k := k) rfl rfl rfl) ?_
        refine WpA.tF 2 rfl (V.ld1 tb (hr := hv')) ?_
        refine WpA.tF 3 rfl (V.mv) ?_
        refine WpA.tF 4 rfl (V.ixA2 tb (k := k) rfl rfl rfl) ?_
        refine WpA.tF 5 rfl (V.ld1 tb (hr := depsC_get (hset u 0))) ?_
        refine WpA.tF 6 rfl (V.cmp) ?_
        refine WpA.ou ?_
        apply Out.seqN
        refine Wp.c (fun hr22 => ?_) (fun hr22 => ?_)
        (try simp only [decide_eq_true_eq, decide_eq_false_iff_not, Bool.not_eq_true', Bool.not_eq_false', Bool.not_eq_true, Bool.not_eq_false, not_true_eq_false, not_false_eq_true, reduceCtorEq] at hr22)
        (exfalso; omega)
        (try simp only [decide_eq_true_eq, decide_eq_false_iff_not, Bool.not_eq_true', Bool.not_eq_false', Bool.not_eq_true, Bool.not_eq_false, not_true_eq_false, not_false_eq_true, reduceCtorEq] at hr22)
        apply Wp.skip
        apply Out.blockN
        apply Out.seqN
        apply Wp.region
        refine WpL.v (V.mv) ?_
        refine WpL.v (V.add) ?_
        refine WpL.v (V.as) ?_
        apply WpL.nil
        rotate_left
        (try simp only [decide_eq_true_eq, decide_eq_false_iff_not, Bool.not_eq_true', Bool.not_eq_false', Bool.not_eq_true, Bool.not_eq_false, not_true_eq_false, not_false_eq_true, reduceCtorEq] at hr21)
        (exfalso; omega)
        (try simp only [decide_eq_true_eq, decide_eq_false_iff_not, Bool.not_eq_true', Bool.not_eq_false', Bool.not_eq_true, Bool.not_eq_false, not_true_eq_false, not_false_eq_true, reduceCtorEq] at hr20)
        (exfalso; omega)
        all_goals exact Out.ag hK (k + 1) (by omega) (by show 7 - (k + 1) < 7 - k; omega) (hs := by rw [← hs u (by omega)]; (repeat (first | exact Sel.nil | exact Rem.here | apply Sel.cons | apply Rem.there)))
    · by_cases h2 : 0 < v
      · apply Wp.seq
        apply Wp.seq
        apply Wp.region
        refine WpL.v (V.mv) ?_
        refine WpL.v (V.cmp) ?_
        apply WpL.nil
        apply Out.seqN
        refine Wp.c (fun hr30 => ?_) (fun hr30 => ?_)
        (try simp only [decide_eq_true_eq, decide_eq_false_iff_not, Bool.not_eq_true', Bool.not_eq_false', Bool.not_eq_true, Bool.not_eq_false, not_true_eq_false, not_false_eq_true, reduceCtorEq] at hr30)
        apply Wp.skip
        apply Out.seqN
        apply Wp.seq
        apply Wp.block
        apply Wp.seq
        apply Wp.seq
        refine Wp.dG [] ?_ (List.Sublist.cons_cons _ (List.Sublist.cons _ (List.Sublist.cons _ (List.Sublist.cons_cons _ List.Sublist.slnil)))) (List.Sublist.cons_cons _ (List.Sublist.cons _ (List.Sublist.cons _ (List.Sublist.cons_cons _ List.Sublist.slnil))))
        refine WpA.tF 0 rfl (V.mv) ?_
        refine WpA.tF 1 rfl (V.ixA2 tb (k := k) rfl rfl rfl) ?_
        refine WpA.tF 2 rfl (V.ld1 tb (hr := hu')) ?_
        refine WpA.tF 3 rfl (V.mv) ?_
        refine WpA.tF 4 rfl (V.ixA2 tb (k := k) rfl rfl rfl) ?_
        refine WpA.tF 5 rfl (V.ld1 tb (hr := depsC_get h0)) ?_
        refine WpA.tF 6 rfl (V.cmp) ?_
        refine WpA.ou ?_
        apply Out.seqN
        refine Wp.c (fun hr31 => ?_) (fun hr31 => ?_)
        (try simp only [decide_eq_true_eq, decide_eq_false_iff_not, Bool.not_eq_true', Bool.not_eq_false', Bool.not_eq_true, Bool.not_eq_false, not_true_eq_false, not_false_eq_true, reduceCtorEq] at hr31)
        (exfalso; omega)
        (try simp only [decide_eq_true_eq, decide_eq_false_iff_not, Bool.not_eq_true', Bool.not_eq_false', Bool.not_eq_true, Bool.not_eq_false, not_true_eq_false, not_false_eq_true, reduceCtorEq] at hr31)
        apply Wp.skip
        apply Out.seqN
        apply Wp.seq
        refine Wp.dG [] ?_ (List.Sublist.cons_cons _ (List.Sublist.cons _ (List.Sublist.cons_cons _ (List.Sublist.cons _ List.Sublist.slnil)))) (List.Sublist.cons_cons _ (List.Sublist.cons _ (List.Sublist.cons_cons _ (List.Sublist.cons _ List.Sublist.slnil))))
        refine WpA.tF 0 rfl (V.mv) ?_
        refine WpA.tF 1 rfl (V.ixA2 tb (k := k) rfl rfl rfl) ?_
        refine WpA.tF 2 rfl (V.ld1 tb (hr := hv')) ?_
        refine WpA.tF 3 rfl (V.mv) ?_
        refine WpA.tF 4 rfl (V.ixA2 tb (k := k) rfl rfl rfl) ?_
        refine WpA.tF 5 rfl (V.ld1 tb (hr := depsC_get h0)) ?_
        refine WpA.tF 6 rfl (V.cmp) ?_
        refine WpA.ou ?_
        apply Out.seqN
        refine Wp.c (fun hr32 => ?_) (fun hr32 => ?_)
        (try simp only [decide_eq_true_eq, decide_eq_false_iff_not, Bool.not_eq_true', Bool.not_eq_false', Bool.not_eq_true, Bool.not_eq_false, not_true_eq_false, not_false_eq_true, reduceCtorEq] at hr32)
        apply Wp.region
        refine WpL.v (V.mv) ?_
        refine WpL.v (V.mv) ?_
        refine WpL.v (V.ixA2 tb (k := k) rfl rfl rfl) ?_
        refine WpL.v (V.ld1 tb (hr := hv')) ?_
        refine WpL.v (V.ixA2 tb (k := k) rfl rfl rfl) ?_
        refine WpL.o (O.st1 tb ?_ (hl := depsC_blt (by first | omega | (rw [List.length_set]; omega))) (hs := depsC_set (by first | omega | (rw [List.length_set]; omega))))
        apply WpL.nil
        apply Out.blockN
        apply Out.seqN
        apply Wp.region
        refine WpL.v (V.mv) ?_
        refine WpL.v (V.add) ?_
        refine WpL.v (V.as) ?_
        apply WpL.nil
        rotate_left
        (try simp only [decide_eq_true_eq, decide_eq_false_iff_not, Bool.not_eq_true', Bool.not_eq_false', Bool.not_eq_true, Bool.not_eq_false, not_true_eq_false, not_false_eq_true, reduceCtorEq] at hr32)
        (exfalso; omega)
        (try simp only [decide_eq_true_eq, decide_eq_false_iff_not, Bool.not_eq_true', Bool.not_eq_false', Bool.not_eq_true, Bool.not_eq_false, not_true_eq_false, not_false_eq_true, reduceCtorEq] at hr30)
        (exfalso; omega)
        all_goals exact Out.ag hK (k + 1) (by omega) (by show 7 - (k + 1) < 7 - k; omega) (hs := by rw [← hs v (by omega)]; (repeat (first | exact Sel.nil | exact Rem.here | apply Sel.cons | apply Rem.there)))
      · apply Wp.seq
        apply Wp.seq
        apply Wp.region
        refine WpL.v (V.mv) ?_
        refine WpL.v (V.cmp) ?_
        apply WpL.nil
        apply Out.seqN
        refine Wp.c (fun hr40 => ?_) (fun hr40 => ?_)
        (try simp only [decide_eq_true_eq, decide_eq_false_iff_not, Bool.not_eq_true', Bool.not_eq_false', Bool.not_eq_true, Bool.not_eq_false, not_true_eq_false, not_false_eq_true, reduceCtorEq] at hr40)
        apply Wp.skip
        apply Out.seqN
        apply Wp.seq
        apply Wp.block
        apply Wp.seq
        apply Wp.seq
        refine Wp.dG [] ?_ (List.Sublist.cons_cons _ (List.Sublist.cons _ (List.Sublist.cons _ (List.Sublist.cons_cons _ List.Sublist.slnil)))) (List.Sublist.cons_cons _ (List.Sublist.cons _ (List.Sublist.cons _ (List.Sublist.cons_cons _ List.Sublist.slnil))))
        refine WpA.tF 0 rfl (V.mv) ?_
        refine WpA.tF 1 rfl (V.ixA2 tb (k := k) rfl rfl rfl) ?_
        refine WpA.tF 2 rfl (V.ld1 tb (hr := hu')) ?_
        refine WpA.tF 3 rfl (V.mv) ?_
        refine WpA.tF 4 rfl (V.ixA2 tb (k := k) rfl rfl rfl) ?_
        refine WpA.tF 5 rfl (V.ld1 tb (hr := depsC_get h0)) ?_
        refine WpA.tF 6 rfl (V.cmp) ?_
        refine WpA.ou ?_
        apply Out.seqN
        refine Wp.c (fun hr41 => ?_) (fun hr41 => ?_)
        (try simp only [decide_eq_true_eq, decide_eq_false_iff_not, Bool.not_eq_true', Bool.not_eq_false', Bool.not_eq_true, Bool.not_eq_false, not_true_eq_false, not_false_eq_true, reduceCtorEq] at hr41)
        (exfalso; omega)
        (try simp only [decide_eq_true_eq, decide_eq_false_iff_not, Bool.not_eq_true', Bool.not_eq_false', Bool.not_eq_true, Bool.not_eq_false, not_true_eq_false, not_false_eq_true, reduceCtorEq] at hr41)
        apply Wp.skip
        apply Out.seqN
        apply Wp.seq
        refine Wp.dG [] ?_ (List.Sublist.cons_cons _ (List.Sublist.cons _ (List.Sublist.cons_cons _ (List.Sublist.cons _ List.Sublist.slnil)))) (List.Sublist.cons_cons _ (List.Sublist.cons _ (List.Sublist.cons_cons _ (List.Sublist.cons _ List.Sublist.slnil))))
        refine WpA.tF 0 rfl (V.mv) ?_
        refine WpA.tF 1 rfl (V.ixA2 tb (k := k) rfl rfl rfl) ?_
        refine WpA.tF 2 rfl (V.ld1 tb (hr := hv')) ?_
        refine WpA.tF 3 rfl (V.mv) ?_
        refine WpA.tF 4 rfl (V.ixA2 tb (k := k) rfl rfl rfl) ?_
        refine WpA.tF 5 rfl (V.ld1 tb (hr := depsC_get h0)) ?_
        refine WpA.tF 6 rfl (V.cmp) ?_
        refine WpA.ou ?_
        apply Out.seqN
        refine Wp.c (fun hr42 => ?_) (fun hr42 => ?_)
        (try simp only [decide_eq_true_eq, decide_eq_false_iff_not, Bool.not_eq_true', Bool.not_eq_false', Bool.not_eq_true, Bool.not_eq_false, not_true_eq_false, not_false_eq_true, reduceCtorEq] at hr42)
        (exfalso; omega)
        (try simp only [decide_eq_true_eq, decide_eq_false_iff_not, Bool.not_eq_true', Bool.not_eq_false', Bool.not_eq_true, Bool.not_eq_false, not_true_eq_false, not_false_eq_true, reduceCtorEq] at hr42)
        apply Wp.skip
        apply Out.blockN
        apply Out.seqN
        apply Wp.region
        refine WpL.v (V.mv) ?_
        refine WpL.v (V.add) ?_
        refine WpL.v (V.as) ?_
        apply WpL.nil
        rotate_left
        (try simp only [decide_eq_true_eq, decide_eq_false_iff_not, Bool.not_eq_true', Bool.not_eq_false', Bool.not_eq_true, Bool.not_eq_false, not_true_eq_false, not_false_eq_true, reduceCtorEq] at hr40)
        (exfalso; omega)
        have hkp := gk_keep (p := (joins [a, b]).l) (q := TDeps.z.l) rfl rfl hk7 huv (by rw [z_get hk7]; congr 1; omega)
        all_goals exact Out.ag hK (k + 1) (by omega) (by show 7 - (k + 1) < 7 - k; omega) (hs := by rw [← hkp]; (repeat (first | exact Sel.nil | exact Rem.here | apply Sel.cons | apply Rem.there)))
  · obtain rfl : k = 7 := by omega
    clear hK
    rw [show gk (joins [a, b]).l TDeps.z.l 7 = (joins [a, b]).l from rfl, ← TDeps.c_l]
    apply Wp.seq
    apply Wp.seq
    apply Wp.region
    refine WpL.v (V.mv) ?_
    refine WpL.v (V.cmp) ?_
    apply WpL.nil
    apply Out.seqN
    refine Wp.cF ?_
    apply Wp.exit
    apply Out.seqE
    apply Out.seqE
    apply Out.blockE
    apply Out.seqN
    apply Wp.seq
    apply Wp.region
    refine WpL.v (V.ldA tb) ?_
    refine WpL.o (O.stA tb ?_)
    apply WpL.nil
    apply Out.seqN
    apply Wp.ret
    refine Out.f1 rfl (ResIs.ca tb) ⟨?_, rfl⟩
    exact rfl
def merge1 (c d : TCall) : TCall := { c with Deps := joins [c.Deps, d.Deps], Seq := Max.max c.Seq d.Seq }
def merges (c : TCall) (xs : List TCall) : TCall := xs.foldl merge1 { c with Deps := joins [c.Deps, c.Deps] }
theorem merges_snoc (c : TCall) (xs : List TCall) (x : TCall) : merges c (xs ++ [x]) = merge1 (merges c xs) x := by simp [merges]
theorem deps_merge (e : Ent) (ao : Option Go.Addr) (cap b off : Nat) (c : TCall) (xs : List TCall) (hR : Rd e ao xs.length b off 14 (xs.map TCall.c)) :
    Ct Try.prog 80 [A c.c, .slice ao xs.length cap] [e] (fun r σ' => r = A (merges c xs).c ∧ σ' = [e]) := by
  have hm := hR.small
  simp only [Go.maxLen] at hm
  have hJ (x y : TDeps) (g : Nat) : Ct Try.prog 108 [.slice (some ⟨g, 0, none⟩) 2 2] [rows TDeps.c (.slice (some ⟨g, 0, none⟩) 2 2) 31 7 [x, y]] (fun r σ' => r = A (joins [x, y]).c ∧ σ' = [rows TDeps.c (.slice (some ⟨g, 0, none⟩) 2 2) 31 7 [x, y]]) :=
    deps_join _ _ 2 _ _ [x, y] (Rd.rows (l := [x, y]) TDeps.len (by simp))
  refine Ct.enter Try.func80 rfl rfl fun W => ?_
  apply Wp.seq
  apply Wp.region
  refine WpL.o (O.bxA (fun p2 => ?_))
  refine WpL.o (O.al tb (fun p4 => ?_))
  apply WpL.nil
  apply Out.seqN
  apply Wp.seq
  apply Wp.region
  refine WpL.v (V.fa tb) ?_
  refine WpL.v (V.ldA tb) ?_
  refine WpL.v (V.fa tb) ?_
  refine WpL.v (V.ldA tb) ?_
  refine WpL.o (O.litL tb TDeps.c [_, _] rfl (PartsFrom.agg rfl (PartsFrom.agg rfl PartsFrom.nil)) rfl rfl (fun p11 => ?_))
  refine WpL.o (Op1.callT rfl (hJ _ _ _) (by (repeat (first | exact Sel.nil | exact Rem.here | apply Sel.cons | apply Rem.there))) ?_)
  rintro v0 s1 ⟨rfl, rfl⟩
  refine incat ?_
  refine WpL.v (V.fa tb) ?_
  refine WpL.o (O.stA tb ?_)
  apply WpL.nil
  apply Out.seqN
  apply Wp.seq
  apply Wp.seq
  apply Wp.region
  refine WpL.v (V.mv) ?_
  refine WpL.v (V.lenL tb) ?_
  refine WpL.v (V.mv) ?_
  apply WpL.nil
  apply Out.seqN
  apply Wp.block
  refine Wp.lp [15, 14, 4, 2] (fun i : Nat => i ≤ xs.length) (fun i => [(16, I (i : Int))]) (fun i => [cells p2 33 (merges c (xs.take i)).c]) (fun i => xs.length - i) 0 (Nat.zero_le _) ?_
  rintro i hi K hK
  dsimp only [List.cons_append, List.nil_append]
  by_cases hlt : i < xs.length
  · obtain ⟨x, hx⟩ := getS hlt
    have e1 := take_snocS hx
    have e2 : merges c (xs.take (i + 1)) = merge1 (merges c (xs.take i)) x := by rw [e1, merges_snoc]
    generalize merges c (xs.take i) = a at *
    apply Wp.seq
    apply Wp.region
    refine WpL.v (V.cmp) ?_
    apply WpL.nil
    apply Out.seqN
    apply Wp.seq
    refine Wp.c (fun hm10 => ?_) (fun hm10 => ?_)
    (try simp only [decide_eq_true_eq, decide_eq_false_iff_not, Bool.not_eq_true', Bool.not_eq_false', Bool.not_eq_true, Bool.not_eq_false, not_true_eq_false, not_false_eq_true, reduceCtorEq] at hm10)
    apply Wp.skip
    apply Out.seqN
    apply Wp.seq
    apply Wp.block
    apply Wp.seq
    apply Wp.region
    refine WpL.v (V.ixR tb rfl rfl (by assumption)) ?_
    refine WpL.v (V.ldRA tb rfl (by assumption) (getMapS (by assumption))) ?_
    refine WpL.o (O.al tb (fun p6 => ?_))
    refine WpL.o (O.stA tb ?_)
    apply WpL.nil
    apply Out.seqN
    refine Wp.dG [12, 14] ?_ (List.Sublist.cons_cons _ (List.Sublist.cons_cons _ (List.Sublist.cons _ (List.Sublist.cons _ (List.Sublist.cons _ List.Sublist.slnil))))) (List.Sublist.cons_cons _ (List.Sublist.cons _ (List.Sublist.cons _ (List.Sublist.cons _ (List.Sublist.cons _ List.Sublist.slnil)))))
    refine WpA.tF 0 rfl (V.fa tb) ?_
    refine WpA.tF 2 rfl (V.fa tb) ?_
    refine WpA.tF 3 rfl (V.ldA tb) ?_
    refine WpA.tF 6 rfl (V.fa tb) ?_
    refine WpA.tF 8 rfl (V.fa tb) ?_
    refine WpA.tF 9 rfl (V.ld1 tb) ?_
    refine WpA.t 1 rfl (V.ldA tb) ?_
    refine WpA.t 7 rfl (V.ld1 tb) ?_
    refine WpA.tF 10 rfl (V.max) ?_
    refine WpA.oS 4 rfl (O.litL tb TDeps.c [_, _] rfl (PartsFrom.agg rfl (PartsFrom.agg rfl PartsFrom.nil)) rfl rfl (fun p24 => ⟨?_, ?_, ?_⟩))
    exact holdT
    exact holdT
    refine WpA.oS 5 rfl (Op1.callT rfl (hJ _ _ _) (by (repeat (first | exact Sel.nil | exact Rem.here | apply Sel.cons | apply Rem.there))) ?_)
    rintro v1 s2 ⟨rfl, rfl⟩
    refine incat ⟨?_, ?_, ?_⟩
    exact holdT
    exact holdT
    refine WpA.tF 11 rfl (V.fa tb) ?_
    refine WpA.l 12 rfl (O.stA tb ⟨?_, ?_⟩)
    exact holdT
    refine WpA.tF 13 rfl (V.fa tb) ?_
    refine WpA.l 14 rfl (O.st1 tb ⟨?_, ?_⟩)
    exact holdT
    refine WpA.ou ?_
    apply Out.blockN
    apply Out.seqN
    apply Wp.region
    refine WpL.v (V.add) ?_
    refine WpL.v (V.mv) ?_
    apply WpL.nil
    rotate_left
    (try simp only [decide_eq_true_eq, decide_eq_false_iff_not, Bool.not_eq_true', Bool.not_eq_false', Bool.not_eq_true, Bool.not_eq_false, not_true_eq_false, not_false_eq_true, reduceCtorEq] at hm10)
    (exfalso; omega)
    all_goals exact Out.ag hK (i + 1) (by show i + 1 ≤ _; omega) (by show xs.length - (i + 1) < xs.length - i; omega) (hs := by rw [e2]; (repeat (first | exact Sel.nil | exact Rem.here | apply Sel.cons | apply Rem.there)))
  · obtain rfl : i = xs.length := by omega
    rw [List.take_length]
    clear hK
    apply Wp.seq
    apply Wp.region
    refine WpL.v (V.cmp) ?_
    apply WpL.nil
    apply Out.seqN
    apply Wp.seq
    refine Wp.c (fun hm90 => ?_) (fun hm90 => ?_)
    (try simp only [decide_eq_true_eq, decide_eq_false_iff_not, Bool.not_eq_true', Bool.not_eq_false', Bool.not_eq_true, Bool.not_eq_false, not_true_eq_false, not_false_eq_true, reduceCtorEq] at hm90)
    (exfalso; omega)
    (try simp only [decide_eq_true_eq, decide_eq_false_iff_not, Bool.not_eq_true', Bool.not_eq_false', Bool.not_eq_true, Bool.not_eq_false, not_true_eq_false, not_false_eq_true, reduceCtorEq] at hm90)
    apply Wp.exit
    apply Out.seqE
    apply Out.seqE
    apply Out.blockE
    apply Out.seqN
    apply Wp.seq
    apply Wp.region
    refine WpL.v (V.ldA tb) ?_
    refine WpL.o (O.stA tb ?_)
    apply WpL.nil
    apply Out.seqN
    apply Wp.ret
    refine Out.f1 rfl (ResIs.ca tb) ⟨?_, rfl⟩
    exact rfl
end Go.Proofs.Ythoepbbpmdmfeaa
