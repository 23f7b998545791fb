/-
  Layer 3: the document's rows: contracts of Find, Set, Top.
-/
import Derived.Test.YtgbflapcadlelaaItem5
namespace Go.Proofs.Ytgbflapcadlelaa
open Go.HL
set_option linter.unusedSimpArgs false
set_option linter.unusedVariables false
set_option maxRecDepth 8000
/-- Places and numbers at them, in no order. -/
structure RM where
  n : Int
  its : List TItem
  vals : List Int
def findI (l : List TItem) (x : TItem) : Int := if x ∈ l then (l.idxOf x : Int) else -1
def RM.set (m : RM) (x : TItem) (v : Int) : RM :=
  if goodI x (Min.min m.n 7) then (if x ∈ m.its then { m with vals := m.vals.set (m.its.idxOf x) v } else { m with its := m.its ++ [x], vals := m.vals ++ [v] }) else m
def topK (l : List TItem) (rep : Int) : Int := l.foldl (fun a x => if x.Rep = rep then Max.max a x.Num else a) 0
theorem idxOf_at {l : List TItem} {x : TItem} {k : Nat} (h : x ∉ l.take k) (hk : l[k]? = some x) : l.idxOf x = k ∧ x ∈ l := by
  have hm : x ∈ l := List.mem_of_getElem? hk
  refine ⟨?_, hm⟩
  have hlt := (List.getElem?_eq_some_iff.1 hk).1
  have e : l = l.take k ++ x :: l.drop (k + 1) := by
    have h1 := (List.getElem?_eq_some_iff.1 hk).2
    rw [← h1, List.getElem_cons_drop, List.take_append_drop]
  rw [e, List.idxOf_append, if_neg h, List.idxOf_cons_self, List.length_take]
  omega
def refE (b : Nat) (iv vv : Go.Value) (m : RM) : List Ent := [cells b 37 (Caucusref03Rows.c ⟨m.n, iv, vv⟩), rows TItem.c iv 30 2 m.its, rows i64c vv 3 1 m.vals]
theorem ref3_find (b : Nat) (iv vv : Go.Value) (m : RM) (x : TItem) (hl : m.its.length ≤ 100000) :
    Ct Try.prog 33 [Ptr b 0, A x.c] (refE b iv vv m) (fun r σ' => r = I (findI m.its x) ∧ σ' = refE b iv vv m) := by
  unfold refE
  refine Ct.enter Try.func33 rfl rfl fun W => ?_
  apply Wp.seq
  apply Wp.region
  refine WpL.o (O.bxA (fun p3 => ?_))
  refine WpL.v (V.as) ?_
  apply WpL.nil
  apply Out.seqN
  apply Wp.seq
  apply Wp.seq
  apply Wp.region
  refine WpL.v (V.mv) ?_
  refine WpL.v (V.nc) ?_
  refine WpL.v (V.fa tb) ?_
  refine WpL.v (V.ld1 tb) ?_
  refine WpL.v (V.lenRows tb) ?_
  refine WpL.v (V.mv) ?_
  apply WpL.nil
  apply Out.seqN
  apply Wp.block
  refine Wp.lp [11, 10, 3] (fun k : Nat => k ≤ m.its.length ∧ x ∉ m.its.take k) (fun k => [(12, I (k : Int))]) (fun k => []) (fun k => m.its.length - k) 0 ⟨Nat.zero_le _, by simp⟩ ?_
  rintro k ⟨hk, hx⟩ K hK
  dsimp only [List.cons_append, List.nil_append]
  by_cases hlt : k < m.its.length
  · obtain ⟨y, hy⟩ := getS hlt
    have e1 := take_snocS hy
    refine Wp.form (f := TItem.c) (v := iv) (l := m.its) (by (repeat first | exact List.Mem.head _ | apply List.Mem.tail)) (fun _ h1 => ?_) (fun g cap h => ?_)
    · rw [h1] at hlt; simp at hlt
    subst h
    apply Wp.seq
    apply Wp.region
    refine WpL.v (V.cmp) ?_
    apply WpL.nil
    apply Out.seqN
    apply Wp.seq
    refine Wp.c (fun hf10 => ?_) (fun hf10 => ?_)
    (try simp only [decide_eq_true_eq, decide_eq_false_iff_not, Bool.not_eq_true', Bool.not_eq_false', Bool.not_eq_true, Bool.not_eq_false, not_true_eq_false, not_false_eq_true, reduceCtorEq] at hf10)
    apply Wp.skip
    apply Out.seqN
    apply Wp.seq
    apply Wp.block
    apply Wp.seq
    apply Wp.region
    refine WpL.v (V.mv) ?_
    refine WpL.v (V.ixk tb rfl rfl) ?_
    refine WpL.v (V.ldRow tb rfl (by (repeat first | exact List.Mem.head _ | apply List.Mem.tail)) (fun _ => rfl) (by assumption)) ?_
    refine WpL.o (O.al tb (fun p6 => ?_))
    refine WpL.v (V.as) ?_
    refine WpL.o (O.stA tb ?_)
    apply WpL.nil
    apply Out.seqN
    apply Wp.seq
    apply Wp.region
    refine WpL.v (V.ldA tb) ?_
    refine WpL.v (V.ldA tb) ?_
    refine WpL.v (V.eq (TItem.eqT _ _ _)) ?_
    apply WpL.nil
    apply Out.seqN
    refine Wp.c (fun hf11 => ?_) (fun hf11 => ?_)
    (try simp only [decide_eq_true_eq, decide_eq_false_iff_not, Bool.not_eq_true', Bool.not_eq_false', Bool.not_eq_true, Bool.not_eq_false, not_true_eq_false, not_false_eq_true, reduceCtorEq] at hf11)
    apply Wp.seq
    apply Wp.region
    refine WpL.v (V.mv) ?_
    refine WpL.v (V.as) ?_
    apply WpL.nil
    apply Out.seqN
    apply Wp.ret
    apply Out.blockR
    apply Out.seqR
    apply Out.seqR
    apply Out.blockR
    apply Out.seqR
    refine Out.f1 rfl ResIs.t ⟨?_, rfl⟩
    rotate_left
    (try simp only [decide_eq_true_eq, decide_eq_false_iff_not, Bool.not_eq_true', Bool.not_eq_false', Bool.not_eq_true, Bool.not_eq_false, not_true_eq_false, not_false_eq_true, reduceCtorEq] at hf11)
    apply Wp.skip
    apply Out.blockN
    apply Out.seqN
    apply Wp.region
    refine WpL.v (V.add) ?_
    refine WpL.v (V.mv) ?_
    apply WpL.nil
    rotate_left
    (try simp only [decide_eq_true_eq, decide_eq_false_iff_not, Bool.not_eq_true', Bool.not_eq_false', Bool.not_eq_true, Bool.not_eq_false, not_true_eq_false, not_false_eq_true, reduceCtorEq] at hf10)
    (exfalso; omega)
    · have hxy : x = y := by assumption
      subst hxy
      obtain ⟨i1, i2⟩ := idxOf_at hx hy
      rw [findI, if_pos i2, i1]
    · exact Out.ag hK (k + 1) ⟨by omega, by rw [e1]; simp_all⟩ (by omega)
  · obtain rfl : k = m.its.length := by omega
    rw [List.take_length] at hx
    rw [findI, if_neg hx]
    apply Wp.seq
    apply Wp.region
    refine WpL.v (V.cmp) ?_
    apply WpL.nil
    apply Out.seqN
    apply Wp.seq
    refine Wp.c (fun hf20 => ?_) (fun hf20 => ?_)
    (try simp only [decide_eq_true_eq, decide_eq_false_iff_not, Bool.not_eq_true', Bool.not_eq_false', Bool.not_eq_true, Bool.not_eq_false, not_true_eq_false, not_false_eq_true, reduceCtorEq] at hf20)
    (exfalso; omega)
    (try simp only [decide_eq_true_eq, decide_eq_false_iff_not, Bool.not_eq_true', Bool.not_eq_false', Bool.not_eq_true, Bool.not_eq_false, not_true_eq_false, not_false_eq_true, reduceCtorEq] at hf20)
    apply Wp.exit
    apply Out.seqE
    apply Out.seqE
    apply Out.blockE
    apply Out.seqN
    apply Wp.seq
    apply Wp.region
    refine WpL.v (V.as) ?_
    apply WpL.nil
    apply Out.seqN
    apply Wp.ret
    refine Out.f1 rfl ResIs.t ⟨?_, rfl⟩
    exact rfl
theorem topK_snoc (l : List TItem) (rep : Int) (x : TItem) : topK (l ++ [x]) rep = if x.Rep = rep then Max.max (topK l rep) x.Num else topK l rep := by simp [topK]
theorem ref3_top (b : Nat) (iv vv : Go.Value) (m : RM) (rep : Int) (hl : m.its.length ≤ 100000) :
    Ct Try.prog 31 [Ptr b 0, I rep] (refE b iv vv m) (fun r σ' => r = I (topK m.its rep) ∧ σ' = refE b iv vv m) := by
  unfold refE
  refine Ct.enter Try.func31 rfl rfl fun W => ?_
  apply Wp.seq
  apply Wp.region
  refine WpL.v (V.as) ?_
  apply WpL.nil
  apply Out.seqN
  apply Wp.seq
  apply Wp.region
  refine WpL.v (V.as) ?_
  apply WpL.nil
  apply Out.seqN
  apply Wp.seq
  apply Wp.seq
  apply Wp.region
  refine WpL.v (V.mv) ?_
  refine WpL.v (V.nc) ?_
  refine WpL.v (V.fa tb) ?_
  refine WpL.v (V.ld1 tb) ?_
  refine WpL.v (V.lenRows tb) ?_
  refine WpL.v (V.mv) ?_
  apply WpL.nil
  apply Out.seqN
  apply Wp.block
  refine Wp.lp [12, 11, 1] (fun k : Nat => k ≤ m.its.length) (fun k => [(13, I (k : Int)), (5, I (topK (m.its.take k) rep))]) (fun k => []) (fun k => m.its.length - k) 0 (Nat.zero_le _) ?_
  rintro k hk K hK
  dsimp only [List.cons_append, List.nil_append]
  by_cases hlt : k < m.its.length
  · obtain ⟨y, hy⟩ := getS hlt
    have e1 := take_snocS hy
    refine Wp.form (f := TItem.c) (v := iv) (l := m.its) (by (repeat first | exact List.Mem.head _ | apply List.Mem.tail)) (fun _ h1 => ?_) (fun g cap h => ?_)
    · rw [h1] at hlt; simp at hlt
    subst h
    have e2 := topK_snoc (m.its.take k) rep y
    rw [← e1] at e2
    by_cases hyr : y.Rep = rep
    · rw [if_pos hyr] at e2
      apply Wp.seq
      apply Wp.region
      refine WpL.v (V.cmp) ?_
      apply WpL.nil
      apply Out.seqN
      apply Wp.seq
      refine Wp.c (fun hg10 => ?_) (fun hg10 => ?_)
      (try simp only [decide_eq_true_eq, decide_eq_false_iff_not, Bool.not_eq_true', Bool.not_eq_false', Bool.not_eq_true, Bool.not_eq_false, not_true_eq_false, not_false_eq_true, reduceCtorEq] at hg10)
      apply Wp.skip
      apply Out.seqN
      apply Wp.seq
      apply Wp.block
      apply Wp.seq
      apply Wp.region
      refine WpL.v (V.ixk tb rfl rfl) ?_
      refine WpL.v (V.ldRow tb rfl (by (repeat first | exact List.Mem.head _ | apply List.Mem.tail)) (fun _ => rfl) (by assumption)) ?_
      refine WpL.o (O.al tb (fun p7 => ?_))
      refine WpL.o (O.stA tb ?_)
      apply WpL.nil
      apply Out.seqN
      apply Wp.seq
      apply Wp.region
      refine WpL.v (V.fa tb) ?_
      refine WpL.v (V.ld1 tb) ?_
      refine WpL.v (V.mv) ?_
      refine WpL.v (V.cmp) ?_
      apply WpL.nil
      apply Out.seqN
      refine Wp.c (fun hg11 => ?_) (fun hg11 => ?_)
      (try simp only [decide_eq_true_eq, decide_eq_false_iff_not, Bool.not_eq_true', Bool.not_eq_false', Bool.not_eq_true, Bool.not_eq_false, not_true_eq_false, not_false_eq_true, reduceCtorEq] at hg11)
      apply Wp.region
      refine WpL.v (V.mv) ?_
      refine WpL.v (V.fa tb) ?_
      refine WpL.v (V.ld1 tb) ?_
      refine WpL.v (V.max) ?_
      refine WpL.v (V.as) ?_
      apply WpL.nil
      apply Out.blockN
      apply Out.seqN
      apply Wp.region
      refine WpL.v (V.add) ?_
      refine WpL.v (V.mv) ?_
      apply WpL.nil
      rotate_left
      (try simp only [decide_eq_true_eq, decide_eq_false_iff_not, Bool.not_eq_true', Bool.not_eq_false', Bool.not_eq_true, Bool.not_eq_false, not_true_eq_false, not_false_eq_true, reduceCtorEq] at hg11)
      (exfalso; omega)
      (try simp only [decide_eq_true_eq, decide_eq_false_iff_not, Bool.not_eq_true', Bool.not_eq_false', Bool.not_eq_true, Bool.not_eq_false, not_true_eq_false, not_false_eq_true, reduceCtorEq] at hg10)
      (exfalso; omega)
      exact Out.ag hK (k + 1) (by omega) (by omega) (by rw [e2]; (repeat (first | exact subEnv.nil | refine subEnv.cons rfl rfl ?_)))
    · rw [if_neg hyr] at e2
      apply Wp.seq
      apply Wp.region
      refine WpL.v (V.cmp) ?_
      apply WpL.nil
      apply Out.seqN
      apply Wp.seq
      refine Wp.c (fun hg20 => ?_) (fun hg20 => ?_)
      (try simp only [decide_eq_true_eq, decide_eq_false_iff_not, Bool.not_eq_true', Bool.not_eq_false', Bool.not_eq_true, Bool.not_eq_false, not_true_eq_false, not_false_eq_true, reduceCtorEq] at hg20)
      apply Wp.skip
      apply Out.seqN
      apply Wp.seq
      apply Wp.block
      apply Wp.seq
      apply Wp.region
      refine WpL.v (V.ixk tb rfl rfl) ?_
      refine WpL.v (V.ldRow tb rfl (by (repeat first | exact List.Mem.head _ | apply List.Mem.tail)) (fun _ => rfl) (by assumption)) ?_
      refine WpL.o (O.al tb (fun p7 => ?_))
      refine WpL.o (O.stA tb ?_)
      apply WpL.nil
      apply Out.seqN
      apply Wp.seq
      apply Wp.region
      refine WpL.v (V.fa tb) ?_
      refine WpL.v (V.ld1 tb) ?_
      refine WpL.v (V.mv) ?_
      refine WpL.v (V.cmp) ?_
      apply WpL.nil
      apply Out.seqN
      refine Wp.c (fun hg21 => ?_) (fun hg21 => ?_)
      (try simp only [decide_eq_true_eq, decide_eq_false_iff_not, Bool.not_eq_true', Bool.not_eq_false', Bool.not_eq_true, Bool.not_eq_false, not_true_eq_false, not_false_eq_true, reduceCtorEq] at hg21)
      (exfalso; omega)
      (try simp only [decide_eq_true_eq, decide_eq_false_iff_not, Bool.not_eq_true', Bool.not_eq_false', Bool.not_eq_true, Bool.not_eq_false, not_true_eq_false, not_false_eq_true, reduceCtorEq] at hg21)
      apply Wp.skip
      apply Out.blockN
      apply Out.seqN
      apply Wp.region
      refine WpL.v (V.add) ?_
      refine WpL.v (V.mv) ?_
      apply WpL.nil
      rotate_left
      (try simp only [decide_eq_true_eq, decide_eq_false_iff_not, Bool.not_eq_true', Bool.not_eq_false', Bool.not_eq_true, Bool.not_eq_false, not_true_eq_false, not_false_eq_true, reduceCtorEq] at hg20)
      (exfalso; omega)
      exact Out.ag hK (k + 1) (by omega) (by omega) (by rw [e2]; (repeat (first | exact subEnv.nil | refine subEnv.cons rfl rfl ?_)))
  · obtain rfl : k = m.its.length := by omega
    rw [List.take_length]
    apply Wp.seq
    apply Wp.region
    refine WpL.v (V.cmp) ?_
    apply WpL.nil
    apply Out.seqN
    apply Wp.seq
    refine Wp.c (fun hg30 => ?_) (fun hg30 => ?_)
    (try simp only [decide_eq_true_eq, decide_eq_false_iff_not, Bool.not_eq_true', Bool.not_eq_false', Bool.not_eq_true, Bool.not_eq_false, not_true_eq_false, not_false_eq_true, reduceCtorEq] at hg30)
    (exfalso; omega)
    (try simp only [decide_eq_true_eq, decide_eq_false_iff_not, Bool.not_eq_true', Bool.not_eq_false', Bool.not_eq_true, Bool.not_eq_false, not_true_eq_false, not_false_eq_true, reduceCtorEq] at hg30)
    apply Wp.exit
    apply Out.seqE
    apply Out.seqE
    apply Out.blockE
    apply Out.seqN
    apply Wp.seq
    apply Wp.region
    refine WpL.v (V.mv) ?_
    refine WpL.v (V.as) ?_
    apply WpL.nil
    apply Out.seqN
    apply Wp.ret
    refine Out.f1 rfl ResIs.t ⟨?_, rfl⟩
    exact rfl
theorem ref3_set (b : Nat) (iv vv : Go.Value) (m : RM) (x : TItem) (v : Int) (hl : m.its.length ≤ 100000) (hs : m.vals.length = m.its.length) :
    Ct Try.prog 28 [Ptr b 0, A x.c, I v] (refE b iv vv m) (fun r σ' => ∃ iv' vv', r = B (goodI x (Min.min m.n 7)) ∧ σ' = refE b iv' vv' (m.set x v)) := by
  have hF := ref3_find b iv vv m x hl
  unfold refE at hF ⊢
  by_cases hg : goodI x (Min.min m.n 7) = true
  · have hG : Fun Try.prog 37 [A x.c, I (Min.min m.n 7)] (B true) := hg ▸ ref3_good x (Min.min m.n 7)
    by_cases hx : x ∈ m.its
    · have hset : m.set x v = { m with vals := m.vals.set (m.its.idxOf x) v } := by rw [RM.set, if_pos hg, if_pos hx]
      rw [hset, hg]
      rw [findI, if_pos hx] at hF
      have hlt := List.idxOf_lt_length_of_mem hx
      generalize m.its.idxOf x = k at hF hlt ⊢
      refine Ct.enter Try.func28 rfl rfl fun W => ?_
      refine Wp.form (f := i64c) (v := vv) (l := m.vals) (by (repeat first | exact List.Mem.head _ | apply List.Mem.tail)) (fun _ h1 => ?_) (fun g cap h => ?_)
      · rw [h1] at hs; simp at hs; omega
      subst h
      apply Wp.seq
      apply Wp.region
      refine WpL.o (O.bxA (fun p4 => ?_))
      refine WpL.v (V.as) ?_
      apply WpL.nil
      apply Out.seqN
      apply Wp.seq
      apply Wp.seq
      refine Wp.dG [] ?_ (List.Sublist.cons_cons _ (List.Sublist.cons_cons _ (List.Sublist.cons_cons _ (List.Sublist.cons_cons _ List.Sublist.slnil)))) (List.Sublist.cons_cons _ (List.Sublist.cons_cons _ (List.Sublist.cons_cons _ (List.Sublist.cons_cons _ List.Sublist.slnil))))
      refine WpA.tF 0 rfl (V.ldA tb) ?_
      refine WpA.tF 1 rfl (V.mv) ?_
      refine WpA.tF 2 rfl (V.nc) ?_
      refine WpA.tF 3 rfl (V.fa tb) ?_
      refine WpA.tF 4 rfl (V.ld1 tb) ?_
      refine WpA.tF 5 rfl (V.min) ?_
      refine WpA.oS 6 rfl (Op1.fn rfl (hG) ⟨?_, ?_, ?_⟩)
      exact holdT
      exact holdT
      refine WpA.tF 7 rfl (V.not) ?_
      refine WpA.ou ?_
      apply Out.seqN
      refine Wp.cF ?_
      apply Wp.skip
      apply Out.seqN
      apply Wp.seq
      apply Wp.region
      refine WpL.v (V.mv) ?_
      refine WpL.v (V.ldA tb) ?_
      refine WpL.o (Op1.callT rfl (hF) (by (repeat (first | exact Sel.nil | exact Rem.here | apply Sel.cons | apply Rem.there))) ?_)
      rintro v0 s1 ⟨rfl, rfl⟩
      refine incat ?_
      refine WpL.v (V.as) ?_
      apply WpL.nil
      apply Out.seqN
      apply Wp.seq
      apply Wp.seq
      apply Wp.region
      refine WpL.v (V.mv) ?_
      refine WpL.v (V.cmp) ?_
      apply WpL.nil
      apply Out.seqN
      refine Wp.c (fun hs02 => ?_) (fun hs02 => ?_)
      (try simp only [decide_eq_true_eq, decide_eq_false_iff_not, Bool.not_eq_true', Bool.not_eq_false', Bool.not_eq_true, Bool.not_eq_false, not_true_eq_false, not_false_eq_true, reduceCtorEq] at hs02)
      apply Wp.seq
      apply Wp.region
      refine WpL.v (V.mv) ?_
      refine WpL.v (V.nc) ?_
      refine WpL.v (V.fa tb) ?_
      refine WpL.v (V.ld1 tb) ?_
      refine WpL.v (V.mv) ?_
      refine WpL.v (V.mv) ?_
      refine WpL.v (V.ixk tb rfl rfl) ?_
      refine WpL.o (O.stRow1 tb (f := i64c) (a := v) rfl rfl rfl rfl (by repeat first | exact Upd.here _ _ _ | apply Upd.there) rfl (by omega) (fun _ => rfl) ?_)
      apply WpL.nil
      apply Out.seqN
      apply Wp.seq
      apply Wp.region
      refine WpL.v (V.as) ?_
      apply WpL.nil
      apply Out.seqN
      apply Wp.ret
      apply Out.seqR
      refine Out.e1 rfl ResIs.t ?_
      focus (exact ⟨_, _, ⟨_, _, rfl, rfl⟩, (by (repeat (first | exact Sel.nil | exact Rem.here | apply Sel.cons | apply Rem.there)))⟩; done)
      (try simp only [decide_eq_true_eq, decide_eq_false_iff_not, Bool.not_eq_true', Bool.not_eq_false', Bool.not_eq_true, Bool.not_eq_false, not_true_eq_false, not_false_eq_true, reduceCtorEq] at hs02)
      (exfalso; omega)
    · have hset : m.set x v = { m with its := m.its ++ [x], vals := m.vals ++ [v] } := by rw [RM.set, if_pos hg, if_neg hx]
      rw [hset, hg]
      rw [findI, if_neg hx] at hF
      refine Ct.enter Try.func28 rfl rfl fun W => ?_
      apply Wp.seq
      apply Wp.region
      refine WpL.o (O.bxA (fun p4 => ?_))
      refine WpL.v (V.as) ?_
      apply WpL.nil
      apply Out.seqN
      apply Wp.seq
      apply Wp.seq
      refine Wp.dG [] ?_ (List.Sublist.cons_cons _ (List.Sublist.cons_cons _ (List.Sublist.cons_cons _ (List.Sublist.cons_cons _ List.Sublist.slnil)))) (List.Sublist.cons_cons _ (List.Sublist.cons_cons _ (List.Sublist.cons_cons _ (List.Sublist.cons_cons _ List.Sublist.slnil))))
      refine WpA.tF 0 rfl (V.ldA tb) ?_
      refine WpA.tF 1 rfl (V.mv) ?_
      refine WpA.tF 2 rfl (V.nc) ?_
      refine WpA.tF 3 rfl (V.fa tb) ?_
      refine WpA.tF 4 rfl (V.ld1 tb) ?_
      refine WpA.tF 5 rfl (V.min) ?_
      refine WpA.oS 6 rfl (Op1.fn rfl (hG) ⟨?_, ?_, ?_⟩)
      exact holdT
      exact holdT
      refine WpA.tF 7 rfl (V.not) ?_
      refine WpA.ou ?_
      apply Out.seqN
      refine Wp.cF ?_
      apply Wp.skip
      apply Out.seqN
      apply Wp.seq
      apply Wp.region
      refine WpL.v (V.mv) ?_
      refine WpL.v (V.ldA tb) ?_
      refine WpL.o (Op1.callT rfl (hF) (by (repeat (first | exact Sel.nil | exact Rem.here | apply Sel.cons | apply Rem.there))) ?_)
      rintro v0 s1 ⟨rfl, rfl⟩
      refine incat ?_
      refine WpL.v (V.as) ?_
      apply WpL.nil
      apply Out.seqN
      apply Wp.seq
      apply Wp.seq
      apply Wp.region
      refine WpL.v (V.mv) ?_
      refine WpL.v (V.cmp) ?_
      apply WpL.nil
      apply Out.seqN
      refine Wp.cF ?_
      apply Wp.skip
      apply Out.seqN
      apply Wp.seq
      refine Wp.dG [10] ?_ (List.Sublist.cons_cons _ (List.Sublist.cons _ (List.Sublist.cons _ (List.Sublist.cons_cons _ List.Sublist.slnil)))) (List.Sublist.cons _ (List.Sublist.cons _ (List.Sublist.cons _ (List.Sublist.cons_cons _ List.Sublist.slnil))))
      refine WpA.tF 0 rfl (V.mv) ?_
      refine WpA.tF 1 rfl (V.mv) ?_
      refine WpA.tF 2 rfl (V.nc) ?_
      refine WpA.tF 3 rfl (V.fa tb) ?_
      refine WpA.tF 5 rfl (V.ldA tb) ?_
      refine WpA.t 4 rfl (V.ld1 tb) ?_
      refine WpA.oS 6 rfl (O.lit tb (fun p34 => ⟨?_, ?_, ?_⟩))
      exact holdT
      exact holdT
      refine WpA.oS 7 rfl (O.apL tb rfl rfl (by (intro _; repeat first | exact Upd.here _ _ _ | apply Upd.there)) (SrcL.one tb (by (repeat first | exact List.Mem.head _ | apply List.Mem.tail)) TItem.ones) (fun g35 cap35 => ⟨?_, ?_, ?_⟩))
      exact holdT
      exact holdT
      refine WpA.tF 8 rfl (V.nc) ?_
      refine WpA.tF 9 rfl (V.fa tb) ?_
      refine WpA.l 10 rfl (O.st1 tb ⟨?_, ?_⟩)
      exact holdT
      refine WpA.ou ?_
      apply Out.seqN
      apply Wp.seq
      apply Wp.region
      refine WpL.v (V.mv) ?_
      refine WpL.v (V.mv) ?_
      refine WpL.v (V.nc) ?_
      refine WpL.v (V.fa tb) ?_
      refine WpL.v (V.ld1 tb) ?_
      refine WpL.v (V.mv) ?_
      refine WpL.o (O.lit tb (fun p44 => ?_))
      refine WpL.o (O.apL tb rfl rfl (by (intro _; repeat first | exact Upd.here _ _ _ | apply Upd.there)) (SrcL.one tb (by (repeat first | exact List.Mem.head _ | apply List.Mem.tail)) ones_i64c) (fun g45 cap45 => ?_))
      refine WpL.v (V.nc) ?_
      refine WpL.v (V.fa tb) ?_
      refine WpL.o (O.st1 tb ?_)
      apply WpL.nil
      apply Out.seqN
      apply Wp.seq
      apply Wp.region
      refine WpL.v (V.as) ?_
      apply WpL.nil
      apply Out.seqN
      apply Wp.ret
      refine Out.e1 rfl ResIs.t ?_
      focus (exact ⟨_, _, ⟨_, _, rfl, rfl⟩, (by (repeat (first | exact Sel.nil | exact Rem.here | apply Sel.cons | apply Rem.there)))⟩; done)
  · have hg' : goodI x (Min.min m.n 7) = false := by simpa using hg
    have hG : Fun Try.prog 37 [A x.c, I (Min.min m.n 7)] (B false) := hg' ▸ ref3_good x (Min.min m.n 7)
    have hset : m.set x v = m := by rw [RM.set, if_neg hg]
    rw [hset, hg']
    refine Ct.enter Try.func28 rfl rfl fun W => ?_
    apply Wp.seq
    apply Wp.region
    refine WpL.o (O.bxA (fun p4 => ?_))
    refine WpL.v (V.as) ?_
    apply WpL.nil
    apply Out.seqN
    apply Wp.seq
    apply Wp.seq
    refine Wp.dG [] ?_ (List.Sublist.cons_cons _ (List.Sublist.cons_cons _ (List.Sublist.cons_cons _ (List.Sublist.cons_cons _ List.Sublist.slnil)))) (List.Sublist.cons_cons _ (List.Sublist.cons_cons _ (List.Sublist.cons_cons _ (List.Sublist.cons_cons _ List.Sublist.slnil))))
    refine WpA.tF 0 rfl (V.ldA tb) ?_
    refine WpA.tF 1 rfl (V.mv) ?_
    refine WpA.tF 2 rfl (V.nc) ?_
    refine WpA.tF 3 rfl (V.fa tb) ?_
    refine WpA.tF 4 rfl (V.ld1 tb) ?_
    refine WpA.tF 5 rfl (V.min) ?_
    refine WpA.oS 6 rfl (Op1.fn rfl (hG) ⟨?_, ?_, ?_⟩)
    exact holdT
    exact holdT
    refine WpA.tF 7 rfl (V.not) ?_
    refine WpA.ou ?_
    apply Out.seqN
    refine Wp.cT ?_
    apply Wp.seq
    apply Wp.region
    refine WpL.v (V.as) ?_
    apply WpL.nil
    apply Out.seqN
    apply Wp.ret
    apply Out.seqR
    refine Out.e1 rfl ResIs.t ?_
    focus (exact ⟨_, _, ⟨_, _, rfl, rfl⟩, (by (repeat (first | exact Sel.nil | exact Rem.here | apply Sel.cons | apply Rem.there)))⟩; done)
/-! ### The two rows say the same -/
structure RelI (p : IP) (m : RM) : Prop where
  reps : p.reps = Min.min (Max.max m.n 0) 7
  len : m.vals.length = m.its.length
  nodup : m.its.Nodup
  same : ∀ x t, p.at x = some t ↔ ∃ k : Nat, m.its[k]? = some x ∧ m.vals[k]? = some t
theorem good_min {x : TItem} {n r : Int} (h : r = Min.min (Max.max n 0) 7) : goodI x r = goodI x (Min.min n 7) := by
  rw [Bool.eq_iff_iff]
  simp only [goodI, Bool.and_eq_true, decide_eq_true_eq]
  omega
theorem RelI.new (n : Int) : RelI (IP.new n) ⟨n, [], []⟩ := ⟨rfl, rfl, List.nodup_nil, fun x t => by rw [IP.at_new]; simp⟩
theorem nodup_get {l : List TItem} (h : l.Nodup) {i j : Nat} {x : TItem} (hi : l[i]? = some x) (hj : l[j]? = some x) : i = j := by
  have h1 := (List.getElem?_eq_some_iff.1 hi)
  have h2 := (List.getElem?_eq_some_iff.1 hj)
  obtain ⟨a1, a2⟩ := h1
  obtain ⟨b1, b2⟩ := h2
  exact (List.getElem_inj h).1 (a2.trans b2.symm)
theorem idxOf_get {l : List TItem} {x : TItem} (h : x ∈ l) : l[l.idxOf x]? = some x := by
  rw [List.getElem?_eq_getElem (List.idxOf_lt_length_of_mem h)]
  simp
theorem RelI.set {p : IP} {m : RM} (hp : p.ok) (h : RelI p m) (x : TItem) (v : Int) : RelI (p.set x v) (m.set x v) := by
  have hgm := good_min (x := x) h.reps
  by_cases hg : goodI x p.reps = true
  · have hg2 : goodI x (Min.min m.n 7) = true := by rw [← hgm]; exact hg
    by_cases hx : x ∈ m.its
    · have hset : m.set x v = { m with vals := m.vals.set (m.its.idxOf x) v } := by rw [RM.set, if_pos hg2, if_pos hx]
      rw [hset]
      have hix := idxOf_get hx
      have hlt := List.idxOf_lt_length_of_mem hx
      refine ⟨by rw [IP.set_reps]; exact h.reps, by simpa using h.len, h.nodup, fun y t => ?_⟩
      rw [IP.at_set hp]
      by_cases hy : y = x
      · subst hy
        rw [if_pos ⟨hg, rfl⟩]
        simp only [Option.some.injEq]
        constructor
        · rintro rfl
          exact ⟨_, hix, by rw [List.getElem?_set]; simp [h.len, hlt]⟩
        · rintro ⟨k, hk, hv⟩
          have := nodup_get h.nodup hk hix
          subst this
          rw [List.getElem?_set] at hv
          simpa [h.len, hlt] using hv
      · rw [if_neg (fun e => hy e.2), h.same]
        constructor
        · rintro ⟨k, hk, hv⟩
          refine ⟨k, hk, ?_⟩
          rw [List.getElem?_set, if_neg]
          · exact hv
          · rintro rfl
            rw [hix] at hk
            exact hy (Option.some.inj hk).symm
        · rintro ⟨k, hk, hv⟩
          refine ⟨k, hk, ?_⟩
          rw [List.getElem?_set, if_neg] at hv
          · exact hv
          · rintro rfl
            rw [hix] at hk
            exact hy (Option.some.inj hk).symm
    · have hset : m.set x v = { m with its := m.its ++ [x], vals := m.vals ++ [v] } := by rw [RM.set, if_pos hg2, if_neg hx]
      rw [hset]
      refine ⟨by rw [IP.set_reps]; exact h.reps, by simp [h.len], ?_, fun y t => ?_⟩
      · rw [List.nodup_append]
        exact ⟨h.nodup, by simp, fun a ha b hb e => hx (by simp at hb; subst hb; subst e; exact ha)⟩
      · rw [IP.at_set hp]
        by_cases hy : y = x
        · subst hy
          rw [if_pos ⟨hg, rfl⟩]
          simp only [Option.some.injEq]
          constructor
          · rintro rfl
            exact ⟨m.its.length, by simp, by rw [← h.len]; simp⟩
          · rintro ⟨k, hk, hv⟩
            simp only [List.getElem?_append] at hk hv
            split at hk
            · exact absurd (List.mem_of_getElem? hk) hx
            · rename_i hlt
              rw [if_neg (by rw [h.len]; exact hlt)] at hv
              have hk0 : k - m.its.length = 0 := by
                have := (List.getElem?_eq_some_iff.1 hk).1; simp at this; omega
              rw [h.len, hk0] at hv
              simpa using hv
        · rw [if_neg (fun e => hy e.2), h.same]
          constructor
          · rintro ⟨k, hk, hv⟩
            have h1 := (List.getElem?_eq_some_iff.1 hk).1
            exact ⟨k, by rw [List.getElem?_append_left h1]; exact hk, by rw [List.getElem?_append_left (by rw [h.len]; exact h1)]; exact hv⟩
          · rintro ⟨k, hk, hv⟩
            simp only [List.getElem?_append] at hk hv
            split at hk
            · rename_i hlt
              rw [if_pos (by rw [h.len]; exact hlt)] at hv
              exact ⟨k, hk, hv⟩
            · rename_i hlt
              have h1 := (List.getElem?_eq_some_iff.1 hk).1
              simp at h1
              have hk0 : k - m.its.length = 0 := by omega
              rw [hk0] at hk
              exact absurd (by simpa using hk.symm) hy
  · have e1 : p.set x v = p := by rw [IP.set, if_neg hg]
    have e2 : m.set x v = m := by rw [RM.set, if_neg (by rw [← hgm]; exact hg)]
    rw [e1, e2]; exact h
/-- What is at a place is what is found. -/
theorem RelI.find {p : IP} {m : RM} (h : RelI p m) (x : TItem) : (p.at x = none ∧ findI m.its x = -1) ∨ ∃ (t : Int) (k : Nat), p.at x = some t ∧ findI m.its x = (k : Int) ∧ m.vals[k]? = some t ∧ k < m.its.length := by
  by_cases hx : x ∈ m.its
  · right
    have hlt := List.idxOf_lt_length_of_mem hx
    have hv : ∃ t, m.vals[m.its.idxOf x]? = some t := ⟨_, List.getElem?_eq_getElem (by rw [h.len]; exact hlt)⟩
    obtain ⟨t, ht⟩ := hv
    exact ⟨t, m.its.idxOf x, (h.same x t).2 ⟨_, idxOf_get hx, ht⟩, by rw [findI, if_pos hx], ht, hlt⟩
  · left
    refine ⟨?_, by rw [findI, if_neg hx]⟩
    cases hat : p.at x with
    | none => rfl
    | some t =>
      obtain ⟨k, hk, _⟩ := (h.same x t).1 hat
      exact absurd (List.mem_of_getElem? hk) hx
theorem RelI.mem {p : IP} {m : RM} (h : RelI p m) (x : TItem) : x ∈ m.its ↔ ∃ t, p.at x = some t := by
  constructor
  · intro hx
    rcases h.find x with ⟨_, h2⟩ | ⟨t, k, h1, _⟩
    · rw [findI, if_pos hx] at h2; omega
    · exact ⟨t, h1⟩
  · rintro ⟨t, ht⟩
    obtain ⟨k, hk, _⟩ := (h.same x t).1 ht
    exact List.mem_of_getElem? hk
theorem RelI.all_len {p : IP} {m : RM} (hp : p.ok) (h : RelI p m) : p.all.length = m.its.length := by
  have h1 : (p.all.map Prod.fst).Nodup := by
    rw [List.Nodup, List.pairwise_map]
    exact (IP.all_sorted p).imp fun h => h.ne
  have h2 : (p.all.map Prod.fst).Perm m.its := by
    rw [List.perm_ext_iff_of_nodup h1 h.nodup]
    intro x
    rw [h.mem, List.mem_map]
    constructor
    · rintro ⟨y, hy, rfl⟩
      exact ⟨y.2, (IP.mem_all hp).1 hy⟩
    · rintro ⟨t, ht⟩
      exact ⟨(x, t), (IP.mem_all hp).2 ht, rfl⟩
  simpa using h2.length_eq
theorem topK_spec (l : List TItem) (rep : Int) : 0 ≤ topK l rep ∧ (∀ x, x ∈ l → x.Rep = rep → x.Num ≤ topK l rep) ∧ (topK l rep = 0 ∨ ∃ x, x ∈ l ∧ x.Rep = rep ∧ x.Num = topK l rep) := by
  have key : ∀ (l : List TItem) (q : List TItem), (0 ≤ topK q rep ∧ (∀ x, x ∈ q → x.Rep = rep → x.Num ≤ topK q rep) ∧ (topK q rep = 0 ∨ ∃ x, x ∈ q ∧ x.Rep = rep ∧ x.Num = topK q rep)) →
      (0 ≤ topK (q ++ l) rep ∧ (∀ x, x ∈ q ++ l → x.Rep = rep → x.Num ≤ topK (q ++ l) rep) ∧ (topK (q ++ l) rep = 0 ∨ ∃ x, x ∈ q ++ l ∧ x.Rep = rep ∧ x.Num = topK (q ++ l) rep)) := by
    intro l
    induction l with
    | nil => intro q h; simpa using h
    | cons y l ih =>
      intro q ⟨h1, h2, h3⟩
      have e : q ++ y :: l = (q ++ [y]) ++ l := by simp
      rw [e]
      apply ih
      rw [topK_snoc]
      by_cases hy : y.Rep = rep
      · rw [if_pos hy]
        refine ⟨by omega, ?_, ?_⟩
        · intro x hx hr
          rcases List.mem_append.1 hx with hx | hx
          · have := h2 x hx hr; omega
          · obtain rfl : x = y := by simpa using hx
            omega
        · by_cases hm : y.Num ≤ topK q rep
          · rw [Int.max_eq_left hm]
            rcases h3 with h3 | ⟨x, hx, hr, hn⟩
            · exact .inl h3
            · exact .inr ⟨x, by simp [hx], hr, hn⟩
          · rw [Int.max_eq_right (by omega)]
            exact .inr ⟨y, by simp, hy, rfl⟩
      · rw [if_neg hy]
        refine ⟨h1, ?_, ?_⟩
        · intro x hx hr
          rcases List.mem_append.1 hx with hx | hx
          · exact h2 x hx hr
          · obtain rfl : x = y := by simpa using hx
            exact absurd hr hy
        · rcases h3 with h3 | ⟨x, hx, hr, hn⟩
          · exact .inl h3
          · exact .inr ⟨x, by simp [hx], hr, hn⟩
  exact key l [] ⟨by simp [topK], by simp, .inl (by simp [topK])⟩
theorem RelI.top {p : IP} {m : RM} (hp : p.ok) (h : RelI p m) (rep : Int) : (p.top rep : Int) = topK m.its rep := by
  obtain ⟨h1, h2, h3⟩ := topK_spec m.its rep
  by_cases h0 : p.top rep = 0
  · rw [h0]
    rcases h3 with h3 | ⟨x, hx, hr, hn⟩
    · rw [h3]; rfl
    · obtain ⟨t, ht⟩ := (h.mem x).1 hx
      have := IP.at_lt hp ht
      rw [hr, h0] at this
      omega
  · obtain ⟨mm, hm⟩ : ∃ mm, p.top rep = mm + 1 := ⟨p.top rep - 1, by omega⟩
    have hr0 : 0 ≤ rep := by
      unfold IP.top at h0
      split at h0
      · omega
      · exact absurd rfl h0
    obtain ⟨k, rfl⟩ := Int.eq_ofNat_of_zero_le hr0
    have ha := IP.at_top hp hm
    obtain ⟨t, ht⟩ := Option.isSome_iff_exists.1 ha
    have hx := (h.mem _).2 ⟨t, ht⟩
    have hle := h2 _ hx rfl
    simp only at hle
    rcases h3 with h3 | ⟨x, hx, hr, hn⟩
    · omega
    · obtain ⟨t', ht'⟩ := (h.mem x).1 hx
      have hlt := IP.at_lt hp ht'
      rw [hr, hm] at hlt
      omega
end Go.Proofs.Ytgbflapcadlelaa
