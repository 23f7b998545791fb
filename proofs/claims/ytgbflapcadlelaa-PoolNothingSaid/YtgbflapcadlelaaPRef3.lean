/-
  Layer 11: the document's pool: Take, walked; what the statement compares.
-/
import Derived.Test.YtgbflapcadlelaaPRef2
namespace Go.Proofs.Ytgbflapcadlelaa
open Go.HL
set_option linter.unusedSimpArgs false
set_option linter.unusedVariables false
set_option maxRecDepth 8000
theorem ref_take (b : Nat) (vf vt vs vc : Go.Value) (n : Int) (l : List PoolLetter) (cs : List (Int × Int)) (i : Int) (hl : l.length ≤ 256) (hc : cs.length ≤ 1000) (hn : 0 ≤ n ∧ n ≤ 1000000) :
    Ct Try.prog 52 [Ptr b 0, I i] (refE b vf vt vs vc n l cs) (fun r σ' => ∃ vf' vt' vs', (match atP l i with
      | some y => if refCut cs y.From y.To then r = .tuple #[I 0, I 0, S [], B false] ∧ σ' = refE b vf' vt' vs' vc (n + 1) (l.eraseIdx i.toNat) cs else r = .tuple #[I y.From, I y.To, S y.Bytes, B true] ∧ σ' = refE b vf' vt' vs' vc n (l.eraseIdx i.toNat) cs
      | none => r = .tuple #[I 0, I 0, S [], B false] ∧ σ' = refE b vf' vt' vs' vc n l cs)) := by
  have hI := ref_Is b vf vt vs vc n l cs i
  cases h : atP l i with
  | none =>
    rw [h] at hI
    simp only [Option.isSome_none] at hI
    refine Ct.enter Try.func52 rfl rfl fun W => ?_
    apply Wp.seq
    apply Wp.region
    refine WpL.v (V.as) ?_
    refine WpL.v (V.as) ?_
    refine WpL.v (V.as) ?_
    refine WpL.v (V.as) ?_
    apply WpL.nil
    apply Out.seqN
    apply Wp.seq
    apply Wp.seq
    apply Wp.region
    refine WpL.v (V.mv) ?_
    refine WpL.v (V.mv) ?_
    refine WpL.o (Op1.callT rfl (hI) (by (repeat (first | exact Sel.nil | exact Rem.here | apply Sel.cons | apply Rem.there))) ?_)
    rintro v0 s1 ⟨rfl, rfl⟩
    refine incat ?_
    refine WpL.v (V.not) ?_
    apply WpL.nil
    apply Out.seqN
    refine Wp.cT ?_
    apply Wp.seq
    apply Wp.region
    refine WpL.v (V.as) ?_
    refine WpL.v (V.as) ?_
    refine WpL.v (V.as) ?_
    refine WpL.v (V.as) ?_
    apply WpL.nil
    apply Out.seqN
    apply Wp.ret
    apply Out.seqR
    refine Out.e4 rfl ResIs.t ResIs.t ResIs.t ResIs.t ?_
    focus (exact ⟨_, _, ⟨_, _, _, rfl, rfl⟩, (by (repeat (first | exact Sel.nil | exact Rem.here | apply Sel.cons | apply Rem.there)))⟩; done)
  | some y =>
    obtain ⟨k, rfl, hk, hlt⟩ := atP_some h
    rw [h] at hI
    simp only [Option.isSome_some] at hI
    have hO := ref_out b vf vt vs vc n l cs k y hk hl
    have hC (vf vt vs : Go.Value) := ref_cut b vf vt vs vc n (l.eraseIdx k) cs y.From y.To hc
    dsimp only
    cases h3 : refCut cs y.From y.To with
    | true =>
      rw [h3] at hC
      simp only [if_true]
      refine Ct.enter Try.func52 rfl rfl fun W => ?_
      apply Wp.seq
      apply Wp.region
      refine WpL.v (V.as) ?_
      refine WpL.v (V.as) ?_
      refine WpL.v (V.as) ?_
      refine WpL.v (V.as) ?_
      apply WpL.nil
      apply Out.seqN
      apply Wp.seq
      apply Wp.seq
      apply Wp.region
      refine WpL.v (V.mv) ?_
      refine WpL.v (V.mv) ?_
      refine WpL.o (Op1.callT rfl (hI) (by (repeat (first | exact Sel.nil | exact Rem.here | apply Sel.cons | apply Rem.there))) ?_)
      rintro v0 s1 ⟨rfl, rfl⟩
      refine incat ?_
      refine WpL.v (V.not) ?_
      apply WpL.nil
      apply Out.seqN
      refine Wp.cF ?_
      apply Wp.skip
      apply Out.seqN
      apply Wp.seq
      apply Wp.region
      refine WpL.v (V.mv) ?_
      refine WpL.v (V.mv) ?_
      refine WpL.o (Op1.callT rfl (hO) (by (repeat (first | exact Sel.nil | exact Rem.here | apply Sel.cons | apply Rem.there))) ?_)
      rintro v2 s3 ⟨vf'18, ⟨vt'18, ⟨vs'18, ⟨rfl, rfl⟩⟩⟩⟩
      refine incat ?_
      refine WpL.v (V.mv) ?_
      refine WpL.v (V.ex) ?_
      refine WpL.v (V.ex) ?_
      refine WpL.v (V.ex) ?_
      refine WpL.v (V.as) ?_
      refine WpL.v (V.as) ?_
      refine WpL.v (V.as) ?_
      apply WpL.nil
      apply Out.seqN
      apply Wp.seq
      apply Wp.seq
      apply Wp.region
      refine WpL.v (V.mv) ?_
      refine WpL.v (V.mv) ?_
      refine WpL.v (V.mv) ?_
      refine WpL.o (Op1.callT rfl (hC _ _ _) (by (repeat (first | exact Sel.nil | exact Rem.here | apply Sel.cons | apply Rem.there))) ?_)
      rintro v4 s5 ⟨rfl, rfl⟩
      refine incat ?_
      apply WpL.nil
      apply Out.seqN
      refine Wp.cT ?_
      apply Wp.seq
      apply Wp.region
      refine WpL.v (V.mv) ?_
      refine WpL.v (V.nc) ?_
      refine WpL.v (V.fa tb) ?_
      refine WpL.v (V.ld1 tb) ?_
      refine WpL.v (V.add) ?_
      refine WpL.v (V.nc) ?_
      refine WpL.v (V.fa tb) ?_
      refine WpL.o (O.st1 tb ?_)
      apply WpL.nil
      apply Out.seqN
      apply Wp.seq
      apply Wp.region
      refine WpL.v (V.as) ?_
      refine WpL.v (V.as) ?_
      refine WpL.v (V.as) ?_
      refine WpL.v (V.as) ?_
      apply WpL.nil
      apply Out.seqN
      apply Wp.ret
      apply Out.seqR
      refine Out.e4 rfl ResIs.t ResIs.t ResIs.t ResIs.t ?_
      focus (exact ⟨_, _, ⟨_, _, _, rfl, rfl⟩, (by (repeat (first | exact Sel.nil | exact Rem.here | apply Sel.cons | apply Rem.there)))⟩; done)
    | false =>
      rw [h3] at hC
      simp only [Bool.false_eq_true, if_false]
      refine Ct.enter Try.func52 rfl rfl fun W => ?_
      apply Wp.seq
      apply Wp.region
      refine WpL.v (V.as) ?_
      refine WpL.v (V.as) ?_
      refine WpL.v (V.as) ?_
      refine WpL.v (V.as) ?_
      apply WpL.nil
      apply Out.seqN
      apply Wp.seq
      apply Wp.seq
      apply Wp.region
      refine WpL.v (V.mv) ?_
      refine WpL.v (V.mv) ?_
      refine WpL.o (Op1.callT rfl (hI) (by (repeat (first | exact Sel.nil | exact Rem.here | apply Sel.cons | apply Rem.there))) ?_)
      rintro v0 s1 ⟨rfl, rfl⟩
      refine incat ?_
      refine WpL.v (V.not) ?_
      apply WpL.nil
      apply Out.seqN
      refine Wp.cF ?_
      apply Wp.skip
      apply Out.seqN
      apply Wp.seq
      apply Wp.region
      refine WpL.v (V.mv) ?_
      refine WpL.v (V.mv) ?_
      refine WpL.o (Op1.callT rfl (hO) (by (repeat (first | exact Sel.nil | exact Rem.here | apply Sel.cons | apply Rem.there))) ?_)
      rintro v2 s3 ⟨vf'18, ⟨vt'18, ⟨vs'18, ⟨rfl, rfl⟩⟩⟩⟩
      refine incat ?_
      refine WpL.v (V.mv) ?_
      refine WpL.v (V.ex) ?_
      refine WpL.v (V.ex) ?_
      refine WpL.v (V.ex) ?_
      refine WpL.v (V.as) ?_
      refine WpL.v (V.as) ?_
      refine WpL.v (V.as) ?_
      apply WpL.nil
      apply Out.seqN
      apply Wp.seq
      apply Wp.seq
      apply Wp.region
      refine WpL.v (V.mv) ?_
      refine WpL.v (V.mv) ?_
      refine WpL.v (V.mv) ?_
      refine WpL.o (Op1.callT rfl (hC _ _ _) (by (repeat (first | exact Sel.nil | exact Rem.here | apply Sel.cons | apply Rem.there))) ?_)
      rintro v4 s5 ⟨rfl, rfl⟩
      refine incat ?_
      apply WpL.nil
      apply Out.seqN
      refine Wp.cF ?_
      apply Wp.skip
      apply Out.seqN
      apply Wp.seq
      apply Wp.region
      refine WpL.v (V.mv) ?_
      refine WpL.v (V.mv) ?_
      refine WpL.v (V.mv) ?_
      refine WpL.v (V.as) ?_
      refine WpL.v (V.as) ?_
      refine WpL.v (V.as) ?_
      refine WpL.v (V.as) ?_
      apply WpL.nil
      apply Out.seqN
      apply Wp.ret
      refine Out.e4 rfl ResIs.t ResIs.t ResIs.t ResIs.t ?_
      focus (exact ⟨_, _, ⟨_, _, _, rfl, rfl⟩, (by (repeat (first | exact Sel.nil | exact Rem.here | apply Sel.cons | apply Rem.there)))⟩; done)
def greatP (xs : List Caucuslaw11Call) : Bool := xs.any (fun x => decide (100 < x.Letter.Bytes.length)) || decide (400 < xs.length)
theorem pool_great (e : Ent) (ao : Option Go.Addr) (cap b off : Nat) (xs : List Caucuslaw11Call) (hR : Rd e ao xs.length b off 6 (xs.map Caucuslaw11Call.c)) :
    Ct Try.prog 47 [.slice ao xs.length cap] [e] (fun r σ' => r = B (greatP xs) ∧ σ' = [e]) := by
  have hm := hR.small
  simp only [Go.maxLen] at hm
  refine Ct.enter Try.func47 rfl rfl fun W => ?_
  apply Wp.seq
  apply Wp.region
  refine WpL.v (V.as) ?_
  apply WpL.nil
  apply Out.seqN
  apply Wp.seq
  apply Wp.seq
  apply Wp.region
  refine WpL.v (V.mv) ?_
  refine WpL.v (V.lenL tb) ?_
  refine WpL.v (V.mv) ?_
  apply WpL.nil
  apply Out.seqN
  apply Wp.block
  refine Wp.lp [6, 5, 0] (fun i : Nat => i ≤ xs.length ∧ (xs.take i).any (fun x => decide (100 < x.Letter.Bytes.length)) = false) (fun i => [(7, I (i : Int))]) (fun i => []) (fun i => xs.length - i) 0 ⟨Nat.zero_le _, rfl⟩ ?_
  rintro i ⟨hi, hF⟩ K hK
  dsimp only [List.cons_append, List.nil_append]
  by_cases hlt : i < xs.length
  · obtain ⟨q, hx⟩ := getS hlt
    have e1 := take_snocS hx
    have e2 : (xs.take (i + 1)).any (fun x => decide (100 < x.Letter.Bytes.length)) = decide (100 < q.Letter.Bytes.length) := by rw [e1, List.any_append, hF]; simp
    by_cases hq : 100 < q.Letter.Bytes.length
    · have e3 : greatP xs = true := by
        unfold greatP
        rw [Bool.or_eq_true]
        left
        rw [List.any_eq_true]
        exact ⟨q, List.mem_of_getElem? hx, by simpa using hq⟩
      rw [e3]
      apply Wp.seq
      apply Wp.region
      refine WpL.v (V.cmp) ?_
      apply WpL.nil
      apply Out.seqN
      apply Wp.seq
      refine Wp.c (fun hg10 => ?_) (fun hg10 => ?_)
      (try simp only [decide_eq_true_eq, decide_eq_false_iff_not, Bool.not_eq_true', Bool.not_eq_false', Bool.not_eq_true, Bool.not_eq_false, not_true_eq_false, not_false_eq_true, reduceCtorEq] at hg10)
      apply Wp.skip
      apply Out.seqN
      apply Wp.seq
      apply Wp.block
      apply Wp.seq
      apply Wp.region
      refine WpL.v (V.ixR tb rfl rfl (by assumption)) ?_
      refine WpL.v (V.ldRA tb rfl (by assumption) (getMapS (by assumption))) ?_
      refine WpL.o (O.al tb (fun p4 => ?_))
      refine WpL.o (O.stA tb ?_)
      apply WpL.nil
      apply Out.seqN
      apply Wp.seq
      apply Wp.region
      refine WpL.v (V.fa tb) ?_
      refine WpL.v (V.fa tb) ?_
      refine WpL.v (V.ld1 tb) ?_
      refine WpL.v (V.lenS tb) ?_
      refine WpL.v (V.cmp) ?_
      apply WpL.nil
      apply Out.seqN
      refine Wp.c (fun hg11 => ?_) (fun hg11 => ?_)
      (try simp only [decide_eq_true_eq, decide_eq_false_iff_not, Bool.not_eq_true', Bool.not_eq_false', Bool.not_eq_true, Bool.not_eq_false, not_true_eq_false, not_false_eq_true, reduceCtorEq] at hg11)
      apply Wp.seq
      apply Wp.region
      refine WpL.v (V.as) ?_
      apply WpL.nil
      apply Out.seqN
      apply Wp.ret
      apply Out.blockR
      apply Out.seqR
      apply Out.seqR
      apply Out.blockR
      apply Out.seqR
      refine Out.f1 rfl ResIs.t ⟨?_, rfl⟩
      exact rfl
      (try simp only [decide_eq_true_eq, decide_eq_false_iff_not, Bool.not_eq_true', Bool.not_eq_false', Bool.not_eq_true, Bool.not_eq_false, not_true_eq_false, not_false_eq_true, reduceCtorEq] at hg11)
      (exfalso; omega)
      (try simp only [decide_eq_true_eq, decide_eq_false_iff_not, Bool.not_eq_true', Bool.not_eq_false', Bool.not_eq_true, Bool.not_eq_false, not_true_eq_false, not_false_eq_true, reduceCtorEq] at hg10)
      (exfalso; omega)
    · apply Wp.seq
      apply Wp.region
      refine WpL.v (V.cmp) ?_
      apply WpL.nil
      apply Out.seqN
      apply Wp.seq
      refine Wp.c (fun hg20 => ?_) (fun hg20 => ?_)
      (try simp only [decide_eq_true_eq, decide_eq_false_iff_not, Bool.not_eq_true', Bool.not_eq_false', Bool.not_eq_true, Bool.not_eq_false, not_true_eq_false, not_false_eq_true, reduceCtorEq] at hg20)
      apply Wp.skip
      apply Out.seqN
      apply Wp.seq
      apply Wp.block
      apply Wp.seq
      apply Wp.region
      refine WpL.v (V.ixR tb rfl rfl (by assumption)) ?_
      refine WpL.v (V.ldRA tb rfl (by assumption) (getMapS (by assumption))) ?_
      refine WpL.o (O.al tb (fun p4 => ?_))
      refine WpL.o (O.stA tb ?_)
      apply WpL.nil
      apply Out.seqN
      apply Wp.seq
      apply Wp.region
      refine WpL.v (V.fa tb) ?_
      refine WpL.v (V.fa tb) ?_
      refine WpL.v (V.ld1 tb) ?_
      refine WpL.v (V.lenS tb) ?_
      refine WpL.v (V.cmp) ?_
      apply WpL.nil
      apply Out.seqN
      refine Wp.c (fun hg21 => ?_) (fun hg21 => ?_)
      (try simp only [decide_eq_true_eq, decide_eq_false_iff_not, Bool.not_eq_true', Bool.not_eq_false', Bool.not_eq_true, Bool.not_eq_false, not_true_eq_false, not_false_eq_true, reduceCtorEq] at hg21)
      (exfalso; omega)
      (try simp only [decide_eq_true_eq, decide_eq_false_iff_not, Bool.not_eq_true', Bool.not_eq_false', Bool.not_eq_true, Bool.not_eq_false, not_true_eq_false, not_false_eq_true, reduceCtorEq] at hg21)
      apply Wp.skip
      apply Out.blockN
      apply Out.seqN
      apply Wp.region
      refine WpL.v (V.add) ?_
      refine WpL.v (V.mv) ?_
      apply WpL.nil
      rotate_left
      (try simp only [decide_eq_true_eq, decide_eq_false_iff_not, Bool.not_eq_true', Bool.not_eq_false', Bool.not_eq_true, Bool.not_eq_false, not_true_eq_false, not_false_eq_true, reduceCtorEq] at hg20)
      (exfalso; omega)
      all_goals exact Out.ag hK (i + 1) ⟨by omega, by rw [e2]; simpa using hq⟩ (by show xs.length - (i + 1) < xs.length - i; omega)
  · obtain rfl : i = xs.length := by omega
    rw [List.take_length] at hF
    have e3 : greatP xs = decide (400 < xs.length) := by unfold greatP; rw [hF]; simp
    rw [e3]
    clear hK
    apply Wp.seq
    apply Wp.region
    refine WpL.v (V.cmp) ?_
    apply WpL.nil
    apply Out.seqN
    apply Wp.seq
    refine Wp.c (fun hg30 => ?_) (fun hg30 => ?_)
    (try simp only [decide_eq_true_eq, decide_eq_false_iff_not, Bool.not_eq_true', Bool.not_eq_false', Bool.not_eq_true, Bool.not_eq_false, not_true_eq_false, not_false_eq_true, reduceCtorEq] at hg30)
    (exfalso; omega)
    (try simp only [decide_eq_true_eq, decide_eq_false_iff_not, Bool.not_eq_true', Bool.not_eq_false', Bool.not_eq_true, Bool.not_eq_false, not_true_eq_false, not_false_eq_true, reduceCtorEq] at hg30)
    apply Wp.exit
    apply Out.seqE
    apply Out.seqE
    apply Out.blockE
    apply Out.seqN
    apply Wp.seq
    apply Wp.region
    refine WpL.v (V.mv) ?_
    refine WpL.v (V.lenL tb) ?_
    refine WpL.v (V.cmp) ?_
    refine WpL.v (V.as) ?_
    apply WpL.nil
    apply Out.seqN
    apply Wp.ret
    refine Out.f1 rfl ResIs.t ⟨?_, rfl⟩
    focus ((congr 1; rw [decide_eq_decide]; omega); done)
theorem pool_same (p q : Nat) (v vf vt vs vc : Go.Value) (n : Int) (l : List PoolLetter) (c : List Bool) (cs : List (Int × Int)) (hl : l.length ≤ 256) (hc : c.length = 49) :
    Ct Try.prog 55 [Ptr p 0, Ptr q 0] (poolE p v l c n ++ refE q vf vt vs vc n l cs) (fun r σ' => r = B true ∧ σ' = poolE p v l c n ++ refE q vf vt vs vc n l cs) := by
  have hA := pool_all p v l c n hl
  have hL := pool_len p v l c n
  have hT := pool_lost p v l c n hc
  unfold poolE refE at *
  simp only [List.cons_append, List.nil_append] at *
  refine Ct.enter Try.func55 rfl rfl fun W => ?_
  refine Wp.fact (rowsRd (f := i64c) (v := vf) (l := l.map (·.From)) (E := 3) (sz := 1) i64c_len (by (repeat first | exact List.Mem.head _ | apply List.Mem.tail))) fun hv => ?_
  obtain ⟨a1, c1, b1, rfl, hR1⟩ := hv
  refine Wp.fact (rowsRd (f := i64c) (v := vt) (l := l.map (·.To)) (E := 3) (sz := 1) i64c_len (by (repeat first | exact List.Mem.head _ | apply List.Mem.tail))) fun hv => ?_
  obtain ⟨a2, c2, b2, rfl, hR2⟩ := hv
  refine Wp.fact (rowsRd (f := strc) (v := vs) (l := l.map (·.Bytes)) (E := 9) (sz := 1) strc_len (by (repeat first | exact List.Mem.head _ | apply List.Mem.tail))) fun hv => ?_
  obtain ⟨a3, c3, b3, rfl, hR3⟩ := hv
  simp only [List.length_map] at hR1 hR2 hR3 ⊢
  apply Wp.seq
  apply Wp.region
  refine WpL.v (V.as) ?_
  apply WpL.nil
  apply Out.seqN
  apply Wp.seq
  apply Wp.region
  refine WpL.v (V.mv) ?_
  refine WpL.o (Op1.callT rfl (hA) (by (repeat (first | exact Sel.nil | exact Rem.here | apply Sel.cons | apply Rem.there))) ?_)
  rintro v1 s2 ⟨e9, ⟨ao9, ⟨cap9, ⟨bb9, ⟨hx0, ⟨rfl, rfl⟩⟩⟩⟩⟩⟩
  refine incat ?_
  refine WpL.v (V.as) ?_
  apply WpL.nil
  apply Out.seqN
  apply Wp.seq
  apply Wp.seq
  refine Wp.dG [] ?_ (List.Sublist.cons_cons _ (List.Sublist.cons _ (List.Sublist.cons_cons _ (List.Sublist.cons_cons _ (List.Sublist.cons_cons _ (List.Sublist.cons_cons _ (List.Sublist.cons_cons _ (List.Sublist.cons_cons _ List.Sublist.slnil)))))))) (List.Sublist.cons_cons _ (List.Sublist.cons _ (List.Sublist.cons_cons _ (List.Sublist.cons_cons _ (List.Sublist.cons_cons _ (List.Sublist.cons_cons _ (List.Sublist.cons_cons _ (List.Sublist.cons_cons _ List.Sublist.slnil))))))))
  refine WpA.tF 0 rfl (V.mv) ?_
  refine WpA.tF 1 rfl (V.lenL tb) ?_
  refine WpA.tF 2 rfl (V.mv) ?_
  refine WpA.tF 3 rfl (V.nc) ?_
  refine WpA.tF 4 rfl (V.fa tb) ?_
  refine WpA.tF 5 rfl (V.ld1 tb) ?_
  refine WpA.tF 6 rfl (V.lenL tb) ?_
  refine WpA.tF 7 rfl (V.cmp) ?_
  refine WpA.tF 8 rfl (V.mv) ?_
  refine WpA.pt 18 (fun hsa3 => ?_) (fun hsa3 => ?_)
  (try simp only [decide_eq_true_eq, decide_eq_false_iff_not, Bool.not_eq_true', Bool.not_eq_false', Bool.not_eq_true, Bool.not_eq_false, not_true_eq_false, not_false_eq_true, reduceCtorEq] at hsa3)
  (try simp only [decide_eq_true_eq, decide_eq_false_iff_not, Bool.not_eq_true', Bool.not_eq_false', Bool.not_eq_true, Bool.not_eq_false, not_true_eq_false, not_false_eq_true, reduceCtorEq] at hsa3)
  refine WpA.tF 9 rfl (V.mv) ?_
  refine WpA.tF 11 rfl (V.mv) ?_
  refine WpA.tF 12 rfl (V.lenL tb) ?_
  refine WpA.oS 10 rfl (Op1.callT rfl (hL) (by (repeat (first | exact Sel.nil | exact Rem.here | apply Sel.cons | apply Rem.there))) ?_)
  rintro v4 s5 ⟨rfl, rfl⟩
  refine incat ⟨?_, ?_, ?_⟩
  exact holdT
  exact holdT
  refine WpA.tF 13 rfl (V.cmp) ?_
  refine WpA.tF 14 rfl (V.pF) ?_
  refine WpA.tF 15 rfl (V.mv) ?_
  refine WpA.pt 25 (fun hsa6 => ?_) (fun hsa6 => ?_)
  (try simp only [decide_eq_true_eq, decide_eq_false_iff_not, Bool.not_eq_true', Bool.not_eq_false', Bool.not_eq_true, Bool.not_eq_false, not_true_eq_false, not_false_eq_true, reduceCtorEq] at hsa6)
  (try simp only [decide_eq_true_eq, decide_eq_false_iff_not, Bool.not_eq_true', Bool.not_eq_false', Bool.not_eq_true, Bool.not_eq_false, not_true_eq_false, not_false_eq_true, reduceCtorEq] at hsa6)
  refine WpA.tF 16 rfl (V.mv) ?_
  refine WpA.tF 18 rfl (V.mv) ?_
  refine WpA.tF 19 rfl (V.nc) ?_
  refine WpA.tF 20 rfl (V.fa tb) ?_
  refine WpA.tF 21 rfl (V.ld1 tb) ?_
  refine WpA.oS 17 rfl (Op1.callT rfl (hT) (by (repeat (first | exact Sel.nil | exact Rem.here | apply Sel.cons | apply Rem.there))) ?_)
  rintro v7 s8 ⟨rfl, rfl⟩
  refine incat ⟨?_, ?_, ?_⟩
  exact holdT
  exact holdT
  refine WpA.tF 22 rfl (V.cmp) ?_
  refine WpA.tF 23 rfl (V.pF) ?_
  refine WpA.ou ?_
  apply Out.seqN
  refine Wp.c (fun hsa9 => ?_) (fun hsa9 => ?_)
  (try simp only [decide_eq_true_eq, decide_eq_false_iff_not, Bool.not_eq_true', Bool.not_eq_false', Bool.not_eq_true, Bool.not_eq_false, not_true_eq_false, not_false_eq_true, reduceCtorEq] at hsa9)
  (try simp only [decide_eq_true_eq, decide_eq_false_iff_not, Bool.not_eq_true', Bool.not_eq_false', Bool.not_eq_true, Bool.not_eq_false, not_true_eq_false, not_false_eq_true, reduceCtorEq] at hsa9)
  apply Wp.skip
  apply Out.seqN
  apply Wp.seq
  apply Wp.seq
  apply Wp.region
  refine WpL.v (V.mv) ?_
  refine WpL.v (V.lenL tb) ?_
  refine WpL.v (V.mv) ?_
  apply WpL.nil
  apply Out.seqN
  apply Wp.block
  refine Wp.lp [35, 34, 1] (fun i : Nat => i ≤ l.length) (fun i => [(36, I (i : Int))]) (fun i => []) (fun i => l.length - i) 0 (Nat.zero_le _) ?_
  rintro i hi K hK
  dsimp only [List.cons_append, List.nil_append]
  by_cases hlt : i < l.length
  · obtain ⟨x, hx⟩ := getS hlt
    have hk1 : (l.map (·.From))[i]? = some x.From := by simp [hx]
    have hk2 : (l.map (·.To))[i]? = some x.To := by simp [hx]
    have hk3 : (l.map (·.Bytes))[i]? = some x.Bytes := by simp [hx]
    apply Wp.seq
    apply Wp.region
    refine WpL.v (V.cmp) ?_
    apply WpL.nil
    apply Out.seqN
    apply Wp.seq
    refine Wp.c (fun hsb0 => ?_) (fun hsb0 => ?_)
    (try simp only [decide_eq_true_eq, decide_eq_false_iff_not, Bool.not_eq_true', Bool.not_eq_false', Bool.not_eq_true, Bool.not_eq_false, not_true_eq_false, not_false_eq_true, reduceCtorEq] at hsb0)
    apply Wp.skip
    apply Out.seqN
    apply Wp.seq
    apply Wp.block
    apply Wp.seq
    apply Wp.region
    refine WpL.v (V.mv) ?_
    refine WpL.v (V.ixR tb rfl rfl (by assumption)) ?_
    refine WpL.v (V.ldRA tb rfl (by assumption) (getMapS (by assumption))) ?_
    refine WpL.o (O.al tb (fun p7 => ?_))
    refine WpL.v (V.as) ?_
    refine WpL.o (O.stA tb ?_)
    apply WpL.nil
    apply Out.seqN
    apply Wp.seq
    refine Wp.dG [] ?_ (List.Sublist.cons_cons _ (List.Sublist.cons _ (List.Sublist.cons_cons _ (List.Sublist.cons_cons _ (List.Sublist.cons_cons _ (List.Sublist.cons_cons _ (List.Sublist.cons_cons _ (List.Sublist.cons_cons _ (List.Sublist.cons_cons _ List.Sublist.slnil))))))))) (List.Sublist.cons_cons _ (List.Sublist.cons _ (List.Sublist.cons_cons _ (List.Sublist.cons_cons _ (List.Sublist.cons_cons _ (List.Sublist.cons_cons _ (List.Sublist.cons_cons _ (List.Sublist.cons_cons _ (List.Sublist.cons_cons _ List.Sublist.slnil)))))))))
    refine WpA.tF 0 rfl (V.fa tb) ?_
    refine WpA.tF 1 rfl (V.ld1 tb) ?_
    refine WpA.tF 2 rfl (V.mv) ?_
    refine WpA.tF 3 rfl (V.nc) ?_
    refine WpA.tF 4 rfl (V.fa tb) ?_
    refine WpA.tF 5 rfl (V.ld1 tb) ?_
    refine WpA.tF 6 rfl (V.mv) ?_
    refine WpA.tF 7 rfl (V.ixR tb rfl rfl (by assumption)) ?_
    refine WpA.tF 8 rfl (V.ldR1 tb rfl hR1 (getMapS hk1)) ?_
    refine WpA.tF 9 rfl (V.cmp) ?_
    refine WpA.tF 10 rfl (V.mv) ?_
    refine WpA.pt 51 (fun hsb1 => ?_) (fun hsb1 => ?_)
    (try simp only [decide_eq_true_eq, decide_eq_false_iff_not, Bool.not_eq_true', Bool.not_eq_false', Bool.not_eq_true, Bool.not_eq_false, not_true_eq_false, not_false_eq_true, reduceCtorEq] at hsb1)
    (try simp only [decide_eq_true_eq, decide_eq_false_iff_not, Bool.not_eq_true', Bool.not_eq_false', Bool.not_eq_true, Bool.not_eq_false, not_true_eq_false, not_false_eq_true, reduceCtorEq] at hsb1)
    refine WpA.tF 11 rfl (V.fa tb) ?_
    refine WpA.tF 12 rfl (V.ld1 tb) ?_
    refine WpA.tF 13 rfl (V.mv) ?_
    refine WpA.tF 14 rfl (V.nc) ?_
    refine WpA.tF 15 rfl (V.fa tb) ?_
    refine WpA.tF 16 rfl (V.ld1 tb) ?_
    refine WpA.tF 17 rfl (V.mv) ?_
    refine WpA.tF 18 rfl (V.ixR tb rfl rfl (by assumption)) ?_
    refine WpA.tF 19 rfl (V.ldR1 tb rfl hR2 (getMapS hk2)) ?_
    refine WpA.tF 20 rfl (V.cmp) ?_
    refine WpA.tF 21 rfl (V.pF) ?_
    refine WpA.tF 22 rfl (V.mv) ?_
    refine WpA.pt 63 (fun hsb2 => ?_) (fun hsb2 => ?_)
    (try simp only [decide_eq_true_eq, decide_eq_false_iff_not, Bool.not_eq_true', Bool.not_eq_false', Bool.not_eq_true, Bool.not_eq_false, not_true_eq_false, not_false_eq_true, reduceCtorEq] at hsb2)
    (try simp only [decide_eq_true_eq, decide_eq_false_iff_not, Bool.not_eq_true', Bool.not_eq_false', Bool.not_eq_true, Bool.not_eq_false, not_true_eq_false, not_false_eq_true, reduceCtorEq] at hsb2)
    refine WpA.tF 23 rfl (V.fa tb) ?_
    refine WpA.tF 24 rfl (V.ld1 tb) ?_
    refine WpA.tF 25 rfl (V.mv) ?_
    refine WpA.tF 26 rfl (V.nc) ?_
    refine WpA.tF 27 rfl (V.fa tb) ?_
    refine WpA.tF 28 rfl (V.ld1 tb) ?_
    refine WpA.tF 29 rfl (V.mv) ?_
    refine WpA.tF 30 rfl (V.ixR tb rfl rfl (by assumption)) ?_
    refine WpA.tF 31 rfl (V.ldR1 tb rfl hR3 (getMapS hk3)) ?_
    refine WpA.tF 32 rfl (V.cmpS) ?_
    refine WpA.tF 33 rfl (V.pF) ?_
    refine WpA.ou ?_
    apply Out.seqN
    refine Wp.c (fun hsb3 => ?_) (fun hsb3 => ?_)
    (try simp only [decide_eq_true_eq, decide_eq_false_iff_not, Bool.not_eq_true', Bool.not_eq_false', Bool.not_eq_true, Bool.not_eq_false, not_true_eq_false, not_false_eq_true, reduceCtorEq] at hsb3)
    (try simp only [decide_eq_true_eq, decide_eq_false_iff_not, Bool.not_eq_true', Bool.not_eq_false', Bool.not_eq_true, Bool.not_eq_false, not_true_eq_false, not_false_eq_true, reduceCtorEq] at hsb3)
    apply Wp.skip
    apply Out.blockN
    apply Out.seqN
    apply Wp.region
    refine WpL.v (V.add) ?_
    refine WpL.v (V.mv) ?_
    apply WpL.nil
    rotate_left
    (try simp only [decide_eq_true_eq, decide_eq_false_iff_not, Bool.not_eq_true', Bool.not_eq_false', Bool.not_eq_true, Bool.not_eq_false, not_true_eq_false, not_false_eq_true, reduceCtorEq] at hsb0)
    (exfalso; omega)
    all_goals exact Out.ag hK (i + 1) (by omega) (by show l.length - (i + 1) < l.length - i; omega)
  · obtain rfl : i = l.length := by omega
    clear hK
    apply Wp.seq
    apply Wp.region
    refine WpL.v (V.cmp) ?_
    apply WpL.nil
    apply Out.seqN
    apply Wp.seq
    refine Wp.c (fun hsc0 => ?_) (fun hsc0 => ?_)
    (try simp only [decide_eq_true_eq, decide_eq_false_iff_not, Bool.not_eq_true', Bool.not_eq_false', Bool.not_eq_true, Bool.not_eq_false, not_true_eq_false, not_false_eq_true, reduceCtorEq] at hsc0)
    (exfalso; omega)
    (try simp only [decide_eq_true_eq, decide_eq_false_iff_not, Bool.not_eq_true', Bool.not_eq_false', Bool.not_eq_true, Bool.not_eq_false, not_true_eq_false, not_false_eq_true, reduceCtorEq] at hsc0)
    apply Wp.exit
    apply Out.seqE
    apply Out.seqE
    apply Out.blockE
    apply Out.seqN
    apply Wp.seq
    apply Wp.region
    refine WpL.v (V.as) ?_
    apply WpL.nil
    apply Out.seqN
    apply Wp.ret
    refine Out.f1 rfl ResIs.t ⟨?_, rfl⟩
    exact rfl
end Go.Proofs.Ytgbflapcadlelaa
