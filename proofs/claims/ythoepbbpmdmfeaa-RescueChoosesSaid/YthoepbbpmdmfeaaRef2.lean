/-
  Layer 16: the document's Choose, walked.
-/
import Derived.Test.YthoepbbpmdmfeaaRefL
namespace Go.Proofs.Ythoepbbpmdmfeaa
open Go.HL
set_option linter.unusedSimpArgs false
set_option linter.unusedVariables false
set_option maxRecDepth 8000
set_option maxHeartbeats 4000000 in
theorem ref_choose (e : Ent) (ao : Option Go.Addr) (cap b off : Nat) (n : Int) (x : TItem) (xs : List TMsg) (hn : 3 ≤ n ∧ n ≤ 1000000) (hx : xs.length ≤ 1000) (hR : Rd e ao xs.length b off 25 (xs.map TMsg.c)) :
    Ct Try.prog 26 [I n, A x.c, .slice ao xs.length cap] [e] (fun r σ' => r = .tuple #[I (choose n x xs).1, A (choose n x xs).2.c] ∧ σ' = [e]) := by
  have hF := ref_faults n (by omega)
  have hfn : 1 ≤ faults n := by unfold faults; omega
  have hfm : faults n ≤ 1000000 := by unfold faults; omega
  by_cases hlen : (xs.length : Int) < faults n + 1
  · rw [show choose n x xs = (0, TCall.z) by unfold choose; rw [if_pos hlen]]
    refine Ct.enter Try.func26 rfl rfl fun W => ?_
    apply Wp.seq
    apply Wp.region
    refine WpL.o (O.bxA (fun p4 => ?_))
    refine WpL.v (V.as) ?_
    refine WpL.o (O.al tb (fun p7 => ?_))
    apply WpL.nil
    apply Out.seqN
    apply Wp.seq
    apply Wp.region
    refine WpL.v (V.mv) ?_
    refine WpL.o (Op1.fn rfl (hF) ?_)
    refine WpL.v (V.as) ?_
    apply WpL.nil
    apply Out.seqN
    apply Wp.seq
    apply Wp.seq
    apply Wp.region
    refine WpL.v (V.mv) ?_
    refine WpL.v (V.lenL tb) ?_
    refine WpL.v (V.mv) ?_
    refine WpL.v (V.cmp) ?_
    apply WpL.nil
    apply Out.seqN
    refine Wp.c (fun ha0 => ?_) (fun ha0 => ?_)
    (try simp only [decide_eq_true_eq, decide_eq_false_iff_not, Bool.not_eq_true', Bool.not_eq_false', Bool.not_eq_true, Bool.not_eq_false, not_true_eq_false, not_false_eq_true, reduceCtorEq] at ha0)
    apply Wp.seq
    apply Wp.region
    refine WpL.v (V.bld tb) ?_
    refine WpL.v (V.as) ?_
    refine WpL.o (O.stA tb ?_)
    apply WpL.nil
    apply Out.seqN
    apply Wp.ret
    apply Out.seqR
    refine Out.f2 rfl ResIs.t (ResIs.ca tb) ⟨?_, rfl⟩
    exact rfl
    (try simp only [decide_eq_true_eq, decide_eq_false_iff_not, Bool.not_eq_true', Bool.not_eq_false', Bool.not_eq_true, Bool.not_eq_false, not_true_eq_false, not_false_eq_true, reduceCtorEq] at ha0)
    (exfalso; omega)
  · cases hc3 : hi 3 xs with
    | some m =>
      rw [show choose n x xs = (1, m.Call) by unfold choose; rw [if_neg hlen, hc3]]
      obtain ⟨i3, hB, hk3, hl3⟩ := best_some hc3
      have h3 := ref_best e ao cap b off xs 3 _ hB hR
      refine Ct.enter Try.func26 rfl rfl fun W => ?_
      apply Wp.seq
      apply Wp.region
      refine WpL.o (O.bxA (fun p4 => ?_))
      refine WpL.v (V.as) ?_
      refine WpL.o (O.al tb (fun p7 => ?_))
      apply WpL.nil
      apply Out.seqN
      apply Wp.seq
      apply Wp.region
      refine WpL.v (V.mv) ?_
      refine WpL.o (Op1.fn rfl (hF) ?_)
      refine WpL.v (V.as) ?_
      apply WpL.nil
      apply Out.seqN
      apply Wp.seq
      apply Wp.seq
      apply Wp.region
      refine WpL.v (V.mv) ?_
      refine WpL.v (V.lenL tb) ?_
      refine WpL.v (V.mv) ?_
      refine WpL.v (V.cmp) ?_
      apply WpL.nil
      apply Out.seqN
      refine Wp.c (fun hb0 => ?_) (fun hb0 => ?_)
      (try simp only [decide_eq_true_eq, decide_eq_false_iff_not, Bool.not_eq_true', Bool.not_eq_false', Bool.not_eq_true, Bool.not_eq_false, not_true_eq_false, not_false_eq_true, reduceCtorEq] at hb0)
      (exfalso; omega)
      (try simp only [decide_eq_true_eq, decide_eq_false_iff_not, Bool.not_eq_true', Bool.not_eq_false', Bool.not_eq_true, Bool.not_eq_false, not_true_eq_false, not_false_eq_true, reduceCtorEq] at hb0)
      apply Wp.skip
      apply Out.seqN
      apply Wp.seq
      apply Wp.seq
      apply Wp.region
      refine WpL.v (V.mv) ?_
      refine WpL.o (Op1.callT rfl (h3) (by (repeat (first | exact Sel.nil | exact Rem.here | apply Sel.cons | apply Rem.there))) ?_)
      rintro v1 s2 ⟨rfl, rfl⟩
      refine incat ?_
      refine WpL.v (V.as) ?_
      apply WpL.nil
      apply Out.seqN
      apply Wp.seq
      apply Wp.region
      refine WpL.v (V.mv) ?_
      refine WpL.v (V.cmp) ?_
      apply WpL.nil
      apply Out.seqN
      refine Wp.c (fun hb3 => ?_) (fun hb3 => ?_)
      (try simp only [decide_eq_true_eq, decide_eq_false_iff_not, Bool.not_eq_true', Bool.not_eq_false', Bool.not_eq_true, Bool.not_eq_false, not_true_eq_false, not_false_eq_true, reduceCtorEq] at hb3)
      apply Wp.seq
      refine Wp.dG [] ?_ (List.Sublist.cons_cons _ (List.Sublist.cons _ (List.Sublist.cons _ List.Sublist.slnil))) (List.Sublist.cons_cons _ (List.Sublist.cons _ (List.Sublist.cons _ List.Sublist.slnil)))
      refine WpA.tF 0 rfl (V.mv) ?_
      refine WpA.tF 1 rfl (V.mv) ?_
      refine WpA.tF 2 rfl (V.ixR tb rfl rfl (by assumption)) ?_
      refine WpA.tF 3 rfl (V.fa tb) ?_
      refine WpA.tF 4 rfl (V.rdFA tb (o := 11) rfl hR (getMapS hk3)) ?_
      refine WpA.tF 5 rfl (V.as) ?_
      refine WpA.oS 6 rfl (O.stA tb ⟨?_, ?_, ?_⟩)
      exact holdT
      exact holdT
      refine WpA.ou ?_
      apply Out.seqN
      apply Wp.ret
      apply Out.seqR
      refine Out.f2 rfl ResIs.t (ResIs.ca tb) ⟨?_, rfl⟩
      exact rfl
      (try simp only [decide_eq_true_eq, decide_eq_false_iff_not, Bool.not_eq_true', Bool.not_eq_false', Bool.not_eq_true, Bool.not_eq_false, not_true_eq_false, not_false_eq_true, reduceCtorEq] at hb3)
      (exfalso; omega)
    | none =>
      have h3 := ref_best e ao cap b off xs 3 _ (best_none hc3) hR
      cases hc1 : hi 1 xs with
      | none =>
        have h1 := ref_best e ao cap b off xs 1 _ (best_none hc1) hR
        cases hc2 : hi 2 xs with
        | none =>
          have h2 := ref_best e ao cap b off xs 2 _ (best_none hc2) hR
          have hac : accd xs = none := by simp [accd, hc2]
          refine Ct.enter Try.func26 rfl rfl fun W => ?_
          apply Wp.seq
          apply Wp.region
          refine WpL.o (O.bxA (fun p4 => ?_))
          refine WpL.v (V.as) ?_
          refine WpL.o (O.al tb (fun p7 => ?_))
          apply WpL.nil
          apply Out.seqN
          apply Wp.seq
          apply Wp.region
          refine WpL.v (V.mv) ?_
          refine WpL.o (Op1.fn rfl (hF) ?_)
          refine WpL.v (V.as) ?_
          apply WpL.nil
          apply Out.seqN
          apply Wp.seq
          apply Wp.seq
          apply Wp.region
          refine WpL.v (V.mv) ?_
          refine WpL.v (V.lenL tb) ?_
          refine WpL.v (V.mv) ?_
          refine WpL.v (V.cmp) ?_
          apply WpL.nil
          apply Out.seqN
          refine Wp.c (fun ha00 => ?_) (fun ha00 => ?_)
          (try simp only [decide_eq_true_eq, decide_eq_false_iff_not, Bool.not_eq_true', Bool.not_eq_false', Bool.not_eq_true, Bool.not_eq_false, not_true_eq_false, not_false_eq_true, reduceCtorEq] at ha00)
          (exfalso; omega)
          (try simp only [decide_eq_true_eq, decide_eq_false_iff_not, Bool.not_eq_true', Bool.not_eq_false', Bool.not_eq_true, Bool.not_eq_false, not_true_eq_false, not_false_eq_true, reduceCtorEq] at ha00)
          apply Wp.skip
          apply Out.seqN
          apply Wp.seq
          apply Wp.seq
          apply Wp.region
          refine WpL.v (V.mv) ?_
          refine WpL.o (Op1.callT rfl (h3) (by (repeat (first | exact Sel.nil | exact Rem.here | apply Sel.cons | apply Rem.there))) ?_)
          rintro v1 s2 ⟨rfl, rfl⟩
          refine incat ?_
          refine WpL.v (V.as) ?_
          apply WpL.nil
          apply Out.seqN
          apply Wp.seq
          apply Wp.region
          refine WpL.v (V.mv) ?_
          refine WpL.v (V.cmp) ?_
          apply WpL.nil
          apply Out.seqN
          refine Wp.cF ?_
          apply Wp.skip
          apply Out.seqN
          apply Wp.seq
          apply Wp.seq
          apply Wp.region
          refine WpL.v (V.mv) ?_
          refine WpL.o (Op1.callT rfl (h2) (by (repeat (first | exact Sel.nil | exact Rem.here | apply Sel.cons | apply Rem.there))) ?_)
          rintro v3 s4 ⟨rfl, rfl⟩
          refine incat ?_
          refine WpL.v (V.mv) ?_
          refine WpL.o (Op1.callT rfl (h1) (by (repeat (first | exact Sel.nil | exact Rem.here | apply Sel.cons | apply Rem.there))) ?_)
          rintro v5 s6 ⟨rfl, rfl⟩
          refine incat ?_
          refine WpL.v (V.as) ?_
          refine WpL.v (V.as) ?_
          apply WpL.nil
          apply Out.seqN
          apply Wp.seq
          refine Wp.dG [] ?_ (List.Sublist.cons_cons _ (List.Sublist.cons _ (List.Sublist.cons _ List.Sublist.slnil))) (List.Sublist.cons_cons _ (List.Sublist.cons _ (List.Sublist.cons _ List.Sublist.slnil)))
          refine WpA.tF 0 rfl (V.mv) ?_
          refine WpA.tF 1 rfl (V.cmp) ?_
          refine WpA.tF 2 rfl (V.mv) ?_
          refine WpA.s 3 rfl ?_
          refine WpA.s 4 rfl ?_
          refine WpA.s 5 rfl ?_
          refine WpA.s 6 rfl ?_
          refine WpA.s 7 rfl ?_
          refine WpA.s 8 rfl ?_
          refine WpA.s 9 rfl ?_
          refine WpA.s 10 rfl ?_
          refine WpA.s 11 rfl ?_
          refine WpA.s 12 rfl ?_
          refine WpA.s 13 rfl ?_
          refine WpA.s 14 rfl ?_
          refine WpA.s 15 rfl ?_
          refine WpA.s 16 rfl ?_
          refine WpA.s 17 rfl ?_
          refine WpA.s 18 rfl ?_
          refine WpA.tF 19 rfl (V.pF) ?_
          refine WpA.ou ?_
          apply Out.seqN
          refine Wp.cF ?_
          apply Wp.skip
          apply Out.seqN
          apply Wp.seq
          apply Wp.region
          refine WpL.v (V.as) ?_
          apply WpL.nil
          apply Out.seqN
          apply Wp.seq
          apply Wp.region
          refine WpL.v (V.as) ?_
          apply WpL.nil
          apply Out.seqN
          apply Wp.seq
          apply Wp.region
          refine WpL.v (V.as) ?_
          apply WpL.nil
          apply Out.seqN
          apply Wp.seq
          apply Wp.seq
          apply Wp.region
          refine WpL.v (V.mv) ?_
          refine WpL.v (V.lenL tb) ?_
          refine WpL.v (V.mv) ?_
          apply WpL.nil
          apply Out.seqN
          apply Wp.block
          refine Wp.lp [67, 66, 8, 7, 4, 2] (fun y : Nat × Bool × Int × Int => y.1 ≤ xs.length ∧ Cnt x (xs.take y.1) y.2.1 y.2.2.1 y.2.2.2) (fun y => [(68, I (y.1 : Int)), (14, I y.2.2.2), (13, I y.2.2.1), (12, B y.2.1)]) (fun y => []) (fun y => xs.length - y.1) (0, false, 0, -1) ⟨Nat.zero_le _, Cnt.nil x⟩ ?_
          rintro ⟨i, th, c, f⟩ ⟨hi0, hC⟩ K hK
          dsimp only at hi0 hC
          dsimp only [List.cons_append, List.nil_append]
          by_cases hlt : i < xs.length
          · obtain ⟨m, hm⟩ := getS hlt
            have q1 := take_snocS hm
            have hcb : 0 ≤ c ∧ c ≤ 1000 := by rw [hC.count]; have h5 := List.length_filter_le (sameP x) (xs.take i); rw [List.length_take] at h5; omega
            have hil : (xs.take i).length = i := by rw [List.length_take]; omega
            cases hp : sameP x m with
            | false =>
              have hC2 := hC.no hp
              rw [← q1] at hC2
              rw [sameP_def] at hp
              simp only [Bool.and_eq_false_iff, decide_eq_false_iff_not] at hp
              cases hsm : m.Same with
              | false =>
                clear hp
                cases th with
                | true =>
                  apply Wp.seq
                  apply Wp.region
                  refine WpL.v (V.cmp) ?_
                  apply WpL.nil
                  apply Out.seqN
                  apply Wp.seq
                  refine Wp.c (fun hap0 => ?_) (fun hap0 => ?_)
                  (try simp only [decide_eq_true_eq, decide_eq_false_iff_not, Bool.not_eq_true', Bool.not_eq_false', Bool.not_eq_true, Bool.not_eq_false, not_true_eq_false, not_false_eq_true, reduceCtorEq] at hap0)
                  apply Wp.skip
                  apply Out.seqN
                  apply Wp.seq
                  apply Wp.block
                  apply Wp.seq
                  apply Wp.region
                  refine WpL.v (V.mv) ?_
                  refine WpL.v (V.ixR tb rfl rfl (by assumption)) ?_
                  refine WpL.v (V.ldRA tb rfl (by assumption) (getMapS (by assumption))) ?_
                  refine WpL.o (O.al tb (fun p16 => ?_))
                  refine WpL.v (V.as) ?_
                  refine WpL.o (O.stA tb ?_)
                  apply WpL.nil
                  apply Out.seqN
                  apply Wp.seq
                  apply Wp.region
                  refine WpL.v (V.mv) ?_
                  refine WpL.v (V.mv) ?_
                  refine WpL.sk ?_
                  refine WpL.sk ?_
                  refine WpL.sk ?_
                  refine WpL.sk ?_
                  refine WpL.sk ?_
                  refine WpL.v (V.pT) ?_
                  refine WpL.v (V.as) ?_
                  apply WpL.nil
                  apply Out.seqN
                  apply Wp.seq
                  apply Wp.region
                  refine WpL.v (V.fa tb) ?_
                  refine WpL.v (V.ld1 tb) ?_
                  refine WpL.v (V.cmp) ?_
                  refine WpL.v (V.mv) ?_
                  refine WpL.pt (fun hap1 => ?_) (fun hap1 => ?_)
                  (try simp only [decide_eq_true_eq, decide_eq_false_iff_not, Bool.not_eq_true', Bool.not_eq_false', Bool.not_eq_true, Bool.not_eq_false, not_true_eq_false, not_false_eq_true, reduceCtorEq] at hap1)
                  refine WpL.v (V.fa tb) ?_
                  refine WpL.v (V.ld1 tb) ?_
                  refine WpL.v (V.pT) ?_
                  refine WpL.v (V.mv) ?_
                  refine WpL.pt (fun hap2 => ?_) (fun hap2 => ?_)
                  (try simp only [decide_eq_true_eq, decide_eq_false_iff_not, Bool.not_eq_true', Bool.not_eq_false', Bool.not_eq_true, Bool.not_eq_false, not_true_eq_false, not_false_eq_true, reduceCtorEq] at hap2)
                  exact absurd (Eq.trans (Eq.symm hap2) (by assumption) : true = false) (by decide)
                  (try simp only [decide_eq_true_eq, decide_eq_false_iff_not, Bool.not_eq_true', Bool.not_eq_false', Bool.not_eq_true, Bool.not_eq_false, not_true_eq_false, not_false_eq_true, reduceCtorEq] at hap2)
                  refine WpL.sk ?_
                  refine WpL.sk ?_
                  refine WpL.sk ?_
                  refine WpL.sk ?_
                  refine WpL.v (V.pF) ?_
                  refine WpL.v (V.mv) ?_
                  refine WpL.sk ?_
                  refine WpL.sk ?_
                  refine WpL.sk ?_
                  refine WpL.sk ?_
                  refine WpL.sk ?_
                  refine WpL.sk ?_
                  refine WpL.v (V.pF) ?_
                  apply WpL.nil
                  apply Out.seqN
                  refine Wp.cF ?_
                  apply Wp.skip
                  apply Out.blockN
                  apply Out.seqN
                  apply Wp.region
                  refine WpL.v (V.add) ?_
                  refine WpL.v (V.mv) ?_
                  apply WpL.nil
                  rotate_left
                  (try simp only [decide_eq_true_eq, decide_eq_false_iff_not, Bool.not_eq_true', Bool.not_eq_false', Bool.not_eq_true, Bool.not_eq_false, not_true_eq_false, not_false_eq_true, reduceCtorEq] at hap1)
                  refine WpL.sk ?_
                  refine WpL.sk ?_
                  refine WpL.v (V.pF) ?_
                  refine WpL.v (V.mv) ?_
                  refine WpL.sk ?_
                  refine WpL.sk ?_
                  refine WpL.sk ?_
                  refine WpL.sk ?_
                  refine WpL.v (V.pF) ?_
                  refine WpL.v (V.mv) ?_
                  refine WpL.sk ?_
                  refine WpL.sk ?_
                  refine WpL.sk ?_
                  refine WpL.sk ?_
                  refine WpL.sk ?_
                  refine WpL.sk ?_
                  refine WpL.v (V.pF) ?_
                  apply WpL.nil
                  apply Out.seqN
                  refine Wp.cF ?_
                  apply Wp.skip
                  apply Out.blockN
                  apply Out.seqN
                  apply Wp.region
                  refine WpL.v (V.add) ?_
                  refine WpL.v (V.mv) ?_
                  apply WpL.nil
                  rotate_left
                  (try simp only [decide_eq_true_eq, decide_eq_false_iff_not, Bool.not_eq_true', Bool.not_eq_false', Bool.not_eq_true, Bool.not_eq_false, not_true_eq_false, not_false_eq_true, reduceCtorEq] at hap0)
                  (exfalso; omega)
                  all_goals exact Out.ag hK (i + 1, _, _, _) ⟨by show i + 1 ≤ _; omega, hC2⟩ (by show xs.length - (i + 1) < xs.length - i; omega)
                | false =>
                  apply Wp.seq
                  apply Wp.region
                  refine WpL.v (V.cmp) ?_
                  apply WpL.nil
                  apply Out.seqN
                  apply Wp.seq
                  refine Wp.c (fun haq0 => ?_) (fun haq0 => ?_)
                  (try simp only [decide_eq_true_eq, decide_eq_false_iff_not, Bool.not_eq_true', Bool.not_eq_false', Bool.not_eq_true, Bool.not_eq_false, not_true_eq_false, not_false_eq_true, reduceCtorEq] at haq0)
                  apply Wp.skip
                  apply Out.seqN
                  apply Wp.seq
                  apply Wp.block
                  apply Wp.seq
                  apply Wp.region
                  refine WpL.v (V.mv) ?_
                  refine WpL.v (V.ixR tb rfl rfl (by assumption)) ?_
                  refine WpL.v (V.ldRA tb rfl (by assumption) (getMapS (by assumption))) ?_
                  refine WpL.o (O.al tb (fun p16 => ?_))
                  refine WpL.v (V.as) ?_
                  refine WpL.o (O.stA tb ?_)
                  apply WpL.nil
                  apply Out.seqN
                  apply Wp.seq
                  apply Wp.region
                  refine WpL.v (V.mv) ?_
                  refine WpL.v (V.mv) ?_
                  refine WpL.v (V.fa tb) ?_
                  refine WpL.v (V.ld1 tb) ?_
                  refine WpL.v (V.fa tb) ?_
                  refine WpL.v (V.ld1 tb) ?_
                  refine WpL.v (V.cmp) ?_
                  refine WpL.v (V.pF) ?_
                  refine WpL.v (V.as) ?_
                  apply WpL.nil
                  apply Out.seqN
                  apply Wp.seq
                  apply Wp.region
                  refine WpL.v (V.fa tb) ?_
                  refine WpL.v (V.ld1 tb) ?_
                  refine WpL.v (V.cmp) ?_
                  refine WpL.v (V.mv) ?_
                  refine WpL.pt (fun haq1 => ?_) (fun haq1 => ?_)
                  (try simp only [decide_eq_true_eq, decide_eq_false_iff_not, Bool.not_eq_true', Bool.not_eq_false', Bool.not_eq_true, Bool.not_eq_false, not_true_eq_false, not_false_eq_true, reduceCtorEq] at haq1)
                  refine WpL.v (V.fa tb) ?_
                  refine WpL.v (V.ld1 tb) ?_
                  refine WpL.v (V.pT) ?_
                  refine WpL.v (V.mv) ?_
                  refine WpL.pt (fun haq2 => ?_) (fun haq2 => ?_)
                  (try simp only [decide_eq_true_eq, decide_eq_false_iff_not, Bool.not_eq_true', Bool.not_eq_false', Bool.not_eq_true, Bool.not_eq_false, not_true_eq_false, not_false_eq_true, reduceCtorEq] at haq2)
                  exact absurd (Eq.trans (Eq.symm haq2) (by assumption) : true = false) (by decide)
                  (try simp only [decide_eq_true_eq, decide_eq_false_iff_not, Bool.not_eq_true', Bool.not_eq_false', Bool.not_eq_true, Bool.not_eq_false, not_true_eq_false, not_false_eq_true, reduceCtorEq] at haq2)
                  refine WpL.sk ?_
                  refine WpL.sk ?_
                  refine WpL.sk ?_
                  refine WpL.sk ?_
                  refine WpL.v (V.pF) ?_
                  refine WpL.v (V.mv) ?_
                  refine WpL.sk ?_
                  refine WpL.sk ?_
                  refine WpL.sk ?_
                  refine WpL.sk ?_
                  refine WpL.sk ?_
                  refine WpL.sk ?_
                  refine WpL.v (V.pF) ?_
                  apply WpL.nil
                  apply Out.seqN
                  refine Wp.cF ?_
                  apply Wp.skip
                  apply Out.blockN
                  apply Out.seqN
                  apply Wp.region
                  refine WpL.v (V.add) ?_
                  refine WpL.v (V.mv) ?_
                  apply WpL.nil
                  rotate_left
                  (try simp only [decide_eq_true_eq, decide_eq_false_iff_not, Bool.not_eq_true', Bool.not_eq_false', Bool.not_eq_true, Bool.not_eq_false, not_true_eq_false, not_false_eq_true, reduceCtorEq] at haq1)
                  refine WpL.sk ?_
                  refine WpL.sk ?_
                  refine WpL.v (V.pF) ?_
                  refine WpL.v (V.mv) ?_
                  refine WpL.sk ?_
                  refine WpL.sk ?_
                  refine WpL.sk ?_
                  refine WpL.sk ?_
                  refine WpL.v (V.pF) ?_
                  refine WpL.v (V.mv) ?_
                  refine WpL.sk ?_
                  refine WpL.sk ?_
                  refine WpL.sk ?_
                  refine WpL.sk ?_
                  refine WpL.sk ?_
                  refine WpL.sk ?_
                  refine WpL.v (V.pF) ?_
                  apply WpL.nil
                  apply Out.seqN
                  refine Wp.cF ?_
                  apply Wp.skip
                  apply Out.blockN
                  apply Out.seqN
                  apply Wp.region
                  refine WpL.v (V.add) ?_
                  refine WpL.v (V.mv) ?_
                  apply WpL.nil
                  rotate_left
                  (try simp only [decide_eq_true_eq, decide_eq_false_iff_not, Bool.not_eq_true', Bool.not_eq_false', Bool.not_eq_true, Bool.not_eq_false, not_true_eq_false, not_false_eq_true, reduceCtorEq] at haq0)
                  (exfalso; omega)
                  all_goals exact Out.ag hK (i + 1, _, _, _) ⟨by show i + 1 ≤ _; omega, hC2⟩ (by show xs.length - (i + 1) < xs.length - i; omega)
              | true =>
                have hp2 : ¬ (m.Status = 1 ∧ m.Vote.Round = 0 ∧ m.Vote.Rep = x.Rep) := by rw [hsm] at hp; simp at hp; omega
                clear hp
                cases th with
                | true =>
                  apply Wp.seq
                  apply Wp.region
                  refine WpL.v (V.cmp) ?_
                  apply WpL.nil
                  apply Out.seqN
                  apply Wp.seq
                  refine Wp.c (fun har0 => ?_) (fun har0 => ?_)
                  (try simp only [decide_eq_true_eq, decide_eq_false_iff_not, Bool.not_eq_true', Bool.not_eq_false', Bool.not_eq_true, Bool.not_eq_false, not_true_eq_false, not_false_eq_true, reduceCtorEq] at har0)
                  apply Wp.skip
                  apply Out.seqN
                  apply Wp.seq
                  apply Wp.block
                  apply Wp.seq
                  apply Wp.region
                  refine WpL.v (V.mv) ?_
                  refine WpL.v (V.ixR tb rfl rfl (by assumption)) ?_
                  refine WpL.v (V.ldRA tb rfl (by assumption) (getMapS (by assumption))) ?_
                  refine WpL.o (O.al tb (fun p16 => ?_))
                  refine WpL.v (V.as) ?_
                  refine WpL.o (O.stA tb ?_)
                  apply WpL.nil
                  apply Out.seqN
                  apply Wp.seq
                  apply Wp.region
                  refine WpL.v (V.mv) ?_
                  refine WpL.v (V.mv) ?_
                  refine WpL.sk ?_
                  refine WpL.sk ?_
                  refine WpL.sk ?_
                  refine WpL.sk ?_
                  refine WpL.sk ?_
                  refine WpL.v (V.pT) ?_
                  refine WpL.v (V.as) ?_
                  apply WpL.nil
                  apply Out.seqN
                  apply Wp.seq
                  apply Wp.region
                  refine WpL.v (V.fa tb) ?_
                  refine WpL.v (V.ld1 tb) ?_
                  refine WpL.v (V.cmp) ?_
                  refine WpL.v (V.mv) ?_
                  refine WpL.pt (fun har1 => ?_) (fun har1 => ?_)
                  (try simp only [decide_eq_true_eq, decide_eq_false_iff_not, Bool.not_eq_true', Bool.not_eq_false', Bool.not_eq_true, Bool.not_eq_false, not_true_eq_false, not_false_eq_true, reduceCtorEq] at har1)
                  refine WpL.v (V.fa tb) ?_
                  refine WpL.v (V.ld1 tb) ?_
                  refine WpL.v (V.pT) ?_
                  refine WpL.v (V.mv) ?_
                  refine WpL.pt (fun har2 => ?_) (fun har2 => ?_)
                  (try simp only [decide_eq_true_eq, decide_eq_false_iff_not, Bool.not_eq_true', Bool.not_eq_false', Bool.not_eq_true, Bool.not_eq_false, not_true_eq_false, not_false_eq_true, reduceCtorEq] at har2)
                  refine WpL.v (V.fa tb) ?_
                  refine WpL.v (V.fa tb) ?_
                  refine WpL.v (V.ld1 tb) ?_
                  refine WpL.v (V.cmp) ?_
                  refine WpL.v (V.pT) ?_
                  refine WpL.v (V.mv) ?_
                  refine WpL.pt (fun har3 => ?_) (fun har3 => ?_)
                  (try simp only [decide_eq_true_eq, decide_eq_false_iff_not, Bool.not_eq_true', Bool.not_eq_false', Bool.not_eq_true, Bool.not_eq_false, not_true_eq_false, not_false_eq_true, reduceCtorEq] at har3)
                  refine WpL.v (V.fa tb) ?_
                  refine WpL.v (V.fa tb) ?_
                  refine WpL.v (V.ld1 tb) ?_
                  refine WpL.v (V.fa tb) ?_
                  refine WpL.v (V.ld1 tb) ?_
                  refine WpL.v (V.cmp) ?_
                  refine WpL.v (V.pT) ?_
                  apply WpL.nil
                  apply Out.seqN
                  refine Wp.c (fun har4 => ?_) (fun har4 => ?_)
                  (try simp only [decide_eq_true_eq, decide_eq_false_iff_not, Bool.not_eq_true', Bool.not_eq_false', Bool.not_eq_true, Bool.not_eq_false, not_true_eq_false, not_false_eq_true, reduceCtorEq] at har4)
                  (exfalso; omega)
                  (try simp only [decide_eq_true_eq, decide_eq_false_iff_not, Bool.not_eq_true', Bool.not_eq_false', Bool.not_eq_true, Bool.not_eq_false, not_true_eq_false, not_false_eq_true, reduceCtorEq] at har4)
                  apply Wp.skip
                  apply Out.blockN
                  apply Out.seqN
                  apply Wp.region
                  refine WpL.v (V.add) ?_
                  refine WpL.v (V.mv) ?_
                  apply WpL.nil
                  rotate_left
                  (try simp only [decide_eq_true_eq, decide_eq_false_iff_not, Bool.not_eq_true', Bool.not_eq_false', Bool.not_eq_true, Bool.not_eq_false, not_true_eq_false, not_false_eq_true, reduceCtorEq] at har3)
                  refine WpL.sk ?_
                  refine WpL.sk ?_
                  refine WpL.sk ?_
                  refine WpL.sk ?_
                  refine WpL.sk ?_
                  refine WpL.sk ?_
                  refine WpL.v (V.pF) ?_
                  apply WpL.nil
                  apply Out.seqN
                  refine Wp.cF ?_
                  apply Wp.skip
                  apply Out.blockN
                  apply Out.seqN
                  apply Wp.region
                  refine WpL.v (V.add) ?_
                  refine WpL.v (V.mv) ?_
                  apply WpL.nil
                  rotate_left
                  (try simp only [decide_eq_true_eq, decide_eq_false_iff_not, Bool.not_eq_true', Bool.not_eq_false', Bool.not_eq_true, Bool.not_eq_false, not_true_eq_false, not_false_eq_true, reduceCtorEq] at har2)
                  exact absurd (Eq.trans (Eq.symm har2) (by assumption) : false = true) (by decide)
                  (try simp only [decide_eq_true_eq, decide_eq_false_iff_not, Bool.not_eq_true', Bool.not_eq_false', Bool.not_eq_true, Bool.not_eq_false, not_true_eq_false, not_false_eq_true, reduceCtorEq] at har1)
                  refine WpL.sk ?_
                  refine WpL.sk ?_
                  refine WpL.v (V.pF) ?_
                  refine WpL.v (V.mv) ?_
                  refine WpL.sk ?_
                  refine WpL.sk ?_
                  refine WpL.sk ?_
                  refine WpL.sk ?_
                  refine WpL.v (V.pF) ?_
                  refine WpL.v (V.mv) ?_
                  refine WpL.sk ?_
                  refine WpL.sk ?_
                  refine WpL.sk ?_
                  refine WpL.sk ?_
                  refine WpL.sk ?_
                  refine WpL.sk ?_
                  refine WpL.v (V.pF) ?_
                  apply WpL.nil
                  apply Out.seqN
                  refine Wp.cF ?_
                  apply Wp.skip
                  apply Out.blockN
                  apply Out.seqN
                  apply Wp.region
                  refine WpL.v (V.add) ?_
                  refine WpL.v (V.mv) ?_
                  apply WpL.nil
                  rotate_left
                  (try simp only [decide_eq_true_eq, decide_eq_false_iff_not, Bool.not_eq_true', Bool.not_eq_false', Bool.not_eq_true, Bool.not_eq_false, not_true_eq_false, not_false_eq_true, reduceCtorEq] at har0)
                  (exfalso; omega)
                  all_goals exact Out.ag hK (i + 1, _, _, _) ⟨by show i + 1 ≤ _; omega, hC2⟩ (by show xs.length - (i + 1) < xs.length - i; omega)
                | false =>
                  apply Wp.seq
                  apply Wp.region
                  refine WpL.v (V.cmp) ?_
                  apply WpL.nil
                  apply Out.seqN
                  apply Wp.seq
                  refine Wp.c (fun has0 => ?_) (fun has0 => ?_)
                  (try simp only [decide_eq_true_eq, decide_eq_false_iff_not, Bool.not_eq_true', Bool.not_eq_false', Bool.not_eq_true, Bool.not_eq_false, not_true_eq_false, not_false_eq_true, reduceCtorEq] at has0)
                  apply Wp.skip
                  apply Out.seqN
                  apply Wp.seq
                  apply Wp.block
                  apply Wp.seq
                  apply Wp.region
                  refine WpL.v (V.mv) ?_
                  refine WpL.v (V.ixR tb rfl rfl (by assumption)) ?_
                  refine WpL.v (V.ldRA tb rfl (by assumption) (getMapS (by assumption))) ?_
                  refine WpL.o (O.al tb (fun p16 => ?_))
                  refine WpL.v (V.as) ?_
                  refine WpL.o (O.stA tb ?_)
                  apply WpL.nil
                  apply Out.seqN
                  apply Wp.seq
                  apply Wp.region
                  refine WpL.v (V.mv) ?_
                  refine WpL.v (V.mv) ?_
                  refine WpL.v (V.fa tb) ?_
                  refine WpL.v (V.ld1 tb) ?_
                  refine WpL.v (V.fa tb) ?_
                  refine WpL.v (V.ld1 tb) ?_
                  refine WpL.v (V.cmp) ?_
                  refine WpL.v (V.pF) ?_
                  refine WpL.v (V.as) ?_
                  apply WpL.nil
                  apply Out.seqN
                  apply Wp.seq
                  apply Wp.region
                  refine WpL.v (V.fa tb) ?_
                  refine WpL.v (V.ld1 tb) ?_
                  refine WpL.v (V.cmp) ?_
                  refine WpL.v (V.mv) ?_
                  refine WpL.pt (fun has1 => ?_) (fun has1 => ?_)
                  (try simp only [decide_eq_true_eq, decide_eq_false_iff_not, Bool.not_eq_true', Bool.not_eq_false', Bool.not_eq_true, Bool.not_eq_false, not_true_eq_false, not_false_eq_true, reduceCtorEq] at has1)
                  refine WpL.v (V.fa tb) ?_
                  refine WpL.v (V.ld1 tb) ?_
                  refine WpL.v (V.pT) ?_
                  refine WpL.v (V.mv) ?_
                  refine WpL.pt (fun has2 => ?_) (fun has2 => ?_)
                  (try simp only [decide_eq_true_eq, decide_eq_false_iff_not, Bool.not_eq_true', Bool.not_eq_false', Bool.not_eq_true, Bool.not_eq_false, not_true_eq_false, not_false_eq_true, reduceCtorEq] at has2)
                  refine WpL.v (V.fa tb) ?_
                  refine WpL.v (V.fa tb) ?_
                  refine WpL.v (V.ld1 tb) ?_
                  refine WpL.v (V.cmp) ?_
                  refine WpL.v (V.pT) ?_
                  refine WpL.v (V.mv) ?_
                  refine WpL.pt (fun has3 => ?_) (fun has3 => ?_)
                  (try simp only [decide_eq_true_eq, decide_eq_false_iff_not, Bool.not_eq_true', Bool.not_eq_false', Bool.not_eq_true, Bool.not_eq_false, not_true_eq_false, not_false_eq_true, reduceCtorEq] at has3)
                  refine WpL.v (V.fa tb) ?_
                  refine WpL.v (V.fa tb) ?_
                  refine WpL.v (V.ld1 tb) ?_
                  refine WpL.v (V.fa tb) ?_
                  refine WpL.v (V.ld1 tb) ?_
                  refine WpL.v (V.cmp) ?_
                  refine WpL.v (V.pT) ?_
                  apply WpL.nil
                  apply Out.seqN
                  refine Wp.c (fun has4 => ?_) (fun has4 => ?_)
                  (try simp only [decide_eq_true_eq, decide_eq_false_iff_not, Bool.not_eq_true', Bool.not_eq_false', Bool.not_eq_true, Bool.not_eq_false, not_true_eq_false, not_false_eq_true, reduceCtorEq] at has4)
                  (exfalso; omega)
                  (try simp only [decide_eq_true_eq, decide_eq_false_iff_not, Bool.not_eq_true', Bool.not_eq_false', Bool.not_eq_true, Bool.not_eq_false, not_true_eq_false, not_false_eq_true, reduceCtorEq] at has4)
                  apply Wp.skip
                  apply Out.blockN
                  apply Out.seqN
                  apply Wp.region
                  refine WpL.v (V.add) ?_
                  refine WpL.v (V.mv) ?_
                  apply WpL.nil
                  rotate_left
                  (try simp only [decide_eq_true_eq, decide_eq_false_iff_not, Bool.not_eq_true', Bool.not_eq_false', Bool.not_eq_true, Bool.not_eq_false, not_true_eq_false, not_false_eq_true, reduceCtorEq] at has3)
                  refine WpL.sk ?_
                  refine WpL.sk ?_
                  refine WpL.sk ?_
                  refine WpL.sk ?_
                  refine WpL.sk ?_
                  refine WpL.sk ?_
                  refine WpL.v (V.pF) ?_
                  apply WpL.nil
                  apply Out.seqN
                  refine Wp.cF ?_
                  apply Wp.skip
                  apply Out.blockN
                  apply Out.seqN
                  apply Wp.region
                  refine WpL.v (V.add) ?_
                  refine WpL.v (V.mv) ?_
                  apply WpL.nil
                  rotate_left
                  (try simp only [decide_eq_true_eq, decide_eq_false_iff_not, Bool.not_eq_true', Bool.not_eq_false', Bool.not_eq_true, Bool.not_eq_false, not_true_eq_false, not_false_eq_true, reduceCtorEq] at has2)
                  exact absurd (Eq.trans (Eq.symm has2) (by assumption) : false = true) (by decide)
                  (try simp only [decide_eq_true_eq, decide_eq_false_iff_not, Bool.not_eq_true', Bool.not_eq_false', Bool.not_eq_true, Bool.not_eq_false, not_true_eq_false, not_false_eq_true, reduceCtorEq] at has1)
                  refine WpL.sk ?_
                  refine WpL.sk ?_
                  refine WpL.v (V.pF) ?_
                  refine WpL.v (V.mv) ?_
                  refine WpL.sk ?_
                  refine WpL.sk ?_
                  refine WpL.sk ?_
                  refine WpL.sk ?_
                  refine WpL.v (V.pF) ?_
                  refine WpL.v (V.mv) ?_
                  refine WpL.sk ?_
                  refine WpL.sk ?_
                  refine WpL.sk ?_
                  refine WpL.sk ?_
                  refine WpL.sk ?_
                  refine WpL.sk ?_
                  refine WpL.v (V.pF) ?_
                  apply WpL.nil
                  apply Out.seqN
                  refine Wp.cF ?_
                  apply Wp.skip
                  apply Out.blockN
                  apply Out.seqN
                  apply Wp.region
                  refine WpL.v (V.add) ?_
                  refine WpL.v (V.mv) ?_
                  apply WpL.nil
                  rotate_left
                  (try simp only [decide_eq_true_eq, decide_eq_false_iff_not, Bool.not_eq_true', Bool.not_eq_false', Bool.not_eq_true, Bool.not_eq_false, not_true_eq_false, not_false_eq_true, reduceCtorEq] at has0)
                  (exfalso; omega)
                  all_goals exact Out.ag hK (i + 1, _, _, _) ⟨by show i + 1 ≤ _; omega, hC2⟩ (by show xs.length - (i + 1) < xs.length - i; omega)
            | true =>
              have hC2 := hC.yes hp
              rw [← q1, hil] at hC2
              rw [sameP_def] at hp
              simp only [Bool.and_eq_true, decide_eq_true_eq] at hp
              obtain ⟨p1, p2, p3, p4⟩ := hp
              by_cases hf0 : f < 0
              · rw [if_pos hf0] at hC2
                cases th with
                | true =>
                  apply Wp.seq
                  apply Wp.region
                  refine WpL.v (V.cmp) ?_
                  apply WpL.nil
                  apply Out.seqN
                  apply Wp.seq
                  refine Wp.c (fun hat0 => ?_) (fun hat0 => ?_)
                  (try simp only [decide_eq_true_eq, decide_eq_false_iff_not, Bool.not_eq_true', Bool.not_eq_false', Bool.not_eq_true, Bool.not_eq_false, not_true_eq_false, not_false_eq_true, reduceCtorEq] at hat0)
                  apply Wp.skip
                  apply Out.seqN
                  apply Wp.seq
                  apply Wp.block
                  apply Wp.seq
                  apply Wp.region
                  refine WpL.v (V.mv) ?_
                  refine WpL.v (V.ixR tb rfl rfl (by assumption)) ?_
                  refine WpL.v (V.ldRA tb rfl (by assumption) (getMapS (by assumption))) ?_
                  refine WpL.o (O.al tb (fun p16 => ?_))
                  refine WpL.v (V.as) ?_
                  refine WpL.o (O.stA tb ?_)
                  apply WpL.nil
                  apply Out.seqN
                  apply Wp.seq
                  apply Wp.region
                  refine WpL.v (V.mv) ?_
                  refine WpL.v (V.mv) ?_
                  refine WpL.sk ?_
                  refine WpL.sk ?_
                  refine WpL.sk ?_
                  refine WpL.sk ?_
                  refine WpL.sk ?_
                  refine WpL.v (V.pT) ?_
                  refine WpL.v (V.as) ?_
                  apply WpL.nil
                  apply Out.seqN
                  apply Wp.seq
                  apply Wp.region
                  refine WpL.v (V.fa tb) ?_
                  refine WpL.v (V.ld1 tb) ?_
                  refine WpL.v (V.cmp) ?_
                  refine WpL.v (V.mv) ?_
                  refine WpL.pt (fun hat1 => ?_) (fun hat1 => ?_)
                  (try simp only [decide_eq_true_eq, decide_eq_false_iff_not, Bool.not_eq_true', Bool.not_eq_false', Bool.not_eq_true, Bool.not_eq_false, not_true_eq_false, not_false_eq_true, reduceCtorEq] at hat1)
                  refine WpL.v (V.fa tb) ?_
                  refine WpL.v (V.ld1 tb) ?_
                  refine WpL.v (V.pT) ?_
                  refine WpL.v (V.mv) ?_
                  refine WpL.pt (fun hat2 => ?_) (fun hat2 => ?_)
                  (try simp only [decide_eq_true_eq, decide_eq_false_iff_not, Bool.not_eq_true', Bool.not_eq_false', Bool.not_eq_true, Bool.not_eq_false, not_true_eq_false, not_false_eq_true, reduceCtorEq] at hat2)
                  refine WpL.v (V.fa tb) ?_
                  refine WpL.v (V.fa tb) ?_
                  refine WpL.v (V.ld1 tb) ?_
                  refine WpL.v (V.cmp) ?_
                  refine WpL.v (V.pT) ?_
                  refine WpL.v (V.mv) ?_
                  refine WpL.pt (fun hat3 => ?_) (fun hat3 => ?_)
                  (try simp only [decide_eq_true_eq, decide_eq_false_iff_not, Bool.not_eq_true', Bool.not_eq_false', Bool.not_eq_true, Bool.not_eq_false, not_true_eq_false, not_false_eq_true, reduceCtorEq] at hat3)
                  refine WpL.v (V.fa tb) ?_
                  refine WpL.v (V.fa tb) ?_
                  refine WpL.v (V.ld1 tb) ?_
                  refine WpL.v (V.fa tb) ?_
                  refine WpL.v (V.ld1 tb) ?_
                  refine WpL.v (V.cmp) ?_
                  refine WpL.v (V.pT) ?_
                  apply WpL.nil
                  apply Out.seqN
                  refine Wp.c (fun hat4 => ?_) (fun hat4 => ?_)
                  (try simp only [decide_eq_true_eq, decide_eq_false_iff_not, Bool.not_eq_true', Bool.not_eq_false', Bool.not_eq_true, Bool.not_eq_false, not_true_eq_false, not_false_eq_true, reduceCtorEq] at hat4)
                  apply Wp.seq
                  apply Wp.region
                  refine WpL.v (V.mv) ?_
                  refine WpL.v (V.add) ?_
                  refine WpL.v (V.as) ?_
                  apply WpL.nil
                  apply Out.seqN
                  apply Wp.seq
                  apply Wp.region
                  refine WpL.v (V.mv) ?_
                  refine WpL.v (V.cmp) ?_
                  apply WpL.nil
                  apply Out.seqN
                  refine Wp.c (fun hat5 => ?_) (fun hat5 => ?_)
                  (try simp only [decide_eq_true_eq, decide_eq_false_iff_not, Bool.not_eq_true', Bool.not_eq_false', Bool.not_eq_true, Bool.not_eq_false, not_true_eq_false, not_false_eq_true, reduceCtorEq] at hat5)
                  apply Wp.region
                  refine WpL.v (V.mv) ?_
                  refine WpL.v (V.as) ?_
                  apply WpL.nil
                  apply Out.blockN
                  apply Out.seqN
                  apply Wp.region
                  refine WpL.v (V.add) ?_
                  refine WpL.v (V.mv) ?_
                  apply WpL.nil
                  rotate_left
                  (try simp only [decide_eq_true_eq, decide_eq_false_iff_not, Bool.not_eq_true', Bool.not_eq_false', Bool.not_eq_true, Bool.not_eq_false, not_true_eq_false, not_false_eq_true, reduceCtorEq] at hat5)
                  (exfalso; omega)
                  (try simp only [decide_eq_true_eq, decide_eq_false_iff_not, Bool.not_eq_true', Bool.not_eq_false', Bool.not_eq_true, Bool.not_eq_false, not_true_eq_false, not_false_eq_true, reduceCtorEq] at hat4)
                  (exfalso; omega)
                  (try simp only [decide_eq_true_eq, decide_eq_false_iff_not, Bool.not_eq_true', Bool.not_eq_false', Bool.not_eq_true, Bool.not_eq_false, not_true_eq_false, not_false_eq_true, reduceCtorEq] at hat3)
                  (exfalso; omega)
                  (try simp only [decide_eq_true_eq, decide_eq_false_iff_not, Bool.not_eq_true', Bool.not_eq_false', Bool.not_eq_true, Bool.not_eq_false, not_true_eq_false, not_false_eq_true, reduceCtorEq] at hat2)
                  exact absurd (Eq.trans (Eq.symm hat2) (by assumption) : false = true) (by decide)
                  (try simp only [decide_eq_true_eq, decide_eq_false_iff_not, Bool.not_eq_true', Bool.not_eq_false', Bool.not_eq_true, Bool.not_eq_false, not_true_eq_false, not_false_eq_true, reduceCtorEq] at hat1)
                  (exfalso; omega)
                  (try simp only [decide_eq_true_eq, decide_eq_false_iff_not, Bool.not_eq_true', Bool.not_eq_false', Bool.not_eq_true, Bool.not_eq_false, not_true_eq_false, not_false_eq_true, reduceCtorEq] at hat0)
                  (exfalso; omega)
                  all_goals exact Out.ag hK (i + 1, _, _, _) ⟨by show i + 1 ≤ _; omega, hC2⟩ (by show xs.length - (i + 1) < xs.length - i; omega)
                | false =>
                  apply Wp.seq
                  apply Wp.region
                  refine WpL.v (V.cmp) ?_
                  apply WpL.nil
                  apply Out.seqN
                  apply Wp.seq
                  refine Wp.c (fun hau0 => ?_) (fun hau0 => ?_)
                  (try simp only [decide_eq_true_eq, decide_eq_false_iff_not, Bool.not_eq_true', Bool.not_eq_false', Bool.not_eq_true, Bool.not_eq_false, not_true_eq_false, not_false_eq_true, reduceCtorEq] at hau0)
                  apply Wp.skip
                  apply Out.seqN
                  apply Wp.seq
                  apply Wp.block
                  apply Wp.seq
                  apply Wp.region
                  refine WpL.v (V.mv) ?_
                  refine WpL.v (V.ixR tb rfl rfl (by assumption)) ?_
                  refine WpL.v (V.ldRA tb rfl (by assumption) (getMapS (by assumption))) ?_
                  refine WpL.o (O.al tb (fun p16 => ?_))
                  refine WpL.v (V.as) ?_
                  refine WpL.o (O.stA tb ?_)
                  apply WpL.nil
                  apply Out.seqN
                  apply Wp.seq
                  apply Wp.region
                  refine WpL.v (V.mv) ?_
                  refine WpL.v (V.mv) ?_
                  refine WpL.v (V.fa tb) ?_
                  refine WpL.v (V.ld1 tb) ?_
                  refine WpL.v (V.fa tb) ?_
                  refine WpL.v (V.ld1 tb) ?_
                  refine WpL.v (V.cmp) ?_
                  refine WpL.v (V.pF) ?_
                  refine WpL.v (V.as) ?_
                  apply WpL.nil
                  apply Out.seqN
                  apply Wp.seq
                  apply Wp.region
                  refine WpL.v (V.fa tb) ?_
                  refine WpL.v (V.ld1 tb) ?_
                  refine WpL.v (V.cmp) ?_
                  refine WpL.v (V.mv) ?_
                  refine WpL.pt (fun hau1 => ?_) (fun hau1 => ?_)
                  (try simp only [decide_eq_true_eq, decide_eq_false_iff_not, Bool.not_eq_true', Bool.not_eq_false', Bool.not_eq_true, Bool.not_eq_false, not_true_eq_false, not_false_eq_true, reduceCtorEq] at hau1)
                  refine WpL.v (V.fa tb) ?_
                  refine WpL.v (V.ld1 tb) ?_
                  refine WpL.v (V.pT) ?_
                  refine WpL.v (V.mv) ?_
                  refine WpL.pt (fun hau2 => ?_) (fun hau2 => ?_)
                  (try simp only [decide_eq_true_eq, decide_eq_false_iff_not, Bool.not_eq_true', Bool.not_eq_false', Bool.not_eq_true, Bool.not_eq_false, not_true_eq_false, not_false_eq_true, reduceCtorEq] at hau2)
                  refine WpL.v (V.fa tb) ?_
                  refine WpL.v (V.fa tb) ?_
                  refine WpL.v (V.ld1 tb) ?_
                  refine WpL.v (V.cmp) ?_
                  refine WpL.v (V.pT) ?_
                  refine WpL.v (V.mv) ?_
                  refine WpL.pt (fun hau3 => ?_) (fun hau3 => ?_)
                  (try simp only [decide_eq_true_eq, decide_eq_false_iff_not, Bool.not_eq_true', Bool.not_eq_false', Bool.not_eq_true, Bool.not_eq_false, not_true_eq_false, not_false_eq_true, reduceCtorEq] at hau3)
                  refine WpL.v (V.fa tb) ?_
                  refine WpL.v (V.fa tb) ?_
                  refine WpL.v (V.ld1 tb) ?_
                  refine WpL.v (V.fa tb) ?_
                  refine WpL.v (V.ld1 tb) ?_
                  refine WpL.v (V.cmp) ?_
                  refine WpL.v (V.pT) ?_
                  apply WpL.nil
                  apply Out.seqN
                  refine Wp.c (fun hau4 => ?_) (fun hau4 => ?_)
                  (try simp only [decide_eq_true_eq, decide_eq_false_iff_not, Bool.not_eq_true', Bool.not_eq_false', Bool.not_eq_true, Bool.not_eq_false, not_true_eq_false, not_false_eq_true, reduceCtorEq] at hau4)
                  apply Wp.seq
                  apply Wp.region
                  refine WpL.v (V.mv) ?_
                  refine WpL.v (V.add) ?_
                  refine WpL.v (V.as) ?_
                  apply WpL.nil
                  apply Out.seqN
                  apply Wp.seq
                  apply Wp.region
                  refine WpL.v (V.mv) ?_
                  refine WpL.v (V.cmp) ?_
                  apply WpL.nil
                  apply Out.seqN
                  refine Wp.c (fun hau5 => ?_) (fun hau5 => ?_)
                  (try simp only [decide_eq_true_eq, decide_eq_false_iff_not, Bool.not_eq_true', Bool.not_eq_false', Bool.not_eq_true, Bool.not_eq_false, not_true_eq_false, not_false_eq_true, reduceCtorEq] at hau5)
                  apply Wp.region
                  refine WpL.v (V.mv) ?_
                  refine WpL.v (V.as) ?_
                  apply WpL.nil
                  apply Out.blockN
                  apply Out.seqN
                  apply Wp.region
                  refine WpL.v (V.add) ?_
                  refine WpL.v (V.mv) ?_
                  apply WpL.nil
                  rotate_left
                  (try simp only [decide_eq_true_eq, decide_eq_false_iff_not, Bool.not_eq_true', Bool.not_eq_false', Bool.not_eq_true, Bool.not_eq_false, not_true_eq_false, not_false_eq_true, reduceCtorEq] at hau5)
                  (exfalso; omega)
                  (try simp only [decide_eq_true_eq, decide_eq_false_iff_not, Bool.not_eq_true', Bool.not_eq_false', Bool.not_eq_true, Bool.not_eq_false, not_true_eq_false, not_false_eq_true, reduceCtorEq] at hau4)
                  (exfalso; omega)
                  (try simp only [decide_eq_true_eq, decide_eq_false_iff_not, Bool.not_eq_true', Bool.not_eq_false', Bool.not_eq_true, Bool.not_eq_false, not_true_eq_false, not_false_eq_true, reduceCtorEq] at hau3)
                  (exfalso; omega)
                  (try simp only [decide_eq_true_eq, decide_eq_false_iff_not, Bool.not_eq_true', Bool.not_eq_false', Bool.not_eq_true, Bool.not_eq_false, not_true_eq_false, not_false_eq_true, reduceCtorEq] at hau2)
                  exact absurd (Eq.trans (Eq.symm hau2) (by assumption) : false = true) (by decide)
                  (try simp only [decide_eq_true_eq, decide_eq_false_iff_not, Bool.not_eq_true', Bool.not_eq_false', Bool.not_eq_true, Bool.not_eq_false, not_true_eq_false, not_false_eq_true, reduceCtorEq] at hau1)
                  (exfalso; omega)
                  (try simp only [decide_eq_true_eq, decide_eq_false_iff_not, Bool.not_eq_true', Bool.not_eq_false', Bool.not_eq_true, Bool.not_eq_false, not_true_eq_false, not_false_eq_true, reduceCtorEq] at hau0)
                  (exfalso; omega)
                  all_goals exact Out.ag hK (i + 1, _, _, _) ⟨by show i + 1 ≤ _; omega, hC2⟩ (by show xs.length - (i + 1) < xs.length - i; omega)
              · rw [if_neg hf0] at hC2
                cases th with
                | true =>
                  apply Wp.seq
                  apply Wp.region
                  refine WpL.v (V.cmp) ?_
                  apply WpL.nil
                  apply Out.seqN
                  apply Wp.seq
                  refine Wp.c (fun hav0 => ?_) (fun hav0 => ?_)
                  (try simp only [decide_eq_true_eq, decide_eq_false_iff_not, Bool.not_eq_true', Bool.not_eq_false', Bool.not_eq_true, Bool.not_eq_false, not_true_eq_false, not_false_eq_true, reduceCtorEq] at hav0)
                  apply Wp.skip
                  apply Out.seqN
                  apply Wp.seq
                  apply Wp.block
                  apply Wp.seq
                  apply Wp.region
                  refine WpL.v (V.mv) ?_
                  refine WpL.v (V.ixR tb rfl rfl (by assumption)) ?_
                  refine WpL.v (V.ldRA tb rfl (by assumption) (getMapS (by assumption))) ?_
                  refine WpL.o (O.al tb (fun p16 => ?_))
                  refine WpL.v (V.as) ?_
                  refine WpL.o (O.stA tb ?_)
                  apply WpL.nil
                  apply Out.seqN
                  apply Wp.seq
                  apply Wp.region
                  refine WpL.v (V.mv) ?_
                  refine WpL.v (V.mv) ?_
                  refine WpL.sk ?_
                  refine WpL.sk ?_
                  refine WpL.sk ?_
                  refine WpL.sk ?_
                  refine WpL.sk ?_
                  refine WpL.v (V.pT) ?_
                  refine WpL.v (V.as) ?_
                  apply WpL.nil
                  apply Out.seqN
                  apply Wp.seq
                  apply Wp.region
                  refine WpL.v (V.fa tb) ?_
                  refine WpL.v (V.ld1 tb) ?_
                  refine WpL.v (V.cmp) ?_
                  refine WpL.v (V.mv) ?_
                  refine WpL.pt (fun hav1 => ?_) (fun hav1 => ?_)
                  (try simp only [decide_eq_true_eq, decide_eq_false_iff_not, Bool.not_eq_true', Bool.not_eq_false', Bool.not_eq_true, Bool.not_eq_false, not_true_eq_false, not_false_eq_true, reduceCtorEq] at hav1)
                  refine WpL.v (V.fa tb) ?_
                  refine WpL.v (V.ld1 tb) ?_
                  refine WpL.v (V.pT) ?_
                  refine WpL.v (V.mv) ?_
                  refine WpL.pt (fun hav2 => ?_) (fun hav2 => ?_)
                  (try simp only [decide_eq_true_eq, decide_eq_false_iff_not, Bool.not_eq_true', Bool.not_eq_false', Bool.not_eq_true, Bool.not_eq_false, not_true_eq_false, not_false_eq_true, reduceCtorEq] at hav2)
                  refine WpL.v (V.fa tb) ?_
                  refine WpL.v (V.fa tb) ?_
                  refine WpL.v (V.ld1 tb) ?_
                  refine WpL.v (V.cmp) ?_
                  refine WpL.v (V.pT) ?_
                  refine WpL.v (V.mv) ?_
                  refine WpL.pt (fun hav3 => ?_) (fun hav3 => ?_)
                  (try simp only [decide_eq_true_eq, decide_eq_false_iff_not, Bool.not_eq_true', Bool.not_eq_false', Bool.not_eq_true, Bool.not_eq_false, not_true_eq_false, not_false_eq_true, reduceCtorEq] at hav3)
                  refine WpL.v (V.fa tb) ?_
                  refine WpL.v (V.fa tb) ?_
                  refine WpL.v (V.ld1 tb) ?_
                  refine WpL.v (V.fa tb) ?_
                  refine WpL.v (V.ld1 tb) ?_
                  refine WpL.v (V.cmp) ?_
                  refine WpL.v (V.pT) ?_
                  apply WpL.nil
                  apply Out.seqN
                  refine Wp.c (fun hav4 => ?_) (fun hav4 => ?_)
                  (try simp only [decide_eq_true_eq, decide_eq_false_iff_not, Bool.not_eq_true', Bool.not_eq_false', Bool.not_eq_true, Bool.not_eq_false, not_true_eq_false, not_false_eq_true, reduceCtorEq] at hav4)
                  apply Wp.seq
                  apply Wp.region
                  refine WpL.v (V.mv) ?_
                  refine WpL.v (V.add) ?_
                  refine WpL.v (V.as) ?_
                  apply WpL.nil
                  apply Out.seqN
                  apply Wp.seq
                  apply Wp.region
                  refine WpL.v (V.mv) ?_
                  refine WpL.v (V.cmp) ?_
                  apply WpL.nil
                  apply Out.seqN
                  refine Wp.c (fun hav5 => ?_) (fun hav5 => ?_)
                  (try simp only [decide_eq_true_eq, decide_eq_false_iff_not, Bool.not_eq_true', Bool.not_eq_false', Bool.not_eq_true, Bool.not_eq_false, not_true_eq_false, not_false_eq_true, reduceCtorEq] at hav5)
                  (exfalso; omega)
                  (try simp only [decide_eq_true_eq, decide_eq_false_iff_not, Bool.not_eq_true', Bool.not_eq_false', Bool.not_eq_true, Bool.not_eq_false, not_true_eq_false, not_false_eq_true, reduceCtorEq] at hav5)
                  apply Wp.skip
                  apply Out.blockN
                  apply Out.seqN
                  apply Wp.region
                  refine WpL.v (V.add) ?_
                  refine WpL.v (V.mv) ?_
                  apply WpL.nil
                  rotate_left
                  (try simp only [decide_eq_true_eq, decide_eq_false_iff_not, Bool.not_eq_true', Bool.not_eq_false', Bool.not_eq_true, Bool.not_eq_false, not_true_eq_false, not_false_eq_true, reduceCtorEq] at hav4)
                  (exfalso; omega)
                  (try simp only [decide_eq_true_eq, decide_eq_false_iff_not, Bool.not_eq_true', Bool.not_eq_false', Bool.not_eq_true, Bool.not_eq_false, not_true_eq_false, not_false_eq_true, reduceCtorEq] at hav3)
                  (exfalso; omega)
                  (try simp only [decide_eq_true_eq, decide_eq_false_iff_not, Bool.not_eq_true', Bool.not_eq_false', Bool.not_eq_true, Bool.not_eq_false, not_true_eq_false, not_false_eq_true, reduceCtorEq] at hav2)
                  exact absurd (Eq.trans (Eq.symm hav2) (by assumption) : false = true) (by decide)
                  (try simp only [decide_eq_true_eq, decide_eq_false_iff_not, Bool.not_eq_true', Bool.not_eq_false', Bool.not_eq_true, Bool.not_eq_false, not_true_eq_false, not_false_eq_true, reduceCtorEq] at hav1)
                  (exfalso; omega)
                  (try simp only [decide_eq_true_eq, decide_eq_false_iff_not, Bool.not_eq_true', Bool.not_eq_false', Bool.not_eq_true, Bool.not_eq_false, not_true_eq_false, not_false_eq_true, reduceCtorEq] at hav0)
                  (exfalso; omega)
                  all_goals exact Out.ag hK (i + 1, _, _, _) ⟨by show i + 1 ≤ _; omega, hC2⟩ (by show xs.length - (i + 1) < xs.length - i; omega)
                | false =>
                  apply Wp.seq
                  apply Wp.region
                  refine WpL.v (V.cmp) ?_
                  apply WpL.nil
                  apply Out.seqN
                  apply Wp.seq
                  refine Wp.c (fun hax0 => ?_) (fun hax0 => ?_)
                  (try simp only [decide_eq_true_eq, decide_eq_false_iff_not, Bool.not_eq_true', Bool.not_eq_false', Bool.not_eq_true, Bool.not_eq_false, not_true_eq_false, not_false_eq_true, reduceCtorEq] at hax0)
                  apply Wp.skip
                  apply Out.seqN
                  apply Wp.seq
                  apply Wp.block
                  apply Wp.seq
                  apply Wp.region
                  refine WpL.v (V.mv) ?_
                  refine WpL.v (V.ixR tb rfl rfl (by assumption)) ?_
                  refine WpL.v (V.ldRA tb rfl (by assumption) (getMapS (by assumption))) ?_
                  refine WpL.o (O.al tb (fun p16 => ?_))
                  refine WpL.v (V.as) ?_
                  refine WpL.o (O.stA tb ?_)
                  apply WpL.nil
                  apply Out.seqN
                  apply Wp.seq
                  apply Wp.region
                  refine WpL.v (V.mv) ?_
                  refine WpL.v (V.mv) ?_
                  refine WpL.v (V.fa tb) ?_
                  refine WpL.v (V.ld1 tb) ?_
                  refine WpL.v (V.fa tb) ?_
                  refine WpL.v (V.ld1 tb) ?_
                  refine WpL.v (V.cmp) ?_
                  refine WpL.v (V.pF) ?_
                  refine WpL.v (V.as) ?_
                  apply WpL.nil
                  apply Out.seqN
                  apply Wp.seq
                  apply Wp.region
                  refine WpL.v (V.fa tb) ?_
                  refine WpL.v (V.ld1 tb) ?_
                  refine WpL.v (V.cmp) ?_
                  refine WpL.v (V.mv) ?_
                  refine WpL.pt (fun hax1 => ?_) (fun hax1 => ?_)
                  (try simp only [decide_eq_true_eq, decide_eq_false_iff_not, Bool.not_eq_true', Bool.not_eq_false', Bool.not_eq_true, Bool.not_eq_false, not_true_eq_false, not_false_eq_true, reduceCtorEq] at hax1)
                  refine WpL.v (V.fa tb) ?_
                  refine WpL.v (V.ld1 tb) ?_
                  refine WpL.v (V.pT) ?_
                  refine WpL.v (V.mv) ?_
                  refine WpL.pt (fun hax2 => ?_) (fun hax2 => ?_)
                  (try simp only [decide_eq_true_eq, decide_eq_false_iff_not, Bool.not_eq_true', Bool.not_eq_false', Bool.not_eq_true, Bool.not_eq_false, not_true_eq_false, not_false_eq_true, reduceCtorEq] at hax2)
                  refine WpL.v (V.fa tb) ?_
                  refine WpL.v (V.fa tb) ?_
                  refine WpL.v (V.ld1 tb) ?_
                  refine WpL.v (V.cmp) ?_
                  refine WpL.v (V.pT) ?_
                  refine WpL.v (V.mv) ?_
                  refine WpL.pt (fun hax3 => ?_) (fun hax3 => ?_)
                  (try simp only [decide_eq_true_eq, decide_eq_false_iff_not, Bool.not_eq_true', Bool.not_eq_false', Bool.not_eq_true, Bool.not_eq_false, not_true_eq_false, not_false_eq_true, reduceCtorEq] at hax3)
                  refine WpL.v (V.fa tb) ?_
                  refine WpL.v (V.fa tb) ?_
                  refine WpL.v (V.ld1 tb) ?_
                  refine WpL.v (V.fa tb) ?_
                  refine WpL.v (V.ld1 tb) ?_
                  refine WpL.v (V.cmp) ?_
                  refine WpL.v (V.pT) ?_
                  apply WpL.nil
                  apply Out.seqN
                  refine Wp.c (fun hax4 => ?_) (fun hax4 => ?_)
                  (try simp only [decide_eq_true_eq, decide_eq_false_iff_not, Bool.not_eq_true', Bool.not_eq_false', Bool.not_eq_true, Bool.not_eq_false, not_true_eq_false, not_false_eq_true, reduceCtorEq] at hax4)
                  apply Wp.seq
                  apply Wp.region
                  refine WpL.v (V.mv) ?_
                  refine WpL.v (V.add) ?_
                  refine WpL.v (V.as) ?_
                  apply WpL.nil
                  apply Out.seqN
                  apply Wp.seq
                  apply Wp.region
                  refine WpL.v (V.mv) ?_
                  refine WpL.v (V.cmp) ?_
                  apply WpL.nil
                  apply Out.seqN
                  refine Wp.c (fun hax5 => ?_) (fun hax5 => ?_)
                  (try simp only [decide_eq_true_eq, decide_eq_false_iff_not, Bool.not_eq_true', Bool.not_eq_false', Bool.not_eq_true, Bool.not_eq_false, not_true_eq_false, not_false_eq_true, reduceCtorEq] at hax5)
                  (exfalso; omega)
                  (try simp only [decide_eq_true_eq, decide_eq_false_iff_not, Bool.not_eq_true', Bool.not_eq_false', Bool.not_eq_true, Bool.not_eq_false, not_true_eq_false, not_false_eq_true, reduceCtorEq] at hax5)
                  apply Wp.skip
                  apply Out.blockN
                  apply Out.seqN
                  apply Wp.region
                  refine WpL.v (V.add) ?_
                  refine WpL.v (V.mv) ?_
                  apply WpL.nil
                  rotate_left
                  (try simp only [decide_eq_true_eq, decide_eq_false_iff_not, Bool.not_eq_true', Bool.not_eq_false', Bool.not_eq_true, Bool.not_eq_false, not_true_eq_false, not_false_eq_true, reduceCtorEq] at hax4)
                  (exfalso; omega)
                  (try simp only [decide_eq_true_eq, decide_eq_false_iff_not, Bool.not_eq_true', Bool.not_eq_false', Bool.not_eq_true, Bool.not_eq_false, not_true_eq_false, not_false_eq_true, reduceCtorEq] at hax3)
                  (exfalso; omega)
                  (try simp only [decide_eq_true_eq, decide_eq_false_iff_not, Bool.not_eq_true', Bool.not_eq_false', Bool.not_eq_true, Bool.not_eq_false, not_true_eq_false, not_false_eq_true, reduceCtorEq] at hax2)
                  exact absurd (Eq.trans (Eq.symm hax2) (by assumption) : false = true) (by decide)
                  (try simp only [decide_eq_true_eq, decide_eq_false_iff_not, Bool.not_eq_true', Bool.not_eq_false', Bool.not_eq_true, Bool.not_eq_false, not_true_eq_false, not_false_eq_true, reduceCtorEq] at hax1)
                  (exfalso; omega)
                  (try simp only [decide_eq_true_eq, decide_eq_false_iff_not, Bool.not_eq_true', Bool.not_eq_false', Bool.not_eq_true, Bool.not_eq_false, not_true_eq_false, not_false_eq_true, reduceCtorEq] at hax0)
                  (exfalso; omega)
                  all_goals exact Out.ag hK (i + 1, _, _, _) ⟨by show i + 1 ≤ _; omega, hC2⟩ (by show xs.length - (i + 1) < xs.length - i; omega)
          · obtain rfl : i = xs.length := by omega
            rw [List.take_length] at hC
            clear hK
            have hth := hC.there
            have hco := hC.count
            by_cases hA : th = false ∧ faults n ≤ c
            · obtain ⟨rfl, hA⟩ := hA
              rcases hC.first with ⟨g1, _⟩ | ⟨k, m0, t, g1, rfl, g3⟩
              · rw [g1] at hco; simp at hco; omega
              have hkl := (List.getElem?_eq_some_iff.1 g3).1
              have hsm : sameL x xs = m0 :: t := by unfold sameL; rw [← hth]; exact g1
              rw [g1] at hco; simp only [List.length_cons] at hco
              rw [show choose n x xs = (2, m0.Call) by unfold choose; rw [if_neg hlen, hc3]; simp only [hac, hsm]; rw [if_pos (by rw [← hco]; exact hA)]]
              apply Wp.seq
              apply Wp.region
              refine WpL.v (V.cmp) ?_
              apply WpL.nil
              apply Out.seqN
              apply Wp.seq
              refine Wp.c (fun haA0 => ?_) (fun haA0 => ?_)
              (try simp only [decide_eq_true_eq, decide_eq_false_iff_not, Bool.not_eq_true', Bool.not_eq_false', Bool.not_eq_true, Bool.not_eq_false, not_true_eq_false, not_false_eq_true, reduceCtorEq] at haA0)
              (exfalso; omega)
              (try simp only [decide_eq_true_eq, decide_eq_false_iff_not, Bool.not_eq_true', Bool.not_eq_false', Bool.not_eq_true, Bool.not_eq_false, not_true_eq_false, not_false_eq_true, reduceCtorEq] at haA0)
              apply Wp.exit
              apply Out.seqE
              apply Out.seqE
              apply Out.blockE
              apply Out.seqN
              apply Wp.seq
              apply Wp.seq
              apply Wp.region
              refine WpL.v (V.mv) ?_
              refine WpL.v (V.not) ?_
              refine WpL.v (V.mv) ?_
              refine WpL.v (V.mv) ?_
              refine WpL.v (V.cmp) ?_
              refine WpL.v (V.pT) ?_
              refine WpL.v (V.mv) ?_
              refine WpL.pt (fun haA1 => ?_) (fun haA1 => ?_)
              (try simp only [decide_eq_true_eq, decide_eq_false_iff_not, Bool.not_eq_true', Bool.not_eq_false', Bool.not_eq_true, Bool.not_eq_false, not_true_eq_false, not_false_eq_true, reduceCtorEq] at haA1)
              refine WpL.v (V.mv) ?_
              refine WpL.v (V.mv) ?_
              refine WpL.v (V.cmp) ?_
              refine WpL.v (V.pT) ?_
              apply WpL.nil
              apply Out.seqN
              refine Wp.c (fun haA2 => ?_) (fun haA2 => ?_)
              (try simp only [decide_eq_true_eq, decide_eq_false_iff_not, Bool.not_eq_true', Bool.not_eq_false', Bool.not_eq_true, Bool.not_eq_false, not_true_eq_false, not_false_eq_true, reduceCtorEq] at haA2)
              apply Wp.seq
              refine Wp.dG [] ?_ (List.Sublist.cons_cons _ (List.Sublist.cons _ (List.Sublist.cons _ List.Sublist.slnil))) (List.Sublist.cons_cons _ (List.Sublist.cons _ (List.Sublist.cons _ List.Sublist.slnil)))
              refine WpA.tF 0 rfl (V.mv) ?_
              refine WpA.tF 1 rfl (V.mv) ?_
              refine WpA.tF 2 rfl (V.ixR tb rfl rfl (by assumption)) ?_
              refine WpA.tF 3 rfl (V.fa tb) ?_
              refine WpA.tF 4 rfl (V.rdFA tb (o := 11) rfl hR (getMapS g3)) ?_
              refine WpA.tF 5 rfl (V.as) ?_
              refine WpA.oS 6 rfl (O.stA tb ⟨?_, ?_, ?_⟩)
              exact holdT
              exact holdT
              refine WpA.ou ?_
              apply Out.seqN
              apply Wp.ret
              apply Out.seqR
              refine Out.f2 rfl ResIs.t (ResIs.ca tb) ⟨?_, rfl⟩
              exact rfl
              (try simp only [decide_eq_true_eq, decide_eq_false_iff_not, Bool.not_eq_true', Bool.not_eq_false', Bool.not_eq_true, Bool.not_eq_false, not_true_eq_false, not_false_eq_true, reduceCtorEq] at haA2)
              (exfalso; omega)
              (try simp only [decide_eq_true_eq, decide_eq_false_iff_not, Bool.not_eq_true', Bool.not_eq_false', Bool.not_eq_true, Bool.not_eq_false, not_true_eq_false, not_false_eq_true, reduceCtorEq] at haA1)
              (exfalso; omega)
            · have hch := choose_rest hlen hc3 hac (show xs.any (fun m => decide (m.From = x.Rep)) = true ∨ ((xs.filter (sameP x)).length : Int) < faults n by
                rw [← hth, ← hco]
                cases th with
                | true => exact .inl rfl
                | false => right; have : ¬ faults n ≤ c := fun h => hA ⟨rfl, h⟩; omega)
              rw [hc1] at hch
              rw [hch]
              clear hch
              cases th with
              | true =>
                apply Wp.seq
                apply Wp.region
                refine WpL.v (V.cmp) ?_
                apply WpL.nil
                apply Out.seqN
                apply Wp.seq
                refine Wp.c (fun haB0 => ?_) (fun haB0 => ?_)
                (try simp only [decide_eq_true_eq, decide_eq_false_iff_not, Bool.not_eq_true', Bool.not_eq_false', Bool.not_eq_true, Bool.not_eq_false, not_true_eq_false, not_false_eq_true, reduceCtorEq] at haB0)
                (exfalso; omega)
                (try simp only [decide_eq_true_eq, decide_eq_false_iff_not, Bool.not_eq_true', Bool.not_eq_false', Bool.not_eq_true, Bool.not_eq_false, not_true_eq_false, not_false_eq_true, reduceCtorEq] at haB0)
                apply Wp.exit
                apply Out.seqE
                apply Out.seqE
                apply Out.blockE
                apply Out.seqN
                apply Wp.seq
                apply Wp.seq
                apply Wp.region
                refine WpL.v (V.mv) ?_
                refine WpL.v (V.not) ?_
                refine WpL.v (V.mv) ?_
                refine WpL.sk ?_
                refine WpL.sk ?_
                refine WpL.v (V.pF) ?_
                refine WpL.v (V.mv) ?_
                refine WpL.sk ?_
                refine WpL.sk ?_
                refine WpL.sk ?_
                refine WpL.v (V.pF) ?_
                apply WpL.nil
                apply Out.seqN
                refine Wp.cF ?_
                apply Wp.skip
                apply Out.seqN
                apply Wp.seq
                apply Wp.region
                refine WpL.v (V.mv) ?_
                refine WpL.o (Op1.callT rfl (h1) (by (repeat (first | exact Sel.nil | exact Rem.here | apply Sel.cons | apply Rem.there))) ?_)
                rintro v1 s2 ⟨rfl, rfl⟩
                refine incat ?_
                refine WpL.v (V.as) ?_
                apply WpL.nil
                apply Out.seqN
                apply Wp.seq
                apply Wp.seq
                apply Wp.region
                refine WpL.v (V.mv) ?_
                refine WpL.v (V.cmp) ?_
                apply WpL.nil
                apply Out.seqN
                refine Wp.cT ?_
                apply Wp.seq
                apply Wp.region
                refine WpL.v (V.bld tb) ?_
                refine WpL.v (V.as) ?_
                refine WpL.o (O.stA tb ?_)
                apply WpL.nil
                apply Out.seqN
                apply Wp.ret
                apply Out.seqR
                refine Out.f2 rfl ResIs.t (ResIs.ca tb) ⟨?_, rfl⟩
                exact rfl
              | false =>
                have hA2 : ¬ faults n ≤ c := fun h => hA ⟨rfl, h⟩
                by_cases hc0 : 0 < c
                · clear hC
                  apply Wp.seq
                  apply Wp.region
                  refine WpL.v (V.cmp) ?_
                  apply WpL.nil
                  apply Out.seqN
                  apply Wp.seq
                  refine Wp.c (fun haC0 => ?_) (fun haC0 => ?_)
                  (try simp only [decide_eq_true_eq, decide_eq_false_iff_not, Bool.not_eq_true', Bool.not_eq_false', Bool.not_eq_true, Bool.not_eq_false, not_true_eq_false, not_false_eq_true, reduceCtorEq] at haC0)
                  (exfalso; omega)
                  (try simp only [decide_eq_true_eq, decide_eq_false_iff_not, Bool.not_eq_true', Bool.not_eq_false', Bool.not_eq_true, Bool.not_eq_false, not_true_eq_false, not_false_eq_true, reduceCtorEq] at haC0)
                  apply Wp.exit
                  apply Out.seqE
                  apply Out.seqE
                  apply Out.blockE
                  apply Out.seqN
                  apply Wp.seq
                  apply Wp.seq
                  apply Wp.region
                  refine WpL.v (V.mv) ?_
                  refine WpL.v (V.not) ?_
                  refine WpL.v (V.mv) ?_
                  refine WpL.v (V.mv) ?_
                  refine WpL.v (V.cmp) ?_
                  refine WpL.v (V.pT) ?_
                  refine WpL.v (V.mv) ?_
                  refine WpL.pt (fun haC1 => ?_) (fun haC1 => ?_)
                  (try simp only [decide_eq_true_eq, decide_eq_false_iff_not, Bool.not_eq_true', Bool.not_eq_false', Bool.not_eq_true, Bool.not_eq_false, not_true_eq_false, not_false_eq_true, reduceCtorEq] at haC1)
                  refine WpL.v (V.mv) ?_
                  refine WpL.v (V.mv) ?_
                  refine WpL.v (V.cmp) ?_
                  refine WpL.v (V.pT) ?_
                  apply WpL.nil
                  apply Out.seqN
                  refine Wp.c (fun haC2 => ?_) (fun haC2 => ?_)
                  (try simp only [decide_eq_true_eq, decide_eq_false_iff_not, Bool.not_eq_true', Bool.not_eq_false', Bool.not_eq_true, Bool.not_eq_false, not_true_eq_false, not_false_eq_true, reduceCtorEq] at haC2)
                  (exfalso; omega)
                  (try simp only [decide_eq_true_eq, decide_eq_false_iff_not, Bool.not_eq_true', Bool.not_eq_false', Bool.not_eq_true, Bool.not_eq_false, not_true_eq_false, not_false_eq_true, reduceCtorEq] at haC2)
                  apply Wp.skip
                  apply Out.seqN
                  apply Wp.seq
                  apply Wp.region
                  refine WpL.v (V.mv) ?_
                  refine WpL.o (Op1.callT rfl (h1) (by (repeat (first | exact Sel.nil | exact Rem.here | apply Sel.cons | apply Rem.there))) ?_)
                  rintro v3 s4 ⟨rfl, rfl⟩
                  refine incat ?_
                  refine WpL.v (V.as) ?_
                  apply WpL.nil
                  apply Out.seqN
                  apply Wp.seq
                  apply Wp.seq
                  apply Wp.region
                  refine WpL.v (V.mv) ?_
                  refine WpL.v (V.cmp) ?_
                  apply WpL.nil
                  apply Out.seqN
                  refine Wp.cT ?_
                  apply Wp.seq
                  apply Wp.region
                  refine WpL.v (V.bld tb) ?_
                  refine WpL.v (V.as) ?_
                  refine WpL.o (O.stA tb ?_)
                  apply WpL.nil
                  apply Out.seqN
                  apply Wp.ret
                  apply Out.seqR
                  refine Out.f2 rfl ResIs.t (ResIs.ca tb) ⟨?_, rfl⟩
                  exact rfl
                  (try simp only [decide_eq_true_eq, decide_eq_false_iff_not, Bool.not_eq_true', Bool.not_eq_false', Bool.not_eq_true, Bool.not_eq_false, not_true_eq_false, not_false_eq_true, reduceCtorEq] at haC1)
                  (exfalso; omega)
                · clear hC
                  apply Wp.seq
                  apply Wp.region
                  refine WpL.v (V.cmp) ?_
                  apply WpL.nil
                  apply Out.seqN
                  apply Wp.seq
                  refine Wp.c (fun haJ0 => ?_) (fun haJ0 => ?_)
                  (try simp only [decide_eq_true_eq, decide_eq_false_iff_not, Bool.not_eq_true', Bool.not_eq_false', Bool.not_eq_true, Bool.not_eq_false, not_true_eq_false, not_false_eq_true, reduceCtorEq] at haJ0)
                  (exfalso; omega)
                  (try simp only [decide_eq_true_eq, decide_eq_false_iff_not, Bool.not_eq_true', Bool.not_eq_false', Bool.not_eq_true, Bool.not_eq_false, not_true_eq_false, not_false_eq_true, reduceCtorEq] at haJ0)
                  apply Wp.exit
                  apply Out.seqE
                  apply Out.seqE
                  apply Out.blockE
                  apply Out.seqN
                  apply Wp.seq
                  apply Wp.seq
                  apply Wp.region
                  refine WpL.v (V.mv) ?_
                  refine WpL.v (V.not) ?_
                  refine WpL.v (V.mv) ?_
                  refine WpL.v (V.mv) ?_
                  refine WpL.v (V.cmp) ?_
                  refine WpL.v (V.pT) ?_
                  refine WpL.v (V.mv) ?_
                  refine WpL.pt (fun haJ1 => ?_) (fun haJ1 => ?_)
                  (try simp only [decide_eq_true_eq, decide_eq_false_iff_not, Bool.not_eq_true', Bool.not_eq_false', Bool.not_eq_true, Bool.not_eq_false, not_true_eq_false, not_false_eq_true, reduceCtorEq] at haJ1)
                  (exfalso; omega)
                  (try simp only [decide_eq_true_eq, decide_eq_false_iff_not, Bool.not_eq_true', Bool.not_eq_false', Bool.not_eq_true, Bool.not_eq_false, not_true_eq_false, not_false_eq_true, reduceCtorEq] at haJ1)
                  refine WpL.sk ?_
                  refine WpL.sk ?_
                  refine WpL.sk ?_
                  refine WpL.v (V.pF) ?_
                  apply WpL.nil
                  apply Out.seqN
                  refine Wp.cF ?_
                  apply Wp.skip
                  apply Out.seqN
                  apply Wp.seq
                  apply Wp.region
                  refine WpL.v (V.mv) ?_
                  refine WpL.o (Op1.callT rfl (h1) (by (repeat (first | exact Sel.nil | exact Rem.here | apply Sel.cons | apply Rem.there))) ?_)
                  rintro v2 s3 ⟨rfl, rfl⟩
                  refine incat ?_
                  refine WpL.v (V.as) ?_
                  apply WpL.nil
                  apply Out.seqN
                  apply Wp.seq
                  apply Wp.seq
                  apply Wp.region
                  refine WpL.v (V.mv) ?_
                  refine WpL.v (V.cmp) ?_
                  apply WpL.nil
                  apply Out.seqN
                  refine Wp.cT ?_
                  apply Wp.seq
                  apply Wp.region
                  refine WpL.v (V.bld tb) ?_
                  refine WpL.v (V.as) ?_
                  refine WpL.o (O.stA tb ?_)
                  apply WpL.nil
                  apply Out.seqN
                  apply Wp.ret
                  apply Out.seqR
                  refine Out.f2 rfl ResIs.t (ResIs.ca tb) ⟨?_, rfl⟩
                  exact rfl
        | some m =>
          obtain ⟨i2, hB2, hk2, hl2⟩ := best_some hc2
          have h2 := ref_best e ao cap b off xs 2 _ hB2 hR
          have hac : accd xs = some m := by simp [accd, hc2, hc1]
          rw [show choose n x xs = (2, m.Call) by unfold choose; rw [if_neg hlen, hc3]; simp only [hac]]
          refine Ct.enter Try.func26 rfl rfl fun W => ?_
          apply Wp.seq
          apply Wp.region
          refine WpL.o (O.bxA (fun p4 => ?_))
          refine WpL.v (V.as) ?_
          refine WpL.o (O.al tb (fun p7 => ?_))
          apply WpL.nil
          apply Out.seqN
          apply Wp.seq
          apply Wp.region
          refine WpL.v (V.mv) ?_
          refine WpL.o (Op1.fn rfl (hF) ?_)
          refine WpL.v (V.as) ?_
          apply WpL.nil
          apply Out.seqN
          apply Wp.seq
          apply Wp.seq
          apply Wp.region
          refine WpL.v (V.mv) ?_
          refine WpL.v (V.lenL tb) ?_
          refine WpL.v (V.mv) ?_
          refine WpL.v (V.cmp) ?_
          apply WpL.nil
          apply Out.seqN
          refine Wp.c (fun hya0 => ?_) (fun hya0 => ?_)
          (try simp only [decide_eq_true_eq, decide_eq_false_iff_not, Bool.not_eq_true', Bool.not_eq_false', Bool.not_eq_true, Bool.not_eq_false, not_true_eq_false, not_false_eq_true, reduceCtorEq] at hya0)
          (exfalso; omega)
          (try simp only [decide_eq_true_eq, decide_eq_false_iff_not, Bool.not_eq_true', Bool.not_eq_false', Bool.not_eq_true, Bool.not_eq_false, not_true_eq_false, not_false_eq_true, reduceCtorEq] at hya0)
          apply Wp.skip
          apply Out.seqN
          apply Wp.seq
          apply Wp.seq
          apply Wp.region
          refine WpL.v (V.mv) ?_
          refine WpL.o (Op1.callT rfl (h3) (by (repeat (first | exact Sel.nil | exact Rem.here | apply Sel.cons | apply Rem.there))) ?_)
          rintro v1 s2 ⟨rfl, rfl⟩
          refine incat ?_
          refine WpL.v (V.as) ?_
          apply WpL.nil
          apply Out.seqN
          apply Wp.seq
          apply Wp.region
          refine WpL.v (V.mv) ?_
          refine WpL.v (V.cmp) ?_
          apply WpL.nil
          apply Out.seqN
          refine Wp.cF ?_
          apply Wp.skip
          apply Out.seqN
          apply Wp.seq
          apply Wp.seq
          apply Wp.region
          refine WpL.v (V.mv) ?_
          refine WpL.o (Op1.callT rfl (h2) (by (repeat (first | exact Sel.nil | exact Rem.here | apply Sel.cons | apply Rem.there))) ?_)
          rintro v3 s4 ⟨rfl, rfl⟩
          refine incat ?_
          refine WpL.v (V.mv) ?_
          refine WpL.o (Op1.callT rfl (h1) (by (repeat (first | exact Sel.nil | exact Rem.here | apply Sel.cons | apply Rem.there))) ?_)
          rintro v5 s6 ⟨rfl, rfl⟩
          refine incat ?_
          refine WpL.v (V.as) ?_
          refine WpL.v (V.as) ?_
          apply WpL.nil
          apply Out.seqN
          apply Wp.seq
          refine Wp.dG [] ?_ (List.Sublist.cons_cons _ (List.Sublist.cons _ (List.Sublist.cons _ List.Sublist.slnil))) (List.Sublist.cons_cons _ (List.Sublist.cons _ (List.Sublist.cons _ List.Sublist.slnil)))
          refine WpA.tF 0 rfl (V.mv) ?_
          refine WpA.tF 1 rfl (V.cmp) ?_
          refine WpA.tF 2 rfl (V.mv) ?_
          refine WpA.pt 43 (fun hya7 => ?_) (fun hya7 => ?_)
          (try simp only [decide_eq_true_eq, decide_eq_false_iff_not, Bool.not_eq_true', Bool.not_eq_false', Bool.not_eq_true, Bool.not_eq_false, not_true_eq_false, not_false_eq_true, reduceCtorEq] at hya7)
          refine WpA.tF 3 rfl (V.mv) ?_
          refine WpA.tF 4 rfl (V.cmp) ?_
          refine WpA.tF 5 rfl (V.mv) ?_
          refine WpA.s 6 rfl ?_
          refine WpA.s 7 rfl ?_
          refine WpA.s 8 rfl ?_
          refine WpA.s 9 rfl ?_
          refine WpA.s 10 rfl ?_
          refine WpA.s 11 rfl ?_
          refine WpA.s 12 rfl ?_
          refine WpA.s 13 rfl ?_
          refine WpA.s 14 rfl ?_
          refine WpA.s 15 rfl ?_
          refine WpA.s 16 rfl ?_
          refine WpA.s 17 rfl ?_
          refine WpA.tF 18 rfl (V.pT) ?_
          refine WpA.tF 19 rfl (V.pT) ?_
          refine WpA.ou ?_
          apply Out.seqN
          refine Wp.cT ?_
          apply Wp.seq
          refine Wp.dG [] ?_ (List.Sublist.cons_cons _ (List.Sublist.cons _ (List.Sublist.cons _ List.Sublist.slnil))) (List.Sublist.cons_cons _ (List.Sublist.cons _ (List.Sublist.cons _ List.Sublist.slnil)))
          refine WpA.tF 0 rfl (V.mv) ?_
          refine WpA.tF 1 rfl (V.mv) ?_
          refine WpA.tF 2 rfl (V.ixR tb rfl rfl (by assumption)) ?_
          refine WpA.tF 3 rfl (V.fa tb) ?_
          refine WpA.tF 4 rfl (V.rdFA tb (o := 11) rfl hR (getMapS hk2)) ?_
          refine WpA.tF 5 rfl (V.as) ?_
          refine WpA.oS 6 rfl (O.stA tb ⟨?_, ?_, ?_⟩)
          exact holdT
          exact holdT
          refine WpA.ou ?_
          apply Out.seqN
          apply Wp.ret
          apply Out.seqR
          refine Out.f2 rfl ResIs.t (ResIs.ca tb) ⟨?_, rfl⟩
          exact rfl
          (try simp only [decide_eq_true_eq, decide_eq_false_iff_not, Bool.not_eq_true', Bool.not_eq_false', Bool.not_eq_true, Bool.not_eq_false, not_true_eq_false, not_false_eq_true, reduceCtorEq] at hya7)
          (exfalso; omega)
      | some a =>
        obtain ⟨i1, hB1, hk1, hl1⟩ := best_some hc1
        have h1 := ref_best e ao cap b off xs 1 _ hB1 hR
        cases hc2 : hi 2 xs with
        | none =>
          have h2 := ref_best e ao cap b off xs 2 _ (best_none hc2) hR
          have hac : accd xs = none := by simp [accd, hc2]
          refine Ct.enter Try.func26 rfl rfl fun W => ?_
          apply Wp.seq
          apply Wp.region
          refine WpL.o (O.bxA (fun p4 => ?_))
          refine WpL.v (V.as) ?_
          refine WpL.o (O.al tb (fun p7 => ?_))
          apply WpL.nil
          apply Out.seqN
          apply Wp.seq
          apply Wp.region
          refine WpL.v (V.mv) ?_
          refine WpL.o (Op1.fn rfl (hF) ?_)
          refine WpL.v (V.as) ?_
          apply WpL.nil
          apply Out.seqN
          apply Wp.seq
          apply Wp.seq
          apply Wp.region
          refine WpL.v (V.mv) ?_
          refine WpL.v (V.lenL tb) ?_
          refine WpL.v (V.mv) ?_
          refine WpL.v (V.cmp) ?_
          apply WpL.nil
          apply Out.seqN
          refine Wp.c (fun hb00 => ?_) (fun hb00 => ?_)
          (try simp only [decide_eq_true_eq, decide_eq_false_iff_not, Bool.not_eq_true', Bool.not_eq_false', Bool.not_eq_true, Bool.not_eq_false, not_true_eq_false, not_false_eq_true, reduceCtorEq] at hb00)
          (exfalso; omega)
          (try simp only [decide_eq_true_eq, decide_eq_false_iff_not, Bool.not_eq_true', Bool.not_eq_false', Bool.not_eq_true, Bool.not_eq_false, not_true_eq_false, not_false_eq_true, reduceCtorEq] at hb00)
          apply Wp.skip
          apply Out.seqN
          apply Wp.seq
          apply Wp.seq
          apply Wp.region
          refine WpL.v (V.mv) ?_
          refine WpL.o (Op1.callT rfl (h3) (by (repeat (first | exact Sel.nil | exact Rem.here | apply Sel.cons | apply Rem.there))) ?_)
          rintro v1 s2 ⟨rfl, rfl⟩
          refine incat ?_
          refine WpL.v (V.as) ?_
          apply WpL.nil
          apply Out.seqN
          apply Wp.seq
          apply Wp.region
          refine WpL.v (V.mv) ?_
          refine WpL.v (V.cmp) ?_
          apply WpL.nil
          apply Out.seqN
          refine Wp.cF ?_
          apply Wp.skip
          apply Out.seqN
          apply Wp.seq
          apply Wp.seq
          apply Wp.region
          refine WpL.v (V.mv) ?_
          refine WpL.o (Op1.callT rfl (h2) (by (repeat (first | exact Sel.nil | exact Rem.here | apply Sel.cons | apply Rem.there))) ?_)
          rintro v3 s4 ⟨rfl, rfl⟩
          refine incat ?_
          refine WpL.v (V.mv) ?_
          refine WpL.o (Op1.callT rfl (h1) (by (repeat (first | exact Sel.nil | exact Rem.here | apply Sel.cons | apply Rem.there))) ?_)
          rintro v5 s6 ⟨rfl, rfl⟩
          refine incat ?_
          refine WpL.v (V.as) ?_
          refine WpL.v (V.as) ?_
          apply WpL.nil
          apply Out.seqN
          apply Wp.seq
          refine Wp.dG [] ?_ (List.Sublist.cons_cons _ (List.Sublist.cons _ (List.Sublist.cons _ List.Sublist.slnil))) (List.Sublist.cons_cons _ (List.Sublist.cons _ (List.Sublist.cons _ List.Sublist.slnil)))
          refine WpA.tF 0 rfl (V.mv) ?_
          refine WpA.tF 1 rfl (V.cmp) ?_
          refine WpA.tF 2 rfl (V.mv) ?_
          refine WpA.s 3 rfl ?_
          refine WpA.s 4 rfl ?_
          refine WpA.s 5 rfl ?_
          refine WpA.s 6 rfl ?_
          refine WpA.s 7 rfl ?_
          refine WpA.s 8 rfl ?_
          refine WpA.s 9 rfl ?_
          refine WpA.s 10 rfl ?_
          refine WpA.s 11 rfl ?_
          refine WpA.s 12 rfl ?_
          refine WpA.s 13 rfl ?_
          refine WpA.s 14 rfl ?_
          refine WpA.s 15 rfl ?_
          refine WpA.s 16 rfl ?_
          refine WpA.s 17 rfl ?_
          refine WpA.s 18 rfl ?_
          refine WpA.tF 19 rfl (V.pF) ?_
          refine WpA.ou ?_
          apply Out.seqN
          refine Wp.cF ?_
          apply Wp.skip
          apply Out.seqN
          apply Wp.seq
          apply Wp.region
          refine WpL.v (V.as) ?_
          apply WpL.nil
          apply Out.seqN
          apply Wp.seq
          apply Wp.region
          refine WpL.v (V.as) ?_
          apply WpL.nil
          apply Out.seqN
          apply Wp.seq
          apply Wp.region
          refine WpL.v (V.as) ?_
          apply WpL.nil
          apply Out.seqN
          apply Wp.seq
          apply Wp.seq
          apply Wp.region
          refine WpL.v (V.mv) ?_
          refine WpL.v (V.lenL tb) ?_
          refine WpL.v (V.mv) ?_
          apply WpL.nil
          apply Out.seqN
          apply Wp.block
          refine Wp.lp [67, 66, 8, 7, 4, 2] (fun y : Nat × Bool × Int × Int => y.1 ≤ xs.length ∧ Cnt x (xs.take y.1) y.2.1 y.2.2.1 y.2.2.2) (fun y => [(68, I (y.1 : Int)), (14, I y.2.2.2), (13, I y.2.2.1), (12, B y.2.1)]) (fun y => []) (fun y => xs.length - y.1) (0, false, 0, -1) ⟨Nat.zero_le _, Cnt.nil x⟩ ?_
          rintro ⟨i, th, c, f⟩ ⟨hi0, hC⟩ K hK
          dsimp only at hi0 hC
          dsimp only [List.cons_append, List.nil_append]
          by_cases hlt : i < xs.length
          · obtain ⟨m, hm⟩ := getS hlt
            have q1 := take_snocS hm
            have hcb : 0 ≤ c ∧ c ≤ 1000 := by rw [hC.count]; have h5 := List.length_filter_le (sameP x) (xs.take i); rw [List.length_take] at h5; omega
            have hil : (xs.take i).length = i := by rw [List.length_take]; omega
            cases hp : sameP x m with
            | false =>
              have hC2 := hC.no hp
              rw [← q1] at hC2
              rw [sameP_def] at hp
              simp only [Bool.and_eq_false_iff, decide_eq_false_iff_not] at hp
              cases hsm : m.Same with
              | false =>
                clear hp
                cases th with
                | true =>
                  apply Wp.seq
                  apply Wp.region
                  refine WpL.v (V.cmp) ?_
                  apply WpL.nil
                  apply Out.seqN
                  apply Wp.seq
                  refine Wp.c (fun hbp0 => ?_) (fun hbp0 => ?_)
                  (try simp only [decide_eq_true_eq, decide_eq_false_iff_not, Bool.not_eq_true', Bool.not_eq_false', Bool.not_eq_true, Bool.not_eq_false, not_true_eq_false, not_false_eq_true, reduceCtorEq] at hbp0)
                  apply Wp.skip
                  apply Out.seqN
                  apply Wp.seq
                  apply Wp.block
                  apply Wp.seq
                  apply Wp.region
                  refine WpL.v (V.mv) ?_
                  refine WpL.v (V.ixR tb rfl rfl (by assumption)) ?_
                  refine WpL.v (V.ldRA tb rfl (by assumption) (getMapS (by assumption))) ?_
                  refine WpL.o (O.al tb (fun p16 => ?_))
                  refine WpL.v (V.as) ?_
                  refine WpL.o (O.stA tb ?_)
                  apply WpL.nil
                  apply Out.seqN
                  apply Wp.seq
                  apply Wp.region
                  refine WpL.v (V.mv) ?_
                  refine WpL.v (V.mv) ?_
                  refine WpL.sk ?_
                  refine WpL.sk ?_
                  refine WpL.sk ?_
                  refine WpL.sk ?_
                  refine WpL.sk ?_
                  refine WpL.v (V.pT) ?_
                  refine WpL.v (V.as) ?_
                  apply WpL.nil
                  apply Out.seqN
                  apply Wp.seq
                  apply Wp.region
                  refine WpL.v (V.fa tb) ?_
                  refine WpL.v (V.ld1 tb) ?_
                  refine WpL.v (V.cmp) ?_
                  refine WpL.v (V.mv) ?_
                  refine WpL.pt (fun hbp1 => ?_) (fun hbp1 => ?_)
                  (try simp only [decide_eq_true_eq, decide_eq_false_iff_not, Bool.not_eq_true', Bool.not_eq_false', Bool.not_eq_true, Bool.not_eq_false, not_true_eq_false, not_false_eq_true, reduceCtorEq] at hbp1)
                  refine WpL.v (V.fa tb) ?_
                  refine WpL.v (V.ld1 tb) ?_
                  refine WpL.v (V.pT) ?_
                  refine WpL.v (V.mv) ?_
                  refine WpL.pt (fun hbp2 => ?_) (fun hbp2 => ?_)
                  (try simp only [decide_eq_true_eq, decide_eq_false_iff_not, Bool.not_eq_true', Bool.not_eq_false', Bool.not_eq_true, Bool.not_eq_false, not_true_eq_false, not_false_eq_true, reduceCtorEq] at hbp2)
                  exact absurd (Eq.trans (Eq.symm hbp2) (by assumption) : true = false) (by decide)
                  (try simp only [decide_eq_true_eq, decide_eq_false_iff_not, Bool.not_eq_true', Bool.not_eq_false', Bool.not_eq_true, Bool.not_eq_false, not_true_eq_false, not_false_eq_true, reduceCtorEq] at hbp2)
                  refine WpL.sk ?_
                  refine WpL.sk ?_
                  refine WpL.sk ?_
                  refine WpL.sk ?_
                  refine WpL.v (V.pF) ?_
                  refine WpL.v (V.mv) ?_
                  refine WpL.sk ?_
                  refine WpL.sk ?_
                  refine WpL.sk ?_
                  refine WpL.sk ?_
                  refine WpL.sk ?_
                  refine WpL.sk ?_
                  refine WpL.v (V.pF) ?_
                  apply WpL.nil
                  apply Out.seqN
                  refine Wp.cF ?_
                  apply Wp.skip
                  apply Out.blockN
                  apply Out.seqN
                  apply Wp.region
                  refine WpL.v (V.add) ?_
                  refine WpL.v (V.mv) ?_
                  apply WpL.nil
                  rotate_left
                  (try simp only [decide_eq_true_eq, decide_eq_false_iff_not, Bool.not_eq_true', Bool.not_eq_false', Bool.not_eq_true, Bool.not_eq_false, not_true_eq_false, not_false_eq_true, reduceCtorEq] at hbp1)
                  refine WpL.sk ?_
                  refine WpL.sk ?_
                  refine WpL.v (V.pF) ?_
                  refine WpL.v (V.mv) ?_
                  refine WpL.sk ?_
                  refine WpL.sk ?_
                  refine WpL.sk ?_
                  refine WpL.sk ?_
                  refine WpL.v (V.pF) ?_
                  refine WpL.v (V.mv) ?_
                  refine WpL.sk ?_
                  refine WpL.sk ?_
                  refine WpL.sk ?_
                  refine WpL.sk ?_
                  refine WpL.sk ?_
                  refine WpL.sk ?_
                  refine WpL.v (V.pF) ?_
                  apply WpL.nil
                  apply Out.seqN
                  refine Wp.cF ?_
                  apply Wp.skip
                  apply Out.blockN
                  apply Out.seqN
                  apply Wp.region
                  refine WpL.v (V.add) ?_
                  refine WpL.v (V.mv) ?_
                  apply WpL.nil
                  rotate_left
                  (try simp only [decide_eq_true_eq, decide_eq_false_iff_not, Bool.not_eq_true', Bool.not_eq_false', Bool.not_eq_true, Bool.not_eq_false, not_true_eq_false, not_false_eq_true, reduceCtorEq] at hbp0)
                  (exfalso; omega)
                  all_goals exact Out.ag hK (i + 1, _, _, _) ⟨by show i + 1 ≤ _; omega, hC2⟩ (by show xs.length - (i + 1) < xs.length - i; omega)
                | false =>
                  apply Wp.seq
                  apply Wp.region
                  refine WpL.v (V.cmp) ?_
                  apply WpL.nil
                  apply Out.seqN
                  apply Wp.seq
                  refine Wp.c (fun hbq0 => ?_) (fun hbq0 => ?_)
                  (try simp only [decide_eq_true_eq, decide_eq_false_iff_not, Bool.not_eq_true', Bool.not_eq_false', Bool.not_eq_true, Bool.not_eq_false, not_true_eq_false, not_false_eq_true, reduceCtorEq] at hbq0)
                  apply Wp.skip
                  apply Out.seqN
                  apply Wp.seq
                  apply Wp.block
                  apply Wp.seq
                  apply Wp.region
                  refine WpL.v (V.mv) ?_
                  refine WpL.v (V.ixR tb rfl rfl (by assumption)) ?_
                  refine WpL.v (V.ldRA tb rfl (by assumption) (getMapS (by assumption))) ?_
                  refine WpL.o (O.al tb (fun p16 => ?_))
                  refine WpL.v (V.as) ?_
                  refine WpL.o (O.stA tb ?_)
                  apply WpL.nil
                  apply Out.seqN
                  apply Wp.seq
                  apply Wp.region
                  refine WpL.v (V.mv) ?_
                  refine WpL.v (V.mv) ?_
                  refine WpL.v (V.fa tb) ?_
                  refine WpL.v (V.ld1 tb) ?_
                  refine WpL.v (V.fa tb) ?_
                  refine WpL.v (V.ld1 tb) ?_
                  refine WpL.v (V.cmp) ?_
                  refine WpL.v (V.pF) ?_
                  refine WpL.v (V.as) ?_
                  apply WpL.nil
                  apply Out.seqN
                  apply Wp.seq
                  apply Wp.region
                  refine WpL.v (V.fa tb) ?_
                  refine WpL.v (V.ld1 tb) ?_
                  refine WpL.v (V.cmp) ?_
                  refine WpL.v (V.mv) ?_
                  refine WpL.pt (fun hbq1 => ?_) (fun hbq1 => ?_)
                  (try simp only [decide_eq_true_eq, decide_eq_false_iff_not, Bool.not_eq_true', Bool.not_eq_false', Bool.not_eq_true, Bool.not_eq_false, not_true_eq_false, not_false_eq_true, reduceCtorEq] at hbq1)
                  refine WpL.v (V.fa tb) ?_
                  refine WpL.v (V.ld1 tb) ?_
                  refine WpL.v (V.pT) ?_
                  refine WpL.v (V.mv) ?_
                  refine WpL.pt (fun hbq2 => ?_) (fun hbq2 => ?_)
                  (try simp only [decide_eq_true_eq, decide_eq_false_iff_not, Bool.not_eq_true', Bool.not_eq_false', Bool.not_eq_true, Bool.not_eq_false, not_true_eq_false, not_false_eq_true, reduceCtorEq] at hbq2)
                  exact absurd (Eq.trans (Eq.symm hbq2) (by assumption) : true = false) (by decide)
                  (try simp only [decide_eq_true_eq, decide_eq_false_iff_not, Bool.not_eq_true', Bool.not_eq_false', Bool.not_eq_true, Bool.not_eq_false, not_true_eq_false, not_false_eq_true, reduceCtorEq] at hbq2)
                  refine WpL.sk ?_
                  refine WpL.sk ?_
                  refine WpL.sk ?_
                  refine WpL.sk ?_
                  refine WpL.v (V.pF) ?_
                  refine WpL.v (V.mv) ?_
                  refine WpL.sk ?_
                  refine WpL.sk ?_
                  refine WpL.sk ?_
                  refine WpL.sk ?_
                  refine WpL.sk ?_
                  refine WpL.sk ?_
                  refine WpL.v (V.pF) ?_
                  apply WpL.nil
                  apply Out.seqN
                  refine Wp.cF ?_
                  apply Wp.skip
                  apply Out.blockN
                  apply Out.seqN
                  apply Wp.region
                  refine WpL.v (V.add) ?_
                  refine WpL.v (V.mv) ?_
                  apply WpL.nil
                  rotate_left
                  (try simp only [decide_eq_true_eq, decide_eq_false_iff_not, Bool.not_eq_true', Bool.not_eq_false', Bool.not_eq_true, Bool.not_eq_false, not_true_eq_false, not_false_eq_true, reduceCtorEq] at hbq1)
                  refine WpL.sk ?_
                  refine WpL.sk ?_
                  refine WpL.v (V.pF) ?_
                  refine WpL.v (V.mv) ?_
                  refine WpL.sk ?_
                  refine WpL.sk ?_
                  refine WpL.sk ?_
                  refine WpL.sk ?_
                  refine WpL.v (V.pF) ?_
                  refine WpL.v (V.mv) ?_
                  refine WpL.sk ?_
                  refine WpL.sk ?_
                  refine WpL.sk ?_
                  refine WpL.sk ?_
                  refine WpL.sk ?_
                  refine WpL.sk ?_
                  refine WpL.v (V.pF) ?_
                  apply WpL.nil
                  apply Out.seqN
                  refine Wp.cF ?_
                  apply Wp.skip
                  apply Out.blockN
                  apply Out.seqN
                  apply Wp.region
                  refine WpL.v (V.add) ?_
                  refine WpL.v (V.mv) ?_
                  apply WpL.nil
                  rotate_left
                  (try simp only [decide_eq_true_eq, decide_eq_false_iff_not, Bool.not_eq_true', Bool.not_eq_false', Bool.not_eq_true, Bool.not_eq_false, not_true_eq_false, not_false_eq_true, reduceCtorEq] at hbq0)
                  (exfalso; omega)
                  all_goals exact Out.ag hK (i + 1, _, _, _) ⟨by show i + 1 ≤ _; omega, hC2⟩ (by show xs.length - (i + 1) < xs.length - i; omega)
              | true =>
                have hp2 : ¬ (m.Status = 1 ∧ m.Vote.Round = 0 ∧ m.Vote.Rep = x.Rep) := by rw [hsm] at hp; simp at hp; omega
                clear hp
                cases th with
                | true =>
                  apply Wp.seq
                  apply Wp.region
                  refine WpL.v (V.cmp) ?_
                  apply WpL.nil
                  apply Out.seqN
                  apply Wp.seq
                  refine Wp.c (fun hbr0 => ?_) (fun hbr0 => ?_)
                  (try simp only [decide_eq_true_eq, decide_eq_false_iff_not, Bool.not_eq_true', Bool.not_eq_false', Bool.not_eq_true, Bool.not_eq_false, not_true_eq_false, not_false_eq_true, reduceCtorEq] at hbr0)
                  apply Wp.skip
                  apply Out.seqN
                  apply Wp.seq
                  apply Wp.block
                  apply Wp.seq
                  apply Wp.region
                  refine WpL.v (V.mv) ?_
                  refine WpL.v (V.ixR tb rfl rfl (by assumption)) ?_
                  refine WpL.v (V.ldRA tb rfl (by assumption) (getMapS (by assumption))) ?_
                  refine WpL.o (O.al tb (fun p16 => ?_))
                  refine WpL.v (V.as) ?_
                  refine WpL.o (O.stA tb ?_)
                  apply WpL.nil
                  apply Out.seqN
                  apply Wp.seq
                  apply Wp.region
                  refine WpL.v (V.mv) ?_
                  refine WpL.v (V.mv) ?_
                  refine WpL.sk ?_
                  refine WpL.sk ?_
                  refine WpL.sk ?_
                  refine WpL.sk ?_
                  refine WpL.sk ?_
                  refine WpL.v (V.pT) ?_
                  refine WpL.v (V.as) ?_
                  apply WpL.nil
                  apply Out.seqN
                  apply Wp.seq
                  apply Wp.region
                  refine WpL.v (V.fa tb) ?_
                  refine WpL.v (V.ld1 tb) ?_
                  refine WpL.v (V.cmp) ?_
                  refine WpL.v (V.mv) ?_
                  refine WpL.pt (fun hbr1 => ?_) (fun hbr1 => ?_)
                  (try simp only [decide_eq_true_eq, decide_eq_false_iff_not, Bool.not_eq_true', Bool.not_eq_false', Bool.not_eq_true, Bool.not_eq_false, not_true_eq_false, not_false_eq_true, reduceCtorEq] at hbr1)
                  refine WpL.v (V.fa tb) ?_
                  refine WpL.v (V.ld1 tb) ?_
                  refine WpL.v (V.pT) ?_
                  refine WpL.v (V.mv) ?_
                  refine WpL.pt (fun hbr2 => ?_) (fun hbr2 => ?_)
                  (try simp only [decide_eq_true_eq, decide_eq_false_iff_not, Bool.not_eq_true', Bool.not_eq_false', Bool.not_eq_true, Bool.not_eq_false, not_true_eq_false, not_false_eq_true, reduceCtorEq] at hbr2)
                  refine WpL.v (V.fa tb) ?_
                  refine WpL.v (V.fa tb) ?_
                  refine WpL.v (V.ld1 tb) ?_
                  refine WpL.v (V.cmp) ?_
                  refine WpL.v (V.pT) ?_
                  refine WpL.v (V.mv) ?_
                  refine WpL.pt (fun hbr3 => ?_) (fun hbr3 => ?_)
                  (try simp only [decide_eq_true_eq, decide_eq_false_iff_not, Bool.not_eq_true', Bool.not_eq_false', Bool.not_eq_true, Bool.not_eq_false, not_true_eq_false, not_false_eq_true, reduceCtorEq] at hbr3)
                  refine WpL.v (V.fa tb) ?_
                  refine WpL.v (V.fa tb) ?_
                  refine WpL.v (V.ld1 tb) ?_
                  refine WpL.v (V.fa tb) ?_
                  refine WpL.v (V.ld1 tb) ?_
                  refine WpL.v (V.cmp) ?_
                  refine WpL.v (V.pT) ?_
                  apply WpL.nil
                  apply Out.seqN
                  refine Wp.c (fun hbr4 => ?_) (fun hbr4 => ?_)
                  (try simp only [decide_eq_true_eq, decide_eq_false_iff_not, Bool.not_eq_true', Bool.not_eq_false', Bool.not_eq_true, Bool.not_eq_false, not_true_eq_false, not_false_eq_true, reduceCtorEq] at hbr4)
                  (exfalso; omega)
                  (try simp only [decide_eq_true_eq, decide_eq_false_iff_not, Bool.not_eq_true', Bool.not_eq_false', Bool.not_eq_true, Bool.not_eq_false, not_true_eq_false, not_false_eq_true, reduceCtorEq] at hbr4)
                  apply Wp.skip
                  apply Out.blockN
                  apply Out.seqN
                  apply Wp.region
                  refine WpL.v (V.add) ?_
                  refine WpL.v (V.mv) ?_
                  apply WpL.nil
                  rotate_left
                  (try simp only [decide_eq_true_eq, decide_eq_false_iff_not, Bool.not_eq_true', Bool.not_eq_false', Bool.not_eq_true, Bool.not_eq_false, not_true_eq_false, not_false_eq_true, reduceCtorEq] at hbr3)
                  refine WpL.sk ?_
                  refine WpL.sk ?_
                  refine WpL.sk ?_
                  refine WpL.sk ?_
                  refine WpL.sk ?_
                  refine WpL.sk ?_
                  refine WpL.v (V.pF) ?_
                  apply WpL.nil
                  apply Out.seqN
                  refine Wp.cF ?_
                  apply Wp.skip
                  apply Out.blockN
                  apply Out.seqN
                  apply Wp.region
                  refine WpL.v (V.add) ?_
                  refine WpL.v (V.mv) ?_
                  apply WpL.nil
                  rotate_left
                  (try simp only [decide_eq_true_eq, decide_eq_false_iff_not, Bool.not_eq_true', Bool.not_eq_false', Bool.not_eq_true, Bool.not_eq_false, not_true_eq_false, not_false_eq_true, reduceCtorEq] at hbr2)
                  exact absurd (Eq.trans (Eq.symm hbr2) (by assumption) : false = true) (by decide)
                  (try simp only [decide_eq_true_eq, decide_eq_false_iff_not, Bool.not_eq_true', Bool.not_eq_false', Bool.not_eq_true, Bool.not_eq_false, not_true_eq_false, not_false_eq_true, reduceCtorEq] at hbr1)
                  refine WpL.sk ?_
                  refine WpL.sk ?_
                  refine WpL.v (V.pF) ?_
                  refine WpL.v (V.mv) ?_
                  refine WpL.sk ?_
                  refine WpL.sk ?_
                  refine WpL.sk ?_
                  refine WpL.sk ?_
                  refine WpL.v (V.pF) ?_
                  refine WpL.v (V.mv) ?_
                  refine WpL.sk ?_
                  refine WpL.sk ?_
                  refine WpL.sk ?_
                  refine WpL.sk ?_
                  refine WpL.sk ?_
                  refine WpL.sk ?_
                  refine WpL.v (V.pF) ?_
                  apply WpL.nil
                  apply Out.seqN
                  refine Wp.cF ?_
                  apply Wp.skip
                  apply Out.blockN
                  apply Out.seqN
                  apply Wp.region
                  refine WpL.v (V.add) ?_
                  refine WpL.v (V.mv) ?_
                  apply WpL.nil
                  rotate_left
                  (try simp only [decide_eq_true_eq, decide_eq_false_iff_not, Bool.not_eq_true', Bool.not_eq_false', Bool.not_eq_true, Bool.not_eq_false, not_true_eq_false, not_false_eq_true, reduceCtorEq] at hbr0)
                  (exfalso; omega)
                  all_goals exact Out.ag hK (i + 1, _, _, _) ⟨by show i + 1 ≤ _; omega, hC2⟩ (by show xs.length - (i + 1) < xs.length - i; omega)
                | false =>
                  apply Wp.seq
                  apply Wp.region
                  refine WpL.v (V.cmp) ?_
                  apply WpL.nil
                  apply Out.seqN
                  apply Wp.seq
                  refine Wp.c (fun hbs0 => ?_) (fun hbs0 => ?_)
                  (try simp only [decide_eq_true_eq, decide_eq_false_iff_not, Bool.not_eq_true', Bool.not_eq_false', Bool.not_eq_true, Bool.not_eq_false, not_true_eq_false, not_false_eq_true, reduceCtorEq] at hbs0)
                  apply Wp.skip
                  apply Out.seqN
                  apply Wp.seq
                  apply Wp.block
                  apply Wp.seq
                  apply Wp.region
                  refine WpL.v (V.mv) ?_
                  refine WpL.v (V.ixR tb rfl rfl (by assumption)) ?_
                  refine WpL.v (V.ldRA tb rfl (by assumption) (getMapS (by assumption))) ?_
                  refine WpL.o (O.al tb (fun p16 => ?_))
                  refine WpL.v (V.as) ?_
                  refine WpL.o (O.stA tb ?_)
                  apply WpL.nil
                  apply Out.seqN
                  apply Wp.seq
                  apply Wp.region
                  refine WpL.v (V.mv) ?_
                  refine WpL.v (V.mv) ?_
                  refine WpL.v (V.fa tb) ?_
                  refine WpL.v (V.ld1 tb) ?_
                  refine WpL.v (V.fa tb) ?_
                  refine WpL.v (V.ld1 tb) ?_
                  refine WpL.v (V.cmp) ?_
                  refine WpL.v (V.pF) ?_
                  refine WpL.v (V.as) ?_
                  apply WpL.nil
                  apply Out.seqN
                  apply Wp.seq
                  apply Wp.region
                  refine WpL.v (V.fa tb) ?_
                  refine WpL.v (V.ld1 tb) ?_
                  refine WpL.v (V.cmp) ?_
                  refine WpL.v (V.mv) ?_
                  refine WpL.pt (fun hbs1 => ?_) (fun hbs1 => ?_)
                  (try simp only [decide_eq_true_eq, decide_eq_false_iff_not, Bool.not_eq_true', Bool.not_eq_false', Bool.not_eq_true, Bool.not_eq_false, not_true_eq_false, not_false_eq_true, reduceCtorEq] at hbs1)
                  refine WpL.v (V.fa tb) ?_
                  refine WpL.v (V.ld1 tb) ?_
                  refine WpL.v (V.pT) ?_
                  refine WpL.v (V.mv) ?_
                  refine WpL.pt (fun hbs2 => ?_) (fun hbs2 => ?_)
                  (try simp only [decide_eq_true_eq, decide_eq_false_iff_not, Bool.not_eq_true', Bool.not_eq_false', Bool.not_eq_true, Bool.not_eq_false, not_true_eq_false, not_false_eq_true, reduceCtorEq] at hbs2)
                  refine WpL.v (V.fa tb) ?_
                  refine WpL.v (V.fa tb) ?_
                  refine WpL.v (V.ld1 tb) ?_
                  refine WpL.v (V.cmp) ?_
                  refine WpL.v (V.pT) ?_
                  refine WpL.v (V.mv) ?_
                  refine WpL.pt (fun hbs3 => ?_) (fun hbs3 => ?_)
                  (try simp only [decide_eq_true_eq, decide_eq_false_iff_not, Bool.not_eq_true', Bool.not_eq_false', Bool.not_eq_true, Bool.not_eq_false, not_true_eq_false, not_false_eq_true, reduceCtorEq] at hbs3)
                  refine WpL.v (V.fa tb) ?_
                  refine WpL.v (V.fa tb) ?_
                  refine WpL.v (V.ld1 tb) ?_
                  refine WpL.v (V.fa tb) ?_
                  refine WpL.v (V.ld1 tb) ?_
                  refine WpL.v (V.cmp) ?_
                  refine WpL.v (V.pT) ?_
                  apply WpL.nil
                  apply Out.seqN
                  refine Wp.c (fun hbs4 => ?_) (fun hbs4 => ?_)
                  (try simp only [decide_eq_true_eq, decide_eq_false_iff_not, Bool.not_eq_true', Bool.not_eq_false', Bool.not_eq_true, Bool.not_eq_false, not_true_eq_false, not_false_eq_true, reduceCtorEq] at hbs4)
                  (exfalso; omega)
                  (try simp only [decide_eq_true_eq, decide_eq_false_iff_not, Bool.not_eq_true', Bool.not_eq_false', Bool.not_eq_true, Bool.not_eq_false, not_true_eq_false, not_false_eq_true, reduceCtorEq] at hbs4)
                  apply Wp.skip
                  apply Out.blockN
                  apply Out.seqN
                  apply Wp.region
                  refine WpL.v (V.add) ?_
                  refine WpL.v (V.mv) ?_
                  apply WpL.nil
                  rotate_left
                  (try simp only [decide_eq_true_eq, decide_eq_false_iff_not, Bool.not_eq_true', Bool.not_eq_false', Bool.not_eq_true, Bool.not_eq_false, not_true_eq_false, not_false_eq_true, reduceCtorEq] at hbs3)
                  refine WpL.sk ?_
                  refine WpL.sk ?_
                  refine WpL.sk ?_
                  refine WpL.sk ?_
                  refine WpL.sk ?_
                  refine WpL.sk ?_
                  refine WpL.v (V.pF) ?_
                  apply WpL.nil
                  apply Out.seqN
                  refine Wp.cF ?_
                  apply Wp.skip
                  apply Out.blockN
                  apply Out.seqN
                  apply Wp.region
                  refine WpL.v (V.add) ?_
                  refine WpL.v (V.mv) ?_
                  apply WpL.nil
                  rotate_left
                  (try simp only [decide_eq_true_eq, decide_eq_false_iff_not, Bool.not_eq_true', Bool.not_eq_false', Bool.not_eq_true, Bool.not_eq_false, not_true_eq_false, not_false_eq_true, reduceCtorEq] at hbs2)
                  exact absurd (Eq.trans (Eq.symm hbs2) (by assumption) : false = true) (by decide)
                  (try simp only [decide_eq_true_eq, decide_eq_false_iff_not, Bool.not_eq_true', Bool.not_eq_false', Bool.not_eq_true, Bool.not_eq_false, not_true_eq_false, not_false_eq_true, reduceCtorEq] at hbs1)
                  refine WpL.sk ?_
                  refine WpL.sk ?_
                  refine WpL.v (V.pF) ?_
                  refine WpL.v (V.mv) ?_
                  refine WpL.sk ?_
                  refine WpL.sk ?_
                  refine WpL.sk ?_
                  refine WpL.sk ?_
                  refine WpL.v (V.pF) ?_
                  refine WpL.v (V.mv) ?_
                  refine WpL.sk ?_
                  refine WpL.sk ?_
                  refine WpL.sk ?_
                  refine WpL.sk ?_
                  refine WpL.sk ?_
                  refine WpL.sk ?_
                  refine WpL.v (V.pF) ?_
                  apply WpL.nil
                  apply Out.seqN
                  refine Wp.cF ?_
                  apply Wp.skip
                  apply Out.blockN
                  apply Out.seqN
                  apply Wp.region
                  refine WpL.v (V.add) ?_
                  refine WpL.v (V.mv) ?_
                  apply WpL.nil
                  rotate_left
                  (try simp only [decide_eq_true_eq, decide_eq_false_iff_not, Bool.not_eq_true', Bool.not_eq_false', Bool.not_eq_true, Bool.not_eq_false, not_true_eq_false, not_false_eq_true, reduceCtorEq] at hbs0)
                  (exfalso; omega)
                  all_goals exact Out.ag hK (i + 1, _, _, _) ⟨by show i + 1 ≤ _; omega, hC2⟩ (by show xs.length - (i + 1) < xs.length - i; omega)
            | true =>
              have hC2 := hC.yes hp
              rw [← q1, hil] at hC2
              rw [sameP_def] at hp
              simp only [Bool.and_eq_true, decide_eq_true_eq] at hp
              obtain ⟨p1, p2, p3, p4⟩ := hp
              by_cases hf0 : f < 0
              · rw [if_pos hf0] at hC2
                cases th with
                | true =>
                  apply Wp.seq
                  apply Wp.region
                  refine WpL.v (V.cmp) ?_
                  apply WpL.nil
                  apply Out.seqN
                  apply Wp.seq
                  refine Wp.c (fun hbt0 => ?_) (fun hbt0 => ?_)
                  (try simp only [decide_eq_true_eq, decide_eq_false_iff_not, Bool.not_eq_true', Bool.not_eq_false', Bool.not_eq_true, Bool.not_eq_false, not_true_eq_false, not_false_eq_true, reduceCtorEq] at hbt0)
                  apply Wp.skip
                  apply Out.seqN
                  apply Wp.seq
                  apply Wp.block
                  apply Wp.seq
                  apply Wp.region
                  refine WpL.v (V.mv) ?_
                  refine WpL.v (V.ixR tb rfl rfl (by assumption)) ?_
                  refine WpL.v (V.ldRA tb rfl (by assumption) (getMapS (by assumption))) ?_
                  refine WpL.o (O.al tb (fun p16 => ?_))
                  refine WpL.v (V.as) ?_
                  refine WpL.o (O.stA tb ?_)
                  apply WpL.nil
                  apply Out.seqN
                  apply Wp.seq
                  apply Wp.region
                  refine WpL.v (V.mv) ?_
                  refine WpL.v (V.mv) ?_
                  refine WpL.sk ?_
                  refine WpL.sk ?_
                  refine WpL.sk ?_
                  refine WpL.sk ?_
                  refine WpL.sk ?_
                  refine WpL.v (V.pT) ?_
                  refine WpL.v (V.as) ?_
                  apply WpL.nil
                  apply Out.seqN
                  apply Wp.seq
                  apply Wp.region
                  refine WpL.v (V.fa tb) ?_
                  refine WpL.v (V.ld1 tb) ?_
                  refine WpL.v (V.cmp) ?_
                  refine WpL.v (V.mv) ?_
                  refine WpL.pt (fun hbt1 => ?_) (fun hbt1 => ?_)
                  (try simp only [decide_eq_true_eq, decide_eq_false_iff_not, Bool.not_eq_true', Bool.not_eq_false', Bool.not_eq_true, Bool.not_eq_false, not_true_eq_false, not_false_eq_true, reduceCtorEq] at hbt1)
                  refine WpL.v (V.fa tb) ?_
                  refine WpL.v (V.ld1 tb) ?_
                  refine WpL.v (V.pT) ?_
                  refine WpL.v (V.mv) ?_
                  refine WpL.pt (fun hbt2 => ?_) (fun hbt2 => ?_)
                  (try simp only [decide_eq_true_eq, decide_eq_false_iff_not, Bool.not_eq_true', Bool.not_eq_false', Bool.not_eq_true, Bool.not_eq_false, not_true_eq_false, not_false_eq_true, reduceCtorEq] at hbt2)
                  refine WpL.v (V.fa tb) ?_
                  refine WpL.v (V.fa tb) ?_
                  refine WpL.v (V.ld1 tb) ?_
                  refine WpL.v (V.cmp) ?_
                  refine WpL.v (V.pT) ?_
                  refine WpL.v (V.mv) ?_
                  refine WpL.pt (fun hbt3 => ?_) (fun hbt3 => ?_)
                  (try simp only [decide_eq_true_eq, decide_eq_false_iff_not, Bool.not_eq_true', Bool.not_eq_false', Bool.not_eq_true, Bool.not_eq_false, not_true_eq_false, not_false_eq_true, reduceCtorEq] at hbt3)
                  refine WpL.v (V.fa tb) ?_
                  refine WpL.v (V.fa tb) ?_
                  refine WpL.v (V.ld1 tb) ?_
                  refine WpL.v (V.fa tb) ?_
                  refine WpL.v (V.ld1 tb) ?_
                  refine WpL.v (V.cmp) ?_
                  refine WpL.v (V.pT) ?_
                  apply WpL.nil
                  apply Out.seqN
                  refine Wp.c (fun hbt4 => ?_) (fun hbt4 => ?_)
                  (try simp only [decide_eq_true_eq, decide_eq_false_iff_not, Bool.not_eq_true', Bool.not_eq_false', Bool.not_eq_true, Bool.not_eq_false, not_true_eq_false, not_false_eq_true, reduceCtorEq] at hbt4)
                  apply Wp.seq
                  apply Wp.region
                  refine WpL.v (V.mv) ?_
                  refine WpL.v (V.add) ?_
                  refine WpL.v (V.as) ?_
                  apply WpL.nil
                  apply Out.seqN
                  apply Wp.seq
                  apply Wp.region
                  refine WpL.v (V.mv) ?_
                  refine WpL.v (V.cmp) ?_
                  apply WpL.nil
                  apply Out.seqN
                  refine Wp.c (fun hbt5 => ?_) (fun hbt5 => ?_)
                  (try simp only [decide_eq_true_eq, decide_eq_false_iff_not, Bool.not_eq_true', Bool.not_eq_false', Bool.not_eq_true, Bool.not_eq_false, not_true_eq_false, not_false_eq_true, reduceCtorEq] at hbt5)
                  apply Wp.region
                  refine WpL.v (V.mv) ?_
                  refine WpL.v (V.as) ?_
                  apply WpL.nil
                  apply Out.blockN
                  apply Out.seqN
                  apply Wp.region
                  refine WpL.v (V.add) ?_
                  refine WpL.v (V.mv) ?_
                  apply WpL.nil
                  rotate_left
                  (try simp only [decide_eq_true_eq, decide_eq_false_iff_not, Bool.not_eq_true', Bool.not_eq_false', Bool.not_eq_true, Bool.not_eq_false, not_true_eq_false, not_false_eq_true, reduceCtorEq] at hbt5)
                  (exfalso; omega)
                  (try simp only [decide_eq_true_eq, decide_eq_false_iff_not, Bool.not_eq_true', Bool.not_eq_false', Bool.not_eq_true, Bool.not_eq_false, not_true_eq_false, not_false_eq_true, reduceCtorEq] at hbt4)
                  (exfalso; omega)
                  (try simp only [decide_eq_true_eq, decide_eq_false_iff_not, Bool.not_eq_true', Bool.not_eq_false', Bool.not_eq_true, Bool.not_eq_false, not_true_eq_false, not_false_eq_true, reduceCtorEq] at hbt3)
                  (exfalso; omega)
                  (try simp only [decide_eq_true_eq, decide_eq_false_iff_not, Bool.not_eq_true', Bool.not_eq_false', Bool.not_eq_true, Bool.not_eq_false, not_true_eq_false, not_false_eq_true, reduceCtorEq] at hbt2)
                  exact absurd (Eq.trans (Eq.symm hbt2) (by assumption) : false = true) (by decide)
                  (try simp only [decide_eq_true_eq, decide_eq_false_iff_not, Bool.not_eq_true', Bool.not_eq_false', Bool.not_eq_true, Bool.not_eq_false, not_true_eq_false, not_false_eq_true, reduceCtorEq] at hbt1)
                  (exfalso; omega)
                  (try simp only [decide_eq_true_eq, decide_eq_false_iff_not, Bool.not_eq_true', Bool.not_eq_false', Bool.not_eq_true, Bool.not_eq_false, not_true_eq_false, not_false_eq_true, reduceCtorEq] at hbt0)
                  (exfalso; omega)
                  all_goals exact Out.ag hK (i + 1, _, _, _) ⟨by show i + 1 ≤ _; omega, hC2⟩ (by show xs.length - (i + 1) < xs.length - i; omega)
                | false =>
                  apply Wp.seq
                  apply Wp.region
                  refine WpL.v (V.cmp) ?_
                  apply WpL.nil
                  apply Out.seqN
                  apply Wp.seq
                  refine Wp.c (fun hbu0 => ?_) (fun hbu0 => ?_)
                  (try simp only [decide_eq_true_eq, decide_eq_false_iff_not, Bool.not_eq_true', Bool.not_eq_false', Bool.not_eq_true, Bool.not_eq_false, not_true_eq_false, not_false_eq_true, reduceCtorEq] at hbu0)
                  apply Wp.skip
                  apply Out.seqN
                  apply Wp.seq
                  apply Wp.block
                  apply Wp.seq
                  apply Wp.region
                  refine WpL.v (V.mv) ?_
                  refine WpL.v (V.ixR tb rfl rfl (by assumption)) ?_
                  refine WpL.v (V.ldRA tb rfl (by assumption) (getMapS (by assumption))) ?_
                  refine WpL.o (O.al tb (fun p16 => ?_))
                  refine WpL.v (V.as) ?_
                  refine WpL.o (O.stA tb ?_)
                  apply WpL.nil
                  apply Out.seqN
                  apply Wp.seq
                  apply Wp.region
                  refine WpL.v (V.mv) ?_
                  refine WpL.v (V.mv) ?_
                  refine WpL.v (V.fa tb) ?_
                  refine WpL.v (V.ld1 tb) ?_
                  refine WpL.v (V.fa tb) ?_
                  refine WpL.v (V.ld1 tb) ?_
                  refine WpL.v (V.cmp) ?_
                  refine WpL.v (V.pF) ?_
                  refine WpL.v (V.as) ?_
                  apply WpL.nil
                  apply Out.seqN
                  apply Wp.seq
                  apply Wp.region
                  refine WpL.v (V.fa tb) ?_
                  refine WpL.v (V.ld1 tb) ?_
                  refine WpL.v (V.cmp) ?_
                  refine WpL.v (V.mv) ?_
                  refine WpL.pt (fun hbu1 => ?_) (fun hbu1 => ?_)
                  (try simp only [decide_eq_true_eq, decide_eq_false_iff_not, Bool.not_eq_true', Bool.not_eq_false', Bool.not_eq_true, Bool.not_eq_false, not_true_eq_false, not_false_eq_true, reduceCtorEq] at hbu1)
                  refine WpL.v (V.fa tb) ?_
                  refine WpL.v (V.ld1 tb) ?_
                  refine WpL.v (V.pT) ?_
                  refine WpL.v (V.mv) ?_
                  refine WpL.pt (fun hbu2 => ?_) (fun hbu2 => ?_)
                  (try simp only [decide_eq_true_eq, decide_eq_false_iff_not, Bool.not_eq_true', Bool.not_eq_false', Bool.not_eq_true, Bool.not_eq_false, not_true_eq_false, not_false_eq_true, reduceCtorEq] at hbu2)
                  refine WpL.v (V.fa tb) ?_
                  refine WpL.v (V.fa tb) ?_
                  refine WpL.v (V.ld1 tb) ?_
                  refine WpL.v (V.cmp) ?_
                  refine WpL.v (V.pT) ?_
                  refine WpL.v (V.mv) ?_
                  refine WpL.pt (fun hbu3 => ?_) (fun hbu3 => ?_)
                  (try simp only [decide_eq_true_eq, decide_eq_false_iff_not, Bool.not_eq_true', Bool.not_eq_false', Bool.not_eq_true, Bool.not_eq_false, not_true_eq_false, not_false_eq_true, reduceCtorEq] at hbu3)
                  refine WpL.v (V.fa tb) ?_
                  refine WpL.v (V.fa tb) ?_
                  refine WpL.v (V.ld1 tb) ?_
                  refine WpL.v (V.fa tb) ?_
                  refine WpL.v (V.ld1 tb) ?_
                  refine WpL.v (V.cmp) ?_
                  refine WpL.v (V.pT) ?_
                  apply WpL.nil
                  apply Out.seqN
                  refine Wp.c (fun hbu4 => ?_) (fun hbu4 => ?_)
                  (try simp only [decide_eq_true_eq, decide_eq_false_iff_not, Bool.not_eq_true', Bool.not_eq_false', Bool.not_eq_true, Bool.not_eq_false, not_true_eq_false, not_false_eq_true, reduceCtorEq] at hbu4)
                  apply Wp.seq
                  apply Wp.region
                  refine WpL.v (V.mv) ?_
                  refine WpL.v (V.add) ?_
                  refine WpL.v (V.as) ?_
                  apply WpL.nil
                  apply Out.seqN
                  apply Wp.seq
                  apply Wp.region
                  refine WpL.v (V.mv) ?_
                  refine WpL.v (V.cmp) ?_
                  apply WpL.nil
                  apply Out.seqN
                  refine Wp.c (fun hbu5 => ?_) (fun hbu5 => ?_)
                  (try simp only [decide_eq_true_eq, decide_eq_false_iff_not, Bool.not_eq_true', Bool.not_eq_false', Bool.not_eq_true, Bool.not_eq_false, not_true_eq_false, not_false_eq_true, reduceCtorEq] at hbu5)
                  apply Wp.region
                  refine WpL.v (V.mv) ?_
                  refine WpL.v (V.as) ?_
                  apply WpL.nil
                  apply Out.blockN
                  apply Out.seqN
                  apply Wp.region
                  refine WpL.v (V.add) ?_
                  refine WpL.v (V.mv) ?_
                  apply WpL.nil
                  rotate_left
                  (try simp only [decide_eq_true_eq, decide_eq_false_iff_not, Bool.not_eq_true', Bool.not_eq_false', Bool.not_eq_true, Bool.not_eq_false, not_true_eq_false, not_false_eq_true, reduceCtorEq] at hbu5)
                  (exfalso; omega)
                  (try simp only [decide_eq_true_eq, decide_eq_false_iff_not, Bool.not_eq_true', Bool.not_eq_false', Bool.not_eq_true, Bool.not_eq_false, not_true_eq_false, not_false_eq_true, reduceCtorEq] at hbu4)
                  (exfalso; omega)
                  (try simp only [decide_eq_true_eq, decide_eq_false_iff_not, Bool.not_eq_true', Bool.not_eq_false', Bool.not_eq_true, Bool.not_eq_false, not_true_eq_false, not_false_eq_true, reduceCtorEq] at hbu3)
                  (exfalso; omega)
                  (try simp only [decide_eq_true_eq, decide_eq_false_iff_not, Bool.not_eq_true', Bool.not_eq_false', Bool.not_eq_true, Bool.not_eq_false, not_true_eq_false, not_false_eq_true, reduceCtorEq] at hbu2)
                  exact absurd (Eq.trans (Eq.symm hbu2) (by assumption) : false = true) (by decide)
                  (try simp only [decide_eq_true_eq, decide_eq_false_iff_not, Bool.not_eq_true', Bool.not_eq_false', Bool.not_eq_true, Bool.not_eq_false, not_true_eq_false, not_false_eq_true, reduceCtorEq] at hbu1)
                  (exfalso; omega)
                  (try simp only [decide_eq_true_eq, decide_eq_false_iff_not, Bool.not_eq_true', Bool.not_eq_false', Bool.not_eq_true, Bool.not_eq_false, not_true_eq_false, not_false_eq_true, reduceCtorEq] at hbu0)
                  (exfalso; omega)
                  all_goals exact Out.ag hK (i + 1, _, _, _) ⟨by show i + 1 ≤ _; omega, hC2⟩ (by show xs.length - (i + 1) < xs.length - i; omega)
              · rw [if_neg hf0] at hC2
                cases th with
                | true =>
                  apply Wp.seq
                  apply Wp.region
                  refine WpL.v (V.cmp) ?_
                  apply WpL.nil
                  apply Out.seqN
                  apply Wp.seq
                  refine Wp.c (fun hbv0 => ?_) (fun hbv0 => ?_)
                  (try simp only [decide_eq_true_eq, decide_eq_false_iff_not, Bool.not_eq_true', Bool.not_eq_false', Bool.not_eq_true, Bool.not_eq_false, not_true_eq_false, not_false_eq_true, reduceCtorEq] at hbv0)
                  apply Wp.skip
                  apply Out.seqN
                  apply Wp.seq
                  apply Wp.block
                  apply Wp.seq
                  apply Wp.region
                  refine WpL.v (V.mv) ?_
                  refine WpL.v (V.ixR tb rfl rfl (by assumption)) ?_
                  refine WpL.v (V.ldRA tb rfl (by assumption) (getMapS (by assumption))) ?_
                  refine WpL.o (O.al tb (fun p16 => ?_))
                  refine WpL.v (V.as) ?_
                  refine WpL.o (O.stA tb ?_)
                  apply WpL.nil
                  apply Out.seqN
                  apply Wp.seq
                  apply Wp.region
                  refine WpL.v (V.mv) ?_
                  refine WpL.v (V.mv) ?_
                  refine WpL.sk ?_
                  refine WpL.sk ?_
                  refine WpL.sk ?_
                  refine WpL.sk ?_
                  refine WpL.sk ?_
                  refine WpL.v (V.pT) ?_
                  refine WpL.v (V.as) ?_
                  apply WpL.nil
                  apply Out.seqN
                  apply Wp.seq
                  apply Wp.region
                  refine WpL.v (V.fa tb) ?_
                  refine WpL.v (V.ld1 tb) ?_
                  refine WpL.v (V.cmp) ?_
                  refine WpL.v (V.mv) ?_
                  refine WpL.pt (fun hbv1 => ?_) (fun hbv1 => ?_)
                  (try simp only [decide_eq_true_eq, decide_eq_false_iff_not, Bool.not_eq_true', Bool.not_eq_false', Bool.not_eq_true, Bool.not_eq_false, not_true_eq_false, not_false_eq_true, reduceCtorEq] at hbv1)
                  refine WpL.v (V.fa tb) ?_
                  refine WpL.v (V.ld1 tb) ?_
                  refine WpL.v (V.pT) ?_
                  refine WpL.v (V.mv) ?_
                  refine WpL.pt (fun hbv2 => ?_) (fun hbv2 => ?_)
                  (try simp only [decide_eq_true_eq, decide_eq_false_iff_not, Bool.not_eq_true', Bool.not_eq_false', Bool.not_eq_true, Bool.not_eq_false, not_true_eq_false, not_false_eq_true, reduceCtorEq] at hbv2)
                  refine WpL.v (V.fa tb) ?_
                  refine WpL.v (V.fa tb) ?_
                  refine WpL.v (V.ld1 tb) ?_
                  refine WpL.v (V.cmp) ?_
                  refine WpL.v (V.pT) ?_
                  refine WpL.v (V.mv) ?_
                  refine WpL.pt (fun hbv3 => ?_) (fun hbv3 => ?_)
                  (try simp only [decide_eq_true_eq, decide_eq_false_iff_not, Bool.not_eq_true', Bool.not_eq_false', Bool.not_eq_true, Bool.not_eq_false, not_true_eq_false, not_false_eq_true, reduceCtorEq] at hbv3)
                  refine WpL.v (V.fa tb) ?_
                  refine WpL.v (V.fa tb) ?_
                  refine WpL.v (V.ld1 tb) ?_
                  refine WpL.v (V.fa tb) ?_
                  refine WpL.v (V.ld1 tb) ?_
                  refine WpL.v (V.cmp) ?_
                  refine WpL.v (V.pT) ?_
                  apply WpL.nil
                  apply Out.seqN
                  refine Wp.c (fun hbv4 => ?_) (fun hbv4 => ?_)
                  (try simp only [decide_eq_true_eq, decide_eq_false_iff_not, Bool.not_eq_true', Bool.not_eq_false', Bool.not_eq_true, Bool.not_eq_false, not_true_eq_false, not_false_eq_true, reduceCtorEq] at hbv4)
                  apply Wp.seq
                  apply Wp.region
                  refine WpL.v (V.mv) ?_
                  refine WpL.v (V.add) ?_
                  refine WpL.v (V.as) ?_
                  apply WpL.nil
                  apply Out.seqN
                  apply Wp.seq
                  apply Wp.region
                  refine WpL.v (V.mv) ?_
                  refine WpL.v (V.cmp) ?_
                  apply WpL.nil
                  apply Out.seqN
                  refine Wp.c (fun hbv5 => ?_) (fun hbv5 => ?_)
                  (try simp only [decide_eq_true_eq, decide_eq_false_iff_not, Bool.not_eq_true', Bool.not_eq_false', Bool.not_eq_true, Bool.not_eq_false, not_true_eq_false, not_false_eq_true, reduceCtorEq] at hbv5)
                  (exfalso; omega)
                  (try simp only [decide_eq_true_eq, decide_eq_false_iff_not, Bool.not_eq_true', Bool.not_eq_false', Bool.not_eq_true, Bool.not_eq_false, not_true_eq_false, not_false_eq_true, reduceCtorEq] at hbv5)
                  apply Wp.skip
                  apply Out.blockN
                  apply Out.seqN
                  apply Wp.region
                  refine WpL.v (V.add) ?_
                  refine WpL.v (V.mv) ?_
                  apply WpL.nil
                  rotate_left
                  (try simp only [decide_eq_true_eq, decide_eq_false_iff_not, Bool.not_eq_true', Bool.not_eq_false', Bool.not_eq_true, Bool.not_eq_false, not_true_eq_false, not_false_eq_true, reduceCtorEq] at hbv4)
                  (exfalso; omega)
                  (try simp only [decide_eq_true_eq, decide_eq_false_iff_not, Bool.not_eq_true', Bool.not_eq_false', Bool.not_eq_true, Bool.not_eq_false, not_true_eq_false, not_false_eq_true, reduceCtorEq] at hbv3)
                  (exfalso; omega)
                  (try simp only [decide_eq_true_eq, decide_eq_false_iff_not, Bool.not_eq_true', Bool.not_eq_false', Bool.not_eq_true, Bool.not_eq_false, not_true_eq_false, not_false_eq_true, reduceCtorEq] at hbv2)
                  exact absurd (Eq.trans (Eq.symm hbv2) (by assumption) : false = true) (by decide)
                  (try simp only [decide_eq_true_eq, decide_eq_false_iff_not, Bool.not_eq_true', Bool.not_eq_false', Bool.not_eq_true, Bool.not_eq_false, not_true_eq_false, not_false_eq_true, reduceCtorEq] at hbv1)
                  (exfalso; omega)
                  (try simp only [decide_eq_true_eq, decide_eq_false_iff_not, Bool.not_eq_true', Bool.not_eq_false', Bool.not_eq_true, Bool.not_eq_false, not_true_eq_false, not_false_eq_true, reduceCtorEq] at hbv0)
                  (exfalso; omega)
                  all_goals exact Out.ag hK (i + 1, _, _, _) ⟨by show i + 1 ≤ _; omega, hC2⟩ (by show xs.length - (i + 1) < xs.length - i; omega)
                | false =>
                  apply Wp.seq
                  apply Wp.region
                  refine WpL.v (V.cmp) ?_
                  apply WpL.nil
                  apply Out.seqN
                  apply Wp.seq
                  refine Wp.c (fun hbx0 => ?_) (fun hbx0 => ?_)
                  (try simp only [decide_eq_true_eq, decide_eq_false_iff_not, Bool.not_eq_true', Bool.not_eq_false', Bool.not_eq_true, Bool.not_eq_false, not_true_eq_false, not_false_eq_true, reduceCtorEq] at hbx0)
                  apply Wp.skip
                  apply Out.seqN
                  apply Wp.seq
                  apply Wp.block
                  apply Wp.seq
                  apply Wp.region
                  refine WpL.v (V.mv) ?_
                  refine WpL.v (V.ixR tb rfl rfl (by assumption)) ?_
                  refine WpL.v (V.ldRA tb rfl (by assumption) (getMapS (by assumption))) ?_
                  refine WpL.o (O.al tb (fun p16 => ?_))
                  refine WpL.v (V.as) ?_
                  refine WpL.o (O.stA tb ?_)
                  apply WpL.nil
                  apply Out.seqN
                  apply Wp.seq
                  apply Wp.region
                  refine WpL.v (V.mv) ?_
                  refine WpL.v (V.mv) ?_
                  refine WpL.v (V.fa tb) ?_
                  refine WpL.v (V.ld1 tb) ?_
                  refine WpL.v (V.fa tb) ?_
                  refine WpL.v (V.ld1 tb) ?_
                  refine WpL.v (V.cmp) ?_
                  refine WpL.v (V.pF) ?_
                  refine WpL.v (V.as) ?_
                  apply WpL.nil
                  apply Out.seqN
                  apply Wp.seq
                  apply Wp.region
                  refine WpL.v (V.fa tb) ?_
                  refine WpL.v (V.ld1 tb) ?_
                  refine WpL.v (V.cmp) ?_
                  refine WpL.v (V.mv) ?_
                  refine WpL.pt (fun hbx1 => ?_) (fun hbx1 => ?_)
                  (try simp only [decide_eq_true_eq, decide_eq_false_iff_not, Bool.not_eq_true', Bool.not_eq_false', Bool.not_eq_true, Bool.not_eq_false, not_true_eq_false, not_false_eq_true, reduceCtorEq] at hbx1)
                  refine WpL.v (V.fa tb) ?_
                  refine WpL.v (V.ld1 tb) ?_
                  refine WpL.v (V.pT) ?_
                  refine WpL.v (V.mv) ?_
                  refine WpL.pt (fun hbx2 => ?_) (fun hbx2 => ?_)
                  (try simp only [decide_eq_true_eq, decide_eq_false_iff_not, Bool.not_eq_true', Bool.not_eq_false', Bool.not_eq_true, Bool.not_eq_false, not_true_eq_false, not_false_eq_true, reduceCtorEq] at hbx2)
                  refine WpL.v (V.fa tb) ?_
                  refine WpL.v (V.fa tb) ?_
                  refine WpL.v (V.ld1 tb) ?_
                  refine WpL.v (V.cmp) ?_
                  refine WpL.v (V.pT) ?_
                  refine WpL.v (V.mv) ?_
                  refine WpL.pt (fun hbx3 => ?_) (fun hbx3 => ?_)
                  (try simp only [decide_eq_true_eq, decide_eq_false_iff_not, Bool.not_eq_true', Bool.not_eq_false', Bool.not_eq_true, Bool.not_eq_false, not_true_eq_false, not_false_eq_true, reduceCtorEq] at hbx3)
                  refine WpL.v (V.fa tb) ?_
                  refine WpL.v (V.fa tb) ?_
                  refine WpL.v (V.ld1 tb) ?_
                  refine WpL.v (V.fa tb) ?_
                  refine WpL.v (V.ld1 tb) ?_
                  refine WpL.v (V.cmp) ?_
                  refine WpL.v (V.pT) ?_
                  apply WpL.nil
                  apply Out.seqN
                  refine Wp.c (fun hbx4 => ?_) (fun hbx4 => ?_)
                  (try simp only [decide_eq_true_eq, decide_eq_false_iff_not, Bool.not_eq_true', Bool.not_eq_false', Bool.not_eq_true, Bool.not_eq_false, not_true_eq_false, not_false_eq_true, reduceCtorEq] at hbx4)
                  apply Wp.seq
                  apply Wp.region
                  refine WpL.v (V.mv) ?_
                  refine WpL.v (V.add) ?_
                  refine WpL.v (V.as) ?_
                  apply WpL.nil
                  apply Out.seqN
                  apply Wp.seq
                  apply Wp.region
                  refine WpL.v (V.mv) ?_
                  refine WpL.v (V.cmp) ?_
                  apply WpL.nil
                  apply Out.seqN
                  refine Wp.c (fun hbx5 => ?_) (fun hbx5 => ?_)
                  (try simp only [decide_eq_true_eq, decide_eq_false_iff_not, Bool.not_eq_true', Bool.not_eq_false', Bool.not_eq_true, Bool.not_eq_false, not_true_eq_false, not_false_eq_true, reduceCtorEq] at hbx5)
                  (exfalso; omega)
                  (try simp only [decide_eq_true_eq, decide_eq_false_iff_not, Bool.not_eq_true', Bool.not_eq_false', Bool.not_eq_true, Bool.not_eq_false, not_true_eq_false, not_false_eq_true, reduceCtorEq] at hbx5)
                  apply Wp.skip
                  apply Out.blockN
                  apply Out.seqN
                  apply Wp.region
                  refine WpL.v (V.add) ?_
                  refine WpL.v (V.mv) ?_
                  apply WpL.nil
                  rotate_left
                  (try simp only [decide_eq_true_eq, decide_eq_false_iff_not, Bool.not_eq_true', Bool.not_eq_false', Bool.not_eq_true, Bool.not_eq_false, not_true_eq_false, not_false_eq_true, reduceCtorEq] at hbx4)
                  (exfalso; omega)
                  (try simp only [decide_eq_true_eq, decide_eq_false_iff_not, Bool.not_eq_true', Bool.not_eq_false', Bool.not_eq_true, Bool.not_eq_false, not_true_eq_false, not_false_eq_true, reduceCtorEq] at hbx3)
                  (exfalso; omega)
                  (try simp only [decide_eq_true_eq, decide_eq_false_iff_not, Bool.not_eq_true', Bool.not_eq_false', Bool.not_eq_true, Bool.not_eq_false, not_true_eq_false, not_false_eq_true, reduceCtorEq] at hbx2)
                  exact absurd (Eq.trans (Eq.symm hbx2) (by assumption) : false = true) (by decide)
                  (try simp only [decide_eq_true_eq, decide_eq_false_iff_not, Bool.not_eq_true', Bool.not_eq_false', Bool.not_eq_true, Bool.not_eq_false, not_true_eq_false, not_false_eq_true, reduceCtorEq] at hbx1)
                  (exfalso; omega)
                  (try simp only [decide_eq_true_eq, decide_eq_false_iff_not, Bool.not_eq_true', Bool.not_eq_false', Bool.not_eq_true, Bool.not_eq_false, not_true_eq_false, not_false_eq_true, reduceCtorEq] at hbx0)
                  (exfalso; omega)
                  all_goals exact Out.ag hK (i + 1, _, _, _) ⟨by show i + 1 ≤ _; omega, hC2⟩ (by show xs.length - (i + 1) < xs.length - i; omega)
          · obtain rfl : i = xs.length := by omega
            rw [List.take_length] at hC
            clear hK
            have hth := hC.there
            have hco := hC.count
            by_cases hA : th = false ∧ faults n ≤ c
            · obtain ⟨rfl, hA⟩ := hA
              rcases hC.first with ⟨g1, _⟩ | ⟨k, m0, t, g1, rfl, g3⟩
              · rw [g1] at hco; simp at hco; omega
              have hkl := (List.getElem?_eq_some_iff.1 g3).1
              have hsm : sameL x xs = m0 :: t := by unfold sameL; rw [← hth]; exact g1
              rw [g1] at hco; simp only [List.length_cons] at hco
              rw [show choose n x xs = (2, m0.Call) by unfold choose; rw [if_neg hlen, hc3]; simp only [hac, hsm]; rw [if_pos (by rw [← hco]; exact hA)]]
              apply Wp.seq
              apply Wp.region
              refine WpL.v (V.cmp) ?_
              apply WpL.nil
              apply Out.seqN
              apply Wp.seq
              refine Wp.c (fun hbA0 => ?_) (fun hbA0 => ?_)
              (try simp only [decide_eq_true_eq, decide_eq_false_iff_not, Bool.not_eq_true', Bool.not_eq_false', Bool.not_eq_true, Bool.not_eq_false, not_true_eq_false, not_false_eq_true, reduceCtorEq] at hbA0)
              (exfalso; omega)
              (try simp only [decide_eq_true_eq, decide_eq_false_iff_not, Bool.not_eq_true', Bool.not_eq_false', Bool.not_eq_true, Bool.not_eq_false, not_true_eq_false, not_false_eq_true, reduceCtorEq] at hbA0)
              apply Wp.exit
              apply Out.seqE
              apply Out.seqE
              apply Out.blockE
              apply Out.seqN
              apply Wp.seq
              apply Wp.seq
              apply Wp.region
              refine WpL.v (V.mv) ?_
              refine WpL.v (V.not) ?_
              refine WpL.v (V.mv) ?_
              refine WpL.v (V.mv) ?_
              refine WpL.v (V.cmp) ?_
              refine WpL.v (V.pT) ?_
              refine WpL.v (V.mv) ?_
              refine WpL.pt (fun hbA1 => ?_) (fun hbA1 => ?_)
              (try simp only [decide_eq_true_eq, decide_eq_false_iff_not, Bool.not_eq_true', Bool.not_eq_false', Bool.not_eq_true, Bool.not_eq_false, not_true_eq_false, not_false_eq_true, reduceCtorEq] at hbA1)
              refine WpL.v (V.mv) ?_
              refine WpL.v (V.mv) ?_
              refine WpL.v (V.cmp) ?_
              refine WpL.v (V.pT) ?_
              apply WpL.nil
              apply Out.seqN
              refine Wp.c (fun hbA2 => ?_) (fun hbA2 => ?_)
              (try simp only [decide_eq_true_eq, decide_eq_false_iff_not, Bool.not_eq_true', Bool.not_eq_false', Bool.not_eq_true, Bool.not_eq_false, not_true_eq_false, not_false_eq_true, reduceCtorEq] at hbA2)
              apply Wp.seq
              refine Wp.dG [] ?_ (List.Sublist.cons_cons _ (List.Sublist.cons _ (List.Sublist.cons _ List.Sublist.slnil))) (List.Sublist.cons_cons _ (List.Sublist.cons _ (List.Sublist.cons _ List.Sublist.slnil)))
              refine WpA.tF 0 rfl (V.mv) ?_
              refine WpA.tF 1 rfl (V.mv) ?_
              refine WpA.tF 2 rfl (V.ixR tb rfl rfl (by assumption)) ?_
              refine WpA.tF 3 rfl (V.fa tb) ?_
              refine WpA.tF 4 rfl (V.rdFA tb (o := 11) rfl hR (getMapS g3)) ?_
              refine WpA.tF 5 rfl (V.as) ?_
              refine WpA.oS 6 rfl (O.stA tb ⟨?_, ?_, ?_⟩)
              exact holdT
              exact holdT
              refine WpA.ou ?_
              apply Out.seqN
              apply Wp.ret
              apply Out.seqR
              refine Out.f2 rfl ResIs.t (ResIs.ca tb) ⟨?_, rfl⟩
              exact rfl
              (try simp only [decide_eq_true_eq, decide_eq_false_iff_not, Bool.not_eq_true', Bool.not_eq_false', Bool.not_eq_true, Bool.not_eq_false, not_true_eq_false, not_false_eq_true, reduceCtorEq] at hbA2)
              (exfalso; omega)
              (try simp only [decide_eq_true_eq, decide_eq_false_iff_not, Bool.not_eq_true', Bool.not_eq_false', Bool.not_eq_true, Bool.not_eq_false, not_true_eq_false, not_false_eq_true, reduceCtorEq] at hbA1)
              (exfalso; omega)
            · have hch := choose_rest hlen hc3 hac (show xs.any (fun m => decide (m.From = x.Rep)) = true ∨ ((xs.filter (sameP x)).length : Int) < faults n by
                rw [← hth, ← hco]
                cases th with
                | true => exact .inl rfl
                | false => right; have : ¬ faults n ≤ c := fun h => hA ⟨rfl, h⟩; omega)
              rw [hc1] at hch
              rw [hch]
              clear hch
              cases th with
              | true =>
                apply Wp.seq
                apply Wp.region
                refine WpL.v (V.cmp) ?_
                apply WpL.nil
                apply Out.seqN
                apply Wp.seq
                refine Wp.c (fun hbB0 => ?_) (fun hbB0 => ?_)
                (try simp only [decide_eq_true_eq, decide_eq_false_iff_not, Bool.not_eq_true', Bool.not_eq_false', Bool.not_eq_true, Bool.not_eq_false, not_true_eq_false, not_false_eq_true, reduceCtorEq] at hbB0)
                (exfalso; omega)
                (try simp only [decide_eq_true_eq, decide_eq_false_iff_not, Bool.not_eq_true', Bool.not_eq_false', Bool.not_eq_true, Bool.not_eq_false, not_true_eq_false, not_false_eq_true, reduceCtorEq] at hbB0)
                apply Wp.exit
                apply Out.seqE
                apply Out.seqE
                apply Out.blockE
                apply Out.seqN
                apply Wp.seq
                apply Wp.seq
                apply Wp.region
                refine WpL.v (V.mv) ?_
                refine WpL.v (V.not) ?_
                refine WpL.v (V.mv) ?_
                refine WpL.sk ?_
                refine WpL.sk ?_
                refine WpL.v (V.pF) ?_
                refine WpL.v (V.mv) ?_
                refine WpL.sk ?_
                refine WpL.sk ?_
                refine WpL.sk ?_
                refine WpL.v (V.pF) ?_
                apply WpL.nil
                apply Out.seqN
                refine Wp.cF ?_
                apply Wp.skip
                apply Out.seqN
                apply Wp.seq
                apply Wp.region
                refine WpL.v (V.mv) ?_
                refine WpL.o (Op1.callT rfl (h1) (by (repeat (first | exact Sel.nil | exact Rem.here | apply Sel.cons | apply Rem.there))) ?_)
                rintro v1 s2 ⟨rfl, rfl⟩
                refine incat ?_
                refine WpL.v (V.as) ?_
                apply WpL.nil
                apply Out.seqN
                apply Wp.seq
                apply Wp.seq
                apply Wp.region
                refine WpL.v (V.mv) ?_
                refine WpL.v (V.cmp) ?_
                apply WpL.nil
                apply Out.seqN
                refine Wp.c (fun hbB3 => ?_) (fun hbB3 => ?_)
                (try simp only [decide_eq_true_eq, decide_eq_false_iff_not, Bool.not_eq_true', Bool.not_eq_false', Bool.not_eq_true, Bool.not_eq_false, not_true_eq_false, not_false_eq_true, reduceCtorEq] at hbB3)
                (exfalso; omega)
                (try simp only [decide_eq_true_eq, decide_eq_false_iff_not, Bool.not_eq_true', Bool.not_eq_false', Bool.not_eq_true, Bool.not_eq_false, not_true_eq_false, not_false_eq_true, reduceCtorEq] at hbB3)
                apply Wp.skip
                apply Out.seqN
                apply Wp.seq
                apply Wp.region
                refine WpL.v (V.mv) ?_
                refine WpL.v (V.mv) ?_
                refine WpL.v (V.ixR tb rfl rfl (by assumption)) ?_
                refine WpL.v (V.fa tb) ?_
                refine WpL.v (V.rdFA tb (o := 11) rfl hR (getMapS hk1)) ?_
                refine WpL.o (O.al tb (fun p18 => ?_))
                refine WpL.o (O.stA tb ?_)
                apply WpL.nil
                apply Out.seqN
                apply Wp.seq
                apply Wp.seq
                apply Wp.region
                refine WpL.v (V.mv) ?_
                refine WpL.v (V.lenL tb) ?_
                refine WpL.v (V.mv) ?_
                apply WpL.nil
                apply Out.seqN
                apply Wp.block
                refine Wp.lp [135, 134, 18, 7] (fun i : Nat => i ≤ xs.length) (fun i => [(136, I (i : Int))]) (fun i => [cells p18 33 (asks a.Call (xs.take i)).c]) (fun i => xs.length - i) 0 (Nat.zero_le _) ?_
                rintro i hi0 K hK
                dsimp only [List.cons_append, List.nil_append]
                by_cases hlt : i < xs.length
                · obtain ⟨p, hp⟩ := getS hlt
                  have q1 := take_snocS hp
                  have q2 : asks a.Call (xs.take (i + 1)) = (if p.Status = 1 then mrg (asks a.Call (xs.take i)) p.Call else asks a.Call (xs.take i)) := by rw [q1, asks_snoc]
                  generalize asks a.Call (xs.take i) = d at *
                  rw [mrg_eq] at q2
                  have hJ := ref_join d.Deps p.Call.Deps
                  by_cases hs : p.Status = 1
                  · rw [if_pos hs] at q2
                    apply Wp.seq
                    apply Wp.region
                    refine WpL.v (V.cmp) ?_
                    apply WpL.nil
                    apply Out.seqN
                    apply Wp.seq
                    refine Wp.c (fun hbD0 => ?_) (fun hbD0 => ?_)
                    (try simp only [decide_eq_true_eq, decide_eq_false_iff_not, Bool.not_eq_true', Bool.not_eq_false', Bool.not_eq_true, Bool.not_eq_false, not_true_eq_false, not_false_eq_true, reduceCtorEq] at hbD0)
                    apply Wp.skip
                    apply Out.seqN
                    apply Wp.seq
                    apply Wp.block
                    apply Wp.seq
                    apply Wp.region
                    refine WpL.v (V.ixR tb rfl rfl (by assumption)) ?_
                    refine WpL.v (V.ldRA tb rfl (by assumption) (getMapS (by assumption))) ?_
                    refine WpL.o (O.al tb (fun p20 => ?_))
                    refine WpL.o (O.stA tb ?_)
                    apply WpL.nil
                    apply Out.seqN
                    apply Wp.seq
                    apply Wp.region
                    refine WpL.v (V.fa tb) ?_
                    refine WpL.v (V.ld1 tb) ?_
                    refine WpL.v (V.cmp) ?_
                    apply WpL.nil
                    apply Out.seqN
                    refine Wp.c (fun hbD1 => ?_) (fun hbD1 => ?_)
                    (try simp only [decide_eq_true_eq, decide_eq_false_iff_not, Bool.not_eq_true', Bool.not_eq_false', Bool.not_eq_true, Bool.not_eq_false, not_true_eq_false, not_false_eq_true, reduceCtorEq] at hbD1)
                    apply Wp.seq
                    apply Wp.region
                    refine WpL.v (V.fa tb) ?_
                    refine WpL.v (V.ldA tb) ?_
                    refine WpL.v (V.fa tb) ?_
                    refine WpL.v (V.fa tb) ?_
                    refine WpL.v (V.ldA tb) ?_
                    refine WpL.o (Op1.fn rfl (hJ) ?_)
                    refine WpL.v (V.fa tb) ?_
                    refine WpL.o (O.stA tb ?_)
                    apply WpL.nil
                    apply Out.seqN
                    apply Wp.region
                    refine WpL.v (V.fa tb) ?_
                    refine WpL.v (V.ld1 tb) ?_
                    refine WpL.v (V.fa tb) ?_
                    refine WpL.v (V.fa tb) ?_
                    refine WpL.v (V.ld1 tb) ?_
                    refine WpL.v (V.max) ?_
                    refine WpL.v (V.fa tb) ?_
                    refine WpL.o (O.st1 tb ?_)
                    apply WpL.nil
                    apply Out.blockN
                    apply Out.seqN
                    apply Wp.region
                    refine WpL.v (V.add) ?_
                    refine WpL.v (V.mv) ?_
                    apply WpL.nil
                    rotate_left
                    (try simp only [decide_eq_true_eq, decide_eq_false_iff_not, Bool.not_eq_true', Bool.not_eq_false', Bool.not_eq_true, Bool.not_eq_false, not_true_eq_false, not_false_eq_true, reduceCtorEq] at hbD1)
                    (exfalso; omega)
                    (try simp only [decide_eq_true_eq, decide_eq_false_iff_not, Bool.not_eq_true', Bool.not_eq_false', Bool.not_eq_true, Bool.not_eq_false, not_true_eq_false, not_false_eq_true, reduceCtorEq] at hbD0)
                    (exfalso; omega)
                    all_goals exact Out.ag hK (i + 1) (by show i + 1 ≤ _; omega) (by show xs.length - (i + 1) < xs.length - i; omega) (hs := by rw [q2]; (repeat (first | exact Sel.nil | exact Rem.here | apply Sel.cons | apply Rem.there)))
                  · rw [if_neg hs] at q2
                    apply Wp.seq
                    apply Wp.region
                    refine WpL.v (V.cmp) ?_
                    apply WpL.nil
                    apply Out.seqN
                    apply Wp.seq
                    refine Wp.c (fun hbF0 => ?_) (fun hbF0 => ?_)
                    (try simp only [decide_eq_true_eq, decide_eq_false_iff_not, Bool.not_eq_true', Bool.not_eq_false', Bool.not_eq_true, Bool.not_eq_false, not_true_eq_false, not_false_eq_true, reduceCtorEq] at hbF0)
                    apply Wp.skip
                    apply Out.seqN
                    apply Wp.seq
                    apply Wp.block
                    apply Wp.seq
                    apply Wp.region
                    refine WpL.v (V.ixR tb rfl rfl (by assumption)) ?_
                    refine WpL.v (V.ldRA tb rfl (by assumption) (getMapS (by assumption))) ?_
                    refine WpL.o (O.al tb (fun p20 => ?_))
                    refine WpL.o (O.stA tb ?_)
                    apply WpL.nil
                    apply Out.seqN
                    apply Wp.seq
                    apply Wp.region
                    refine WpL.v (V.fa tb) ?_
                    refine WpL.v (V.ld1 tb) ?_
                    refine WpL.v (V.cmp) ?_
                    apply WpL.nil
                    apply Out.seqN
                    refine Wp.c (fun hbF1 => ?_) (fun hbF1 => ?_)
                    (try simp only [decide_eq_true_eq, decide_eq_false_iff_not, Bool.not_eq_true', Bool.not_eq_false', Bool.not_eq_true, Bool.not_eq_false, not_true_eq_false, not_false_eq_true, reduceCtorEq] at hbF1)
                    (exfalso; omega)
                    (try simp only [decide_eq_true_eq, decide_eq_false_iff_not, Bool.not_eq_true', Bool.not_eq_false', Bool.not_eq_true, Bool.not_eq_false, not_true_eq_false, not_false_eq_true, reduceCtorEq] at hbF1)
                    apply Wp.skip
                    apply Out.blockN
                    apply Out.seqN
                    apply Wp.region
                    refine WpL.v (V.add) ?_
                    refine WpL.v (V.mv) ?_
                    apply WpL.nil
                    rotate_left
                    (try simp only [decide_eq_true_eq, decide_eq_false_iff_not, Bool.not_eq_true', Bool.not_eq_false', Bool.not_eq_true, Bool.not_eq_false, not_true_eq_false, not_false_eq_true, reduceCtorEq] at hbF0)
                    (exfalso; omega)
                    all_goals exact Out.ag hK (i + 1) (by show i + 1 ≤ _; omega) (by show xs.length - (i + 1) < xs.length - i; omega) (hs := by rw [q2]; (repeat (first | exact Sel.nil | exact Rem.here | apply Sel.cons | apply Rem.there)))
                · obtain rfl : i = xs.length := by omega
                  rw [List.take_length]
                  clear hK
                  apply Wp.seq
                  apply Wp.region
                  refine WpL.v (V.cmp) ?_
                  apply WpL.nil
                  apply Out.seqN
                  apply Wp.seq
                  refine Wp.c (fun hbH0 => ?_) (fun hbH0 => ?_)
                  (try simp only [decide_eq_true_eq, decide_eq_false_iff_not, Bool.not_eq_true', Bool.not_eq_false', Bool.not_eq_true, Bool.not_eq_false, not_true_eq_false, not_false_eq_true, reduceCtorEq] at hbH0)
                  (exfalso; omega)
                  (try simp only [decide_eq_true_eq, decide_eq_false_iff_not, Bool.not_eq_true', Bool.not_eq_false', Bool.not_eq_true, Bool.not_eq_false, not_true_eq_false, not_false_eq_true, reduceCtorEq] at hbH0)
                  apply Wp.exit
                  apply Out.seqE
                  apply Out.seqE
                  apply Out.blockE
                  apply Out.seqN
                  apply Wp.seq
                  refine Wp.dG [] ?_ (List.Sublist.cons_cons _ (List.Sublist.cons _ (List.Sublist.cons _ (List.Sublist.cons _ List.Sublist.slnil)))) (List.Sublist.cons_cons _ (List.Sublist.cons _ (List.Sublist.cons _ (List.Sublist.cons _ List.Sublist.slnil))))
                  refine WpA.tF 0 rfl (V.ldA tb) ?_
                  refine WpA.tF 1 rfl (V.as) ?_
                  refine WpA.oS 2 rfl (O.stA tb ⟨?_, ?_, ?_⟩)
                  exact holdT
                  exact holdT
                  refine WpA.ou ?_
                  apply Out.seqN
                  apply Wp.ret
                  refine Out.f2 rfl ResIs.t (ResIs.ca tb) ⟨?_, rfl⟩
                  exact rfl
              | false =>
                have hA2 : ¬ faults n ≤ c := fun h => hA ⟨rfl, h⟩
                by_cases hc0 : 0 < c
                · clear hC
                  apply Wp.seq
                  apply Wp.region
                  refine WpL.v (V.cmp) ?_
                  apply WpL.nil
                  apply Out.seqN
                  apply Wp.seq
                  refine Wp.c (fun hbC0 => ?_) (fun hbC0 => ?_)
                  (try simp only [decide_eq_true_eq, decide_eq_false_iff_not, Bool.not_eq_true', Bool.not_eq_false', Bool.not_eq_true, Bool.not_eq_false, not_true_eq_false, not_false_eq_true, reduceCtorEq] at hbC0)
                  (exfalso; omega)
                  (try simp only [decide_eq_true_eq, decide_eq_false_iff_not, Bool.not_eq_true', Bool.not_eq_false', Bool.not_eq_true, Bool.not_eq_false, not_true_eq_false, not_false_eq_true, reduceCtorEq] at hbC0)
                  apply Wp.exit
                  apply Out.seqE
                  apply Out.seqE
                  apply Out.blockE
                  apply Out.seqN
                  apply Wp.seq
                  apply Wp.seq
                  apply Wp.region
                  refine WpL.v (V.mv) ?_
                  refine WpL.v (V.not) ?_
                  refine WpL.v (V.mv) ?_
                  refine WpL.v (V.mv) ?_
                  refine WpL.v (V.cmp) ?_
                  refine WpL.v (V.pT) ?_
                  refine WpL.v (V.mv) ?_
                  refine WpL.pt (fun hbC1 => ?_) (fun hbC1 => ?_)
                  (try simp only [decide_eq_true_eq, decide_eq_false_iff_not, Bool.not_eq_true', Bool.not_eq_false', Bool.not_eq_true, Bool.not_eq_false, not_true_eq_false, not_false_eq_true, reduceCtorEq] at hbC1)
                  refine WpL.v (V.mv) ?_
                  refine WpL.v (V.mv) ?_
                  refine WpL.v (V.cmp) ?_
                  refine WpL.v (V.pT) ?_
                  apply WpL.nil
                  apply Out.seqN
                  refine Wp.c (fun hbC2 => ?_) (fun hbC2 => ?_)
                  (try simp only [decide_eq_true_eq, decide_eq_false_iff_not, Bool.not_eq_true', Bool.not_eq_false', Bool.not_eq_true, Bool.not_eq_false, not_true_eq_false, not_false_eq_true, reduceCtorEq] at hbC2)
                  (exfalso; omega)
                  (try simp only [decide_eq_true_eq, decide_eq_false_iff_not, Bool.not_eq_true', Bool.not_eq_false', Bool.not_eq_true, Bool.not_eq_false, not_true_eq_false, not_false_eq_true, reduceCtorEq] at hbC2)
                  apply Wp.skip
                  apply Out.seqN
                  apply Wp.seq
                  apply Wp.region
                  refine WpL.v (V.mv) ?_
                  refine WpL.o (Op1.callT rfl (h1) (by (repeat (first | exact Sel.nil | exact Rem.here | apply Sel.cons | apply Rem.there))) ?_)
                  rintro v3 s4 ⟨rfl, rfl⟩
                  refine incat ?_
                  refine WpL.v (V.as) ?_
                  apply WpL.nil
                  apply Out.seqN
                  apply Wp.seq
                  apply Wp.seq
                  apply Wp.region
                  refine WpL.v (V.mv) ?_
                  refine WpL.v (V.cmp) ?_
                  apply WpL.nil
                  apply Out.seqN
                  refine Wp.c (fun hbC5 => ?_) (fun hbC5 => ?_)
                  (try simp only [decide_eq_true_eq, decide_eq_false_iff_not, Bool.not_eq_true', Bool.not_eq_false', Bool.not_eq_true, Bool.not_eq_false, not_true_eq_false, not_false_eq_true, reduceCtorEq] at hbC5)
                  (exfalso; omega)
                  (try simp only [decide_eq_true_eq, decide_eq_false_iff_not, Bool.not_eq_true', Bool.not_eq_false', Bool.not_eq_true, Bool.not_eq_false, not_true_eq_false, not_false_eq_true, reduceCtorEq] at hbC5)
                  apply Wp.skip
                  apply Out.seqN
                  apply Wp.seq
                  apply Wp.region
                  refine WpL.v (V.mv) ?_
                  refine WpL.v (V.mv) ?_
                  refine WpL.v (V.ixR tb rfl rfl (by assumption)) ?_
                  refine WpL.v (V.fa tb) ?_
                  refine WpL.v (V.rdFA tb (o := 11) rfl hR (getMapS hk1)) ?_
                  refine WpL.o (O.al tb (fun p18 => ?_))
                  refine WpL.o (O.stA tb ?_)
                  apply WpL.nil
                  apply Out.seqN
                  apply Wp.seq
                  apply Wp.seq
                  apply Wp.region
                  refine WpL.v (V.mv) ?_
                  refine WpL.v (V.lenL tb) ?_
                  refine WpL.v (V.mv) ?_
                  apply WpL.nil
                  apply Out.seqN
                  apply Wp.block
                  rotate_left
                  (try simp only [decide_eq_true_eq, decide_eq_false_iff_not, Bool.not_eq_true', Bool.not_eq_false', Bool.not_eq_true, Bool.not_eq_false, not_true_eq_false, not_false_eq_true, reduceCtorEq] at hbC1)
                  (exfalso; omega)
                  refine Wp.lp [135, 134, 18, 7] (fun i : Nat => i ≤ xs.length) (fun i => [(136, I (i : Int))]) (fun i => [cells p18 33 (asks a.Call (xs.take i)).c]) (fun i => xs.length - i) 0 (Nat.zero_le _) ?_
                  rintro i hi0 K hK
                  dsimp only [List.cons_append, List.nil_append]
                  by_cases hlt : i < xs.length
                  · obtain ⟨p, hp⟩ := getS hlt
                    have q1 := take_snocS hp
                    have q2 : asks a.Call (xs.take (i + 1)) = (if p.Status = 1 then mrg (asks a.Call (xs.take i)) p.Call else asks a.Call (xs.take i)) := by rw [q1, asks_snoc]
                    generalize asks a.Call (xs.take i) = d at *
                    rw [mrg_eq] at q2
                    have hJ := ref_join d.Deps p.Call.Deps
                    by_cases hs : p.Status = 1
                    · rw [if_pos hs] at q2
                      apply Wp.seq
                      apply Wp.region
                      refine WpL.v (V.cmp) ?_
                      apply WpL.nil
                      apply Out.seqN
                      apply Wp.seq
                      refine Wp.c (fun hbE0 => ?_) (fun hbE0 => ?_)
                      (try simp only [decide_eq_true_eq, decide_eq_false_iff_not, Bool.not_eq_true', Bool.not_eq_false', Bool.not_eq_true, Bool.not_eq_false, not_true_eq_false, not_false_eq_true, reduceCtorEq] at hbE0)
                      apply Wp.skip
                      apply Out.seqN
                      apply Wp.seq
                      apply Wp.block
                      apply Wp.seq
                      apply Wp.region
                      refine WpL.v (V.ixR tb rfl rfl (by assumption)) ?_
                      refine WpL.v (V.ldRA tb rfl (by assumption) (getMapS (by assumption))) ?_
                      refine WpL.o (O.al tb (fun p20 => ?_))
                      refine WpL.o (O.stA tb ?_)
                      apply WpL.nil
                      apply Out.seqN
                      apply Wp.seq
                      apply Wp.region
                      refine WpL.v (V.fa tb) ?_
                      refine WpL.v (V.ld1 tb) ?_
                      refine WpL.v (V.cmp) ?_
                      apply WpL.nil
                      apply Out.seqN
                      refine Wp.c (fun hbE1 => ?_) (fun hbE1 => ?_)
                      (try simp only [decide_eq_true_eq, decide_eq_false_iff_not, Bool.not_eq_true', Bool.not_eq_false', Bool.not_eq_true, Bool.not_eq_false, not_true_eq_false, not_false_eq_true, reduceCtorEq] at hbE1)
                      apply Wp.seq
                      apply Wp.region
                      refine WpL.v (V.fa tb) ?_
                      refine WpL.v (V.ldA tb) ?_
                      refine WpL.v (V.fa tb) ?_
                      refine WpL.v (V.fa tb) ?_
                      refine WpL.v (V.ldA tb) ?_
                      refine WpL.o (Op1.fn rfl (hJ) ?_)
                      refine WpL.v (V.fa tb) ?_
                      refine WpL.o (O.stA tb ?_)
                      apply WpL.nil
                      apply Out.seqN
                      apply Wp.region
                      refine WpL.v (V.fa tb) ?_
                      refine WpL.v (V.ld1 tb) ?_
                      refine WpL.v (V.fa tb) ?_
                      refine WpL.v (V.fa tb) ?_
                      refine WpL.v (V.ld1 tb) ?_
                      refine WpL.v (V.max) ?_
                      refine WpL.v (V.fa tb) ?_
                      refine WpL.o (O.st1 tb ?_)
                      apply WpL.nil
                      apply Out.blockN
                      apply Out.seqN
                      apply Wp.region
                      refine WpL.v (V.add) ?_
                      refine WpL.v (V.mv) ?_
                      apply WpL.nil
                      rotate_left
                      (try simp only [decide_eq_true_eq, decide_eq_false_iff_not, Bool.not_eq_true', Bool.not_eq_false', Bool.not_eq_true, Bool.not_eq_false, not_true_eq_false, not_false_eq_true, reduceCtorEq] at hbE1)
                      (exfalso; omega)
                      (try simp only [decide_eq_true_eq, decide_eq_false_iff_not, Bool.not_eq_true', Bool.not_eq_false', Bool.not_eq_true, Bool.not_eq_false, not_true_eq_false, not_false_eq_true, reduceCtorEq] at hbE0)
                      (exfalso; omega)
                      all_goals exact Out.ag hK (i + 1) (by show i + 1 ≤ _; omega) (by show xs.length - (i + 1) < xs.length - i; omega) (hs := by rw [q2]; (repeat (first | exact Sel.nil | exact Rem.here | apply Sel.cons | apply Rem.there)))
                    · rw [if_neg hs] at q2
                      apply Wp.seq
                      apply Wp.region
                      refine WpL.v (V.cmp) ?_
                      apply WpL.nil
                      apply Out.seqN
                      apply Wp.seq
                      refine Wp.c (fun hbG0 => ?_) (fun hbG0 => ?_)
                      (try simp only [decide_eq_true_eq, decide_eq_false_iff_not, Bool.not_eq_true', Bool.not_eq_false', Bool.not_eq_true, Bool.not_eq_false, not_true_eq_false, not_false_eq_true, reduceCtorEq] at hbG0)
                      apply Wp.skip
                      apply Out.seqN
                      apply Wp.seq
                      apply Wp.block
                      apply Wp.seq
                      apply Wp.region
                      refine WpL.v (V.ixR tb rfl rfl (by assumption)) ?_
                      refine WpL.v (V.ldRA tb rfl (by assumption) (getMapS (by assumption))) ?_
                      refine WpL.o (O.al tb (fun p20 => ?_))
                      refine WpL.o (O.stA tb ?_)
                      apply WpL.nil
                      apply Out.seqN
                      apply Wp.seq
                      apply Wp.region
                      refine WpL.v (V.fa tb) ?_
                      refine WpL.v (V.ld1 tb) ?_
                      refine WpL.v (V.cmp) ?_
                      apply WpL.nil
                      apply Out.seqN
                      refine Wp.c (fun hbG1 => ?_) (fun hbG1 => ?_)
                      (try simp only [decide_eq_true_eq, decide_eq_false_iff_not, Bool.not_eq_true', Bool.not_eq_false', Bool.not_eq_true, Bool.not_eq_false, not_true_eq_false, not_false_eq_true, reduceCtorEq] at hbG1)
                      (exfalso; omega)
                      (try simp only [decide_eq_true_eq, decide_eq_false_iff_not, Bool.not_eq_true', Bool.not_eq_false', Bool.not_eq_true, Bool.not_eq_false, not_true_eq_false, not_false_eq_true, reduceCtorEq] at hbG1)
                      apply Wp.skip
                      apply Out.blockN
                      apply Out.seqN
                      apply Wp.region
                      refine WpL.v (V.add) ?_
                      refine WpL.v (V.mv) ?_
                      apply WpL.nil
                      rotate_left
                      (try simp only [decide_eq_true_eq, decide_eq_false_iff_not, Bool.not_eq_true', Bool.not_eq_false', Bool.not_eq_true, Bool.not_eq_false, not_true_eq_false, not_false_eq_true, reduceCtorEq] at hbG0)
                      (exfalso; omega)
                      all_goals exact Out.ag hK (i + 1) (by show i + 1 ≤ _; omega) (by show xs.length - (i + 1) < xs.length - i; omega) (hs := by rw [q2]; (repeat (first | exact Sel.nil | exact Rem.here | apply Sel.cons | apply Rem.there)))
                  · obtain rfl : i = xs.length := by omega
                    rw [List.take_length]
                    clear hK
                    apply Wp.seq
                    apply Wp.region
                    refine WpL.v (V.cmp) ?_
                    apply WpL.nil
                    apply Out.seqN
                    apply Wp.seq
                    refine Wp.c (fun hbI0 => ?_) (fun hbI0 => ?_)
                    (try simp only [decide_eq_true_eq, decide_eq_false_iff_not, Bool.not_eq_true', Bool.not_eq_false', Bool.not_eq_true, Bool.not_eq_false, not_true_eq_false, not_false_eq_true, reduceCtorEq] at hbI0)
                    (exfalso; omega)
                    (try simp only [decide_eq_true_eq, decide_eq_false_iff_not, Bool.not_eq_true', Bool.not_eq_false', Bool.not_eq_true, Bool.not_eq_false, not_true_eq_false, not_false_eq_true, reduceCtorEq] at hbI0)
                    apply Wp.exit
                    apply Out.seqE
                    apply Out.seqE
                    apply Out.blockE
                    apply Out.seqN
                    apply Wp.seq
                    refine Wp.dG [] ?_ (List.Sublist.cons_cons _ (List.Sublist.cons _ (List.Sublist.cons _ (List.Sublist.cons _ List.Sublist.slnil)))) (List.Sublist.cons_cons _ (List.Sublist.cons _ (List.Sublist.cons _ (List.Sublist.cons _ List.Sublist.slnil))))
                    refine WpA.tF 0 rfl (V.ldA tb) ?_
                    refine WpA.tF 1 rfl (V.as) ?_
                    refine WpA.oS 2 rfl (O.stA tb ⟨?_, ?_, ?_⟩)
                    exact holdT
                    exact holdT
                    refine WpA.ou ?_
                    apply Out.seqN
                    apply Wp.ret
                    refine Out.f2 rfl ResIs.t (ResIs.ca tb) ⟨?_, rfl⟩
                    exact rfl
                · clear hC
                  apply Wp.seq
                  apply Wp.region
                  refine WpL.v (V.cmp) ?_
                  apply WpL.nil
                  apply Out.seqN
                  apply Wp.seq
                  refine Wp.c (fun hbJ0 => ?_) (fun hbJ0 => ?_)
                  (try simp only [decide_eq_true_eq, decide_eq_false_iff_not, Bool.not_eq_true', Bool.not_eq_false', Bool.not_eq_true, Bool.not_eq_false, not_true_eq_false, not_false_eq_true, reduceCtorEq] at hbJ0)
                  (exfalso; omega)
                  (try simp only [decide_eq_true_eq, decide_eq_false_iff_not, Bool.not_eq_true', Bool.not_eq_false', Bool.not_eq_true, Bool.not_eq_false, not_true_eq_false, not_false_eq_true, reduceCtorEq] at hbJ0)
                  apply Wp.exit
                  apply Out.seqE
                  apply Out.seqE
                  apply Out.blockE
                  apply Out.seqN
                  apply Wp.seq
                  apply Wp.seq
                  apply Wp.region
                  refine WpL.v (V.mv) ?_
                  refine WpL.v (V.not) ?_
                  refine WpL.v (V.mv) ?_
                  refine WpL.v (V.mv) ?_
                  refine WpL.v (V.cmp) ?_
                  refine WpL.v (V.pT) ?_
                  refine WpL.v (V.mv) ?_
                  refine WpL.pt (fun hbJ1 => ?_) (fun hbJ1 => ?_)
                  (try simp only [decide_eq_true_eq, decide_eq_false_iff_not, Bool.not_eq_true', Bool.not_eq_false', Bool.not_eq_true, Bool.not_eq_false, not_true_eq_false, not_false_eq_true, reduceCtorEq] at hbJ1)
                  (exfalso; omega)
                  (try simp only [decide_eq_true_eq, decide_eq_false_iff_not, Bool.not_eq_true', Bool.not_eq_false', Bool.not_eq_true, Bool.not_eq_false, not_true_eq_false, not_false_eq_true, reduceCtorEq] at hbJ1)
                  refine WpL.sk ?_
                  refine WpL.sk ?_
                  refine WpL.sk ?_
                  refine WpL.v (V.pF) ?_
                  apply WpL.nil
                  apply Out.seqN
                  refine Wp.cF ?_
                  apply Wp.skip
                  apply Out.seqN
                  apply Wp.seq
                  apply Wp.region
                  refine WpL.v (V.mv) ?_
                  refine WpL.o (Op1.callT rfl (h1) (by (repeat (first | exact Sel.nil | exact Rem.here | apply Sel.cons | apply Rem.there))) ?_)
                  rintro v2 s3 ⟨rfl, rfl⟩
                  refine incat ?_
                  refine WpL.v (V.as) ?_
                  apply WpL.nil
                  apply Out.seqN
                  apply Wp.seq
                  apply Wp.seq
                  apply Wp.region
                  refine WpL.v (V.mv) ?_
                  refine WpL.v (V.cmp) ?_
                  apply WpL.nil
                  apply Out.seqN
                  refine Wp.c (fun hbJ4 => ?_) (fun hbJ4 => ?_)
                  (try simp only [decide_eq_true_eq, decide_eq_false_iff_not, Bool.not_eq_true', Bool.not_eq_false', Bool.not_eq_true, Bool.not_eq_false, not_true_eq_false, not_false_eq_true, reduceCtorEq] at hbJ4)
                  (exfalso; omega)
                  (try simp only [decide_eq_true_eq, decide_eq_false_iff_not, Bool.not_eq_true', Bool.not_eq_false', Bool.not_eq_true, Bool.not_eq_false, not_true_eq_false, not_false_eq_true, reduceCtorEq] at hbJ4)
                  apply Wp.skip
                  apply Out.seqN
                  apply Wp.seq
                  apply Wp.region
                  refine WpL.v (V.mv) ?_
                  refine WpL.v (V.mv) ?_
                  refine WpL.v (V.ixR tb rfl rfl (by assumption)) ?_
                  refine WpL.v (V.fa tb) ?_
                  refine WpL.v (V.rdFA tb (o := 11) rfl hR (getMapS hk1)) ?_
                  refine WpL.o (O.al tb (fun p18 => ?_))
                  refine WpL.o (O.stA tb ?_)
                  apply WpL.nil
                  apply Out.seqN
                  apply Wp.seq
                  apply Wp.seq
                  apply Wp.region
                  refine WpL.v (V.mv) ?_
                  refine WpL.v (V.lenL tb) ?_
                  refine WpL.v (V.mv) ?_
                  apply WpL.nil
                  apply Out.seqN
                  apply Wp.block
                  refine Wp.lp [135, 134, 18, 7] (fun i : Nat => i ≤ xs.length) (fun i => [(136, I (i : Int))]) (fun i => [cells p18 33 (asks a.Call (xs.take i)).c]) (fun i => xs.length - i) 0 (Nat.zero_le _) ?_
                  rintro i hi0 K hK
                  dsimp only [List.cons_append, List.nil_append]
                  by_cases hlt : i < xs.length
                  · obtain ⟨p, hp⟩ := getS hlt
                    have q1 := take_snocS hp
                    have q2 : asks a.Call (xs.take (i + 1)) = (if p.Status = 1 then mrg (asks a.Call (xs.take i)) p.Call else asks a.Call (xs.take i)) := by rw [q1, asks_snoc]
                    generalize asks a.Call (xs.take i) = d at *
                    rw [mrg_eq] at q2
                    have hJ := ref_join d.Deps p.Call.Deps
                    by_cases hs : p.Status = 1
                    · rw [if_pos hs] at q2
                      apply Wp.seq
                      apply Wp.region
                      refine WpL.v (V.cmp) ?_
                      apply WpL.nil
                      apply Out.seqN
                      apply Wp.seq
                      refine Wp.c (fun hbK0 => ?_) (fun hbK0 => ?_)
                      (try simp only [decide_eq_true_eq, decide_eq_false_iff_not, Bool.not_eq_true', Bool.not_eq_false', Bool.not_eq_true, Bool.not_eq_false, not_true_eq_false, not_false_eq_true, reduceCtorEq] at hbK0)
                      apply Wp.skip
                      apply Out.seqN
                      apply Wp.seq
                      apply Wp.block
                      apply Wp.seq
                      apply Wp.region
                      refine WpL.v (V.ixR tb rfl rfl (by assumption)) ?_
                      refine WpL.v (V.ldRA tb rfl (by assumption) (getMapS (by assumption))) ?_
                      refine WpL.o (O.al tb (fun p20 => ?_))
                      refine WpL.o (O.stA tb ?_)
                      apply WpL.nil
                      apply Out.seqN
                      apply Wp.seq
                      apply Wp.region
                      refine WpL.v (V.fa tb) ?_
                      refine WpL.v (V.ld1 tb) ?_
                      refine WpL.v (V.cmp) ?_
                      apply WpL.nil
                      apply Out.seqN
                      refine Wp.c (fun hbK1 => ?_) (fun hbK1 => ?_)
                      (try simp only [decide_eq_true_eq, decide_eq_false_iff_not, Bool.not_eq_true', Bool.not_eq_false', Bool.not_eq_true, Bool.not_eq_false, not_true_eq_false, not_false_eq_true, reduceCtorEq] at hbK1)
                      apply Wp.seq
                      apply Wp.region
                      refine WpL.v (V.fa tb) ?_
                      refine WpL.v (V.ldA tb) ?_
                      refine WpL.v (V.fa tb) ?_
                      refine WpL.v (V.fa tb) ?_
                      refine WpL.v (V.ldA tb) ?_
                      refine WpL.o (Op1.fn rfl (hJ) ?_)
                      refine WpL.v (V.fa tb) ?_
                      refine WpL.o (O.stA tb ?_)
                      apply WpL.nil
                      apply Out.seqN
                      apply Wp.region
                      refine WpL.v (V.fa tb) ?_
                      refine WpL.v (V.ld1 tb) ?_
                      refine WpL.v (V.fa tb) ?_
                      refine WpL.v (V.fa tb) ?_
                      refine WpL.v (V.ld1 tb) ?_
                      refine WpL.v (V.max) ?_
                      refine WpL.v (V.fa tb) ?_
                      refine WpL.o (O.st1 tb ?_)
                      apply WpL.nil
                      apply Out.blockN
                      apply Out.seqN
                      apply Wp.region
                      refine WpL.v (V.add) ?_
                      refine WpL.v (V.mv) ?_
                      apply WpL.nil
                      rotate_left
                      (try simp only [decide_eq_true_eq, decide_eq_false_iff_not, Bool.not_eq_true', Bool.not_eq_false', Bool.not_eq_true, Bool.not_eq_false, not_true_eq_false, not_false_eq_true, reduceCtorEq] at hbK1)
                      (exfalso; omega)
                      (try simp only [decide_eq_true_eq, decide_eq_false_iff_not, Bool.not_eq_true', Bool.not_eq_false', Bool.not_eq_true, Bool.not_eq_false, not_true_eq_false, not_false_eq_true, reduceCtorEq] at hbK0)
                      (exfalso; omega)
                      all_goals exact Out.ag hK (i + 1) (by show i + 1 ≤ _; omega) (by show xs.length - (i + 1) < xs.length - i; omega) (hs := by rw [q2]; (repeat (first | exact Sel.nil | exact Rem.here | apply Sel.cons | apply Rem.there)))
                    · rw [if_neg hs] at q2
                      apply Wp.seq
                      apply Wp.region
                      refine WpL.v (V.cmp) ?_
                      apply WpL.nil
                      apply Out.seqN
                      apply Wp.seq
                      refine Wp.c (fun hbL0 => ?_) (fun hbL0 => ?_)
                      (try simp only [decide_eq_true_eq, decide_eq_false_iff_not, Bool.not_eq_true', Bool.not_eq_false', Bool.not_eq_true, Bool.not_eq_false, not_true_eq_false, not_false_eq_true, reduceCtorEq] at hbL0)
                      apply Wp.skip
                      apply Out.seqN
                      apply Wp.seq
                      apply Wp.block
                      apply Wp.seq
                      apply Wp.region
                      refine WpL.v (V.ixR tb rfl rfl (by assumption)) ?_
                      refine WpL.v (V.ldRA tb rfl (by assumption) (getMapS (by assumption))) ?_
                      refine WpL.o (O.al tb (fun p20 => ?_))
                      refine WpL.o (O.stA tb ?_)
                      apply WpL.nil
                      apply Out.seqN
                      apply Wp.seq
                      apply Wp.region
                      refine WpL.v (V.fa tb) ?_
                      refine WpL.v (V.ld1 tb) ?_
                      refine WpL.v (V.cmp) ?_
                      apply WpL.nil
                      apply Out.seqN
                      refine Wp.c (fun hbL1 => ?_) (fun hbL1 => ?_)
                      (try simp only [decide_eq_true_eq, decide_eq_false_iff_not, Bool.not_eq_true', Bool.not_eq_false', Bool.not_eq_true, Bool.not_eq_false, not_true_eq_false, not_false_eq_true, reduceCtorEq] at hbL1)
                      (exfalso; omega)
                      (try simp only [decide_eq_true_eq, decide_eq_false_iff_not, Bool.not_eq_true', Bool.not_eq_false', Bool.not_eq_true, Bool.not_eq_false, not_true_eq_false, not_false_eq_true, reduceCtorEq] at hbL1)
                      apply Wp.skip
                      apply Out.blockN
                      apply Out.seqN
                      apply Wp.region
                      refine WpL.v (V.add) ?_
                      refine WpL.v (V.mv) ?_
                      apply WpL.nil
                      rotate_left
                      (try simp only [decide_eq_true_eq, decide_eq_false_iff_not, Bool.not_eq_true', Bool.not_eq_false', Bool.not_eq_true, Bool.not_eq_false, not_true_eq_false, not_false_eq_true, reduceCtorEq] at hbL0)
                      (exfalso; omega)
                      all_goals exact Out.ag hK (i + 1) (by show i + 1 ≤ _; omega) (by show xs.length - (i + 1) < xs.length - i; omega) (hs := by rw [q2]; (repeat (first | exact Sel.nil | exact Rem.here | apply Sel.cons | apply Rem.there)))
                  · obtain rfl : i = xs.length := by omega
                    rw [List.take_length]
                    clear hK
                    apply Wp.seq
                    apply Wp.region
                    refine WpL.v (V.cmp) ?_
                    apply WpL.nil
                    apply Out.seqN
                    apply Wp.seq
                    refine Wp.c (fun hbM0 => ?_) (fun hbM0 => ?_)
                    (try simp only [decide_eq_true_eq, decide_eq_false_iff_not, Bool.not_eq_true', Bool.not_eq_false', Bool.not_eq_true, Bool.not_eq_false, not_true_eq_false, not_false_eq_true, reduceCtorEq] at hbM0)
                    (exfalso; omega)
                    (try simp only [decide_eq_true_eq, decide_eq_false_iff_not, Bool.not_eq_true', Bool.not_eq_false', Bool.not_eq_true, Bool.not_eq_false, not_true_eq_false, not_false_eq_true, reduceCtorEq] at hbM0)
                    apply Wp.exit
                    apply Out.seqE
                    apply Out.seqE
                    apply Out.blockE
                    apply Out.seqN
                    apply Wp.seq
                    refine Wp.dG [] ?_ (List.Sublist.cons_cons _ (List.Sublist.cons _ (List.Sublist.cons _ (List.Sublist.cons _ List.Sublist.slnil)))) (List.Sublist.cons_cons _ (List.Sublist.cons _ (List.Sublist.cons _ (List.Sublist.cons _ List.Sublist.slnil))))
                    refine WpA.tF 0 rfl (V.ldA tb) ?_
                    refine WpA.tF 1 rfl (V.as) ?_
                    refine WpA.oS 2 rfl (O.stA tb ⟨?_, ?_, ?_⟩)
                    exact holdT
                    exact holdT
                    refine WpA.ou ?_
                    apply Out.seqN
                    apply Wp.ret
                    refine Out.f2 rfl ResIs.t (ResIs.ca tb) ⟨?_, rfl⟩
                    exact rfl
        | some m =>
          obtain ⟨i2, hB2, hk2, hl2⟩ := best_some hc2
          have h2 := ref_best e ao cap b off xs 2 _ hB2 hR
          have hL := ref_less m.Vote a.Vote
          cases hb : bLt m.Vote a.Vote with
          | false =>
            rw [hb] at hL
            have hac : accd xs = some m := by simp [accd, hc2, hc1, hb]
            rw [show choose n x xs = (2, m.Call) by unfold choose; rw [if_neg hlen, hc3]; simp only [hac]]
            refine Ct.enter Try.func26 rfl rfl fun W => ?_
            apply Wp.seq
            apply Wp.region
            refine WpL.o (O.bxA (fun p4 => ?_))
            refine WpL.v (V.as) ?_
            refine WpL.o (O.al tb (fun p7 => ?_))
            apply WpL.nil
            apply Out.seqN
            apply Wp.seq
            apply Wp.region
            refine WpL.v (V.mv) ?_
            refine WpL.o (Op1.fn rfl (hF) ?_)
            refine WpL.v (V.as) ?_
            apply WpL.nil
            apply Out.seqN
            apply Wp.seq
            apply Wp.seq
            apply Wp.region
            refine WpL.v (V.mv) ?_
            refine WpL.v (V.lenL tb) ?_
            refine WpL.v (V.mv) ?_
            refine WpL.v (V.cmp) ?_
            apply WpL.nil
            apply Out.seqN
            refine Wp.c (fun hyb0 => ?_) (fun hyb0 => ?_)
            (try simp only [decide_eq_true_eq, decide_eq_false_iff_not, Bool.not_eq_true', Bool.not_eq_false', Bool.not_eq_true, Bool.not_eq_false, not_true_eq_false, not_false_eq_true, reduceCtorEq] at hyb0)
            (exfalso; omega)
            (try simp only [decide_eq_true_eq, decide_eq_false_iff_not, Bool.not_eq_true', Bool.not_eq_false', Bool.not_eq_true, Bool.not_eq_false, not_true_eq_false, not_false_eq_true, reduceCtorEq] at hyb0)
            apply Wp.skip
            apply Out.seqN
            apply Wp.seq
            apply Wp.seq
            apply Wp.region
            refine WpL.v (V.mv) ?_
            refine WpL.o (Op1.callT rfl (h3) (by (repeat (first | exact Sel.nil | exact Rem.here | apply Sel.cons | apply Rem.there))) ?_)
            rintro v1 s2 ⟨rfl, rfl⟩
            refine incat ?_
            refine WpL.v (V.as) ?_
            apply WpL.nil
            apply Out.seqN
            apply Wp.seq
            apply Wp.region
            refine WpL.v (V.mv) ?_
            refine WpL.v (V.cmp) ?_
            apply WpL.nil
            apply Out.seqN
            refine Wp.cF ?_
            apply Wp.skip
            apply Out.seqN
            apply Wp.seq
            apply Wp.seq
            apply Wp.region
            refine WpL.v (V.mv) ?_
            refine WpL.o (Op1.callT rfl (h2) (by (repeat (first | exact Sel.nil | exact Rem.here | apply Sel.cons | apply Rem.there))) ?_)
            rintro v3 s4 ⟨rfl, rfl⟩
            refine incat ?_
            refine WpL.v (V.mv) ?_
            refine WpL.o (Op1.callT rfl (h1) (by (repeat (first | exact Sel.nil | exact Rem.here | apply Sel.cons | apply Rem.there))) ?_)
            rintro v5 s6 ⟨rfl, rfl⟩
            refine incat ?_
            refine WpL.v (V.as) ?_
            refine WpL.v (V.as) ?_
            apply WpL.nil
            apply Out.seqN
            apply Wp.seq
            refine Wp.dG [] ?_ (List.Sublist.cons_cons _ (List.Sublist.cons _ (List.Sublist.cons _ List.Sublist.slnil))) (List.Sublist.cons_cons _ (List.Sublist.cons _ (List.Sublist.cons _ List.Sublist.slnil)))
            refine WpA.tF 0 rfl (V.mv) ?_
            refine WpA.tF 1 rfl (V.cmp) ?_
            refine WpA.tF 2 rfl (V.mv) ?_
            refine WpA.pt 43 (fun hyb7 => ?_) (fun hyb7 => ?_)
            (try simp only [decide_eq_true_eq, decide_eq_false_iff_not, Bool.not_eq_true', Bool.not_eq_false', Bool.not_eq_true, Bool.not_eq_false, not_true_eq_false, not_false_eq_true, reduceCtorEq] at hyb7)
            refine WpA.tF 3 rfl (V.mv) ?_
            refine WpA.tF 4 rfl (V.cmp) ?_
            refine WpA.tF 5 rfl (V.mv) ?_
            refine WpA.pt 46 (fun hyb8 => ?_) (fun hyb8 => ?_)
            (try simp only [decide_eq_true_eq, decide_eq_false_iff_not, Bool.not_eq_true', Bool.not_eq_false', Bool.not_eq_true, Bool.not_eq_false, not_true_eq_false, not_false_eq_true, reduceCtorEq] at hyb8)
            (exfalso; omega)
            (try simp only [decide_eq_true_eq, decide_eq_false_iff_not, Bool.not_eq_true', Bool.not_eq_false', Bool.not_eq_true, Bool.not_eq_false, not_true_eq_false, not_false_eq_true, reduceCtorEq] at hyb8)
            refine WpA.tF 6 rfl (V.mv) ?_
            refine WpA.tF 7 rfl (V.mv) ?_
            refine WpA.tF 8 rfl (V.ixR tb rfl rfl (by assumption)) ?_
            refine WpA.tF 9 rfl (V.fa tb) ?_
            refine WpA.tF 10 rfl (V.rdFA tb (o := 7) rfl hR (getMapS hk2)) ?_
            refine WpA.tF 11 rfl (V.mv) ?_
            refine WpA.tF 12 rfl (V.mv) ?_
            refine WpA.tF 13 rfl (V.ixR tb rfl rfl (by assumption)) ?_
            refine WpA.tF 14 rfl (V.fa tb) ?_
            refine WpA.tF 15 rfl (V.rdFA tb (o := 7) rfl hR (getMapS hk1)) ?_
            refine WpA.oS 16 rfl (Op1.fn rfl (hL) ⟨?_, ?_, ?_⟩)
            exact holdT
            exact holdT
            refine WpA.tF 17 rfl (V.not) ?_
            refine WpA.tF 18 rfl (V.pF) ?_
            refine WpA.tF 19 rfl (V.pT) ?_
            refine WpA.ou ?_
            apply Out.seqN
            refine Wp.cT ?_
            apply Wp.seq
            refine Wp.dG [] ?_ (List.Sublist.cons_cons _ (List.Sublist.cons _ (List.Sublist.cons _ List.Sublist.slnil))) (List.Sublist.cons_cons _ (List.Sublist.cons _ (List.Sublist.cons _ List.Sublist.slnil)))
            refine WpA.tF 0 rfl (V.mv) ?_
            refine WpA.tF 1 rfl (V.mv) ?_
            refine WpA.tF 2 rfl (V.ixR tb rfl rfl (by assumption)) ?_
            refine WpA.tF 3 rfl (V.fa tb) ?_
            refine WpA.tF 4 rfl (V.rdFA tb (o := 11) rfl hR (getMapS hk2)) ?_
            refine WpA.tF 5 rfl (V.as) ?_
            refine WpA.oS 6 rfl (O.stA tb ⟨?_, ?_, ?_⟩)
            exact holdT
            exact holdT
            refine WpA.ou ?_
            apply Out.seqN
            apply Wp.ret
            apply Out.seqR
            refine Out.f2 rfl ResIs.t (ResIs.ca tb) ⟨?_, rfl⟩
            exact rfl
            (try simp only [decide_eq_true_eq, decide_eq_false_iff_not, Bool.not_eq_true', Bool.not_eq_false', Bool.not_eq_true, Bool.not_eq_false, not_true_eq_false, not_false_eq_true, reduceCtorEq] at hyb7)
            (exfalso; omega)
          | true =>
            rw [hb] at hL
            have hac : accd xs = none := by simp [accd, hc2, hc1, hb]
            refine Ct.enter Try.func26 rfl rfl fun W => ?_
            apply Wp.seq
            apply Wp.region
            refine WpL.o (O.bxA (fun p4 => ?_))
            refine WpL.v (V.as) ?_
            refine WpL.o (O.al tb (fun p7 => ?_))
            apply WpL.nil
            apply Out.seqN
            apply Wp.seq
            apply Wp.region
            refine WpL.v (V.mv) ?_
            refine WpL.o (Op1.fn rfl (hF) ?_)
            refine WpL.v (V.as) ?_
            apply WpL.nil
            apply Out.seqN
            apply Wp.seq
            apply Wp.seq
            apply Wp.region
            refine WpL.v (V.mv) ?_
            refine WpL.v (V.lenL tb) ?_
            refine WpL.v (V.mv) ?_
            refine WpL.v (V.cmp) ?_
            apply WpL.nil
            apply Out.seqN
            refine Wp.c (fun hc00 => ?_) (fun hc00 => ?_)
            (try simp only [decide_eq_true_eq, decide_eq_false_iff_not, Bool.not_eq_true', Bool.not_eq_false', Bool.not_eq_true, Bool.not_eq_false, not_true_eq_false, not_false_eq_true, reduceCtorEq] at hc00)
            (exfalso; omega)
            (try simp only [decide_eq_true_eq, decide_eq_false_iff_not, Bool.not_eq_true', Bool.not_eq_false', Bool.not_eq_true, Bool.not_eq_false, not_true_eq_false, not_false_eq_true, reduceCtorEq] at hc00)
            apply Wp.skip
            apply Out.seqN
            apply Wp.seq
            apply Wp.seq
            apply Wp.region
            refine WpL.v (V.mv) ?_
            refine WpL.o (Op1.callT rfl (h3) (by (repeat (first | exact Sel.nil | exact Rem.here | apply Sel.cons | apply Rem.there))) ?_)
            rintro v1 s2 ⟨rfl, rfl⟩
            refine incat ?_
            refine WpL.v (V.as) ?_
            apply WpL.nil
            apply Out.seqN
            apply Wp.seq
            apply Wp.region
            refine WpL.v (V.mv) ?_
            refine WpL.v (V.cmp) ?_
            apply WpL.nil
            apply Out.seqN
            refine Wp.cF ?_
            apply Wp.skip
            apply Out.seqN
            apply Wp.seq
            apply Wp.seq
            apply Wp.region
            refine WpL.v (V.mv) ?_
            refine WpL.o (Op1.callT rfl (h2) (by (repeat (first | exact Sel.nil | exact Rem.here | apply Sel.cons | apply Rem.there))) ?_)
            rintro v3 s4 ⟨rfl, rfl⟩
            refine incat ?_
            refine WpL.v (V.mv) ?_
            refine WpL.o (Op1.callT rfl (h1) (by (repeat (first | exact Sel.nil | exact Rem.here | apply Sel.cons | apply Rem.there))) ?_)
            rintro v5 s6 ⟨rfl, rfl⟩
            refine incat ?_
            refine WpL.v (V.as) ?_
            refine WpL.v (V.as) ?_
            apply WpL.nil
            apply Out.seqN
            apply Wp.seq
            refine Wp.dG [] ?_ (List.Sublist.cons_cons _ (List.Sublist.cons _ (List.Sublist.cons _ List.Sublist.slnil))) (List.Sublist.cons_cons _ (List.Sublist.cons _ (List.Sublist.cons _ List.Sublist.slnil)))
            refine WpA.tF 0 rfl (V.mv) ?_
            refine WpA.tF 1 rfl (V.cmp) ?_
            refine WpA.tF 2 rfl (V.mv) ?_
            refine WpA.pt 43 (fun hc07 => ?_) (fun hc07 => ?_)
            (try simp only [decide_eq_true_eq, decide_eq_false_iff_not, Bool.not_eq_true', Bool.not_eq_false', Bool.not_eq_true, Bool.not_eq_false, not_true_eq_false, not_false_eq_true, reduceCtorEq] at hc07)
            refine WpA.tF 3 rfl (V.mv) ?_
            refine WpA.tF 4 rfl (V.cmp) ?_
            refine WpA.tF 5 rfl (V.mv) ?_
            refine WpA.pt 46 (fun hc08 => ?_) (fun hc08 => ?_)
            (try simp only [decide_eq_true_eq, decide_eq_false_iff_not, Bool.not_eq_true', Bool.not_eq_false', Bool.not_eq_true, Bool.not_eq_false, not_true_eq_false, not_false_eq_true, reduceCtorEq] at hc08)
            (exfalso; omega)
            (try simp only [decide_eq_true_eq, decide_eq_false_iff_not, Bool.not_eq_true', Bool.not_eq_false', Bool.not_eq_true, Bool.not_eq_false, not_true_eq_false, not_false_eq_true, reduceCtorEq] at hc08)
            refine WpA.tF 6 rfl (V.mv) ?_
            refine WpA.tF 7 rfl (V.mv) ?_
            refine WpA.tF 8 rfl (V.ixR tb rfl rfl (by assumption)) ?_
            refine WpA.tF 9 rfl (V.fa tb) ?_
            refine WpA.tF 10 rfl (V.rdFA tb (o := 7) rfl hR (getMapS hk2)) ?_
            refine WpA.tF 11 rfl (V.mv) ?_
            refine WpA.tF 12 rfl (V.mv) ?_
            refine WpA.tF 13 rfl (V.ixR tb rfl rfl (by assumption)) ?_
            refine WpA.tF 14 rfl (V.fa tb) ?_
            refine WpA.tF 15 rfl (V.rdFA tb (o := 7) rfl hR (getMapS hk1)) ?_
            refine WpA.oS 16 rfl (Op1.fn rfl (hL) ⟨?_, ?_, ?_⟩)
            exact holdT
            exact holdT
            refine WpA.tF 17 rfl (V.not) ?_
            refine WpA.tF 18 rfl (V.pF) ?_
            refine WpA.tF 19 rfl (V.pT) ?_
            refine WpA.ou ?_
            apply Out.seqN
            refine Wp.cF ?_
            apply Wp.skip
            apply Out.seqN
            apply Wp.seq
            apply Wp.region
            refine WpL.v (V.as) ?_
            apply WpL.nil
            apply Out.seqN
            apply Wp.seq
            apply Wp.region
            refine WpL.v (V.as) ?_
            apply WpL.nil
            apply Out.seqN
            apply Wp.seq
            apply Wp.region
            refine WpL.v (V.as) ?_
            apply WpL.nil
            apply Out.seqN
            apply Wp.seq
            apply Wp.seq
            apply Wp.region
            refine WpL.v (V.mv) ?_
            refine WpL.v (V.lenL tb) ?_
            refine WpL.v (V.mv) ?_
            apply WpL.nil
            apply Out.seqN
            apply Wp.block
            rotate_left
            (try simp only [decide_eq_true_eq, decide_eq_false_iff_not, Bool.not_eq_true', Bool.not_eq_false', Bool.not_eq_true, Bool.not_eq_false, not_true_eq_false, not_false_eq_true, reduceCtorEq] at hc07)
            (exfalso; omega)
            refine Wp.lp [67, 66, 8, 7, 4, 2] (fun y : Nat × Bool × Int × Int => y.1 ≤ xs.length ∧ Cnt x (xs.take y.1) y.2.1 y.2.2.1 y.2.2.2) (fun y => [(68, I (y.1 : Int)), (14, I y.2.2.2), (13, I y.2.2.1), (12, B y.2.1)]) (fun y => []) (fun y => xs.length - y.1) (0, false, 0, -1) ⟨Nat.zero_le _, Cnt.nil x⟩ ?_
            rintro ⟨i, th, c, f⟩ ⟨hi0, hC⟩ K hK
            dsimp only at hi0 hC
            dsimp only [List.cons_append, List.nil_append]
            by_cases hlt : i < xs.length
            · obtain ⟨m, hm⟩ := getS hlt
              have q1 := take_snocS hm
              have hcb : 0 ≤ c ∧ c ≤ 1000 := by rw [hC.count]; have h5 := List.length_filter_le (sameP x) (xs.take i); rw [List.length_take] at h5; omega
              have hil : (xs.take i).length = i := by rw [List.length_take]; omega
              cases hp : sameP x m with
              | false =>
                have hC2 := hC.no hp
                rw [← q1] at hC2
                rw [sameP_def] at hp
                simp only [Bool.and_eq_false_iff, decide_eq_false_iff_not] at hp
                cases hsm : m.Same with
                | false =>
                  clear hp
                  cases th with
                  | true =>
                    apply Wp.seq
                    apply Wp.region
                    refine WpL.v (V.cmp) ?_
                    apply WpL.nil
                    apply Out.seqN
                    apply Wp.seq
                    refine Wp.c (fun hcp0 => ?_) (fun hcp0 => ?_)
                    (try simp only [decide_eq_true_eq, decide_eq_false_iff_not, Bool.not_eq_true', Bool.not_eq_false', Bool.not_eq_true, Bool.not_eq_false, not_true_eq_false, not_false_eq_true, reduceCtorEq] at hcp0)
                    apply Wp.skip
                    apply Out.seqN
                    apply Wp.seq
                    apply Wp.block
                    apply Wp.seq
                    apply Wp.region
                    refine WpL.v (V.mv) ?_
                    refine WpL.v (V.ixR tb rfl rfl (by assumption)) ?_
                    refine WpL.v (V.ldRA tb rfl (by assumption) (getMapS (by assumption))) ?_
                    refine WpL.o (O.al tb (fun p16 => ?_))
                    refine WpL.v (V.as) ?_
                    refine WpL.o (O.stA tb ?_)
                    apply WpL.nil
                    apply Out.seqN
                    apply Wp.seq
                    apply Wp.region
                    refine WpL.v (V.mv) ?_
                    refine WpL.v (V.mv) ?_
                    refine WpL.sk ?_
                    refine WpL.sk ?_
                    refine WpL.sk ?_
                    refine WpL.sk ?_
                    refine WpL.sk ?_
                    refine WpL.v (V.pT) ?_
                    refine WpL.v (V.as) ?_
                    apply WpL.nil
                    apply Out.seqN
                    apply Wp.seq
                    apply Wp.region
                    refine WpL.v (V.fa tb) ?_
                    refine WpL.v (V.ld1 tb) ?_
                    refine WpL.v (V.cmp) ?_
                    refine WpL.v (V.mv) ?_
                    refine WpL.pt (fun hcp1 => ?_) (fun hcp1 => ?_)
                    (try simp only [decide_eq_true_eq, decide_eq_false_iff_not, Bool.not_eq_true', Bool.not_eq_false', Bool.not_eq_true, Bool.not_eq_false, not_true_eq_false, not_false_eq_true, reduceCtorEq] at hcp1)
                    refine WpL.v (V.fa tb) ?_
                    refine WpL.v (V.ld1 tb) ?_
                    refine WpL.v (V.pT) ?_
                    refine WpL.v (V.mv) ?_
                    refine WpL.pt (fun hcp2 => ?_) (fun hcp2 => ?_)
                    (try simp only [decide_eq_true_eq, decide_eq_false_iff_not, Bool.not_eq_true', Bool.not_eq_false', Bool.not_eq_true, Bool.not_eq_false, not_true_eq_false, not_false_eq_true, reduceCtorEq] at hcp2)
                    exact absurd (Eq.trans (Eq.symm hcp2) (by assumption) : true = false) (by decide)
                    (try simp only [decide_eq_true_eq, decide_eq_false_iff_not, Bool.not_eq_true', Bool.not_eq_false', Bool.not_eq_true, Bool.not_eq_false, not_true_eq_false, not_false_eq_true, reduceCtorEq] at hcp2)
                    refine WpL.sk ?_
                    refine WpL.sk ?_
                    refine WpL.sk ?_
                    refine WpL.sk ?_
                    refine WpL.v (V.pF) ?_
                    refine WpL.v (V.mv) ?_
                    refine WpL.sk ?_
                    refine WpL.sk ?_
                    refine WpL.sk ?_
                    refine WpL.sk ?_
                    refine WpL.sk ?_
                    refine WpL.sk ?_
                    refine WpL.v (V.pF) ?_
                    apply WpL.nil
                    apply Out.seqN
                    refine Wp.cF ?_
                    apply Wp.skip
                    apply Out.blockN
                    apply Out.seqN
                    apply Wp.region
                    refine WpL.v (V.add) ?_
                    refine WpL.v (V.mv) ?_
                    apply WpL.nil
                    rotate_left
                    (try simp only [decide_eq_true_eq, decide_eq_false_iff_not, Bool.not_eq_true', Bool.not_eq_false', Bool.not_eq_true, Bool.not_eq_false, not_true_eq_false, not_false_eq_true, reduceCtorEq] at hcp1)
                    refine WpL.sk ?_
                    refine WpL.sk ?_
                    refine WpL.v (V.pF) ?_
                    refine WpL.v (V.mv) ?_
                    refine WpL.sk ?_
                    refine WpL.sk ?_
                    refine WpL.sk ?_
                    refine WpL.sk ?_
                    refine WpL.v (V.pF) ?_
                    refine WpL.v (V.mv) ?_
                    refine WpL.sk ?_
                    refine WpL.sk ?_
                    refine WpL.sk ?_
                    refine WpL.sk ?_
                    refine WpL.sk ?_
                    refine WpL.sk ?_
                    refine WpL.v (V.pF) ?_
                    apply WpL.nil
                    apply Out.seqN
                    refine Wp.cF ?_
                    apply Wp.skip
                    apply Out.blockN
                    apply Out.seqN
                    apply Wp.region
                    refine WpL.v (V.add) ?_
                    refine WpL.v (V.mv) ?_
                    apply WpL.nil
                    rotate_left
                    (try simp only [decide_eq_true_eq, decide_eq_false_iff_not, Bool.not_eq_true', Bool.not_eq_false', Bool.not_eq_true, Bool.not_eq_false, not_true_eq_false, not_false_eq_true, reduceCtorEq] at hcp0)
                    (exfalso; omega)
                    all_goals exact Out.ag hK (i + 1, _, _, _) ⟨by show i + 1 ≤ _; omega, hC2⟩ (by show xs.length - (i + 1) < xs.length - i; omega)
                  | false =>
                    apply Wp.seq
                    apply Wp.region
                    refine WpL.v (V.cmp) ?_
                    apply WpL.nil
                    apply Out.seqN
                    apply Wp.seq
                    refine Wp.c (fun hcq0 => ?_) (fun hcq0 => ?_)
                    (try simp only [decide_eq_true_eq, decide_eq_false_iff_not, Bool.not_eq_true', Bool.not_eq_false', Bool.not_eq_true, Bool.not_eq_false, not_true_eq_false, not_false_eq_true, reduceCtorEq] at hcq0)
                    apply Wp.skip
                    apply Out.seqN
                    apply Wp.seq
                    apply Wp.block
                    apply Wp.seq
                    apply Wp.region
                    refine WpL.v (V.mv) ?_
                    refine WpL.v (V.ixR tb rfl rfl (by assumption)) ?_
                    refine WpL.v (V.ldRA tb rfl (by assumption) (getMapS (by assumption))) ?_
                    refine WpL.o (O.al tb (fun p16 => ?_))
                    refine WpL.v (V.as) ?_
                    refine WpL.o (O.stA tb ?_)
                    apply WpL.nil
                    apply Out.seqN
                    apply Wp.seq
                    apply Wp.region
                    refine WpL.v (V.mv) ?_
                    refine WpL.v (V.mv) ?_
                    refine WpL.v (V.fa tb) ?_
                    refine WpL.v (V.ld1 tb) ?_
                    refine WpL.v (V.fa tb) ?_
                    refine WpL.v (V.ld1 tb) ?_
                    refine WpL.v (V.cmp) ?_
                    refine WpL.v (V.pF) ?_
                    refine WpL.v (V.as) ?_
                    apply WpL.nil
                    apply Out.seqN
                    apply Wp.seq
                    apply Wp.region
                    refine WpL.v (V.fa tb) ?_
                    refine WpL.v (V.ld1 tb) ?_
                    refine WpL.v (V.cmp) ?_
                    refine WpL.v (V.mv) ?_
                    refine WpL.pt (fun hcq1 => ?_) (fun hcq1 => ?_)
                    (try simp only [decide_eq_true_eq, decide_eq_false_iff_not, Bool.not_eq_true', Bool.not_eq_false', Bool.not_eq_true, Bool.not_eq_false, not_true_eq_false, not_false_eq_true, reduceCtorEq] at hcq1)
                    refine WpL.v (V.fa tb) ?_
                    refine WpL.v (V.ld1 tb) ?_
                    refine WpL.v (V.pT) ?_
                    refine WpL.v (V.mv) ?_
                    refine WpL.pt (fun hcq2 => ?_) (fun hcq2 => ?_)
                    (try simp only [decide_eq_true_eq, decide_eq_false_iff_not, Bool.not_eq_true', Bool.not_eq_false', Bool.not_eq_true, Bool.not_eq_false, not_true_eq_false, not_false_eq_true, reduceCtorEq] at hcq2)
                    exact absurd (Eq.trans (Eq.symm hcq2) (by assumption) : true = false) (by decide)
                    (try simp only [decide_eq_true_eq, decide_eq_false_iff_not, Bool.not_eq_true', Bool.not_eq_false', Bool.not_eq_true, Bool.not_eq_false, not_true_eq_false, not_false_eq_true, reduceCtorEq] at hcq2)
                    refine WpL.sk ?_
                    refine WpL.sk ?_
                    refine WpL.sk ?_
                    refine WpL.sk ?_
                    refine WpL.v (V.pF) ?_
                    refine WpL.v (V.mv) ?_
                    refine WpL.sk ?_
                    refine WpL.sk ?_
                    refine WpL.sk ?_
                    refine WpL.sk ?_
                    refine WpL.sk ?_
                    refine WpL.sk ?_
                    refine WpL.v (V.pF) ?_
                    apply WpL.nil
                    apply Out.seqN
                    refine Wp.cF ?_
                    apply Wp.skip
                    apply Out.blockN
                    apply Out.seqN
                    apply Wp.region
                    refine WpL.v (V.add) ?_
                    refine WpL.v (V.mv) ?_
                    apply WpL.nil
                    rotate_left
                    (try simp only [decide_eq_true_eq, decide_eq_false_iff_not, Bool.not_eq_true', Bool.not_eq_false', Bool.not_eq_true, Bool.not_eq_false, not_true_eq_false, not_false_eq_true, reduceCtorEq] at hcq1)
                    refine WpL.sk ?_
                    refine WpL.sk ?_
                    refine WpL.v (V.pF) ?_
                    refine WpL.v (V.mv) ?_
                    refine WpL.sk ?_
                    refine WpL.sk ?_
                    refine WpL.sk ?_
                    refine WpL.sk ?_
                    refine WpL.v (V.pF) ?_
                    refine WpL.v (V.mv) ?_
                    refine WpL.sk ?_
                    refine WpL.sk ?_
                    refine WpL.sk ?_
                    refine WpL.sk ?_
                    refine WpL.sk ?_
                    refine WpL.sk ?_
                    refine WpL.v (V.pF) ?_
                    apply WpL.nil
                    apply Out.seqN
                    refine Wp.cF ?_
                    apply Wp.skip
                    apply Out.blockN
                    apply Out.seqN
                    apply Wp.region
                    refine WpL.v (V.add) ?_
                    refine WpL.v (V.mv) ?_
                    apply WpL.nil
                    rotate_left
                    (try simp only [decide_eq_true_eq, decide_eq_false_iff_not, Bool.not_eq_true', Bool.not_eq_false', Bool.not_eq_true, Bool.not_eq_false, not_true_eq_false, not_false_eq_true, reduceCtorEq] at hcq0)
                    (exfalso; omega)
                    all_goals exact Out.ag hK (i + 1, _, _, _) ⟨by show i + 1 ≤ _; omega, hC2⟩ (by show xs.length - (i + 1) < xs.length - i; omega)
                | true =>
                  have hp2 : ¬ (m.Status = 1 ∧ m.Vote.Round = 0 ∧ m.Vote.Rep = x.Rep) := by rw [hsm] at hp; simp at hp; omega
                  clear hp
                  cases th with
                  | true =>
                    apply Wp.seq
                    apply Wp.region
                    refine WpL.v (V.cmp) ?_
                    apply WpL.nil
                    apply Out.seqN
                    apply Wp.seq
                    refine Wp.c (fun hcr0 => ?_) (fun hcr0 => ?_)
                    (try simp only [decide_eq_true_eq, decide_eq_false_iff_not, Bool.not_eq_true', Bool.not_eq_false', Bool.not_eq_true, Bool.not_eq_false, not_true_eq_false, not_false_eq_true, reduceCtorEq] at hcr0)
                    apply Wp.skip
                    apply Out.seqN
                    apply Wp.seq
                    apply Wp.block
                    apply Wp.seq
                    apply Wp.region
                    refine WpL.v (V.mv) ?_
                    refine WpL.v (V.ixR tb rfl rfl (by assumption)) ?_
                    refine WpL.v (V.ldRA tb rfl (by assumption) (getMapS (by assumption))) ?_
                    refine WpL.o (O.al tb (fun p16 => ?_))
                    refine WpL.v (V.as) ?_
                    refine WpL.o (O.stA tb ?_)
                    apply WpL.nil
                    apply Out.seqN
                    apply Wp.seq
                    apply Wp.region
                    refine WpL.v (V.mv) ?_
                    refine WpL.v (V.mv) ?_
                    refine WpL.sk ?_
                    refine WpL.sk ?_
                    refine WpL.sk ?_
                    refine WpL.sk ?_
                    refine WpL.sk ?_
                    refine WpL.v (V.pT) ?_
                    refine WpL.v (V.as) ?_
                    apply WpL.nil
                    apply Out.seqN
                    apply Wp.seq
                    apply Wp.region
                    refine WpL.v (V.fa tb) ?_
                    refine WpL.v (V.ld1 tb) ?_
                    refine WpL.v (V.cmp) ?_
                    refine WpL.v (V.mv) ?_
                    refine WpL.pt (fun hcr1 => ?_) (fun hcr1 => ?_)
                    (try simp only [decide_eq_true_eq, decide_eq_false_iff_not, Bool.not_eq_true', Bool.not_eq_false', Bool.not_eq_true, Bool.not_eq_false, not_true_eq_false, not_false_eq_true, reduceCtorEq] at hcr1)
                    refine WpL.v (V.fa tb) ?_
                    refine WpL.v (V.ld1 tb) ?_
                    refine WpL.v (V.pT) ?_
                    refine WpL.v (V.mv) ?_
                    refine WpL.pt (fun hcr2 => ?_) (fun hcr2 => ?_)
                    (try simp only [decide_eq_true_eq, decide_eq_false_iff_not, Bool.not_eq_true', Bool.not_eq_false', Bool.not_eq_true, Bool.not_eq_false, not_true_eq_false, not_false_eq_true, reduceCtorEq] at hcr2)
                    refine WpL.v (V.fa tb) ?_
                    refine WpL.v (V.fa tb) ?_
                    refine WpL.v (V.ld1 tb) ?_
                    refine WpL.v (V.cmp) ?_
                    refine WpL.v (V.pT) ?_
                    refine WpL.v (V.mv) ?_
                    refine WpL.pt (fun hcr3 => ?_) (fun hcr3 => ?_)
                    (try simp only [decide_eq_true_eq, decide_eq_false_iff_not, Bool.not_eq_true', Bool.not_eq_false', Bool.not_eq_true, Bool.not_eq_false, not_true_eq_false, not_false_eq_true, reduceCtorEq] at hcr3)
                    refine WpL.v (V.fa tb) ?_
                    refine WpL.v (V.fa tb) ?_
                    refine WpL.v (V.ld1 tb) ?_
                    refine WpL.v (V.fa tb) ?_
                    refine WpL.v (V.ld1 tb) ?_
                    refine WpL.v (V.cmp) ?_
                    refine WpL.v (V.pT) ?_
                    apply WpL.nil
                    apply Out.seqN
                    refine Wp.c (fun hcr4 => ?_) (fun hcr4 => ?_)
                    (try simp only [decide_eq_true_eq, decide_eq_false_iff_not, Bool.not_eq_true', Bool.not_eq_false', Bool.not_eq_true, Bool.not_eq_false, not_true_eq_false, not_false_eq_true, reduceCtorEq] at hcr4)
                    (exfalso; omega)
                    (try simp only [decide_eq_true_eq, decide_eq_false_iff_not, Bool.not_eq_true', Bool.not_eq_false', Bool.not_eq_true, Bool.not_eq_false, not_true_eq_false, not_false_eq_true, reduceCtorEq] at hcr4)
                    apply Wp.skip
                    apply Out.blockN
                    apply Out.seqN
                    apply Wp.region
                    refine WpL.v (V.add) ?_
                    refine WpL.v (V.mv) ?_
                    apply WpL.nil
                    rotate_left
                    (try simp only [decide_eq_true_eq, decide_eq_false_iff_not, Bool.not_eq_true', Bool.not_eq_false', Bool.not_eq_true, Bool.not_eq_false, not_true_eq_false, not_false_eq_true, reduceCtorEq] at hcr3)
                    refine WpL.sk ?_
                    refine WpL.sk ?_
                    refine WpL.sk ?_
                    refine WpL.sk ?_
                    refine WpL.sk ?_
                    refine WpL.sk ?_
                    refine WpL.v (V.pF) ?_
                    apply WpL.nil
                    apply Out.seqN
                    refine Wp.cF ?_
                    apply Wp.skip
                    apply Out.blockN
                    apply Out.seqN
                    apply Wp.region
                    refine WpL.v (V.add) ?_
                    refine WpL.v (V.mv) ?_
                    apply WpL.nil
                    rotate_left
                    (try simp only [decide_eq_true_eq, decide_eq_false_iff_not, Bool.not_eq_true', Bool.not_eq_false', Bool.not_eq_true, Bool.not_eq_false, not_true_eq_false, not_false_eq_true, reduceCtorEq] at hcr2)
                    exact absurd (Eq.trans (Eq.symm hcr2) (by assumption) : false = true) (by decide)
                    (try simp only [decide_eq_true_eq, decide_eq_false_iff_not, Bool.not_eq_true', Bool.not_eq_false', Bool.not_eq_true, Bool.not_eq_false, not_true_eq_false, not_false_eq_true, reduceCtorEq] at hcr1)
                    refine WpL.sk ?_
                    refine WpL.sk ?_
                    refine WpL.v (V.pF) ?_
                    refine WpL.v (V.mv) ?_
                    refine WpL.sk ?_
                    refine WpL.sk ?_
                    refine WpL.sk ?_
                    refine WpL.sk ?_
                    refine WpL.v (V.pF) ?_
                    refine WpL.v (V.mv) ?_
                    refine WpL.sk ?_
                    refine WpL.sk ?_
                    refine WpL.sk ?_
                    refine WpL.sk ?_
                    refine WpL.sk ?_
                    refine WpL.sk ?_
                    refine WpL.v (V.pF) ?_
                    apply WpL.nil
                    apply Out.seqN
                    refine Wp.cF ?_
                    apply Wp.skip
                    apply Out.blockN
                    apply Out.seqN
                    apply Wp.region
                    refine WpL.v (V.add) ?_
                    refine WpL.v (V.mv) ?_
                    apply WpL.nil
                    rotate_left
                    (try simp only [decide_eq_true_eq, decide_eq_false_iff_not, Bool.not_eq_true', Bool.not_eq_false', Bool.not_eq_true, Bool.not_eq_false, not_true_eq_false, not_false_eq_true, reduceCtorEq] at hcr0)
                    (exfalso; omega)
                    all_goals exact Out.ag hK (i + 1, _, _, _) ⟨by show i + 1 ≤ _; omega, hC2⟩ (by show xs.length - (i + 1) < xs.length - i; omega)
                  | false =>
                    apply Wp.seq
                    apply Wp.region
                    refine WpL.v (V.cmp) ?_
                    apply WpL.nil
                    apply Out.seqN
                    apply Wp.seq
                    refine Wp.c (fun hcs0 => ?_) (fun hcs0 => ?_)
                    (try simp only [decide_eq_true_eq, decide_eq_false_iff_not, Bool.not_eq_true', Bool.not_eq_false', Bool.not_eq_true, Bool.not_eq_false, not_true_eq_false, not_false_eq_true, reduceCtorEq] at hcs0)
                    apply Wp.skip
                    apply Out.seqN
                    apply Wp.seq
                    apply Wp.block
                    apply Wp.seq
                    apply Wp.region
                    refine WpL.v (V.mv) ?_
                    refine WpL.v (V.ixR tb rfl rfl (by assumption)) ?_
                    refine WpL.v (V.ldRA tb rfl (by assumption) (getMapS (by assumption))) ?_
                    refine WpL.o (O.al tb (fun p16 => ?_))
                    refine WpL.v (V.as) ?_
                    refine WpL.o (O.stA tb ?_)
                    apply WpL.nil
                    apply Out.seqN
                    apply Wp.seq
                    apply Wp.region
                    refine WpL.v (V.mv) ?_
                    refine WpL.v (V.mv) ?_
                    refine WpL.v (V.fa tb) ?_
                    refine WpL.v (V.ld1 tb) ?_
                    refine WpL.v (V.fa tb) ?_
                    refine WpL.v (V.ld1 tb) ?_
                    refine WpL.v (V.cmp) ?_
                    refine WpL.v (V.pF) ?_
                    refine WpL.v (V.as) ?_
                    apply WpL.nil
                    apply Out.seqN
                    apply Wp.seq
                    apply Wp.region
                    refine WpL.v (V.fa tb) ?_
                    refine WpL.v (V.ld1 tb) ?_
                    refine WpL.v (V.cmp) ?_
                    refine WpL.v (V.mv) ?_
                    refine WpL.pt (fun hcs1 => ?_) (fun hcs1 => ?_)
                    (try simp only [decide_eq_true_eq, decide_eq_false_iff_not, Bool.not_eq_true', Bool.not_eq_false', Bool.not_eq_true, Bool.not_eq_false, not_true_eq_false, not_false_eq_true, reduceCtorEq] at hcs1)
                    refine WpL.v (V.fa tb) ?_
                    refine WpL.v (V.ld1 tb) ?_
                    refine WpL.v (V.pT) ?_
                    refine WpL.v (V.mv) ?_
                    refine WpL.pt (fun hcs2 => ?_) (fun hcs2 => ?_)
                    (try simp only [decide_eq_true_eq, decide_eq_false_iff_not, Bool.not_eq_true', Bool.not_eq_false', Bool.not_eq_true, Bool.not_eq_false, not_true_eq_false, not_false_eq_true, reduceCtorEq] at hcs2)
                    refine WpL.v (V.fa tb) ?_
                    refine WpL.v (V.fa tb) ?_
                    refine WpL.v (V.ld1 tb) ?_
                    refine WpL.v (V.cmp) ?_
                    refine WpL.v (V.pT) ?_
                    refine WpL.v (V.mv) ?_
                    refine WpL.pt (fun hcs3 => ?_) (fun hcs3 => ?_)
                    (try simp only [decide_eq_true_eq, decide_eq_false_iff_not, Bool.not_eq_true', Bool.not_eq_false', Bool.not_eq_true, Bool.not_eq_false, not_true_eq_false, not_false_eq_true, reduceCtorEq] at hcs3)
                    refine WpL.v (V.fa tb) ?_
                    refine WpL.v (V.fa tb) ?_
                    refine WpL.v (V.ld1 tb) ?_
                    refine WpL.v (V.fa tb) ?_
                    refine WpL.v (V.ld1 tb) ?_
                    refine WpL.v (V.cmp) ?_
                    refine WpL.v (V.pT) ?_
                    apply WpL.nil
                    apply Out.seqN
                    refine Wp.c (fun hcs4 => ?_) (fun hcs4 => ?_)
                    (try simp only [decide_eq_true_eq, decide_eq_false_iff_not, Bool.not_eq_true', Bool.not_eq_false', Bool.not_eq_true, Bool.not_eq_false, not_true_eq_false, not_false_eq_true, reduceCtorEq] at hcs4)
                    (exfalso; omega)
                    (try simp only [decide_eq_true_eq, decide_eq_false_iff_not, Bool.not_eq_true', Bool.not_eq_false', Bool.not_eq_true, Bool.not_eq_false, not_true_eq_false, not_false_eq_true, reduceCtorEq] at hcs4)
                    apply Wp.skip
                    apply Out.blockN
                    apply Out.seqN
                    apply Wp.region
                    refine WpL.v (V.add) ?_
                    refine WpL.v (V.mv) ?_
                    apply WpL.nil
                    rotate_left
                    (try simp only [decide_eq_true_eq, decide_eq_false_iff_not, Bool.not_eq_true', Bool.not_eq_false', Bool.not_eq_true, Bool.not_eq_false, not_true_eq_false, not_false_eq_true, reduceCtorEq] at hcs3)
                    refine WpL.sk ?_
                    refine WpL.sk ?_
                    refine WpL.sk ?_
                    refine WpL.sk ?_
                    refine WpL.sk ?_
                    refine WpL.sk ?_
                    refine WpL.v (V.pF) ?_
                    apply WpL.nil
                    apply Out.seqN
                    refine Wp.cF ?_
                    apply Wp.skip
                    apply Out.blockN
                    apply Out.seqN
                    apply Wp.region
                    refine WpL.v (V.add) ?_
                    refine WpL.v (V.mv) ?_
                    apply WpL.nil
                    rotate_left
                    (try simp only [decide_eq_true_eq, decide_eq_false_iff_not, Bool.not_eq_true', Bool.not_eq_false', Bool.not_eq_true, Bool.not_eq_false, not_true_eq_false, not_false_eq_true, reduceCtorEq] at hcs2)
                    exact absurd (Eq.trans (Eq.symm hcs2) (by assumption) : false = true) (by decide)
                    (try simp only [decide_eq_true_eq, decide_eq_false_iff_not, Bool.not_eq_true', Bool.not_eq_false', Bool.not_eq_true, Bool.not_eq_false, not_true_eq_false, not_false_eq_true, reduceCtorEq] at hcs1)
                    refine WpL.sk ?_
                    refine WpL.sk ?_
                    refine WpL.v (V.pF) ?_
                    refine WpL.v (V.mv) ?_
                    refine WpL.sk ?_
                    refine WpL.sk ?_
                    refine WpL.sk ?_
                    refine WpL.sk ?_
                    refine WpL.v (V.pF) ?_
                    refine WpL.v (V.mv) ?_
                    refine WpL.sk ?_
                    refine WpL.sk ?_
                    refine WpL.sk ?_
                    refine WpL.sk ?_
                    refine WpL.sk ?_
                    refine WpL.sk ?_
                    refine WpL.v (V.pF) ?_
                    apply WpL.nil
                    apply Out.seqN
                    refine Wp.cF ?_
                    apply Wp.skip
                    apply Out.blockN
                    apply Out.seqN
                    apply Wp.region
                    refine WpL.v (V.add) ?_
                    refine WpL.v (V.mv) ?_
                    apply WpL.nil
                    rotate_left
                    (try simp only [decide_eq_true_eq, decide_eq_false_iff_not, Bool.not_eq_true', Bool.not_eq_false', Bool.not_eq_true, Bool.not_eq_false, not_true_eq_false, not_false_eq_true, reduceCtorEq] at hcs0)
                    (exfalso; omega)
                    all_goals exact Out.ag hK (i + 1, _, _, _) ⟨by show i + 1 ≤ _; omega, hC2⟩ (by show xs.length - (i + 1) < xs.length - i; omega)
              | true =>
                have hC2 := hC.yes hp
                rw [← q1, hil] at hC2
                rw [sameP_def] at hp
                simp only [Bool.and_eq_true, decide_eq_true_eq] at hp
                obtain ⟨p1, p2, p3, p4⟩ := hp
                by_cases hf0 : f < 0
                · rw [if_pos hf0] at hC2
                  cases th with
                  | true =>
                    apply Wp.seq
                    apply Wp.region
                    refine WpL.v (V.cmp) ?_
                    apply WpL.nil
                    apply Out.seqN
                    apply Wp.seq
                    refine Wp.c (fun hct0 => ?_) (fun hct0 => ?_)
                    (try simp only [decide_eq_true_eq, decide_eq_false_iff_not, Bool.not_eq_true', Bool.not_eq_false', Bool.not_eq_true, Bool.not_eq_false, not_true_eq_false, not_false_eq_true, reduceCtorEq] at hct0)
                    apply Wp.skip
                    apply Out.seqN
                    apply Wp.seq
                    apply Wp.block
                    apply Wp.seq
                    apply Wp.region
                    refine WpL.v (V.mv) ?_
                    refine WpL.v (V.ixR tb rfl rfl (by assumption)) ?_
                    refine WpL.v (V.ldRA tb rfl (by assumption) (getMapS (by assumption))) ?_
                    refine WpL.o (O.al tb (fun p16 => ?_))
                    refine WpL.v (V.as) ?_
                    refine WpL.o (O.stA tb ?_)
                    apply WpL.nil
                    apply Out.seqN
                    apply Wp.seq
                    apply Wp.region
                    refine WpL.v (V.mv) ?_
                    refine WpL.v (V.mv) ?_
                    refine WpL.sk ?_
                    refine WpL.sk ?_
                    refine WpL.sk ?_
                    refine WpL.sk ?_
                    refine WpL.sk ?_
                    refine WpL.v (V.pT) ?_
                    refine WpL.v (V.as) ?_
                    apply WpL.nil
                    apply Out.seqN
                    apply Wp.seq
                    apply Wp.region
                    refine WpL.v (V.fa tb) ?_
                    refine WpL.v (V.ld1 tb) ?_
                    refine WpL.v (V.cmp) ?_
                    refine WpL.v (V.mv) ?_
                    refine WpL.pt (fun hct1 => ?_) (fun hct1 => ?_)
                    (try simp only [decide_eq_true_eq, decide_eq_false_iff_not, Bool.not_eq_true', Bool.not_eq_false', Bool.not_eq_true, Bool.not_eq_false, not_true_eq_false, not_false_eq_true, reduceCtorEq] at hct1)
                    refine WpL.v (V.fa tb) ?_
                    refine WpL.v (V.ld1 tb) ?_
                    refine WpL.v (V.pT) ?_
                    refine WpL.v (V.mv) ?_
                    refine WpL.pt (fun hct2 => ?_) (fun hct2 => ?_)
                    (try simp only [decide_eq_true_eq, decide_eq_false_iff_not, Bool.not_eq_true', Bool.not_eq_false', Bool.not_eq_true, Bool.not_eq_false, not_true_eq_false, not_false_eq_true, reduceCtorEq] at hct2)
                    refine WpL.v (V.fa tb) ?_
                    refine WpL.v (V.fa tb) ?_
                    refine WpL.v (V.ld1 tb) ?_
                    refine WpL.v (V.cmp) ?_
                    refine WpL.v (V.pT) ?_
                    refine WpL.v (V.mv) ?_
                    refine WpL.pt (fun hct3 => ?_) (fun hct3 => ?_)
                    (try simp only [decide_eq_true_eq, decide_eq_false_iff_not, Bool.not_eq_true', Bool.not_eq_false', Bool.not_eq_true, Bool.not_eq_false, not_true_eq_false, not_false_eq_true, reduceCtorEq] at hct3)
                    refine WpL.v (V.fa tb) ?_
                    refine WpL.v (V.fa tb) ?_
                    refine WpL.v (V.ld1 tb) ?_
                    refine WpL.v (V.fa tb) ?_
                    refine WpL.v (V.ld1 tb) ?_
                    refine WpL.v (V.cmp) ?_
                    refine WpL.v (V.pT) ?_
                    apply WpL.nil
                    apply Out.seqN
                    refine Wp.c (fun hct4 => ?_) (fun hct4 => ?_)
                    (try simp only [decide_eq_true_eq, decide_eq_false_iff_not, Bool.not_eq_true', Bool.not_eq_false', Bool.not_eq_true, Bool.not_eq_false, not_true_eq_false, not_false_eq_true, reduceCtorEq] at hct4)
                    apply Wp.seq
                    apply Wp.region
                    refine WpL.v (V.mv) ?_
                    refine WpL.v (V.add) ?_
                    refine WpL.v (V.as) ?_
                    apply WpL.nil
                    apply Out.seqN
                    apply Wp.seq
                    apply Wp.region
                    refine WpL.v (V.mv) ?_
                    refine WpL.v (V.cmp) ?_
                    apply WpL.nil
                    apply Out.seqN
                    refine Wp.c (fun hct5 => ?_) (fun hct5 => ?_)
                    (try simp only [decide_eq_true_eq, decide_eq_false_iff_not, Bool.not_eq_true', Bool.not_eq_false', Bool.not_eq_true, Bool.not_eq_false, not_true_eq_false, not_false_eq_true, reduceCtorEq] at hct5)
                    apply Wp.region
                    refine WpL.v (V.mv) ?_
                    refine WpL.v (V.as) ?_
                    apply WpL.nil
                    apply Out.blockN
                    apply Out.seqN
                    apply Wp.region
                    refine WpL.v (V.add) ?_
                    refine WpL.v (V.mv) ?_
                    apply WpL.nil
                    rotate_left
                    (try simp only [decide_eq_true_eq, decide_eq_false_iff_not, Bool.not_eq_true', Bool.not_eq_false', Bool.not_eq_true, Bool.not_eq_false, not_true_eq_false, not_false_eq_true, reduceCtorEq] at hct5)
                    (exfalso; omega)
                    (try simp only [decide_eq_true_eq, decide_eq_false_iff_not, Bool.not_eq_true', Bool.not_eq_false', Bool.not_eq_true, Bool.not_eq_false, not_true_eq_false, not_false_eq_true, reduceCtorEq] at hct4)
                    (exfalso; omega)
                    (try simp only [decide_eq_true_eq, decide_eq_false_iff_not, Bool.not_eq_true', Bool.not_eq_false', Bool.not_eq_true, Bool.not_eq_false, not_true_eq_false, not_false_eq_true, reduceCtorEq] at hct3)
                    (exfalso; omega)
                    (try simp only [decide_eq_true_eq, decide_eq_false_iff_not, Bool.not_eq_true', Bool.not_eq_false', Bool.not_eq_true, Bool.not_eq_false, not_true_eq_false, not_false_eq_true, reduceCtorEq] at hct2)
                    exact absurd (Eq.trans (Eq.symm hct2) (by assumption) : false = true) (by decide)
                    (try simp only [decide_eq_true_eq, decide_eq_false_iff_not, Bool.not_eq_true', Bool.not_eq_false', Bool.not_eq_true, Bool.not_eq_false, not_true_eq_false, not_false_eq_true, reduceCtorEq] at hct1)
                    (exfalso; omega)
                    (try simp only [decide_eq_true_eq, decide_eq_false_iff_not, Bool.not_eq_true', Bool.not_eq_false', Bool.not_eq_true, Bool.not_eq_false, not_true_eq_false, not_false_eq_true, reduceCtorEq] at hct0)
                    (exfalso; omega)
                    all_goals exact Out.ag hK (i + 1, _, _, _) ⟨by show i + 1 ≤ _; omega, hC2⟩ (by show xs.length - (i + 1) < xs.length - i; omega)
                  | false =>
                    apply Wp.seq
                    apply Wp.region
                    refine WpL.v (V.cmp) ?_
                    apply WpL.nil
                    apply Out.seqN
                    apply Wp.seq
                    refine Wp.c (fun hcu0 => ?_) (fun hcu0 => ?_)
                    (try simp only [decide_eq_true_eq, decide_eq_false_iff_not, Bool.not_eq_true', Bool.not_eq_false', Bool.not_eq_true, Bool.not_eq_false, not_true_eq_false, not_false_eq_true, reduceCtorEq] at hcu0)
                    apply Wp.skip
                    apply Out.seqN
                    apply Wp.seq
                    apply Wp.block
                    apply Wp.seq
                    apply Wp.region
                    refine WpL.v (V.mv) ?_
                    refine WpL.v (V.ixR tb rfl rfl (by assumption)) ?_
                    refine WpL.v (V.ldRA tb rfl (by assumption) (getMapS (by assumption))) ?_
                    refine WpL.o (O.al tb (fun p16 => ?_))
                    refine WpL.v (V.as) ?_
                    refine WpL.o (O.stA tb ?_)
                    apply WpL.nil
                    apply Out.seqN
                    apply Wp.seq
                    apply Wp.region
                    refine WpL.v (V.mv) ?_
                    refine WpL.v (V.mv) ?_
                    refine WpL.v (V.fa tb) ?_
                    refine WpL.v (V.ld1 tb) ?_
                    refine WpL.v (V.fa tb) ?_
                    refine WpL.v (V.ld1 tb) ?_
                    refine WpL.v (V.cmp) ?_
                    refine WpL.v (V.pF) ?_
                    refine WpL.v (V.as) ?_
                    apply WpL.nil
                    apply Out.seqN
                    apply Wp.seq
                    apply Wp.region
                    refine WpL.v (V.fa tb) ?_
                    refine WpL.v (V.ld1 tb) ?_
                    refine WpL.v (V.cmp) ?_
                    refine WpL.v (V.mv) ?_
                    refine WpL.pt (fun hcu1 => ?_) (fun hcu1 => ?_)
                    (try simp only [decide_eq_true_eq, decide_eq_false_iff_not, Bool.not_eq_true', Bool.not_eq_false', Bool.not_eq_true, Bool.not_eq_false, not_true_eq_false, not_false_eq_true, reduceCtorEq] at hcu1)
                    refine WpL.v (V.fa tb) ?_
                    refine WpL.v (V.ld1 tb) ?_
                    refine WpL.v (V.pT) ?_
                    refine WpL.v (V.mv) ?_
                    refine WpL.pt (fun hcu2 => ?_) (fun hcu2 => ?_)
                    (try simp only [decide_eq_true_eq, decide_eq_false_iff_not, Bool.not_eq_true', Bool.not_eq_false', Bool.not_eq_true, Bool.not_eq_false, not_true_eq_false, not_false_eq_true, reduceCtorEq] at hcu2)
                    refine WpL.v (V.fa tb) ?_
                    refine WpL.v (V.fa tb) ?_
                    refine WpL.v (V.ld1 tb) ?_
                    refine WpL.v (V.cmp) ?_
                    refine WpL.v (V.pT) ?_
                    refine WpL.v (V.mv) ?_
                    refine WpL.pt (fun hcu3 => ?_) (fun hcu3 => ?_)
                    (try simp only [decide_eq_true_eq, decide_eq_false_iff_not, Bool.not_eq_true', Bool.not_eq_false', Bool.not_eq_true, Bool.not_eq_false, not_true_eq_false, not_false_eq_true, reduceCtorEq] at hcu3)
                    refine WpL.v (V.fa tb) ?_
                    refine WpL.v (V.fa tb) ?_
                    refine WpL.v (V.ld1 tb) ?_
                    refine WpL.v (V.fa tb) ?_
                    refine WpL.v (V.ld1 tb) ?_
                    refine WpL.v (V.cmp) ?_
                    refine WpL.v (V.pT) ?_
                    apply WpL.nil
                    apply Out.seqN
                    refine Wp.c (fun hcu4 => ?_) (fun hcu4 => ?_)
                    (try simp only [decide_eq_true_eq, decide_eq_false_iff_not, Bool.not_eq_true', Bool.not_eq_false', Bool.not_eq_true, Bool.not_eq_false, not_true_eq_false, not_false_eq_true, reduceCtorEq] at hcu4)
                    apply Wp.seq
                    apply Wp.region
                    refine WpL.v (V.mv) ?_
                    refine WpL.v (V.add) ?_
                    refine WpL.v (V.as) ?_
                    apply WpL.nil
                    apply Out.seqN
                    apply Wp.seq
                    apply Wp.region
                    refine WpL.v (V.mv) ?_
                    refine WpL.v (V.cmp) ?_
                    apply WpL.nil
                    apply Out.seqN
                    refine Wp.c (fun hcu5 => ?_) (fun hcu5 => ?_)
                    (try simp only [decide_eq_true_eq, decide_eq_false_iff_not, Bool.not_eq_true', Bool.not_eq_false', Bool.not_eq_true, Bool.not_eq_false, not_true_eq_false, not_false_eq_true, reduceCtorEq] at hcu5)
                    apply Wp.region
                    refine WpL.v (V.mv) ?_
                    refine WpL.v (V.as) ?_
                    apply WpL.nil
                    apply Out.blockN
                    apply Out.seqN
                    apply Wp.region
                    refine WpL.v (V.add) ?_
                    refine WpL.v (V.mv) ?_
                    apply WpL.nil
                    rotate_left
                    (try simp only [decide_eq_true_eq, decide_eq_false_iff_not, Bool.not_eq_true', Bool.not_eq_false', Bool.not_eq_true, Bool.not_eq_false, not_true_eq_false, not_false_eq_true, reduceCtorEq] at hcu5)
                    (exfalso; omega)
                    (try simp only [decide_eq_true_eq, decide_eq_false_iff_not, Bool.not_eq_true', Bool.not_eq_false', Bool.not_eq_true, Bool.not_eq_false, not_true_eq_false, not_false_eq_true, reduceCtorEq] at hcu4)
                    (exfalso; omega)
                    (try simp only [decide_eq_true_eq, decide_eq_false_iff_not, Bool.not_eq_true', Bool.not_eq_false', Bool.not_eq_true, Bool.not_eq_false, not_true_eq_false, not_false_eq_true, reduceCtorEq] at hcu3)
                    (exfalso; omega)
                    (try simp only [decide_eq_true_eq, decide_eq_false_iff_not, Bool.not_eq_true', Bool.not_eq_false', Bool.not_eq_true, Bool.not_eq_false, not_true_eq_false, not_false_eq_true, reduceCtorEq] at hcu2)
                    exact absurd (Eq.trans (Eq.symm hcu2) (by assumption) : false = true) (by decide)
                    (try simp only [decide_eq_true_eq, decide_eq_false_iff_not, Bool.not_eq_true', Bool.not_eq_false', Bool.not_eq_true, Bool.not_eq_false, not_true_eq_false, not_false_eq_true, reduceCtorEq] at hcu1)
                    (exfalso; omega)
                    (try simp only [decide_eq_true_eq, decide_eq_false_iff_not, Bool.not_eq_true', Bool.not_eq_false', Bool.not_eq_true, Bool.not_eq_false, not_true_eq_false, not_false_eq_true, reduceCtorEq] at hcu0)
                    (exfalso; omega)
                    all_goals exact Out.ag hK (i + 1, _, _, _) ⟨by show i + 1 ≤ _; omega, hC2⟩ (by show xs.length - (i + 1) < xs.length - i; omega)
                · rw [if_neg hf0] at hC2
                  cases th with
                  | true =>
                    apply Wp.seq
                    apply Wp.region
                    refine WpL.v (V.cmp) ?_
                    apply WpL.nil
                    apply Out.seqN
                    apply Wp.seq
                    refine Wp.c (fun hcv0 => ?_) (fun hcv0 => ?_)
                    (try simp only [decide_eq_true_eq, decide_eq_false_iff_not, Bool.not_eq_true', Bool.not_eq_false', Bool.not_eq_true, Bool.not_eq_false, not_true_eq_false, not_false_eq_true, reduceCtorEq] at hcv0)
                    apply Wp.skip
                    apply Out.seqN
                    apply Wp.seq
                    apply Wp.block
                    apply Wp.seq
                    apply Wp.region
                    refine WpL.v (V.mv) ?_
                    refine WpL.v (V.ixR tb rfl rfl (by assumption)) ?_
                    refine WpL.v (V.ldRA tb rfl (by assumption) (getMapS (by assumption))) ?_
                    refine WpL.o (O.al tb (fun p16 => ?_))
                    refine WpL.v (V.as) ?_
                    refine WpL.o (O.stA tb ?_)
                    apply WpL.nil
                    apply Out.seqN
                    apply Wp.seq
                    apply Wp.region
                    refine WpL.v (V.mv) ?_
                    refine WpL.v (V.mv) ?_
                    refine WpL.sk ?_
                    refine WpL.sk ?_
                    refine WpL.sk ?_
                    refine WpL.sk ?_
                    refine WpL.sk ?_
                    refine WpL.v (V.pT) ?_
                    refine WpL.v (V.as) ?_
                    apply WpL.nil
                    apply Out.seqN
                    apply Wp.seq
                    apply Wp.region
                    refine WpL.v (V.fa tb) ?_
                    refine WpL.v (V.ld1 tb) ?_
                    refine WpL.v (V.cmp) ?_
                    refine WpL.v (V.mv) ?_
                    refine WpL.pt (fun hcv1 => ?_) (fun hcv1 => ?_)
                    (try simp only [decide_eq_true_eq, decide_eq_false_iff_not, Bool.not_eq_true', Bool.not_eq_false', Bool.not_eq_true, Bool.not_eq_false, not_true_eq_false, not_false_eq_true, reduceCtorEq] at hcv1)
                    refine WpL.v (V.fa tb) ?_
                    refine WpL.v (V.ld1 tb) ?_
                    refine WpL.v (V.pT) ?_
                    refine WpL.v (V.mv) ?_
                    refine WpL.pt (fun hcv2 => ?_) (fun hcv2 => ?_)
                    (try simp only [decide_eq_true_eq, decide_eq_false_iff_not, Bool.not_eq_true', Bool.not_eq_false', Bool.not_eq_true, Bool.not_eq_false, not_true_eq_false, not_false_eq_true, reduceCtorEq] at hcv2)
                    refine WpL.v (V.fa tb) ?_
                    refine WpL.v (V.fa tb) ?_
                    refine WpL.v (V.ld1 tb) ?_
                    refine WpL.v (V.cmp) ?_
                    refine WpL.v (V.pT) ?_
                    refine WpL.v (V.mv) ?_
                    refine WpL.pt (fun hcv3 => ?_) (fun hcv3 => ?_)
                    (try simp only [decide_eq_true_eq, decide_eq_false_iff_not, Bool.not_eq_true', Bool.not_eq_false', Bool.not_eq_true, Bool.not_eq_false, not_true_eq_false, not_false_eq_true, reduceCtorEq] at hcv3)
                    refine WpL.v (V.fa tb) ?_
                    refine WpL.v (V.fa tb) ?_
                    refine WpL.v (V.ld1 tb) ?_
                    refine WpL.v (V.fa tb) ?_
                    refine WpL.v (V.ld1 tb) ?_
                    refine WpL.v (V.cmp) ?_
                    refine WpL.v (V.pT) ?_
                    apply WpL.nil
                    apply Out.seqN
                    refine Wp.c (fun hcv4 => ?_) (fun hcv4 => ?_)
                    (try simp only [decide_eq_true_eq, decide_eq_false_iff_not, Bool.not_eq_true', Bool.not_eq_false', Bool.not_eq_true, Bool.not_eq_false, not_true_eq_false, not_false_eq_true, reduceCtorEq] at hcv4)
                    apply Wp.seq
                    apply Wp.region
                    refine WpL.v (V.mv) ?_
                    refine WpL.v (V.add) ?_
                    refine WpL.v (V.as) ?_
                    apply WpL.nil
                    apply Out.seqN
                    apply Wp.seq
                    apply Wp.region
                    refine WpL.v (V.mv) ?_
                    refine WpL.v (V.cmp) ?_
                    apply WpL.nil
                    apply Out.seqN
                    refine Wp.c (fun hcv5 => ?_) (fun hcv5 => ?_)
                    (try simp only [decide_eq_true_eq, decide_eq_false_iff_not, Bool.not_eq_true', Bool.not_eq_false', Bool.not_eq_true, Bool.not_eq_false, not_true_eq_false, not_false_eq_true, reduceCtorEq] at hcv5)
                    (exfalso; omega)
                    (try simp only [decide_eq_true_eq, decide_eq_false_iff_not, Bool.not_eq_true', Bool.not_eq_false', Bool.not_eq_true, Bool.not_eq_false, not_true_eq_false, not_false_eq_true, reduceCtorEq] at hcv5)
                    apply Wp.skip
                    apply Out.blockN
                    apply Out.seqN
                    apply Wp.region
                    refine WpL.v (V.add) ?_
                    refine WpL.v (V.mv) ?_
                    apply WpL.nil
                    rotate_left
                    (try simp only [decide_eq_true_eq, decide_eq_false_iff_not, Bool.not_eq_true', Bool.not_eq_false', Bool.not_eq_true, Bool.not_eq_false, not_true_eq_false, not_false_eq_true, reduceCtorEq] at hcv4)
                    (exfalso; omega)
                    (try simp only [decide_eq_true_eq, decide_eq_false_iff_not, Bool.not_eq_true', Bool.not_eq_false', Bool.not_eq_true, Bool.not_eq_false, not_true_eq_false, not_false_eq_true, reduceCtorEq] at hcv3)
                    (exfalso; omega)
                    (try simp only [decide_eq_true_eq, decide_eq_false_iff_not, Bool.not_eq_true', Bool.not_eq_false', Bool.not_eq_true, Bool.not_eq_false, not_true_eq_false, not_false_eq_true, reduceCtorEq] at hcv2)
                    exact absurd (Eq.trans (Eq.symm hcv2) (by assumption) : false = true) (by decide)
                    (try simp only [decide_eq_true_eq, decide_eq_false_iff_not, Bool.not_eq_true', Bool.not_eq_false', Bool.not_eq_true, Bool.not_eq_false, not_true_eq_false, not_false_eq_true, reduceCtorEq] at hcv1)
                    (exfalso; omega)
                    (try simp only [decide_eq_true_eq, decide_eq_false_iff_not, Bool.not_eq_true', Bool.not_eq_false', Bool.not_eq_true, Bool.not_eq_false, not_true_eq_false, not_false_eq_true, reduceCtorEq] at hcv0)
                    (exfalso; omega)
                    all_goals exact Out.ag hK (i + 1, _, _, _) ⟨by show i + 1 ≤ _; omega, hC2⟩ (by show xs.length - (i + 1) < xs.length - i; omega)
                  | false =>
                    apply Wp.seq
                    apply Wp.region
                    refine WpL.v (V.cmp) ?_
                    apply WpL.nil
                    apply Out.seqN
                    apply Wp.seq
                    refine Wp.c (fun hcx0 => ?_) (fun hcx0 => ?_)
                    (try simp only [decide_eq_true_eq, decide_eq_false_iff_not, Bool.not_eq_true', Bool.not_eq_false', Bool.not_eq_true, Bool.not_eq_false, not_true_eq_false, not_false_eq_true, reduceCtorEq] at hcx0)
                    apply Wp.skip
                    apply Out.seqN
                    apply Wp.seq
                    apply Wp.block
                    apply Wp.seq
                    apply Wp.region
                    refine WpL.v (V.mv) ?_
                    refine WpL.v (V.ixR tb rfl rfl (by assumption)) ?_
                    refine WpL.v (V.ldRA tb rfl (by assumption) (getMapS (by assumption))) ?_
                    refine WpL.o (O.al tb (fun p16 => ?_))
                    refine WpL.v (V.as) ?_
                    refine WpL.o (O.stA tb ?_)
                    apply WpL.nil
                    apply Out.seqN
                    apply Wp.seq
                    apply Wp.region
                    refine WpL.v (V.mv) ?_
                    refine WpL.v (V.mv) ?_
                    refine WpL.v (V.fa tb) ?_
                    refine WpL.v (V.ld1 tb) ?_
                    refine WpL.v (V.fa tb) ?_
                    refine WpL.v (V.ld1 tb) ?_
                    refine WpL.v (V.cmp) ?_
                    refine WpL.v (V.pF) ?_
                    refine WpL.v (V.as) ?_
                    apply WpL.nil
                    apply Out.seqN
                    apply Wp.seq
                    apply Wp.region
                    refine WpL.v (V.fa tb) ?_
                    refine WpL.v (V.ld1 tb) ?_
                    refine WpL.v (V.cmp) ?_
                    refine WpL.v (V.mv) ?_
                    refine WpL.pt (fun hcx1 => ?_) (fun hcx1 => ?_)
                    (try simp only [decide_eq_true_eq, decide_eq_false_iff_not, Bool.not_eq_true', Bool.not_eq_false', Bool.not_eq_true, Bool.not_eq_false, not_true_eq_false, not_false_eq_true, reduceCtorEq] at hcx1)
                    refine WpL.v (V.fa tb) ?_
                    refine WpL.v (V.ld1 tb) ?_
                    refine WpL.v (V.pT) ?_
                    refine WpL.v (V.mv) ?_
                    refine WpL.pt (fun hcx2 => ?_) (fun hcx2 => ?_)
                    (try simp only [decide_eq_true_eq, decide_eq_false_iff_not, Bool.not_eq_true', Bool.not_eq_false', Bool.not_eq_true, Bool.not_eq_false, not_true_eq_false, not_false_eq_true, reduceCtorEq] at hcx2)
                    refine WpL.v (V.fa tb) ?_
                    refine WpL.v (V.fa tb) ?_
                    refine WpL.v (V.ld1 tb) ?_
                    refine WpL.v (V.cmp) ?_
                    refine WpL.v (V.pT) ?_
                    refine WpL.v (V.mv) ?_
                    refine WpL.pt (fun hcx3 => ?_) (fun hcx3 => ?_)
                    (try simp only [decide_eq_true_eq, decide_eq_false_iff_not, Bool.not_eq_true', Bool.not_eq_false', Bool.not_eq_true, Bool.not_eq_false, not_true_eq_false, not_false_eq_true, reduceCtorEq] at hcx3)
                    refine WpL.v (V.fa tb) ?_
                    refine WpL.v (V.fa tb) ?_
                    refine WpL.v (V.ld1 tb) ?_
                    refine WpL.v (V.fa tb) ?_
                    refine WpL.v (V.ld1 tb) ?_
                    refine WpL.v (V.cmp) ?_
                    refine WpL.v (V.pT) ?_
                    apply WpL.nil
                    apply Out.seqN
                    refine Wp.c (fun hcx4 => ?_) (fun hcx4 => ?_)
                    (try simp only [decide_eq_true_eq, decide_eq_false_iff_not, Bool.not_eq_true', Bool.not_eq_false', Bool.not_eq_true, Bool.not_eq_false, not_true_eq_false, not_false_eq_true, reduceCtorEq] at hcx4)
                    apply Wp.seq
                    apply Wp.region
                    refine WpL.v (V.mv) ?_
                    refine WpL.v (V.add) ?_
                    refine WpL.v (V.as) ?_
                    apply WpL.nil
                    apply Out.seqN
                    apply Wp.seq
                    apply Wp.region
                    refine WpL.v (V.mv) ?_
                    refine WpL.v (V.cmp) ?_
                    apply WpL.nil
                    apply Out.seqN
                    refine Wp.c (fun hcx5 => ?_) (fun hcx5 => ?_)
                    (try simp only [decide_eq_true_eq, decide_eq_false_iff_not, Bool.not_eq_true', Bool.not_eq_false', Bool.not_eq_true, Bool.not_eq_false, not_true_eq_false, not_false_eq_true, reduceCtorEq] at hcx5)
                    (exfalso; omega)
                    (try simp only [decide_eq_true_eq, decide_eq_false_iff_not, Bool.not_eq_true', Bool.not_eq_false', Bool.not_eq_true, Bool.not_eq_false, not_true_eq_false, not_false_eq_true, reduceCtorEq] at hcx5)
                    apply Wp.skip
                    apply Out.blockN
                    apply Out.seqN
                    apply Wp.region
                    refine WpL.v (V.add) ?_
                    refine WpL.v (V.mv) ?_
                    apply WpL.nil
                    rotate_left
                    (try simp only [decide_eq_true_eq, decide_eq_false_iff_not, Bool.not_eq_true', Bool.not_eq_false', Bool.not_eq_true, Bool.not_eq_false, not_true_eq_false, not_false_eq_true, reduceCtorEq] at hcx4)
                    (exfalso; omega)
                    (try simp only [decide_eq_true_eq, decide_eq_false_iff_not, Bool.not_eq_true', Bool.not_eq_false', Bool.not_eq_true, Bool.not_eq_false, not_true_eq_false, not_false_eq_true, reduceCtorEq] at hcx3)
                    (exfalso; omega)
                    (try simp only [decide_eq_true_eq, decide_eq_false_iff_not, Bool.not_eq_true', Bool.not_eq_false', Bool.not_eq_true, Bool.not_eq_false, not_true_eq_false, not_false_eq_true, reduceCtorEq] at hcx2)
                    exact absurd (Eq.trans (Eq.symm hcx2) (by assumption) : false = true) (by decide)
                    (try simp only [decide_eq_true_eq, decide_eq_false_iff_not, Bool.not_eq_true', Bool.not_eq_false', Bool.not_eq_true, Bool.not_eq_false, not_true_eq_false, not_false_eq_true, reduceCtorEq] at hcx1)
                    (exfalso; omega)
                    (try simp only [decide_eq_true_eq, decide_eq_false_iff_not, Bool.not_eq_true', Bool.not_eq_false', Bool.not_eq_true, Bool.not_eq_false, not_true_eq_false, not_false_eq_true, reduceCtorEq] at hcx0)
                    (exfalso; omega)
                    all_goals exact Out.ag hK (i + 1, _, _, _) ⟨by show i + 1 ≤ _; omega, hC2⟩ (by show xs.length - (i + 1) < xs.length - i; omega)
            · obtain rfl : i = xs.length := by omega
              rw [List.take_length] at hC
              clear hK
              have hth := hC.there
              have hco := hC.count
              by_cases hA : th = false ∧ faults n ≤ c
              · obtain ⟨rfl, hA⟩ := hA
                rcases hC.first with ⟨g1, _⟩ | ⟨k, m0, t, g1, rfl, g3⟩
                · rw [g1] at hco; simp at hco; omega
                have hkl := (List.getElem?_eq_some_iff.1 g3).1
                have hsm : sameL x xs = m0 :: t := by unfold sameL; rw [← hth]; exact g1
                rw [g1] at hco; simp only [List.length_cons] at hco
                rw [show choose n x xs = (2, m0.Call) by unfold choose; rw [if_neg hlen, hc3]; simp only [hac, hsm]; rw [if_pos (by rw [← hco]; exact hA)]]
                apply Wp.seq
                apply Wp.region
                refine WpL.v (V.cmp) ?_
                apply WpL.nil
                apply Out.seqN
                apply Wp.seq
                refine Wp.c (fun hcA0 => ?_) (fun hcA0 => ?_)
                (try simp only [decide_eq_true_eq, decide_eq_false_iff_not, Bool.not_eq_true', Bool.not_eq_false', Bool.not_eq_true, Bool.not_eq_false, not_true_eq_false, not_false_eq_true, reduceCtorEq] at hcA0)
                (exfalso; omega)
                (try simp only [decide_eq_true_eq, decide_eq_false_iff_not, Bool.not_eq_true', Bool.not_eq_false', Bool.not_eq_true, Bool.not_eq_false, not_true_eq_false, not_false_eq_true, reduceCtorEq] at hcA0)
                apply Wp.exit
                apply Out.seqE
                apply Out.seqE
                apply Out.blockE
                apply Out.seqN
                apply Wp.seq
                apply Wp.seq
                apply Wp.region
                refine WpL.v (V.mv) ?_
                refine WpL.v (V.not) ?_
                refine WpL.v (V.mv) ?_
                refine WpL.v (V.mv) ?_
                refine WpL.v (V.cmp) ?_
                refine WpL.v (V.pT) ?_
                refine WpL.v (V.mv) ?_
                refine WpL.pt (fun hcA1 => ?_) (fun hcA1 => ?_)
                (try simp only [decide_eq_true_eq, decide_eq_false_iff_not, Bool.not_eq_true', Bool.not_eq_false', Bool.not_eq_true, Bool.not_eq_false, not_true_eq_false, not_false_eq_true, reduceCtorEq] at hcA1)
                refine WpL.v (V.mv) ?_
                refine WpL.v (V.mv) ?_
                refine WpL.v (V.cmp) ?_
                refine WpL.v (V.pT) ?_
                apply WpL.nil
                apply Out.seqN
                refine Wp.c (fun hcA2 => ?_) (fun hcA2 => ?_)
                (try simp only [decide_eq_true_eq, decide_eq_false_iff_not, Bool.not_eq_true', Bool.not_eq_false', Bool.not_eq_true, Bool.not_eq_false, not_true_eq_false, not_false_eq_true, reduceCtorEq] at hcA2)
                apply Wp.seq
                refine Wp.dG [] ?_ (List.Sublist.cons_cons _ (List.Sublist.cons _ (List.Sublist.cons _ List.Sublist.slnil))) (List.Sublist.cons_cons _ (List.Sublist.cons _ (List.Sublist.cons _ List.Sublist.slnil)))
                refine WpA.tF 0 rfl (V.mv) ?_
                refine WpA.tF 1 rfl (V.mv) ?_
                refine WpA.tF 2 rfl (V.ixR tb rfl rfl (by assumption)) ?_
                refine WpA.tF 3 rfl (V.fa tb) ?_
                refine WpA.tF 4 rfl (V.rdFA tb (o := 11) rfl hR (getMapS g3)) ?_
                refine WpA.tF 5 rfl (V.as) ?_
                refine WpA.oS 6 rfl (O.stA tb ⟨?_, ?_, ?_⟩)
                exact holdT
                exact holdT
                refine WpA.ou ?_
                apply Out.seqN
                apply Wp.ret
                apply Out.seqR
                refine Out.f2 rfl ResIs.t (ResIs.ca tb) ⟨?_, rfl⟩
                exact rfl
                (try simp only [decide_eq_true_eq, decide_eq_false_iff_not, Bool.not_eq_true', Bool.not_eq_false', Bool.not_eq_true, Bool.not_eq_false, not_true_eq_false, not_false_eq_true, reduceCtorEq] at hcA2)
                (exfalso; omega)
                (try simp only [decide_eq_true_eq, decide_eq_false_iff_not, Bool.not_eq_true', Bool.not_eq_false', Bool.not_eq_true, Bool.not_eq_false, not_true_eq_false, not_false_eq_true, reduceCtorEq] at hcA1)
                (exfalso; omega)
              · have hch := choose_rest hlen hc3 hac (show xs.any (fun m => decide (m.From = x.Rep)) = true ∨ ((xs.filter (sameP x)).length : Int) < faults n by
                  rw [← hth, ← hco]
                  cases th with
                  | true => exact .inl rfl
                  | false => right; have : ¬ faults n ≤ c := fun h => hA ⟨rfl, h⟩; omega)
                rw [hc1] at hch
                rw [hch]
                clear hch
                cases th with
                | true =>
                  apply Wp.seq
                  apply Wp.region
                  refine WpL.v (V.cmp) ?_
                  apply WpL.nil
                  apply Out.seqN
                  apply Wp.seq
                  refine Wp.c (fun hcB0 => ?_) (fun hcB0 => ?_)
                  (try simp only [decide_eq_true_eq, decide_eq_false_iff_not, Bool.not_eq_true', Bool.not_eq_false', Bool.not_eq_true, Bool.not_eq_false, not_true_eq_false, not_false_eq_true, reduceCtorEq] at hcB0)
                  (exfalso; omega)
                  (try simp only [decide_eq_true_eq, decide_eq_false_iff_not, Bool.not_eq_true', Bool.not_eq_false', Bool.not_eq_true, Bool.not_eq_false, not_true_eq_false, not_false_eq_true, reduceCtorEq] at hcB0)
                  apply Wp.exit
                  apply Out.seqE
                  apply Out.seqE
                  apply Out.blockE
                  apply Out.seqN
                  apply Wp.seq
                  apply Wp.seq
                  apply Wp.region
                  refine WpL.v (V.mv) ?_
                  refine WpL.v (V.not) ?_
                  refine WpL.v (V.mv) ?_
                  refine WpL.sk ?_
                  refine WpL.sk ?_
                  refine WpL.v (V.pF) ?_
                  refine WpL.v (V.mv) ?_
                  refine WpL.sk ?_
                  refine WpL.sk ?_
                  refine WpL.sk ?_
                  refine WpL.v (V.pF) ?_
                  apply WpL.nil
                  apply Out.seqN
                  refine Wp.cF ?_
                  apply Wp.skip
                  apply Out.seqN
                  apply Wp.seq
                  apply Wp.region
                  refine WpL.v (V.mv) ?_
                  refine WpL.o (Op1.callT rfl (h1) (by (repeat (first | exact Sel.nil | exact Rem.here | apply Sel.cons | apply Rem.there))) ?_)
                  rintro v1 s2 ⟨rfl, rfl⟩
                  refine incat ?_
                  refine WpL.v (V.as) ?_
                  apply WpL.nil
                  apply Out.seqN
                  apply Wp.seq
                  apply Wp.seq
                  apply Wp.region
                  refine WpL.v (V.mv) ?_
                  refine WpL.v (V.cmp) ?_
                  apply WpL.nil
                  apply Out.seqN
                  refine Wp.c (fun hcB3 => ?_) (fun hcB3 => ?_)
                  (try simp only [decide_eq_true_eq, decide_eq_false_iff_not, Bool.not_eq_true', Bool.not_eq_false', Bool.not_eq_true, Bool.not_eq_false, not_true_eq_false, not_false_eq_true, reduceCtorEq] at hcB3)
                  (exfalso; omega)
                  (try simp only [decide_eq_true_eq, decide_eq_false_iff_not, Bool.not_eq_true', Bool.not_eq_false', Bool.not_eq_true, Bool.not_eq_false, not_true_eq_false, not_false_eq_true, reduceCtorEq] at hcB3)
                  apply Wp.skip
                  apply Out.seqN
                  apply Wp.seq
                  apply Wp.region
                  refine WpL.v (V.mv) ?_
                  refine WpL.v (V.mv) ?_
                  refine WpL.v (V.ixR tb rfl rfl (by assumption)) ?_
                  refine WpL.v (V.fa tb) ?_
                  refine WpL.v (V.rdFA tb (o := 11) rfl hR (getMapS hk1)) ?_
                  refine WpL.o (O.al tb (fun p18 => ?_))
                  refine WpL.o (O.stA tb ?_)
                  apply WpL.nil
                  apply Out.seqN
                  apply Wp.seq
                  apply Wp.seq
                  apply Wp.region
                  refine WpL.v (V.mv) ?_
                  refine WpL.v (V.lenL tb) ?_
                  refine WpL.v (V.mv) ?_
                  apply WpL.nil
                  apply Out.seqN
                  apply Wp.block
                  refine Wp.lp [135, 134, 18, 7] (fun i : Nat => i ≤ xs.length) (fun i => [(136, I (i : Int))]) (fun i => [cells p18 33 (asks a.Call (xs.take i)).c]) (fun i => xs.length - i) 0 (Nat.zero_le _) ?_
                  rintro i hi0 K hK
                  dsimp only [List.cons_append, List.nil_append]
                  by_cases hlt : i < xs.length
                  · obtain ⟨p, hp⟩ := getS hlt
                    have q1 := take_snocS hp
                    have q2 : asks a.Call (xs.take (i + 1)) = (if p.Status = 1 then mrg (asks a.Call (xs.take i)) p.Call else asks a.Call (xs.take i)) := by rw [q1, asks_snoc]
                    generalize asks a.Call (xs.take i) = d at *
                    rw [mrg_eq] at q2
                    have hJ := ref_join d.Deps p.Call.Deps
                    by_cases hs : p.Status = 1
                    · rw [if_pos hs] at q2
                      apply Wp.seq
                      apply Wp.region
                      refine WpL.v (V.cmp) ?_
                      apply WpL.nil
                      apply Out.seqN
                      apply Wp.seq
                      refine Wp.c (fun hcD0 => ?_) (fun hcD0 => ?_)
                      (try simp only [decide_eq_true_eq, decide_eq_false_iff_not, Bool.not_eq_true', Bool.not_eq_false', Bool.not_eq_true, Bool.not_eq_false, not_true_eq_false, not_false_eq_true, reduceCtorEq] at hcD0)
                      apply Wp.skip
                      apply Out.seqN
                      apply Wp.seq
                      apply Wp.block
                      apply Wp.seq
                      apply Wp.region
                      refine WpL.v (V.ixR tb rfl rfl (by assumption)) ?_
                      refine WpL.v (V.ldRA tb rfl (by assumption) (getMapS (by assumption))) ?_
                      refine WpL.o (O.al tb (fun p20 => ?_))
                      refine WpL.o (O.stA tb ?_)
                      apply WpL.nil
                      apply Out.seqN
                      apply Wp.seq
                      apply Wp.region
                      refine WpL.v (V.fa tb) ?_
                      refine WpL.v (V.ld1 tb) ?_
                      refine WpL.v (V.cmp) ?_
                      apply WpL.nil
                      apply Out.seqN
                      refine Wp.c (fun hcD1 => ?_) (fun hcD1 => ?_)
                      (try simp only [decide_eq_true_eq, decide_eq_false_iff_not, Bool.not_eq_true', Bool.not_eq_false', Bool.not_eq_true, Bool.not_eq_false, not_true_eq_false, not_false_eq_true, reduceCtorEq] at hcD1)
                      apply Wp.seq
                      apply Wp.region
                      refine WpL.v (V.fa tb) ?_
                      refine WpL.v (V.ldA tb) ?_
                      refine WpL.v (V.fa tb) ?_
                      refine WpL.v (V.fa tb) ?_
                      refine WpL.v (V.ldA tb) ?_
                      refine WpL.o (Op1.fn rfl (hJ) ?_)
                      refine WpL.v (V.fa tb) ?_
                      refine WpL.o (O.stA tb ?_)
                      apply WpL.nil
                      apply Out.seqN
                      apply Wp.region
                      refine WpL.v (V.fa tb) ?_
                      refine WpL.v (V.ld1 tb) ?_
                      refine WpL.v (V.fa tb) ?_
                      refine WpL.v (V.fa tb) ?_
                      refine WpL.v (V.ld1 tb) ?_
                      refine WpL.v (V.max) ?_
                      refine WpL.v (V.fa tb) ?_
                      refine WpL.o (O.st1 tb ?_)
                      apply WpL.nil
                      apply Out.blockN
                      apply Out.seqN
                      apply Wp.region
                      refine WpL.v (V.add) ?_
                      refine WpL.v (V.mv) ?_
                      apply WpL.nil
                      rotate_left
                      (try simp only [decide_eq_true_eq, decide_eq_false_iff_not, Bool.not_eq_true', Bool.not_eq_false', Bool.not_eq_true, Bool.not_eq_false, not_true_eq_false, not_false_eq_true, reduceCtorEq] at hcD1)
                      (exfalso; omega)
                      (try simp only [decide_eq_true_eq, decide_eq_false_iff_not, Bool.not_eq_true', Bool.not_eq_false', Bool.not_eq_true, Bool.not_eq_false, not_true_eq_false, not_false_eq_true, reduceCtorEq] at hcD0)
                      (exfalso; omega)
                      all_goals exact Out.ag hK (i + 1) (by show i + 1 ≤ _; omega) (by show xs.length - (i + 1) < xs.length - i; omega) (hs := by rw [q2]; (repeat (first | exact Sel.nil | exact Rem.here | apply Sel.cons | apply Rem.there)))
                    · rw [if_neg hs] at q2
                      apply Wp.seq
                      apply Wp.region
                      refine WpL.v (V.cmp) ?_
                      apply WpL.nil
                      apply Out.seqN
                      apply Wp.seq
                      refine Wp.c (fun hcF0 => ?_) (fun hcF0 => ?_)
                      (try simp only [decide_eq_true_eq, decide_eq_false_iff_not, Bool.not_eq_true', Bool.not_eq_false', Bool.not_eq_true, Bool.not_eq_false, not_true_eq_false, not_false_eq_true, reduceCtorEq] at hcF0)
                      apply Wp.skip
                      apply Out.seqN
                      apply Wp.seq
                      apply Wp.block
                      apply Wp.seq
                      apply Wp.region
                      refine WpL.v (V.ixR tb rfl rfl (by assumption)) ?_
                      refine WpL.v (V.ldRA tb rfl (by assumption) (getMapS (by assumption))) ?_
                      refine WpL.o (O.al tb (fun p20 => ?_))
                      refine WpL.o (O.stA tb ?_)
                      apply WpL.nil
                      apply Out.seqN
                      apply Wp.seq
                      apply Wp.region
                      refine WpL.v (V.fa tb) ?_
                      refine WpL.v (V.ld1 tb) ?_
                      refine WpL.v (V.cmp) ?_
                      apply WpL.nil
                      apply Out.seqN
                      refine Wp.c (fun hcF1 => ?_) (fun hcF1 => ?_)
                      (try simp only [decide_eq_true_eq, decide_eq_false_iff_not, Bool.not_eq_true', Bool.not_eq_false', Bool.not_eq_true, Bool.not_eq_false, not_true_eq_false, not_false_eq_true, reduceCtorEq] at hcF1)
                      (exfalso; omega)
                      (try simp only [decide_eq_true_eq, decide_eq_false_iff_not, Bool.not_eq_true', Bool.not_eq_false', Bool.not_eq_true, Bool.not_eq_false, not_true_eq_false, not_false_eq_true, reduceCtorEq] at hcF1)
                      apply Wp.skip
                      apply Out.blockN
                      apply Out.seqN
                      apply Wp.region
                      refine WpL.v (V.add) ?_
                      refine WpL.v (V.mv) ?_
                      apply WpL.nil
                      rotate_left
                      (try simp only [decide_eq_true_eq, decide_eq_false_iff_not, Bool.not_eq_true', Bool.not_eq_false', Bool.not_eq_true, Bool.not_eq_false, not_true_eq_false, not_false_eq_true, reduceCtorEq] at hcF0)
                      (exfalso; omega)
                      all_goals exact Out.ag hK (i + 1) (by show i + 1 ≤ _; omega) (by show xs.length - (i + 1) < xs.length - i; omega) (hs := by rw [q2]; (repeat (first | exact Sel.nil | exact Rem.here | apply Sel.cons | apply Rem.there)))
                  · obtain rfl : i = xs.length := by omega
                    rw [List.take_length]
                    clear hK
                    apply Wp.seq
                    apply Wp.region
                    refine WpL.v (V.cmp) ?_
                    apply WpL.nil
                    apply Out.seqN
                    apply Wp.seq
                    refine Wp.c (fun hcH0 => ?_) (fun hcH0 => ?_)
                    (try simp only [decide_eq_true_eq, decide_eq_false_iff_not, Bool.not_eq_true', Bool.not_eq_false', Bool.not_eq_true, Bool.not_eq_false, not_true_eq_false, not_false_eq_true, reduceCtorEq] at hcH0)
                    (exfalso; omega)
                    (try simp only [decide_eq_true_eq, decide_eq_false_iff_not, Bool.not_eq_true', Bool.not_eq_false', Bool.not_eq_true, Bool.not_eq_false, not_true_eq_false, not_false_eq_true, reduceCtorEq] at hcH0)
                    apply Wp.exit
                    apply Out.seqE
                    apply Out.seqE
                    apply Out.blockE
                    apply Out.seqN
                    apply Wp.seq
                    refine Wp.dG [] ?_ (List.Sublist.cons_cons _ (List.Sublist.cons _ (List.Sublist.cons _ (List.Sublist.cons _ List.Sublist.slnil)))) (List.Sublist.cons_cons _ (List.Sublist.cons _ (List.Sublist.cons _ (List.Sublist.cons _ List.Sublist.slnil))))
                    refine WpA.tF 0 rfl (V.ldA tb) ?_
                    refine WpA.tF 1 rfl (V.as) ?_
                    refine WpA.oS 2 rfl (O.stA tb ⟨?_, ?_, ?_⟩)
                    exact holdT
                    exact holdT
                    refine WpA.ou ?_
                    apply Out.seqN
                    apply Wp.ret
                    refine Out.f2 rfl ResIs.t (ResIs.ca tb) ⟨?_, rfl⟩
                    exact rfl
                | false =>
                  have hA2 : ¬ faults n ≤ c := fun h => hA ⟨rfl, h⟩
                  by_cases hc0 : 0 < c
                  · clear hC
                    apply Wp.seq
                    apply Wp.region
                    refine WpL.v (V.cmp) ?_
                    apply WpL.nil
                    apply Out.seqN
                    apply Wp.seq
                    refine Wp.c (fun hcC0 => ?_) (fun hcC0 => ?_)
                    (try simp only [decide_eq_true_eq, decide_eq_false_iff_not, Bool.not_eq_true', Bool.not_eq_false', Bool.not_eq_true, Bool.not_eq_false, not_true_eq_false, not_false_eq_true, reduceCtorEq] at hcC0)
                    (exfalso; omega)
                    (try simp only [decide_eq_true_eq, decide_eq_false_iff_not, Bool.not_eq_true', Bool.not_eq_false', Bool.not_eq_true, Bool.not_eq_false, not_true_eq_false, not_false_eq_true, reduceCtorEq] at hcC0)
                    apply Wp.exit
                    apply Out.seqE
                    apply Out.seqE
                    apply Out.blockE
                    apply Out.seqN
                    apply Wp.seq
                    apply Wp.seq
                    apply Wp.region
                    refine WpL.v (V.mv) ?_
                    refine WpL.v (V.not) ?_
                    refine WpL.v (V.mv) ?_
                    refine WpL.v (V.mv) ?_
                    refine WpL.v (V.cmp) ?_
                    refine WpL.v (V.pT) ?_
                    refine WpL.v (V.mv) ?_
                    refine WpL.pt (fun hcC1 => ?_) (fun hcC1 => ?_)
                    (try simp only [decide_eq_true_eq, decide_eq_false_iff_not, Bool.not_eq_true', Bool.not_eq_false', Bool.not_eq_true, Bool.not_eq_false, not_true_eq_false, not_false_eq_true, reduceCtorEq] at hcC1)
                    refine WpL.v (V.mv) ?_
                    refine WpL.v (V.mv) ?_
                    refine WpL.v (V.cmp) ?_
                    refine WpL.v (V.pT) ?_
                    apply WpL.nil
                    apply Out.seqN
                    refine Wp.c (fun hcC2 => ?_) (fun hcC2 => ?_)
                    (try simp only [decide_eq_true_eq, decide_eq_false_iff_not, Bool.not_eq_true', Bool.not_eq_false', Bool.not_eq_true, Bool.not_eq_false, not_true_eq_false, not_false_eq_true, reduceCtorEq] at hcC2)
                    (exfalso; omega)
                    (try simp only [decide_eq_true_eq, decide_eq_false_iff_not, Bool.not_eq_true', Bool.not_eq_false', Bool.not_eq_true, Bool.not_eq_false, not_true_eq_false, not_false_eq_true, reduceCtorEq] at hcC2)
                    apply Wp.skip
                    apply Out.seqN
                    apply Wp.seq
                    apply Wp.region
                    refine WpL.v (V.mv) ?_
                    refine WpL.o (Op1.callT rfl (h1) (by (repeat (first | exact Sel.nil | exact Rem.here | apply Sel.cons | apply Rem.there))) ?_)
                    rintro v3 s4 ⟨rfl, rfl⟩
                    refine incat ?_
                    refine WpL.v (V.as) ?_
                    apply WpL.nil
                    apply Out.seqN
                    apply Wp.seq
                    apply Wp.seq
                    apply Wp.region
                    refine WpL.v (V.mv) ?_
                    refine WpL.v (V.cmp) ?_
                    apply WpL.nil
                    apply Out.seqN
                    refine Wp.c (fun hcC5 => ?_) (fun hcC5 => ?_)
                    (try simp only [decide_eq_true_eq, decide_eq_false_iff_not, Bool.not_eq_true', Bool.not_eq_false', Bool.not_eq_true, Bool.not_eq_false, not_true_eq_false, not_false_eq_true, reduceCtorEq] at hcC5)
                    (exfalso; omega)
                    (try simp only [decide_eq_true_eq, decide_eq_false_iff_not, Bool.not_eq_true', Bool.not_eq_false', Bool.not_eq_true, Bool.not_eq_false, not_true_eq_false, not_false_eq_true, reduceCtorEq] at hcC5)
                    apply Wp.skip
                    apply Out.seqN
                    apply Wp.seq
                    apply Wp.region
                    refine WpL.v (V.mv) ?_
                    refine WpL.v (V.mv) ?_
                    refine WpL.v (V.ixR tb rfl rfl (by assumption)) ?_
                    refine WpL.v (V.fa tb) ?_
                    refine WpL.v (V.rdFA tb (o := 11) rfl hR (getMapS hk1)) ?_
                    refine WpL.o (O.al tb (fun p18 => ?_))
                    refine WpL.o (O.stA tb ?_)
                    apply WpL.nil
                    apply Out.seqN
                    apply Wp.seq
                    apply Wp.seq
                    apply Wp.region
                    refine WpL.v (V.mv) ?_
                    refine WpL.v (V.lenL tb) ?_
                    refine WpL.v (V.mv) ?_
                    apply WpL.nil
                    apply Out.seqN
                    apply Wp.block
                    rotate_left
                    (try simp only [decide_eq_true_eq, decide_eq_false_iff_not, Bool.not_eq_true', Bool.not_eq_false', Bool.not_eq_true, Bool.not_eq_false, not_true_eq_false, not_false_eq_true, reduceCtorEq] at hcC1)
                    (exfalso; omega)
                    refine Wp.lp [135, 134, 18, 7] (fun i : Nat => i ≤ xs.length) (fun i => [(136, I (i : Int))]) (fun i => [cells p18 33 (asks a.Call (xs.take i)).c]) (fun i => xs.length - i) 0 (Nat.zero_le _) ?_
                    rintro i hi0 K hK
                    dsimp only [List.cons_append, List.nil_append]
                    by_cases hlt : i < xs.length
                    · obtain ⟨p, hp⟩ := getS hlt
                      have q1 := take_snocS hp
                      have q2 : asks a.Call (xs.take (i + 1)) = (if p.Status = 1 then mrg (asks a.Call (xs.take i)) p.Call else asks a.Call (xs.take i)) := by rw [q1, asks_snoc]
                      generalize asks a.Call (xs.take i) = d at *
                      rw [mrg_eq] at q2
                      have hJ := ref_join d.Deps p.Call.Deps
                      by_cases hs : p.Status = 1
                      · rw [if_pos hs] at q2
                        apply Wp.seq
                        apply Wp.region
                        refine WpL.v (V.cmp) ?_
                        apply WpL.nil
                        apply Out.seqN
                        apply Wp.seq
                        refine Wp.c (fun hcE0 => ?_) (fun hcE0 => ?_)
                        (try simp only [decide_eq_true_eq, decide_eq_false_iff_not, Bool.not_eq_true', Bool.not_eq_false', Bool.not_eq_true, Bool.not_eq_false, not_true_eq_false, not_false_eq_true, reduceCtorEq] at hcE0)
                        apply Wp.skip
                        apply Out.seqN
                        apply Wp.seq
                        apply Wp.block
                        apply Wp.seq
                        apply Wp.region
                        refine WpL.v (V.ixR tb rfl rfl (by assumption)) ?_
                        refine WpL.v (V.ldRA tb rfl (by assumption) (getMapS (by assumption))) ?_
                        refine WpL.o (O.al tb (fun p20 => ?_))
                        refine WpL.o (O.stA tb ?_)
                        apply WpL.nil
                        apply Out.seqN
                        apply Wp.seq
                        apply Wp.region
                        refine WpL.v (V.fa tb) ?_
                        refine WpL.v (V.ld1 tb) ?_
                        refine WpL.v (V.cmp) ?_
                        apply WpL.nil
                        apply Out.seqN
                        refine Wp.c (fun hcE1 => ?_) (fun hcE1 => ?_)
                        (try simp only [decide_eq_true_eq, decide_eq_false_iff_not, Bool.not_eq_true', Bool.not_eq_false', Bool.not_eq_true, Bool.not_eq_false, not_true_eq_false, not_false_eq_true, reduceCtorEq] at hcE1)
                        apply Wp.seq
                        apply Wp.region
                        refine WpL.v (V.fa tb) ?_
                        refine WpL.v (V.ldA tb) ?_
                        refine WpL.v (V.fa tb) ?_
                        refine WpL.v (V.fa tb) ?_
                        refine WpL.v (V.ldA tb) ?_
                        refine WpL.o (Op1.fn rfl (hJ) ?_)
                        refine WpL.v (V.fa tb) ?_
                        refine WpL.o (O.stA tb ?_)
                        apply WpL.nil
                        apply Out.seqN
                        apply Wp.region
                        refine WpL.v (V.fa tb) ?_
                        refine WpL.v (V.ld1 tb) ?_
                        refine WpL.v (V.fa tb) ?_
                        refine WpL.v (V.fa tb) ?_
                        refine WpL.v (V.ld1 tb) ?_
                        refine WpL.v (V.max) ?_
                        refine WpL.v (V.fa tb) ?_
                        refine WpL.o (O.st1 tb ?_)
                        apply WpL.nil
                        apply Out.blockN
                        apply Out.seqN
                        apply Wp.region
                        refine WpL.v (V.add) ?_
                        refine WpL.v (V.mv) ?_
                        apply WpL.nil
                        rotate_left
                        (try simp only [decide_eq_true_eq, decide_eq_false_iff_not, Bool.not_eq_true', Bool.not_eq_false', Bool.not_eq_true, Bool.not_eq_false, not_true_eq_false, not_false_eq_true, reduceCtorEq] at hcE1)
                        (exfalso; omega)
                        (try simp only [decide_eq_true_eq, decide_eq_false_iff_not, Bool.not_eq_true', Bool.not_eq_false', Bool.not_eq_true, Bool.not_eq_false, not_true_eq_false, not_false_eq_true, reduceCtorEq] at hcE0)
                        (exfalso; omega)
                        all_goals exact Out.ag hK (i + 1) (by show i + 1 ≤ _; omega) (by show xs.length - (i + 1) < xs.length - i; omega) (hs := by rw [q2]; (repeat (first | exact Sel.nil | exact Rem.here | apply Sel.cons | apply Rem.there)))
                      · rw [if_neg hs] at q2
                        apply Wp.seq
                        apply Wp.region
                        refine WpL.v (V.cmp) ?_
                        apply WpL.nil
                        apply Out.seqN
                        apply Wp.seq
                        refine Wp.c (fun hcG0 => ?_) (fun hcG0 => ?_)
                        (try simp only [decide_eq_true_eq, decide_eq_false_iff_not, Bool.not_eq_true', Bool.not_eq_false', Bool.not_eq_true, Bool.not_eq_false, not_true_eq_false, not_false_eq_true, reduceCtorEq] at hcG0)
                        apply Wp.skip
                        apply Out.seqN
                        apply Wp.seq
                        apply Wp.block
                        apply Wp.seq
                        apply Wp.region
                        refine WpL.v (V.ixR tb rfl rfl (by assumption)) ?_
                        refine WpL.v (V.ldRA tb rfl (by assumption) (getMapS (by assumption))) ?_
                        refine WpL.o (O.al tb (fun p20 => ?_))
                        refine WpL.o (O.stA tb ?_)
                        apply WpL.nil
                        apply Out.seqN
                        apply Wp.seq
                        apply Wp.region
                        refine WpL.v (V.fa tb) ?_
                        refine WpL.v (V.ld1 tb) ?_
                        refine WpL.v (V.cmp) ?_
                        apply WpL.nil
                        apply Out.seqN
                        refine Wp.c (fun hcG1 => ?_) (fun hcG1 => ?_)
                        (try simp only [decide_eq_true_eq, decide_eq_false_iff_not, Bool.not_eq_true', Bool.not_eq_false', Bool.not_eq_true, Bool.not_eq_false, not_true_eq_false, not_false_eq_true, reduceCtorEq] at hcG1)
                        (exfalso; omega)
                        (try simp only [decide_eq_true_eq, decide_eq_false_iff_not, Bool.not_eq_true', Bool.not_eq_false', Bool.not_eq_true, Bool.not_eq_false, not_true_eq_false, not_false_eq_true, reduceCtorEq] at hcG1)
                        apply Wp.skip
                        apply Out.blockN
                        apply Out.seqN
                        apply Wp.region
                        refine WpL.v (V.add) ?_
                        refine WpL.v (V.mv) ?_
                        apply WpL.nil
                        rotate_left
                        (try simp only [decide_eq_true_eq, decide_eq_false_iff_not, Bool.not_eq_true', Bool.not_eq_false', Bool.not_eq_true, Bool.not_eq_false, not_true_eq_false, not_false_eq_true, reduceCtorEq] at hcG0)
                        (exfalso; omega)
                        all_goals exact Out.ag hK (i + 1) (by show i + 1 ≤ _; omega) (by show xs.length - (i + 1) < xs.length - i; omega) (hs := by rw [q2]; (repeat (first | exact Sel.nil | exact Rem.here | apply Sel.cons | apply Rem.there)))
                    · obtain rfl : i = xs.length := by omega
                      rw [List.take_length]
                      clear hK
                      apply Wp.seq
                      apply Wp.region
                      refine WpL.v (V.cmp) ?_
                      apply WpL.nil
                      apply Out.seqN
                      apply Wp.seq
                      refine Wp.c (fun hcI0 => ?_) (fun hcI0 => ?_)
                      (try simp only [decide_eq_true_eq, decide_eq_false_iff_not, Bool.not_eq_true', Bool.not_eq_false', Bool.not_eq_true, Bool.not_eq_false, not_true_eq_false, not_false_eq_true, reduceCtorEq] at hcI0)
                      (exfalso; omega)
                      (try simp only [decide_eq_true_eq, decide_eq_false_iff_not, Bool.not_eq_true', Bool.not_eq_false', Bool.not_eq_true, Bool.not_eq_false, not_true_eq_false, not_false_eq_true, reduceCtorEq] at hcI0)
                      apply Wp.exit
                      apply Out.seqE
                      apply Out.seqE
                      apply Out.blockE
                      apply Out.seqN
                      apply Wp.seq
                      refine Wp.dG [] ?_ (List.Sublist.cons_cons _ (List.Sublist.cons _ (List.Sublist.cons _ (List.Sublist.cons _ List.Sublist.slnil)))) (List.Sublist.cons_cons _ (List.Sublist.cons _ (List.Sublist.cons _ (List.Sublist.cons _ List.Sublist.slnil))))
                      refine WpA.tF 0 rfl (V.ldA tb) ?_
                      refine WpA.tF 1 rfl (V.as) ?_
                      refine WpA.oS 2 rfl (O.stA tb ⟨?_, ?_, ?_⟩)
                      exact holdT
                      exact holdT
                      refine WpA.ou ?_
                      apply Out.seqN
                      apply Wp.ret
                      refine Out.f2 rfl ResIs.t (ResIs.ca tb) ⟨?_, rfl⟩
                      exact rfl
                  · clear hC
                    apply Wp.seq
                    apply Wp.region
                    refine WpL.v (V.cmp) ?_
                    apply WpL.nil
                    apply Out.seqN
                    apply Wp.seq
                    refine Wp.c (fun hcJ0 => ?_) (fun hcJ0 => ?_)
                    (try simp only [decide_eq_true_eq, decide_eq_false_iff_not, Bool.not_eq_true', Bool.not_eq_false', Bool.not_eq_true, Bool.not_eq_false, not_true_eq_false, not_false_eq_true, reduceCtorEq] at hcJ0)
                    (exfalso; omega)
                    (try simp only [decide_eq_true_eq, decide_eq_false_iff_not, Bool.not_eq_true', Bool.not_eq_false', Bool.not_eq_true, Bool.not_eq_false, not_true_eq_false, not_false_eq_true, reduceCtorEq] at hcJ0)
                    apply Wp.exit
                    apply Out.seqE
                    apply Out.seqE
                    apply Out.blockE
                    apply Out.seqN
                    apply Wp.seq
                    apply Wp.seq
                    apply Wp.region
                    refine WpL.v (V.mv) ?_
                    refine WpL.v (V.not) ?_
                    refine WpL.v (V.mv) ?_
                    refine WpL.v (V.mv) ?_
                    refine WpL.v (V.cmp) ?_
                    refine WpL.v (V.pT) ?_
                    refine WpL.v (V.mv) ?_
                    refine WpL.pt (fun hcJ1 => ?_) (fun hcJ1 => ?_)
                    (try simp only [decide_eq_true_eq, decide_eq_false_iff_not, Bool.not_eq_true', Bool.not_eq_false', Bool.not_eq_true, Bool.not_eq_false, not_true_eq_false, not_false_eq_true, reduceCtorEq] at hcJ1)
                    (exfalso; omega)
                    (try simp only [decide_eq_true_eq, decide_eq_false_iff_not, Bool.not_eq_true', Bool.not_eq_false', Bool.not_eq_true, Bool.not_eq_false, not_true_eq_false, not_false_eq_true, reduceCtorEq] at hcJ1)
                    refine WpL.sk ?_
                    refine WpL.sk ?_
                    refine WpL.sk ?_
                    refine WpL.v (V.pF) ?_
                    apply WpL.nil
                    apply Out.seqN
                    refine Wp.cF ?_
                    apply Wp.skip
                    apply Out.seqN
                    apply Wp.seq
                    apply Wp.region
                    refine WpL.v (V.mv) ?_
                    refine WpL.o (Op1.callT rfl (h1) (by (repeat (first | exact Sel.nil | exact Rem.here | apply Sel.cons | apply Rem.there))) ?_)
                    rintro v2 s3 ⟨rfl, rfl⟩
                    refine incat ?_
                    refine WpL.v (V.as) ?_
                    apply WpL.nil
                    apply Out.seqN
                    apply Wp.seq
                    apply Wp.seq
                    apply Wp.region
                    refine WpL.v (V.mv) ?_
                    refine WpL.v (V.cmp) ?_
                    apply WpL.nil
                    apply Out.seqN
                    refine Wp.c (fun hcJ4 => ?_) (fun hcJ4 => ?_)
                    (try simp only [decide_eq_true_eq, decide_eq_false_iff_not, Bool.not_eq_true', Bool.not_eq_false', Bool.not_eq_true, Bool.not_eq_false, not_true_eq_false, not_false_eq_true, reduceCtorEq] at hcJ4)
                    (exfalso; omega)
                    (try simp only [decide_eq_true_eq, decide_eq_false_iff_not, Bool.not_eq_true', Bool.not_eq_false', Bool.not_eq_true, Bool.not_eq_false, not_true_eq_false, not_false_eq_true, reduceCtorEq] at hcJ4)
                    apply Wp.skip
                    apply Out.seqN
                    apply Wp.seq
                    apply Wp.region
                    refine WpL.v (V.mv) ?_
                    refine WpL.v (V.mv) ?_
                    refine WpL.v (V.ixR tb rfl rfl (by assumption)) ?_
                    refine WpL.v (V.fa tb) ?_
                    refine WpL.v (V.rdFA tb (o := 11) rfl hR (getMapS hk1)) ?_
                    refine WpL.o (O.al tb (fun p18 => ?_))
                    refine WpL.o (O.stA tb ?_)
                    apply WpL.nil
                    apply Out.seqN
                    apply Wp.seq
                    apply Wp.seq
                    apply Wp.region
                    refine WpL.v (V.mv) ?_
                    refine WpL.v (V.lenL tb) ?_
                    refine WpL.v (V.mv) ?_
                    apply WpL.nil
                    apply Out.seqN
                    apply Wp.block
                    refine Wp.lp [135, 134, 18, 7] (fun i : Nat => i ≤ xs.length) (fun i => [(136, I (i : Int))]) (fun i => [cells p18 33 (asks a.Call (xs.take i)).c]) (fun i => xs.length - i) 0 (Nat.zero_le _) ?_
                    rintro i hi0 K hK
                    dsimp only [List.cons_append, List.nil_append]
                    by_cases hlt : i < xs.length
                    · obtain ⟨p, hp⟩ := getS hlt
                      have q1 := take_snocS hp
                      have q2 : asks a.Call (xs.take (i + 1)) = (if p.Status = 1 then mrg (asks a.Call (xs.take i)) p.Call else asks a.Call (xs.take i)) := by rw [q1, asks_snoc]
                      generalize asks a.Call (xs.take i) = d at *
                      rw [mrg_eq] at q2
                      have hJ := ref_join d.Deps p.Call.Deps
                      by_cases hs : p.Status = 1
                      · rw [if_pos hs] at q2
                        apply Wp.seq
                        apply Wp.region
                        refine WpL.v (V.cmp) ?_
                        apply WpL.nil
                        apply Out.seqN
                        apply Wp.seq
                        refine Wp.c (fun hcK0 => ?_) (fun hcK0 => ?_)
                        (try simp only [decide_eq_true_eq, decide_eq_false_iff_not, Bool.not_eq_true', Bool.not_eq_false', Bool.not_eq_true, Bool.not_eq_false, not_true_eq_false, not_false_eq_true, reduceCtorEq] at hcK0)
                        apply Wp.skip
                        apply Out.seqN
                        apply Wp.seq
                        apply Wp.block
                        apply Wp.seq
                        apply Wp.region
                        refine WpL.v (V.ixR tb rfl rfl (by assumption)) ?_
                        refine WpL.v (V.ldRA tb rfl (by assumption) (getMapS (by assumption))) ?_
                        refine WpL.o (O.al tb (fun p20 => ?_))
                        refine WpL.o (O.stA tb ?_)
                        apply WpL.nil
                        apply Out.seqN
                        apply Wp.seq
                        apply Wp.region
                        refine WpL.v (V.fa tb) ?_
                        refine WpL.v (V.ld1 tb) ?_
                        refine WpL.v (V.cmp) ?_
                        apply WpL.nil
                        apply Out.seqN
                        refine Wp.c (fun hcK1 => ?_) (fun hcK1 => ?_)
                        (try simp only [decide_eq_true_eq, decide_eq_false_iff_not, Bool.not_eq_true', Bool.not_eq_false', Bool.not_eq_true, Bool.not_eq_false, not_true_eq_false, not_false_eq_true, reduceCtorEq] at hcK1)
                        apply Wp.seq
                        apply Wp.region
                        refine WpL.v (V.fa tb) ?_
                        refine WpL.v (V.ldA tb) ?_
                        refine WpL.v (V.fa tb) ?_
                        refine WpL.v (V.fa tb) ?_
                        refine WpL.v (V.ldA tb) ?_
                        refine WpL.o (Op1.fn rfl (hJ) ?_)
                        refine WpL.v (V.fa tb) ?_
                        refine WpL.o (O.stA tb ?_)
                        apply WpL.nil
                        apply Out.seqN
                        apply Wp.region
                        refine WpL.v (V.fa tb) ?_
                        refine WpL.v (V.ld1 tb) ?_
                        refine WpL.v (V.fa tb) ?_
                        refine WpL.v (V.fa tb) ?_
                        refine WpL.v (V.ld1 tb) ?_
                        refine WpL.v (V.max) ?_
                        refine WpL.v (V.fa tb) ?_
                        refine WpL.o (O.st1 tb ?_)
                        apply WpL.nil
                        apply Out.blockN
                        apply Out.seqN
                        apply Wp.region
                        refine WpL.v (V.add) ?_
                        refine WpL.v (V.mv) ?_
                        apply WpL.nil
                        rotate_left
                        (try simp only [decide_eq_true_eq, decide_eq_false_iff_not, Bool.not_eq_true', Bool.not_eq_false', Bool.not_eq_true, Bool.not_eq_false, not_true_eq_false, not_false_eq_true, reduceCtorEq] at hcK1)
                        (exfalso; omega)
                        (try simp only [decide_eq_true_eq, decide_eq_false_iff_not, Bool.not_eq_true', Bool.not_eq_false', Bool.not_eq_true, Bool.not_eq_false, not_true_eq_false, not_false_eq_true, reduceCtorEq] at hcK0)
                        (exfalso; omega)
                        all_goals exact Out.ag hK (i + 1) (by show i + 1 ≤ _; omega) (by show xs.length - (i + 1) < xs.length - i; omega) (hs := by rw [q2]; (repeat (first | exact Sel.nil | exact Rem.here | apply Sel.cons | apply Rem.there)))
                      · rw [if_neg hs] at q2
                        apply Wp.seq
                        apply Wp.region
                        refine WpL.v (V.cmp) ?_
                        apply WpL.nil
                        apply Out.seqN
                        apply Wp.seq
                        refine Wp.c (fun hcL0 => ?_) (fun hcL0 => ?_)
                        (try simp only [decide_eq_true_eq, decide_eq_false_iff_not, Bool.not_eq_true', Bool.not_eq_false', Bool.not_eq_true, Bool.not_eq_false, not_true_eq_false, not_false_eq_true, reduceCtorEq] at hcL0)
                        apply Wp.skip
                        apply Out.seqN
                        apply Wp.seq
                        apply Wp.block
                        apply Wp.seq
                        apply Wp.region
                        refine WpL.v (V.ixR tb rfl rfl (by assumption)) ?_
                        refine WpL.v (V.ldRA tb rfl (by assumption) (getMapS (by assumption))) ?_
                        refine WpL.o (O.al tb (fun p20 => ?_))
                        refine WpL.o (O.stA tb ?_)
                        apply WpL.nil
                        apply Out.seqN
                        apply Wp.seq
                        apply Wp.region
                        refine WpL.v (V.fa tb) ?_
                        refine WpL.v (V.ld1 tb) ?_
                        refine WpL.v (V.cmp) ?_
                        apply WpL.nil
                        apply Out.seqN
                        refine Wp.c (fun hcL1 => ?_) (fun hcL1 => ?_)
                        (try simp only [decide_eq_true_eq, decide_eq_false_iff_not, Bool.not_eq_true', Bool.not_eq_false', Bool.not_eq_true, Bool.not_eq_false, not_true_eq_false, not_false_eq_true, reduceCtorEq] at hcL1)
                        (exfalso; omega)
                        (try simp only [decide_eq_true_eq, decide_eq_false_iff_not, Bool.not_eq_true', Bool.not_eq_false', Bool.not_eq_true, Bool.not_eq_false, not_true_eq_false, not_false_eq_true, reduceCtorEq] at hcL1)
                        apply Wp.skip
                        apply Out.blockN
                        apply Out.seqN
                        apply Wp.region
                        refine WpL.v (V.add) ?_
                        refine WpL.v (V.mv) ?_
                        apply WpL.nil
                        rotate_left
                        (try simp only [decide_eq_true_eq, decide_eq_false_iff_not, Bool.not_eq_true', Bool.not_eq_false', Bool.not_eq_true, Bool.not_eq_false, not_true_eq_false, not_false_eq_true, reduceCtorEq] at hcL0)
                        (exfalso; omega)
                        all_goals exact Out.ag hK (i + 1) (by show i + 1 ≤ _; omega) (by show xs.length - (i + 1) < xs.length - i; omega) (hs := by rw [q2]; (repeat (first | exact Sel.nil | exact Rem.here | apply Sel.cons | apply Rem.there)))
                    · obtain rfl : i = xs.length := by omega
                      rw [List.take_length]
                      clear hK
                      apply Wp.seq
                      apply Wp.region
                      refine WpL.v (V.cmp) ?_
                      apply WpL.nil
                      apply Out.seqN
                      apply Wp.seq
                      refine Wp.c (fun hcM0 => ?_) (fun hcM0 => ?_)
                      (try simp only [decide_eq_true_eq, decide_eq_false_iff_not, Bool.not_eq_true', Bool.not_eq_false', Bool.not_eq_true, Bool.not_eq_false, not_true_eq_false, not_false_eq_true, reduceCtorEq] at hcM0)
                      (exfalso; omega)
                      (try simp only [decide_eq_true_eq, decide_eq_false_iff_not, Bool.not_eq_true', Bool.not_eq_false', Bool.not_eq_true, Bool.not_eq_false, not_true_eq_false, not_false_eq_true, reduceCtorEq] at hcM0)
                      apply Wp.exit
                      apply Out.seqE
                      apply Out.seqE
                      apply Out.blockE
                      apply Out.seqN
                      apply Wp.seq
                      refine Wp.dG [] ?_ (List.Sublist.cons_cons _ (List.Sublist.cons _ (List.Sublist.cons _ (List.Sublist.cons _ List.Sublist.slnil)))) (List.Sublist.cons_cons _ (List.Sublist.cons _ (List.Sublist.cons _ (List.Sublist.cons _ List.Sublist.slnil))))
                      refine WpA.tF 0 rfl (V.ldA tb) ?_
                      refine WpA.tF 1 rfl (V.as) ?_
                      refine WpA.oS 2 rfl (O.stA tb ⟨?_, ?_, ?_⟩)
                      exact holdT
                      exact holdT
                      refine WpA.ou ?_
                      apply Out.seqN
                      apply Wp.ret
                      refine Out.f2 rfl ResIs.t (ResIs.ca tb) ⟨?_, rfl⟩
                      exact rfl

end Go.Proofs.Ythoepbbpmdmfeaa
