/-
  The statement LeadSays of layer 14: who says the same again says the same, to each replica once. Proved for every input.
-/
import Derived.Test.YthoepbbpmdmfeaaHead
import Derived.Test.YthoepbbpmdmfeaaLead7
namespace Go.Proofs.Ythoepbbpmdmfeaa
open Go.HL
set_option linter.unusedSimpArgs false
set_option linter.unusedVariables false
set_option maxRecDepth 8000
set_option maxHeartbeats 2000000 in
theorem leadSays_walk (e : Ent) (ao : Option Go.Addr) (cap b off : Nat) (c : Caucuslaw14Case) (xs : List Caucuslaw14Step) (hR : Rd e ao xs.length b off 26 (xs.map Caucuslaw14Step.c)) :
    Ct Try.prog 10 [A c.c, .slice ao xs.length cap] [e] (fun r σ' => r = B true ∧ σ' = [e]) := by
  have hm := hR.small
  simp only [Go.maxLen] at hm
  have hG := great14 c ao xs.length cap
  have hBg := begin14 c
  by_cases hs : (c.N = 3 ∨ c.N = 5 ∨ c.N = 7) ∧ xs.length ≤ 60
  · rw [show (!(decide (c.N = 3) || (decide (c.N = 5) || decide (c.N = 7))) || decide (60 < xs.length)) = false by simp; omega] at hG
    obtain ⟨hs1, hs2⟩ := hs
    obtain ⟨nn, hnn⟩ : ∃ k : Nat, c.N = (k : Int) := ⟨c.N.toNat, by omega⟩
    refine Ct.enter Try.func10 rfl rfl fun W => ?_
    apply Wp.seq
    apply Wp.region
    refine WpL.o (O.bxA (fun p2 => ?_))
    refine WpL.v (V.as) ?_
    apply WpL.nil
    apply Out.seqN
    apply Wp.seq
    apply Wp.seq
    apply Wp.region
    refine WpL.o (Op1.fn rfl (alive14) ?_)
    refine WpL.v (V.not) ?_
    apply WpL.nil
    apply Out.seqN
    refine Wp.cF ?_
    apply Wp.skip
    apply Out.seqN
    apply Wp.seq
    apply Wp.seq
    apply Wp.region
    refine WpL.v (V.ldA tb) ?_
    refine WpL.v (V.mv) ?_
    refine WpL.o (Op1.fn rfl (hG) ?_)
    apply WpL.nil
    apply Out.seqN
    refine Wp.cF ?_
    apply Wp.skip
    apply Out.seqN
    apply Wp.seq
    apply Wp.region
    refine WpL.v (V.ldA tb) ?_
    refine WpL.o (Op1.callT rfl (hBg) (by (repeat (first | exact Sel.nil | exact Rem.here | apply Sel.cons | apply Rem.there))) ?_)
    rintro v0 s1 ⟨q19, ⟨p19, ⟨rfl, rfl⟩⟩⟩
    refine incat ?_
    refine WpL.v (V.mv) ?_
    refine WpL.v (V.ex) ?_
    refine WpL.v (V.ex) ?_
    refine WpL.v (V.as) ?_
    refine WpL.v (V.as) ?_
    apply WpL.nil
    apply Out.seqN
    apply Wp.seq
    apply Wp.seq
    apply Wp.region
    refine WpL.v (V.mv) ?_
    refine WpL.v (V.lenL tb) ?_
    refine WpL.v (V.mv) ?_
    apply WpL.nil
    apply Out.seqN
    apply Wp.block
    refine Wp.lp [23, 22, 5, 2] (fun y : Nat × LeadS => y.1 ≤ xs.length ∧ Keeps y.2 c.N c.Self c.Item c.Ballot) (fun y => [(24, I (y.1 : Int))]) (fun y => [cells q19 142 y.2.c]) (fun y => xs.length - y.1) (0, newC c) ⟨Nat.zero_le _, newC_keeps c⟩ ?_
    rintro ⟨i, z0⟩ ⟨hi, hz0⟩ K hK
    dsimp only at hi hz0
    dsimp only [List.cons_append, List.nil_append]
    by_cases hlt : i < xs.length
    · obtain ⟨s, hs⟩ := getS hlt
      have hz0n := hz0.n
      have hH := lead_hear q19 z0 hz0.wf s.Msg (by omega)
      have hz := hear_keeps hz0 s.Msg
      generalize (z0.hear s.Msg).1 = z at *
      generalize (z0.hear s.Msg).2 = moved at *
      have hzn := hz.n
      have hzs := hz.self
      have hS := lead_say_rd q19 z (by omega)
      have hP := lead_phase q19 z
      have hC := lead_call q19 z
      by_cases hp : z.phase = 4
      · rw [say_lost hp] at hS
        rw [hp] at hP
        dsimp only [List.length_nil] at hS
        apply Wp.seq
        apply Wp.region
        refine WpL.v (V.cmp) ?_
        apply WpL.nil
        apply Out.seqN
        apply Wp.seq
        refine Wp.c (fun hb0 => ?_) (fun hb0 => ?_)
        (try simp only [decide_eq_true_eq, decide_eq_false_iff_not, Bool.not_eq_true', Bool.not_eq_false', Bool.not_eq_true, Bool.not_eq_false, not_true_eq_false, not_false_eq_true, reduceCtorEq] at hb0)
        apply Wp.skip
        apply Out.seqN
        apply Wp.seq
        apply Wp.block
        apply Wp.seq
        apply Wp.region
        refine WpL.v (V.ixR tb rfl rfl (by assumption)) ?_
        refine WpL.v (V.ldRA tb rfl (by assumption) (getMapS (by assumption))) ?_
        refine WpL.o (O.al tb (fun p8 => ?_))
        refine WpL.o (O.stA tb ?_)
        apply WpL.nil
        apply Out.seqN
        apply Wp.seq
        apply Wp.region
        refine WpL.v (V.mv) ?_
        refine WpL.v (V.fa tb) ?_
        refine WpL.v (V.ldA tb) ?_
        refine WpL.o (Op1.callT rfl (hH) (by (repeat (first | exact Sel.nil | exact Rem.here | apply Sel.cons | apply Rem.there))) ?_)
        rintro v1 s2 ⟨rfl, rfl⟩
        refine incat ?_
        apply WpL.nil
        apply Out.seqN
        apply Wp.seq
        apply Wp.region
        refine WpL.v (V.mv) ?_
        refine WpL.o (Op1.callT rfl (hS) (by (repeat (first | exact Sel.nil | exact Rem.here | apply Sel.cons | apply Rem.there))) ?_)
        rintro v4 s5 ⟨ap33, ⟨cp33, ⟨g33, ⟨hx3, ⟨rfl, rfl⟩⟩⟩⟩⟩
        refine incat ?_
        refine WpL.v (V.mv) ?_
        refine WpL.o (Op1.callT rfl (hS) (by (repeat (first | exact Sel.nil | exact Rem.here | apply Sel.cons | apply Rem.there))) ?_)
        rintro v7 s8 ⟨ap35, ⟨cp35, ⟨g35, ⟨hx6, ⟨rfl, rfl⟩⟩⟩⟩⟩
        refine incat ?_
        refine WpL.v (V.as) ?_
        refine WpL.v (V.as) ?_
        apply WpL.nil
        apply Out.seqN
        apply Wp.seq
        apply Wp.seq
        apply Wp.region
        refine WpL.v (V.mv) ?_
        refine WpL.v (V.lenL tb) ?_
        refine WpL.v (V.mv) ?_
        refine WpL.v (V.lenL tb) ?_
        refine WpL.v (V.cmp) ?_
        refine WpL.v (V.mv) ?_
        refine WpL.v (V.mv) ?_
        refine WpL.v (V.lenL tb) ?_
        refine WpL.v (V.cmp) ?_
        refine WpL.v (V.mv) ?_
        refine WpL.sk ?_
        refine WpL.sk ?_
        refine WpL.sk ?_
        refine WpL.sk ?_
        refine WpL.sk ?_
        refine WpL.v (V.pF) ?_
        refine WpL.v (V.pF) ?_
        refine WpL.v (V.mv) ?_
        refine WpL.v (V.mv) ?_
        refine WpL.v (V.lenL tb) ?_
        refine WpL.v (V.cmp) ?_
        refine WpL.v (V.mv) ?_
        refine WpL.o (Op1.callT rfl (hP) (by (repeat (first | exact Sel.nil | exact Rem.here | apply Sel.cons | apply Rem.there))) ?_)
        rintro v9 s10 ⟨rfl, rfl⟩
        refine incat ?_
        refine WpL.v (V.cmp) ?_
        refine WpL.v (V.neB tb) ?_
        refine WpL.v (V.pF) ?_
        apply WpL.nil
        apply Out.seqN
        refine Wp.cF ?_
        apply Wp.skip
        apply Out.seqN
        apply Wp.seq
        apply Wp.region
        refine WpL.v (V.mv) ?_
        refine WpL.v (V.lenL tb) ?_
        refine WpL.v (V.mv) ?_
        apply WpL.nil
        apply Out.seqN
        apply Wp.block
        rotate_left
        (try simp only [decide_eq_true_eq, decide_eq_false_iff_not, Bool.not_eq_true', Bool.not_eq_false', Bool.not_eq_true, Bool.not_eq_false, not_true_eq_false, not_false_eq_true, reduceCtorEq] at hb0)
        (exfalso; omega)
        refine Wp.lp [63, 10, 9, 24, 23, 22, 5, 2] (fun k : Nat => k = 0) (fun k => [(64, I (k : Int))]) (fun _ => []) (fun _ => 0) 0 rfl ?_
        rintro k rfl K2 hK2
        dsimp only [List.cons_append, List.nil_append]
        apply Wp.seq
        apply Wp.region
        refine WpL.v (V.cmp) ?_
        apply WpL.nil
        apply Out.seqN
        apply Wp.seq
        refine Wp.cF ?_
        apply Wp.exit
        apply Out.seqE
        apply Out.seqE
        apply Out.blockE
        apply Out.blockN
        apply Out.seqN
        apply Wp.region
        refine WpL.v (V.add) ?_
        refine WpL.v (V.mv) ?_
        apply WpL.nil
        exact Out.ag hK (i + 1, z) ⟨by show i + 1 ≤ _; omega, hz⟩ (by show xs.length - (i + 1) < xs.length - i; omega)
      · have hsl : z.say = z.says nn := by
          rw [say_at (by have := hz.phase; omega), hzn, hnn]; rfl
        have hll := z.says_len nn
        rw [hsl] at hS
        have hk0 : (decide (((z.says nn).length : Int) = 0) == decide (z.phase = 4)) = true := by rw [decide_eq_false (by omega), decide_eq_false hp]; rfl
        apply Wp.seq
        apply Wp.region
        refine WpL.v (V.cmp) ?_
        apply WpL.nil
        apply Out.seqN
        apply Wp.seq
        refine Wp.c (fun hd0 => ?_) (fun hd0 => ?_)
        (try simp only [decide_eq_true_eq, decide_eq_false_iff_not, Bool.not_eq_true', Bool.not_eq_false', Bool.not_eq_true, Bool.not_eq_false, not_true_eq_false, not_false_eq_true, reduceCtorEq] at hd0)
        apply Wp.skip
        apply Out.seqN
        apply Wp.seq
        apply Wp.block
        apply Wp.seq
        apply Wp.region
        refine WpL.v (V.ixR tb rfl rfl (by assumption)) ?_
        refine WpL.v (V.ldRA tb rfl (by assumption) (getMapS (by assumption))) ?_
        refine WpL.o (O.al tb (fun p8 => ?_))
        refine WpL.o (O.stA tb ?_)
        apply WpL.nil
        apply Out.seqN
        apply Wp.seq
        apply Wp.region
        refine WpL.v (V.mv) ?_
        refine WpL.v (V.fa tb) ?_
        refine WpL.v (V.ldA tb) ?_
        refine WpL.o (Op1.callT rfl (hH) (by (repeat (first | exact Sel.nil | exact Rem.here | apply Sel.cons | apply Rem.there))) ?_)
        rintro v1 s2 ⟨rfl, rfl⟩
        refine incat ?_
        apply WpL.nil
        apply Out.seqN
        apply Wp.seq
        apply Wp.region
        refine WpL.v (V.mv) ?_
        refine WpL.o (Op1.callT rfl (hS) (by (repeat (first | exact Sel.nil | exact Rem.here | apply Sel.cons | apply Rem.there))) ?_)
        rintro v4 s5 ⟨ap33, ⟨cp33, ⟨g33, ⟨hx3, ⟨rfl, rfl⟩⟩⟩⟩⟩
        refine incat ?_
        refine WpL.v (V.mv) ?_
        refine WpL.o (Op1.callT rfl (hS) (by (repeat (first | exact Sel.nil | exact Rem.here | apply Sel.cons | apply Rem.there))) ?_)
        rintro v7 s8 ⟨ap35, ⟨cp35, ⟨g35, ⟨hx6, ⟨rfl, rfl⟩⟩⟩⟩⟩
        refine incat ?_
        refine WpL.v (V.as) ?_
        refine WpL.v (V.as) ?_
        apply WpL.nil
        apply Out.seqN
        apply Wp.seq
        apply Wp.seq
        apply Wp.region
        refine WpL.v (V.mv) ?_
        refine WpL.v (V.lenL tb) ?_
        refine WpL.v (V.mv) ?_
        refine WpL.v (V.lenL tb) ?_
        refine WpL.v (V.cmp) ?_
        refine WpL.v (V.mv) ?_
        refine WpL.pt (fun hd9 => ?_) (fun hd9 => ?_)
        (try simp only [decide_eq_true_eq, decide_eq_false_iff_not, Bool.not_eq_true', Bool.not_eq_false', Bool.not_eq_true, Bool.not_eq_false, not_true_eq_false, not_false_eq_true, reduceCtorEq] at hd9)
        (try simp only [decide_eq_true_eq, decide_eq_false_iff_not, Bool.not_eq_true', Bool.not_eq_false', Bool.not_eq_true, Bool.not_eq_false, not_true_eq_false, not_false_eq_true, reduceCtorEq] at hd9)
        refine WpL.v (V.mv) ?_
        refine WpL.v (V.lenL tb) ?_
        refine WpL.v (V.cmp) ?_
        refine WpL.v (V.mv) ?_
        refine WpL.pt (fun hd10 => ?_) (fun hd10 => ?_)
        (try simp only [decide_eq_true_eq, decide_eq_false_iff_not, Bool.not_eq_true', Bool.not_eq_false', Bool.not_eq_true, Bool.not_eq_false, not_true_eq_false, not_false_eq_true, reduceCtorEq] at hd10)
        refine WpL.v (V.mv) ?_
        refine WpL.v (V.lenL tb) ?_
        refine WpL.v (V.fa tb) ?_
        refine WpL.v (V.ld1 tb) ?_
        refine WpL.v (V.cmp) ?_
        refine WpL.v (V.pT) ?_
        refine WpL.v (V.pF) ?_
        refine WpL.v (V.mv) ?_
        refine WpL.pt (fun hd11 => ?_) (fun hd11 => ?_)
        (try simp only [decide_eq_true_eq, decide_eq_false_iff_not, Bool.not_eq_true', Bool.not_eq_false', Bool.not_eq_true, Bool.not_eq_false, not_true_eq_false, not_false_eq_true, reduceCtorEq] at hd11)
        (exfalso; omega)
        (try simp only [decide_eq_true_eq, decide_eq_false_iff_not, Bool.not_eq_true', Bool.not_eq_false', Bool.not_eq_true, Bool.not_eq_false, not_true_eq_false, not_false_eq_true, reduceCtorEq] at hd11)
        refine WpL.v (V.mv) ?_
        refine WpL.v (V.lenL tb) ?_
        refine WpL.v (V.cmp) ?_
        refine WpL.v (V.mv) ?_
        refine WpL.o (Op1.callT rfl (hP) (by (repeat (first | exact Sel.nil | exact Rem.here | apply Sel.cons | apply Rem.there))) ?_)
        rintro v12 s13 ⟨rfl, rfl⟩
        refine incat ?_
        refine WpL.v (V.cmp) ?_
        refine WpL.v (V.neB tb) ?_
        refine WpL.v (V.pF) ?_
        apply WpL.nil
        apply Out.seqN
        refine Wp.c (fun hd14 => ?_) (fun hd14 => ?_)
        (try simp only [decide_eq_true_eq, decide_eq_false_iff_not, Bool.not_eq_true', Bool.not_eq_false', Bool.not_eq_true, Bool.not_eq_false, not_true_eq_false, not_false_eq_true, reduceCtorEq] at hd14)
        exact absurd (Eq.trans (Eq.symm hd14) (by assumption) : false = true) (by decide)
        (try simp only [decide_eq_true_eq, decide_eq_false_iff_not, Bool.not_eq_true', Bool.not_eq_false', Bool.not_eq_true, Bool.not_eq_false, not_true_eq_false, not_false_eq_true, reduceCtorEq] at hd14)
        apply Wp.skip
        apply Out.seqN
        apply Wp.seq
        apply Wp.region
        refine WpL.v (V.mv) ?_
        refine WpL.v (V.lenL tb) ?_
        refine WpL.v (V.mv) ?_
        apply WpL.nil
        apply Out.seqN
        apply Wp.block
        rotate_left
        (try simp only [decide_eq_true_eq, decide_eq_false_iff_not, Bool.not_eq_true', Bool.not_eq_false', Bool.not_eq_true, Bool.not_eq_false, not_true_eq_false, not_false_eq_true, reduceCtorEq] at hd10)
        (exfalso; omega)
        (try simp only [decide_eq_true_eq, decide_eq_false_iff_not, Bool.not_eq_true', Bool.not_eq_false', Bool.not_eq_true, Bool.not_eq_false, not_true_eq_false, not_false_eq_true, reduceCtorEq] at hd0)
        (exfalso; omega)
        refine Wp.lp [63, 10, 9, 24, 23, 22, 5, 2] (fun k : Nat => k ≤ nn) (fun k => [(64, I (k : Int))]) (fun _ => []) (fun k => nn - k) 0 (Nat.zero_le _) ?_
        intro k hk K2 hK2
        dsimp only [List.cons_append, List.nil_append]
        by_cases hkn : k < nn
        · have hgk := says_get (x := z) hkn
          apply Wp.seq
          apply Wp.region
          refine WpL.v (V.cmp) ?_
          apply WpL.nil
          apply Out.seqN
          apply Wp.seq
          refine Wp.c (fun hd10 => ?_) (fun hd10 => ?_)
          (try simp only [decide_eq_true_eq, decide_eq_false_iff_not, Bool.not_eq_true', Bool.not_eq_false', Bool.not_eq_true, Bool.not_eq_false, not_true_eq_false, not_false_eq_true, reduceCtorEq] at hd10)
          apply Wp.skip
          apply Out.seqN
          apply Wp.seq
          apply Wp.block
          apply Wp.seq
          apply Wp.region
          refine WpL.v (V.mv) ?_
          refine WpL.v (V.as) ?_
          apply WpL.nil
          apply Out.seqN
          apply Wp.seq
          refine Wp.dG [] ?_ (List.Sublist.cons _ (List.Sublist.cons_cons _ (List.Sublist.cons_cons _ (List.Sublist.cons _ (List.Sublist.cons _ (List.Sublist.cons_cons _ (List.Sublist.cons_cons _ List.Sublist.slnil))))))) (List.Sublist.cons _ (List.Sublist.cons_cons _ (List.Sublist.cons_cons _ (List.Sublist.cons _ (List.Sublist.cons _ (List.Sublist.cons_cons _ (List.Sublist.cons_cons _ List.Sublist.slnil)))))))
          refine WpA.tF 0 rfl (V.mv) ?_
          refine WpA.tF 1 rfl (V.mv) ?_
          refine WpA.tF 2 rfl (V.ixR tb rfl rfl (by assumption)) ?_
          refine WpA.tF 3 rfl (V.ldRA tb rfl hx3 (getMapS hgk)) ?_
          refine WpA.tF 4 rfl (V.mv) ?_
          refine WpA.tF 5 rfl (V.mv) ?_
          refine WpA.tF 6 rfl (V.ixR tb rfl rfl (by assumption)) ?_
          refine WpA.tF 7 rfl (V.ldRA tb rfl hx6 (getMapS hgk)) ?_
          refine WpA.tF 8 rfl (V.ne (TMsg.eqT _ _ _)) ?_
          refine WpA.tF 9 rfl (V.mv) ?_
          refine WpA.pt 76 (fun hd11 => ?_) (fun hd11 => ?_)
          (try simp only [decide_eq_true_eq, decide_eq_false_iff_not, Bool.not_eq_true', Bool.not_eq_false', Bool.not_eq_true, Bool.not_eq_false, not_true_eq_false, not_false_eq_true, reduceCtorEq] at hd11)
          (try simp only [decide_eq_true_eq, decide_eq_false_iff_not, Bool.not_eq_true', Bool.not_eq_false', Bool.not_eq_true, Bool.not_eq_false, not_true_eq_false, not_false_eq_true, reduceCtorEq] at hd11)
          refine WpA.tF 10 rfl (V.mv) ?_
          refine WpA.tF 11 rfl (V.mv) ?_
          refine WpA.tF 12 rfl (V.ixR tb rfl rfl (by assumption)) ?_
          refine WpA.tF 13 rfl (V.fa tb) ?_
          refine WpA.tF 14 rfl (V.rdF1 tb (o := 2) (v := I (k : Int)) rfl hx3 (getMapS hgk)) ?_
          refine WpA.tF 15 rfl (V.mv) ?_
          refine WpA.tF 16 rfl (V.cmp) ?_
          refine WpA.tF 17 rfl (V.pF) ?_
          refine WpA.tF 18 rfl (V.mv) ?_
          refine WpA.pt 85 (fun hd12 => ?_) (fun hd12 => ?_)
          (try simp only [decide_eq_true_eq, decide_eq_false_iff_not, Bool.not_eq_true', Bool.not_eq_false', Bool.not_eq_true, Bool.not_eq_false, not_true_eq_false, not_false_eq_true, reduceCtorEq] at hd12)
          (try simp only [decide_eq_true_eq, decide_eq_false_iff_not, Bool.not_eq_true', Bool.not_eq_false', Bool.not_eq_true, Bool.not_eq_false, not_true_eq_false, not_false_eq_true, reduceCtorEq] at hd12)
          refine WpA.tF 19 rfl (V.mv) ?_
          refine WpA.tF 20 rfl (V.mv) ?_
          refine WpA.tF 21 rfl (V.ixR tb rfl rfl (by assumption)) ?_
          refine WpA.tF 22 rfl (V.fa tb) ?_
          refine WpA.tF 23 rfl (V.rdF1 tb (o := 1) (v := I z.self) rfl hx3 (getMapS hgk)) ?_
          refine WpA.tF 24 rfl (V.fa tb) ?_
          refine WpA.tF 25 rfl (V.ld1 tb) ?_
          refine WpA.tF 26 rfl (V.cmp) ?_
          refine WpA.tF 27 rfl (V.pF) ?_
          refine WpA.tF 28 rfl (V.mv) ?_
          refine WpA.pt 95 (fun hd13 => ?_) (fun hd13 => ?_)
          (try simp only [decide_eq_true_eq, decide_eq_false_iff_not, Bool.not_eq_true', Bool.not_eq_false', Bool.not_eq_true, Bool.not_eq_false, not_true_eq_false, not_false_eq_true, reduceCtorEq] at hd13)
          (exfalso; omega)
          (try simp only [decide_eq_true_eq, decide_eq_false_iff_not, Bool.not_eq_true', Bool.not_eq_false', Bool.not_eq_true, Bool.not_eq_false, not_true_eq_false, not_false_eq_true, reduceCtorEq] at hd13)
          refine WpA.tF 29 rfl (V.mv) ?_
          refine WpA.tF 30 rfl (V.mv) ?_
          refine WpA.tF 31 rfl (V.ixR tb rfl rfl (by assumption)) ?_
          refine WpA.tF 32 rfl (V.fa tb) ?_
          refine WpA.tF 33 rfl (V.rdFA tb (o := 11) (c := z.call.c) rfl hx3 (getMapS hgk)) ?_
          refine WpA.tF 34 rfl (V.mv) ?_
          refine WpA.oS 35 rfl (Op1.callT rfl (hC) (by (repeat (first | exact Sel.nil | exact Rem.here | apply Sel.cons | apply Rem.there))) ?_)
          rintro v4 s5 ⟨rfl, rfl⟩
          refine incat ⟨?_, ?_, ?_⟩
          exact holdT
          exact holdT
          refine WpA.tF 36 rfl (V.ne (TCall.eqT _ _ _)) ?_
          refine WpA.tF 37 rfl (V.pF) ?_
          refine WpA.ou ?_
          apply Out.seqN
          refine Wp.c (fun hd16 => ?_) (fun hd16 => ?_)
          (try simp only [decide_eq_true_eq, decide_eq_false_iff_not, Bool.not_eq_true', Bool.not_eq_false', Bool.not_eq_true, Bool.not_eq_false, not_true_eq_false, not_false_eq_true, reduceCtorEq] at hd16)
          (try simp only [decide_eq_true_eq, decide_eq_false_iff_not, Bool.not_eq_true', Bool.not_eq_false', Bool.not_eq_true, Bool.not_eq_false, not_true_eq_false, not_false_eq_true, reduceCtorEq] at hd16)
          apply Wp.skip
          apply Out.blockN
          apply Out.seqN
          apply Wp.region
          refine WpL.v (V.add) ?_
          refine WpL.v (V.mv) ?_
          apply WpL.nil
          rotate_left
          (try simp only [decide_eq_true_eq, decide_eq_false_iff_not, Bool.not_eq_true', Bool.not_eq_false', Bool.not_eq_true, Bool.not_eq_false, not_true_eq_false, not_false_eq_true, reduceCtorEq] at hd10)
          (exfalso; omega)
          exact Out.ag hK2 (k + 1) (by omega) (by show nn - (k + 1) < nn - k; omega)
        · obtain rfl : k = nn := by omega
          apply Wp.seq
          apply Wp.region
          refine WpL.v (V.cmp) ?_
          apply WpL.nil
          apply Out.seqN
          apply Wp.seq
          refine Wp.c (fun hd20 => ?_) (fun hd20 => ?_)
          (try simp only [decide_eq_true_eq, decide_eq_false_iff_not, Bool.not_eq_true', Bool.not_eq_false', Bool.not_eq_true, Bool.not_eq_false, not_true_eq_false, not_false_eq_true, reduceCtorEq] at hd20)
          (exfalso; omega)
          (try simp only [decide_eq_true_eq, decide_eq_false_iff_not, Bool.not_eq_true', Bool.not_eq_false', Bool.not_eq_true, Bool.not_eq_false, not_true_eq_false, not_false_eq_true, reduceCtorEq] at hd20)
          apply Wp.exit
          apply Out.seqE
          apply Out.seqE
          apply Out.blockE
          apply Out.blockN
          apply Out.seqN
          apply Wp.region
          refine WpL.v (V.add) ?_
          refine WpL.v (V.mv) ?_
          apply WpL.nil
          exact Out.ag hK (i + 1, z) ⟨by show i + 1 ≤ _; omega, hz⟩ (by show xs.length - (i + 1) < xs.length - i; omega)
    · obtain rfl : i = xs.length := by omega
      apply Wp.seq
      apply Wp.region
      refine WpL.v (V.cmp) ?_
      apply WpL.nil
      apply Out.seqN
      apply Wp.seq
      refine Wp.c (fun hf0 => ?_) (fun hf0 => ?_)
      (try simp only [decide_eq_true_eq, decide_eq_false_iff_not, Bool.not_eq_true', Bool.not_eq_false', Bool.not_eq_true, Bool.not_eq_false, not_true_eq_false, not_false_eq_true, reduceCtorEq] at hf0)
      (exfalso; omega)
      (try simp only [decide_eq_true_eq, decide_eq_false_iff_not, Bool.not_eq_true', Bool.not_eq_false', Bool.not_eq_true, Bool.not_eq_false, not_true_eq_false, not_false_eq_true, reduceCtorEq] at hf0)
      apply Wp.exit
      apply Out.seqE
      apply Out.seqE
      apply Out.blockE
      apply Out.seqN
      apply Wp.seq
      apply Wp.region
      refine WpL.v (V.as) ?_
      apply WpL.nil
      apply Out.seqN
      apply Wp.ret
      refine Out.f1 rfl ResIs.t ⟨?_, rfl⟩
      exact rfl
  · rw [show (!(decide (c.N = 3) || (decide (c.N = 5) || decide (c.N = 7))) || decide (60 < xs.length)) = true by simp; omega] at hG
    refine Ct.enter Try.func10 rfl rfl fun W => ?_
    apply Wp.seq
    apply Wp.region
    refine WpL.o (O.bxA (fun p2 => ?_))
    refine WpL.v (V.as) ?_
    apply WpL.nil
    apply Out.seqN
    apply Wp.seq
    apply Wp.seq
    apply Wp.region
    refine WpL.o (Op1.fn rfl (alive14) ?_)
    refine WpL.v (V.not) ?_
    apply WpL.nil
    apply Out.seqN
    refine Wp.cF ?_
    apply Wp.skip
    apply Out.seqN
    apply Wp.seq
    apply Wp.seq
    apply Wp.region
    refine WpL.v (V.ldA tb) ?_
    refine WpL.v (V.mv) ?_
    refine WpL.o (Op1.fn rfl (hG) ?_)
    apply WpL.nil
    apply Out.seqN
    refine Wp.cT ?_
    apply Wp.seq
    apply Wp.region
    refine WpL.v (V.as) ?_
    apply WpL.nil
    apply Out.seqN
    apply Wp.ret
    apply Out.seqR
    refine Out.f1 rfl ResIs.t ⟨?_, rfl⟩
    exact rfl
open Go Go.ChangeShapes Go.WideShapes Go.ChangeAt Go.RowKit
theorem leadSays_read : (Try.f10.params.toList.all fun t => Try.prog.readableRec t && decide (t < Try.prog.types.size)) = true := by kernel_rfl
theorem leadSays_lifted (os : Go.Os) (started : os.Started) (H : Type) (enc : Go.TypeId × Go.Value → H) :
    ReturnsInHanded {} Try.checked os 10 .any (Rows.leadSaysSpec.pre6 enc Try.prog Try.f10 Rows.leadSaysRow.domain false) (Rows.leadSaysSpec.post enc Try.prog Try.f10 false true false false) := by
  refine returnsInHanded_of_change_sized (C := Try.checked) own started (by kernel_rfl) Try.func10
    (ChangeSpec.witness6 (enc := enc) (C := Try.checked) false ⟨#[], #[A Caucuslaw14Case.z.c, .slice none 0 0], []⟩ 8 (by kernel_rfl) (by kernel_rfl) (by kernel_rfl) (by kernel_rfl)) ?_
  intro W base args ds gs before hval0 hW hcnd hsz0 _
  have hsz : (DataW.weightsEach Try.prog (Try.f10.params.toList ++ Rows.leadSaysSpec.plain.varTypes Try.prog) (ds ++ gs)).all (· ≤ reachBytes) = true := hsz0
  have hval : ∀ (j : Nat) t v, Try.f10.params[j]? = some t → args[j]? = some v → Value.okWide Try.prog W .any base t v := hval0
  have hW' := hW
  obtain ⟨p, q, hA0, hV, rfl, hfz, hnd⟩ := hW
  have hA1 : DataW.TrodAll enc Try.prog W 0 (fun _ => true) true Try.f10.params.toList args.toList ds p := hA0
  have hA := hA1
  rw [Try.params10] at hA hval hsz
  obtain ⟨v0, vs0, d0, ds0, p0, q0, hargs, rfl, rfl, h0, r0⟩ := trodAll_cons hA
  obtain ⟨v1, vs1, d1, ds1, p1, q1, rfl, rfl, rfl, h1, r1⟩ := trodAll_cons r0
  obtain ⟨rfl, rfl, rfl⟩ := trodAll_nil r1
  obtain rfl : args = #[v0, v1] := by cases args; simp_all
  obtain ⟨rfl, rfl⟩ := trodVars_none hV
  obtain ⟨c0, rfl, f0⟩ := open_plain Caucuslaw14Case.leaves ⟨_, Try.underlying69⟩ (hval 0 69 v0 rfl rfl) h0 (sizedAll hsz 0 rfl rfl)
  obtain ⟨x0, rfl, w0⟩ := Caucuslaw14Case.fit f0
  obtain ⟨ao1, b1, off1, len1, cap1, xs1, rfl, hl1, hlc1, hcm1, ha1, hs1, hf1, hby1⟩ := open_slice_plain Try.underlying82 Caucuslaw14Step.leaves (by kernel_rfl) (by decide) (hval 1 82 v1 rfl rfl) h1 (sizedAll hsz 1 rfl rfl)
  obtain ⟨x1, rfl, w1⟩ := fits_map Caucuslaw14Step.c Caucuslaw14Step.wf hf1 Caucuslaw14Step.fit
  obtain rfl : len1 = x1.length := by simpa using hl1.symm
  simp only [List.append_nil] at hW' hA1
  have hbl : ∀ p : Nat × Nat, p ∈ [(x1.length, b1)] → 0 < p.1 → p.2 < W.heap.size := by
    intro p hp h0
    simp only [List.mem_cons, List.mem_nil_iff, or_false] at hp
    rcases hp with rfl
    · exact (ha1 h0).2
  have hR1 : Rd (snap W (blocksOf [(x1.length, b1)])) ao1 x1.length b1 off1 26 (x1.map Caucuslaw14Step.c) := Rd.snap (by simp) (Nat.le_trans hlc1 hcm1) ha1 hs1 (fun h => blocksOf_mem (len := x1.length) (by simp) h)
  refine (Ct.runSnap (blocksOf_nodup _) (blocksOf_lt hbl) (leadSays_walk _ _ _ _ _ x0 x1 hR1)).mono fun e W' hh => ?_
  obtain ⟨rfl, hS⟩ := hh
  exact ⟨_, rfl, post_law (P := Try.prog) (f := Try.f10) (tbool := 4) hW' hA1 rfl rfl hS laid leadSays_read rfl Try.underlying4⟩
theorem leadSays_joined : joinedFacts Try.prog 10 Try.f10 Rows.leadSaysSpec Rows.leadSaysRow = true := by
  unfold joinedFacts
  rewrite [head_enter, head_lift, head_make]
  kernel_rfl
theorem leadSays_over : Rows.leadSaysRow.holds Try.pinned (OpenSpec.ofChange Rows.leadSaysSpec) :=
  OpenClaim.holds_of_wide 10 Try.f10 rfl rfl rfl rfl rfl rfl rfl ⟨rfl, rfl, rfl, rfl, rfl⟩ rfl rfl rfl rfl rfl (by kernel_rfl) Try.func10 leadSays_joined
    (of_decide_eq_true (by kernel_rfl)) (by unfold Func.isWrapper; first | (rw [if_pos (by decide +kernel)]; kernel_rfl) | (rw [if_neg (by decide +kernel)]; exact ⟨rfl, rfl⟩))
    (fun os started H enc _ => leadSays_lifted os started H enc)
/-- THE STATEMENT. -/
theorem leadSays_proved : Rows.LeadSaysSaid := leadSays_over
#print axioms leadSays_proved

end Go.Proofs.Ythoepbbpmdmfeaa
