/-
  The statement WheelUntil of layer 10: Until goes over all that is due, in order, also over what is set between; it may be left. Proved for every input.
-/
import Derived.Test.YthoepbbpmdmfeaaHead
import Derived.Test.YthoepbbpmdmfeaaWheelM
namespace Go.Proofs.Ythoepbbpmdmfeaa
open Go.HL
set_option linter.unusedSimpArgs false
set_option linter.unusedVariables false
set_option maxRecDepth 8000
structure US0 where
  k : Nat
  t : Int
  v : Go.Value
  l : List Sp
  vk : Go.Value
  vd : Go.Value
  ks : List Int
  ds : List Int
structure UR where
  n : Nat
  w : WB
  vk : Go.Value
  vd : Go.Value
  ks : List Int
  ds : List Int
set_option maxHeartbeats 4000000 in
theorem wheelUntil_walk (e : Ent) (ao : Option Go.Addr) (cap b off : Nat) (now stop : Int) (xs : List Caucuslaw10Call) (ao2 : Option Go.Addr) (cap2 b2 off2 : Nat) (ys : List Caucuslaw10Call) (hR : Rd e ao xs.length b off 3 (xs.map Caucuslaw10Call.c)) (hR2 : Rd e ao2 ys.length b2 off2 3 (ys.map Caucuslaw10Call.c)) :
    Ct Try.prog 14 [.slice ao xs.length cap, I now, .slice ao2 ys.length cap2, I stop] [e] (fun r σ' => r = B true ∧ σ' = [e]) := by
  have hm := hR.small
  have hm2 := hR2.small
  simp only [Go.maxLen] at hm hm2
  have hN := wheel_new
  unfold whE at hN
  by_cases hs : xs.length ≤ 100 ∧ ys.length ≤ 20
  · obtain ⟨hs, hs2⟩ := hs
    refine Ct.enter Try.func14 rfl rfl fun W => ?_
    refine Wp.nilRows i64c 3 1 ?_
    refine Wp.nilRows i64c 3 1 ?_
    apply Wp.seq
    apply Wp.region
    refine WpL.o (O.bx1 (fun p5 => ?_))
    refine WpL.o (O.bx1 (fun p6 => ?_))
    refine WpL.o (O.bx1 (fun p7 => ?_))
    refine WpL.o (O.al tb (fun p8 => ?_))
    apply WpL.nil
    apply Out.seqN
    apply Wp.seq
    apply Wp.seq
    apply Wp.region
    refine WpL.o (Op1.fn rfl (alive10) ?_)
    refine WpL.v (V.not) ?_
    apply WpL.nil
    apply Out.seqN
    refine Wp.cF ?_
    apply Wp.skip
    apply Out.seqN
    apply Wp.seq
    apply Wp.seq
    apply Wp.region
    refine WpL.v (V.mv) ?_
    refine WpL.v (V.lenL tb) ?_
    refine WpL.v (V.cmp) ?_
    refine WpL.v (V.mv) ?_
    refine WpL.pt (fun ha0 => ?_) (fun ha0 => ?_)
    (try simp only [decide_eq_true_eq, decide_eq_false_iff_not, Bool.not_eq_true', Bool.not_eq_false', Bool.not_eq_true, Bool.not_eq_false, not_true_eq_false, not_false_eq_true, reduceCtorEq] at ha0)
    (exfalso; omega)
    (try simp only [decide_eq_true_eq, decide_eq_false_iff_not, Bool.not_eq_true', Bool.not_eq_false', Bool.not_eq_true, Bool.not_eq_false, not_true_eq_false, not_false_eq_true, reduceCtorEq] at ha0)
    refine WpL.v (V.ld1 tb) ?_
    refine WpL.v (V.lenL tb) ?_
    refine WpL.v (V.cmp) ?_
    refine WpL.v (V.pF) ?_
    apply WpL.nil
    apply Out.seqN
    refine Wp.c (fun ha1 => ?_) (fun ha1 => ?_)
    (try simp only [decide_eq_true_eq, decide_eq_false_iff_not, Bool.not_eq_true', Bool.not_eq_false', Bool.not_eq_true, Bool.not_eq_false, not_true_eq_false, not_false_eq_true, reduceCtorEq] at ha1)
    (exfalso; omega)
    (try simp only [decide_eq_true_eq, decide_eq_false_iff_not, Bool.not_eq_true', Bool.not_eq_false', Bool.not_eq_true, Bool.not_eq_false, not_true_eq_false, not_false_eq_true, reduceCtorEq] at ha1)
    apply Wp.skip
    apply Out.seqN
    apply Wp.seq
    apply Wp.region
    refine WpL.o (Op1.callT rfl (hN) (by (repeat (first | exact Sel.nil | exact Rem.here | apply Sel.cons | apply Rem.there))) ?_)
    rintro v2 s3 ⟨p29, ⟨rfl, rfl⟩⟩
    refine incat ?_
    refine WpL.v (V.bld tb) ?_
    refine WpL.o (O.bxA (fun p31 => ?_))
    refine WpL.o (O.al tb (fun p9 => ?_))
    refine WpL.o (O.al tb (fun p10 => ?_))
    refine WpL.o (O.st1 tb ?_)
    refine WpL.o (O.st1 tb ?_)
    apply WpL.nil
    apply Out.seqN
    apply Wp.seq
    apply Wp.seq
    apply Wp.region
    refine WpL.v (V.mv) ?_
    refine WpL.v (V.lenL tb) ?_
    refine WpL.v (V.mv) ?_
    apply WpL.nil
    apply Out.seqN
    apply Wp.block
    refine Wp.lp [33, 32, 10, 9, 8, 7, 6, 5] (fun y : US0 => y.k ≤ xs.length ∧ WI y.t y.l y.ks y.ds ∧ y.l.length ≤ y.k ∧ y.t = y.k) (fun y => [(34, I (y.k : Int))]) (fun y => [cells p29 146 (WheelWheelOfInt.c ⟨y.v, y.t⟩), rows WheelSpokeOfInt.c y.v 148 3 y.l, cells p31 97 (Caucusref10Wheel.c ⟨y.vk, y.vd⟩), rows i64c y.vk 3 1 y.ks, rows i64c y.vd 3 1 y.ds]) (fun y => xs.length - y.k) ⟨0, 0, .slice none 0 0, [], .slice none 0 0, .slice none 0 0, [], []⟩ ⟨Nat.zero_le _, WI.zero, Nat.le_refl _, rfl⟩ ?_
    rintro ⟨k, t, v, l, vk, vd, ks, ds⟩ ⟨hk, hw1, hlk, htk⟩ K hK
    dsimp only at hk hw1 hlk htk
    dsimp only [List.cons_append, List.nil_append]
    have hlens := hw1.lens
    by_cases hlt : k < xs.length
    · obtain ⟨s, hsx⟩ := getS hlt
      have hS := wheel_set p29 v t l s.Key s.N (hw1.toW1.del s.Key).sorted (by omega) (by omega)
      have hS2 := ref_set p31 vk vd ks ds s.Key s.N (by omega) (by omega)
      unfold whE at hS
      unfold rwE at hS2
      have hsl : (insS ⟨s.Key, s.N, t⟩ (delK s.Key l)).length ≤ k + 1 := Nat.le_trans (set_len (t := t) (l := l) s.Key s.N) (by omega)
      apply Wp.seq
      apply Wp.region
      refine WpL.v (V.cmp) ?_
      apply WpL.nil
      apply Out.seqN
      apply Wp.seq
      refine Wp.c (fun hb0 => ?_) (fun hb0 => ?_)
      (try simp only [decide_eq_true_eq, decide_eq_false_iff_not, Bool.not_eq_true', Bool.not_eq_false', Bool.not_eq_true, Bool.not_eq_false, not_true_eq_false, not_false_eq_true, reduceCtorEq] at hb0)
      apply Wp.skip
      apply Out.seqN
      apply Wp.seq
      apply Wp.block
      apply Wp.seq
      apply Wp.region
      refine WpL.v (V.ixR tb rfl rfl (by assumption)) ?_
      refine WpL.v (V.ldRA tb rfl (by assumption) (getMapS (by assumption))) ?_
      refine WpL.o (O.al tb (fun p12 => ?_))
      refine WpL.o (O.stA tb ?_)
      apply WpL.nil
      apply Out.seqN
      apply Wp.seq
      apply Wp.region
      refine WpL.v (V.ld1 tb) ?_
      refine WpL.v (V.fa tb) ?_
      refine WpL.v (V.ld1 tb) ?_
      refine WpL.v (V.fa tb) ?_
      refine WpL.v (V.ld1 tb) ?_
      refine WpL.o (Op1.callT rfl (hS) (by (repeat (first | exact Sel.nil | exact Rem.here | apply Sel.cons | apply Rem.there))) ?_)
      rintro v1 s2 ⟨g43, ⟨cap43, ⟨rfl, rfl⟩⟩⟩
      refine incat ?_
      apply WpL.nil
      apply Out.seqN
      apply Wp.region
      refine WpL.v (V.ld1 tb) ?_
      refine WpL.v (V.fa tb) ?_
      refine WpL.v (V.ld1 tb) ?_
      refine WpL.v (V.fa tb) ?_
      refine WpL.v (V.ld1 tb) ?_
      refine WpL.o (Op1.callT rfl (hS2) (by (repeat (first | exact Sel.nil | exact Rem.here | apply Sel.cons | apply Rem.there))) ?_)
      rintro v3 s4 ⟨wk49, ⟨wd49, ⟨rfl, rfl⟩⟩⟩
      refine incat ?_
      apply WpL.nil
      apply Out.blockN
      apply Out.seqN
      apply Wp.region
      refine WpL.v (V.add) ?_
      refine WpL.v (V.mv) ?_
      apply WpL.nil
      rotate_left
      (try simp only [decide_eq_true_eq, decide_eq_false_iff_not, Bool.not_eq_true', Bool.not_eq_false', Bool.not_eq_true, Bool.not_eq_false, not_true_eq_false, not_false_eq_true, reduceCtorEq] at hb0)
      (exfalso; omega)
      exact Out.ag hK ⟨k + 1, t + 1, .slice (some ⟨g43, 0, none⟩) (insS ⟨s.Key, s.N, t⟩ (delK s.Key l)).length cap43, insS ⟨s.Key, s.N, t⟩ (delK s.Key l), wk49, wd49, (rdel s.Key ks ds).1 ++ [s.Key], (rdel s.Key ks ds).2 ++ [s.N]⟩ ⟨by show k + 1 ≤ _; omega, hw1.set s.Key s.N, hsl, by show t + 1 = ((k + 1 : Nat) : Int); omega⟩ (by show xs.length - (k + 1) < xs.length - k; omega)
    · obtain rfl : k = xs.length := by omega
      clear hK
      have hU := wheel_until p29 (Ptr p29 0) rfl now
      apply Wp.seq
      apply Wp.region
      refine WpL.v (V.cmp) ?_
      apply WpL.nil
      apply Out.seqN
      apply Wp.seq
      refine Wp.c (fun hc0 => ?_) (fun hc0 => ?_)
      (try simp only [decide_eq_true_eq, decide_eq_false_iff_not, Bool.not_eq_true', Bool.not_eq_false', Bool.not_eq_true, Bool.not_eq_false, not_true_eq_false, not_false_eq_true, reduceCtorEq] at hc0)
      (exfalso; omega)
      (try simp only [decide_eq_true_eq, decide_eq_false_iff_not, Bool.not_eq_true', Bool.not_eq_false', Bool.not_eq_true, Bool.not_eq_false, not_true_eq_false, not_false_eq_true, reduceCtorEq] at hc0)
      apply Wp.exit
      apply Out.seqE
      apply Out.seqE
      apply Out.blockE
      apply Out.seqN
      apply Wp.seq
      apply Wp.region
      refine WpL.o (O.al tb (fun p13 => ?_))
      refine WpL.o (O.st1 tb ?_)
      apply WpL.nil
      apply Out.seqN
      apply Wp.seq
      apply Wp.seq
      apply Wp.region
      refine WpL.v (V.ld1 tb) ?_
      refine WpL.v (V.ld1 tb) ?_
      refine WpL.o (Op1.callT rfl (hU) (by (repeat (first | exact Sel.nil | exact Rem.here | apply Sel.cons | apply Rem.there))) ?_)
      rintro v1 s2 ⟨a53, ⟨c53, ⟨rfl, rfl⟩⟩⟩
      refine incat ?_
      apply WpL.nil
      apply Out.seqN
      apply Wp.block
      refine Wp.rgB (wheel_iter p29 a53 c53 now ⟨v, t, l⟩) (fun y : UR => y.w) (fun y => [cells p31 97 (Caucusref10Wheel.c ⟨y.vk, y.vd⟩), rows i64c y.vk 3 1 y.ks, rows i64c y.vd 3 1 y.ds, e, cells p9 93 [Ptr p29 0], cells p10 95 [Ptr p31 0], cells p13 3 [I (y.n : Int)], cells p5 3 [I now], cells p6 92 [.slice ao2 ys.length cap2], cells p7 3 [I stop], cells p8 4 [B false]]) (fun j y => WI y.w.t y.w.l y.ks y.ds ∧ y.n = j ∧ j + y.w.l.length ≤ 100 + min j ys.length ∧ y.w.t ≤ 100 + (j : Int)) (fun e _ y => e = .exit 2 ∧ WI y.w.t y.w.l y.ks y.ds ∧ (y.n : Int) = stop) ⟨0, ⟨v, t, l⟩, vk, vd, ks, ds⟩ 120 (fun j y h => by have := h.2.2.1; omega) rfl ⟨hw1, rfl, by show 0 + l.length ≤ 100 + _; omega, by show t ≤ 100 + ((0 : Nat) : Int); omega⟩ ?_ ?_ ?_
      · rintro j i ⟨n, ⟨bv, bt, bl⟩, vk, vd, ks, ds⟩ b' lp rec ⟨hwi, hnj, hj, hbt⟩ ⟨s, rest, g, cp, h1, h2, rfl, h3, rfl⟩ hr W' D' K hK
        dsimp only at hwi hj h1 h3 hnj hbt
        subst h1 hnj
        have hwl := hwi.lens
        rw [List.length_cons] at hj hwl
        have hP := ref_pop_step p31 vk vd ks ds now (by omega) hwi h2
        have hw2 := hwi.pop
        generalize (rdel s.key ks ds).1 = ks2 at *
        generalize (rdel s.key ks ds).2 = ds2 at *
        unfold rwE at hP
        have hwl2 := hw2.lens
        have ht0 := hw2.t0
        dsimp only [WB.E, whE, List.cons_append, List.nil_append]
        by_cases hlt : n < ys.length
        · obtain ⟨m, hmy⟩ := getS hlt
          have hS := wheel_set p29 (.slice (some ⟨g, 0, none⟩) rest.length cp) bt rest m.Key m.N (hw2.toW1.del m.Key).sorted (by omega) (by omega)
          have hS2 (vk vd : Go.Value) := ref_set p31 vk vd ks2 ds2 m.Key m.N (by omega) (by omega)
          unfold whE at hS
          unfold rwE at hS2
          have hsl := set_len (t := bt) (l := rest) m.Key m.N
          have hw3 := hw2.set m.Key m.N
          apply Wp.region
          refine WpL.v (V.as) ?_
          apply WpL.nil
          refine Out.bg (by assumption) ?_
          apply Wp.block
          apply Wp.seq
          apply Wp.region
          refine WpL.v (V.ld1 tb) ?_
          refine WpL.v (V.ld1 tb) ?_
          refine WpL.o (Op1.callT rfl (hP) (by (repeat (first | exact Sel.nil | exact Rem.here | apply Sel.cons | apply Rem.there))) ?_)
          rintro v0 s1 ⟨wk58, ⟨wd58, ⟨rfl, rfl⟩⟩⟩
          refine incat ?_
          refine WpL.v (V.mv) ?_
          refine WpL.v (V.ex) ?_
          refine WpL.v (V.ex) ?_
          refine WpL.v (V.as) ?_
          refine WpL.v (V.as) ?_
          apply WpL.nil
          apply Out.seqN
          apply Wp.seq
          apply Wp.seq
          apply Wp.region
          refine WpL.v (V.mv) ?_
          refine WpL.v (V.not) ?_
          refine WpL.v (V.mv) ?_
          refine WpL.v (V.mv) ?_
          refine WpL.v (V.mv) ?_
          refine WpL.v (V.cmp) ?_
          refine WpL.v (V.pF) ?_
          apply WpL.nil
          apply Out.seqN
          refine Wp.c (fun hd2 => ?_) (fun hd2 => ?_)
          (try simp only [decide_eq_true_eq, decide_eq_false_iff_not, Bool.not_eq_true', Bool.not_eq_false', Bool.not_eq_true, Bool.not_eq_false, not_true_eq_false, not_false_eq_true, reduceCtorEq] at hd2)
          (try simp only [decide_eq_true_eq, decide_eq_false_iff_not, Bool.not_eq_true', Bool.not_eq_false', Bool.not_eq_true, Bool.not_eq_false, not_true_eq_false, not_false_eq_true, reduceCtorEq] at hd2)
          apply Wp.skip
          apply Out.seqN
          apply Wp.seq
          apply Wp.seq
          apply Wp.region
          refine WpL.v (V.ld1 tb) ?_
          refine WpL.v (V.ld1 tb) ?_
          refine WpL.v (V.lenL tb) ?_
          refine WpL.v (V.cmp) ?_
          apply WpL.nil
          apply Out.seqN
          refine Wp.c (fun hd3 => ?_) (fun hd3 => ?_)
          (try simp only [decide_eq_true_eq, decide_eq_false_iff_not, Bool.not_eq_true', Bool.not_eq_false', Bool.not_eq_true, Bool.not_eq_false, not_true_eq_false, not_false_eq_true, reduceCtorEq] at hd3)
          apply Wp.seq
          refine Wp.dG [] ?_ (List.Sublist.cons _ (List.Sublist.cons _ (List.Sublist.cons _ (List.Sublist.cons _ (List.Sublist.cons _ (List.Sublist.cons_cons _ (List.Sublist.cons _ (List.Sublist.cons_cons _ (List.Sublist.cons _ (List.Sublist.cons_cons _ (List.Sublist.cons _ (List.Sublist.cons _ (List.Sublist.cons _ (List.Sublist.cons _ List.Sublist.slnil)))))))))))))) (List.Sublist.cons _ (List.Sublist.cons _ (List.Sublist.cons _ (List.Sublist.cons _ (List.Sublist.cons _ (List.Sublist.cons_cons _ (List.Sublist.cons _ (List.Sublist.cons_cons _ (List.Sublist.cons _ (List.Sublist.cons_cons _ (List.Sublist.cons _ (List.Sublist.cons _ (List.Sublist.cons _ (List.Sublist.cons _ List.Sublist.slnil))))))))))))))
          refine WpA.tF 0 rfl (V.ld1 tb) ?_
          refine WpA.tF 1 rfl (V.ld1 tb) ?_
          refine WpA.tF 2 rfl (V.ld1 tb) ?_
          refine WpA.tF 3 rfl (V.ixR tb rfl rfl (by assumption)) ?_
          refine WpA.tF 4 rfl (V.fa tb) ?_
          refine WpA.tF 6 rfl (V.ld1 tb) ?_
          refine WpA.tF 7 rfl (V.ld1 tb) ?_
          refine WpA.tF 8 rfl (V.ixR tb rfl rfl (by assumption)) ?_
          refine WpA.tF 9 rfl (V.fa tb) ?_
          refine WpA.e2 5 10 rfl rfl ?_ ?_
          refine Op1.vv (V.rdF1 tb (o := 1) rfl hR2 (getMapS hmy)) ⟨?_, ?_, ?_⟩
          exact holdT
          exact holdT
          refine WpA.oS 10 rfl (Op1.vv (V.rdF1 tb (o := 2) rfl hR2 (getMapS hmy)) ⟨?_, ?_, ?_⟩)
          exact holdT
          exact holdT
          refine WpA.oS 11 rfl (Op1.callT rfl (hS) (by (repeat (first | exact Sel.nil | exact Rem.here | apply Sel.cons | apply Rem.there))) ?_)
          rintro v4 s5 ⟨g83, ⟨cap83, ⟨rfl, rfl⟩⟩⟩
          refine incat ⟨?_, ?_, ?_⟩
          exact holdT
          exact holdT
          refine WpA.ou ?_
          apply Out.seqN
          refine Wp.dG [] ?_ (List.Sublist.cons _ (List.Sublist.cons _ (List.Sublist.cons _ (List.Sublist.cons _ (List.Sublist.cons _ (List.Sublist.cons _ (List.Sublist.cons _ (List.Sublist.cons _ (List.Sublist.cons_cons _ (List.Sublist.cons_cons _ (List.Sublist.cons _ (List.Sublist.cons_cons _ (List.Sublist.cons _ (List.Sublist.cons _ List.Sublist.slnil)))))))))))))) (List.Sublist.cons _ (List.Sublist.cons _ (List.Sublist.cons _ (List.Sublist.cons _ (List.Sublist.cons _ (List.Sublist.cons _ (List.Sublist.cons _ (List.Sublist.cons _ (List.Sublist.cons_cons _ (List.Sublist.cons_cons _ (List.Sublist.cons _ (List.Sublist.cons_cons _ (List.Sublist.cons _ (List.Sublist.cons _ List.Sublist.slnil))))))))))))))
          refine WpA.tF 0 rfl (V.ld1 tb) ?_
          refine WpA.tF 1 rfl (V.ld1 tb) ?_
          refine WpA.tF 2 rfl (V.ld1 tb) ?_
          refine WpA.tF 3 rfl (V.ixR tb rfl rfl (by assumption)) ?_
          refine WpA.tF 4 rfl (V.fa tb) ?_
          refine WpA.tF 6 rfl (V.ld1 tb) ?_
          refine WpA.tF 7 rfl (V.ld1 tb) ?_
          refine WpA.tF 8 rfl (V.ixR tb rfl rfl (by assumption)) ?_
          refine WpA.tF 9 rfl (V.fa tb) ?_
          refine WpA.e2 5 10 rfl rfl ?_ ?_
          refine Op1.vv (V.rdF1 tb (o := 1) rfl hR2 (getMapS hmy)) ⟨?_, ?_, ?_⟩
          exact holdT
          exact holdT
          refine WpA.oS 10 rfl (Op1.vv (V.rdF1 tb (o := 2) rfl hR2 (getMapS hmy)) ⟨?_, ?_, ?_⟩)
          exact holdT
          exact holdT
          refine WpA.oS 11 rfl (Op1.callT rfl (hS2 _ _) (by (repeat (first | exact Sel.nil | exact Rem.here | apply Sel.cons | apply Rem.there))) ?_)
          rintro v6 s7 ⟨wk95, ⟨wd95, ⟨rfl, rfl⟩⟩⟩
          refine incat ⟨?_, ?_, ?_⟩
          exact holdT
          exact holdT
          refine WpA.ou ?_
          apply Out.seqN
          apply Wp.seq
          apply Wp.region
          refine WpL.v (V.ld1 tb) ?_
          refine WpL.v (V.add) ?_
          refine WpL.o (O.st1 tb ?_)
          apply WpL.nil
          apply Out.seqN
          apply Wp.seq
          apply Wp.region
          refine WpL.v (V.ld1 tb) ?_
          refine WpL.v (V.ld1 tb) ?_
          refine WpL.v (V.cmp) ?_
          apply WpL.nil
          apply Out.seqN
          refine Wp.c (fun hd8 => ?_) (fun hd8 => ?_)
          (try simp only [decide_eq_true_eq, decide_eq_false_iff_not, Bool.not_eq_true', Bool.not_eq_false', Bool.not_eq_true, Bool.not_eq_false, not_true_eq_false, not_false_eq_true, reduceCtorEq] at hd8)
          apply Wp.exit
          refine Out.blockO' ?_
          rotate_left
          (try simp only [decide_eq_true_eq, decide_eq_false_iff_not, Bool.not_eq_true', Bool.not_eq_false', Bool.not_eq_true, Bool.not_eq_false, not_true_eq_false, not_false_eq_true, reduceCtorEq] at hd8)
          apply Wp.skip
          apply Out.blockN
          rotate_left
          refine Op1.vv (V.rdF1 tb (o := 2) rfl hR2 (getMapS hmy)) ⟨?_, ?_, ?_⟩
          exact holdT
          exact holdT
          refine WpA.oS 5 rfl (Op1.vv (V.rdF1 tb (o := 1) rfl hR2 (getMapS hmy)) ⟨?_, ?_, ?_⟩)
          exact holdT
          exact holdT
          refine WpA.oS 11 rfl (Op1.callT rfl (hS2 _ _) (by (repeat (first | exact Sel.nil | exact Rem.here | apply Sel.cons | apply Rem.there))) ?_)
          rintro v11 s12 ⟨wk95_9, ⟨wd95_10, ⟨rfl, rfl⟩⟩⟩
          refine incat ⟨?_, ?_, ?_⟩
          exact holdT
          exact holdT
          refine WpA.ou ?_
          apply Out.seqN
          apply Wp.seq
          apply Wp.region
          refine WpL.v (V.ld1 tb) ?_
          refine WpL.v (V.add) ?_
          refine WpL.o (O.st1 tb ?_)
          apply WpL.nil
          apply Out.seqN
          apply Wp.seq
          apply Wp.region
          refine WpL.v (V.ld1 tb) ?_
          refine WpL.v (V.ld1 tb) ?_
          refine WpL.v (V.cmp) ?_
          apply WpL.nil
          apply Out.seqN
          refine Wp.c (fun hd13 => ?_) (fun hd13 => ?_)
          (try simp only [decide_eq_true_eq, decide_eq_false_iff_not, Bool.not_eq_true', Bool.not_eq_false', Bool.not_eq_true, Bool.not_eq_false, not_true_eq_false, not_false_eq_true, reduceCtorEq] at hd13)
          apply Wp.exit
          refine Out.blockO' ?_
          rotate_left
          (try simp only [decide_eq_true_eq, decide_eq_false_iff_not, Bool.not_eq_true', Bool.not_eq_false', Bool.not_eq_true, Bool.not_eq_false, not_true_eq_false, not_false_eq_true, reduceCtorEq] at hd13)
          apply Wp.skip
          apply Out.blockN
          rotate_left
          refine Op1.vv (V.rdF1 tb (o := 2) rfl hR2 (getMapS hmy)) ⟨?_, ?_, ?_⟩
          exact holdT
          exact holdT
          refine WpA.oS 5 rfl (Op1.vv (V.rdF1 tb (o := 1) rfl hR2 (getMapS hmy)) ⟨?_, ?_, ?_⟩)
          exact holdT
          exact holdT
          refine WpA.oS 11 rfl (Op1.callT rfl (hS) (by (repeat (first | exact Sel.nil | exact Rem.here | apply Sel.cons | apply Rem.there))) ?_)
          rintro v16 s17 ⟨g83_14, ⟨cap83_15, ⟨rfl, rfl⟩⟩⟩
          refine incat ⟨?_, ?_, ?_⟩
          exact holdT
          exact holdT
          refine WpA.ou ?_
          apply Out.seqN
          refine Wp.dG [] ?_ (List.Sublist.cons _ (List.Sublist.cons _ (List.Sublist.cons _ (List.Sublist.cons _ (List.Sublist.cons _ (List.Sublist.cons _ (List.Sublist.cons _ (List.Sublist.cons _ (List.Sublist.cons_cons _ (List.Sublist.cons_cons _ (List.Sublist.cons _ (List.Sublist.cons_cons _ (List.Sublist.cons _ (List.Sublist.cons _ List.Sublist.slnil)))))))))))))) (List.Sublist.cons _ (List.Sublist.cons _ (List.Sublist.cons _ (List.Sublist.cons _ (List.Sublist.cons _ (List.Sublist.cons _ (List.Sublist.cons _ (List.Sublist.cons _ (List.Sublist.cons_cons _ (List.Sublist.cons_cons _ (List.Sublist.cons _ (List.Sublist.cons_cons _ (List.Sublist.cons _ (List.Sublist.cons _ List.Sublist.slnil))))))))))))))
          refine WpA.tF 0 rfl (V.ld1 tb) ?_
          refine WpA.tF 1 rfl (V.ld1 tb) ?_
          refine WpA.tF 2 rfl (V.ld1 tb) ?_
          refine WpA.tF 3 rfl (V.ixR tb rfl rfl (by assumption)) ?_
          refine WpA.tF 4 rfl (V.fa tb) ?_
          refine WpA.tF 6 rfl (V.ld1 tb) ?_
          refine WpA.tF 7 rfl (V.ld1 tb) ?_
          refine WpA.tF 8 rfl (V.ixR tb rfl rfl (by assumption)) ?_
          refine WpA.tF 9 rfl (V.fa tb) ?_
          refine WpA.e2 5 10 rfl rfl ?_ ?_
          refine Op1.vv (V.rdF1 tb (o := 1) rfl hR2 (getMapS hmy)) ⟨?_, ?_, ?_⟩
          exact holdT
          exact holdT
          refine WpA.oS 10 rfl (Op1.vv (V.rdF1 tb (o := 2) rfl hR2 (getMapS hmy)) ⟨?_, ?_, ?_⟩)
          exact holdT
          exact holdT
          refine WpA.oS 11 rfl (Op1.callT rfl (hS2 _ _) (by (repeat (first | exact Sel.nil | exact Rem.here | apply Sel.cons | apply Rem.there))) ?_)
          rintro v20 s21 ⟨wk95_18, ⟨wd95_19, ⟨rfl, rfl⟩⟩⟩
          refine incat ⟨?_, ?_, ?_⟩
          exact holdT
          exact holdT
          refine WpA.ou ?_
          apply Out.seqN
          apply Wp.seq
          apply Wp.region
          refine WpL.v (V.ld1 tb) ?_
          refine WpL.v (V.add) ?_
          refine WpL.o (O.st1 tb ?_)
          apply WpL.nil
          apply Out.seqN
          apply Wp.seq
          apply Wp.region
          refine WpL.v (V.ld1 tb) ?_
          refine WpL.v (V.ld1 tb) ?_
          refine WpL.v (V.cmp) ?_
          apply WpL.nil
          apply Out.seqN
          refine Wp.c (fun hd22 => ?_) (fun hd22 => ?_)
          (try simp only [decide_eq_true_eq, decide_eq_false_iff_not, Bool.not_eq_true', Bool.not_eq_false', Bool.not_eq_true, Bool.not_eq_false, not_true_eq_false, not_false_eq_true, reduceCtorEq] at hd22)
          apply Wp.exit
          refine Out.blockO' ?_
          rotate_left
          (try simp only [decide_eq_true_eq, decide_eq_false_iff_not, Bool.not_eq_true', Bool.not_eq_false', Bool.not_eq_true, Bool.not_eq_false, not_true_eq_false, not_false_eq_true, reduceCtorEq] at hd22)
          apply Wp.skip
          apply Out.blockN
          rotate_left
          refine Op1.vv (V.rdF1 tb (o := 2) rfl hR2 (getMapS hmy)) ⟨?_, ?_, ?_⟩
          exact holdT
          exact holdT
          refine WpA.oS 5 rfl (Op1.vv (V.rdF1 tb (o := 1) rfl hR2 (getMapS hmy)) ⟨?_, ?_, ?_⟩)
          exact holdT
          exact holdT
          refine WpA.oS 11 rfl (Op1.callT rfl (hS2 _ _) (by (repeat (first | exact Sel.nil | exact Rem.here | apply Sel.cons | apply Rem.there))) ?_)
          rintro v25 s26 ⟨wk95_23, ⟨wd95_24, ⟨rfl, rfl⟩⟩⟩
          refine incat ⟨?_, ?_, ?_⟩
          exact holdT
          exact holdT
          refine WpA.ou ?_
          apply Out.seqN
          apply Wp.seq
          apply Wp.region
          refine WpL.v (V.ld1 tb) ?_
          refine WpL.v (V.add) ?_
          refine WpL.o (O.st1 tb ?_)
          apply WpL.nil
          apply Out.seqN
          apply Wp.seq
          apply Wp.region
          refine WpL.v (V.ld1 tb) ?_
          refine WpL.v (V.ld1 tb) ?_
          refine WpL.v (V.cmp) ?_
          apply WpL.nil
          apply Out.seqN
          refine Wp.c (fun hd27 => ?_) (fun hd27 => ?_)
          (try simp only [decide_eq_true_eq, decide_eq_false_iff_not, Bool.not_eq_true', Bool.not_eq_false', Bool.not_eq_true, Bool.not_eq_false, not_true_eq_false, not_false_eq_true, reduceCtorEq] at hd27)
          apply Wp.exit
          refine Out.blockO' ?_
          rotate_left
          (try simp only [decide_eq_true_eq, decide_eq_false_iff_not, Bool.not_eq_true', Bool.not_eq_false', Bool.not_eq_true, Bool.not_eq_false, not_true_eq_false, not_false_eq_true, reduceCtorEq] at hd27)
          apply Wp.skip
          apply Out.blockN
          rotate_left
          (try simp only [decide_eq_true_eq, decide_eq_false_iff_not, Bool.not_eq_true', Bool.not_eq_false', Bool.not_eq_true, Bool.not_eq_false, not_true_eq_false, not_false_eq_true, reduceCtorEq] at hd3)
          (exfalso; omega)
          all_goals first
            | exact Out.rdZ hK ⟨n + 1, ⟨_, bt + 1, insS ⟨m.Key, m.N, bt⟩ (delK m.Key rest)⟩, _, _, (rdel m.Key ks2 ds2).1 ++ [m.Key], (rdel m.Key ks2 ds2).2 ++ [m.N]⟩ ⟨rfl, hw3, by show ((n + 1 : Nat) : Int) = stop; omega⟩
            | exact Out.rdZ hK ⟨n + 1, ⟨_, bt + 1, insS ⟨m.Key, m.N, bt⟩ (delK m.Key rest)⟩, _, _, (rdel m.Key ks2 ds2).1 ++ [m.Key], (rdel m.Key ks2 ds2).2 ++ [m.N]⟩ ⟨hw3, rfl, by show n + 1 + (insS ⟨m.Key, m.N, bt⟩ (delK m.Key rest)).length ≤ 100 + min (n + 1) ys.length; omega, by show bt + 1 ≤ 100 + ((n + 1 : Nat) : Int); omega⟩
        · apply Wp.region
          refine WpL.v (V.as) ?_
          apply WpL.nil
          refine Out.bg (by assumption) ?_
          apply Wp.block
          apply Wp.seq
          apply Wp.region
          refine WpL.v (V.ld1 tb) ?_
          refine WpL.v (V.ld1 tb) ?_
          refine WpL.o (Op1.callT rfl (hP) (by (repeat (first | exact Sel.nil | exact Rem.here | apply Sel.cons | apply Rem.there))) ?_)
          rintro v0 s1 ⟨wk58, ⟨wd58, ⟨rfl, rfl⟩⟩⟩
          refine incat ?_
          refine WpL.v (V.mv) ?_
          refine WpL.v (V.ex) ?_
          refine WpL.v (V.ex) ?_
          refine WpL.v (V.as) ?_
          refine WpL.v (V.as) ?_
          apply WpL.nil
          apply Out.seqN
          apply Wp.seq
          apply Wp.seq
          apply Wp.region
          refine WpL.v (V.mv) ?_
          refine WpL.v (V.not) ?_
          refine WpL.v (V.mv) ?_
          refine WpL.v (V.mv) ?_
          refine WpL.v (V.mv) ?_
          refine WpL.v (V.cmp) ?_
          refine WpL.v (V.pF) ?_
          apply WpL.nil
          apply Out.seqN
          refine Wp.c (fun he2 => ?_) (fun he2 => ?_)
          (try simp only [decide_eq_true_eq, decide_eq_false_iff_not, Bool.not_eq_true', Bool.not_eq_false', Bool.not_eq_true, Bool.not_eq_false, not_true_eq_false, not_false_eq_true, reduceCtorEq] at he2)
          (try simp only [decide_eq_true_eq, decide_eq_false_iff_not, Bool.not_eq_true', Bool.not_eq_false', Bool.not_eq_true, Bool.not_eq_false, not_true_eq_false, not_false_eq_true, reduceCtorEq] at he2)
          apply Wp.skip
          apply Out.seqN
          apply Wp.seq
          apply Wp.seq
          apply Wp.region
          refine WpL.v (V.ld1 tb) ?_
          refine WpL.v (V.ld1 tb) ?_
          refine WpL.v (V.lenL tb) ?_
          refine WpL.v (V.cmp) ?_
          apply WpL.nil
          apply Out.seqN
          refine Wp.c (fun he3 => ?_) (fun he3 => ?_)
          (try simp only [decide_eq_true_eq, decide_eq_false_iff_not, Bool.not_eq_true', Bool.not_eq_false', Bool.not_eq_true, Bool.not_eq_false, not_true_eq_false, not_false_eq_true, reduceCtorEq] at he3)
          (exfalso; omega)
          (try simp only [decide_eq_true_eq, decide_eq_false_iff_not, Bool.not_eq_true', Bool.not_eq_false', Bool.not_eq_true, Bool.not_eq_false, not_true_eq_false, not_false_eq_true, reduceCtorEq] at he3)
          apply Wp.skip
          apply Out.seqN
          apply Wp.seq
          apply Wp.region
          refine WpL.v (V.ld1 tb) ?_
          refine WpL.v (V.add) ?_
          refine WpL.o (O.st1 tb ?_)
          apply WpL.nil
          apply Out.seqN
          apply Wp.seq
          apply Wp.region
          refine WpL.v (V.ld1 tb) ?_
          refine WpL.v (V.ld1 tb) ?_
          refine WpL.v (V.cmp) ?_
          apply WpL.nil
          apply Out.seqN
          refine Wp.c (fun he4 => ?_) (fun he4 => ?_)
          (try simp only [decide_eq_true_eq, decide_eq_false_iff_not, Bool.not_eq_true', Bool.not_eq_false', Bool.not_eq_true, Bool.not_eq_false, not_true_eq_false, not_false_eq_true, reduceCtorEq] at he4)
          apply Wp.exit
          refine Out.blockO' ?_
          rotate_left
          (try simp only [decide_eq_true_eq, decide_eq_false_iff_not, Bool.not_eq_true', Bool.not_eq_false', Bool.not_eq_true, Bool.not_eq_false, not_true_eq_false, not_false_eq_true, reduceCtorEq] at he4)
          apply Wp.skip
          apply Out.blockN
          rotate_left
          · exact Out.rdZ hK ⟨n + 1, ⟨.slice (some ⟨g, 0, none⟩) rest.length cp, bt, rest⟩, wk58, wd58, ks2, ds2⟩ ⟨rfl, hw2, by show ((n + 1 : Nat) : Int) = stop; omega⟩
          · exact Out.rdZ hK ⟨n + 1, ⟨.slice (some ⟨g, 0, none⟩) rest.length cp, bt, rest⟩, wk58, wd58, ks2, ds2⟩ ⟨hw2, rfl, by show n + 1 + rest.length ≤ 100 + min (n + 1) ys.length; omega, by show bt ≤ 100 + ((n + 1 : Nat) : Int); omega⟩
      · rintro j ⟨n, ⟨bv, bt, bl⟩, vk, vd, ks, ds⟩ b' ⟨hwi, hnj, hj, hbt⟩ hstop
        dsimp only at hwi hj hnj hbt
        have hL := wheel_len p29 bv bt bl
        have hwl := hwi.lens
        have hP := ref_pop_stop p31 vk vd ks ds now (by omega) hwi hstop
        unfold whE at hL
        unfold rwE at hP
        rw [← hwl.1] at hL
        dsimp only [WB.E, whE, List.cons_append, List.nil_append]
        apply Out.blockN
        apply Out.seqN
        apply Wp.seq
        apply Wp.seq
        apply Wp.region
        refine WpL.v (V.ld1 tb) ?_
        refine WpL.v (V.ld1 tb) ?_
        refine WpL.v (V.cmp) ?_
        apply WpL.nil
        apply Out.seqN
        refine Wp.c (fun hf0 => ?_) (fun hf0 => ?_)
        (try simp only [decide_eq_true_eq, decide_eq_false_iff_not, Bool.not_eq_true', Bool.not_eq_false', Bool.not_eq_true, Bool.not_eq_false, not_true_eq_false, not_false_eq_true, reduceCtorEq] at hf0)
        apply Wp.seq
        refine Wp.dG [] ?_ (List.Sublist.cons_cons _ (List.Sublist.cons _ (List.Sublist.cons_cons _ (List.Sublist.cons_cons _ (List.Sublist.cons_cons _ (List.Sublist.cons_cons _ (List.Sublist.cons_cons _ (List.Sublist.cons _ (List.Sublist.cons _ (List.Sublist.cons _ (List.Sublist.cons _ (List.Sublist.cons _ (List.Sublist.cons _ (List.Sublist.cons_cons _ (List.Sublist.cons _ (List.Sublist.cons _ List.Sublist.slnil)))))))))))))))) (List.Sublist.cons_cons _ (List.Sublist.cons _ (List.Sublist.cons_cons _ (List.Sublist.cons_cons _ (List.Sublist.cons_cons _ (List.Sublist.cons_cons _ (List.Sublist.cons_cons _ (List.Sublist.cons _ (List.Sublist.cons _ (List.Sublist.cons _ (List.Sublist.cons _ (List.Sublist.cons _ (List.Sublist.cons _ (List.Sublist.cons_cons _ (List.Sublist.cons _ (List.Sublist.cons _ List.Sublist.slnil))))))))))))))))
        refine WpA.tF 0 rfl (V.ld1 tb) ?_
        refine WpA.tF 2 rfl (V.ld1 tb) ?_
        refine WpA.tF 3 rfl (V.nc) ?_
        refine WpA.tF 4 rfl (V.fa tb) ?_
        refine WpA.e2 1 5 rfl rfl ?_ ?_
        refine Op1.callT rfl (hL) (by (repeat (first | exact Sel.nil | exact Rem.here | apply Sel.cons | apply Rem.there))) ?_
        rintro v1 s2 ⟨rfl, rfl⟩
        refine incat ⟨?_, ?_, ?_⟩
        exact holdT
        exact holdT
        refine WpA.oS 5 rfl (Op1.vv (V.ld1 tb) ⟨?_, ?_, ?_⟩)
        exact holdT
        exact holdT
        refine WpA.tF 6 rfl (V.lenRows tb) ?_
        refine WpA.tF 7 rfl (V.cmp) ?_
        refine WpA.oS 8 rfl (O.st1 tb ⟨?_, ?_, ?_⟩)
        exact holdT
        exact holdT
        refine WpA.ou ?_
        apply Out.seqN
        apply Wp.ret
        apply Out.seqR
        refine Out.f1 rfl (ResIs.c1 tb) ⟨?_, rfl⟩
        focus ((simp); done)
        refine Op1.vv (V.ld1 tb) ⟨?_, ?_, ?_⟩
        exact holdT
        exact holdT
        refine WpA.tF 6 rfl (V.lenRows tb) ?_
        refine WpA.oS 1 rfl (Op1.callT rfl (hL) (by (repeat (first | exact Sel.nil | exact Rem.here | apply Sel.cons | apply Rem.there))) ?_)
        rintro v3 s4 ⟨rfl, rfl⟩
        refine incat ⟨?_, ?_, ?_⟩
        exact holdT
        exact holdT
        refine WpA.tF 7 rfl (V.cmp) ?_
        refine WpA.oS 8 rfl (O.st1 tb ⟨?_, ?_, ?_⟩)
        exact holdT
        exact holdT
        refine WpA.ou ?_
        apply Out.seqN
        apply Wp.ret
        apply Out.seqR
        refine Out.f1 rfl (ResIs.c1 tb) ⟨?_, rfl⟩
        focus ((simp); done)
        (try simp only [decide_eq_true_eq, decide_eq_false_iff_not, Bool.not_eq_true', Bool.not_eq_false', Bool.not_eq_true, Bool.not_eq_false, not_true_eq_false, not_false_eq_true, reduceCtorEq] at hf0)
        apply Wp.skip
        apply Out.seqN
        apply Wp.seq
        apply Wp.region
        refine WpL.v (V.ld1 tb) ?_
        refine WpL.v (V.ld1 tb) ?_
        refine WpL.o (Op1.callT rfl (hP) (by (repeat (first | exact Sel.nil | exact Rem.here | apply Sel.cons | apply Rem.there))) ?_)
        rintro v5 s6 ⟨wk115, ⟨wd115, ⟨rfl, rfl⟩⟩⟩
        refine incat ?_
        refine WpL.v (V.mv) ?_
        refine WpL.v (V.ex) ?_
        refine WpL.v (V.ex) ?_
        refine WpL.v (V.as) ?_
        refine WpL.v (V.as) ?_
        apply WpL.nil
        apply Out.seqN
        apply Wp.seq
        refine Wp.dG [] ?_ (List.Sublist.cons _ (List.Sublist.cons_cons _ (List.Sublist.cons_cons _ (List.Sublist.cons_cons _ (List.Sublist.cons_cons _ (List.Sublist.cons_cons _ (List.Sublist.cons_cons _ (List.Sublist.cons _ (List.Sublist.cons _ (List.Sublist.cons _ (List.Sublist.cons _ (List.Sublist.cons _ (List.Sublist.cons _ (List.Sublist.cons_cons _ (List.Sublist.cons _ (List.Sublist.cons _ List.Sublist.slnil)))))))))))))))) (List.Sublist.cons _ (List.Sublist.cons_cons _ (List.Sublist.cons_cons _ (List.Sublist.cons_cons _ (List.Sublist.cons_cons _ (List.Sublist.cons_cons _ (List.Sublist.cons_cons _ (List.Sublist.cons _ (List.Sublist.cons _ (List.Sublist.cons _ (List.Sublist.cons _ (List.Sublist.cons _ (List.Sublist.cons _ (List.Sublist.cons_cons _ (List.Sublist.cons _ (List.Sublist.cons _ List.Sublist.slnil))))))))))))))))
        refine WpA.tF 0 rfl (V.mv) ?_
        refine WpA.tF 1 rfl (V.not) ?_
        refine WpA.tF 2 rfl (V.mv) ?_
        refine WpA.tF 3 rfl (V.ld1 tb) ?_
        refine WpA.tF 5 rfl (V.ld1 tb) ?_
        refine WpA.tF 6 rfl (V.nc) ?_
        refine WpA.tF 7 rfl (V.fa tb) ?_
        refine WpA.e2 4 8 rfl rfl ?_ ?_
        refine Op1.callT rfl (hL) (by (repeat (first | exact Sel.nil | exact Rem.here | apply Sel.cons | apply Rem.there))) ?_
        rintro v7 s8 ⟨rfl, rfl⟩
        refine incat ⟨?_, ?_, ?_⟩
        exact holdT
        exact holdT
        refine WpA.oS 8 rfl (Op1.vv (V.ld1 tb) ⟨?_, ?_, ?_⟩)
        exact holdT
        exact holdT
        refine WpA.tF 9 rfl (V.lenRows tb) ?_
        refine WpA.tF 10 rfl (V.cmp) ?_
        refine WpA.tF 11 rfl (V.pT) ?_
        refine WpA.oS 12 rfl (O.st1 tb ⟨?_, ?_, ?_⟩)
        exact holdT
        exact holdT
        refine WpA.ou ?_
        apply Out.seqN
        apply Wp.ret
        refine Out.f1 rfl (ResIs.c1 tb) ⟨?_, rfl⟩
        focus ((simp); done)
        refine Op1.vv (V.ld1 tb) ⟨?_, ?_, ?_⟩
        exact holdT
        exact holdT
        refine WpA.tF 9 rfl (V.lenRows tb) ?_
        refine WpA.oS 4 rfl (Op1.callT rfl (hL) (by (repeat (first | exact Sel.nil | exact Rem.here | apply Sel.cons | apply Rem.there))) ?_)
        rintro v9 s10 ⟨rfl, rfl⟩
        refine incat ⟨?_, ?_, ?_⟩
        exact holdT
        exact holdT
        refine WpA.tF 10 rfl (V.cmp) ?_
        refine WpA.tF 11 rfl (V.pT) ?_
        refine WpA.oS 12 rfl (O.st1 tb ⟨?_, ?_, ?_⟩)
        exact holdT
        exact holdT
        refine WpA.ou ?_
        apply Out.seqN
        apply Wp.ret
        refine Out.f1 rfl (ResIs.c1 tb) ⟨?_, rfl⟩
        focus ((simp); done)
      · rintro j ⟨n, ⟨bv, bt, bl⟩, vk, vd, ks, ds⟩ b' e hwy hgo ⟨rfl, hwi, hns⟩
        dsimp only at hwi hns
        have hL := wheel_len p29 bv bt bl
        have hwl := hwi.lens
        unfold whE at hL
        rw [← hwl.1] at hL
        dsimp only [WB.E, whE, List.cons_append, List.nil_append]
        apply Out.blockE
        apply Out.seqN
        apply Wp.seq
        apply Wp.seq
        apply Wp.region
        refine WpL.v (V.ld1 tb) ?_
        refine WpL.v (V.ld1 tb) ?_
        refine WpL.v (V.cmp) ?_
        apply WpL.nil
        apply Out.seqN
        refine Wp.c (fun hg0 => ?_) (fun hg0 => ?_)
        (try simp only [decide_eq_true_eq, decide_eq_false_iff_not, Bool.not_eq_true', Bool.not_eq_false', Bool.not_eq_true, Bool.not_eq_false, not_true_eq_false, not_false_eq_true, reduceCtorEq] at hg0)
        apply Wp.seq
        refine Wp.dG [] ?_ (List.Sublist.cons_cons _ (List.Sublist.cons _ (List.Sublist.cons_cons _ (List.Sublist.cons_cons _ (List.Sublist.cons_cons _ (List.Sublist.cons_cons _ (List.Sublist.cons_cons _ (List.Sublist.cons _ (List.Sublist.cons _ (List.Sublist.cons _ (List.Sublist.cons _ (List.Sublist.cons _ (List.Sublist.cons _ (List.Sublist.cons_cons _ (List.Sublist.cons _ (List.Sublist.cons _ List.Sublist.slnil)))))))))))))))) (List.Sublist.cons_cons _ (List.Sublist.cons _ (List.Sublist.cons_cons _ (List.Sublist.cons_cons _ (List.Sublist.cons_cons _ (List.Sublist.cons_cons _ (List.Sublist.cons_cons _ (List.Sublist.cons _ (List.Sublist.cons _ (List.Sublist.cons _ (List.Sublist.cons _ (List.Sublist.cons _ (List.Sublist.cons _ (List.Sublist.cons_cons _ (List.Sublist.cons _ (List.Sublist.cons _ List.Sublist.slnil))))))))))))))))
        refine WpA.tF 0 rfl (V.ld1 tb) ?_
        refine WpA.tF 2 rfl (V.ld1 tb) ?_
        refine WpA.tF 3 rfl (V.nc) ?_
        refine WpA.tF 4 rfl (V.fa tb) ?_
        refine WpA.e2 1 5 rfl rfl ?_ ?_
        refine Op1.callT rfl (hL) (by (repeat (first | exact Sel.nil | exact Rem.here | apply Sel.cons | apply Rem.there))) ?_
        rintro v1 s2 ⟨rfl, rfl⟩
        refine incat ⟨?_, ?_, ?_⟩
        exact holdT
        exact holdT
        refine WpA.oS 5 rfl (Op1.vv (V.ld1 tb) ⟨?_, ?_, ?_⟩)
        exact holdT
        exact holdT
        refine WpA.tF 6 rfl (V.lenRows tb) ?_
        refine WpA.tF 7 rfl (V.cmp) ?_
        refine WpA.oS 8 rfl (O.st1 tb ⟨?_, ?_, ?_⟩)
        exact holdT
        exact holdT
        refine WpA.ou ?_
        apply Out.seqN
        apply Wp.ret
        apply Out.seqR
        refine Out.f1 rfl (ResIs.c1 tb) ⟨?_, rfl⟩
        focus ((simp); done)
        refine Op1.vv (V.ld1 tb) ⟨?_, ?_, ?_⟩
        exact holdT
        exact holdT
        refine WpA.tF 6 rfl (V.lenRows tb) ?_
        refine WpA.oS 1 rfl (Op1.callT rfl (hL) (by (repeat (first | exact Sel.nil | exact Rem.here | apply Sel.cons | apply Rem.there))) ?_)
        rintro v3 s4 ⟨rfl, rfl⟩
        refine incat ⟨?_, ?_, ?_⟩
        exact holdT
        exact holdT
        refine WpA.tF 7 rfl (V.cmp) ?_
        refine WpA.oS 8 rfl (O.st1 tb ⟨?_, ?_, ?_⟩)
        exact holdT
        exact holdT
        refine WpA.ou ?_
        apply Out.seqN
        apply Wp.ret
        apply Out.seqR
        refine Out.f1 rfl (ResIs.c1 tb) ⟨?_, rfl⟩
        focus ((simp); done)
        (try simp only [decide_eq_true_eq, decide_eq_false_iff_not, Bool.not_eq_true', Bool.not_eq_false', Bool.not_eq_true, Bool.not_eq_false, not_true_eq_false, not_false_eq_true, reduceCtorEq] at hg0)
        (exfalso; omega)
  · refine Ct.enter Try.func14 rfl rfl fun W => ?_
    apply Wp.seq
    apply Wp.region
    refine WpL.o (O.bx1 (fun p5 => ?_))
    refine WpL.o (O.bx1 (fun p6 => ?_))
    refine WpL.o (O.bx1 (fun p7 => ?_))
    refine WpL.o (O.al tb (fun p8 => ?_))
    apply WpL.nil
    apply Out.seqN
    apply Wp.seq
    apply Wp.seq
    apply Wp.region
    refine WpL.o (Op1.fn rfl (alive10) ?_)
    refine WpL.v (V.not) ?_
    apply WpL.nil
    apply Out.seqN
    refine Wp.cF ?_
    apply Wp.skip
    apply Out.seqN
    apply Wp.seq
    apply Wp.seq
    apply Wp.region
    refine WpL.v (V.mv) ?_
    refine WpL.v (V.lenL tb) ?_
    refine WpL.v (V.cmp) ?_
    refine WpL.v (V.mv) ?_
    refine WpL.pt (fun hz0 => ?_) (fun hz0 => ?_)
    (try simp only [decide_eq_true_eq, decide_eq_false_iff_not, Bool.not_eq_true', Bool.not_eq_false', Bool.not_eq_true, Bool.not_eq_false, not_true_eq_false, not_false_eq_true, reduceCtorEq] at hz0)
    refine WpL.sk ?_
    refine WpL.sk ?_
    refine WpL.sk ?_
    refine WpL.v (V.pT) ?_
    apply WpL.nil
    apply Out.seqN
    refine Wp.cT ?_
    apply Wp.seq
    apply Wp.region
    refine WpL.o (O.st1 tb ?_)
    apply WpL.nil
    apply Out.seqN
    apply Wp.ret
    apply Out.seqR
    refine Out.f1 rfl (ResIs.c1 tb) ⟨?_, rfl⟩
    exact rfl
    (try simp only [decide_eq_true_eq, decide_eq_false_iff_not, Bool.not_eq_true', Bool.not_eq_false', Bool.not_eq_true, Bool.not_eq_false, not_true_eq_false, not_false_eq_true, reduceCtorEq] at hz0)
    refine WpL.v (V.ld1 tb) ?_
    refine WpL.v (V.lenL tb) ?_
    refine WpL.v (V.cmp) ?_
    refine WpL.v (V.pF) ?_
    apply WpL.nil
    apply Out.seqN
    refine Wp.c (fun hz1 => ?_) (fun hz1 => ?_)
    (try simp only [decide_eq_true_eq, decide_eq_false_iff_not, Bool.not_eq_true', Bool.not_eq_false', Bool.not_eq_true, Bool.not_eq_false, not_true_eq_false, not_false_eq_true, reduceCtorEq] at hz1)
    apply Wp.seq
    apply Wp.region
    refine WpL.o (O.st1 tb ?_)
    apply WpL.nil
    apply Out.seqN
    apply Wp.ret
    apply Out.seqR
    refine Out.f1 rfl (ResIs.c1 tb) ⟨?_, rfl⟩
    exact rfl
    (try simp only [decide_eq_true_eq, decide_eq_false_iff_not, Bool.not_eq_true', Bool.not_eq_false', Bool.not_eq_true, Bool.not_eq_false, not_true_eq_false, not_false_eq_true, reduceCtorEq] at hz1)
    (exfalso; omega)
open Go Go.ChangeShapes Go.WideShapes Go.ChangeAt Go.RowKit
theorem wheelUntil_read : (Try.f14.params.toList.all fun t => Try.prog.readableRec t && decide (t < Try.prog.types.size)) = true := by kernel_rfl
theorem wheelUntil_lifted (os : Go.Os) (started : os.Started) (H : Type) (enc : Go.TypeId × Go.Value → H) :
    ReturnsInHanded {} Try.checked os 14 .any (Rows.wheelUntilSpec.pre6 enc Try.prog Try.f14 Rows.wheelUntilRow.domain false) (Rows.wheelUntilSpec.post enc Try.prog Try.f14 false true false false) := by
  refine returnsInHanded_of_change_sized (C := Try.checked) own started (by kernel_rfl) Try.func14
    (ChangeSpec.witness6 (enc := enc) (C := Try.checked) false ⟨#[], #[.slice none 0 0, I 0, .slice none 0 0, I 0], []⟩ 8 (by kernel_rfl) (by kernel_rfl) (by kernel_rfl) (by kernel_rfl)) ?_
  intro W base args ds gs before hval0 hW hcnd hsz0 _
  have hsz : (DataW.weightsEach Try.prog (Try.f14.params.toList ++ Rows.wheelUntilSpec.plain.varTypes Try.prog) (ds ++ gs)).all (· ≤ reachBytes) = true := hsz0
  have hval : ∀ (j : Nat) t v, Try.f14.params[j]? = some t → args[j]? = some v → Value.okWide Try.prog W .any base t v := hval0
  have hW' := hW
  obtain ⟨p, q, hA0, hV, rfl, hfz, hnd⟩ := hW
  have hA1 : DataW.TrodAll enc Try.prog W 0 (fun _ => true) true Try.f14.params.toList args.toList ds p := hA0
  have hA := hA1
  rw [Try.params14] at hA hval hsz
  obtain ⟨v0, vs0, d0, ds0, p0, q0, hargs, rfl, rfl, h0, r0⟩ := trodAll_cons hA
  obtain ⟨v1, vs1, d1, ds1, p1, q1, rfl, rfl, rfl, h1, r1⟩ := trodAll_cons r0
  obtain ⟨v2, vs2, d2, ds2, p2, q2, rfl, rfl, rfl, h2, r2⟩ := trodAll_cons r1
  obtain ⟨v3, vs3, d3, ds3, p3, q3, rfl, rfl, rfl, h3, r3⟩ := trodAll_cons r2
  obtain ⟨rfl, rfl, rfl⟩ := trodAll_nil r3
  obtain rfl : args = #[v0, v1, v2, v3] := by cases args; simp_all
  obtain ⟨rfl, rfl⟩ := trodVars_none hV
  obtain ⟨ao0, b0, off0, len0, cap0, xs0, rfl, hl0, hlc0, hcm0, ha0, hs0, hf0, hby0⟩ := open_slice_plain Try.underlying92 Caucuslaw10Call.leaves (by kernel_rfl) (by decide) (hval 0 92 v0 rfl rfl) h0 (sizedAll hsz 0 rfl rfl)
  obtain ⟨x0, rfl, w0⟩ := fits_map Caucuslaw10Call.c Caucuslaw10Call.wf hf0 Caucuslaw10Call.fit
  obtain rfl : len0 = x0.length := by simpa using hl0.symm
  obtain ⟨x1, rfl, rfl, rfl, w1⟩ := open_int Try.underlying3 (hval 1 3 v1 rfl rfl) h1
  obtain ⟨ao2, b2, off2, len2, cap2, xs2, rfl, hl2, hlc2, hcm2, ha2, hs2, hf2, hby2⟩ := open_slice_plain Try.underlying92 Caucuslaw10Call.leaves (by kernel_rfl) (by decide) (hval 2 92 v2 rfl rfl) h2 (sizedAll hsz 2 rfl rfl)
  obtain ⟨x2, rfl, w2⟩ := fits_map Caucuslaw10Call.c Caucuslaw10Call.wf hf2 Caucuslaw10Call.fit
  obtain rfl : len2 = x2.length := by simpa using hl2.symm
  obtain ⟨x3, rfl, rfl, rfl, w3⟩ := open_int Try.underlying3 (hval 3 3 v3 rfl rfl) h3
  simp only [List.append_nil] at hW' hA1
  have hbl : ∀ p : Nat × Nat, p ∈ [(x0.length, b0), (x2.length, b2)] → 0 < p.1 → p.2 < W.heap.size := by
    intro p hp h0
    simp only [List.mem_cons, List.mem_nil_iff, or_false] at hp
    rcases hp with rfl | rfl
    · exact (ha0 h0).2
    · exact (ha2 h0).2
  have hR0 : Rd (snap W (blocksOf [(x0.length, b0), (x2.length, b2)])) ao0 x0.length b0 off0 3 (x0.map Caucuslaw10Call.c) := Rd.snap (by simp) (Nat.le_trans hlc0 hcm0) ha0 hs0 (fun h => blocksOf_mem (len := x0.length) (by simp) h)
  have hR2 : Rd (snap W (blocksOf [(x0.length, b0), (x2.length, b2)])) ao2 x2.length b2 off2 3 (x2.map Caucuslaw10Call.c) := Rd.snap (by simp) (Nat.le_trans hlc2 hcm2) ha2 hs2 (fun h => blocksOf_mem (len := x2.length) (by simp) h)
  refine (Ct.runSnap (blocksOf_nodup _) (blocksOf_lt hbl) (wheelUntil_walk _ _ _ _ _ x1 x3 x0 _ _ _ _ x2 hR0 hR2)).mono fun e W' hh => ?_
  obtain ⟨rfl, hS⟩ := hh
  exact ⟨_, rfl, post_law (P := Try.prog) (f := Try.f14) (tbool := 4) hW' hA1 rfl rfl hS laid wheelUntil_read rfl Try.underlying4⟩
theorem wheelUntil_joined : joinedFacts Try.prog 14 Try.f14 Rows.wheelUntilSpec Rows.wheelUntilRow = true := by
  unfold joinedFacts
  rewrite [head_enter, head_lift, head_make]
  kernel_rfl
theorem wheelUntil_over : Rows.wheelUntilRow.holds Try.pinned (OpenSpec.ofChange Rows.wheelUntilSpec) :=
  OpenClaim.holds_of_wide 14 Try.f14 rfl rfl rfl rfl rfl rfl rfl ⟨rfl, rfl, rfl, rfl, rfl⟩ rfl rfl rfl rfl rfl (by kernel_rfl) Try.func14 wheelUntil_joined
    (of_decide_eq_true (by kernel_rfl)) (by unfold Func.isWrapper; first | (rw [if_pos (by decide +kernel)]; kernel_rfl) | (rw [if_neg (by decide +kernel)]; exact ⟨rfl, rfl⟩))
    (fun os started H enc _ => wheelUntil_lifted os started H enc)
/-- THE STATEMENT. -/
theorem wheelUntil_proved : Rows.WheelUntilSaid := wheelUntil_over
#print axioms wheelUntil_proved

end Go.Proofs.Ythoepbbpmdmfeaa
