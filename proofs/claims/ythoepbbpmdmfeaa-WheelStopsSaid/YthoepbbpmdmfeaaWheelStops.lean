/-
  The statement WheelStops of layer 10: what is gone over may be left at any time: what wasn't told yet is due still. Proved for every input.
-/
import Derived.Test.YthoepbbpmdmfeaaHead
import Derived.Test.YthoepbbpmdmfeaaWheelL
namespace Go.Proofs.Ythoepbbpmdmfeaa
open Go.HL
set_option linter.unusedSimpArgs false
set_option linter.unusedVariables false
set_option maxRecDepth 8000
structure SS where
  k : Nat
  t : Int
  v : Go.Value
  v2 : Go.Value
  l : List Sp
structure SR where
  n : Nat
  w : WB
  v : Go.Value
  t : Int
  l : List Sp
set_option maxHeartbeats 2000000 in
theorem wheelStops_walk (e : Ent) (ao : Option Go.Addr) (cap b off : Nat) (now stop : Int) (xs : List Caucuslaw10Call) (hR : Rd e ao xs.length b off 3 (xs.map Caucuslaw10Call.c)) :
    Ct Try.prog 16 [.slice ao xs.length cap, I now, I stop] [e] (fun r σ' => r = B true ∧ σ' = [e]) := by
  have hm := hR.small
  simp only [Go.maxLen] at hm
  have hN := wheel_new
  unfold whE at hN
  by_cases hs : xs.length ≤ 100
  · refine Ct.enter Try.func16 rfl rfl fun W => ?_
    apply Wp.seq
    apply Wp.region
    refine WpL.o (O.bx1 (fun p4 => ?_))
    refine WpL.o (O.bx1 (fun p5 => ?_))
    refine WpL.o (O.al tb (fun p6 => ?_))
    apply WpL.nil
    apply Out.seqN
    apply Wp.seq
    apply Wp.seq
    apply Wp.region
    refine WpL.o (Op1.fn rfl (alive10) ?_)
    refine WpL.v (V.not) ?_
    apply WpL.nil
    apply Out.seqN
    refine Wp.cF ?_
    apply Wp.skip
    apply Out.seqN
    apply Wp.seq
    apply Wp.seq
    apply Wp.region
    refine WpL.v (V.mv) ?_
    refine WpL.v (V.lenL tb) ?_
    refine WpL.v (V.cmp) ?_
    apply WpL.nil
    apply Out.seqN
    refine Wp.c (fun ha0 => ?_) (fun ha0 => ?_)
    (try simp only [decide_eq_true_eq, decide_eq_false_iff_not, Bool.not_eq_true', Bool.not_eq_false', Bool.not_eq_true, Bool.not_eq_false, not_true_eq_false, not_false_eq_true, reduceCtorEq] at ha0)
    (exfalso; omega)
    (try simp only [decide_eq_true_eq, decide_eq_false_iff_not, Bool.not_eq_true', Bool.not_eq_false', Bool.not_eq_true, Bool.not_eq_false, not_true_eq_false, not_false_eq_true, reduceCtorEq] at ha0)
    apply Wp.skip
    apply Out.seqN
    apply Wp.seq
    apply Wp.region
    refine WpL.o (Op1.callT rfl (hN) (by (repeat (first | exact Sel.nil | exact Rem.here | apply Sel.cons | apply Rem.there))) ?_)
    rintro v1 s2 ⟨p20, ⟨rfl, rfl⟩⟩
    refine incat ?_
    refine WpL.o (Op1.callT rfl (hN) (by (repeat (first | exact Sel.nil | exact Rem.here | apply Sel.cons | apply Rem.there))) ?_)
    rintro v3 s4 ⟨p21, ⟨rfl, rfl⟩⟩
    refine incat ?_
    refine WpL.o (O.al tb (fun p8 => ?_))
    refine WpL.v (V.as) ?_
    refine WpL.o (O.st1 tb ?_)
    apply WpL.nil
    apply Out.seqN
    apply Wp.seq
    apply Wp.seq
    apply Wp.region
    refine WpL.v (V.mv) ?_
    refine WpL.v (V.lenL tb) ?_
    refine WpL.v (V.mv) ?_
    apply WpL.nil
    apply Out.seqN
    apply Wp.block
    refine Wp.lp [23, 22, 8, 7, 6, 5, 4] (fun y : SS => y.k ≤ xs.length ∧ W1 y.t y.l ∧ y.l.length ≤ y.k ∧ y.t = y.k) (fun y => [(24, I (y.k : Int))]) (fun y => [cells p20 146 (WheelWheelOfInt.c ⟨y.v, y.t⟩), rows WheelSpokeOfInt.c y.v 148 3 y.l, cells p21 146 (WheelWheelOfInt.c ⟨y.v2, y.t⟩), rows WheelSpokeOfInt.c y.v2 148 3 y.l]) (fun y => xs.length - y.k) ⟨0, 0, .slice none 0 0, .slice none 0 0, []⟩ ⟨Nat.zero_le _, W1.zero, Nat.le_refl _, rfl⟩ ?_
    rintro ⟨k, t, v, v2, l⟩ ⟨hk, hw1, hlk, htk⟩ K hK
    dsimp only at hk hw1 hlk htk
    dsimp only [List.cons_append, List.nil_append]
    by_cases hlt : k < xs.length
    · obtain ⟨s, hsx⟩ := getS hlt
      have hS := wheel_set p20 v t l s.Key s.N (hw1.del s.Key).sorted (by omega) (by omega)
      have hS2 := wheel_set p21 v2 t l s.Key s.N (hw1.del s.Key).sorted (by omega) (by omega)
      unfold whE at hS hS2
      have hsl : (insS ⟨s.Key, s.N, t⟩ (delK s.Key l)).length ≤ k + 1 := Nat.le_trans (set_len (t := t) (l := l) s.Key s.N) (by omega)
      apply Wp.seq
      apply Wp.region
      refine WpL.v (V.cmp) ?_
      apply WpL.nil
      apply Out.seqN
      apply Wp.seq
      refine Wp.c (fun hb0 => ?_) (fun hb0 => ?_)
      (try simp only [decide_eq_true_eq, decide_eq_false_iff_not, Bool.not_eq_true', Bool.not_eq_false', Bool.not_eq_true, Bool.not_eq_false, not_true_eq_false, not_false_eq_true, reduceCtorEq] at hb0)
      apply Wp.skip
      apply Out.seqN
      apply Wp.seq
      apply Wp.block
      apply Wp.seq
      apply Wp.region
      refine WpL.v (V.ixR tb rfl rfl (by assumption)) ?_
      refine WpL.v (V.ldRA tb rfl (by assumption) (getMapS (by assumption))) ?_
      refine WpL.o (O.al tb (fun p10 => ?_))
      refine WpL.o (O.stA tb ?_)
      apply WpL.nil
      apply Out.seqN
      apply Wp.seq
      apply Wp.region
      refine WpL.v (V.mv) ?_
      refine WpL.v (V.fa tb) ?_
      refine WpL.v (V.ld1 tb) ?_
      refine WpL.v (V.fa tb) ?_
      refine WpL.v (V.ld1 tb) ?_
      refine WpL.o (Op1.callT rfl (hS) (by (repeat (first | exact Sel.nil | exact Rem.here | apply Sel.cons | apply Rem.there))) ?_)
      rintro v1 s2 ⟨g33, ⟨cap33, ⟨rfl, rfl⟩⟩⟩
      refine incat ?_
      apply WpL.nil
      apply Out.seqN
      apply Wp.region
      refine WpL.v (V.ld1 tb) ?_
      refine WpL.v (V.fa tb) ?_
      refine WpL.v (V.ld1 tb) ?_
      refine WpL.v (V.fa tb) ?_
      refine WpL.v (V.ld1 tb) ?_
      refine WpL.o (Op1.callT rfl (hS2) (by (repeat (first | exact Sel.nil | exact Rem.here | apply Sel.cons | apply Rem.there))) ?_)
      rintro v3 s4 ⟨g39, ⟨cap39, ⟨rfl, rfl⟩⟩⟩
      refine incat ?_
      apply WpL.nil
      apply Out.blockN
      apply Out.seqN
      apply Wp.region
      refine WpL.v (V.add) ?_
      refine WpL.v (V.mv) ?_
      apply WpL.nil
      rotate_left
      (try simp only [decide_eq_true_eq, decide_eq_false_iff_not, Bool.not_eq_true', Bool.not_eq_false', Bool.not_eq_true, Bool.not_eq_false, not_true_eq_false, not_false_eq_true, reduceCtorEq] at hb0)
      (exfalso; omega)
      exact Out.ag hK ⟨k + 1, t + 1, .slice (some ⟨g33, 0, none⟩) (insS ⟨s.Key, s.N, t⟩ (delK s.Key l)).length cap33, .slice (some ⟨g39, 0, none⟩) (insS ⟨s.Key, s.N, t⟩ (delK s.Key l)).length cap39, insS ⟨s.Key, s.N, t⟩ (delK s.Key l)⟩ ⟨by show k + 1 ≤ _; omega, hw1.set s.Key s.N, hsl, by show t + 1 = ((k + 1 : Nat) : Int); omega⟩ (by show xs.length - (k + 1) < xs.length - k; omega)
    · obtain rfl : k = xs.length := by omega
      clear hK
      have hU := wheel_until p20 (Ptr p20 0) rfl now
      apply Wp.seq
      apply Wp.region
      refine WpL.v (V.cmp) ?_
      apply WpL.nil
      apply Out.seqN
      apply Wp.seq
      refine Wp.c (fun hc0 => ?_) (fun hc0 => ?_)
      (try simp only [decide_eq_true_eq, decide_eq_false_iff_not, Bool.not_eq_true', Bool.not_eq_false', Bool.not_eq_true, Bool.not_eq_false, not_true_eq_false, not_false_eq_true, reduceCtorEq] at hc0)
      (exfalso; omega)
      (try simp only [decide_eq_true_eq, decide_eq_false_iff_not, Bool.not_eq_true', Bool.not_eq_false', Bool.not_eq_true, Bool.not_eq_false, not_true_eq_false, not_false_eq_true, reduceCtorEq] at hc0)
      apply Wp.exit
      apply Out.seqE
      apply Out.seqE
      apply Out.blockE
      apply Out.seqN
      apply Wp.seq
      apply Wp.region
      refine WpL.o (O.al tb (fun p11 => ?_))
      refine WpL.o (O.st1 tb ?_)
      apply WpL.nil
      apply Out.seqN
      apply Wp.seq
      apply Wp.seq
      apply Wp.region
      refine WpL.v (V.mv) ?_
      refine WpL.v (V.ld1 tb) ?_
      refine WpL.o (Op1.callT rfl (hU) (by (repeat (first | exact Sel.nil | exact Rem.here | apply Sel.cons | apply Rem.there))) ?_)
      rintro v1 s2 ⟨a43, ⟨c43, ⟨rfl, rfl⟩⟩⟩
      refine incat ?_
      apply WpL.nil
      apply Out.seqN
      apply Wp.block
      refine Wp.rgB (wheel_iter p20 a43 c43 now ⟨v, t, l⟩) (fun y : SR => y.w) (fun y => [cells p21 146 (WheelWheelOfInt.c ⟨y.v, y.t⟩), rows WheelSpokeOfInt.c y.v 148 3 y.l, cells p8 93 [Ptr p21 0], cells p11 3 [I (y.n : Int)], cells p4 3 [I now], cells p5 3 [I stop], cells p6 4 [B false]]) (fun j y => y.l = y.w.l ∧ y.n = j ∧ j + y.l.length ≤ 100) (fun e _ y => e = .exit 2 ∧ y.l = y.w.l) ⟨0, ⟨v, t, l⟩, v2, t, l⟩ 100 (fun j y h => by have := h.2.2; omega) rfl ⟨rfl, rfl, by show 0 + l.length ≤ 100; omega⟩ ?_ ?_ ?_
      · rintro j i ⟨n, ⟨bv, bt, bl⟩, v2, t2, l2⟩ b' lp rec ⟨hl, hnj, hj⟩ ⟨s, rest, g, cp, h1, h2, rfl, h3, rfl⟩ hr W' D' K hK
        dsimp only at hl hj h1 h3 hnj
        subst h1 hnj hl
        dsimp only [WB.E, whE, List.cons_append, List.nil_append]
        rw [List.length_cons] at hj
        refine Wp.fact (rowsForm (List.Mem.tail _ (List.Mem.tail _ (List.Mem.head _)))) fun hform => ?_
        rcases hform with ⟨_, h0⟩ | ⟨g2, cp2, rfl, _⟩
        · cases h0
        have hP := wheel_pop_some p21 g2 cp2 t2 s rest now h2
        unfold whE at hP
        apply Wp.region
        refine WpL.v (V.as) ?_
        apply WpL.nil
        refine Out.bg (by assumption) ?_
        apply Wp.block
        apply Wp.seq
        apply Wp.region
        refine WpL.v (V.ld1 tb) ?_
        refine WpL.v (V.ld1 tb) ?_
        refine WpL.o (Op1.callT rfl (hP) (by (repeat (first | exact Sel.nil | exact Rem.here | apply Sel.cons | apply Rem.there))) ?_)
        rintro v0 s1 ⟨rfl, rfl⟩
        refine incat ?_
        refine WpL.v (V.mv) ?_
        refine WpL.v (V.ex) ?_
        refine WpL.v (V.ex) ?_
        refine WpL.v (V.as) ?_
        refine WpL.v (V.as) ?_
        apply WpL.nil
        apply Out.seqN
        apply Wp.seq
        apply Wp.seq
        apply Wp.region
        refine WpL.v (V.mv) ?_
        refine WpL.v (V.not) ?_
        refine WpL.v (V.mv) ?_
        refine WpL.v (V.mv) ?_
        refine WpL.v (V.mv) ?_
        refine WpL.v (V.cmp) ?_
        refine WpL.v (V.pF) ?_
        apply WpL.nil
        apply Out.seqN
        refine Wp.c (fun hd2 => ?_) (fun hd2 => ?_)
        (try simp only [decide_eq_true_eq, decide_eq_false_iff_not, Bool.not_eq_true', Bool.not_eq_false', Bool.not_eq_true, Bool.not_eq_false, not_true_eq_false, not_false_eq_true, reduceCtorEq] at hd2)
        (try simp only [decide_eq_true_eq, decide_eq_false_iff_not, Bool.not_eq_true', Bool.not_eq_false', Bool.not_eq_true, Bool.not_eq_false, not_true_eq_false, not_false_eq_true, reduceCtorEq] at hd2)
        apply Wp.skip
        apply Out.seqN
        apply Wp.seq
        apply Wp.region
        refine WpL.v (V.ld1 tb) ?_
        refine WpL.v (V.add) ?_
        refine WpL.o (O.st1 tb ?_)
        apply WpL.nil
        apply Out.seqN
        apply Wp.seq
        apply Wp.region
        refine WpL.v (V.ld1 tb) ?_
        refine WpL.v (V.ld1 tb) ?_
        refine WpL.v (V.cmp) ?_
        apply WpL.nil
        apply Out.seqN
        refine Wp.c (fun hd3 => ?_) (fun hd3 => ?_)
        (try simp only [decide_eq_true_eq, decide_eq_false_iff_not, Bool.not_eq_true', Bool.not_eq_false', Bool.not_eq_true, Bool.not_eq_false, not_true_eq_false, not_false_eq_true, reduceCtorEq] at hd3)
        apply Wp.exit
        refine Out.blockO' ?_
        rotate_left
        (try simp only [decide_eq_true_eq, decide_eq_false_iff_not, Bool.not_eq_true', Bool.not_eq_false', Bool.not_eq_true, Bool.not_eq_false, not_true_eq_false, not_false_eq_true, reduceCtorEq] at hd3)
        apply Wp.skip
        apply Out.blockN
        rotate_left
        · exact Out.rdZ hK ⟨n + 1, ⟨.slice (some ⟨g, 0, none⟩) rest.length cp, bt, rest⟩, .slice (some ⟨g2, 0, none⟩) rest.length cp2, t2, rest⟩ ⟨rfl, rfl⟩
        · exact Out.rdZ hK ⟨n + 1, ⟨.slice (some ⟨g, 0, none⟩) rest.length cp, bt, rest⟩, .slice (some ⟨g2, 0, none⟩) rest.length cp2, t2, rest⟩ ⟨rfl, rfl, by show n + 1 + rest.length ≤ 100; omega⟩
      · rintro j ⟨n, ⟨bv, bt, bl⟩, v2, t2, l2⟩ b' ⟨hl, hnj, hj⟩ hstop
        dsimp only at hl
        subst hl
        have hL := wheel_len p20 bv bt l2
        have hL2 := wheel_len p21 v2 t2 l2
        unfold whE at hL hL2
        dsimp only [WB.E, whE, List.cons_append, List.nil_append]
        apply Out.blockN
        apply Out.seqN
        apply Wp.seq
        refine Wp.dG [] ?_ (List.Sublist.cons_cons _ (List.Sublist.cons _ (List.Sublist.cons_cons _ (List.Sublist.cons_cons _ (List.Sublist.cons _ (List.Sublist.cons _ (List.Sublist.cons _ (List.Sublist.cons _ (List.Sublist.cons _ (List.Sublist.cons_cons _ (List.Sublist.cons _ (List.Sublist.cons _ (List.Sublist.cons_cons _ List.Sublist.slnil))))))))))))) (List.Sublist.cons_cons _ (List.Sublist.cons _ (List.Sublist.cons_cons _ (List.Sublist.cons_cons _ (List.Sublist.cons _ (List.Sublist.cons _ (List.Sublist.cons _ (List.Sublist.cons _ (List.Sublist.cons _ (List.Sublist.cons_cons _ (List.Sublist.cons _ (List.Sublist.cons _ (List.Sublist.cons_cons _ List.Sublist.slnil)))))))))))))
        refine WpA.tF 0 rfl (V.mv) ?_
        refine WpA.tF 2 rfl (V.ld1 tb) ?_
        refine WpA.oS 1 rfl (Op1.callT rfl (hL) (by (repeat (first | exact Sel.nil | exact Rem.here | apply Sel.cons | apply Rem.there))) ?_)
        rintro v0 s1 ⟨rfl, rfl⟩
        refine incat ⟨?_, ?_, ?_⟩
        exact holdT
        exact holdT
        refine WpA.oS 3 rfl (Op1.callT rfl (hL2) (by (repeat (first | exact Sel.nil | exact Rem.here | apply Sel.cons | apply Rem.there))) ?_)
        rintro v2 s3 ⟨rfl, rfl⟩
        refine incat ⟨?_, ?_, ?_⟩
        exact holdT
        exact holdT
        refine WpA.tF 4 rfl (V.cmp) ?_
        refine WpA.oS 5 rfl (O.st1 tb ⟨?_, ?_, ?_⟩)
        exact holdT
        exact holdT
        refine WpA.ou ?_
        apply Out.seqN
        apply Wp.ret
        refine Out.f1 rfl (ResIs.c1 tb) ⟨?_, rfl⟩
        focus ((simp); done)
      · rintro j ⟨n, ⟨bv, bt, bl⟩, v2, t2, l2⟩ b' e hwy hgo ⟨rfl, hl⟩
        dsimp only at hl
        subst hl
        have hL := wheel_len p20 bv bt l2
        have hL2 := wheel_len p21 v2 t2 l2
        unfold whE at hL hL2
        dsimp only [WB.E, whE, List.cons_append, List.nil_append]
        apply Out.blockE
        apply Out.seqN
        apply Wp.seq
        refine Wp.dG [] ?_ (List.Sublist.cons_cons _ (List.Sublist.cons _ (List.Sublist.cons_cons _ (List.Sublist.cons_cons _ (List.Sublist.cons _ (List.Sublist.cons _ (List.Sublist.cons _ (List.Sublist.cons _ (List.Sublist.cons _ (List.Sublist.cons_cons _ (List.Sublist.cons _ (List.Sublist.cons _ (List.Sublist.cons_cons _ List.Sublist.slnil))))))))))))) (List.Sublist.cons_cons _ (List.Sublist.cons _ (List.Sublist.cons_cons _ (List.Sublist.cons_cons _ (List.Sublist.cons _ (List.Sublist.cons _ (List.Sublist.cons _ (List.Sublist.cons _ (List.Sublist.cons _ (List.Sublist.cons_cons _ (List.Sublist.cons _ (List.Sublist.cons _ (List.Sublist.cons_cons _ List.Sublist.slnil)))))))))))))
        refine WpA.tF 0 rfl (V.mv) ?_
        refine WpA.tF 2 rfl (V.ld1 tb) ?_
        refine WpA.oS 1 rfl (Op1.callT rfl (hL) (by (repeat (first | exact Sel.nil | exact Rem.here | apply Sel.cons | apply Rem.there))) ?_)
        rintro v0 s1 ⟨rfl, rfl⟩
        refine incat ⟨?_, ?_, ?_⟩
        exact holdT
        exact holdT
        refine WpA.oS 3 rfl (Op1.callT rfl (hL2) (by (repeat (first | exact Sel.nil | exact Rem.here | apply Sel.cons | apply Rem.there))) ?_)
        rintro v2 s3 ⟨rfl, rfl⟩
        refine incat ⟨?_, ?_, ?_⟩
        exact holdT
        exact holdT
        refine WpA.tF 4 rfl (V.cmp) ?_
        refine WpA.oS 5 rfl (O.st1 tb ⟨?_, ?_, ?_⟩)
        exact holdT
        exact holdT
        refine WpA.ou ?_
        apply Out.seqN
        apply Wp.ret
        refine Out.f1 rfl (ResIs.c1 tb) ⟨?_, rfl⟩
        focus ((simp); done)
  · refine Ct.enter Try.func16 rfl rfl fun W => ?_
    apply Wp.seq
    apply Wp.region
    refine WpL.o (O.bx1 (fun p4 => ?_))
    refine WpL.o (O.bx1 (fun p5 => ?_))
    refine WpL.o (O.al tb (fun p6 => ?_))
    apply WpL.nil
    apply Out.seqN
    apply Wp.seq
    apply Wp.seq
    apply Wp.region
    refine WpL.o (Op1.fn rfl (alive10) ?_)
    refine WpL.v (V.not) ?_
    apply WpL.nil
    apply Out.seqN
    refine Wp.cF ?_
    apply Wp.skip
    apply Out.seqN
    apply Wp.seq
    apply Wp.seq
    apply Wp.region
    refine WpL.v (V.mv) ?_
    refine WpL.v (V.lenL tb) ?_
    refine WpL.v (V.cmp) ?_
    apply WpL.nil
    apply Out.seqN
    refine Wp.c (fun hz0 => ?_) (fun hz0 => ?_)
    (try simp only [decide_eq_true_eq, decide_eq_false_iff_not, Bool.not_eq_true', Bool.not_eq_false', Bool.not_eq_true, Bool.not_eq_false, not_true_eq_false, not_false_eq_true, reduceCtorEq] at hz0)
    apply Wp.seq
    apply Wp.region
    refine WpL.o (O.st1 tb ?_)
    apply WpL.nil
    apply Out.seqN
    apply Wp.ret
    apply Out.seqR
    refine Out.f1 rfl (ResIs.c1 tb) ⟨?_, rfl⟩
    exact rfl
    (try simp only [decide_eq_true_eq, decide_eq_false_iff_not, Bool.not_eq_true', Bool.not_eq_false', Bool.not_eq_true, Bool.not_eq_false, not_true_eq_false, not_false_eq_true, reduceCtorEq] at hz0)
    (exfalso; omega)
open Go Go.ChangeShapes Go.WideShapes Go.ChangeAt Go.RowKit
theorem wheelStops_read : (Try.f16.params.toList.all fun t => Try.prog.readableRec t && decide (t < Try.prog.types.size)) = true := by kernel_rfl
theorem wheelStops_lifted (os : Go.Os) (started : os.Started) (H : Type) (enc : Go.TypeId × Go.Value → H) :
    ReturnsInHanded {} Try.checked os 16 .any (Rows.wheelStopsSpec.pre6 enc Try.prog Try.f16 Rows.wheelStopsRow.domain false) (Rows.wheelStopsSpec.post enc Try.prog Try.f16 false true false false) := by
  refine returnsInHanded_of_change_sized (C := Try.checked) own started (by kernel_rfl) Try.func16
    (ChangeSpec.witness6 (enc := enc) (C := Try.checked) false ⟨#[], #[.slice none 0 0, I 0, I 0], []⟩ 8 (by kernel_rfl) (by kernel_rfl) (by kernel_rfl) (by kernel_rfl)) ?_
  intro W base args ds gs before hval0 hW hcnd hsz0 _
  have hsz : (DataW.weightsEach Try.prog (Try.f16.params.toList ++ Rows.wheelStopsSpec.plain.varTypes Try.prog) (ds ++ gs)).all (· ≤ reachBytes) = true := hsz0
  have hval : ∀ (j : Nat) t v, Try.f16.params[j]? = some t → args[j]? = some v → Value.okWide Try.prog W .any base t v := hval0
  have hW' := hW
  obtain ⟨p, q, hA0, hV, rfl, hfz, hnd⟩ := hW
  have hA1 : DataW.TrodAll enc Try.prog W 0 (fun _ => true) true Try.f16.params.toList args.toList ds p := hA0
  have hA := hA1
  rw [Try.params16] at hA hval hsz
  obtain ⟨v0, vs0, d0, ds0, p0, q0, hargs, rfl, rfl, h0, r0⟩ := trodAll_cons hA
  obtain ⟨v1, vs1, d1, ds1, p1, q1, rfl, rfl, rfl, h1, r1⟩ := trodAll_cons r0
  obtain ⟨v2, vs2, d2, ds2, p2, q2, rfl, rfl, rfl, h2, r2⟩ := trodAll_cons r1
  obtain ⟨rfl, rfl, rfl⟩ := trodAll_nil r2
  obtain rfl : args = #[v0, v1, v2] := by cases args; simp_all
  obtain ⟨rfl, rfl⟩ := trodVars_none hV
  obtain ⟨ao0, b0, off0, len0, cap0, xs0, rfl, hl0, hlc0, hcm0, ha0, hs0, hf0, hby0⟩ := open_slice_plain Try.underlying92 Caucuslaw10Call.leaves (by kernel_rfl) (by decide) (hval 0 92 v0 rfl rfl) h0 (sizedAll hsz 0 rfl rfl)
  obtain ⟨x0, rfl, w0⟩ := fits_map Caucuslaw10Call.c Caucuslaw10Call.wf hf0 Caucuslaw10Call.fit
  obtain rfl : len0 = x0.length := by simpa using hl0.symm
  obtain ⟨x1, rfl, rfl, rfl, w1⟩ := open_int Try.underlying3 (hval 1 3 v1 rfl rfl) h1
  obtain ⟨x2, rfl, rfl, rfl, w2⟩ := open_int Try.underlying3 (hval 2 3 v2 rfl rfl) h2
  simp only [List.append_nil] at hW' hA1
  have hbl : ∀ p : Nat × Nat, p ∈ [(x0.length, b0)] → 0 < p.1 → p.2 < W.heap.size := by
    intro p hp h0
    simp only [List.mem_cons, List.mem_nil_iff, or_false] at hp
    rcases hp with rfl
    · exact (ha0 h0).2
  have hR0 : Rd (snap W (blocksOf [(x0.length, b0)])) ao0 x0.length b0 off0 3 (x0.map Caucuslaw10Call.c) := Rd.snap (by simp) (Nat.le_trans hlc0 hcm0) ha0 hs0 (fun h => blocksOf_mem (len := x0.length) (by simp) h)
  refine (Ct.runSnap (blocksOf_nodup _) (blocksOf_lt hbl) (wheelStops_walk _ _ _ _ _ x1 x2 x0 hR0)).mono fun e W' hh => ?_
  obtain ⟨rfl, hS⟩ := hh
  exact ⟨_, rfl, post_law (P := Try.prog) (f := Try.f16) (tbool := 4) hW' hA1 rfl rfl hS laid wheelStops_read rfl Try.underlying4⟩
theorem wheelStops_joined : joinedFacts Try.prog 16 Try.f16 Rows.wheelStopsSpec Rows.wheelStopsRow = true := by
  unfold joinedFacts
  rewrite [head_enter, head_lift, head_make]
  kernel_rfl
theorem wheelStops_over : Rows.wheelStopsRow.holds Try.pinned (OpenSpec.ofChange Rows.wheelStopsSpec) :=
  OpenClaim.holds_of_wide 16 Try.f16 rfl rfl rfl rfl rfl rfl rfl ⟨rfl, rfl, rfl, rfl, rfl⟩ rfl rfl rfl rfl rfl (by kernel_rfl) Try.func16 wheelStops_joined
    (of_decide_eq_true (by kernel_rfl)) (by unfold Func.isWrapper; first | (rw [if_pos (by decide +kernel)]; kernel_rfl) | (rw [if_neg (by decide +kernel)]; exact ⟨rfl, rfl⟩))
    (fun os started H enc _ => wheelStops_lifted os started H enc)
/-- THE STATEMENT. -/
theorem wheelStops_proved : Rows.WheelStopsSaid := wheelStops_over
#print axioms wheelStops_proved

end Go.Proofs.Ythoepbbpmdmfeaa
