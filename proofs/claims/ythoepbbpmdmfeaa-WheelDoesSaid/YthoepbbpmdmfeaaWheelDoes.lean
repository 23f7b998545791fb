/-
  The statement WheelDoes of layer 10: in every script each answer is the document's; a nil wheel. Proved for every input.
-/
import Derived.Test.YthoepbbpmdmfeaaHead
import Derived.Test.YthoepbbpmdmfeaaWheelM
namespace Go.Proofs.Ythoepbbpmdmfeaa
open Go.HL
set_option linter.unusedSimpArgs false
set_option linter.unusedVariables false
set_option maxRecDepth 8000
theorem drop2 (a b : Int) (l : List Sp) : dropN [a, b] (0, l) = ((if (fix a l).isSome then 1 else 0) + (if (fix b (delK a l)).isSome then 1 else 0), delK b (delK a l)) := by
  rw [delK_eq b, delK_eq a]
  unfold dropN
  simp only [List.foldl_cons, List.foldl_nil]
  cases fix a l with
  | none => dsimp only; cases fix b l <;> rfl
  | some i => dsimp only; cases fix b (l.eraseIdx i) <;> rfl
theorem delK_le (a : Int) (l : List Sp) : (delK a l).length ≤ l.length := (dropN_le [a] (0, l)).2
theorem popCase (now : Int) (l : List Sp) : (∀ s, l.head? = some s → now < s.due) ∨ ∃ s rest, l = s :: rest ∧ s.due ≤ now := by
  cases l with
  | nil => exact .inl fun s h => by cases h
  | cons s rest =>
    by_cases h : s.due ≤ now
    · exact .inr ⟨s, rest, rfl, h⟩
    · exact .inl fun s' h' => by cases h'; omega
structure DS10 where
  k : Nat
  t : Int
  v : Go.Value
  l : List Sp
  vk : Go.Value
  vd : Go.Value
  ks : List Int
  ds : List Int
set_option maxHeartbeats 4000000 in
theorem wheelDoes_walk (e : Ent) (ao : Option Go.Addr) (cap b off : Nat) (xs : List Caucuslaw10Call) (hR : Rd e ao xs.length b off 3 (xs.map Caucuslaw10Call.c)) :
    Ct Try.prog 17 [.slice ao xs.length cap] [e] (fun r σ' => r = B true ∧ σ' = [e]) := by
  have hm := hR.small
  simp only [Go.maxLen] at hm
  have hN := wheel_new
  unfold whE at hN
  by_cases hs : xs.length ≤ 100
  · refine Ct.enter Try.func17 rfl rfl fun W => ?_
    refine Wp.nilRows i64c 3 1 ?_
    refine Wp.nilRows i64c 3 1 ?_
    apply Wp.seq
    apply Wp.region
    refine WpL.o (O.al tb (fun p2 => ?_))
    apply WpL.nil
    apply Out.seqN
    apply Wp.seq
    apply Wp.seq
    apply Wp.region
    refine WpL.o (Op1.fn rfl (alive10) ?_)
    refine WpL.v (V.not) ?_
    apply WpL.nil
    apply Out.seqN
    refine Wp.cF ?_
    apply Wp.skip
    apply Out.seqN
    apply Wp.seq
    apply Wp.seq
    apply Wp.region
    refine WpL.v (V.mv) ?_
    refine WpL.v (V.lenL tb) ?_
    refine WpL.v (V.cmp) ?_
    apply WpL.nil
    apply Out.seqN
    refine Wp.c (fun ha0 => ?_) (fun ha0 => ?_)
    (try simp only [decide_eq_true_eq, decide_eq_false_iff_not, Bool.not_eq_true', Bool.not_eq_false', Bool.not_eq_true, Bool.not_eq_false, not_true_eq_false, not_false_eq_true, reduceCtorEq] at ha0)
    (exfalso; omega)
    (try simp only [decide_eq_true_eq, decide_eq_false_iff_not, Bool.not_eq_true', Bool.not_eq_false', Bool.not_eq_true, Bool.not_eq_false, not_true_eq_false, not_false_eq_true, reduceCtorEq] at ha0)
    apply Wp.skip
    apply Out.seqN
    apply Wp.seq
    apply Wp.region
    refine WpL.o (Op1.callT rfl (hN) (by (repeat (first | exact Sel.nil | exact Rem.here | apply Sel.cons | apply Rem.there))) ?_)
    rintro v1 s2 ⟨p26, ⟨rfl, rfl⟩⟩
    refine incat ?_
    refine WpL.v (V.bld tb) ?_
    refine WpL.o (O.bxA (fun p28 => ?_))
    refine WpL.v (V.as) ?_
    refine WpL.v (V.as) ?_
    apply WpL.nil
    apply Out.seqN
    apply Wp.seq
    apply Wp.seq
    apply Wp.region
    refine WpL.v (V.mv) ?_
    refine WpL.v (V.lenL tb) ?_
    refine WpL.v (V.mv) ?_
    apply WpL.nil
    apply Out.seqN
    apply Wp.block
    refine Wp.lp [30, 29, 4, 3, 2] (fun y : DS10 => y.k ≤ xs.length ∧ WI y.t y.l y.ks y.ds ∧ y.l.length ≤ y.k ∧ y.t ≤ y.k) (fun y => [(31, I (y.k : Int))]) (fun y => [cells p26 146 (WheelWheelOfInt.c ⟨y.v, y.t⟩), rows WheelSpokeOfInt.c y.v 148 3 y.l, cells p28 97 (Caucusref10Wheel.c ⟨y.vk, y.vd⟩), rows i64c y.vk 3 1 y.ks, rows i64c y.vd 3 1 y.ds]) (fun y => xs.length - y.k) ⟨0, 0, .slice none 0 0, [], .slice none 0 0, .slice none 0 0, [], []⟩ ⟨Nat.zero_le _, WI.zero, Nat.le_refl _, Int.le_refl _⟩ ?_
    rintro ⟨k, t, v, l, vk, vd, ks, ds⟩ ⟨hk, hw1, hlk, htk⟩ K hK
    dsimp only at hk hw1 hlk htk
    dsimp only [List.cons_append, List.nil_append]
    have hwl := hw1.lens
    have ht0 := hw1.t0
    by_cases hlt : k < xs.length
    · obtain ⟨s, hsx⟩ := getS hlt
      by_cases k0 : s.Kind = 0
      · have hS := wheel_set p26 v t l s.Key s.N (hw1.toW1.del s.Key).sorted (by omega) (by omega)
        have hS2 := ref_set p28 vk vd ks ds s.Key s.N (by omega) (by omega)
        have hsl := set_len (t := t) (l := l) s.Key s.N
        have hw3 := hw1.set s.Key s.N
        generalize insS ⟨s.Key, s.N, t⟩ (delK s.Key l) = l2 at *
        generalize (rdel s.Key ks ds).1 ++ [s.Key] = ks2 at *
        generalize (rdel s.Key ks ds).2 ++ [s.N] = ds2 at *
        have hL (v : Go.Value) := wheel_len p26 v (t + 1) l2
        rw [← hw3.lens.1] at hL
        unfold whE at hS hL
        unfold rwE at hS2
        apply Wp.seq
        apply Wp.region
        refine WpL.v (V.cmp) ?_
        apply WpL.nil
        apply Out.seqN
        apply Wp.seq
        refine Wp.c (fun hb0 => ?_) (fun hb0 => ?_)
        (try simp only [decide_eq_true_eq, decide_eq_false_iff_not, Bool.not_eq_true', Bool.not_eq_false', Bool.not_eq_true, Bool.not_eq_false, not_true_eq_false, not_false_eq_true, reduceCtorEq] at hb0)
        apply Wp.skip
        apply Out.seqN
        apply Wp.seq
        apply Wp.block
        apply Wp.seq
        apply Wp.region
        refine WpL.v (V.ixR tb rfl rfl (by assumption)) ?_
        refine WpL.v (V.ldRA tb rfl (by assumption) (getMapS (by assumption))) ?_
        refine WpL.o (O.al tb (fun p6 => ?_))
        refine WpL.o (O.stA tb ?_)
        apply WpL.nil
        apply Out.seqN
        apply Wp.seq
        apply Wp.region
        refine WpL.v (V.as) ?_
        apply WpL.nil
        apply Out.seqN
        apply Wp.seq
        apply Wp.seq
        apply Wp.region
        refine WpL.v (V.fa tb) ?_
        refine WpL.v (V.ld1 tb) ?_
        apply WpL.nil
        apply Out.seqN
        apply Wp.block
        apply Wp.seq
        apply Wp.region
        refine WpL.v (V.cmp) ?_
        refine WpL.v (V.as) ?_
        apply WpL.nil
        apply Out.seqN
        refine Wp.c (fun hb1 => ?_) (fun hb1 => ?_)
        (try simp only [decide_eq_true_eq, decide_eq_false_iff_not, Bool.not_eq_true', Bool.not_eq_false', Bool.not_eq_true, Bool.not_eq_false, not_true_eq_false, not_false_eq_true, reduceCtorEq] at hb1)
        apply Wp.seq
        apply Wp.region
        refine WpL.v (V.mv) ?_
        refine WpL.v (V.fa tb) ?_
        refine WpL.v (V.ld1 tb) ?_
        refine WpL.v (V.fa tb) ?_
        refine WpL.v (V.ld1 tb) ?_
        refine WpL.o (Op1.callT rfl (hS) (by (repeat (first | exact Sel.nil | exact Rem.here | apply Sel.cons | apply Rem.there))) ?_)
        rintro v2 s3 ⟨g44, ⟨cap44, ⟨rfl, rfl⟩⟩⟩
        refine incat ?_
        apply WpL.nil
        apply Out.seqN
        apply Wp.region
        refine WpL.v (V.mv) ?_
        refine WpL.v (V.fa tb) ?_
        refine WpL.v (V.ld1 tb) ?_
        refine WpL.v (V.fa tb) ?_
        refine WpL.v (V.ld1 tb) ?_
        refine WpL.o (Op1.callT rfl (hS2) (by (repeat (first | exact Sel.nil | exact Rem.here | apply Sel.cons | apply Rem.there))) ?_)
        rintro v4 s5 ⟨wk50, ⟨wd50, ⟨rfl, rfl⟩⟩⟩
        refine incat ?_
        apply WpL.nil
        apply Out.blockN
        apply Out.seqN
        apply Wp.seq
        refine Wp.dG [] ?_ (List.Sublist.cons_cons _ (List.Sublist.cons _ (List.Sublist.cons _ (List.Sublist.cons _ (List.Sublist.cons _ (List.Sublist.cons _ (List.Sublist.cons _ (List.Sublist.cons _ List.Sublist.slnil)))))))) (List.Sublist.cons_cons _ (List.Sublist.cons _ (List.Sublist.cons _ (List.Sublist.cons _ (List.Sublist.cons _ (List.Sublist.cons _ (List.Sublist.cons _ (List.Sublist.cons _ List.Sublist.slnil))))))))
        refine WpA.tF 0 rfl (V.mv) ?_
        refine WpA.tF 1 rfl (V.not) ?_
        refine WpA.tF 2 rfl (V.mv) ?_
        refine WpA.tF 3 rfl (V.mv) ?_
        refine WpA.tF 5 rfl (V.mv) ?_
        refine WpA.tF 6 rfl (V.nc) ?_
        refine WpA.tF 7 rfl (V.fa tb) ?_
        refine WpA.tF 8 rfl (V.ld1 tb) ?_
        refine WpA.e2 4 9 rfl rfl ?_ ?_
        refine Op1.callT rfl (hL _) (by (repeat (first | exact Sel.nil | exact Rem.here | apply Sel.cons | apply Rem.there))) ?_
        rintro v6 s7 ⟨rfl, rfl⟩
        refine incat ⟨?_, ?_, ?_⟩
        exact holdT
        exact holdT
        refine WpA.oS 9 rfl (Op1.vv (V.lenRows tb) ⟨?_, ?_, ?_⟩)
        exact holdT
        exact holdT
        refine WpA.tF 10 rfl (V.cmp) ?_
        refine WpA.tF 11 rfl (V.pF) ?_
        refine WpA.ou ?_
        apply Out.seqN
        refine Wp.c (fun hb8 => ?_) (fun hb8 => ?_)
        (try simp only [decide_eq_true_eq, decide_eq_false_iff_not, Bool.not_eq_true', Bool.not_eq_false', Bool.not_eq_true, Bool.not_eq_false, not_true_eq_false, not_false_eq_true, reduceCtorEq] at hb8)
        (try simp only [decide_eq_true_eq, decide_eq_false_iff_not, Bool.not_eq_true', Bool.not_eq_false', Bool.not_eq_true, Bool.not_eq_false, not_true_eq_false, not_false_eq_true, reduceCtorEq] at hb8)
        apply Wp.skip
        apply Out.blockN
        apply Out.seqN
        apply Wp.region
        refine WpL.v (V.add) ?_
        refine WpL.v (V.mv) ?_
        apply WpL.nil
        rotate_left
        refine Op1.vv (V.lenRows tb) ⟨?_, ?_, ?_⟩
        exact holdT
        exact holdT
        refine WpA.oS 4 rfl (Op1.callT rfl (hL _) (by (repeat (first | exact Sel.nil | exact Rem.here | apply Sel.cons | apply Rem.there))) ?_)
        rintro v9 s10 ⟨rfl, rfl⟩
        refine incat ⟨?_, ?_, ?_⟩
        exact holdT
        exact holdT
        refine WpA.tF 10 rfl (V.cmp) ?_
        refine WpA.tF 11 rfl (V.pF) ?_
        refine WpA.ou ?_
        apply Out.seqN
        refine Wp.c (fun hb11 => ?_) (fun hb11 => ?_)
        (try simp only [decide_eq_true_eq, decide_eq_false_iff_not, Bool.not_eq_true', Bool.not_eq_false', Bool.not_eq_true, Bool.not_eq_false, not_true_eq_false, not_false_eq_true, reduceCtorEq] at hb11)
        (try simp only [decide_eq_true_eq, decide_eq_false_iff_not, Bool.not_eq_true', Bool.not_eq_false', Bool.not_eq_true, Bool.not_eq_false, not_true_eq_false, not_false_eq_true, reduceCtorEq] at hb11)
        apply Wp.skip
        apply Out.blockN
        apply Out.seqN
        apply Wp.region
        refine WpL.v (V.add) ?_
        refine WpL.v (V.mv) ?_
        apply WpL.nil
        rotate_left
        (try simp only [decide_eq_true_eq, decide_eq_false_iff_not, Bool.not_eq_true', Bool.not_eq_false', Bool.not_eq_true, Bool.not_eq_false, not_true_eq_false, not_false_eq_true, reduceCtorEq] at hb1)
        (exfalso; omega)
        (try simp only [decide_eq_true_eq, decide_eq_false_iff_not, Bool.not_eq_true', Bool.not_eq_false', Bool.not_eq_true, Bool.not_eq_false, not_true_eq_false, not_false_eq_true, reduceCtorEq] at hb0)
        (exfalso; omega)
        all_goals exact Out.ag hK ⟨k + 1, t + 1, _, l2, _, _, ks2, ds2⟩ ⟨by show k + 1 ≤ _; omega, hw3, by show l2.length ≤ k + 1; omega, by show t + 1 ≤ ((k + 1 : Nat) : Int); omega⟩ (by show xs.length - (k + 1) < xs.length - k; omega)
      · by_cases k1 : s.Kind = 1
        · have hadd : ariI .add .i64 s.Key 1 = some (Go.IntKind.wrap .i64 (s.Key + 1)) := rfl
          generalize Go.IntKind.wrap .i64 (s.Key + 1) = key2 at hadd
          have hA := ref_drop2 p28 vk vd ks ds s.Key (by omega) (by omega)
          obtain ⟨hw2, hb1⟩ := hw1.del s.Key
          have hle1 := delK_le s.Key l
          have hdn := drop2 s.Key key2 l
          have hD (g : Nat) := wheel_drop p26 v t l (rows i64c (.slice (some ⟨g, 0, none⟩) 2 2) 3 1 [s.Key, key2]) (some ⟨g, 0, none⟩) 2 g 0 [s.Key, key2] (Rd.rows (l := [s.Key, key2]) (fun _ => rfl) (by simp)) (by omega) (by simp)
          rw [hdn, ← hb1] at hD
          clear hdn hb1
          generalize delK s.Key l = l2 at *
          generalize (rdel s.Key ks ds).1 = ks2 at *
          generalize (rdel s.Key ks ds).2 = ds2 at *
          have hwl2 := hw2.lens
          have hB (vk vd : Go.Value) := ref_drop2 p28 vk vd ks2 ds2 key2 (by omega) (by omega)
          obtain ⟨hw3, hb2⟩ := hw2.del key2
          rw [← hb2] at hD
          have hle2 := delK_le key2 l2
          clear hb2
          generalize delK key2 l2 = l3 at *
          generalize (rdel key2 ks2 ds2).1 = ks3 at *
          generalize (rdel key2 ks2 ds2).2 = ds3 at *
          have hL (v : Go.Value) := wheel_len p26 v t l3
          rw [← hw3.lens.1] at hL
          unfold whE at hD hL
          unfold rwE at hA hB
          dsimp only [List.cons_append, List.nil_append] at hD
          cases hc1 : (rfx s.Key ks).isSome with
          | false =>
            rw [hc1] at hD hA
            cases hc2 : (rfx key2 ks2).isSome with
            | false =>
              rw [hc2] at hD hB
              simp only [Bool.false_eq_true, if_false, if_true, Nat.zero_add, Nat.add_zero] at hD
              apply Wp.seq
              apply Wp.region
              refine WpL.v (V.cmp) ?_
              apply WpL.nil
              apply Out.seqN
              apply Wp.seq
              refine Wp.c (fun hc00 => ?_) (fun hc00 => ?_)
              (try simp only [decide_eq_true_eq, decide_eq_false_iff_not, Bool.not_eq_true', Bool.not_eq_false', Bool.not_eq_true, Bool.not_eq_false, not_true_eq_false, not_false_eq_true, reduceCtorEq] at hc00)
              apply Wp.skip
              apply Out.seqN
              apply Wp.seq
              apply Wp.block
              apply Wp.seq
              apply Wp.region
              refine WpL.v (V.ixR tb rfl rfl (by assumption)) ?_
              refine WpL.v (V.ldRA tb rfl (by assumption) (getMapS (by assumption))) ?_
              refine WpL.o (O.al tb (fun p6 => ?_))
              refine WpL.o (O.stA tb ?_)
              apply WpL.nil
              apply Out.seqN
              apply Wp.seq
              apply Wp.region
              refine WpL.v (V.as) ?_
              apply WpL.nil
              apply Out.seqN
              apply Wp.seq
              apply Wp.seq
              apply Wp.region
              refine WpL.v (V.fa tb) ?_
              refine WpL.v (V.ld1 tb) ?_
              apply WpL.nil
              apply Out.seqN
              apply Wp.block
              apply Wp.seq
              apply Wp.region
              refine WpL.v (V.cmp) ?_
              refine WpL.v (V.as) ?_
              apply WpL.nil
              apply Out.seqN
              refine Wp.c (fun hc01 => ?_) (fun hc01 => ?_)
              (try simp only [decide_eq_true_eq, decide_eq_false_iff_not, Bool.not_eq_true', Bool.not_eq_false', Bool.not_eq_true, Bool.not_eq_false, not_true_eq_false, not_false_eq_true, reduceCtorEq] at hc01)
              (exfalso; omega)
              (try simp only [decide_eq_true_eq, decide_eq_false_iff_not, Bool.not_eq_true', Bool.not_eq_false', Bool.not_eq_true, Bool.not_eq_false, not_true_eq_false, not_false_eq_true, reduceCtorEq] at hc01)
              apply Wp.seq
              apply Wp.region
              refine WpL.v (V.cmp) ?_
              refine WpL.v (V.as) ?_
              apply WpL.nil
              apply Out.seqN
              refine Wp.c (fun hc02 => ?_) (fun hc02 => ?_)
              (try simp only [decide_eq_true_eq, decide_eq_false_iff_not, Bool.not_eq_true', Bool.not_eq_false', Bool.not_eq_true, Bool.not_eq_false, not_true_eq_false, not_false_eq_true, reduceCtorEq] at hc02)
              apply Wp.seq
              apply Wp.region
              refine WpL.v (V.as) ?_
              apply WpL.nil
              apply Out.seqN
              apply Wp.seq
              apply Wp.seq
              apply Wp.region
              refine WpL.v (V.mv) ?_
              refine WpL.v (V.fa tb) ?_
              refine WpL.v (V.ld1 tb) ?_
              refine WpL.o (Op1.callT rfl (hA) (by (repeat (first | exact Sel.nil | exact Rem.here | apply Sel.cons | apply Rem.there))) ?_)
              rintro v3 s4 ⟨wk56, ⟨wd56, ⟨rfl, rfl⟩⟩⟩
              refine incat ?_
              apply WpL.nil
              apply Out.seqN
              refine Wp.cF ?_
              apply Wp.skip
              apply Out.seqN
              apply Wp.seq
              apply Wp.seq
              apply Wp.region
              refine WpL.v (V.mv) ?_
              refine WpL.v (V.fa tb) ?_
              refine WpL.v (V.ld1 tb) ?_
              refine WpL.v (V.ariE rfl rfl hadd) ?_
              refine WpL.o (Op1.callT rfl (hB _ _) (by (repeat (first | exact Sel.nil | exact Rem.here | apply Sel.cons | apply Rem.there))) ?_)
              rintro v5 s6 ⟨wk63, ⟨wd63, ⟨rfl, rfl⟩⟩⟩
              refine incat ?_
              apply WpL.nil
              apply Out.seqN
              refine Wp.cF ?_
              apply Wp.skip
              apply Out.seqN
              apply Wp.region
              refine WpL.v (V.mv) ?_
              refine WpL.v (V.fa tb) ?_
              refine WpL.v (V.ld1 tb) ?_
              refine WpL.v (V.fa tb) ?_
              refine WpL.v (V.ld1 tb) ?_
              refine WpL.v (V.ariE rfl rfl hadd) ?_
              refine WpL.o (O.litL tb i64c [s.Key, key2] rfl (PartsFrom.one rfl (PartsFrom.one rfl PartsFrom.nil)) rfl rfl (fun p72 => ?_))
              refine WpL.o (Op1.callT rfl (hD _) (by (repeat (first | exact Sel.nil | exact Rem.here | apply Sel.cons | apply Rem.there))) ?_)
              rintro v7 s8 ⟨v'73, ⟨rfl, rfl⟩⟩
              refine incat ?_
              refine WpL.v (V.mv) ?_
              refine WpL.v (V.cmp) ?_
              refine WpL.v (V.as) ?_
              apply WpL.nil
              apply Out.blockN
              apply Out.seqN
              apply Wp.seq
              refine Wp.dG [] ?_ (List.Sublist.cons _ (List.Sublist.cons _ (List.Sublist.cons _ (List.Sublist.cons_cons _ (List.Sublist.cons _ (List.Sublist.cons _ (List.Sublist.cons _ (List.Sublist.cons _ (List.Sublist.cons _ List.Sublist.slnil))))))))) (List.Sublist.cons _ (List.Sublist.cons _ (List.Sublist.cons _ (List.Sublist.cons_cons _ (List.Sublist.cons _ (List.Sublist.cons _ (List.Sublist.cons _ (List.Sublist.cons _ (List.Sublist.cons _ List.Sublist.slnil)))))))))
              refine WpA.tF 0 rfl (V.mv) ?_
              refine WpA.tF 1 rfl (V.not) ?_
              refine WpA.tF 2 rfl (V.mv) ?_
              refine WpA.tF 3 rfl (V.mv) ?_
              refine WpA.tF 5 rfl (V.mv) ?_
              refine WpA.tF 6 rfl (V.nc) ?_
              refine WpA.tF 7 rfl (V.fa tb) ?_
              refine WpA.tF 8 rfl (V.ld1 tb) ?_
              refine WpA.e2 4 9 rfl rfl ?_ ?_
              refine Op1.callT rfl (hL _) (by (repeat (first | exact Sel.nil | exact Rem.here | apply Sel.cons | apply Rem.there))) ?_
              rintro v9 s10 ⟨rfl, rfl⟩
              refine incat ⟨?_, ?_, ?_⟩
              exact holdT
              exact holdT
              refine WpA.oS 9 rfl (Op1.vv (V.lenRows tb) ⟨?_, ?_, ?_⟩)
              exact holdT
              exact holdT
              refine WpA.tF 10 rfl (V.cmp) ?_
              refine WpA.tF 11 rfl (V.pF) ?_
              refine WpA.ou ?_
              apply Out.seqN
              refine Wp.c (fun hc011 => ?_) (fun hc011 => ?_)
              (try simp only [decide_eq_true_eq, decide_eq_false_iff_not, Bool.not_eq_true', Bool.not_eq_false', Bool.not_eq_true, Bool.not_eq_false, not_true_eq_false, not_false_eq_true, reduceCtorEq] at hc011)
              (try simp only [decide_eq_true_eq, decide_eq_false_iff_not, Bool.not_eq_true', Bool.not_eq_false', Bool.not_eq_true, Bool.not_eq_false, not_true_eq_false, not_false_eq_true, reduceCtorEq] at hc011)
              apply Wp.skip
              apply Out.blockN
              apply Out.seqN
              apply Wp.region
              refine WpL.v (V.add) ?_
              refine WpL.v (V.mv) ?_
              apply WpL.nil
              rotate_left
              refine Op1.vv (V.lenRows tb) ⟨?_, ?_, ?_⟩
              exact holdT
              exact holdT
              refine WpA.oS 4 rfl (Op1.callT rfl (hL _) (by (repeat (first | exact Sel.nil | exact Rem.here | apply Sel.cons | apply Rem.there))) ?_)
              rintro v12 s13 ⟨rfl, rfl⟩
              refine incat ⟨?_, ?_, ?_⟩
              exact holdT
              exact holdT
              refine WpA.tF 10 rfl (V.cmp) ?_
              refine WpA.tF 11 rfl (V.pF) ?_
              refine WpA.ou ?_
              apply Out.seqN
              refine Wp.c (fun hc014 => ?_) (fun hc014 => ?_)
              (try simp only [decide_eq_true_eq, decide_eq_false_iff_not, Bool.not_eq_true', Bool.not_eq_false', Bool.not_eq_true, Bool.not_eq_false, not_true_eq_false, not_false_eq_true, reduceCtorEq] at hc014)
              (try simp only [decide_eq_true_eq, decide_eq_false_iff_not, Bool.not_eq_true', Bool.not_eq_false', Bool.not_eq_true, Bool.not_eq_false, not_true_eq_false, not_false_eq_true, reduceCtorEq] at hc014)
              apply Wp.skip
              apply Out.blockN
              apply Out.seqN
              apply Wp.region
              refine WpL.v (V.add) ?_
              refine WpL.v (V.mv) ?_
              apply WpL.nil
              rotate_left
              (try simp only [decide_eq_true_eq, decide_eq_false_iff_not, Bool.not_eq_true', Bool.not_eq_false', Bool.not_eq_true, Bool.not_eq_false, not_true_eq_false, not_false_eq_true, reduceCtorEq] at hc02)
              (exfalso; omega)
              (try simp only [decide_eq_true_eq, decide_eq_false_iff_not, Bool.not_eq_true', Bool.not_eq_false', Bool.not_eq_true, Bool.not_eq_false, not_true_eq_false, not_false_eq_true, reduceCtorEq] at hc00)
              (exfalso; omega)
              all_goals exact Out.ag hK ⟨k + 1, t, _, l3, _, _, ks3, ds3⟩ ⟨by show k + 1 ≤ _; omega, hw3, by show l3.length ≤ k + 1; omega, by show t ≤ ((k + 1 : Nat) : Int); omega⟩ (by show xs.length - (k + 1) < xs.length - k; omega)
            | true =>
              rw [hc2] at hD hB
              simp only [Bool.false_eq_true, if_false, if_true, Nat.zero_add, Nat.add_zero] at hD
              apply Wp.seq
              apply Wp.region
              refine WpL.v (V.cmp) ?_
              apply WpL.nil
              apply Out.seqN
              apply Wp.seq
              refine Wp.c (fun hc10 => ?_) (fun hc10 => ?_)
              (try simp only [decide_eq_true_eq, decide_eq_false_iff_not, Bool.not_eq_true', Bool.not_eq_false', Bool.not_eq_true, Bool.not_eq_false, not_true_eq_false, not_false_eq_true, reduceCtorEq] at hc10)
              apply Wp.skip
              apply Out.seqN
              apply Wp.seq
              apply Wp.block
              apply Wp.seq
              apply Wp.region
              refine WpL.v (V.ixR tb rfl rfl (by assumption)) ?_
              refine WpL.v (V.ldRA tb rfl (by assumption) (getMapS (by assumption))) ?_
              refine WpL.o (O.al tb (fun p6 => ?_))
              refine WpL.o (O.stA tb ?_)
              apply WpL.nil
              apply Out.seqN
              apply Wp.seq
              apply Wp.region
              refine WpL.v (V.as) ?_
              apply WpL.nil
              apply Out.seqN
              apply Wp.seq
              apply Wp.seq
              apply Wp.region
              refine WpL.v (V.fa tb) ?_
              refine WpL.v (V.ld1 tb) ?_
              apply WpL.nil
              apply Out.seqN
              apply Wp.block
              apply Wp.seq
              apply Wp.region
              refine WpL.v (V.cmp) ?_
              refine WpL.v (V.as) ?_
              apply WpL.nil
              apply Out.seqN
              refine Wp.c (fun hc11 => ?_) (fun hc11 => ?_)
              (try simp only [decide_eq_true_eq, decide_eq_false_iff_not, Bool.not_eq_true', Bool.not_eq_false', Bool.not_eq_true, Bool.not_eq_false, not_true_eq_false, not_false_eq_true, reduceCtorEq] at hc11)
              (exfalso; omega)
              (try simp only [decide_eq_true_eq, decide_eq_false_iff_not, Bool.not_eq_true', Bool.not_eq_false', Bool.not_eq_true, Bool.not_eq_false, not_true_eq_false, not_false_eq_true, reduceCtorEq] at hc11)
              apply Wp.seq
              apply Wp.region
              refine WpL.v (V.cmp) ?_
              refine WpL.v (V.as) ?_
              apply WpL.nil
              apply Out.seqN
              refine Wp.c (fun hc12 => ?_) (fun hc12 => ?_)
              (try simp only [decide_eq_true_eq, decide_eq_false_iff_not, Bool.not_eq_true', Bool.not_eq_false', Bool.not_eq_true, Bool.not_eq_false, not_true_eq_false, not_false_eq_true, reduceCtorEq] at hc12)
              apply Wp.seq
              apply Wp.region
              refine WpL.v (V.as) ?_
              apply WpL.nil
              apply Out.seqN
              apply Wp.seq
              apply Wp.seq
              apply Wp.region
              refine WpL.v (V.mv) ?_
              refine WpL.v (V.fa tb) ?_
              refine WpL.v (V.ld1 tb) ?_
              refine WpL.o (Op1.callT rfl (hA) (by (repeat (first | exact Sel.nil | exact Rem.here | apply Sel.cons | apply Rem.there))) ?_)
              rintro v3 s4 ⟨wk56, ⟨wd56, ⟨rfl, rfl⟩⟩⟩
              refine incat ?_
              apply WpL.nil
              apply Out.seqN
              refine Wp.cF ?_
              apply Wp.skip
              apply Out.seqN
              apply Wp.seq
              apply Wp.seq
              apply Wp.region
              refine WpL.v (V.mv) ?_
              refine WpL.v (V.fa tb) ?_
              refine WpL.v (V.ld1 tb) ?_
              refine WpL.v (V.ariE rfl rfl hadd) ?_
              refine WpL.o (Op1.callT rfl (hB _ _) (by (repeat (first | exact Sel.nil | exact Rem.here | apply Sel.cons | apply Rem.there))) ?_)
              rintro v5 s6 ⟨wk63, ⟨wd63, ⟨rfl, rfl⟩⟩⟩
              refine incat ?_
              apply WpL.nil
              apply Out.seqN
              refine Wp.cT ?_
              apply Wp.region
              refine WpL.v (V.mv) ?_
              refine WpL.v (V.add) ?_
              refine WpL.v (V.as) ?_
              apply WpL.nil
              apply Out.seqN
              apply Wp.region
              refine WpL.v (V.mv) ?_
              refine WpL.v (V.fa tb) ?_
              refine WpL.v (V.ld1 tb) ?_
              refine WpL.v (V.fa tb) ?_
              refine WpL.v (V.ld1 tb) ?_
              refine WpL.v (V.ariE rfl rfl hadd) ?_
              refine WpL.o (O.litL tb i64c [s.Key, key2] rfl (PartsFrom.one rfl (PartsFrom.one rfl PartsFrom.nil)) rfl rfl (fun p72 => ?_))
              refine WpL.o (Op1.callT rfl (hD _) (by (repeat (first | exact Sel.nil | exact Rem.here | apply Sel.cons | apply Rem.there))) ?_)
              rintro v7 s8 ⟨v'73, ⟨rfl, rfl⟩⟩
              refine incat ?_
              refine WpL.v (V.mv) ?_
              refine WpL.v (V.cmp) ?_
              refine WpL.v (V.as) ?_
              apply WpL.nil
              apply Out.blockN
              apply Out.seqN
              apply Wp.seq
              refine Wp.dG [] ?_ (List.Sublist.cons _ (List.Sublist.cons _ (List.Sublist.cons _ (List.Sublist.cons_cons _ (List.Sublist.cons _ (List.Sublist.cons _ (List.Sublist.cons _ (List.Sublist.cons _ (List.Sublist.cons _ List.Sublist.slnil))))))))) (List.Sublist.cons _ (List.Sublist.cons _ (List.Sublist.cons _ (List.Sublist.cons_cons _ (List.Sublist.cons _ (List.Sublist.cons _ (List.Sublist.cons _ (List.Sublist.cons _ (List.Sublist.cons _ List.Sublist.slnil)))))))))
              refine WpA.tF 0 rfl (V.mv) ?_
              refine WpA.tF 1 rfl (V.not) ?_
              refine WpA.tF 2 rfl (V.mv) ?_
              refine WpA.tF 3 rfl (V.mv) ?_
              refine WpA.tF 5 rfl (V.mv) ?_
              refine WpA.tF 6 rfl (V.nc) ?_
              refine WpA.tF 7 rfl (V.fa tb) ?_
              refine WpA.tF 8 rfl (V.ld1 tb) ?_
              refine WpA.e2 4 9 rfl rfl ?_ ?_
              refine Op1.callT rfl (hL _) (by (repeat (first | exact Sel.nil | exact Rem.here | apply Sel.cons | apply Rem.there))) ?_
              rintro v9 s10 ⟨rfl, rfl⟩
              refine incat ⟨?_, ?_, ?_⟩
              exact holdT
              exact holdT
              refine WpA.oS 9 rfl (Op1.vv (V.lenRows tb) ⟨?_, ?_, ?_⟩)
              exact holdT
              exact holdT
              refine WpA.tF 10 rfl (V.cmp) ?_
              refine WpA.tF 11 rfl (V.pF) ?_
              refine WpA.ou ?_
              apply Out.seqN
              refine Wp.c (fun hc111 => ?_) (fun hc111 => ?_)
              (try simp only [decide_eq_true_eq, decide_eq_false_iff_not, Bool.not_eq_true', Bool.not_eq_false', Bool.not_eq_true, Bool.not_eq_false, not_true_eq_false, not_false_eq_true, reduceCtorEq] at hc111)
              (try simp only [decide_eq_true_eq, decide_eq_false_iff_not, Bool.not_eq_true', Bool.not_eq_false', Bool.not_eq_true, Bool.not_eq_false, not_true_eq_false, not_false_eq_true, reduceCtorEq] at hc111)
              apply Wp.skip
              apply Out.blockN
              apply Out.seqN
              apply Wp.region
              refine WpL.v (V.add) ?_
              refine WpL.v (V.mv) ?_
              apply WpL.nil
              rotate_left
              refine Op1.vv (V.lenRows tb) ⟨?_, ?_, ?_⟩
              exact holdT
              exact holdT
              refine WpA.oS 4 rfl (Op1.callT rfl (hL _) (by (repeat (first | exact Sel.nil | exact Rem.here | apply Sel.cons | apply Rem.there))) ?_)
              rintro v12 s13 ⟨rfl, rfl⟩
              refine incat ⟨?_, ?_, ?_⟩
              exact holdT
              exact holdT
              refine WpA.tF 10 rfl (V.cmp) ?_
              refine WpA.tF 11 rfl (V.pF) ?_
              refine WpA.ou ?_
              apply Out.seqN
              refine Wp.c (fun hc114 => ?_) (fun hc114 => ?_)
              (try simp only [decide_eq_true_eq, decide_eq_false_iff_not, Bool.not_eq_true', Bool.not_eq_false', Bool.not_eq_true, Bool.not_eq_false, not_true_eq_false, not_false_eq_true, reduceCtorEq] at hc114)
              (try simp only [decide_eq_true_eq, decide_eq_false_iff_not, Bool.not_eq_true', Bool.not_eq_false', Bool.not_eq_true, Bool.not_eq_false, not_true_eq_false, not_false_eq_true, reduceCtorEq] at hc114)
              apply Wp.skip
              apply Out.blockN
              apply Out.seqN
              apply Wp.region
              refine WpL.v (V.add) ?_
              refine WpL.v (V.mv) ?_
              apply WpL.nil
              rotate_left
              (try simp only [decide_eq_true_eq, decide_eq_false_iff_not, Bool.not_eq_true', Bool.not_eq_false', Bool.not_eq_true, Bool.not_eq_false, not_true_eq_false, not_false_eq_true, reduceCtorEq] at hc12)
              (exfalso; omega)
              (try simp only [decide_eq_true_eq, decide_eq_false_iff_not, Bool.not_eq_true', Bool.not_eq_false', Bool.not_eq_true, Bool.not_eq_false, not_true_eq_false, not_false_eq_true, reduceCtorEq] at hc10)
              (exfalso; omega)
              all_goals exact Out.ag hK ⟨k + 1, t, _, l3, _, _, ks3, ds3⟩ ⟨by show k + 1 ≤ _; omega, hw3, by show l3.length ≤ k + 1; omega, by show t ≤ ((k + 1 : Nat) : Int); omega⟩ (by show xs.length - (k + 1) < xs.length - k; omega)
          | true =>
            rw [hc1] at hD hA
            cases hc2 : (rfx key2 ks2).isSome with
            | false =>
              rw [hc2] at hD hB
              simp only [Bool.false_eq_true, if_false, if_true, Nat.zero_add, Nat.add_zero] at hD
              apply Wp.seq
              apply Wp.region
              refine WpL.v (V.cmp) ?_
              apply WpL.nil
              apply Out.seqN
              apply Wp.seq
              refine Wp.c (fun hc20 => ?_) (fun hc20 => ?_)
              (try simp only [decide_eq_true_eq, decide_eq_false_iff_not, Bool.not_eq_true', Bool.not_eq_false', Bool.not_eq_true, Bool.not_eq_false, not_true_eq_false, not_false_eq_true, reduceCtorEq] at hc20)
              apply Wp.skip
              apply Out.seqN
              apply Wp.seq
              apply Wp.block
              apply Wp.seq
              apply Wp.region
              refine WpL.v (V.ixR tb rfl rfl (by assumption)) ?_
              refine WpL.v (V.ldRA tb rfl (by assumption) (getMapS (by assumption))) ?_
              refine WpL.o (O.al tb (fun p6 => ?_))
              refine WpL.o (O.stA tb ?_)
              apply WpL.nil
              apply Out.seqN
              apply Wp.seq
              apply Wp.region
              refine WpL.v (V.as) ?_
              apply WpL.nil
              apply Out.seqN
              apply Wp.seq
              apply Wp.seq
              apply Wp.region
              refine WpL.v (V.fa tb) ?_
              refine WpL.v (V.ld1 tb) ?_
              apply WpL.nil
              apply Out.seqN
              apply Wp.block
              apply Wp.seq
              apply Wp.region
              refine WpL.v (V.cmp) ?_
              refine WpL.v (V.as) ?_
              apply WpL.nil
              apply Out.seqN
              refine Wp.c (fun hc21 => ?_) (fun hc21 => ?_)
              (try simp only [decide_eq_true_eq, decide_eq_false_iff_not, Bool.not_eq_true', Bool.not_eq_false', Bool.not_eq_true, Bool.not_eq_false, not_true_eq_false, not_false_eq_true, reduceCtorEq] at hc21)
              (exfalso; omega)
              (try simp only [decide_eq_true_eq, decide_eq_false_iff_not, Bool.not_eq_true', Bool.not_eq_false', Bool.not_eq_true, Bool.not_eq_false, not_true_eq_false, not_false_eq_true, reduceCtorEq] at hc21)
              apply Wp.seq
              apply Wp.region
              refine WpL.v (V.cmp) ?_
              refine WpL.v (V.as) ?_
              apply WpL.nil
              apply Out.seqN
              refine Wp.c (fun hc22 => ?_) (fun hc22 => ?_)
              (try simp only [decide_eq_true_eq, decide_eq_false_iff_not, Bool.not_eq_true', Bool.not_eq_false', Bool.not_eq_true, Bool.not_eq_false, not_true_eq_false, not_false_eq_true, reduceCtorEq] at hc22)
              apply Wp.seq
              apply Wp.region
              refine WpL.v (V.as) ?_
              apply WpL.nil
              apply Out.seqN
              apply Wp.seq
              apply Wp.seq
              apply Wp.region
              refine WpL.v (V.mv) ?_
              refine WpL.v (V.fa tb) ?_
              refine WpL.v (V.ld1 tb) ?_
              refine WpL.o (Op1.callT rfl (hA) (by (repeat (first | exact Sel.nil | exact Rem.here | apply Sel.cons | apply Rem.there))) ?_)
              rintro v3 s4 ⟨wk56, ⟨wd56, ⟨rfl, rfl⟩⟩⟩
              refine incat ?_
              apply WpL.nil
              apply Out.seqN
              refine Wp.cT ?_
              apply Wp.region
              refine WpL.v (V.mv) ?_
              refine WpL.v (V.add) ?_
              refine WpL.v (V.as) ?_
              apply WpL.nil
              apply Out.seqN
              apply Wp.seq
              apply Wp.seq
              apply Wp.region
              refine WpL.v (V.mv) ?_
              refine WpL.v (V.fa tb) ?_
              refine WpL.v (V.ld1 tb) ?_
              refine WpL.v (V.ariE rfl rfl hadd) ?_
              refine WpL.o (Op1.callT rfl (hB _ _) (by (repeat (first | exact Sel.nil | exact Rem.here | apply Sel.cons | apply Rem.there))) ?_)
              rintro v5 s6 ⟨wk63, ⟨wd63, ⟨rfl, rfl⟩⟩⟩
              refine incat ?_
              apply WpL.nil
              apply Out.seqN
              refine Wp.cF ?_
              apply Wp.skip
              apply Out.seqN
              apply Wp.region
              refine WpL.v (V.mv) ?_
              refine WpL.v (V.fa tb) ?_
              refine WpL.v (V.ld1 tb) ?_
              refine WpL.v (V.fa tb) ?_
              refine WpL.v (V.ld1 tb) ?_
              refine WpL.v (V.ariE rfl rfl hadd) ?_
              refine WpL.o (O.litL tb i64c [s.Key, key2] rfl (PartsFrom.one rfl (PartsFrom.one rfl PartsFrom.nil)) rfl rfl (fun p72 => ?_))
              refine WpL.o (Op1.callT rfl (hD _) (by (repeat (first | exact Sel.nil | exact Rem.here | apply Sel.cons | apply Rem.there))) ?_)
              rintro v7 s8 ⟨v'73, ⟨rfl, rfl⟩⟩
              refine incat ?_
              refine WpL.v (V.mv) ?_
              refine WpL.v (V.cmp) ?_
              refine WpL.v (V.as) ?_
              apply WpL.nil
              apply Out.blockN
              apply Out.seqN
              apply Wp.seq
              refine Wp.dG [] ?_ (List.Sublist.cons _ (List.Sublist.cons _ (List.Sublist.cons _ (List.Sublist.cons_cons _ (List.Sublist.cons _ (List.Sublist.cons _ (List.Sublist.cons _ (List.Sublist.cons _ (List.Sublist.cons _ List.Sublist.slnil))))))))) (List.Sublist.cons _ (List.Sublist.cons _ (List.Sublist.cons _ (List.Sublist.cons_cons _ (List.Sublist.cons _ (List.Sublist.cons _ (List.Sublist.cons _ (List.Sublist.cons _ (List.Sublist.cons _ List.Sublist.slnil)))))))))
              refine WpA.tF 0 rfl (V.mv) ?_
              refine WpA.tF 1 rfl (V.not) ?_
              refine WpA.tF 2 rfl (V.mv) ?_
              refine WpA.tF 3 rfl (V.mv) ?_
              refine WpA.tF 5 rfl (V.mv) ?_
              refine WpA.tF 6 rfl (V.nc) ?_
              refine WpA.tF 7 rfl (V.fa tb) ?_
              refine WpA.tF 8 rfl (V.ld1 tb) ?_
              refine WpA.e2 4 9 rfl rfl ?_ ?_
              refine Op1.callT rfl (hL _) (by (repeat (first | exact Sel.nil | exact Rem.here | apply Sel.cons | apply Rem.there))) ?_
              rintro v9 s10 ⟨rfl, rfl⟩
              refine incat ⟨?_, ?_, ?_⟩
              exact holdT
              exact holdT
              refine WpA.oS 9 rfl (Op1.vv (V.lenRows tb) ⟨?_, ?_, ?_⟩)
              exact holdT
              exact holdT
              refine WpA.tF 10 rfl (V.cmp) ?_
              refine WpA.tF 11 rfl (V.pF) ?_
              refine WpA.ou ?_
              apply Out.seqN
              refine Wp.c (fun hc211 => ?_) (fun hc211 => ?_)
              (try simp only [decide_eq_true_eq, decide_eq_false_iff_not, Bool.not_eq_true', Bool.not_eq_false', Bool.not_eq_true, Bool.not_eq_false, not_true_eq_false, not_false_eq_true, reduceCtorEq] at hc211)
              (try simp only [decide_eq_true_eq, decide_eq_false_iff_not, Bool.not_eq_true', Bool.not_eq_false', Bool.not_eq_true, Bool.not_eq_false, not_true_eq_false, not_false_eq_true, reduceCtorEq] at hc211)
              apply Wp.skip
              apply Out.blockN
              apply Out.seqN
              apply Wp.region
              refine WpL.v (V.add) ?_
              refine WpL.v (V.mv) ?_
              apply WpL.nil
              rotate_left
              refine Op1.vv (V.lenRows tb) ⟨?_, ?_, ?_⟩
              exact holdT
              exact holdT
              refine WpA.oS 4 rfl (Op1.callT rfl (hL _) (by (repeat (first | exact Sel.nil | exact Rem.here | apply Sel.cons | apply Rem.there))) ?_)
              rintro v12 s13 ⟨rfl, rfl⟩
              refine incat ⟨?_, ?_, ?_⟩
              exact holdT
              exact holdT
              refine WpA.tF 10 rfl (V.cmp) ?_
              refine WpA.tF 11 rfl (V.pF) ?_
              refine WpA.ou ?_
              apply Out.seqN
              refine Wp.c (fun hc214 => ?_) (fun hc214 => ?_)
              (try simp only [decide_eq_true_eq, decide_eq_false_iff_not, Bool.not_eq_true', Bool.not_eq_false', Bool.not_eq_true, Bool.not_eq_false, not_true_eq_false, not_false_eq_true, reduceCtorEq] at hc214)
              (try simp only [decide_eq_true_eq, decide_eq_false_iff_not, Bool.not_eq_true', Bool.not_eq_false', Bool.not_eq_true, Bool.not_eq_false, not_true_eq_false, not_false_eq_true, reduceCtorEq] at hc214)
              apply Wp.skip
              apply Out.blockN
              apply Out.seqN
              apply Wp.region
              refine WpL.v (V.add) ?_
              refine WpL.v (V.mv) ?_
              apply WpL.nil
              rotate_left
              (try simp only [decide_eq_true_eq, decide_eq_false_iff_not, Bool.not_eq_true', Bool.not_eq_false', Bool.not_eq_true, Bool.not_eq_false, not_true_eq_false, not_false_eq_true, reduceCtorEq] at hc22)
              (exfalso; omega)
              (try simp only [decide_eq_true_eq, decide_eq_false_iff_not, Bool.not_eq_true', Bool.not_eq_false', Bool.not_eq_true, Bool.not_eq_false, not_true_eq_false, not_false_eq_true, reduceCtorEq] at hc20)
              (exfalso; omega)
              all_goals exact Out.ag hK ⟨k + 1, t, _, l3, _, _, ks3, ds3⟩ ⟨by show k + 1 ≤ _; omega, hw3, by show l3.length ≤ k + 1; omega, by show t ≤ ((k + 1 : Nat) : Int); omega⟩ (by show xs.length - (k + 1) < xs.length - k; omega)
            | true =>
              rw [hc2] at hD hB
              simp only [Bool.false_eq_true, if_false, if_true, Nat.zero_add, Nat.add_zero] at hD
              apply Wp.seq
              apply Wp.region
              refine WpL.v (V.cmp) ?_
              apply WpL.nil
              apply Out.seqN
              apply Wp.seq
              refine Wp.c (fun hc30 => ?_) (fun hc30 => ?_)
              (try simp only [decide_eq_true_eq, decide_eq_false_iff_not, Bool.not_eq_true', Bool.not_eq_false', Bool.not_eq_true, Bool.not_eq_false, not_true_eq_false, not_false_eq_true, reduceCtorEq] at hc30)
              apply Wp.skip
              apply Out.seqN
              apply Wp.seq
              apply Wp.block
              apply Wp.seq
              apply Wp.region
              refine WpL.v (V.ixR tb rfl rfl (by assumption)) ?_
              refine WpL.v (V.ldRA tb rfl (by assumption) (getMapS (by assumption))) ?_
              refine WpL.o (O.al tb (fun p6 => ?_))
              refine WpL.o (O.stA tb ?_)
              apply WpL.nil
              apply Out.seqN
              apply Wp.seq
              apply Wp.region
              refine WpL.v (V.as) ?_
              apply WpL.nil
              apply Out.seqN
              apply Wp.seq
              apply Wp.seq
              apply Wp.region
              refine WpL.v (V.fa tb) ?_
              refine WpL.v (V.ld1 tb) ?_
              apply WpL.nil
              apply Out.seqN
              apply Wp.block
              apply Wp.seq
              apply Wp.region
              refine WpL.v (V.cmp) ?_
              refine WpL.v (V.as) ?_
              apply WpL.nil
              apply Out.seqN
              refine Wp.c (fun hc31 => ?_) (fun hc31 => ?_)
              (try simp only [decide_eq_true_eq, decide_eq_false_iff_not, Bool.not_eq_true', Bool.not_eq_false', Bool.not_eq_true, Bool.not_eq_false, not_true_eq_false, not_false_eq_true, reduceCtorEq] at hc31)
              (exfalso; omega)
              (try simp only [decide_eq_true_eq, decide_eq_false_iff_not, Bool.not_eq_true', Bool.not_eq_false', Bool.not_eq_true, Bool.not_eq_false, not_true_eq_false, not_false_eq_true, reduceCtorEq] at hc31)
              apply Wp.seq
              apply Wp.region
              refine WpL.v (V.cmp) ?_
              refine WpL.v (V.as) ?_
              apply WpL.nil
              apply Out.seqN
              refine Wp.c (fun hc32 => ?_) (fun hc32 => ?_)
              (try simp only [decide_eq_true_eq, decide_eq_false_iff_not, Bool.not_eq_true', Bool.not_eq_false', Bool.not_eq_true, Bool.not_eq_false, not_true_eq_false, not_false_eq_true, reduceCtorEq] at hc32)
              apply Wp.seq
              apply Wp.region
              refine WpL.v (V.as) ?_
              apply WpL.nil
              apply Out.seqN
              apply Wp.seq
              apply Wp.seq
              apply Wp.region
              refine WpL.v (V.mv) ?_
              refine WpL.v (V.fa tb) ?_
              refine WpL.v (V.ld1 tb) ?_
              refine WpL.o (Op1.callT rfl (hA) (by (repeat (first | exact Sel.nil | exact Rem.here | apply Sel.cons | apply Rem.there))) ?_)
              rintro v3 s4 ⟨wk56, ⟨wd56, ⟨rfl, rfl⟩⟩⟩
              refine incat ?_
              apply WpL.nil
              apply Out.seqN
              refine Wp.cT ?_
              apply Wp.region
              refine WpL.v (V.mv) ?_
              refine WpL.v (V.add) ?_
              refine WpL.v (V.as) ?_
              apply WpL.nil
              apply Out.seqN
              apply Wp.seq
              apply Wp.seq
              apply Wp.region
              refine WpL.v (V.mv) ?_
              refine WpL.v (V.fa tb) ?_
              refine WpL.v (V.ld1 tb) ?_
              refine WpL.v (V.ariE rfl rfl hadd) ?_
              refine WpL.o (Op1.callT rfl (hB _ _) (by (repeat (first | exact Sel.nil | exact Rem.here | apply Sel.cons | apply Rem.there))) ?_)
              rintro v5 s6 ⟨wk63, ⟨wd63, ⟨rfl, rfl⟩⟩⟩
              refine incat ?_
              apply WpL.nil
              apply Out.seqN
              refine Wp.cT ?_
              apply Wp.region
              refine WpL.v (V.mv) ?_
              refine WpL.v (V.add) ?_
              refine WpL.v (V.as) ?_
              apply WpL.nil
              apply Out.seqN
              apply Wp.region
              refine WpL.v (V.mv) ?_
              refine WpL.v (V.fa tb) ?_
              refine WpL.v (V.ld1 tb) ?_
              refine WpL.v (V.fa tb) ?_
              refine WpL.v (V.ld1 tb) ?_
              refine WpL.v (V.ariE rfl rfl hadd) ?_
              refine WpL.o (O.litL tb i64c [s.Key, key2] rfl (PartsFrom.one rfl (PartsFrom.one rfl PartsFrom.nil)) rfl rfl (fun p72 => ?_))
              refine WpL.o (Op1.callT rfl (hD _) (by (repeat (first | exact Sel.nil | exact Rem.here | apply Sel.cons | apply Rem.there))) ?_)
              rintro v7 s8 ⟨v'73, ⟨rfl, rfl⟩⟩
              refine incat ?_
              refine WpL.v (V.mv) ?_
              refine WpL.v (V.cmp) ?_
              refine WpL.v (V.as) ?_
              apply WpL.nil
              apply Out.blockN
              apply Out.seqN
              apply Wp.seq
              refine Wp.dG [] ?_ (List.Sublist.cons _ (List.Sublist.cons _ (List.Sublist.cons _ (List.Sublist.cons_cons _ (List.Sublist.cons _ (List.Sublist.cons _ (List.Sublist.cons _ (List.Sublist.cons _ (List.Sublist.cons _ List.Sublist.slnil))))))))) (List.Sublist.cons _ (List.Sublist.cons _ (List.Sublist.cons _ (List.Sublist.cons_cons _ (List.Sublist.cons _ (List.Sublist.cons _ (List.Sublist.cons _ (List.Sublist.cons _ (List.Sublist.cons _ List.Sublist.slnil)))))))))
              refine WpA.tF 0 rfl (V.mv) ?_
              refine WpA.tF 1 rfl (V.not) ?_
              refine WpA.tF 2 rfl (V.mv) ?_
              refine WpA.tF 3 rfl (V.mv) ?_
              refine WpA.tF 5 rfl (V.mv) ?_
              refine WpA.tF 6 rfl (V.nc) ?_
              refine WpA.tF 7 rfl (V.fa tb) ?_
              refine WpA.tF 8 rfl (V.ld1 tb) ?_
              refine WpA.e2 4 9 rfl rfl ?_ ?_
              refine Op1.callT rfl (hL _) (by (repeat (first | exact Sel.nil | exact Rem.here | apply Sel.cons | apply Rem.there))) ?_
              rintro v9 s10 ⟨rfl, rfl⟩
              refine incat ⟨?_, ?_, ?_⟩
              exact holdT
              exact holdT
              refine WpA.oS 9 rfl (Op1.vv (V.lenRows tb) ⟨?_, ?_, ?_⟩)
              exact holdT
              exact holdT
              refine WpA.tF 10 rfl (V.cmp) ?_
              refine WpA.tF 11 rfl (V.pF) ?_
              refine WpA.ou ?_
              apply Out.seqN
              refine Wp.c (fun hc311 => ?_) (fun hc311 => ?_)
              (try simp only [decide_eq_true_eq, decide_eq_false_iff_not, Bool.not_eq_true', Bool.not_eq_false', Bool.not_eq_true, Bool.not_eq_false, not_true_eq_false, not_false_eq_true, reduceCtorEq] at hc311)
              (try simp only [decide_eq_true_eq, decide_eq_false_iff_not, Bool.not_eq_true', Bool.not_eq_false', Bool.not_eq_true, Bool.not_eq_false, not_true_eq_false, not_false_eq_true, reduceCtorEq] at hc311)
              apply Wp.skip
              apply Out.blockN
              apply Out.seqN
              apply Wp.region
              refine WpL.v (V.add) ?_
              refine WpL.v (V.mv) ?_
              apply WpL.nil
              rotate_left
              refine Op1.vv (V.lenRows tb) ⟨?_, ?_, ?_⟩
              exact holdT
              exact holdT
              refine WpA.oS 4 rfl (Op1.callT rfl (hL _) (by (repeat (first | exact Sel.nil | exact Rem.here | apply Sel.cons | apply Rem.there))) ?_)
              rintro v12 s13 ⟨rfl, rfl⟩
              refine incat ⟨?_, ?_, ?_⟩
              exact holdT
              exact holdT
              refine WpA.tF 10 rfl (V.cmp) ?_
              refine WpA.tF 11 rfl (V.pF) ?_
              refine WpA.ou ?_
              apply Out.seqN
              refine Wp.c (fun hc314 => ?_) (fun hc314 => ?_)
              (try simp only [decide_eq_true_eq, decide_eq_false_iff_not, Bool.not_eq_true', Bool.not_eq_false', Bool.not_eq_true, Bool.not_eq_false, not_true_eq_false, not_false_eq_true, reduceCtorEq] at hc314)
              (try simp only [decide_eq_true_eq, decide_eq_false_iff_not, Bool.not_eq_true', Bool.not_eq_false', Bool.not_eq_true, Bool.not_eq_false, not_true_eq_false, not_false_eq_true, reduceCtorEq] at hc314)
              apply Wp.skip
              apply Out.blockN
              apply Out.seqN
              apply Wp.region
              refine WpL.v (V.add) ?_
              refine WpL.v (V.mv) ?_
              apply WpL.nil
              rotate_left
              (try simp only [decide_eq_true_eq, decide_eq_false_iff_not, Bool.not_eq_true', Bool.not_eq_false', Bool.not_eq_true, Bool.not_eq_false, not_true_eq_false, not_false_eq_true, reduceCtorEq] at hc32)
              (exfalso; omega)
              (try simp only [decide_eq_true_eq, decide_eq_false_iff_not, Bool.not_eq_true', Bool.not_eq_false', Bool.not_eq_true, Bool.not_eq_false, not_true_eq_false, not_false_eq_true, reduceCtorEq] at hc30)
              (exfalso; omega)
              all_goals exact Out.ag hK ⟨k + 1, t, _, l3, _, _, ks3, ds3⟩ ⟨by show k + 1 ≤ _; omega, hw3, by show l3.length ≤ k + 1; omega, by show t ≤ ((k + 1 : Nat) : Int); omega⟩ (by show xs.length - (k + 1) < xs.length - k; omega)
        · by_cases k2 : s.Kind = 2
          · rcases popCase s.N l with hp | ⟨x, rest, rfl, hp⟩
            · have hP := wheel_pop_none p26 v t l s.N hp
              have hQ := ref_pop_stop p28 vk vd ks ds s.N (by omega) hw1 hp
              have hL := wheel_len p26 v t l
              rw [← hwl.1] at hL
              unfold whE at hP hL
              unfold rwE at hQ
              apply Wp.seq
              apply Wp.region
              refine WpL.v (V.cmp) ?_
              apply WpL.nil
              apply Out.seqN
              apply Wp.seq
              refine Wp.c (fun hd0 => ?_) (fun hd0 => ?_)
              (try simp only [decide_eq_true_eq, decide_eq_false_iff_not, Bool.not_eq_true', Bool.not_eq_false', Bool.not_eq_true, Bool.not_eq_false, not_true_eq_false, not_false_eq_true, reduceCtorEq] at hd0)
              apply Wp.skip
              apply Out.seqN
              apply Wp.seq
              apply Wp.block
              apply Wp.seq
              apply Wp.region
              refine WpL.v (V.ixR tb rfl rfl (by assumption)) ?_
              refine WpL.v (V.ldRA tb rfl (by assumption) (getMapS (by assumption))) ?_
              refine WpL.o (O.al tb (fun p6 => ?_))
              refine WpL.o (O.stA tb ?_)
              apply WpL.nil
              apply Out.seqN
              apply Wp.seq
              apply Wp.region
              refine WpL.v (V.as) ?_
              apply WpL.nil
              apply Out.seqN
              apply Wp.seq
              apply Wp.seq
              apply Wp.region
              refine WpL.v (V.fa tb) ?_
              refine WpL.v (V.ld1 tb) ?_
              apply WpL.nil
              apply Out.seqN
              apply Wp.block
              apply Wp.seq
              apply Wp.region
              refine WpL.v (V.cmp) ?_
              refine WpL.v (V.as) ?_
              apply WpL.nil
              apply Out.seqN
              refine Wp.c (fun hd1 => ?_) (fun hd1 => ?_)
              (try simp only [decide_eq_true_eq, decide_eq_false_iff_not, Bool.not_eq_true', Bool.not_eq_false', Bool.not_eq_true, Bool.not_eq_false, not_true_eq_false, not_false_eq_true, reduceCtorEq] at hd1)
              (exfalso; omega)
              (try simp only [decide_eq_true_eq, decide_eq_false_iff_not, Bool.not_eq_true', Bool.not_eq_false', Bool.not_eq_true, Bool.not_eq_false, not_true_eq_false, not_false_eq_true, reduceCtorEq] at hd1)
              apply Wp.seq
              apply Wp.region
              refine WpL.v (V.cmp) ?_
              refine WpL.v (V.as) ?_
              apply WpL.nil
              apply Out.seqN
              refine Wp.c (fun hd2 => ?_) (fun hd2 => ?_)
              (try simp only [decide_eq_true_eq, decide_eq_false_iff_not, Bool.not_eq_true', Bool.not_eq_false', Bool.not_eq_true, Bool.not_eq_false, not_true_eq_false, not_false_eq_true, reduceCtorEq] at hd2)
              (exfalso; omega)
              (try simp only [decide_eq_true_eq, decide_eq_false_iff_not, Bool.not_eq_true', Bool.not_eq_false', Bool.not_eq_true, Bool.not_eq_false, not_true_eq_false, not_false_eq_true, reduceCtorEq] at hd2)
              apply Wp.seq
              apply Wp.region
              refine WpL.v (V.cmp) ?_
              refine WpL.v (V.as) ?_
              apply WpL.nil
              apply Out.seqN
              refine Wp.c (fun hd3 => ?_) (fun hd3 => ?_)
              (try simp only [decide_eq_true_eq, decide_eq_false_iff_not, Bool.not_eq_true', Bool.not_eq_false', Bool.not_eq_true, Bool.not_eq_false, not_true_eq_false, not_false_eq_true, reduceCtorEq] at hd3)
              apply Wp.seq
              apply Wp.region
              refine WpL.v (V.mv) ?_
              refine WpL.v (V.fa tb) ?_
              refine WpL.v (V.ld1 tb) ?_
              refine WpL.o (Op1.callT rfl (hP) (by (repeat (first | exact Sel.nil | exact Rem.here | apply Sel.cons | apply Rem.there))) ?_)
              rintro v4 s5 ⟨rfl, rfl⟩
              refine incat ?_
              refine WpL.v (V.mv) ?_
              refine WpL.v (V.ex) ?_
              refine WpL.v (V.ex) ?_
              refine WpL.v (V.as) ?_
              refine WpL.v (V.as) ?_
              apply WpL.nil
              apply Out.seqN
              apply Wp.seq
              apply Wp.region
              refine WpL.v (V.mv) ?_
              refine WpL.v (V.fa tb) ?_
              refine WpL.v (V.ld1 tb) ?_
              refine WpL.o (Op1.callT rfl (hQ) (by (repeat (first | exact Sel.nil | exact Rem.here | apply Sel.cons | apply Rem.there))) ?_)
              rintro v6 s7 ⟨wk89, ⟨wd89, ⟨rfl, rfl⟩⟩⟩
              refine incat ?_
              refine WpL.v (V.mv) ?_
              refine WpL.v (V.ex) ?_
              refine WpL.v (V.ex) ?_
              refine WpL.v (V.as) ?_
              refine WpL.v (V.as) ?_
              apply WpL.nil
              apply Out.seqN
              apply Wp.region
              refine WpL.v (V.mv) ?_
              refine WpL.v (V.mv) ?_
              refine WpL.v (V.cmp) ?_
              refine WpL.v (V.mv) ?_
              refine WpL.v (V.mv) ?_
              refine WpL.v (V.mv) ?_
              refine WpL.v (V.eqB tb) ?_
              refine WpL.v (V.pT) ?_
              refine WpL.v (V.as) ?_
              apply WpL.nil
              apply Out.blockN
              apply Out.seqN
              apply Wp.seq
              refine Wp.dG [] ?_ (List.Sublist.cons_cons _ (List.Sublist.cons _ (List.Sublist.cons _ (List.Sublist.cons _ (List.Sublist.cons _ (List.Sublist.cons _ (List.Sublist.cons _ (List.Sublist.cons _ List.Sublist.slnil)))))))) (List.Sublist.cons_cons _ (List.Sublist.cons _ (List.Sublist.cons _ (List.Sublist.cons _ (List.Sublist.cons _ (List.Sublist.cons _ (List.Sublist.cons _ (List.Sublist.cons _ List.Sublist.slnil))))))))
              refine WpA.tF 0 rfl (V.mv) ?_
              refine WpA.tF 1 rfl (V.not) ?_
              refine WpA.tF 2 rfl (V.mv) ?_
              refine WpA.tF 3 rfl (V.mv) ?_
              refine WpA.tF 5 rfl (V.mv) ?_
              refine WpA.tF 6 rfl (V.nc) ?_
              refine WpA.tF 7 rfl (V.fa tb) ?_
              refine WpA.tF 8 rfl (V.ld1 tb) ?_
              refine WpA.e2 4 9 rfl rfl ?_ ?_
              refine Op1.callT rfl (hL) (by (repeat (first | exact Sel.nil | exact Rem.here | apply Sel.cons | apply Rem.there))) ?_
              rintro v8 s9 ⟨rfl, rfl⟩
              refine incat ⟨?_, ?_, ?_⟩
              exact holdT
              exact holdT
              refine WpA.oS 9 rfl (Op1.vv (V.lenRows tb) ⟨?_, ?_, ?_⟩)
              exact holdT
              exact holdT
              refine WpA.tF 10 rfl (V.cmp) ?_
              refine WpA.tF 11 rfl (V.pF) ?_
              refine WpA.ou ?_
              apply Out.seqN
              refine Wp.c (fun hd10 => ?_) (fun hd10 => ?_)
              (try simp only [decide_eq_true_eq, decide_eq_false_iff_not, Bool.not_eq_true', Bool.not_eq_false', Bool.not_eq_true, Bool.not_eq_false, not_true_eq_false, not_false_eq_true, reduceCtorEq] at hd10)
              (try simp only [decide_eq_true_eq, decide_eq_false_iff_not, Bool.not_eq_true', Bool.not_eq_false', Bool.not_eq_true, Bool.not_eq_false, not_true_eq_false, not_false_eq_true, reduceCtorEq] at hd10)
              apply Wp.skip
              apply Out.blockN
              apply Out.seqN
              apply Wp.region
              refine WpL.v (V.add) ?_
              refine WpL.v (V.mv) ?_
              apply WpL.nil
              rotate_left
              refine Op1.vv (V.lenRows tb) ⟨?_, ?_, ?_⟩
              exact holdT
              exact holdT
              refine WpA.oS 4 rfl (Op1.callT rfl (hL) (by (repeat (first | exact Sel.nil | exact Rem.here | apply Sel.cons | apply Rem.there))) ?_)
              rintro v11 s12 ⟨rfl, rfl⟩
              refine incat ⟨?_, ?_, ?_⟩
              exact holdT
              exact holdT
              refine WpA.tF 10 rfl (V.cmp) ?_
              refine WpA.tF 11 rfl (V.pF) ?_
              refine WpA.ou ?_
              apply Out.seqN
              refine Wp.c (fun hd13 => ?_) (fun hd13 => ?_)
              (try simp only [decide_eq_true_eq, decide_eq_false_iff_not, Bool.not_eq_true', Bool.not_eq_false', Bool.not_eq_true, Bool.not_eq_false, not_true_eq_false, not_false_eq_true, reduceCtorEq] at hd13)
              (try simp only [decide_eq_true_eq, decide_eq_false_iff_not, Bool.not_eq_true', Bool.not_eq_false', Bool.not_eq_true, Bool.not_eq_false, not_true_eq_false, not_false_eq_true, reduceCtorEq] at hd13)
              apply Wp.skip
              apply Out.blockN
              apply Out.seqN
              apply Wp.region
              refine WpL.v (V.add) ?_
              refine WpL.v (V.mv) ?_
              apply WpL.nil
              rotate_left
              (try simp only [decide_eq_true_eq, decide_eq_false_iff_not, Bool.not_eq_true', Bool.not_eq_false', Bool.not_eq_true, Bool.not_eq_false, not_true_eq_false, not_false_eq_true, reduceCtorEq] at hd3)
              (exfalso; omega)
              (try simp only [decide_eq_true_eq, decide_eq_false_iff_not, Bool.not_eq_true', Bool.not_eq_false', Bool.not_eq_true, Bool.not_eq_false, not_true_eq_false, not_false_eq_true, reduceCtorEq] at hd0)
              (exfalso; omega)
              all_goals exact Out.ag hK ⟨k + 1, t, v, l, _, _, ks, ds⟩ ⟨by show k + 1 ≤ _; omega, hw1, by show l.length ≤ k + 1; omega, by show t ≤ ((k + 1 : Nat) : Int); omega⟩ (by show xs.length - (k + 1) < xs.length - k; omega)
            · rw [List.length_cons] at hwl hlk
              refine Wp.fact (rowsForm (List.Mem.tail _ (List.Mem.head _))) fun hform => ?_
              rcases hform with ⟨_, h0⟩ | ⟨g, cp, rfl, _⟩
              · cases h0
              have hP := wheel_pop_some p26 g cp t x rest s.N hp
              have hQ := ref_pop_step p28 vk vd ks ds s.N (by omega) hw1 hp
              have hw2 := hw1.pop
              generalize (rdel x.key ks ds).1 = ks2 at *
              generalize (rdel x.key ks ds).2 = ds2 at *
              have hL (v : Go.Value) := wheel_len p26 v t rest
              rw [← hw2.lens.1] at hL
              unfold whE at hP hL
              unfold rwE at hQ
              apply Wp.seq
              apply Wp.region
              refine WpL.v (V.cmp) ?_
              apply WpL.nil
              apply Out.seqN
              apply Wp.seq
              refine Wp.c (fun hf0 => ?_) (fun hf0 => ?_)
              (try simp only [decide_eq_true_eq, decide_eq_false_iff_not, Bool.not_eq_true', Bool.not_eq_false', Bool.not_eq_true, Bool.not_eq_false, not_true_eq_false, not_false_eq_true, reduceCtorEq] at hf0)
              apply Wp.skip
              apply Out.seqN
              apply Wp.seq
              apply Wp.block
              apply Wp.seq
              apply Wp.region
              refine WpL.v (V.ixR tb rfl rfl (by assumption)) ?_
              refine WpL.v (V.ldRA tb rfl (by assumption) (getMapS (by assumption))) ?_
              refine WpL.o (O.al tb (fun p6 => ?_))
              refine WpL.o (O.stA tb ?_)
              apply WpL.nil
              apply Out.seqN
              apply Wp.seq
              apply Wp.region
              refine WpL.v (V.as) ?_
              apply WpL.nil
              apply Out.seqN
              apply Wp.seq
              apply Wp.seq
              apply Wp.region
              refine WpL.v (V.fa tb) ?_
              refine WpL.v (V.ld1 tb) ?_
              apply WpL.nil
              apply Out.seqN
              apply Wp.block
              apply Wp.seq
              apply Wp.region
              refine WpL.v (V.cmp) ?_
              refine WpL.v (V.as) ?_
              apply WpL.nil
              apply Out.seqN
              refine Wp.c (fun hf1 => ?_) (fun hf1 => ?_)
              (try simp only [decide_eq_true_eq, decide_eq_false_iff_not, Bool.not_eq_true', Bool.not_eq_false', Bool.not_eq_true, Bool.not_eq_false, not_true_eq_false, not_false_eq_true, reduceCtorEq] at hf1)
              (exfalso; omega)
              (try simp only [decide_eq_true_eq, decide_eq_false_iff_not, Bool.not_eq_true', Bool.not_eq_false', Bool.not_eq_true, Bool.not_eq_false, not_true_eq_false, not_false_eq_true, reduceCtorEq] at hf1)
              apply Wp.seq
              apply Wp.region
              refine WpL.v (V.cmp) ?_
              refine WpL.v (V.as) ?_
              apply WpL.nil
              apply Out.seqN
              refine Wp.c (fun hf2 => ?_) (fun hf2 => ?_)
              (try simp only [decide_eq_true_eq, decide_eq_false_iff_not, Bool.not_eq_true', Bool.not_eq_false', Bool.not_eq_true, Bool.not_eq_false, not_true_eq_false, not_false_eq_true, reduceCtorEq] at hf2)
              (exfalso; omega)
              (try simp only [decide_eq_true_eq, decide_eq_false_iff_not, Bool.not_eq_true', Bool.not_eq_false', Bool.not_eq_true, Bool.not_eq_false, not_true_eq_false, not_false_eq_true, reduceCtorEq] at hf2)
              apply Wp.seq
              apply Wp.region
              refine WpL.v (V.cmp) ?_
              refine WpL.v (V.as) ?_
              apply WpL.nil
              apply Out.seqN
              refine Wp.c (fun hf3 => ?_) (fun hf3 => ?_)
              (try simp only [decide_eq_true_eq, decide_eq_false_iff_not, Bool.not_eq_true', Bool.not_eq_false', Bool.not_eq_true, Bool.not_eq_false, not_true_eq_false, not_false_eq_true, reduceCtorEq] at hf3)
              apply Wp.seq
              apply Wp.region
              refine WpL.v (V.mv) ?_
              refine WpL.v (V.fa tb) ?_
              refine WpL.v (V.ld1 tb) ?_
              refine WpL.o (Op1.callT rfl (hP) (by (repeat (first | exact Sel.nil | exact Rem.here | apply Sel.cons | apply Rem.there))) ?_)
              rintro v4 s5 ⟨rfl, rfl⟩
              refine incat ?_
              refine WpL.v (V.mv) ?_
              refine WpL.v (V.ex) ?_
              refine WpL.v (V.ex) ?_
              refine WpL.v (V.as) ?_
              refine WpL.v (V.as) ?_
              apply WpL.nil
              apply Out.seqN
              apply Wp.seq
              apply Wp.region
              refine WpL.v (V.mv) ?_
              refine WpL.v (V.fa tb) ?_
              refine WpL.v (V.ld1 tb) ?_
              refine WpL.o (Op1.callT rfl (hQ) (by (repeat (first | exact Sel.nil | exact Rem.here | apply Sel.cons | apply Rem.there))) ?_)
              rintro v6 s7 ⟨wk89, ⟨wd89, ⟨rfl, rfl⟩⟩⟩
              refine incat ?_
              refine WpL.v (V.mv) ?_
              refine WpL.v (V.ex) ?_
              refine WpL.v (V.ex) ?_
              refine WpL.v (V.as) ?_
              refine WpL.v (V.as) ?_
              apply WpL.nil
              apply Out.seqN
              apply Wp.region
              refine WpL.v (V.mv) ?_
              refine WpL.v (V.mv) ?_
              refine WpL.v (V.cmp) ?_
              refine WpL.v (V.mv) ?_
              refine WpL.pt (fun hf8 => ?_) (fun hf8 => ?_)
              (try simp only [decide_eq_true_eq, decide_eq_false_iff_not, Bool.not_eq_true', Bool.not_eq_false', Bool.not_eq_true, Bool.not_eq_false, not_true_eq_false, not_false_eq_true, reduceCtorEq] at hf8)
              refine WpL.v (V.mv) ?_
              refine WpL.v (V.mv) ?_
              refine WpL.v (V.eqB tb) ?_
              refine WpL.v (V.pT) ?_
              refine WpL.v (V.as) ?_
              apply WpL.nil
              apply Out.blockN
              apply Out.seqN
              apply Wp.seq
              refine Wp.dG [] ?_ (List.Sublist.cons_cons _ (List.Sublist.cons _ (List.Sublist.cons _ (List.Sublist.cons _ (List.Sublist.cons _ (List.Sublist.cons _ (List.Sublist.cons _ (List.Sublist.cons _ List.Sublist.slnil)))))))) (List.Sublist.cons_cons _ (List.Sublist.cons _ (List.Sublist.cons _ (List.Sublist.cons _ (List.Sublist.cons _ (List.Sublist.cons _ (List.Sublist.cons _ (List.Sublist.cons _ List.Sublist.slnil))))))))
              refine WpA.tF 0 rfl (V.mv) ?_
              refine WpA.tF 1 rfl (V.not) ?_
              refine WpA.tF 2 rfl (V.mv) ?_
              refine WpA.tF 3 rfl (V.mv) ?_
              refine WpA.tF 5 rfl (V.mv) ?_
              refine WpA.tF 6 rfl (V.nc) ?_
              refine WpA.tF 7 rfl (V.fa tb) ?_
              refine WpA.tF 8 rfl (V.ld1 tb) ?_
              refine WpA.e2 4 9 rfl rfl ?_ ?_
              refine Op1.callT rfl (hL _) (by (repeat (first | exact Sel.nil | exact Rem.here | apply Sel.cons | apply Rem.there))) ?_
              rintro v9 s10 ⟨rfl, rfl⟩
              refine incat ⟨?_, ?_, ?_⟩
              exact holdT
              exact holdT
              refine WpA.oS 9 rfl (Op1.vv (V.lenRows tb) ⟨?_, ?_, ?_⟩)
              exact holdT
              exact holdT
              refine WpA.tF 10 rfl (V.cmp) ?_
              refine WpA.tF 11 rfl (V.pF) ?_
              refine WpA.ou ?_
              apply Out.seqN
              refine Wp.c (fun hf11 => ?_) (fun hf11 => ?_)
              (try simp only [decide_eq_true_eq, decide_eq_false_iff_not, Bool.not_eq_true', Bool.not_eq_false', Bool.not_eq_true, Bool.not_eq_false, not_true_eq_false, not_false_eq_true, reduceCtorEq] at hf11)
              (try simp only [decide_eq_true_eq, decide_eq_false_iff_not, Bool.not_eq_true', Bool.not_eq_false', Bool.not_eq_true, Bool.not_eq_false, not_true_eq_false, not_false_eq_true, reduceCtorEq] at hf11)
              apply Wp.skip
              apply Out.blockN
              apply Out.seqN
              apply Wp.region
              refine WpL.v (V.add) ?_
              refine WpL.v (V.mv) ?_
              apply WpL.nil
              rotate_left
              refine Op1.vv (V.lenRows tb) ⟨?_, ?_, ?_⟩
              exact holdT
              exact holdT
              refine WpA.oS 4 rfl (Op1.callT rfl (hL _) (by (repeat (first | exact Sel.nil | exact Rem.here | apply Sel.cons | apply Rem.there))) ?_)
              rintro v12 s13 ⟨rfl, rfl⟩
              refine incat ⟨?_, ?_, ?_⟩
              exact holdT
              exact holdT
              refine WpA.tF 10 rfl (V.cmp) ?_
              refine WpA.tF 11 rfl (V.pF) ?_
              refine WpA.ou ?_
              apply Out.seqN
              refine Wp.c (fun hf14 => ?_) (fun hf14 => ?_)
              (try simp only [decide_eq_true_eq, decide_eq_false_iff_not, Bool.not_eq_true', Bool.not_eq_false', Bool.not_eq_true, Bool.not_eq_false, not_true_eq_false, not_false_eq_true, reduceCtorEq] at hf14)
              (try simp only [decide_eq_true_eq, decide_eq_false_iff_not, Bool.not_eq_true', Bool.not_eq_false', Bool.not_eq_true, Bool.not_eq_false, not_true_eq_false, not_false_eq_true, reduceCtorEq] at hf14)
              apply Wp.skip
              apply Out.blockN
              apply Out.seqN
              apply Wp.region
              refine WpL.v (V.add) ?_
              refine WpL.v (V.mv) ?_
              apply WpL.nil
              rotate_left
              (try simp only [decide_eq_true_eq, decide_eq_false_iff_not, Bool.not_eq_true', Bool.not_eq_false', Bool.not_eq_true, Bool.not_eq_false, not_true_eq_false, not_false_eq_true, reduceCtorEq] at hf8)
              (try simp only [decide_eq_true_eq, decide_eq_false_iff_not, Bool.not_eq_true', Bool.not_eq_false', Bool.not_eq_true, Bool.not_eq_false, not_true_eq_false, not_false_eq_true, reduceCtorEq] at hf3)
              (exfalso; omega)
              (try simp only [decide_eq_true_eq, decide_eq_false_iff_not, Bool.not_eq_true', Bool.not_eq_false', Bool.not_eq_true, Bool.not_eq_false, not_true_eq_false, not_false_eq_true, reduceCtorEq] at hf0)
              (exfalso; omega)
              all_goals exact Out.ag hK ⟨k + 1, t, _, rest, _, _, ks2, ds2⟩ ⟨by show k + 1 ≤ _; omega, hw2, by show rest.length ≤ k + 1; omega, by show t ≤ ((k + 1 : Nat) : Int); omega⟩ (by show xs.length - (k + 1) < xs.length - k; omega)
          · have hL := wheel_len p26 v t l
            rw [← hwl.1] at hL
            unfold whE at hL
            by_cases k3 : s.Kind = 3
            · have hD := wheel_due p26 v t l s.Key (by omega)
              have hA := ref_at p28 vk vd ks ds s.Key (by omega)
              unfold rix at hA
              unfold whE at hD
              unfold rwE at hA
              rcases hw1.due s.Key with ⟨hn, hd⟩ | ⟨i, d, hi, hdi, hd⟩
              · rw [hn] at hA
                rw [hd] at hD
                apply Wp.seq
                apply Wp.region
                refine WpL.v (V.cmp) ?_
                apply WpL.nil
                apply Out.seqN
                apply Wp.seq
                refine Wp.c (fun hg0 => ?_) (fun hg0 => ?_)
                (try simp only [decide_eq_true_eq, decide_eq_false_iff_not, Bool.not_eq_true', Bool.not_eq_false', Bool.not_eq_true, Bool.not_eq_false, not_true_eq_false, not_false_eq_true, reduceCtorEq] at hg0)
                apply Wp.skip
                apply Out.seqN
                apply Wp.seq
                apply Wp.block
                apply Wp.seq
                apply Wp.region
                refine WpL.v (V.ixR tb rfl rfl (by assumption)) ?_
                refine WpL.v (V.ldRA tb rfl (by assumption) (getMapS (by assumption))) ?_
                refine WpL.o (O.al tb (fun p6 => ?_))
                refine WpL.o (O.stA tb ?_)
                apply WpL.nil
                apply Out.seqN
                apply Wp.seq
                apply Wp.region
                refine WpL.v (V.as) ?_
                apply WpL.nil
                apply Out.seqN
                apply Wp.seq
                apply Wp.seq
                apply Wp.region
                refine WpL.v (V.fa tb) ?_
                refine WpL.v (V.ld1 tb) ?_
                apply WpL.nil
                apply Out.seqN
                apply Wp.block
                apply Wp.seq
                apply Wp.region
                refine WpL.v (V.cmp) ?_
                refine WpL.v (V.as) ?_
                apply WpL.nil
                apply Out.seqN
                refine Wp.c (fun hg1 => ?_) (fun hg1 => ?_)
                (try simp only [decide_eq_true_eq, decide_eq_false_iff_not, Bool.not_eq_true', Bool.not_eq_false', Bool.not_eq_true, Bool.not_eq_false, not_true_eq_false, not_false_eq_true, reduceCtorEq] at hg1)
                (exfalso; omega)
                (try simp only [decide_eq_true_eq, decide_eq_false_iff_not, Bool.not_eq_true', Bool.not_eq_false', Bool.not_eq_true, Bool.not_eq_false, not_true_eq_false, not_false_eq_true, reduceCtorEq] at hg1)
                apply Wp.seq
                apply Wp.region
                refine WpL.v (V.cmp) ?_
                refine WpL.v (V.as) ?_
                apply WpL.nil
                apply Out.seqN
                refine Wp.c (fun hg2 => ?_) (fun hg2 => ?_)
                (try simp only [decide_eq_true_eq, decide_eq_false_iff_not, Bool.not_eq_true', Bool.not_eq_false', Bool.not_eq_true, Bool.not_eq_false, not_true_eq_false, not_false_eq_true, reduceCtorEq] at hg2)
                (exfalso; omega)
                (try simp only [decide_eq_true_eq, decide_eq_false_iff_not, Bool.not_eq_true', Bool.not_eq_false', Bool.not_eq_true, Bool.not_eq_false, not_true_eq_false, not_false_eq_true, reduceCtorEq] at hg2)
                apply Wp.seq
                apply Wp.region
                refine WpL.v (V.cmp) ?_
                refine WpL.v (V.as) ?_
                apply WpL.nil
                apply Out.seqN
                refine Wp.c (fun hg3 => ?_) (fun hg3 => ?_)
                (try simp only [decide_eq_true_eq, decide_eq_false_iff_not, Bool.not_eq_true', Bool.not_eq_false', Bool.not_eq_true, Bool.not_eq_false, not_true_eq_false, not_false_eq_true, reduceCtorEq] at hg3)
                (exfalso; omega)
                (try simp only [decide_eq_true_eq, decide_eq_false_iff_not, Bool.not_eq_true', Bool.not_eq_false', Bool.not_eq_true, Bool.not_eq_false, not_true_eq_false, not_false_eq_true, reduceCtorEq] at hg3)
                apply Wp.seq
                apply Wp.region
                refine WpL.v (V.cmp) ?_
                refine WpL.v (V.as) ?_
                apply WpL.nil
                apply Out.seqN
                refine Wp.c (fun hg4 => ?_) (fun hg4 => ?_)
                (try simp only [decide_eq_true_eq, decide_eq_false_iff_not, Bool.not_eq_true', Bool.not_eq_false', Bool.not_eq_true, Bool.not_eq_false, not_true_eq_false, not_false_eq_true, reduceCtorEq] at hg4)
                apply Wp.seq
                apply Wp.region
                refine WpL.v (V.mv) ?_
                refine WpL.v (V.fa tb) ?_
                refine WpL.v (V.ld1 tb) ?_
                refine WpL.o (Op1.callT rfl (hD) (by (repeat (first | exact Sel.nil | exact Rem.here | apply Sel.cons | apply Rem.there))) ?_)
                rintro v5 s6 ⟨rfl, rfl⟩
                refine incat ?_
                refine WpL.v (V.mv) ?_
                refine WpL.v (V.ex) ?_
                refine WpL.v (V.ex) ?_
                refine WpL.v (V.as) ?_
                refine WpL.v (V.as) ?_
                apply WpL.nil
                apply Out.seqN
                apply Wp.seq
                apply Wp.region
                refine WpL.v (V.mv) ?_
                refine WpL.v (V.fa tb) ?_
                refine WpL.v (V.ld1 tb) ?_
                refine WpL.o (Op1.callT rfl (hA) (by (repeat (first | exact Sel.nil | exact Rem.here | apply Sel.cons | apply Rem.there))) ?_)
                rintro v7 s8 ⟨rfl, rfl⟩
                refine incat ?_
                refine WpL.v (V.as) ?_
                apply WpL.nil
                apply Out.seqN
                apply Wp.region
                refine WpL.v (V.mv) ?_
                refine WpL.v (V.mv) ?_
                refine WpL.v (V.cmp) ?_
                refine WpL.v (V.eqB tb) ?_
                refine WpL.v (V.mv) ?_
                refine WpL.v (V.mv) ?_
                refine WpL.v (V.not) ?_
                refine WpL.v (V.mv) ?_
                refine WpL.v (V.mv) ?_
                refine WpL.v (V.cmp) ?_
                refine WpL.v (V.pT) ?_
                refine WpL.v (V.mv) ?_
                refine WpL.sk ?_
                refine WpL.sk ?_
                refine WpL.sk ?_
                refine WpL.sk ?_
                refine WpL.sk ?_
                refine WpL.sk ?_
                refine WpL.sk ?_
                refine WpL.sk ?_
                refine WpL.sk ?_
                refine WpL.sk ?_
                refine WpL.sk ?_
                refine WpL.sk ?_
                refine WpL.v (V.pT) ?_
                refine WpL.v (V.pT) ?_
                refine WpL.v (V.as) ?_
                apply WpL.nil
                apply Out.blockN
                apply Out.seqN
                apply Wp.seq
                refine Wp.dG [] ?_ (List.Sublist.cons_cons _ (List.Sublist.cons _ (List.Sublist.cons _ (List.Sublist.cons _ (List.Sublist.cons _ (List.Sublist.cons _ (List.Sublist.cons _ (List.Sublist.cons _ List.Sublist.slnil)))))))) (List.Sublist.cons_cons _ (List.Sublist.cons _ (List.Sublist.cons _ (List.Sublist.cons _ (List.Sublist.cons _ (List.Sublist.cons _ (List.Sublist.cons _ (List.Sublist.cons _ List.Sublist.slnil))))))))
                refine WpA.tF 0 rfl (V.mv) ?_
                refine WpA.tF 1 rfl (V.not) ?_
                refine WpA.tF 2 rfl (V.mv) ?_
                refine WpA.tF 3 rfl (V.mv) ?_
                refine WpA.tF 5 rfl (V.mv) ?_
                refine WpA.tF 6 rfl (V.nc) ?_
                refine WpA.tF 7 rfl (V.fa tb) ?_
                refine WpA.tF 8 rfl (V.ld1 tb) ?_
                refine WpA.e2 4 9 rfl rfl ?_ ?_
                refine Op1.callT rfl (hL) (by (repeat (first | exact Sel.nil | exact Rem.here | apply Sel.cons | apply Rem.there))) ?_
                rintro v9 s10 ⟨rfl, rfl⟩
                refine incat ⟨?_, ?_, ?_⟩
                exact holdT
                exact holdT
                refine WpA.oS 9 rfl (Op1.vv (V.lenRows tb) ⟨?_, ?_, ?_⟩)
                exact holdT
                exact holdT
                refine WpA.tF 10 rfl (V.cmp) ?_
                refine WpA.tF 11 rfl (V.pF) ?_
                refine WpA.ou ?_
                apply Out.seqN
                refine Wp.c (fun hg11 => ?_) (fun hg11 => ?_)
                (try simp only [decide_eq_true_eq, decide_eq_false_iff_not, Bool.not_eq_true', Bool.not_eq_false', Bool.not_eq_true, Bool.not_eq_false, not_true_eq_false, not_false_eq_true, reduceCtorEq] at hg11)
                (try simp only [decide_eq_true_eq, decide_eq_false_iff_not, Bool.not_eq_true', Bool.not_eq_false', Bool.not_eq_true, Bool.not_eq_false, not_true_eq_false, not_false_eq_true, reduceCtorEq] at hg11)
                apply Wp.skip
                apply Out.blockN
                apply Out.seqN
                apply Wp.region
                refine WpL.v (V.add) ?_
                refine WpL.v (V.mv) ?_
                apply WpL.nil
                rotate_left
                refine Op1.vv (V.lenRows tb) ⟨?_, ?_, ?_⟩
                exact holdT
                exact holdT
                refine WpA.oS 4 rfl (Op1.callT rfl (hL) (by (repeat (first | exact Sel.nil | exact Rem.here | apply Sel.cons | apply Rem.there))) ?_)
                rintro v12 s13 ⟨rfl, rfl⟩
                refine incat ⟨?_, ?_, ?_⟩
                exact holdT
                exact holdT
                refine WpA.tF 10 rfl (V.cmp) ?_
                refine WpA.tF 11 rfl (V.pF) ?_
                refine WpA.ou ?_
                apply Out.seqN
                refine Wp.c (fun hg14 => ?_) (fun hg14 => ?_)
                (try simp only [decide_eq_true_eq, decide_eq_false_iff_not, Bool.not_eq_true', Bool.not_eq_false', Bool.not_eq_true, Bool.not_eq_false, not_true_eq_false, not_false_eq_true, reduceCtorEq] at hg14)
                (try simp only [decide_eq_true_eq, decide_eq_false_iff_not, Bool.not_eq_true', Bool.not_eq_false', Bool.not_eq_true, Bool.not_eq_false, not_true_eq_false, not_false_eq_true, reduceCtorEq] at hg14)
                apply Wp.skip
                apply Out.blockN
                apply Out.seqN
                apply Wp.region
                refine WpL.v (V.add) ?_
                refine WpL.v (V.mv) ?_
                apply WpL.nil
                rotate_left
                (try simp only [decide_eq_true_eq, decide_eq_false_iff_not, Bool.not_eq_true', Bool.not_eq_false', Bool.not_eq_true, Bool.not_eq_false, not_true_eq_false, not_false_eq_true, reduceCtorEq] at hg4)
                (exfalso; omega)
                (try simp only [decide_eq_true_eq, decide_eq_false_iff_not, Bool.not_eq_true', Bool.not_eq_false', Bool.not_eq_true, Bool.not_eq_false, not_true_eq_false, not_false_eq_true, reduceCtorEq] at hg0)
                (exfalso; omega)
                all_goals exact Out.ag hK ⟨k + 1, t, v, l, vk, vd, ks, ds⟩ ⟨by show k + 1 ≤ _; omega, hw1, by show l.length ≤ k + 1; omega, by show t ≤ ((k + 1 : Nat) : Int); omega⟩ (by show xs.length - (k + 1) < xs.length - k; omega)
              · rw [hi] at hA
                rw [hd] at hD
                refine Wp.fact (rowsForm (List.Mem.tail _ (List.Mem.tail _ (List.Mem.tail _ (List.Mem.tail _ (List.Mem.head _)))))) fun hform => ?_
                have hil := (List.getElem?_eq_some_iff.1 hdi).1
                obtain ⟨g, cp, rfl⟩ := rowAt hil hform
                apply Wp.seq
                apply Wp.region
                refine WpL.v (V.cmp) ?_
                apply WpL.nil
                apply Out.seqN
                apply Wp.seq
                refine Wp.c (fun hh0 => ?_) (fun hh0 => ?_)
                (try simp only [decide_eq_true_eq, decide_eq_false_iff_not, Bool.not_eq_true', Bool.not_eq_false', Bool.not_eq_true, Bool.not_eq_false, not_true_eq_false, not_false_eq_true, reduceCtorEq] at hh0)
                apply Wp.skip
                apply Out.seqN
                apply Wp.seq
                apply Wp.block
                apply Wp.seq
                apply Wp.region
                refine WpL.v (V.ixR tb rfl rfl (by assumption)) ?_
                refine WpL.v (V.ldRA tb rfl (by assumption) (getMapS (by assumption))) ?_
                refine WpL.o (O.al tb (fun p6 => ?_))
                refine WpL.o (O.stA tb ?_)
                apply WpL.nil
                apply Out.seqN
                apply Wp.seq
                apply Wp.region
                refine WpL.v (V.as) ?_
                apply WpL.nil
                apply Out.seqN
                apply Wp.seq
                apply Wp.seq
                apply Wp.region
                refine WpL.v (V.fa tb) ?_
                refine WpL.v (V.ld1 tb) ?_
                apply WpL.nil
                apply Out.seqN
                apply Wp.block
                apply Wp.seq
                apply Wp.region
                refine WpL.v (V.cmp) ?_
                refine WpL.v (V.as) ?_
                apply WpL.nil
                apply Out.seqN
                refine Wp.c (fun hh1 => ?_) (fun hh1 => ?_)
                (try simp only [decide_eq_true_eq, decide_eq_false_iff_not, Bool.not_eq_true', Bool.not_eq_false', Bool.not_eq_true, Bool.not_eq_false, not_true_eq_false, not_false_eq_true, reduceCtorEq] at hh1)
                (exfalso; omega)
                (try simp only [decide_eq_true_eq, decide_eq_false_iff_not, Bool.not_eq_true', Bool.not_eq_false', Bool.not_eq_true, Bool.not_eq_false, not_true_eq_false, not_false_eq_true, reduceCtorEq] at hh1)
                apply Wp.seq
                apply Wp.region
                refine WpL.v (V.cmp) ?_
                refine WpL.v (V.as) ?_
                apply WpL.nil
                apply Out.seqN
                refine Wp.c (fun hh2 => ?_) (fun hh2 => ?_)
                (try simp only [decide_eq_true_eq, decide_eq_false_iff_not, Bool.not_eq_true', Bool.not_eq_false', Bool.not_eq_true, Bool.not_eq_false, not_true_eq_false, not_false_eq_true, reduceCtorEq] at hh2)
                (exfalso; omega)
                (try simp only [decide_eq_true_eq, decide_eq_false_iff_not, Bool.not_eq_true', Bool.not_eq_false', Bool.not_eq_true, Bool.not_eq_false, not_true_eq_false, not_false_eq_true, reduceCtorEq] at hh2)
                apply Wp.seq
                apply Wp.region
                refine WpL.v (V.cmp) ?_
                refine WpL.v (V.as) ?_
                apply WpL.nil
                apply Out.seqN
                refine Wp.c (fun hh3 => ?_) (fun hh3 => ?_)
                (try simp only [decide_eq_true_eq, decide_eq_false_iff_not, Bool.not_eq_true', Bool.not_eq_false', Bool.not_eq_true, Bool.not_eq_false, not_true_eq_false, not_false_eq_true, reduceCtorEq] at hh3)
                (exfalso; omega)
                (try simp only [decide_eq_true_eq, decide_eq_false_iff_not, Bool.not_eq_true', Bool.not_eq_false', Bool.not_eq_true, Bool.not_eq_false, not_true_eq_false, not_false_eq_true, reduceCtorEq] at hh3)
                apply Wp.seq
                apply Wp.region
                refine WpL.v (V.cmp) ?_
                refine WpL.v (V.as) ?_
                apply WpL.nil
                apply Out.seqN
                refine Wp.c (fun hh4 => ?_) (fun hh4 => ?_)
                (try simp only [decide_eq_true_eq, decide_eq_false_iff_not, Bool.not_eq_true', Bool.not_eq_false', Bool.not_eq_true, Bool.not_eq_false, not_true_eq_false, not_false_eq_true, reduceCtorEq] at hh4)
                apply Wp.seq
                apply Wp.region
                refine WpL.v (V.mv) ?_
                refine WpL.v (V.fa tb) ?_
                refine WpL.v (V.ld1 tb) ?_
                refine WpL.o (Op1.callT rfl (hD) (by (repeat (first | exact Sel.nil | exact Rem.here | apply Sel.cons | apply Rem.there))) ?_)
                rintro v5 s6 ⟨rfl, rfl⟩
                refine incat ?_
                refine WpL.v (V.mv) ?_
                refine WpL.v (V.ex) ?_
                refine WpL.v (V.ex) ?_
                refine WpL.v (V.as) ?_
                refine WpL.v (V.as) ?_
                apply WpL.nil
                apply Out.seqN
                apply Wp.seq
                apply Wp.region
                refine WpL.v (V.mv) ?_
                refine WpL.v (V.fa tb) ?_
                refine WpL.v (V.ld1 tb) ?_
                refine WpL.o (Op1.callT rfl (hA) (by (repeat (first | exact Sel.nil | exact Rem.here | apply Sel.cons | apply Rem.there))) ?_)
                rintro v7 s8 ⟨rfl, rfl⟩
                refine incat ?_
                refine WpL.v (V.as) ?_
                apply WpL.nil
                apply Out.seqN
                apply Wp.region
                refine WpL.v (V.mv) ?_
                refine WpL.v (V.mv) ?_
                refine WpL.v (V.cmp) ?_
                refine WpL.v (V.eqB tb) ?_
                refine WpL.v (V.mv) ?_
                refine WpL.pt (fun hh9 => ?_) (fun hh9 => ?_)
                (try simp only [decide_eq_true_eq, decide_eq_false_iff_not, Bool.not_eq_true', Bool.not_eq_false', Bool.not_eq_true, Bool.not_eq_false, not_true_eq_false, not_false_eq_true, reduceCtorEq] at hh9)
                refine WpL.v (V.mv) ?_
                refine WpL.v (V.not) ?_
                refine WpL.v (V.mv) ?_
                refine WpL.pt (fun hh10 => ?_) (fun hh10 => ?_)
                (try simp only [decide_eq_true_eq, decide_eq_false_iff_not, Bool.not_eq_true', Bool.not_eq_false', Bool.not_eq_true, Bool.not_eq_false, not_true_eq_false, not_false_eq_true, reduceCtorEq] at hh10)
                (try simp only [decide_eq_true_eq, decide_eq_false_iff_not, Bool.not_eq_true', Bool.not_eq_false', Bool.not_eq_true, Bool.not_eq_false, not_true_eq_false, not_false_eq_true, reduceCtorEq] at hh10)
                refine WpL.sk ?_
                refine WpL.sk ?_
                refine WpL.v (V.pF) ?_
                refine WpL.v (V.mv) ?_
                refine WpL.v (V.mv) ?_
                refine WpL.v (V.mv) ?_
                refine WpL.v (V.mv) ?_
                refine WpL.v (V.mv) ?_
                refine WpL.v (V.nc) ?_
                refine WpL.v (V.fa tb) ?_
                refine WpL.v (V.ld1 tb) ?_
                refine WpL.v (V.mv) ?_
                refine WpL.v (V.ixk tb (k := i) rfl rfl rfl rfl (by omega)) ?_
                refine WpL.v (V.ldRow1 tb rfl (by (repeat first | exact List.Mem.head _ | apply List.Mem.tail)) (fun _ => rfl) hdi) ?_
                refine WpL.v (V.cmp) ?_
                refine WpL.v (V.pT) ?_
                refine WpL.v (V.pF) ?_
                refine WpL.v (V.pT) ?_
                refine WpL.v (V.as) ?_
                apply WpL.nil
                apply Out.blockN
                apply Out.seqN
                apply Wp.seq
                refine Wp.dG [] ?_ (List.Sublist.cons_cons _ (List.Sublist.cons _ (List.Sublist.cons _ (List.Sublist.cons _ (List.Sublist.cons _ (List.Sublist.cons _ (List.Sublist.cons _ (List.Sublist.cons _ List.Sublist.slnil)))))))) (List.Sublist.cons_cons _ (List.Sublist.cons _ (List.Sublist.cons _ (List.Sublist.cons _ (List.Sublist.cons _ (List.Sublist.cons _ (List.Sublist.cons _ (List.Sublist.cons _ List.Sublist.slnil))))))))
                refine WpA.tF 0 rfl (V.mv) ?_
                refine WpA.tF 1 rfl (V.not) ?_
                refine WpA.tF 2 rfl (V.mv) ?_
                refine WpA.pt 141 (fun hh11 => ?_) (fun hh11 => ?_)
                (try simp only [decide_eq_true_eq, decide_eq_false_iff_not, Bool.not_eq_true', Bool.not_eq_false', Bool.not_eq_true, Bool.not_eq_false, not_true_eq_false, not_false_eq_true, reduceCtorEq] at hh11)
                (try simp only [decide_eq_true_eq, decide_eq_false_iff_not, Bool.not_eq_true', Bool.not_eq_false', Bool.not_eq_true, Bool.not_eq_false, not_true_eq_false, not_false_eq_true, reduceCtorEq] at hh11)
                refine WpA.tF 3 rfl (V.mv) ?_
                refine WpA.tF 5 rfl (V.mv) ?_
                refine WpA.tF 6 rfl (V.nc) ?_
                refine WpA.tF 7 rfl (V.fa tb) ?_
                refine WpA.tF 8 rfl (V.ld1 tb) ?_
                refine WpA.e2 4 9 rfl rfl ?_ ?_
                refine Op1.callT rfl (hL) (by (repeat (first | exact Sel.nil | exact Rem.here | apply Sel.cons | apply Rem.there))) ?_
                rintro v12 s13 ⟨rfl, rfl⟩
                refine incat ⟨?_, ?_, ?_⟩
                exact holdT
                exact holdT
                refine WpA.oS 9 rfl (Op1.vv (V.lenRows tb) ⟨?_, ?_, ?_⟩)
                exact holdT
                exact holdT
                refine WpA.tF 10 rfl (V.cmp) ?_
                refine WpA.tF 11 rfl (V.pF) ?_
                refine WpA.ou ?_
                apply Out.seqN
                refine Wp.c (fun hh14 => ?_) (fun hh14 => ?_)
                (try simp only [decide_eq_true_eq, decide_eq_false_iff_not, Bool.not_eq_true', Bool.not_eq_false', Bool.not_eq_true, Bool.not_eq_false, not_true_eq_false, not_false_eq_true, reduceCtorEq] at hh14)
                (try simp only [decide_eq_true_eq, decide_eq_false_iff_not, Bool.not_eq_true', Bool.not_eq_false', Bool.not_eq_true, Bool.not_eq_false, not_true_eq_false, not_false_eq_true, reduceCtorEq] at hh14)
                apply Wp.skip
                apply Out.blockN
                apply Out.seqN
                apply Wp.region
                refine WpL.v (V.add) ?_
                refine WpL.v (V.mv) ?_
                apply WpL.nil
                rotate_left
                refine Op1.vv (V.lenRows tb) ⟨?_, ?_, ?_⟩
                exact holdT
                exact holdT
                refine WpA.oS 4 rfl (Op1.callT rfl (hL) (by (repeat (first | exact Sel.nil | exact Rem.here | apply Sel.cons | apply Rem.there))) ?_)
                rintro v15 s16 ⟨rfl, rfl⟩
                refine incat ⟨?_, ?_, ?_⟩
                exact holdT
                exact holdT
                refine WpA.tF 10 rfl (V.cmp) ?_
                refine WpA.tF 11 rfl (V.pF) ?_
                refine WpA.ou ?_
                apply Out.seqN
                refine Wp.c (fun hh17 => ?_) (fun hh17 => ?_)
                (try simp only [decide_eq_true_eq, decide_eq_false_iff_not, Bool.not_eq_true', Bool.not_eq_false', Bool.not_eq_true, Bool.not_eq_false, not_true_eq_false, not_false_eq_true, reduceCtorEq] at hh17)
                (try simp only [decide_eq_true_eq, decide_eq_false_iff_not, Bool.not_eq_true', Bool.not_eq_false', Bool.not_eq_true, Bool.not_eq_false, not_true_eq_false, not_false_eq_true, reduceCtorEq] at hh17)
                apply Wp.skip
                apply Out.blockN
                apply Out.seqN
                apply Wp.region
                refine WpL.v (V.add) ?_
                refine WpL.v (V.mv) ?_
                apply WpL.nil
                rotate_left
                (try simp only [decide_eq_true_eq, decide_eq_false_iff_not, Bool.not_eq_true', Bool.not_eq_false', Bool.not_eq_true, Bool.not_eq_false, not_true_eq_false, not_false_eq_true, reduceCtorEq] at hh9)
                contradiction
                (try simp only [decide_eq_true_eq, decide_eq_false_iff_not, Bool.not_eq_true', Bool.not_eq_false', Bool.not_eq_true, Bool.not_eq_false, not_true_eq_false, not_false_eq_true, reduceCtorEq] at hh4)
                (exfalso; omega)
                (try simp only [decide_eq_true_eq, decide_eq_false_iff_not, Bool.not_eq_true', Bool.not_eq_false', Bool.not_eq_true, Bool.not_eq_false, not_true_eq_false, not_false_eq_true, reduceCtorEq] at hh0)
                (exfalso; omega)
                all_goals exact Out.ag hK ⟨k + 1, t, v, l, vk, _, ks, ds⟩ ⟨by show k + 1 ≤ _; omega, hw1, by show l.length ≤ k + 1; omega, by show t ≤ ((k + 1 : Nat) : Int); omega⟩ (by show xs.length - (k + 1) < xs.length - k; omega)
            · apply Wp.seq
              apply Wp.region
              refine WpL.v (V.cmp) ?_
              apply WpL.nil
              apply Out.seqN
              apply Wp.seq
              refine Wp.c (fun hi0 => ?_) (fun hi0 => ?_)
              (try simp only [decide_eq_true_eq, decide_eq_false_iff_not, Bool.not_eq_true', Bool.not_eq_false', Bool.not_eq_true, Bool.not_eq_false, not_true_eq_false, not_false_eq_true, reduceCtorEq] at hi0)
              apply Wp.skip
              apply Out.seqN
              apply Wp.seq
              apply Wp.block
              apply Wp.seq
              apply Wp.region
              refine WpL.v (V.ixR tb rfl rfl (by assumption)) ?_
              refine WpL.v (V.ldRA tb rfl (by assumption) (getMapS (by assumption))) ?_
              refine WpL.o (O.al tb (fun p6 => ?_))
              refine WpL.o (O.stA tb ?_)
              apply WpL.nil
              apply Out.seqN
              apply Wp.seq
              apply Wp.region
              refine WpL.v (V.as) ?_
              apply WpL.nil
              apply Out.seqN
              apply Wp.seq
              apply Wp.seq
              apply Wp.region
              refine WpL.v (V.fa tb) ?_
              refine WpL.v (V.ld1 tb) ?_
              apply WpL.nil
              apply Out.seqN
              apply Wp.block
              apply Wp.seq
              apply Wp.region
              refine WpL.v (V.cmp) ?_
              refine WpL.v (V.as) ?_
              apply WpL.nil
              apply Out.seqN
              refine Wp.c (fun hi1 => ?_) (fun hi1 => ?_)
              (try simp only [decide_eq_true_eq, decide_eq_false_iff_not, Bool.not_eq_true', Bool.not_eq_false', Bool.not_eq_true, Bool.not_eq_false, not_true_eq_false, not_false_eq_true, reduceCtorEq] at hi1)
              (exfalso; omega)
              (try simp only [decide_eq_true_eq, decide_eq_false_iff_not, Bool.not_eq_true', Bool.not_eq_false', Bool.not_eq_true, Bool.not_eq_false, not_true_eq_false, not_false_eq_true, reduceCtorEq] at hi1)
              apply Wp.seq
              apply Wp.region
              refine WpL.v (V.cmp) ?_
              refine WpL.v (V.as) ?_
              apply WpL.nil
              apply Out.seqN
              refine Wp.c (fun hi2 => ?_) (fun hi2 => ?_)
              (try simp only [decide_eq_true_eq, decide_eq_false_iff_not, Bool.not_eq_true', Bool.not_eq_false', Bool.not_eq_true, Bool.not_eq_false, not_true_eq_false, not_false_eq_true, reduceCtorEq] at hi2)
              (exfalso; omega)
              (try simp only [decide_eq_true_eq, decide_eq_false_iff_not, Bool.not_eq_true', Bool.not_eq_false', Bool.not_eq_true, Bool.not_eq_false, not_true_eq_false, not_false_eq_true, reduceCtorEq] at hi2)
              apply Wp.seq
              apply Wp.region
              refine WpL.v (V.cmp) ?_
              refine WpL.v (V.as) ?_
              apply WpL.nil
              apply Out.seqN
              refine Wp.c (fun hi3 => ?_) (fun hi3 => ?_)
              (try simp only [decide_eq_true_eq, decide_eq_false_iff_not, Bool.not_eq_true', Bool.not_eq_false', Bool.not_eq_true, Bool.not_eq_false, not_true_eq_false, not_false_eq_true, reduceCtorEq] at hi3)
              (exfalso; omega)
              (try simp only [decide_eq_true_eq, decide_eq_false_iff_not, Bool.not_eq_true', Bool.not_eq_false', Bool.not_eq_true, Bool.not_eq_false, not_true_eq_false, not_false_eq_true, reduceCtorEq] at hi3)
              apply Wp.seq
              apply Wp.region
              refine WpL.v (V.cmp) ?_
              refine WpL.v (V.as) ?_
              apply WpL.nil
              apply Out.seqN
              refine Wp.c (fun hi4 => ?_) (fun hi4 => ?_)
              (try simp only [decide_eq_true_eq, decide_eq_false_iff_not, Bool.not_eq_true', Bool.not_eq_false', Bool.not_eq_true, Bool.not_eq_false, not_true_eq_false, not_false_eq_true, reduceCtorEq] at hi4)
              (exfalso; omega)
              (try simp only [decide_eq_true_eq, decide_eq_false_iff_not, Bool.not_eq_true', Bool.not_eq_false', Bool.not_eq_true, Bool.not_eq_false, not_true_eq_false, not_false_eq_true, reduceCtorEq] at hi4)
              apply Wp.skip
              apply Out.blockN
              apply Out.seqN
              apply Wp.seq
              refine Wp.dG [] ?_ (List.Sublist.cons _ (List.Sublist.cons _ (List.Sublist.cons _ (List.Sublist.cons_cons _ (List.Sublist.cons _ (List.Sublist.cons _ (List.Sublist.cons _ (List.Sublist.cons _ List.Sublist.slnil)))))))) (List.Sublist.cons _ (List.Sublist.cons _ (List.Sublist.cons _ (List.Sublist.cons_cons _ (List.Sublist.cons _ (List.Sublist.cons _ (List.Sublist.cons _ (List.Sublist.cons _ List.Sublist.slnil))))))))
              refine WpA.tF 0 rfl (V.mv) ?_
              refine WpA.tF 1 rfl (V.not) ?_
              refine WpA.tF 2 rfl (V.mv) ?_
              refine WpA.tF 3 rfl (V.mv) ?_
              refine WpA.tF 5 rfl (V.mv) ?_
              refine WpA.tF 6 rfl (V.nc) ?_
              refine WpA.tF 7 rfl (V.fa tb) ?_
              refine WpA.tF 8 rfl (V.ld1 tb) ?_
              refine WpA.e2 4 9 rfl rfl ?_ ?_
              refine Op1.callT rfl (hL) (by (repeat (first | exact Sel.nil | exact Rem.here | apply Sel.cons | apply Rem.there))) ?_
              rintro v5 s6 ⟨rfl, rfl⟩
              refine incat ⟨?_, ?_, ?_⟩
              exact holdT
              exact holdT
              refine WpA.oS 9 rfl (Op1.vv (V.lenRows tb) ⟨?_, ?_, ?_⟩)
              exact holdT
              exact holdT
              refine WpA.tF 10 rfl (V.cmp) ?_
              refine WpA.tF 11 rfl (V.pF) ?_
              refine WpA.ou ?_
              apply Out.seqN
              refine Wp.c (fun hi7 => ?_) (fun hi7 => ?_)
              (try simp only [decide_eq_true_eq, decide_eq_false_iff_not, Bool.not_eq_true', Bool.not_eq_false', Bool.not_eq_true, Bool.not_eq_false, not_true_eq_false, not_false_eq_true, reduceCtorEq] at hi7)
              (try simp only [decide_eq_true_eq, decide_eq_false_iff_not, Bool.not_eq_true', Bool.not_eq_false', Bool.not_eq_true, Bool.not_eq_false, not_true_eq_false, not_false_eq_true, reduceCtorEq] at hi7)
              apply Wp.skip
              apply Out.blockN
              apply Out.seqN
              apply Wp.region
              refine WpL.v (V.add) ?_
              refine WpL.v (V.mv) ?_
              apply WpL.nil
              rotate_left
              refine Op1.vv (V.lenRows tb) ⟨?_, ?_, ?_⟩
              exact holdT
              exact holdT
              refine WpA.oS 4 rfl (Op1.callT rfl (hL) (by (repeat (first | exact Sel.nil | exact Rem.here | apply Sel.cons | apply Rem.there))) ?_)
              rintro v8 s9 ⟨rfl, rfl⟩
              refine incat ⟨?_, ?_, ?_⟩
              exact holdT
              exact holdT
              refine WpA.tF 10 rfl (V.cmp) ?_
              refine WpA.tF 11 rfl (V.pF) ?_
              refine WpA.ou ?_
              apply Out.seqN
              refine Wp.c (fun hi10 => ?_) (fun hi10 => ?_)
              (try simp only [decide_eq_true_eq, decide_eq_false_iff_not, Bool.not_eq_true', Bool.not_eq_false', Bool.not_eq_true, Bool.not_eq_false, not_true_eq_false, not_false_eq_true, reduceCtorEq] at hi10)
              (try simp only [decide_eq_true_eq, decide_eq_false_iff_not, Bool.not_eq_true', Bool.not_eq_false', Bool.not_eq_true, Bool.not_eq_false, not_true_eq_false, not_false_eq_true, reduceCtorEq] at hi10)
              apply Wp.skip
              apply Out.blockN
              apply Out.seqN
              apply Wp.region
              refine WpL.v (V.add) ?_
              refine WpL.v (V.mv) ?_
              apply WpL.nil
              rotate_left
              (try simp only [decide_eq_true_eq, decide_eq_false_iff_not, Bool.not_eq_true', Bool.not_eq_false', Bool.not_eq_true, Bool.not_eq_false, not_true_eq_false, not_false_eq_true, reduceCtorEq] at hi0)
              (exfalso; omega)
              all_goals exact Out.ag hK ⟨k + 1, t, v, l, vk, vd, ks, ds⟩ ⟨by show k + 1 ≤ _; omega, hw1, by show l.length ≤ k + 1; omega, by show t ≤ ((k + 1 : Nat) : Int); omega⟩ (by show xs.length - (k + 1) < xs.length - k; omega)
    · obtain rfl : k = xs.length := by omega
      clear hK
      have hU := wheel_until 0 (.pointer none) rfl 9
      have hD (g : Nat) := wheel_drop0 (some ⟨g, 0, none⟩) 1 g 0 1 (rows i64c (.slice (some ⟨g, 0, none⟩) 1 1) 3 1 [1]) (Rd.rows (l := [1]) (fun _ => rfl) (by simp))
      apply Wp.seq
      apply Wp.region
      refine WpL.v (V.cmp) ?_
      apply WpL.nil
      apply Out.seqN
      apply Wp.seq
      refine Wp.c (fun hj0 => ?_) (fun hj0 => ?_)
      (try simp only [decide_eq_true_eq, decide_eq_false_iff_not, Bool.not_eq_true', Bool.not_eq_false', Bool.not_eq_true, Bool.not_eq_false, not_true_eq_false, not_false_eq_true, reduceCtorEq] at hj0)
      (exfalso; omega)
      (try simp only [decide_eq_true_eq, decide_eq_false_iff_not, Bool.not_eq_true', Bool.not_eq_false', Bool.not_eq_true, Bool.not_eq_false, not_true_eq_false, not_false_eq_true, reduceCtorEq] at hj0)
      apply Wp.exit
      apply Out.seqE
      apply Out.seqE
      apply Out.blockE
      apply Out.seqN
      apply Wp.seq
      apply Wp.region
      refine WpL.v (V.as) ?_
      apply WpL.nil
      apply Out.seqN
      apply Wp.seq
      apply Wp.region
      refine WpL.v (V.mv) ?_
      refine WpL.o (Op1.callT rfl (wheel_set0 1 1) (by (repeat (first | exact Sel.nil | exact Rem.here | apply Sel.cons | apply Rem.there))) ?_)
      rintro v1 s2 ⟨rfl, rfl⟩
      refine incat ?_
      apply WpL.nil
      apply Out.seqN
      apply Wp.seq
      apply Wp.region
      refine WpL.v (V.mv) ?_
      refine WpL.o (Op1.callT rfl (wheel_due0 1) (by (repeat (first | exact Sel.nil | exact Rem.here | apply Sel.cons | apply Rem.there))) ?_)
      rintro v3 s4 ⟨rfl, rfl⟩
      refine incat ?_
      refine WpL.v (V.mv) ?_
      refine WpL.v (V.ex) ?_
      refine WpL.v (V.ex) ?_
      refine WpL.v (V.as) ?_
      refine WpL.v (V.as) ?_
      apply WpL.nil
      apply Out.seqN
      apply Wp.seq
      apply Wp.region
      refine WpL.v (V.mv) ?_
      refine WpL.o (Op1.callT rfl (wheel_pop0 9) (by (repeat (first | exact Sel.nil | exact Rem.here | apply Sel.cons | apply Rem.there))) ?_)
      rintro v5 s6 ⟨rfl, rfl⟩
      refine incat ?_
      refine WpL.v (V.mv) ?_
      refine WpL.v (V.ex) ?_
      refine WpL.v (V.ex) ?_
      refine WpL.v (V.as) ?_
      refine WpL.v (V.as) ?_
      apply WpL.nil
      apply Out.seqN
      apply Wp.seq
      apply Wp.seq
      apply Wp.region
      refine WpL.v (V.mv) ?_
      refine WpL.o (Op1.callT rfl (hU) (by (repeat (first | exact Sel.nil | exact Rem.here | apply Sel.cons | apply Rem.there))) ?_)
      rintro v7 s8 ⟨a165, ⟨c165, ⟨rfl, rfl⟩⟩⟩
      refine incat ?_
      apply WpL.nil
      apply Out.seqN
      apply Wp.block
      refine Wp.rgB (wheel_iter0 a165 c165 9) (fun _ : Unit => ()) (fun _ => [cells p2 4 [B false]]) (fun k _ => k = 0) (fun _ _ _ => False) () 0 (fun j y h => by omega) rfl rfl ?_ ?_ ?_
      · rintro j i c b' lp rec _ h
        exact h.elim
      · rintro j c b' _ _
        dsimp only [List.cons_append, List.nil_append]
        apply Out.blockN
        apply Out.seqN
        apply Wp.seq
        apply Wp.region
        refine WpL.v (V.mv) ?_
        refine WpL.v (V.not) ?_
        refine WpL.v (V.mv) ?_
        refine WpL.v (V.mv) ?_
        refine WpL.v (V.not) ?_
        refine WpL.v (V.pT) ?_
        refine WpL.v (V.mv) ?_
        refine WpL.v (V.mv) ?_
        refine WpL.o (O.litL tb i64c [1] rfl (PartsFrom.one rfl PartsFrom.nil) rfl rfl (fun p175 => ?_))
        refine WpL.o (Op1.callT rfl (hD _) (by (repeat (first | exact Sel.nil | exact Rem.here | apply Sel.cons | apply Rem.there))) ?_)
        rintro v0 s1 ⟨rfl, rfl⟩
        refine incat ?_
        refine WpL.v (V.mv) ?_
        refine WpL.o (Op1.callT rfl (wheel_len0) (by (repeat (first | exact Sel.nil | exact Rem.here | apply Sel.cons | apply Rem.there))) ?_)
        rintro v2 s3 ⟨rfl, rfl⟩
        refine incat ?_
        refine WpL.v (V.add) ?_
        refine WpL.v (V.cmp) ?_
        refine WpL.v (V.pT) ?_
        refine WpL.o (O.st1 tb ?_)
        apply WpL.nil
        apply Out.seqN
        apply Wp.ret
        refine Out.f1 rfl (ResIs.c1 tb) ⟨?_, rfl⟩
        exact rfl
      · intro _ _ _ _ _ _ h
        exact h.elim
  · refine Ct.enter Try.func17 rfl rfl fun W => ?_
    apply Wp.seq
    apply Wp.region
    refine WpL.o (O.al tb (fun p2 => ?_))
    apply WpL.nil
    apply Out.seqN
    apply Wp.seq
    apply Wp.seq
    apply Wp.region
    refine WpL.o (Op1.fn rfl (alive10) ?_)
    refine WpL.v (V.not) ?_
    apply WpL.nil
    apply Out.seqN
    refine Wp.cF ?_
    apply Wp.skip
    apply Out.seqN
    apply Wp.seq
    apply Wp.seq
    apply Wp.region
    refine WpL.v (V.mv) ?_
    refine WpL.v (V.lenL tb) ?_
    refine WpL.v (V.cmp) ?_
    apply WpL.nil
    apply Out.seqN
    refine Wp.c (fun hz0 => ?_) (fun hz0 => ?_)
    (try simp only [decide_eq_true_eq, decide_eq_false_iff_not, Bool.not_eq_true', Bool.not_eq_false', Bool.not_eq_true, Bool.not_eq_false, not_true_eq_false, not_false_eq_true, reduceCtorEq] at hz0)
    apply Wp.seq
    apply Wp.region
    refine WpL.o (O.st1 tb ?_)
    apply WpL.nil
    apply Out.seqN
    apply Wp.ret
    apply Out.seqR
    refine Out.f1 rfl (ResIs.c1 tb) ⟨?_, rfl⟩
    exact rfl
    (try simp only [decide_eq_true_eq, decide_eq_false_iff_not, Bool.not_eq_true', Bool.not_eq_false', Bool.not_eq_true, Bool.not_eq_false, not_true_eq_false, not_false_eq_true, reduceCtorEq] at hz0)
    (exfalso; omega)
open Go Go.ChangeShapes Go.WideShapes Go.ChangeAt Go.RowKit
theorem wheelDoes_read : (Try.f17.params.toList.all fun t => Try.prog.readableRec t && decide (t < Try.prog.types.size)) = true := by kernel_rfl
theorem wheelDoes_lifted (os : Go.Os) (started : os.Started) (H : Type) (enc : Go.TypeId × Go.Value → H) :
    ReturnsInHanded {} Try.checked os 17 .any (Rows.wheelDoesSpec.pre6 enc Try.prog Try.f17 Rows.wheelDoesRow.domain false) (Rows.wheelDoesSpec.post enc Try.prog Try.f17 false true false false) := by
  refine returnsInHanded_of_change_sized (C := Try.checked) own started (by kernel_rfl) Try.func17
    (ChangeSpec.witness6 (enc := enc) (C := Try.checked) false ⟨#[], #[.slice none 0 0], []⟩ 8 (by kernel_rfl) (by kernel_rfl) (by kernel_rfl) (by kernel_rfl)) ?_
  intro W base args ds gs before hval0 hW hcnd hsz0 _
  have hsz : (DataW.weightsEach Try.prog (Try.f17.params.toList ++ Rows.wheelDoesSpec.plain.varTypes Try.prog) (ds ++ gs)).all (· ≤ reachBytes) = true := hsz0
  have hval : ∀ (j : Nat) t v, Try.f17.params[j]? = some t → args[j]? = some v → Value.okWide Try.prog W .any base t v := hval0
  have hW' := hW
  obtain ⟨p, q, hA0, hV, rfl, hfz, hnd⟩ := hW
  have hA1 : DataW.TrodAll enc Try.prog W 0 (fun _ => true) true Try.f17.params.toList args.toList ds p := hA0
  have hA := hA1
  rw [Try.params17] at hA hval hsz
  obtain ⟨v0, vs0, d0, ds0, p0, q0, hargs, rfl, rfl, h0, r0⟩ := trodAll_cons hA
  obtain ⟨rfl, rfl, rfl⟩ := trodAll_nil r0
  obtain rfl : args = #[v0] := by cases args; simp_all
  obtain ⟨rfl, rfl⟩ := trodVars_none hV
  obtain ⟨ao0, b0, off0, len0, cap0, xs0, rfl, hl0, hlc0, hcm0, ha0, hs0, hf0, hby0⟩ := open_slice_plain Try.underlying92 Caucuslaw10Call.leaves (by kernel_rfl) (by decide) (hval 0 92 v0 rfl rfl) h0 (sizedAll hsz 0 rfl rfl)
  obtain ⟨x0, rfl, w0⟩ := fits_map Caucuslaw10Call.c Caucuslaw10Call.wf hf0 Caucuslaw10Call.fit
  obtain rfl : len0 = x0.length := by simpa using hl0.symm
  simp only [List.append_nil] at hW' hA1
  have hbl : ∀ p : Nat × Nat, p ∈ [(x0.length, b0)] → 0 < p.1 → p.2 < W.heap.size := by
    intro p hp h0
    simp only [List.mem_cons, List.mem_nil_iff, or_false] at hp
    rcases hp with rfl
    · exact (ha0 h0).2
  have hR0 : Rd (snap W (blocksOf [(x0.length, b0)])) ao0 x0.length b0 off0 3 (x0.map Caucuslaw10Call.c) := Rd.snap (by simp) (Nat.le_trans hlc0 hcm0) ha0 hs0 (fun h => blocksOf_mem (len := x0.length) (by simp) h)
  refine (Ct.runSnap (blocksOf_nodup _) (blocksOf_lt hbl) (wheelDoes_walk _ _ _ _ _ x0 hR0)).mono fun e W' hh => ?_
  obtain ⟨rfl, hS⟩ := hh
  exact ⟨_, rfl, post_law (P := Try.prog) (f := Try.f17) (tbool := 4) hW' hA1 rfl rfl hS laid wheelDoes_read rfl Try.underlying4⟩
theorem wheelDoes_joined : joinedFacts Try.prog 17 Try.f17 Rows.wheelDoesSpec Rows.wheelDoesRow = true := by
  unfold joinedFacts
  rewrite [head_enter, head_lift, head_make]
  kernel_rfl
theorem wheelDoes_over : Rows.wheelDoesRow.holds Try.pinned (OpenSpec.ofChange Rows.wheelDoesSpec) :=
  OpenClaim.holds_of_wide 17 Try.f17 rfl rfl rfl rfl rfl rfl rfl ⟨rfl, rfl, rfl, rfl, rfl⟩ rfl rfl rfl rfl rfl (by kernel_rfl) Try.func17 wheelDoes_joined
    (of_decide_eq_true (by kernel_rfl)) (by unfold Func.isWrapper; first | (rw [if_pos (by decide +kernel)]; kernel_rfl) | (rw [if_neg (by decide +kernel)]; exact ⟨rfl, rfl⟩))
    (fun os started H enc _ => wheelDoes_lifted os started H enc)
/-- THE STATEMENT. -/
theorem wheelDoes_proved : Rows.WheelDoesSaid := wheelDoes_over
#print axioms wheelDoes_proved

end Go.Proofs.Ythoepbbpmdmfeaa
