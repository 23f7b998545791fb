/-
  The statement PoolDoes of layer 11: in every script each answer, and what is on its way, are the document's; a nil pool. Proved for every input.
-/
import Derived.Test.YtgbflapcadlelaaPRef3
import Derived.Test.YtgbflapcadlelaaHeapG
namespace Go.Proofs.Ytgbflapcadlelaa
open Go.HL
set_option linter.unusedSimpArgs false
set_option linter.unusedVariables false
set_option maxRecDepth 8000
/-- What is cut is cut in the document, too. -/
def Rel (c : List Bool) (cs : List (Int × Int)) : Prop := ∀ i j : Nat, i < 7 → j < 7 → cutAt c (i : Int) (j : Int) = refCut cs (i : Int) (j : Int)
theorem Rel.at {c cs} (h : Rel c cs) {a b : Int} (ha : isR a = true) (hb : isR b = true) : cutAt c a b = refCut cs a b := by
  obtain ⟨i, rfl, hi⟩ := isR_spec ha
  obtain ⟨j, rfl, hj⟩ := isR_spec hb
  exact h i j hi hj
theorem Rel.bad {c cs} (h : Rel c cs) (l : List PoolLetter) (x : PoolLetter) : badL c l x = badR cs l x := by
  unfold badL badR
  cases h1 : isR x.From with
  | false => rfl
  | true =>
    cases h2 : isR x.To with
    | false => rfl
    | true => rw [h.at h1 h2]
theorem Rel.zero : Rel (List.replicate 49 false) [] := fun i j _ _ => cutAt_no _ _
theorem cutAt_set {c : List Bool} {i j k m : Nat} (hc : c.length = 49) (hi : i < 7) (hj : j < 7) (hk : k < 7) (hm : m < 7) :
    (cutAt ((c.set (i * 7 + j) true).set (j * 7 + i) true) (k : Int) (m : Int)) = (decide (k = i ∧ m = j ∨ k = j ∧ m = i) || cutAt c k m) := by
  unfold cutAt
  have hlt : k * 7 + m < c.length := by omega
  simp only [Int.toNat_natCast, List.getD_eq_getElem?_getD, List.getElem?_set, List.length_set]
  by_cases h1 : j * 7 + i = k * 7 + m
  · have h2 : k = j ∧ m = i := by omega
    rw [if_pos h1, if_pos (by omega)]
    simp [h2]
  · rw [if_neg h1]
    by_cases h2 : i * 7 + j = k * 7 + m
    · have h3 : k = i ∧ m = j := by omega
      rw [if_pos h2, if_pos (by omega)]
      simp [h3]
    · rw [if_neg h2]
      have : ¬ (k = i ∧ m = j ∨ k = j ∧ m = i) := by
        rintro (⟨rfl, rfl⟩ | ⟨rfl, rfl⟩)
        · exact h2 rfl
        · exact h1 rfl
      simp [this]
theorem Rel.cut {c cs} (h : Rel c cs) (hc : c.length = 49) (a b : Int) : Rel (cutL c a b) (cs ++ [(a, b)]) := by
  intro i j hi hj
  have e : refCut (cs ++ [(a, b)]) (i : Int) (j : Int) = (refCut cs i j || hitP i j (a, b)) := by unfold refCut; rw [List.any_append]; simp
  rw [e, ← h i j hi hj]
  unfold cutL
  cases ha : isR a with
  | false =>
    have : hitP (i : Int) (j : Int) (a, b) = false := by
      simp only [isR, Bool.and_eq_false_iff, decide_eq_false_iff_not] at ha
      simp only [hitP, decide_eq_false_iff_not]; omega
    rw [this]; simp
  | true =>
    cases hb : isR b with
    | false =>
      have : hitP (i : Int) (j : Int) (a, b) = false := by
        simp only [isR, Bool.and_eq_false_iff, decide_eq_false_iff_not] at hb
        simp only [hitP, decide_eq_false_iff_not]; omega
      rw [this]; simp
    | true =>
      obtain ⟨p, rfl, hp⟩ := isR_spec ha
      obtain ⟨q, rfl, hq⟩ := isR_spec hb
      simp only [Bool.and_self, if_true, Int.toNat_natCast]
      rw [cutAt_set hc hp hq hi hj, Bool.or_comm]
      congr 1
      simp only [hitP, decide_eq_decide]
      omega
structure DS where
  i : Nat
  v : Go.Value
  vf : Go.Value
  vt : Go.Value
  vs : Go.Value
  vc : Go.Value
  n : Int
  l : List PoolLetter
  c : List Bool
  cs : List (Int × Int)
structure DS.ok (y : DS) (m : Nat) : Prop where
  hi : y.i ≤ m
  hn : 0 ≤ y.n
  hni : y.n ≤ y.i
  hl : y.l.length ≤ 256
  hok : ∀ x ∈ y.l, okL x = true
  hc : y.c.length = 49
  hcs : y.cs.length ≤ y.i
  hrel : Rel y.c y.cs
set_option maxHeartbeats 4000000 in
theorem poolDoes_walk (e : Ent) (ao : Option Go.Addr) (cap b off : Nat) (xs : List Caucuslaw11Call) (hR : Rd e ao xs.length b off 6 (xs.map Caucuslaw11Call.c)) :
    Ct Try.prog 13 [.slice ao xs.length cap] [e] (fun r σ' => r = B true ∧ σ' = [e]) := by
  have hm := hR.small
  simp only [Go.maxLen] at hm
  have hG := pool_great e ao cap b off xs hR
  cases hg : greatP xs with
  | true =>
    rw [hg] at hG
    refine Ct.enter Try.func13 rfl rfl fun W => ?_
    apply Wp.seq
    apply Wp.region
    refine WpL.v (V.as) ?_
    apply WpL.nil
    apply Out.seqN
    apply Wp.seq
    apply Wp.seq
    apply Wp.region
    refine WpL.o (Op1.fn rfl (pool_alive) ?_)
    refine WpL.v (V.not) ?_
    apply WpL.nil
    apply Out.seqN
    refine Wp.cF ?_
    apply Wp.skip
    apply Out.seqN
    apply Wp.seq
    apply Wp.seq
    apply Wp.region
    refine WpL.v (V.mv) ?_
    refine WpL.o (Op1.callT rfl (hG) (by (repeat (first | exact Sel.nil | exact Rem.here | apply Sel.cons | apply Rem.there))) ?_)
    rintro v0 s1 ⟨rfl, rfl⟩
    refine incat ?_
    apply WpL.nil
    apply Out.seqN
    refine Wp.cT ?_
    apply Wp.seq
    apply Wp.region
    refine WpL.v (V.as) ?_
    apply WpL.nil
    apply Out.seqN
    apply Wp.ret
    apply Out.seqR
    refine Out.f1 rfl ResIs.t ⟨?_, rfl⟩
    exact rfl
  | false =>
    rw [hg] at hG
    simp only [greatP, Bool.or_eq_false_iff, decide_eq_false_iff_not] at hg
    refine Ct.enter Try.func13 rfl rfl fun W => ?_
    refine Wp.nilRows pairC 85 2 ?_
    refine Wp.nilRows strc 9 1 ?_
    refine Wp.nilRows i64c 3 1 ?_
    refine Wp.nilRows i64c 3 1 ?_
    apply Wp.seq
    apply Wp.region
    refine WpL.v (V.as) ?_
    apply WpL.nil
    apply Out.seqN
    apply Wp.seq
    apply Wp.seq
    apply Wp.region
    refine WpL.o (Op1.fn rfl (pool_alive) ?_)
    refine WpL.v (V.not) ?_
    apply WpL.nil
    apply Out.seqN
    refine Wp.cF ?_
    apply Wp.skip
    apply Out.seqN
    apply Wp.seq
    apply Wp.seq
    apply Wp.region
    refine WpL.v (V.mv) ?_
    refine WpL.o (Op1.callT rfl (hG) (by (repeat (first | exact Sel.nil | exact Rem.here | apply Sel.cons | apply Rem.there))) ?_)
    rintro v0 s1 ⟨rfl, rfl⟩
    refine incat ?_
    apply WpL.nil
    apply Out.seqN
    refine Wp.cF ?_
    apply Wp.skip
    apply Out.seqN
    apply Wp.seq
    apply Wp.region
    refine WpL.o (Op1.callT rfl (pool_new) (by (repeat (first | exact Sel.nil | exact Rem.here | apply Sel.cons | apply Rem.there))) ?_)
    rintro v2 s3 ⟨b24, ⟨rfl, rfl⟩⟩
    refine incat ?_
    refine WpL.v (V.bld tb) ?_
    refine WpL.o (O.bxA (fun p26 => ?_))
    refine WpL.v (V.as) ?_
    refine WpL.v (V.as) ?_
    apply WpL.nil
    apply Out.seqN
    apply Wp.seq
    apply Wp.seq
    apply Wp.region
    refine WpL.v (V.mv) ?_
    refine WpL.v (V.lenL tb) ?_
    refine WpL.v (V.mv) ?_
    apply WpL.nil
    apply Out.seqN
    apply Wp.block
    refine Wp.lp [28, 27, 4, 3] (fun y : DS => y.ok xs.length) (fun y => [(29, I (y.i : Int))]) (fun y => poolE b24 y.v y.l y.c y.n ++ refE p26 y.vf y.vt y.vs y.vc y.n y.l y.cs) (fun y => xs.length - y.i)
      ⟨0, .slice none 0 0, .slice none 0 0, .slice none 0 0, .slice none 0 0, .slice none 0 0, 0, [], List.replicate 49 false, []⟩ ⟨Nat.zero_le _, by decide, by decide, by decide, by simp, rfl, by decide, Rel.zero⟩ ?_
    rintro ⟨i, v, vf, vt, vs, vc, n, l, c, cs⟩ ⟨hi, hn, hni, hl, hok, hc, hcs, hrel⟩ K hK
    dsimp only at hi hn hni hl hok hc hcs hrel
    dsimp only [poolE, refE, List.cons_append, List.nil_append]
    by_cases hlt : i < xs.length
    · obtain ⟨x, hx⟩ := getS hlt
      have hbound : xs.length ≤ 400 := by omega
      by_cases k0 : x.Kind = 0
      · have hbad := hrel.bad l x.Letter
        have hM := ref_send p26 vf vt vs vc n l cs x.Letter (by omega) hl (by omega)
        have hP (g : Nat) := pool_send (rows PoolLetter.c (.slice (some ⟨g, 0, none⟩) 1 1) 61 3 [x.Letter]) (some ⟨g, 0, none⟩) 1 g 0 b24 v l [x.Letter] c n (Rd.rows (l := [x.Letter]) PoolLetter.len (by simp)) hc hl (by omega) (by simp)
        cases hb : badR cs l x.Letter with
        | true =>
          rw [hb] at hM hbad
          simp only [if_true] at hM
          have e1 : sends c l [x.Letter] = (l, 1) := by simp [sends, stepS, hbad]
          simp only [e1] at hP
          have hP' (g : Nat) : Ct Try.prog 41 [Ptr b24 0, .slice (some ⟨g, 0, none⟩) 1 1] (rows PoolLetter.c (.slice (some ⟨g, 0, none⟩) 1 1) 61 3 [x.Letter] :: poolE b24 v l c n) (fun r σ' => ∃ v', r = I 1 ∧ σ' = rows PoolLetter.c (.slice (some ⟨g, 0, none⟩) 1 1) 61 3 [x.Letter] :: poolE b24 v' l c (n + 1)) := hP g
          have hE (v vf vt vs : Go.Value) := pool_same b24 p26 v vf vt vs vc (n + 1) l c cs hl hc
          apply Wp.seq
          apply Wp.region
          refine WpL.v (V.cmp) ?_
          apply WpL.nil
          apply Out.seqN
          apply Wp.seq
          refine Wp.c (fun h0 => ?_) (fun h0 => ?_)
          (try simp only [decide_eq_true_eq, decide_eq_false_iff_not, Bool.not_eq_true', Bool.not_eq_false', Bool.not_eq_true, Bool.not_eq_false, not_true_eq_false, not_false_eq_true, reduceCtorEq] at h0)
          apply Wp.skip
          apply Out.seqN
          apply Wp.seq
          apply Wp.block
          apply Wp.seq
          apply Wp.region
          refine WpL.v (V.ixR tb rfl rfl (by assumption)) ?_
          refine WpL.v (V.ldRA tb rfl (by assumption) (getMapS (by assumption))) ?_
          refine WpL.o (O.al tb (fun p6 => ?_))
          refine WpL.o (O.stA tb ?_)
          apply WpL.nil
          apply Out.seqN
          apply Wp.seq
          apply Wp.region
          refine WpL.v (V.as) ?_
          apply WpL.nil
          apply Out.seqN
          apply Wp.seq
          apply Wp.seq
          apply Wp.region
          refine WpL.v (V.fa tb) ?_
          refine WpL.v (V.ld1 tb) ?_
          apply WpL.nil
          apply Out.seqN
          apply Wp.block
          apply Wp.seq
          apply Wp.region
          refine WpL.v (V.cmp) ?_
          refine WpL.v (V.as) ?_
          apply WpL.nil
          apply Out.seqN
          refine Wp.c (fun h1 => ?_) (fun h1 => ?_)
          (try simp only [decide_eq_true_eq, decide_eq_false_iff_not, Bool.not_eq_true', Bool.not_eq_false', Bool.not_eq_true, Bool.not_eq_false, not_true_eq_false, not_false_eq_true, reduceCtorEq] at h1)
          apply Wp.seq
          apply Wp.region
          refine WpL.v (V.mv) ?_
          refine WpL.v (V.fa tb) ?_
          refine WpL.v (V.fa tb) ?_
          refine WpL.v (V.ld1 tb) ?_
          refine WpL.v (V.fa tb) ?_
          refine WpL.v (V.fa tb) ?_
          refine WpL.v (V.ld1 tb) ?_
          refine WpL.v (V.fa tb) ?_
          refine WpL.v (V.fa tb) ?_
          refine WpL.v (V.ld1 tb) ?_
          refine WpL.o (Op1.callT rfl (hM) (by (repeat (first | exact Sel.nil | exact Rem.here | apply Sel.cons | apply Rem.there))) ?_)
          rintro v2 s3 ⟨vf'47, ⟨vt'47, ⟨vs'47, ⟨rfl, rfl⟩⟩⟩⟩
          refine incat ?_
          refine WpL.v (V.as) ?_
          apply WpL.nil
          apply Out.seqN
          apply Wp.region
          refine WpL.v (V.mv) ?_
          refine WpL.v (V.fa tb) ?_
          refine WpL.v (V.ldA tb) ?_
          refine WpL.o (O.litL tb PoolLetter.c [x.Letter] rfl (PartsFrom.agg rfl PartsFrom.nil) rfl rfl (fun p51 => ?_))
          refine WpL.o (Op1.callT rfl (hP' _) (by (repeat (first | exact Sel.nil | exact Rem.here | apply Sel.cons | apply Rem.there))) ?_)
          rintro v4 s5 ⟨v'52, ⟨rfl, rfl⟩⟩
          refine incat ?_
          refine WpL.v (V.cmp) ?_
          refine WpL.v (V.mv) ?_
          refine WpL.v (V.eqB tb) ?_
          refine WpL.v (V.as) ?_
          apply WpL.nil
          apply Out.blockN
          apply Out.seqN
          apply Wp.seq
          apply Wp.region
          refine WpL.v (V.mv) ?_
          refine WpL.v (V.not) ?_
          refine WpL.v (V.mv) ?_
          refine WpL.v (V.mv) ?_
          refine WpL.v (V.mv) ?_
          refine WpL.o (Op1.callT rfl (hE _ _ _ _) (by (repeat (first | exact Sel.nil | exact Rem.here | apply Sel.cons | apply Rem.there))) ?_)
          rintro v6 s7 ⟨rfl, rfl⟩
          refine incat ?_
          refine WpL.v (V.not) ?_
          refine WpL.v (V.pF) ?_
          apply WpL.nil
          apply Out.seqN
          refine Wp.cF ?_
          apply Wp.skip
          apply Out.blockN
          apply Out.seqN
          apply Wp.region
          refine WpL.v (V.add) ?_
          refine WpL.v (V.mv) ?_
          apply WpL.nil
          rotate_left
          (try simp only [decide_eq_true_eq, decide_eq_false_iff_not, Bool.not_eq_true', Bool.not_eq_false', Bool.not_eq_true, Bool.not_eq_false, not_true_eq_false, not_false_eq_true, reduceCtorEq] at h1)
          (exfalso; omega)
          (try simp only [decide_eq_true_eq, decide_eq_false_iff_not, Bool.not_eq_true', Bool.not_eq_false', Bool.not_eq_true, Bool.not_eq_false, not_true_eq_false, not_false_eq_true, reduceCtorEq] at h0)
          (exfalso; omega)
          all_goals exact Out.ag hK ⟨i + 1, _, _, _, _, vc, n + 1, l, c, cs⟩ ⟨by show i + 1 ≤ _; omega, by show 0 ≤ n + 1; omega, by show n + 1 ≤ ((i + 1 : Nat) : Int); omega, hl, hok, hc, by show cs.length ≤ i + 1; omega, hrel⟩ (by show xs.length - (i + 1) < xs.length - i; omega)
        | false =>
          rw [hb] at hM hbad
          simp only [Bool.false_eq_true, if_false] at hM
          have hx' : okL x.Letter = true := by
            simp only [badR, Bool.or_eq_false_iff, Bool.not_eq_false'] at hb
            simp [okL, hb.1, hb.2.1]
          have hl' : l.length < 256 := by
            simp only [badR, Bool.or_eq_false_iff, decide_eq_false_iff_not] at hb
            omega
          have hokl : ∀ z ∈ l ++ [x.Letter], okL z = true := by
            intro z hz
            rcases List.mem_append.1 hz with h | h
            · exact hok z h
            · rw [List.mem_singleton.1 h]; exact hx'
          have e1 : sends c l [x.Letter] = (l ++ [x.Letter], 0) := by simp [sends, stepS, hbad]
          simp only [e1, Int.add_zero] at hP
          have hP' (g : Nat) : Ct Try.prog 41 [Ptr b24 0, .slice (some ⟨g, 0, none⟩) 1 1] (rows PoolLetter.c (.slice (some ⟨g, 0, none⟩) 1 1) 61 3 [x.Letter] :: poolE b24 v l c n) (fun r σ' => ∃ v', r = I 0 ∧ σ' = rows PoolLetter.c (.slice (some ⟨g, 0, none⟩) 1 1) 61 3 [x.Letter] :: poolE b24 v' (l ++ [x.Letter]) c n) := hP g
          have hE (v vf vt vs : Go.Value) := pool_same b24 p26 v vf vt vs vc n (l ++ [x.Letter]) c cs (by simp; omega) hc
          apply Wp.seq
          apply Wp.region
          refine WpL.v (V.cmp) ?_
          apply WpL.nil
          apply Out.seqN
          apply Wp.seq
          refine Wp.c (fun h0 => ?_) (fun h0 => ?_)
          (try simp only [decide_eq_true_eq, decide_eq_false_iff_not, Bool.not_eq_true', Bool.not_eq_false', Bool.not_eq_true, Bool.not_eq_false, not_true_eq_false, not_false_eq_true, reduceCtorEq] at h0)
          apply Wp.skip
          apply Out.seqN
          apply Wp.seq
          apply Wp.block
          apply Wp.seq
          apply Wp.region
          refine WpL.v (V.ixR tb rfl rfl (by assumption)) ?_
          refine WpL.v (V.ldRA tb rfl (by assumption) (getMapS (by assumption))) ?_
          refine WpL.o (O.al tb (fun p6 => ?_))
          refine WpL.o (O.stA tb ?_)
          apply WpL.nil
          apply Out.seqN
          apply Wp.seq
          apply Wp.region
          refine WpL.v (V.as) ?_
          apply WpL.nil
          apply Out.seqN
          apply Wp.seq
          apply Wp.seq
          apply Wp.region
          refine WpL.v (V.fa tb) ?_
          refine WpL.v (V.ld1 tb) ?_
          apply WpL.nil
          apply Out.seqN
          apply Wp.block
          apply Wp.seq
          apply Wp.region
          refine WpL.v (V.cmp) ?_
          refine WpL.v (V.as) ?_
          apply WpL.nil
          apply Out.seqN
          refine Wp.c (fun h1 => ?_) (fun h1 => ?_)
          (try simp only [decide_eq_true_eq, decide_eq_false_iff_not, Bool.not_eq_true', Bool.not_eq_false', Bool.not_eq_true, Bool.not_eq_false, not_true_eq_false, not_false_eq_true, reduceCtorEq] at h1)
          apply Wp.seq
          apply Wp.region
          refine WpL.v (V.mv) ?_
          refine WpL.v (V.fa tb) ?_
          refine WpL.v (V.fa tb) ?_
          refine WpL.v (V.ld1 tb) ?_
          refine WpL.v (V.fa tb) ?_
          refine WpL.v (V.fa tb) ?_
          refine WpL.v (V.ld1 tb) ?_
          refine WpL.v (V.fa tb) ?_
          refine WpL.v (V.fa tb) ?_
          refine WpL.v (V.ld1 tb) ?_
          refine WpL.o (Op1.callT rfl (hM) (by (repeat (first | exact Sel.nil | exact Rem.here | apply Sel.cons | apply Rem.there))) ?_)
          rintro v2 s3 ⟨vf'47, ⟨vt'47, ⟨vs'47, ⟨rfl, rfl⟩⟩⟩⟩
          refine incat ?_
          refine WpL.v (V.as) ?_
          apply WpL.nil
          apply Out.seqN
          apply Wp.region
          refine WpL.v (V.mv) ?_
          refine WpL.v (V.fa tb) ?_
          refine WpL.v (V.ldA tb) ?_
          refine WpL.o (O.litL tb PoolLetter.c [x.Letter] rfl (PartsFrom.agg rfl PartsFrom.nil) rfl rfl (fun p51 => ?_))
          refine WpL.o (Op1.callT rfl (hP' _) (by (repeat (first | exact Sel.nil | exact Rem.here | apply Sel.cons | apply Rem.there))) ?_)
          rintro v4 s5 ⟨v'52, ⟨rfl, rfl⟩⟩
          refine incat ?_
          refine WpL.v (V.cmp) ?_
          refine WpL.v (V.mv) ?_
          refine WpL.v (V.eqB tb) ?_
          refine WpL.v (V.as) ?_
          apply WpL.nil
          apply Out.blockN
          apply Out.seqN
          apply Wp.seq
          apply Wp.region
          refine WpL.v (V.mv) ?_
          refine WpL.v (V.not) ?_
          refine WpL.v (V.mv) ?_
          refine WpL.v (V.mv) ?_
          refine WpL.v (V.mv) ?_
          refine WpL.o (Op1.callT rfl (hE _ _ _ _) (by (repeat (first | exact Sel.nil | exact Rem.here | apply Sel.cons | apply Rem.there))) ?_)
          rintro v6 s7 ⟨rfl, rfl⟩
          refine incat ?_
          refine WpL.v (V.not) ?_
          refine WpL.v (V.pF) ?_
          apply WpL.nil
          apply Out.seqN
          refine Wp.cF ?_
          apply Wp.skip
          apply Out.blockN
          apply Out.seqN
          apply Wp.region
          refine WpL.v (V.add) ?_
          refine WpL.v (V.mv) ?_
          apply WpL.nil
          rotate_left
          (try simp only [decide_eq_true_eq, decide_eq_false_iff_not, Bool.not_eq_true', Bool.not_eq_false', Bool.not_eq_true, Bool.not_eq_false, not_true_eq_false, not_false_eq_true, reduceCtorEq] at h1)
          (exfalso; omega)
          (try simp only [decide_eq_true_eq, decide_eq_false_iff_not, Bool.not_eq_true', Bool.not_eq_false', Bool.not_eq_true, Bool.not_eq_false, not_true_eq_false, not_false_eq_true, reduceCtorEq] at h0)
          (exfalso; omega)
          all_goals exact Out.ag hK ⟨i + 1, _, _, _, _, _, n, l ++ [x.Letter], c, cs⟩ ⟨by show i + 1 ≤ _; omega, by show 0 ≤ n; omega, by show n ≤ ((i + 1 : Nat) : Int); omega, by show (l ++ [x.Letter]).length ≤ 256; simp; omega, hokl, hc, by show cs.length ≤ i + 1; omega, hrel⟩ (by show xs.length - (i + 1) < xs.length - i; omega)
      · by_cases k1 : x.Kind = 1
        · have hM := ref_take p26 vf vt vs vc n l cs x.N hl (by omega) (by omega)
          have hP := pool_take b24 v l c n x.N hc (by omega) hok
          cases ha : atP l x.N with
          | none =>
            simp only [ha] at hM hP
            have hE (v vf vt vs : Go.Value) := pool_same b24 p26 v vf vt vs vc n l c cs hl hc
            apply Wp.seq
            apply Wp.region
            refine WpL.v (V.cmp) ?_
            apply WpL.nil
            apply Out.seqN
            apply Wp.seq
            refine Wp.c (fun h0 => ?_) (fun h0 => ?_)
            (try simp only [decide_eq_true_eq, decide_eq_false_iff_not, Bool.not_eq_true', Bool.not_eq_false', Bool.not_eq_true, Bool.not_eq_false, not_true_eq_false, not_false_eq_true, reduceCtorEq] at h0)
            apply Wp.skip
            apply Out.seqN
            apply Wp.seq
            apply Wp.block
            apply Wp.seq
            apply Wp.region
            refine WpL.v (V.ixR tb rfl rfl (by assumption)) ?_
            refine WpL.v (V.ldRA tb rfl (by assumption) (getMapS (by assumption))) ?_
            refine WpL.o (O.al tb (fun p6 => ?_))
            refine WpL.o (O.stA tb ?_)
            apply WpL.nil
            apply Out.seqN
            apply Wp.seq
            apply Wp.region
            refine WpL.v (V.as) ?_
            apply WpL.nil
            apply Out.seqN
            apply Wp.seq
            apply Wp.seq
            apply Wp.region
            refine WpL.v (V.fa tb) ?_
            refine WpL.v (V.ld1 tb) ?_
            apply WpL.nil
            apply Out.seqN
            apply Wp.block
            apply Wp.seq
            apply Wp.region
            refine WpL.v (V.cmp) ?_
            refine WpL.v (V.as) ?_
            apply WpL.nil
            apply Out.seqN
            refine Wp.c (fun h1 => ?_) (fun h1 => ?_)
            (try simp only [decide_eq_true_eq, decide_eq_false_iff_not, Bool.not_eq_true', Bool.not_eq_false', Bool.not_eq_true, Bool.not_eq_false, not_true_eq_false, not_false_eq_true, reduceCtorEq] at h1)
            (exfalso; omega)
            (try simp only [decide_eq_true_eq, decide_eq_false_iff_not, Bool.not_eq_true', Bool.not_eq_false', Bool.not_eq_true, Bool.not_eq_false, not_true_eq_false, not_false_eq_true, reduceCtorEq] at h1)
            apply Wp.seq
            apply Wp.region
            refine WpL.v (V.cmp) ?_
            refine WpL.v (V.as) ?_
            apply WpL.nil
            apply Out.seqN
            refine Wp.c (fun h2 => ?_) (fun h2 => ?_)
            (try simp only [decide_eq_true_eq, decide_eq_false_iff_not, Bool.not_eq_true', Bool.not_eq_false', Bool.not_eq_true, Bool.not_eq_false, not_true_eq_false, not_false_eq_true, reduceCtorEq] at h2)
            apply Wp.seq
            apply Wp.region
            refine WpL.v (V.mv) ?_
            refine WpL.v (V.fa tb) ?_
            refine WpL.v (V.ld1 tb) ?_
            refine WpL.o (Op1.callT rfl (hP) (by (repeat (first | exact Sel.nil | exact Rem.here | apply Sel.cons | apply Rem.there))) ?_)
            rintro v3 s4 ⟨v'62, ⟨rfl, rfl⟩⟩
            refine incat ?_
            refine WpL.v (V.mv) ?_
            refine WpL.v (V.ex) ?_
            refine WpL.v (V.ex) ?_
            refine WpL.o (O.al tb (fun p9 => ?_))
            refine WpL.o (O.stA tb ?_)
            refine WpL.v (V.as) ?_
            apply WpL.nil
            apply Out.seqN
            apply Wp.seq
            apply Wp.region
            refine WpL.v (V.mv) ?_
            refine WpL.v (V.fa tb) ?_
            refine WpL.v (V.ld1 tb) ?_
            refine WpL.o (Op1.callT rfl (hM) (by (repeat (first | exact Sel.nil | exact Rem.here | apply Sel.cons | apply Rem.there))) ?_)
            rintro v5 s6 ⟨vf'69, ⟨vt'69, ⟨vs'69, ⟨rfl, rfl⟩⟩⟩⟩
            refine incat ?_
            refine WpL.v (V.mv) ?_
            refine WpL.v (V.ex) ?_
            refine WpL.v (V.ex) ?_
            refine WpL.v (V.ex) ?_
            refine WpL.v (V.ex) ?_
            refine WpL.v (V.as) ?_
            refine WpL.v (V.as) ?_
            refine WpL.v (V.as) ?_
            refine WpL.v (V.as) ?_
            apply WpL.nil
            apply Out.seqN
            apply Wp.region
            refine WpL.v (V.mv) ?_
            refine WpL.v (V.mv) ?_
            refine WpL.v (V.eqB tb) ?_
            refine WpL.v (V.mv) ?_
            refine WpL.v (V.ldA tb) ?_
            refine WpL.v (V.mv) ?_
            refine WpL.v (V.mv) ?_
            refine WpL.v (V.mv) ?_
            refine WpL.v (V.bld tb) ?_
            refine WpL.v (V.eq (PoolLetter.eqT _ _ _)) ?_
            refine WpL.v (V.pT) ?_
            refine WpL.v (V.as) ?_
            apply WpL.nil
            apply Out.blockN
            apply Out.seqN
            apply Wp.seq
            apply Wp.region
            refine WpL.v (V.mv) ?_
            refine WpL.v (V.not) ?_
            refine WpL.v (V.mv) ?_
            refine WpL.v (V.mv) ?_
            refine WpL.v (V.mv) ?_
            refine WpL.o (Op1.callT rfl (hE _ _ _ _) (by (repeat (first | exact Sel.nil | exact Rem.here | apply Sel.cons | apply Rem.there))) ?_)
            rintro v7 s8 ⟨rfl, rfl⟩
            refine incat ?_
            refine WpL.v (V.not) ?_
            refine WpL.v (V.pF) ?_
            apply WpL.nil
            apply Out.seqN
            refine Wp.cF ?_
            apply Wp.skip
            apply Out.blockN
            apply Out.seqN
            apply Wp.region
            refine WpL.v (V.add) ?_
            refine WpL.v (V.mv) ?_
            apply WpL.nil
            rotate_left
            (try simp only [decide_eq_true_eq, decide_eq_false_iff_not, Bool.not_eq_true', Bool.not_eq_false', Bool.not_eq_true, Bool.not_eq_false, not_true_eq_false, not_false_eq_true, reduceCtorEq] at h2)
            (exfalso; omega)
            (try simp only [decide_eq_true_eq, decide_eq_false_iff_not, Bool.not_eq_true', Bool.not_eq_false', Bool.not_eq_true, Bool.not_eq_false, not_true_eq_false, not_false_eq_true, reduceCtorEq] at h0)
            (exfalso; omega)
            all_goals exact Out.ag hK ⟨i + 1, _, _, _, _, _, n, l, c, cs⟩ ⟨by show i + 1 ≤ _; omega, by show 0 ≤ n; omega, by show n ≤ ((i + 1 : Nat) : Int); omega, hl, hok, hc, by show cs.length ≤ i + 1; omega, hrel⟩ (by show xs.length - (i + 1) < xs.length - i; omega)
          | some y =>
            obtain ⟨k, hk0, hk, hklt⟩ := atP_some ha
            simp only [ha] at hM hP
            have hy := hok y (List.mem_of_getElem? hk)
            simp only [okL, Bool.and_eq_true] at hy
            have hcc := hrel.at hy.1 hy.2
            have hel : (l.eraseIdx x.N.toNat).length ≤ 256 := by rw [List.length_eraseIdx]; split <;> omega
            have heo : ∀ z ∈ l.eraseIdx x.N.toNat, okL z = true := fun z hz => hok z (List.mem_of_mem_eraseIdx hz)
            cases h3 : refCut cs y.From y.To with
            | true =>
              rw [h3] at hcc
              simp only [hcc, h3, if_true] at hM hP
              have hE (v vf vt vs : Go.Value) := pool_same b24 p26 v vf vt vs vc (n + 1) (l.eraseIdx x.N.toNat) c cs hel hc
              apply Wp.seq
              apply Wp.region
              refine WpL.v (V.cmp) ?_
              apply WpL.nil
              apply Out.seqN
              apply Wp.seq
              refine Wp.c (fun h0 => ?_) (fun h0 => ?_)
              (try simp only [decide_eq_true_eq, decide_eq_false_iff_not, Bool.not_eq_true', Bool.not_eq_false', Bool.not_eq_true, Bool.not_eq_false, not_true_eq_false, not_false_eq_true, reduceCtorEq] at h0)
              apply Wp.skip
              apply Out.seqN
              apply Wp.seq
              apply Wp.block
              apply Wp.seq
              apply Wp.region
              refine WpL.v (V.ixR tb rfl rfl (by assumption)) ?_
              refine WpL.v (V.ldRA tb rfl (by assumption) (getMapS (by assumption))) ?_
              refine WpL.o (O.al tb (fun p6 => ?_))
              refine WpL.o (O.stA tb ?_)
              apply WpL.nil
              apply Out.seqN
              apply Wp.seq
              apply Wp.region
              refine WpL.v (V.as) ?_
              apply WpL.nil
              apply Out.seqN
              apply Wp.seq
              apply Wp.seq
              apply Wp.region
              refine WpL.v (V.fa tb) ?_
              refine WpL.v (V.ld1 tb) ?_
              apply WpL.nil
              apply Out.seqN
              apply Wp.block
              apply Wp.seq
              apply Wp.region
              refine WpL.v (V.cmp) ?_
              refine WpL.v (V.as) ?_
              apply WpL.nil
              apply Out.seqN
              refine Wp.c (fun h1 => ?_) (fun h1 => ?_)
              (try simp only [decide_eq_true_eq, decide_eq_false_iff_not, Bool.not_eq_true', Bool.not_eq_false', Bool.not_eq_true, Bool.not_eq_false, not_true_eq_false, not_false_eq_true, reduceCtorEq] at h1)
              (exfalso; omega)
              (try simp only [decide_eq_true_eq, decide_eq_false_iff_not, Bool.not_eq_true', Bool.not_eq_false', Bool.not_eq_true, Bool.not_eq_false, not_true_eq_false, not_false_eq_true, reduceCtorEq] at h1)
              apply Wp.seq
              apply Wp.region
              refine WpL.v (V.cmp) ?_
              refine WpL.v (V.as) ?_
              apply WpL.nil
              apply Out.seqN
              refine Wp.c (fun h2 => ?_) (fun h2 => ?_)
              (try simp only [decide_eq_true_eq, decide_eq_false_iff_not, Bool.not_eq_true', Bool.not_eq_false', Bool.not_eq_true, Bool.not_eq_false, not_true_eq_false, not_false_eq_true, reduceCtorEq] at h2)
              apply Wp.seq
              apply Wp.region
              refine WpL.v (V.mv) ?_
              refine WpL.v (V.fa tb) ?_
              refine WpL.v (V.ld1 tb) ?_
              refine WpL.o (Op1.callT rfl (hP) (by (repeat (first | exact Sel.nil | exact Rem.here | apply Sel.cons | apply Rem.there))) ?_)
              rintro v3 s4 ⟨v'62, ⟨rfl, rfl⟩⟩
              refine incat ?_
              refine WpL.v (V.mv) ?_
              refine WpL.v (V.ex) ?_
              refine WpL.v (V.ex) ?_
              refine WpL.o (O.al tb (fun p9 => ?_))
              refine WpL.o (O.stA tb ?_)
              refine WpL.v (V.as) ?_
              apply WpL.nil
              apply Out.seqN
              apply Wp.seq
              apply Wp.region
              refine WpL.v (V.mv) ?_
              refine WpL.v (V.fa tb) ?_
              refine WpL.v (V.ld1 tb) ?_
              refine WpL.o (Op1.callT rfl (hM) (by (repeat (first | exact Sel.nil | exact Rem.here | apply Sel.cons | apply Rem.there))) ?_)
              rintro v5 s6 ⟨vf'69, ⟨vt'69, ⟨vs'69, ⟨rfl, rfl⟩⟩⟩⟩
              refine incat ?_
              refine WpL.v (V.mv) ?_
              refine WpL.v (V.ex) ?_
              refine WpL.v (V.ex) ?_
              refine WpL.v (V.ex) ?_
              refine WpL.v (V.ex) ?_
              refine WpL.v (V.as) ?_
              refine WpL.v (V.as) ?_
              refine WpL.v (V.as) ?_
              refine WpL.v (V.as) ?_
              apply WpL.nil
              apply Out.seqN
              apply Wp.region
              refine WpL.v (V.mv) ?_
              refine WpL.v (V.mv) ?_
              refine WpL.v (V.eqB tb) ?_
              refine WpL.v (V.mv) ?_
              refine WpL.v (V.ldA tb) ?_
              refine WpL.v (V.mv) ?_
              refine WpL.v (V.mv) ?_
              refine WpL.v (V.mv) ?_
              refine WpL.v (V.bld tb) ?_
              refine WpL.v (V.eq (PoolLetter.eqT _ _ _)) ?_
              refine WpL.v (V.pT) ?_
              refine WpL.v (V.as) ?_
              apply WpL.nil
              apply Out.blockN
              apply Out.seqN
              apply Wp.seq
              apply Wp.region
              refine WpL.v (V.mv) ?_
              refine WpL.v (V.not) ?_
              refine WpL.v (V.mv) ?_
              refine WpL.v (V.mv) ?_
              refine WpL.v (V.mv) ?_
              refine WpL.o (Op1.callT rfl (hE _ _ _ _) (by (repeat (first | exact Sel.nil | exact Rem.here | apply Sel.cons | apply Rem.there))) ?_)
              rintro v7 s8 ⟨rfl, rfl⟩
              refine incat ?_
              refine WpL.v (V.not) ?_
              refine WpL.v (V.pF) ?_
              apply WpL.nil
              apply Out.seqN
              refine Wp.cF ?_
              apply Wp.skip
              apply Out.blockN
              apply Out.seqN
              apply Wp.region
              refine WpL.v (V.add) ?_
              refine WpL.v (V.mv) ?_
              apply WpL.nil
              rotate_left
              (try simp only [decide_eq_true_eq, decide_eq_false_iff_not, Bool.not_eq_true', Bool.not_eq_false', Bool.not_eq_true, Bool.not_eq_false, not_true_eq_false, not_false_eq_true, reduceCtorEq] at h2)
              (exfalso; omega)
              (try simp only [decide_eq_true_eq, decide_eq_false_iff_not, Bool.not_eq_true', Bool.not_eq_false', Bool.not_eq_true, Bool.not_eq_false, not_true_eq_false, not_false_eq_true, reduceCtorEq] at h0)
              (exfalso; omega)
              all_goals exact Out.ag hK ⟨i + 1, _, _, _, _, _, n + 1, l.eraseIdx x.N.toNat, c, cs⟩ ⟨by show i + 1 ≤ _; omega, by show 0 ≤ n + 1; omega, by show n + 1 ≤ ((i + 1 : Nat) : Int); omega, hel, heo, hc, by show cs.length ≤ i + 1; omega, hrel⟩ (by show xs.length - (i + 1) < xs.length - i; omega)
            | false =>
              rw [h3] at hcc
              simp only [hcc, h3, Bool.false_eq_true, if_false] at hM hP
              have hE (v vf vt vs : Go.Value) := pool_same b24 p26 v vf vt vs vc n (l.eraseIdx x.N.toNat) c cs hel hc
              apply Wp.seq
              apply Wp.region
              refine WpL.v (V.cmp) ?_
              apply WpL.nil
              apply Out.seqN
              apply Wp.seq
              refine Wp.c (fun h0 => ?_) (fun h0 => ?_)
              (try simp only [decide_eq_true_eq, decide_eq_false_iff_not, Bool.not_eq_true', Bool.not_eq_false', Bool.not_eq_true, Bool.not_eq_false, not_true_eq_false, not_false_eq_true, reduceCtorEq] at h0)
              apply Wp.skip
              apply Out.seqN
              apply Wp.seq
              apply Wp.block
              apply Wp.seq
              apply Wp.region
              refine WpL.v (V.ixR tb rfl rfl (by assumption)) ?_
              refine WpL.v (V.ldRA tb rfl (by assumption) (getMapS (by assumption))) ?_
              refine WpL.o (O.al tb (fun p6 => ?_))
              refine WpL.o (O.stA tb ?_)
              apply WpL.nil
              apply Out.seqN
              apply Wp.seq
              apply Wp.region
              refine WpL.v (V.as) ?_
              apply WpL.nil
              apply Out.seqN
              apply Wp.seq
              apply Wp.seq
              apply Wp.region
              refine WpL.v (V.fa tb) ?_
              refine WpL.v (V.ld1 tb) ?_
              apply WpL.nil
              apply Out.seqN
              apply Wp.block
              apply Wp.seq
              apply Wp.region
              refine WpL.v (V.cmp) ?_
              refine WpL.v (V.as) ?_
              apply WpL.nil
              apply Out.seqN
              refine Wp.c (fun h1 => ?_) (fun h1 => ?_)
              (try simp only [decide_eq_true_eq, decide_eq_false_iff_not, Bool.not_eq_true', Bool.not_eq_false', Bool.not_eq_true, Bool.not_eq_false, not_true_eq_false, not_false_eq_true, reduceCtorEq] at h1)
              (exfalso; omega)
              (try simp only [decide_eq_true_eq, decide_eq_false_iff_not, Bool.not_eq_true', Bool.not_eq_false', Bool.not_eq_true, Bool.not_eq_false, not_true_eq_false, not_false_eq_true, reduceCtorEq] at h1)
              apply Wp.seq
              apply Wp.region
              refine WpL.v (V.cmp) ?_
              refine WpL.v (V.as) ?_
              apply WpL.nil
              apply Out.seqN
              refine Wp.c (fun h2 => ?_) (fun h2 => ?_)
              (try simp only [decide_eq_true_eq, decide_eq_false_iff_not, Bool.not_eq_true', Bool.not_eq_false', Bool.not_eq_true, Bool.not_eq_false, not_true_eq_false, not_false_eq_true, reduceCtorEq] at h2)
              apply Wp.seq
              apply Wp.region
              refine WpL.v (V.mv) ?_
              refine WpL.v (V.fa tb) ?_
              refine WpL.v (V.ld1 tb) ?_
              refine WpL.o (Op1.callT rfl (hP) (by (repeat (first | exact Sel.nil | exact Rem.here | apply Sel.cons | apply Rem.there))) ?_)
              rintro v3 s4 ⟨v'62, ⟨rfl, rfl⟩⟩
              refine incat ?_
              refine WpL.v (V.mv) ?_
              refine WpL.v (V.ex) ?_
              refine WpL.v (V.ex) ?_
              refine WpL.o (O.al tb (fun p9 => ?_))
              refine WpL.o (O.stA tb ?_)
              refine WpL.v (V.as) ?_
              apply WpL.nil
              apply Out.seqN
              apply Wp.seq
              apply Wp.region
              refine WpL.v (V.mv) ?_
              refine WpL.v (V.fa tb) ?_
              refine WpL.v (V.ld1 tb) ?_
              refine WpL.o (Op1.callT rfl (hM) (by (repeat (first | exact Sel.nil | exact Rem.here | apply Sel.cons | apply Rem.there))) ?_)
              rintro v5 s6 ⟨vf'69, ⟨vt'69, ⟨vs'69, ⟨rfl, rfl⟩⟩⟩⟩
              refine incat ?_
              refine WpL.v (V.mv) ?_
              refine WpL.v (V.ex) ?_
              refine WpL.v (V.ex) ?_
              refine WpL.v (V.ex) ?_
              refine WpL.v (V.ex) ?_
              refine WpL.v (V.as) ?_
              refine WpL.v (V.as) ?_
              refine WpL.v (V.as) ?_
              refine WpL.v (V.as) ?_
              apply WpL.nil
              apply Out.seqN
              apply Wp.region
              refine WpL.v (V.mv) ?_
              refine WpL.v (V.mv) ?_
              refine WpL.v (V.eqB tb) ?_
              refine WpL.v (V.mv) ?_
              refine WpL.v (V.ldA tb) ?_
              refine WpL.v (V.mv) ?_
              refine WpL.v (V.mv) ?_
              refine WpL.v (V.mv) ?_
              refine WpL.v (V.bld tb) ?_
              refine WpL.v (V.eq (PoolLetter.eqT _ _ _)) ?_
              refine WpL.v (V.pT) ?_
              refine WpL.v (V.as) ?_
              apply WpL.nil
              apply Out.blockN
              apply Out.seqN
              apply Wp.seq
              apply Wp.region
              refine WpL.v (V.mv) ?_
              refine WpL.v (V.not) ?_
              refine WpL.v (V.mv) ?_
              refine WpL.pt (fun h7 => ?_) (fun h7 => ?_)
              (try simp only [decide_eq_true_eq, decide_eq_false_iff_not, Bool.not_eq_true', Bool.not_eq_false', Bool.not_eq_true, Bool.not_eq_false, not_true_eq_false, not_false_eq_true, reduceCtorEq] at h7)
              (try simp only [decide_eq_true_eq, decide_eq_false_iff_not, Bool.not_eq_true', Bool.not_eq_false', Bool.not_eq_true, Bool.not_eq_false, not_true_eq_false, not_false_eq_true, reduceCtorEq] at h7)
              refine WpL.v (V.mv) ?_
              refine WpL.v (V.mv) ?_
              refine WpL.o (Op1.callT rfl (hE _ _ _ _) (by (repeat (first | exact Sel.nil | exact Rem.here | apply Sel.cons | apply Rem.there))) ?_)
              rintro v8 s9 ⟨rfl, rfl⟩
              refine incat ?_
              refine WpL.v (V.not) ?_
              refine WpL.v (V.pF) ?_
              apply WpL.nil
              apply Out.seqN
              refine Wp.cF ?_
              apply Wp.skip
              apply Out.blockN
              apply Out.seqN
              apply Wp.region
              refine WpL.v (V.add) ?_
              refine WpL.v (V.mv) ?_
              apply WpL.nil
              rotate_left
              (try simp only [decide_eq_true_eq, decide_eq_false_iff_not, Bool.not_eq_true', Bool.not_eq_false', Bool.not_eq_true, Bool.not_eq_false, not_true_eq_false, not_false_eq_true, reduceCtorEq] at h2)
              (exfalso; omega)
              (try simp only [decide_eq_true_eq, decide_eq_false_iff_not, Bool.not_eq_true', Bool.not_eq_false', Bool.not_eq_true, Bool.not_eq_false, not_true_eq_false, not_false_eq_true, reduceCtorEq] at h0)
              (exfalso; omega)
              all_goals exact Out.ag hK ⟨i + 1, _, _, _, _, _, n, l.eraseIdx x.N.toNat, c, cs⟩ ⟨by show i + 1 ≤ _; omega, by show 0 ≤ n; omega, by show n ≤ ((i + 1 : Nat) : Int); omega, hel, heo, hc, by show cs.length ≤ i + 1; omega, hrel⟩ (by show xs.length - (i + 1) < xs.length - i; omega)
        · by_cases k2 : x.Kind = 2
          · have hI := ref_Is p26 vf vt vs vc n l cs x.N
            have hP := pool_lose b24 v l c n x.N hc (by omega)
            cases ha : atP l x.N with
            | none =>
              simp only [ha, Option.isSome_none] at hI hP
              have hE (v vf vt vs : Go.Value) := pool_same b24 p26 v vf vt vs vc n l c cs hl hc
              apply Wp.seq
              apply Wp.region
              refine WpL.v (V.cmp) ?_
              apply WpL.nil
              apply Out.seqN
              apply Wp.seq
              refine Wp.c (fun h0 => ?_) (fun h0 => ?_)
              (try simp only [decide_eq_true_eq, decide_eq_false_iff_not, Bool.not_eq_true', Bool.not_eq_false', Bool.not_eq_true, Bool.not_eq_false, not_true_eq_false, not_false_eq_true, reduceCtorEq] at h0)
              apply Wp.skip
              apply Out.seqN
              apply Wp.seq
              apply Wp.block
              apply Wp.seq
              apply Wp.region
              refine WpL.v (V.ixR tb rfl rfl (by assumption)) ?_
              refine WpL.v (V.ldRA tb rfl (by assumption) (getMapS (by assumption))) ?_
              refine WpL.o (O.al tb (fun p6 => ?_))
              refine WpL.o (O.stA tb ?_)
              apply WpL.nil
              apply Out.seqN
              apply Wp.seq
              apply Wp.region
              refine WpL.v (V.as) ?_
              apply WpL.nil
              apply Out.seqN
              apply Wp.seq
              apply Wp.seq
              apply Wp.region
              refine WpL.v (V.fa tb) ?_
              refine WpL.v (V.ld1 tb) ?_
              apply WpL.nil
              apply Out.seqN
              apply Wp.block
              apply Wp.seq
              apply Wp.region
              refine WpL.v (V.cmp) ?_
              refine WpL.v (V.as) ?_
              apply WpL.nil
              apply Out.seqN
              refine Wp.c (fun h1 => ?_) (fun h1 => ?_)
              (try simp only [decide_eq_true_eq, decide_eq_false_iff_not, Bool.not_eq_true', Bool.not_eq_false', Bool.not_eq_true, Bool.not_eq_false, not_true_eq_false, not_false_eq_true, reduceCtorEq] at h1)
              (exfalso; omega)
              (try simp only [decide_eq_true_eq, decide_eq_false_iff_not, Bool.not_eq_true', Bool.not_eq_false', Bool.not_eq_true, Bool.not_eq_false, not_true_eq_false, not_false_eq_true, reduceCtorEq] at h1)
              apply Wp.seq
              apply Wp.region
              refine WpL.v (V.cmp) ?_
              refine WpL.v (V.as) ?_
              apply WpL.nil
              apply Out.seqN
              refine Wp.c (fun h2 => ?_) (fun h2 => ?_)
              (try simp only [decide_eq_true_eq, decide_eq_false_iff_not, Bool.not_eq_true', Bool.not_eq_false', Bool.not_eq_true, Bool.not_eq_false, not_true_eq_false, not_false_eq_true, reduceCtorEq] at h2)
              (exfalso; omega)
              (try simp only [decide_eq_true_eq, decide_eq_false_iff_not, Bool.not_eq_true', Bool.not_eq_false', Bool.not_eq_true, Bool.not_eq_false, not_true_eq_false, not_false_eq_true, reduceCtorEq] at h2)
              apply Wp.seq
              apply Wp.region
              refine WpL.v (V.cmp) ?_
              refine WpL.v (V.as) ?_
              apply WpL.nil
              apply Out.seqN
              refine Wp.c (fun h3 => ?_) (fun h3 => ?_)
              (try simp only [decide_eq_true_eq, decide_eq_false_iff_not, Bool.not_eq_true', Bool.not_eq_false', Bool.not_eq_true, Bool.not_eq_false, not_true_eq_false, not_false_eq_true, reduceCtorEq] at h3)
              apply Wp.seq
              apply Wp.region
              refine WpL.v (V.mv) ?_
              refine WpL.v (V.fa tb) ?_
              refine WpL.v (V.ld1 tb) ?_
              refine WpL.o (Op1.callT rfl (hI) (by (repeat (first | exact Sel.nil | exact Rem.here | apply Sel.cons | apply Rem.there))) ?_)
              rintro v4 s5 ⟨rfl, rfl⟩
              refine incat ?_
              refine WpL.v (V.as) ?_
              apply WpL.nil
              apply Out.seqN
              apply Wp.seq
              apply Wp.seq
              apply Wp.region
              refine WpL.v (V.mv) ?_
              apply WpL.nil
              apply Out.seqN
              refine Wp.cF ?_
              apply Wp.skip
              apply Out.seqN
              apply Wp.region
              refine WpL.v (V.mv) ?_
              refine WpL.v (V.fa tb) ?_
              refine WpL.v (V.ld1 tb) ?_
              refine WpL.o (Op1.callT rfl (hP) (by (repeat (first | exact Sel.nil | exact Rem.here | apply Sel.cons | apply Rem.there))) ?_)
              rintro v6 s7 ⟨v'106, ⟨rfl, rfl⟩⟩
              refine incat ?_
              refine WpL.v (V.mv) ?_
              refine WpL.v (V.eqB tb) ?_
              refine WpL.v (V.as) ?_
              apply WpL.nil
              apply Out.blockN
              apply Out.seqN
              apply Wp.seq
              apply Wp.region
              refine WpL.v (V.mv) ?_
              refine WpL.v (V.not) ?_
              refine WpL.v (V.mv) ?_
              refine WpL.v (V.mv) ?_
              refine WpL.v (V.mv) ?_
              refine WpL.o (Op1.callT rfl (hE _ _ _ _) (by (repeat (first | exact Sel.nil | exact Rem.here | apply Sel.cons | apply Rem.there))) ?_)
              rintro v8 s9 ⟨rfl, rfl⟩
              refine incat ?_
              refine WpL.v (V.not) ?_
              refine WpL.v (V.pF) ?_
              apply WpL.nil
              apply Out.seqN
              refine Wp.cF ?_
              apply Wp.skip
              apply Out.blockN
              apply Out.seqN
              apply Wp.region
              refine WpL.v (V.add) ?_
              refine WpL.v (V.mv) ?_
              apply WpL.nil
              rotate_left
              (try simp only [decide_eq_true_eq, decide_eq_false_iff_not, Bool.not_eq_true', Bool.not_eq_false', Bool.not_eq_true, Bool.not_eq_false, not_true_eq_false, not_false_eq_true, reduceCtorEq] at h3)
              (exfalso; omega)
              (try simp only [decide_eq_true_eq, decide_eq_false_iff_not, Bool.not_eq_true', Bool.not_eq_false', Bool.not_eq_true, Bool.not_eq_false, not_true_eq_false, not_false_eq_true, reduceCtorEq] at h0)
              (exfalso; omega)
              all_goals exact Out.ag hK ⟨i + 1, _, _, _, _, _, n, l, c, cs⟩ ⟨by show i + 1 ≤ _; omega, by show 0 ≤ n; omega, by show n ≤ ((i + 1 : Nat) : Int); omega, hl, hok, hc, by show cs.length ≤ i + 1; omega, hrel⟩ (by show xs.length - (i + 1) < xs.length - i; omega)
            | some y =>
              obtain ⟨k, hk0, hk, hklt⟩ := atP_some ha
              simp only [ha, Option.isSome_some] at hI hP
              have hO := ref_out p26 vf vt vs vc n l cs k y hk hl
              rw [← hk0, show k = x.N.toNat by omega] at hO
              have hel : (l.eraseIdx x.N.toNat).length ≤ 256 := by rw [List.length_eraseIdx]; split <;> omega
              have heo : ∀ z ∈ l.eraseIdx x.N.toNat, okL z = true := fun z hz => hok z (List.mem_of_mem_eraseIdx hz)
              have hE (v vf vt vs : Go.Value) := pool_same b24 p26 v vf vt vs vc (n + 1) (l.eraseIdx x.N.toNat) c cs hel hc
              apply Wp.seq
              apply Wp.region
              refine WpL.v (V.cmp) ?_
              apply WpL.nil
              apply Out.seqN
              apply Wp.seq
              refine Wp.c (fun h0 => ?_) (fun h0 => ?_)
              (try simp only [decide_eq_true_eq, decide_eq_false_iff_not, Bool.not_eq_true', Bool.not_eq_false', Bool.not_eq_true, Bool.not_eq_false, not_true_eq_false, not_false_eq_true, reduceCtorEq] at h0)
              apply Wp.skip
              apply Out.seqN
              apply Wp.seq
              apply Wp.block
              apply Wp.seq
              apply Wp.region
              refine WpL.v (V.ixR tb rfl rfl (by assumption)) ?_
              refine WpL.v (V.ldRA tb rfl (by assumption) (getMapS (by assumption))) ?_
              refine WpL.o (O.al tb (fun p6 => ?_))
              refine WpL.o (O.stA tb ?_)
              apply WpL.nil
              apply Out.seqN
              apply Wp.seq
              apply Wp.region
              refine WpL.v (V.as) ?_
              apply WpL.nil
              apply Out.seqN
              apply Wp.seq
              apply Wp.seq
              apply Wp.region
              refine WpL.v (V.fa tb) ?_
              refine WpL.v (V.ld1 tb) ?_
              apply WpL.nil
              apply Out.seqN
              apply Wp.block
              apply Wp.seq
              apply Wp.region
              refine WpL.v (V.cmp) ?_
              refine WpL.v (V.as) ?_
              apply WpL.nil
              apply Out.seqN
              refine Wp.c (fun h1 => ?_) (fun h1 => ?_)
              (try simp only [decide_eq_true_eq, decide_eq_false_iff_not, Bool.not_eq_true', Bool.not_eq_false', Bool.not_eq_true, Bool.not_eq_false, not_true_eq_false, not_false_eq_true, reduceCtorEq] at h1)
              (exfalso; omega)
              (try simp only [decide_eq_true_eq, decide_eq_false_iff_not, Bool.not_eq_true', Bool.not_eq_false', Bool.not_eq_true, Bool.not_eq_false, not_true_eq_false, not_false_eq_true, reduceCtorEq] at h1)
              apply Wp.seq
              apply Wp.region
              refine WpL.v (V.cmp) ?_
              refine WpL.v (V.as) ?_
              apply WpL.nil
              apply Out.seqN
              refine Wp.c (fun h2 => ?_) (fun h2 => ?_)
              (try simp only [decide_eq_true_eq, decide_eq_false_iff_not, Bool.not_eq_true', Bool.not_eq_false', Bool.not_eq_true, Bool.not_eq_false, not_true_eq_false, not_false_eq_true, reduceCtorEq] at h2)
              (exfalso; omega)
              (try simp only [decide_eq_true_eq, decide_eq_false_iff_not, Bool.not_eq_true', Bool.not_eq_false', Bool.not_eq_true, Bool.not_eq_false, not_true_eq_false, not_false_eq_true, reduceCtorEq] at h2)
              apply Wp.seq
              apply Wp.region
              refine WpL.v (V.cmp) ?_
              refine WpL.v (V.as) ?_
              apply WpL.nil
              apply Out.seqN
              refine Wp.c (fun h3 => ?_) (fun h3 => ?_)
              (try simp only [decide_eq_true_eq, decide_eq_false_iff_not, Bool.not_eq_true', Bool.not_eq_false', Bool.not_eq_true, Bool.not_eq_false, not_true_eq_false, not_false_eq_true, reduceCtorEq] at h3)
              apply Wp.seq
              apply Wp.region
              refine WpL.v (V.mv) ?_
              refine WpL.v (V.fa tb) ?_
              refine WpL.v (V.ld1 tb) ?_
              refine WpL.o (Op1.callT rfl (hI) (by (repeat (first | exact Sel.nil | exact Rem.here | apply Sel.cons | apply Rem.there))) ?_)
              rintro v4 s5 ⟨rfl, rfl⟩
              refine incat ?_
              refine WpL.v (V.as) ?_
              apply WpL.nil
              apply Out.seqN
              apply Wp.seq
              apply Wp.seq
              apply Wp.region
              refine WpL.v (V.mv) ?_
              apply WpL.nil
              apply Out.seqN
              refine Wp.cT ?_
              apply Wp.seq
              apply Wp.region
              refine WpL.v (V.mv) ?_
              refine WpL.v (V.fa tb) ?_
              refine WpL.v (V.ld1 tb) ?_
              refine WpL.o (Op1.callT rfl (hO) (by (repeat (first | exact Sel.nil | exact Rem.here | apply Sel.cons | apply Rem.there))) ?_)
              rintro v6 s7 ⟨vf'95, ⟨vt'95, ⟨vs'95, ⟨rfl, rfl⟩⟩⟩⟩
              refine incat ?_
              apply WpL.nil
              apply Out.seqN
              apply Wp.region
              refine WpL.v (V.mv) ?_
              refine WpL.v (V.nc) ?_
              refine WpL.v (V.fa tb) ?_
              refine WpL.v (V.ld1 tb) ?_
              refine WpL.v (V.add) ?_
              refine WpL.v (V.nc) ?_
              refine WpL.v (V.fa tb) ?_
              refine WpL.o (O.st1 tb ?_)
              apply WpL.nil
              apply Out.seqN
              apply Wp.region
              refine WpL.v (V.mv) ?_
              refine WpL.v (V.fa tb) ?_
              refine WpL.v (V.ld1 tb) ?_
              refine WpL.o (Op1.callT rfl (hP) (by (repeat (first | exact Sel.nil | exact Rem.here | apply Sel.cons | apply Rem.there))) ?_)
              rintro v8 s9 ⟨v'106, ⟨rfl, rfl⟩⟩
              refine incat ?_
              refine WpL.v (V.mv) ?_
              refine WpL.v (V.eqB tb) ?_
              refine WpL.v (V.as) ?_
              apply WpL.nil
              apply Out.blockN
              apply Out.seqN
              apply Wp.seq
              apply Wp.region
              refine WpL.v (V.mv) ?_
              refine WpL.v (V.not) ?_
              refine WpL.v (V.mv) ?_
              refine WpL.v (V.mv) ?_
              refine WpL.v (V.mv) ?_
              refine WpL.o (Op1.callT rfl (hE _ _ _ _) (by (repeat (first | exact Sel.nil | exact Rem.here | apply Sel.cons | apply Rem.there))) ?_)
              rintro v10 s11 ⟨rfl, rfl⟩
              refine incat ?_
              refine WpL.v (V.not) ?_
              refine WpL.v (V.pF) ?_
              apply WpL.nil
              apply Out.seqN
              refine Wp.cF ?_
              apply Wp.skip
              apply Out.blockN
              apply Out.seqN
              apply Wp.region
              refine WpL.v (V.add) ?_
              refine WpL.v (V.mv) ?_
              apply WpL.nil
              rotate_left
              (try simp only [decide_eq_true_eq, decide_eq_false_iff_not, Bool.not_eq_true', Bool.not_eq_false', Bool.not_eq_true, Bool.not_eq_false, not_true_eq_false, not_false_eq_true, reduceCtorEq] at h3)
              (exfalso; omega)
              (try simp only [decide_eq_true_eq, decide_eq_false_iff_not, Bool.not_eq_true', Bool.not_eq_false', Bool.not_eq_true, Bool.not_eq_false, not_true_eq_false, not_false_eq_true, reduceCtorEq] at h0)
              (exfalso; omega)
              all_goals exact Out.ag hK ⟨i + 1, _, _, _, _, _, n + 1, l.eraseIdx x.N.toNat, c, cs⟩ ⟨by show i + 1 ≤ _; omega, by show 0 ≤ n + 1; omega, by show n + 1 ≤ ((i + 1 : Nat) : Int); omega, hel, heo, hc, by show cs.length ≤ i + 1; omega, hrel⟩ (by show xs.length - (i + 1) < xs.length - i; omega)
          · by_cases k4 : x.Kind = 4
            · have hP := pool_cut b24 v l c n x.N x.M hc
              have hE (v vf vt vs vc : Go.Value) := pool_same b24 p26 v vf vt vs vc n l (cutL c x.N x.M) (cs ++ [(x.N, x.M)]) hl (by rw [cutL_len]; exact hc)
              apply Wp.seq
              apply Wp.region
              refine WpL.v (V.cmp) ?_
              apply WpL.nil
              apply Out.seqN
              apply Wp.seq
              refine Wp.c (fun hk40 => ?_) (fun hk40 => ?_)
              (try simp only [decide_eq_true_eq, decide_eq_false_iff_not, Bool.not_eq_true', Bool.not_eq_false', Bool.not_eq_true, Bool.not_eq_false, not_true_eq_false, not_false_eq_true, reduceCtorEq] at hk40)
              apply Wp.skip
              apply Out.seqN
              apply Wp.seq
              apply Wp.block
              apply Wp.seq
              apply Wp.region
              refine WpL.v (V.ixR tb rfl rfl (by assumption)) ?_
              refine WpL.v (V.ldRA tb rfl (by assumption) (getMapS (by assumption))) ?_
              refine WpL.o (O.al tb (fun p6 => ?_))
              refine WpL.o (O.stA tb ?_)
              apply WpL.nil
              apply Out.seqN
              apply Wp.seq
              apply Wp.region
              refine WpL.v (V.as) ?_
              apply WpL.nil
              apply Out.seqN
              apply Wp.seq
              apply Wp.seq
              apply Wp.region
              refine WpL.v (V.fa tb) ?_
              refine WpL.v (V.ld1 tb) ?_
              apply WpL.nil
              apply Out.seqN
              apply Wp.block
              apply Wp.seq
              apply Wp.region
              refine WpL.v (V.cmp) ?_
              refine WpL.v (V.as) ?_
              apply WpL.nil
              apply Out.seqN
              refine Wp.c (fun hk41 => ?_) (fun hk41 => ?_)
              (try simp only [decide_eq_true_eq, decide_eq_false_iff_not, Bool.not_eq_true', Bool.not_eq_false', Bool.not_eq_true, Bool.not_eq_false, not_true_eq_false, not_false_eq_true, reduceCtorEq] at hk41)
              (exfalso; omega)
              (try simp only [decide_eq_true_eq, decide_eq_false_iff_not, Bool.not_eq_true', Bool.not_eq_false', Bool.not_eq_true, Bool.not_eq_false, not_true_eq_false, not_false_eq_true, reduceCtorEq] at hk41)
              apply Wp.seq
              apply Wp.region
              refine WpL.v (V.cmp) ?_
              refine WpL.v (V.as) ?_
              apply WpL.nil
              apply Out.seqN
              refine Wp.c (fun hk42 => ?_) (fun hk42 => ?_)
              (try simp only [decide_eq_true_eq, decide_eq_false_iff_not, Bool.not_eq_true', Bool.not_eq_false', Bool.not_eq_true, Bool.not_eq_false, not_true_eq_false, not_false_eq_true, reduceCtorEq] at hk42)
              (exfalso; omega)
              (try simp only [decide_eq_true_eq, decide_eq_false_iff_not, Bool.not_eq_true', Bool.not_eq_false', Bool.not_eq_true, Bool.not_eq_false, not_true_eq_false, not_false_eq_true, reduceCtorEq] at hk42)
              apply Wp.seq
              apply Wp.region
              refine WpL.v (V.cmp) ?_
              refine WpL.v (V.as) ?_
              apply WpL.nil
              apply Out.seqN
              refine Wp.c (fun hk43 => ?_) (fun hk43 => ?_)
              (try simp only [decide_eq_true_eq, decide_eq_false_iff_not, Bool.not_eq_true', Bool.not_eq_false', Bool.not_eq_true, Bool.not_eq_false, not_true_eq_false, not_false_eq_true, reduceCtorEq] at hk43)
              (exfalso; omega)
              (try simp only [decide_eq_true_eq, decide_eq_false_iff_not, Bool.not_eq_true', Bool.not_eq_false', Bool.not_eq_true, Bool.not_eq_false, not_true_eq_false, not_false_eq_true, reduceCtorEq] at hk43)
              apply Wp.seq
              apply Wp.region
              refine WpL.v (V.cmp) ?_
              refine WpL.v (V.as) ?_
              apply WpL.nil
              apply Out.seqN
              refine Wp.c (fun hk44 => ?_) (fun hk44 => ?_)
              (try simp only [decide_eq_true_eq, decide_eq_false_iff_not, Bool.not_eq_true', Bool.not_eq_false', Bool.not_eq_true, Bool.not_eq_false, not_true_eq_false, not_false_eq_true, reduceCtorEq] at hk44)
              (exfalso; omega)
              (try simp only [decide_eq_true_eq, decide_eq_false_iff_not, Bool.not_eq_true', Bool.not_eq_false', Bool.not_eq_true, Bool.not_eq_false, not_true_eq_false, not_false_eq_true, reduceCtorEq] at hk44)
              apply Wp.seq
              apply Wp.region
              refine WpL.v (V.cmp) ?_
              refine WpL.v (V.as) ?_
              apply WpL.nil
              apply Out.seqN
              refine Wp.c (fun hk45 => ?_) (fun hk45 => ?_)
              (try simp only [decide_eq_true_eq, decide_eq_false_iff_not, Bool.not_eq_true', Bool.not_eq_false', Bool.not_eq_true, Bool.not_eq_false, not_true_eq_false, not_false_eq_true, reduceCtorEq] at hk45)
              apply Wp.seq
              apply Wp.region
              refine WpL.v (V.mv) ?_
              refine WpL.v (V.fa tb) ?_
              refine WpL.v (V.ld1 tb) ?_
              refine WpL.v (V.fa tb) ?_
              refine WpL.v (V.ld1 tb) ?_
              refine WpL.o (Op1.callT rfl (hP) (by (repeat (first | exact Sel.nil | exact Rem.here | apply Sel.cons | apply Rem.there))) ?_)
              rintro v6 s7 ⟨rfl, rfl⟩
              refine incat ?_
              apply WpL.nil
              apply Out.seqN
              refine Wp.dG [14] ?_ (List.Sublist.cons _ (List.Sublist.cons _ (List.Sublist.cons_cons _ (List.Sublist.cons_cons _ (List.Sublist.cons _ (List.Sublist.cons _ (List.Sublist.cons _ (List.Sublist.cons _ (List.Sublist.cons _ List.Sublist.slnil))))))))) (List.Sublist.cons _ (List.Sublist.cons _ (List.Sublist.cons_cons _ (List.Sublist.cons _ (List.Sublist.cons _ (List.Sublist.cons _ (List.Sublist.cons _ (List.Sublist.cons _ (List.Sublist.cons _ List.Sublist.slnil)))))))))
              refine WpA.tF 0 rfl (V.mv) ?_
              refine WpA.tF 1 rfl (V.mv) ?_
              refine WpA.tF 2 rfl (V.nc) ?_
              refine WpA.tF 3 rfl (V.fa tb) ?_
              refine WpA.tF 5 rfl (V.fa tb) ?_
              refine WpA.tF 6 rfl (V.ld1 tb) ?_
              refine WpA.tF 7 rfl (V.fa tb) ?_
              refine WpA.tF 8 rfl (V.ld1 tb) ?_
              refine WpA.tF 9 rfl (V.bldArr tb rfl (PartsFrom.one rfl (PartsFrom.one rfl PartsFrom.nil))) ?_
              refine WpA.t 4 rfl (V.ld1 tb) ?_
              refine WpA.oS 10 rfl (O.litL tb pairC [(x.N, x.M)] rfl (PartsFrom.agg rfl PartsFrom.nil) rfl rfl (fun p199 => ⟨?_, ?_, ?_⟩))
              exact holdT
              exact holdT
              refine WpA.oS 11 rfl (O.apL tb rfl rfl (by (intro _; repeat first | exact Upd.here _ _ _ | apply Upd.there)) (SrcL.rows tb (by (repeat first | exact List.Mem.head _ | apply List.Mem.tail)) pairC.ones) (fun g200 cap200 => ⟨?_, ?_, ?_⟩))
              exact holdT
              exact holdT
              refine WpA.tF 12 rfl (V.nc) ?_
              refine WpA.tF 13 rfl (V.fa tb) ?_
              refine WpA.l 14 rfl (O.st1 tb ⟨?_, ?_⟩)
              exact holdT
              refine WpA.ou ?_
              apply Out.blockN
              apply Out.seqN
              apply Wp.seq
              apply Wp.region
              refine WpL.v (V.mv) ?_
              refine WpL.v (V.not) ?_
              refine WpL.v (V.mv) ?_
              refine WpL.v (V.mv) ?_
              refine WpL.v (V.mv) ?_
              refine WpL.o (Op1.callT rfl (hE _ _ _ _ _) (by (repeat (first | exact Sel.nil | exact Rem.here | apply Sel.cons | apply Rem.there))) ?_)
              rintro v8 s9 ⟨rfl, rfl⟩
              refine incat ?_
              refine WpL.v (V.not) ?_
              refine WpL.v (V.pF) ?_
              apply WpL.nil
              apply Out.seqN
              refine Wp.cF ?_
              apply Wp.skip
              apply Out.blockN
              apply Out.seqN
              apply Wp.region
              refine WpL.v (V.add) ?_
              refine WpL.v (V.mv) ?_
              apply WpL.nil
              rotate_left
              (try simp only [decide_eq_true_eq, decide_eq_false_iff_not, Bool.not_eq_true', Bool.not_eq_false', Bool.not_eq_true, Bool.not_eq_false, not_true_eq_false, not_false_eq_true, reduceCtorEq] at hk45)
              (exfalso; omega)
              (try simp only [decide_eq_true_eq, decide_eq_false_iff_not, Bool.not_eq_true', Bool.not_eq_false', Bool.not_eq_true, Bool.not_eq_false, not_true_eq_false, not_false_eq_true, reduceCtorEq] at hk40)
              (exfalso; omega)
              all_goals exact Out.ag hK ⟨i + 1, _, _, _, _, _, n, l, cutL c x.N x.M, cs ++ [(x.N, x.M)]⟩ ⟨by show i + 1 ≤ _; omega, by show 0 ≤ n; omega, by show n ≤ ((i + 1 : Nat) : Int); omega, hl, hok, by rw [cutL_len]; exact hc, by show (cs ++ [(x.N, x.M)]).length ≤ i + 1; simp; omega, hrel.cut hc x.N x.M⟩ (by show xs.length - (i + 1) < xs.length - i; omega)
            · by_cases k5 : x.Kind = 5
              · have hP := pool_heal b24 v l c n hc
                have hE (v vf vt vs : Go.Value) := pool_same b24 p26 v vf vt vs (.slice none 0 0) n l (List.replicate 49 false) [] hl rfl
                refine Wp.nilRows pairC 85 2 ?_
                apply Wp.seq
                apply Wp.region
                refine WpL.v (V.cmp) ?_
                apply WpL.nil
                apply Out.seqN
                apply Wp.seq
                refine Wp.c (fun hk50 => ?_) (fun hk50 => ?_)
                (try simp only [decide_eq_true_eq, decide_eq_false_iff_not, Bool.not_eq_true', Bool.not_eq_false', Bool.not_eq_true, Bool.not_eq_false, not_true_eq_false, not_false_eq_true, reduceCtorEq] at hk50)
                apply Wp.skip
                apply Out.seqN
                apply Wp.seq
                apply Wp.block
                apply Wp.seq
                apply Wp.region
                refine WpL.v (V.ixR tb rfl rfl (by assumption)) ?_
                refine WpL.v (V.ldRA tb rfl (by assumption) (getMapS (by assumption))) ?_
                refine WpL.o (O.al tb (fun p6 => ?_))
                refine WpL.o (O.stA tb ?_)
                apply WpL.nil
                apply Out.seqN
                apply Wp.seq
                apply Wp.region
                refine WpL.v (V.as) ?_
                apply WpL.nil
                apply Out.seqN
                apply Wp.seq
                apply Wp.seq
                apply Wp.region
                refine WpL.v (V.fa tb) ?_
                refine WpL.v (V.ld1 tb) ?_
                apply WpL.nil
                apply Out.seqN
                apply Wp.block
                apply Wp.seq
                apply Wp.region
                refine WpL.v (V.cmp) ?_
                refine WpL.v (V.as) ?_
                apply WpL.nil
                apply Out.seqN
                refine Wp.c (fun hk51 => ?_) (fun hk51 => ?_)
                (try simp only [decide_eq_true_eq, decide_eq_false_iff_not, Bool.not_eq_true', Bool.not_eq_false', Bool.not_eq_true, Bool.not_eq_false, not_true_eq_false, not_false_eq_true, reduceCtorEq] at hk51)
                (exfalso; omega)
                (try simp only [decide_eq_true_eq, decide_eq_false_iff_not, Bool.not_eq_true', Bool.not_eq_false', Bool.not_eq_true, Bool.not_eq_false, not_true_eq_false, not_false_eq_true, reduceCtorEq] at hk51)
                apply Wp.seq
                apply Wp.region
                refine WpL.v (V.cmp) ?_
                refine WpL.v (V.as) ?_
                apply WpL.nil
                apply Out.seqN
                refine Wp.c (fun hk52 => ?_) (fun hk52 => ?_)
                (try simp only [decide_eq_true_eq, decide_eq_false_iff_not, Bool.not_eq_true', Bool.not_eq_false', Bool.not_eq_true, Bool.not_eq_false, not_true_eq_false, not_false_eq_true, reduceCtorEq] at hk52)
                (exfalso; omega)
                (try simp only [decide_eq_true_eq, decide_eq_false_iff_not, Bool.not_eq_true', Bool.not_eq_false', Bool.not_eq_true, Bool.not_eq_false, not_true_eq_false, not_false_eq_true, reduceCtorEq] at hk52)
                apply Wp.seq
                apply Wp.region
                refine WpL.v (V.cmp) ?_
                refine WpL.v (V.as) ?_
                apply WpL.nil
                apply Out.seqN
                refine Wp.c (fun hk53 => ?_) (fun hk53 => ?_)
                (try simp only [decide_eq_true_eq, decide_eq_false_iff_not, Bool.not_eq_true', Bool.not_eq_false', Bool.not_eq_true, Bool.not_eq_false, not_true_eq_false, not_false_eq_true, reduceCtorEq] at hk53)
                (exfalso; omega)
                (try simp only [decide_eq_true_eq, decide_eq_false_iff_not, Bool.not_eq_true', Bool.not_eq_false', Bool.not_eq_true, Bool.not_eq_false, not_true_eq_false, not_false_eq_true, reduceCtorEq] at hk53)
                apply Wp.seq
                apply Wp.region
                refine WpL.v (V.cmp) ?_
                refine WpL.v (V.as) ?_
                apply WpL.nil
                apply Out.seqN
                refine Wp.c (fun hk54 => ?_) (fun hk54 => ?_)
                (try simp only [decide_eq_true_eq, decide_eq_false_iff_not, Bool.not_eq_true', Bool.not_eq_false', Bool.not_eq_true, Bool.not_eq_false, not_true_eq_false, not_false_eq_true, reduceCtorEq] at hk54)
                (exfalso; omega)
                (try simp only [decide_eq_true_eq, decide_eq_false_iff_not, Bool.not_eq_true', Bool.not_eq_false', Bool.not_eq_true, Bool.not_eq_false, not_true_eq_false, not_false_eq_true, reduceCtorEq] at hk54)
                apply Wp.seq
                apply Wp.region
                refine WpL.v (V.cmp) ?_
                refine WpL.v (V.as) ?_
                apply WpL.nil
                apply Out.seqN
                refine Wp.c (fun hk55 => ?_) (fun hk55 => ?_)
                (try simp only [decide_eq_true_eq, decide_eq_false_iff_not, Bool.not_eq_true', Bool.not_eq_false', Bool.not_eq_true, Bool.not_eq_false, not_true_eq_false, not_false_eq_true, reduceCtorEq] at hk55)
                (exfalso; omega)
                (try simp only [decide_eq_true_eq, decide_eq_false_iff_not, Bool.not_eq_true', Bool.not_eq_false', Bool.not_eq_true, Bool.not_eq_false, not_true_eq_false, not_false_eq_true, reduceCtorEq] at hk55)
                apply Wp.seq
                apply Wp.region
                refine WpL.v (V.cmp) ?_
                refine WpL.v (V.as) ?_
                apply WpL.nil
                apply Out.seqN
                refine Wp.c (fun hk56 => ?_) (fun hk56 => ?_)
                (try simp only [decide_eq_true_eq, decide_eq_false_iff_not, Bool.not_eq_true', Bool.not_eq_false', Bool.not_eq_true, Bool.not_eq_false, not_true_eq_false, not_false_eq_true, reduceCtorEq] at hk56)
                apply Wp.seq
                apply Wp.region
                refine WpL.v (V.mv) ?_
                refine WpL.o (Op1.callT rfl (hP) (by (repeat (first | exact Sel.nil | exact Rem.here | apply Sel.cons | apply Rem.there))) ?_)
                rintro v7 s8 ⟨rfl, rfl⟩
                refine incat ?_
                apply WpL.nil
                apply Out.seqN
                apply Wp.region
                refine WpL.v (V.mv) ?_
                refine WpL.v (V.nc) ?_
                refine WpL.v (V.fa tb) ?_
                refine WpL.o (O.st1 tb ?_)
                apply WpL.nil
                apply Out.blockN
                apply Out.seqN
                apply Wp.seq
                apply Wp.region
                refine WpL.v (V.mv) ?_
                refine WpL.v (V.not) ?_
                refine WpL.v (V.mv) ?_
                refine WpL.v (V.mv) ?_
                refine WpL.v (V.mv) ?_
                refine WpL.o (Op1.callT rfl (hE _ _ _ _) (by (repeat (first | exact Sel.nil | exact Rem.here | apply Sel.cons | apply Rem.there))) ?_)
                rintro v9 s10 ⟨rfl, rfl⟩
                refine incat ?_
                refine WpL.v (V.not) ?_
                refine WpL.v (V.pF) ?_
                apply WpL.nil
                apply Out.seqN
                refine Wp.cF ?_
                apply Wp.skip
                apply Out.blockN
                apply Out.seqN
                apply Wp.region
                refine WpL.v (V.add) ?_
                refine WpL.v (V.mv) ?_
                apply WpL.nil
                rotate_left
                (try simp only [decide_eq_true_eq, decide_eq_false_iff_not, Bool.not_eq_true', Bool.not_eq_false', Bool.not_eq_true, Bool.not_eq_false, not_true_eq_false, not_false_eq_true, reduceCtorEq] at hk56)
                (exfalso; omega)
                (try simp only [decide_eq_true_eq, decide_eq_false_iff_not, Bool.not_eq_true', Bool.not_eq_false', Bool.not_eq_true, Bool.not_eq_false, not_true_eq_false, not_false_eq_true, reduceCtorEq] at hk50)
                (exfalso; omega)
                all_goals exact Out.ag hK ⟨i + 1, _, _, _, _, _, n, l, List.replicate 49 false, []⟩ ⟨by show i + 1 ≤ _; omega, by show 0 ≤ n; omega, by show n ≤ ((i + 1 : Nat) : Int); omega, hl, hok, rfl, by show 0 ≤ i + 1; omega, Rel.zero⟩ (by show xs.length - (i + 1) < xs.length - i; omega)
              · by_cases k3 : x.Kind = 3
                · have hI := ref_Is p26 vf vt vs vc n l cs x.N
                  have hP := pool_twice b24 v l c n x.N hl
                  cases ha : atP l x.N with
                  | none =>
                    have e1 : canTwice l x.N = false := by simp [canTwice, ha]
                    have e2 : twiceL l x.N = l := by simp [twiceL, ha]
                    simp only [ha, Option.isSome_none] at hI
                    rw [e1, e2] at hP
                    have hE (v vf vt vs : Go.Value) := pool_same b24 p26 v vf vt vs vc n l c cs hl hc
                    apply Wp.seq
                    apply Wp.region
                    refine WpL.v (V.cmp) ?_
                    apply WpL.nil
                    apply Out.seqN
                    apply Wp.seq
                    refine Wp.c (fun h0 => ?_) (fun h0 => ?_)
                    (try simp only [decide_eq_true_eq, decide_eq_false_iff_not, Bool.not_eq_true', Bool.not_eq_false', Bool.not_eq_true, Bool.not_eq_false, not_true_eq_false, not_false_eq_true, reduceCtorEq] at h0)
                    apply Wp.skip
                    apply Out.seqN
                    apply Wp.seq
                    apply Wp.block
                    apply Wp.seq
                    apply Wp.region
                    refine WpL.v (V.ixR tb rfl rfl (by assumption)) ?_
                    refine WpL.v (V.ldRA tb rfl (by assumption) (getMapS (by assumption))) ?_
                    refine WpL.o (O.al tb (fun p6 => ?_))
                    refine WpL.o (O.stA tb ?_)
                    apply WpL.nil
                    apply Out.seqN
                    apply Wp.seq
                    apply Wp.region
                    refine WpL.v (V.as) ?_
                    apply WpL.nil
                    apply Out.seqN
                    apply Wp.seq
                    apply Wp.seq
                    apply Wp.region
                    refine WpL.v (V.fa tb) ?_
                    refine WpL.v (V.ld1 tb) ?_
                    apply WpL.nil
                    apply Out.seqN
                    apply Wp.block
                    apply Wp.seq
                    apply Wp.region
                    refine WpL.v (V.cmp) ?_
                    refine WpL.v (V.as) ?_
                    apply WpL.nil
                    apply Out.seqN
                    refine Wp.c (fun h1 => ?_) (fun h1 => ?_)
                    (try simp only [decide_eq_true_eq, decide_eq_false_iff_not, Bool.not_eq_true', Bool.not_eq_false', Bool.not_eq_true, Bool.not_eq_false, not_true_eq_false, not_false_eq_true, reduceCtorEq] at h1)
                    (exfalso; omega)
                    (try simp only [decide_eq_true_eq, decide_eq_false_iff_not, Bool.not_eq_true', Bool.not_eq_false', Bool.not_eq_true, Bool.not_eq_false, not_true_eq_false, not_false_eq_true, reduceCtorEq] at h1)
                    apply Wp.seq
                    apply Wp.region
                    refine WpL.v (V.cmp) ?_
                    refine WpL.v (V.as) ?_
                    apply WpL.nil
                    apply Out.seqN
                    refine Wp.c (fun h2 => ?_) (fun h2 => ?_)
                    (try simp only [decide_eq_true_eq, decide_eq_false_iff_not, Bool.not_eq_true', Bool.not_eq_false', Bool.not_eq_true, Bool.not_eq_false, not_true_eq_false, not_false_eq_true, reduceCtorEq] at h2)
                    (exfalso; omega)
                    (try simp only [decide_eq_true_eq, decide_eq_false_iff_not, Bool.not_eq_true', Bool.not_eq_false', Bool.not_eq_true, Bool.not_eq_false, not_true_eq_false, not_false_eq_true, reduceCtorEq] at h2)
                    apply Wp.seq
                    apply Wp.region
                    refine WpL.v (V.cmp) ?_
                    refine WpL.v (V.as) ?_
                    apply WpL.nil
                    apply Out.seqN
                    refine Wp.c (fun h3 => ?_) (fun h3 => ?_)
                    (try simp only [decide_eq_true_eq, decide_eq_false_iff_not, Bool.not_eq_true', Bool.not_eq_false', Bool.not_eq_true, Bool.not_eq_false, not_true_eq_false, not_false_eq_true, reduceCtorEq] at h3)
                    (exfalso; omega)
                    (try simp only [decide_eq_true_eq, decide_eq_false_iff_not, Bool.not_eq_true', Bool.not_eq_false', Bool.not_eq_true, Bool.not_eq_false, not_true_eq_false, not_false_eq_true, reduceCtorEq] at h3)
                    apply Wp.seq
                    apply Wp.region
                    refine WpL.v (V.cmp) ?_
                    refine WpL.v (V.as) ?_
                    apply WpL.nil
                    apply Out.seqN
                    refine Wp.c (fun h4 => ?_) (fun h4 => ?_)
                    (try simp only [decide_eq_true_eq, decide_eq_false_iff_not, Bool.not_eq_true', Bool.not_eq_false', Bool.not_eq_true, Bool.not_eq_false, not_true_eq_false, not_false_eq_true, reduceCtorEq] at h4)
                    apply Wp.seq
                    apply Wp.region
                    refine WpL.v (V.mv) ?_
                    refine WpL.v (V.fa tb) ?_
                    refine WpL.v (V.ld1 tb) ?_
                    refine WpL.o (Op1.callT rfl (hI) (by (repeat (first | exact Sel.nil | exact Rem.here | apply Sel.cons | apply Rem.there))) ?_)
                    rintro v5 s6 ⟨rfl, rfl⟩
                    refine incat ?_
                    refine WpL.v (V.mv) ?_
                    refine WpL.sk ?_
                    refine WpL.sk ?_
                    refine WpL.sk ?_
                    refine WpL.sk ?_
                    refine WpL.sk ?_
                    refine WpL.sk ?_
                    refine WpL.v (V.pF) ?_
                    refine WpL.v (V.as) ?_
                    apply WpL.nil
                    apply Out.seqN
                    apply Wp.seq
                    apply Wp.seq
                    apply Wp.region
                    refine WpL.v (V.mv) ?_
                    apply WpL.nil
                    apply Out.seqN
                    refine Wp.cF ?_
                    apply Wp.skip
                    apply Out.seqN
                    apply Wp.region
                    refine WpL.v (V.mv) ?_
                    refine WpL.v (V.fa tb) ?_
                    refine WpL.v (V.ld1 tb) ?_
                    refine WpL.o (Op1.callT rfl (hP) (by (repeat (first | exact Sel.nil | exact Rem.here | apply Sel.cons | apply Rem.there))) ?_)
                    rintro v7 s8 ⟨v'178, ⟨rfl, rfl⟩⟩
                    refine incat ?_
                    refine WpL.v (V.mv) ?_
                    refine WpL.v (V.eqB tb) ?_
                    refine WpL.v (V.as) ?_
                    apply WpL.nil
                    apply Out.blockN
                    apply Out.seqN
                    apply Wp.seq
                    apply Wp.region
                    refine WpL.v (V.mv) ?_
                    refine WpL.v (V.not) ?_
                    refine WpL.v (V.mv) ?_
                    refine WpL.v (V.mv) ?_
                    refine WpL.v (V.mv) ?_
                    refine WpL.o (Op1.callT rfl (hE _ _ _ _) (by (repeat (first | exact Sel.nil | exact Rem.here | apply Sel.cons | apply Rem.there))) ?_)
                    rintro v9 s10 ⟨rfl, rfl⟩
                    refine incat ?_
                    refine WpL.v (V.not) ?_
                    refine WpL.v (V.pF) ?_
                    apply WpL.nil
                    apply Out.seqN
                    refine Wp.cF ?_
                    apply Wp.skip
                    apply Out.blockN
                    apply Out.seqN
                    apply Wp.region
                    refine WpL.v (V.add) ?_
                    refine WpL.v (V.mv) ?_
                    apply WpL.nil
                    rotate_left
                    (try simp only [decide_eq_true_eq, decide_eq_false_iff_not, Bool.not_eq_true', Bool.not_eq_false', Bool.not_eq_true, Bool.not_eq_false, not_true_eq_false, not_false_eq_true, reduceCtorEq] at h4)
                    (exfalso; omega)
                    (try simp only [decide_eq_true_eq, decide_eq_false_iff_not, Bool.not_eq_true', Bool.not_eq_false', Bool.not_eq_true, Bool.not_eq_false, not_true_eq_false, not_false_eq_true, reduceCtorEq] at h0)
                    (exfalso; omega)
                    all_goals exact Out.ag hK ⟨i + 1, _, _, _, _, _, n, l, c, cs⟩ ⟨by show i + 1 ≤ _; omega, by show 0 ≤ n; omega, by show n ≤ ((i + 1 : Nat) : Int); omega, hl, hok, hc, by show cs.length ≤ i + 1; omega, hrel⟩ (by show xs.length - (i + 1) < xs.length - i; omega)
                  | some y =>
                    obtain ⟨k, hk0, hk, hklt⟩ := atP_some ha
                    simp only [ha, Option.isSome_some] at hI
                    by_cases h4 : l.length < 256
                    · have e1 : canTwice l x.N = true := by simp [canTwice, ha, h4]
                      have e2 : twiceL l x.N = l ++ [y] := by simp [twiceL, ha, h4]
                      rw [e1, e2] at hP
                      have eR : ∀ vf vt vs : Go.Value, refE p26 vf vt vs vc n (l ++ [y]) cs = [cells p26 79 (Caucusref11Pool.c ⟨vf, vt, vs, vc, n⟩), rows i64c vf 3 1 (l.map (·.From) ++ [y.From]), rows i64c vt 3 1 (l.map (·.To) ++ [y.To]), rows strc vs 9 1 (l.map (·.Bytes) ++ [y.Bytes]), rows pairC vc 85 2 cs] := fun _ _ _ => by simp [refE]
                      have hE (v vf vt vs : Go.Value) := pool_same b24 p26 v vf vt vs vc n (l ++ [y]) c cs (by simp; omega) hc
                      simp only [eR] at hE
                      have h5 : cmpI .lss ((l.map (·.From)).length : Int) 256 = some true := by simp [cmpI]; omega
                      have hokl : ∀ z ∈ l ++ [y], okL z = true := by
                        intro z hz
                        rcases List.mem_append.1 hz with h | h
                        · exact hok z h
                        · rw [List.mem_singleton.1 h]; exact hok y (List.mem_of_getElem? hk)
                      have hk1 : (l.map (·.From))[k]? = some y.From := by simp [hk]
                      have hk2 : (l.map (·.To))[k]? = some y.To := by simp [hk]
                      have hk3 : (l.map (·.Bytes))[k]? = some y.Bytes := by simp [hk]
                      have hl1 : (l.map (·.From)).length = l.length := by simp
                      have hl2 : (l.map (·.To)).length = l.length := by simp
                      have hl3 : (l.map (·.Bytes)).length = l.length := by simp
                      refine Wp.fact (rowsForm (f := i64c) (v := vf) (l := l.map (·.From)) (E := 3) (sz := 1) (by (repeat first | exact List.Mem.head _ | apply List.Mem.tail))) fun hv => ?_
                      rcases hv with ⟨_, h0⟩ | ⟨g1, cap1, rfl, hcap1, hcm1⟩
                      · rw [h0] at hk1; simp at hk1
                      refine Wp.fact (rowsForm (f := i64c) (v := vt) (l := l.map (·.To)) (E := 3) (sz := 1) (by (repeat first | exact List.Mem.head _ | apply List.Mem.tail))) fun hv => ?_
                      rcases hv with ⟨_, h0⟩ | ⟨g2, cap2, rfl, hcap2, hcm2⟩
                      · rw [h0] at hk2; simp at hk2
                      refine Wp.fact (rowsForm (f := strc) (v := vs) (l := l.map (·.Bytes)) (E := 9) (sz := 1) (by (repeat first | exact List.Mem.head _ | apply List.Mem.tail))) fun hv => ?_
                      rcases hv with ⟨_, h0⟩ | ⟨g3, cap3, rfl, hcap3, hcm3⟩
                      · rw [h0] at hk3; simp at hk3
                      apply Wp.seq
                      apply Wp.region
                      refine WpL.v (V.cmp) ?_
                      apply WpL.nil
                      apply Out.seqN
                      apply Wp.seq
                      refine Wp.c (fun h0 => ?_) (fun h0 => ?_)
                      (try simp only [decide_eq_true_eq, decide_eq_false_iff_not, Bool.not_eq_true', Bool.not_eq_false', Bool.not_eq_true, Bool.not_eq_false, not_true_eq_false, not_false_eq_true, reduceCtorEq] at h0)
                      apply Wp.skip
                      apply Out.seqN
                      apply Wp.seq
                      apply Wp.block
                      apply Wp.seq
                      apply Wp.region
                      refine WpL.v (V.ixR tb rfl rfl (by assumption)) ?_
                      refine WpL.v (V.ldRA tb rfl (by assumption) (getMapS (by assumption))) ?_
                      refine WpL.o (O.al tb (fun p6 => ?_))
                      refine WpL.o (O.stA tb ?_)
                      apply WpL.nil
                      apply Out.seqN
                      apply Wp.seq
                      apply Wp.region
                      refine WpL.v (V.as) ?_
                      apply WpL.nil
                      apply Out.seqN
                      apply Wp.seq
                      apply Wp.seq
                      apply Wp.region
                      refine WpL.v (V.fa tb) ?_
                      refine WpL.v (V.ld1 tb) ?_
                      apply WpL.nil
                      apply Out.seqN
                      apply Wp.block
                      apply Wp.seq
                      apply Wp.region
                      refine WpL.v (V.cmp) ?_
                      refine WpL.v (V.as) ?_
                      apply WpL.nil
                      apply Out.seqN
                      refine Wp.c (fun h1 => ?_) (fun h1 => ?_)
                      (try simp only [decide_eq_true_eq, decide_eq_false_iff_not, Bool.not_eq_true', Bool.not_eq_false', Bool.not_eq_true, Bool.not_eq_false, not_true_eq_false, not_false_eq_true, reduceCtorEq] at h1)
                      (exfalso; omega)
                      (try simp only [decide_eq_true_eq, decide_eq_false_iff_not, Bool.not_eq_true', Bool.not_eq_false', Bool.not_eq_true, Bool.not_eq_false, not_true_eq_false, not_false_eq_true, reduceCtorEq] at h1)
                      apply Wp.seq
                      apply Wp.region
                      refine WpL.v (V.cmp) ?_
                      refine WpL.v (V.as) ?_
                      apply WpL.nil
                      apply Out.seqN
                      refine Wp.c (fun h2 => ?_) (fun h2 => ?_)
                      (try simp only [decide_eq_true_eq, decide_eq_false_iff_not, Bool.not_eq_true', Bool.not_eq_false', Bool.not_eq_true, Bool.not_eq_false, not_true_eq_false, not_false_eq_true, reduceCtorEq] at h2)
                      (exfalso; omega)
                      (try simp only [decide_eq_true_eq, decide_eq_false_iff_not, Bool.not_eq_true', Bool.not_eq_false', Bool.not_eq_true, Bool.not_eq_false, not_true_eq_false, not_false_eq_true, reduceCtorEq] at h2)
                      apply Wp.seq
                      apply Wp.region
                      refine WpL.v (V.cmp) ?_
                      refine WpL.v (V.as) ?_
                      apply WpL.nil
                      apply Out.seqN
                      refine Wp.c (fun h3 => ?_) (fun h3 => ?_)
                      (try simp only [decide_eq_true_eq, decide_eq_false_iff_not, Bool.not_eq_true', Bool.not_eq_false', Bool.not_eq_true, Bool.not_eq_false, not_true_eq_false, not_false_eq_true, reduceCtorEq] at h3)
                      (exfalso; omega)
                      (try simp only [decide_eq_true_eq, decide_eq_false_iff_not, Bool.not_eq_true', Bool.not_eq_false', Bool.not_eq_true, Bool.not_eq_false, not_true_eq_false, not_false_eq_true, reduceCtorEq] at h3)
                      apply Wp.seq
                      apply Wp.region
                      refine WpL.v (V.cmp) ?_
                      refine WpL.v (V.as) ?_
                      apply WpL.nil
                      apply Out.seqN
                      refine Wp.c (fun h4 => ?_) (fun h4 => ?_)
                      (try simp only [decide_eq_true_eq, decide_eq_false_iff_not, Bool.not_eq_true', Bool.not_eq_false', Bool.not_eq_true, Bool.not_eq_false, not_true_eq_false, not_false_eq_true, reduceCtorEq] at h4)
                      apply Wp.seq
                      apply Wp.region
                      refine WpL.v (V.mv) ?_
                      refine WpL.v (V.fa tb) ?_
                      refine WpL.v (V.ld1 tb) ?_
                      refine WpL.o (Op1.callT rfl (hI) (by (repeat (first | exact Sel.nil | exact Rem.here | apply Sel.cons | apply Rem.there))) ?_)
                      rintro v5 s6 ⟨rfl, rfl⟩
                      refine incat ?_
                      refine WpL.v (V.mv) ?_
                      refine WpL.v (V.mv) ?_
                      refine WpL.v (V.nc) ?_
                      refine WpL.v (V.fa tb) ?_
                      refine WpL.v (V.ld1 tb) ?_
                      refine WpL.v (V.lenL tb) ?_
                      refine WpL.v (V.cmp rfl rfl h5) ?_
                      refine WpL.v (V.pT) ?_
                      refine WpL.v (V.as) ?_
                      apply WpL.nil
                      apply Out.seqN
                      apply Wp.seq
                      apply Wp.seq
                      apply Wp.region
                      refine WpL.v (V.mv) ?_
                      apply WpL.nil
                      apply Out.seqN
                      refine Wp.cT ?_
                      apply Wp.seq
                      refine Wp.dG [17] ?_ (List.Sublist.cons_cons _ (List.Sublist.cons _ (List.Sublist.cons _ (List.Sublist.cons _ (List.Sublist.cons _ (List.Sublist.cons_cons _ (List.Sublist.cons _ (List.Sublist.cons _ (List.Sublist.cons _ List.Sublist.slnil))))))))) (List.Sublist.cons _ (List.Sublist.cons _ (List.Sublist.cons _ (List.Sublist.cons _ (List.Sublist.cons _ (List.Sublist.cons_cons _ (List.Sublist.cons _ (List.Sublist.cons _ (List.Sublist.cons _ List.Sublist.slnil)))))))))
                      refine WpA.tF 0 rfl (V.mv) ?_
                      refine WpA.tF 1 rfl (V.mv) ?_
                      refine WpA.tF 2 rfl (V.nc) ?_
                      refine WpA.tF 3 rfl (V.fa tb) ?_
                      refine WpA.tF 5 rfl (V.mv) ?_
                      refine WpA.tF 6 rfl (V.nc) ?_
                      refine WpA.tF 7 rfl (V.fa tb) ?_
                      refine WpA.tF 9 rfl (V.fa tb) ?_
                      refine WpA.tF 10 rfl (V.ld1 tb) ?_
                      refine WpA.t 4 rfl (V.ld1 tb) ?_
                      refine WpA.t 8 rfl (V.ld1 tb) ?_
                      refine WpA.tF 11 rfl (V.ixk tb (k := k) rfl (by rw [← hk0]; rfl)) ?_
                      refine WpA.oS 12 rfl (Op1.vv (V.ldRow1 tb rfl (by (repeat first | exact List.Mem.head _ | apply List.Mem.tail)) (fun _ => rfl) (by assumption)) ⟨?_, ?_, ?_⟩)
                      exact holdT
                      exact holdT
                      refine WpA.oS 13 rfl (O.lit tb (fun p137 => ⟨?_, ?_, ?_⟩))
                      exact holdT
                      exact holdT
                      refine WpA.oS 14 rfl (O.apL tb rfl rfl (by (intro _; repeat first | exact Upd.here _ _ _ | apply Upd.there)) (SrcL.one tb (by (repeat first | exact List.Mem.head _ | apply List.Mem.tail)) ones_i64c) (fun g138 cap138 => ⟨?_, ?_, ?_⟩))
                      exact holdT
                      exact holdT
                      refine WpA.tF 15 rfl (V.nc) ?_
                      refine WpA.tF 16 rfl (V.fa tb) ?_
                      refine WpA.l 17 rfl (O.st1 tb ⟨?_, ?_⟩)
                      exact holdT
                      refine WpA.ou ?_
                      apply Out.seqN
                      apply Wp.seq
                      refine Wp.dG [17] ?_ (List.Sublist.cons _ (List.Sublist.cons_cons _ (List.Sublist.cons _ (List.Sublist.cons _ (List.Sublist.cons _ (List.Sublist.cons _ (List.Sublist.cons_cons _ (List.Sublist.cons _ (List.Sublist.cons _ (List.Sublist.cons _ List.Sublist.slnil)))))))))) (List.Sublist.cons _ (List.Sublist.cons _ (List.Sublist.cons _ (List.Sublist.cons _ (List.Sublist.cons _ (List.Sublist.cons _ (List.Sublist.cons_cons _ (List.Sublist.cons _ (List.Sublist.cons _ (List.Sublist.cons _ List.Sublist.slnil))))))))))
                      refine WpA.tF 0 rfl (V.mv) ?_
                      refine WpA.tF 1 rfl (V.mv) ?_
                      refine WpA.tF 2 rfl (V.nc) ?_
                      refine WpA.tF 3 rfl (V.fa tb) ?_
                      refine WpA.tF 5 rfl (V.mv) ?_
                      refine WpA.tF 6 rfl (V.nc) ?_
                      refine WpA.tF 7 rfl (V.fa tb) ?_
                      refine WpA.tF 9 rfl (V.fa tb) ?_
                      refine WpA.tF 10 rfl (V.ld1 tb) ?_
                      refine WpA.t 4 rfl (V.ld1 tb) ?_
                      refine WpA.t 8 rfl (V.ld1 tb) ?_
                      refine WpA.tF 11 rfl (V.ixk tb (k := k) rfl (by rw [← hk0]; rfl)) ?_
                      refine WpA.oS 12 rfl (Op1.vv (V.ldRow1 tb rfl (by (repeat first | exact List.Mem.head _ | apply List.Mem.tail)) (fun _ => rfl) (by assumption)) ⟨?_, ?_, ?_⟩)
                      exact holdT
                      exact holdT
                      refine WpA.oS 13 rfl (O.lit tb (fun p154 => ⟨?_, ?_, ?_⟩))
                      exact holdT
                      exact holdT
                      refine WpA.oS 14 rfl (O.apL tb rfl rfl (by (intro _; repeat first | exact Upd.here _ _ _ | apply Upd.there)) (SrcL.one tb (by (repeat first | exact List.Mem.head _ | apply List.Mem.tail)) ones_i64c) (fun g155 cap155 => ⟨?_, ?_, ?_⟩))
                      exact holdT
                      exact holdT
                      refine WpA.tF 15 rfl (V.nc) ?_
                      refine WpA.tF 16 rfl (V.fa tb) ?_
                      refine WpA.l 17 rfl (O.st1 tb ⟨?_, ?_⟩)
                      exact holdT
                      refine WpA.ou ?_
                      apply Out.seqN
                      refine Wp.dG [17] ?_ (List.Sublist.cons _ (List.Sublist.cons _ (List.Sublist.cons_cons _ (List.Sublist.cons _ (List.Sublist.cons _ (List.Sublist.cons _ (List.Sublist.cons _ (List.Sublist.cons_cons _ (List.Sublist.cons _ (List.Sublist.cons _ (List.Sublist.cons _ List.Sublist.slnil))))))))))) (List.Sublist.cons _ (List.Sublist.cons _ (List.Sublist.cons _ (List.Sublist.cons _ (List.Sublist.cons _ (List.Sublist.cons _ (List.Sublist.cons _ (List.Sublist.cons_cons _ (List.Sublist.cons _ (List.Sublist.cons _ (List.Sublist.cons _ List.Sublist.slnil)))))))))))
                      refine WpA.tF 0 rfl (V.mv) ?_
                      refine WpA.tF 1 rfl (V.mv) ?_
                      refine WpA.tF 2 rfl (V.nc) ?_
                      refine WpA.tF 3 rfl (V.fa tb) ?_
                      refine WpA.tF 5 rfl (V.mv) ?_
                      refine WpA.tF 6 rfl (V.nc) ?_
                      refine WpA.tF 7 rfl (V.fa tb) ?_
                      refine WpA.tF 9 rfl (V.fa tb) ?_
                      refine WpA.tF 10 rfl (V.ld1 tb) ?_
                      refine WpA.t 4 rfl (V.ld1 tb) ?_
                      refine WpA.t 8 rfl (V.ld1 tb) ?_
                      refine WpA.tF 11 rfl (V.ixk tb (k := k) rfl (by rw [← hk0]; rfl)) ?_
                      refine WpA.oS 12 rfl (Op1.vv (V.ldRow1 tb rfl (by (repeat first | exact List.Mem.head _ | apply List.Mem.tail)) (fun _ => rfl) (by assumption)) ⟨?_, ?_, ?_⟩)
                      exact holdT
                      exact holdT
                      refine WpA.oS 13 rfl (O.lit tb (fun p171 => ⟨?_, ?_, ?_⟩))
                      exact holdT
                      exact holdT
                      refine WpA.oS 14 rfl (O.apL tb rfl rfl (by (intro _; repeat first | exact Upd.here _ _ _ | apply Upd.there)) (SrcL.one tb (by (repeat first | exact List.Mem.head _ | apply List.Mem.tail)) ones_strc) (fun g172 cap172 => ⟨?_, ?_, ?_⟩))
                      exact holdT
                      exact holdT
                      refine WpA.tF 15 rfl (V.nc) ?_
                      refine WpA.tF 16 rfl (V.fa tb) ?_
                      refine WpA.l 17 rfl (O.st1 tb ⟨?_, ?_⟩)
                      exact holdT
                      refine WpA.ou ?_
                      apply Out.seqN
                      apply Wp.region
                      refine WpL.v (V.mv) ?_
                      refine WpL.v (V.fa tb) ?_
                      refine WpL.v (V.ld1 tb) ?_
                      refine WpL.o (Op1.callT rfl (hP) (by (repeat (first | exact Sel.nil | exact Rem.here | apply Sel.cons | apply Rem.there))) ?_)
                      rintro v7 s8 ⟨v'178, ⟨rfl, rfl⟩⟩
                      refine incat ?_
                      refine WpL.v (V.mv) ?_
                      refine WpL.v (V.eqB tb) ?_
                      refine WpL.v (V.as) ?_
                      apply WpL.nil
                      apply Out.blockN
                      apply Out.seqN
                      apply Wp.seq
                      apply Wp.region
                      refine WpL.v (V.mv) ?_
                      refine WpL.v (V.not) ?_
                      refine WpL.v (V.mv) ?_
                      refine WpL.v (V.mv) ?_
                      refine WpL.v (V.mv) ?_
                      refine WpL.o (Op1.callT rfl (hE _ _ _ _) (by (repeat (first | exact Sel.nil | exact Rem.here | apply Sel.cons | apply Rem.there))) ?_)
                      rintro v9 s10 ⟨rfl, rfl⟩
                      refine incat ?_
                      refine WpL.v (V.not) ?_
                      refine WpL.v (V.pF) ?_
                      apply WpL.nil
                      apply Out.seqN
                      refine Wp.cF ?_
                      apply Wp.skip
                      apply Out.blockN
                      apply Out.seqN
                      apply Wp.region
                      refine WpL.v (V.add) ?_
                      refine WpL.v (V.mv) ?_
                      apply WpL.nil
                      rotate_left
                      (try simp only [decide_eq_true_eq, decide_eq_false_iff_not, Bool.not_eq_true', Bool.not_eq_false', Bool.not_eq_true, Bool.not_eq_false, not_true_eq_false, not_false_eq_true, reduceCtorEq] at h4)
                      (exfalso; omega)
                      (try simp only [decide_eq_true_eq, decide_eq_false_iff_not, Bool.not_eq_true', Bool.not_eq_false', Bool.not_eq_true, Bool.not_eq_false, not_true_eq_false, not_false_eq_true, reduceCtorEq] at h0)
                      (exfalso; omega)
                      exact Out.ag hK ⟨i + 1, v'178, .slice (some ⟨g138, 0, none⟩) (l.map (·.From) ++ [y.From]).length cap138, .slice (some ⟨g155, 0, none⟩) (l.map (·.To) ++ [y.To]).length cap155, .slice (some ⟨g172, 0, none⟩) (l.map (·.Bytes) ++ [y.Bytes]).length cap172, vc, n, l ++ [y], c, cs⟩ ⟨by show i + 1 ≤ _; omega, by show 0 ≤ n; omega, by show n ≤ ((i + 1 : Nat) : Int); omega, by show (l ++ [y]).length ≤ 256; simp; omega, hokl, hc, by show cs.length ≤ i + 1; omega, hrel⟩ (by show xs.length - (i + 1) < xs.length - i; omega) (hs := by
                        dsimp only
                        rw [eR]
                        (repeat (first | exact Sel.nil | exact Rem.here | apply Sel.cons | apply Rem.there)))
                    · have e1 : canTwice l x.N = false := by simp [canTwice, h4]
                      have e2 : twiceL l x.N = l := by simp [twiceL, ha, h4]
                      rw [e1, e2] at hP
                      have h5 : cmpI .lss ((l.map (·.From)).length : Int) 256 = some false := by simp [cmpI]; omega
                      have hE (v vf vt vs : Go.Value) := pool_same b24 p26 v vf vt vs vc n l c cs hl hc
                      apply Wp.seq
                      apply Wp.region
                      refine WpL.v (V.cmp) ?_
                      apply WpL.nil
                      apply Out.seqN
                      apply Wp.seq
                      refine Wp.c (fun h0 => ?_) (fun h0 => ?_)
                      (try simp only [decide_eq_true_eq, decide_eq_false_iff_not, Bool.not_eq_true', Bool.not_eq_false', Bool.not_eq_true, Bool.not_eq_false, not_true_eq_false, not_false_eq_true, reduceCtorEq] at h0)
                      apply Wp.skip
                      apply Out.seqN
                      apply Wp.seq
                      apply Wp.block
                      apply Wp.seq
                      apply Wp.region
                      refine WpL.v (V.ixR tb rfl rfl (by assumption)) ?_
                      refine WpL.v (V.ldRA tb rfl (by assumption) (getMapS (by assumption))) ?_
                      refine WpL.o (O.al tb (fun p6 => ?_))
                      refine WpL.o (O.stA tb ?_)
                      apply WpL.nil
                      apply Out.seqN
                      apply Wp.seq
                      apply Wp.region
                      refine WpL.v (V.as) ?_
                      apply WpL.nil
                      apply Out.seqN
                      apply Wp.seq
                      apply Wp.seq
                      apply Wp.region
                      refine WpL.v (V.fa tb) ?_
                      refine WpL.v (V.ld1 tb) ?_
                      apply WpL.nil
                      apply Out.seqN
                      apply Wp.block
                      apply Wp.seq
                      apply Wp.region
                      refine WpL.v (V.cmp) ?_
                      refine WpL.v (V.as) ?_
                      apply WpL.nil
                      apply Out.seqN
                      refine Wp.c (fun h1 => ?_) (fun h1 => ?_)
                      (try simp only [decide_eq_true_eq, decide_eq_false_iff_not, Bool.not_eq_true', Bool.not_eq_false', Bool.not_eq_true, Bool.not_eq_false, not_true_eq_false, not_false_eq_true, reduceCtorEq] at h1)
                      (exfalso; omega)
                      (try simp only [decide_eq_true_eq, decide_eq_false_iff_not, Bool.not_eq_true', Bool.not_eq_false', Bool.not_eq_true, Bool.not_eq_false, not_true_eq_false, not_false_eq_true, reduceCtorEq] at h1)
                      apply Wp.seq
                      apply Wp.region
                      refine WpL.v (V.cmp) ?_
                      refine WpL.v (V.as) ?_
                      apply WpL.nil
                      apply Out.seqN
                      refine Wp.c (fun h2 => ?_) (fun h2 => ?_)
                      (try simp only [decide_eq_true_eq, decide_eq_false_iff_not, Bool.not_eq_true', Bool.not_eq_false', Bool.not_eq_true, Bool.not_eq_false, not_true_eq_false, not_false_eq_true, reduceCtorEq] at h2)
                      (exfalso; omega)
                      (try simp only [decide_eq_true_eq, decide_eq_false_iff_not, Bool.not_eq_true', Bool.not_eq_false', Bool.not_eq_true, Bool.not_eq_false, not_true_eq_false, not_false_eq_true, reduceCtorEq] at h2)
                      apply Wp.seq
                      apply Wp.region
                      refine WpL.v (V.cmp) ?_
                      refine WpL.v (V.as) ?_
                      apply WpL.nil
                      apply Out.seqN
                      refine Wp.c (fun h3 => ?_) (fun h3 => ?_)
                      (try simp only [decide_eq_true_eq, decide_eq_false_iff_not, Bool.not_eq_true', Bool.not_eq_false', Bool.not_eq_true, Bool.not_eq_false, not_true_eq_false, not_false_eq_true, reduceCtorEq] at h3)
                      (exfalso; omega)
                      (try simp only [decide_eq_true_eq, decide_eq_false_iff_not, Bool.not_eq_true', Bool.not_eq_false', Bool.not_eq_true, Bool.not_eq_false, not_true_eq_false, not_false_eq_true, reduceCtorEq] at h3)
                      apply Wp.seq
                      apply Wp.region
                      refine WpL.v (V.cmp) ?_
                      refine WpL.v (V.as) ?_
                      apply WpL.nil
                      apply Out.seqN
                      refine Wp.c (fun h4 => ?_) (fun h4 => ?_)
                      (try simp only [decide_eq_true_eq, decide_eq_false_iff_not, Bool.not_eq_true', Bool.not_eq_false', Bool.not_eq_true, Bool.not_eq_false, not_true_eq_false, not_false_eq_true, reduceCtorEq] at h4)
                      apply Wp.seq
                      apply Wp.region
                      refine WpL.v (V.mv) ?_
                      refine WpL.v (V.fa tb) ?_
                      refine WpL.v (V.ld1 tb) ?_
                      refine WpL.o (Op1.callT rfl (hI) (by (repeat (first | exact Sel.nil | exact Rem.here | apply Sel.cons | apply Rem.there))) ?_)
                      rintro v5 s6 ⟨rfl, rfl⟩
                      refine incat ?_
                      refine WpL.v (V.mv) ?_
                      refine WpL.v (V.mv) ?_
                      refine WpL.v (V.nc) ?_
                      refine WpL.v (V.fa tb) ?_
                      refine WpL.v (V.ld1 tb) ?_
                      refine WpL.v (V.lenRows tb) ?_
                      refine WpL.v (V.cmp rfl rfl h5) ?_
                      refine WpL.v (V.pT) ?_
                      refine WpL.v (V.as) ?_
                      apply WpL.nil
                      apply Out.seqN
                      apply Wp.seq
                      apply Wp.seq
                      apply Wp.region
                      refine WpL.v (V.mv) ?_
                      apply WpL.nil
                      apply Out.seqN
                      refine Wp.cF ?_
                      apply Wp.skip
                      apply Out.seqN
                      apply Wp.region
                      refine WpL.v (V.mv) ?_
                      refine WpL.v (V.fa tb) ?_
                      refine WpL.v (V.ld1 tb) ?_
                      refine WpL.o (Op1.callT rfl (hP) (by (repeat (first | exact Sel.nil | exact Rem.here | apply Sel.cons | apply Rem.there))) ?_)
                      rintro v7 s8 ⟨v'178, ⟨rfl, rfl⟩⟩
                      refine incat ?_
                      refine WpL.v (V.mv) ?_
                      refine WpL.v (V.eqB tb) ?_
                      refine WpL.v (V.as) ?_
                      apply WpL.nil
                      apply Out.blockN
                      apply Out.seqN
                      apply Wp.seq
                      apply Wp.region
                      refine WpL.v (V.mv) ?_
                      refine WpL.v (V.not) ?_
                      refine WpL.v (V.mv) ?_
                      refine WpL.v (V.mv) ?_
                      refine WpL.v (V.mv) ?_
                      refine WpL.o (Op1.callT rfl (hE _ _ _ _) (by (repeat (first | exact Sel.nil | exact Rem.here | apply Sel.cons | apply Rem.there))) ?_)
                      rintro v9 s10 ⟨rfl, rfl⟩
                      refine incat ?_
                      refine WpL.v (V.not) ?_
                      refine WpL.v (V.pF) ?_
                      apply WpL.nil
                      apply Out.seqN
                      refine Wp.cF ?_
                      apply Wp.skip
                      apply Out.blockN
                      apply Out.seqN
                      apply Wp.region
                      refine WpL.v (V.add) ?_
                      refine WpL.v (V.mv) ?_
                      apply WpL.nil
                      rotate_left
                      (try simp only [decide_eq_true_eq, decide_eq_false_iff_not, Bool.not_eq_true', Bool.not_eq_false', Bool.not_eq_true, Bool.not_eq_false, not_true_eq_false, not_false_eq_true, reduceCtorEq] at h4)
                      (exfalso; omega)
                      (try simp only [decide_eq_true_eq, decide_eq_false_iff_not, Bool.not_eq_true', Bool.not_eq_false', Bool.not_eq_true, Bool.not_eq_false, not_true_eq_false, not_false_eq_true, reduceCtorEq] at h0)
                      (exfalso; omega)
                      all_goals exact Out.ag hK ⟨i + 1, _, _, _, _, _, n, l, c, cs⟩ ⟨by show i + 1 ≤ _; omega, by show 0 ≤ n; omega, by show n ≤ ((i + 1 : Nat) : Int); omega, hl, hok, hc, by show cs.length ≤ i + 1; omega, hrel⟩ (by show xs.length - (i + 1) < xs.length - i; omega)
                · have hE (v vf vt vs : Go.Value) := pool_same b24 p26 v vf vt vs vc n l c cs hl hc
                  apply Wp.seq
                  apply Wp.region
                  refine WpL.v (V.cmp) ?_
                  apply WpL.nil
                  apply Out.seqN
                  apply Wp.seq
                  refine Wp.c (fun hk60 => ?_) (fun hk60 => ?_)
                  (try simp only [decide_eq_true_eq, decide_eq_false_iff_not, Bool.not_eq_true', Bool.not_eq_false', Bool.not_eq_true, Bool.not_eq_false, not_true_eq_false, not_false_eq_true, reduceCtorEq] at hk60)
                  apply Wp.skip
                  apply Out.seqN
                  apply Wp.seq
                  apply Wp.block
                  apply Wp.seq
                  apply Wp.region
                  refine WpL.v (V.ixR tb rfl rfl (by assumption)) ?_
                  refine WpL.v (V.ldRA tb rfl (by assumption) (getMapS (by assumption))) ?_
                  refine WpL.o (O.al tb (fun p6 => ?_))
                  refine WpL.o (O.stA tb ?_)
                  apply WpL.nil
                  apply Out.seqN
                  apply Wp.seq
                  apply Wp.region
                  refine WpL.v (V.as) ?_
                  apply WpL.nil
                  apply Out.seqN
                  apply Wp.seq
                  apply Wp.seq
                  apply Wp.region
                  refine WpL.v (V.fa tb) ?_
                  refine WpL.v (V.ld1 tb) ?_
                  apply WpL.nil
                  apply Out.seqN
                  apply Wp.block
                  apply Wp.seq
                  apply Wp.region
                  refine WpL.v (V.cmp) ?_
                  refine WpL.v (V.as) ?_
                  apply WpL.nil
                  apply Out.seqN
                  refine Wp.c (fun hk61 => ?_) (fun hk61 => ?_)
                  (try simp only [decide_eq_true_eq, decide_eq_false_iff_not, Bool.not_eq_true', Bool.not_eq_false', Bool.not_eq_true, Bool.not_eq_false, not_true_eq_false, not_false_eq_true, reduceCtorEq] at hk61)
                  (exfalso; omega)
                  (try simp only [decide_eq_true_eq, decide_eq_false_iff_not, Bool.not_eq_true', Bool.not_eq_false', Bool.not_eq_true, Bool.not_eq_false, not_true_eq_false, not_false_eq_true, reduceCtorEq] at hk61)
                  apply Wp.seq
                  apply Wp.region
                  refine WpL.v (V.cmp) ?_
                  refine WpL.v (V.as) ?_
                  apply WpL.nil
                  apply Out.seqN
                  refine Wp.c (fun hk62 => ?_) (fun hk62 => ?_)
                  (try simp only [decide_eq_true_eq, decide_eq_false_iff_not, Bool.not_eq_true', Bool.not_eq_false', Bool.not_eq_true, Bool.not_eq_false, not_true_eq_false, not_false_eq_true, reduceCtorEq] at hk62)
                  (exfalso; omega)
                  (try simp only [decide_eq_true_eq, decide_eq_false_iff_not, Bool.not_eq_true', Bool.not_eq_false', Bool.not_eq_true, Bool.not_eq_false, not_true_eq_false, not_false_eq_true, reduceCtorEq] at hk62)
                  apply Wp.seq
                  apply Wp.region
                  refine WpL.v (V.cmp) ?_
                  refine WpL.v (V.as) ?_
                  apply WpL.nil
                  apply Out.seqN
                  refine Wp.c (fun hk63 => ?_) (fun hk63 => ?_)
                  (try simp only [decide_eq_true_eq, decide_eq_false_iff_not, Bool.not_eq_true', Bool.not_eq_false', Bool.not_eq_true, Bool.not_eq_false, not_true_eq_false, not_false_eq_true, reduceCtorEq] at hk63)
                  (exfalso; omega)
                  (try simp only [decide_eq_true_eq, decide_eq_false_iff_not, Bool.not_eq_true', Bool.not_eq_false', Bool.not_eq_true, Bool.not_eq_false, not_true_eq_false, not_false_eq_true, reduceCtorEq] at hk63)
                  apply Wp.seq
                  apply Wp.region
                  refine WpL.v (V.cmp) ?_
                  refine WpL.v (V.as) ?_
                  apply WpL.nil
                  apply Out.seqN
                  refine Wp.c (fun hk64 => ?_) (fun hk64 => ?_)
                  (try simp only [decide_eq_true_eq, decide_eq_false_iff_not, Bool.not_eq_true', Bool.not_eq_false', Bool.not_eq_true, Bool.not_eq_false, not_true_eq_false, not_false_eq_true, reduceCtorEq] at hk64)
                  (exfalso; omega)
                  (try simp only [decide_eq_true_eq, decide_eq_false_iff_not, Bool.not_eq_true', Bool.not_eq_false', Bool.not_eq_true, Bool.not_eq_false, not_true_eq_false, not_false_eq_true, reduceCtorEq] at hk64)
                  apply Wp.seq
                  apply Wp.region
                  refine WpL.v (V.cmp) ?_
                  refine WpL.v (V.as) ?_
                  apply WpL.nil
                  apply Out.seqN
                  refine Wp.c (fun hk65 => ?_) (fun hk65 => ?_)
                  (try simp only [decide_eq_true_eq, decide_eq_false_iff_not, Bool.not_eq_true', Bool.not_eq_false', Bool.not_eq_true, Bool.not_eq_false, not_true_eq_false, not_false_eq_true, reduceCtorEq] at hk65)
                  (exfalso; omega)
                  (try simp only [decide_eq_true_eq, decide_eq_false_iff_not, Bool.not_eq_true', Bool.not_eq_false', Bool.not_eq_true, Bool.not_eq_false, not_true_eq_false, not_false_eq_true, reduceCtorEq] at hk65)
                  apply Wp.seq
                  apply Wp.region
                  refine WpL.v (V.cmp) ?_
                  refine WpL.v (V.as) ?_
                  apply WpL.nil
                  apply Out.seqN
                  refine Wp.c (fun hk66 => ?_) (fun hk66 => ?_)
                  (try simp only [decide_eq_true_eq, decide_eq_false_iff_not, Bool.not_eq_true', Bool.not_eq_false', Bool.not_eq_true, Bool.not_eq_false, not_true_eq_false, not_false_eq_true, reduceCtorEq] at hk66)
                  (exfalso; omega)
                  (try simp only [decide_eq_true_eq, decide_eq_false_iff_not, Bool.not_eq_true', Bool.not_eq_false', Bool.not_eq_true, Bool.not_eq_false, not_true_eq_false, not_false_eq_true, reduceCtorEq] at hk66)
                  apply Wp.skip
                  apply Out.blockN
                  apply Out.seqN
                  apply Wp.seq
                  apply Wp.region
                  refine WpL.v (V.mv) ?_
                  refine WpL.v (V.not) ?_
                  refine WpL.v (V.mv) ?_
                  refine WpL.v (V.mv) ?_
                  refine WpL.v (V.mv) ?_
                  refine WpL.o (Op1.callT rfl (hE _ _ _ _) (by (repeat (first | exact Sel.nil | exact Rem.here | apply Sel.cons | apply Rem.there))) ?_)
                  rintro v7 s8 ⟨rfl, rfl⟩
                  refine incat ?_
                  refine WpL.v (V.not) ?_
                  refine WpL.v (V.pF) ?_
                  apply WpL.nil
                  apply Out.seqN
                  refine Wp.cF ?_
                  apply Wp.skip
                  apply Out.blockN
                  apply Out.seqN
                  apply Wp.region
                  refine WpL.v (V.add) ?_
                  refine WpL.v (V.mv) ?_
                  apply WpL.nil
                  rotate_left
                  (try simp only [decide_eq_true_eq, decide_eq_false_iff_not, Bool.not_eq_true', Bool.not_eq_false', Bool.not_eq_true, Bool.not_eq_false, not_true_eq_false, not_false_eq_true, reduceCtorEq] at hk60)
                  (exfalso; omega)
                  all_goals exact Out.ag hK ⟨i + 1, _, _, _, _, _, n, l, c, cs⟩ ⟨by show i + 1 ≤ _; omega, by show 0 ≤ n; omega, by show n ≤ ((i + 1 : Nat) : Int); omega, hl, hok, hc, by show cs.length ≤ i + 1; omega, hrel⟩ (by show xs.length - (i + 1) < xs.length - i; omega)
    · obtain rfl : i = xs.length := by omega
      clear hK
      apply Wp.seq
      apply Wp.region
      refine WpL.v (V.cmp) ?_
      apply WpL.nil
      apply Out.seqN
      apply Wp.seq
      refine Wp.c (fun hz0 => ?_) (fun hz0 => ?_)
      (try simp only [decide_eq_true_eq, decide_eq_false_iff_not, Bool.not_eq_true', Bool.not_eq_false', Bool.not_eq_true, Bool.not_eq_false, not_true_eq_false, not_false_eq_true, reduceCtorEq] at hz0)
      (exfalso; omega)
      (try simp only [decide_eq_true_eq, decide_eq_false_iff_not, Bool.not_eq_true', Bool.not_eq_false', Bool.not_eq_true, Bool.not_eq_false, not_true_eq_false, not_false_eq_true, reduceCtorEq] at hz0)
      apply Wp.exit
      apply Out.seqE
      apply Out.seqE
      apply Out.blockE
      apply Out.seqN
      apply Wp.seq
      apply Wp.region
      refine WpL.v (V.as) ?_
      apply WpL.nil
      apply Out.seqN
      apply Wp.seq
      apply Wp.region
      refine WpL.v (V.mv) ?_
      refine WpL.o (Op1.fn rfl (pool_cut0 _ _) ?_)
      apply WpL.nil
      apply Out.seqN
      apply Wp.seq
      apply Wp.region
      refine WpL.v (V.mv) ?_
      refine WpL.o (Op1.fn rfl (pool_heal0) ?_)
      apply WpL.nil
      apply Out.seqN
      apply Wp.seq
      apply Wp.region
      refine WpL.v (V.mv) ?_
      refine WpL.o (Op1.fn rfl (pool_take0 _) ?_)
      refine WpL.v (V.mv) ?_
      refine WpL.v (V.ex) ?_
      refine WpL.v (V.ex) ?_
      refine WpL.o (O.al tb (fun p18 => ?_))
      refine WpL.o (O.stA tb ?_)
      refine WpL.v (V.as) ?_
      apply WpL.nil
      apply Out.seqN
      apply Wp.seq
      apply Wp.region
      refine WpL.v (V.mv) ?_
      refine WpL.v (V.bld tb) ?_
      refine WpL.o (O.lit tb (fun p230 => ?_))
      refine WpL.o (Op1.callT rfl (pool_send0 e _ _ _) (by (repeat (first | exact Sel.nil | exact Rem.here | apply Sel.cons | apply Rem.there))) ?_)
      rintro v1 s2 ⟨rfl, rfl⟩
      refine incat ?_
      refine WpL.v (V.cmp) ?_
      refine WpL.v (V.mv) ?_
      refine WpL.v (V.mv) ?_
      refine WpL.v (V.not) ?_
      refine WpL.v (V.pT) ?_
      refine WpL.v (V.mv) ?_
      refine WpL.v (V.mv) ?_
      refine WpL.o (Op1.fn rfl (pool_lose0 _) ?_)
      refine WpL.v (V.not) ?_
      refine WpL.v (V.pT) ?_
      refine WpL.v (V.mv) ?_
      refine WpL.v (V.mv) ?_
      refine WpL.o (Op1.fn rfl (pool_twice0 _) ?_)
      refine WpL.v (V.not) ?_
      refine WpL.v (V.pT) ?_
      refine WpL.v (V.mv) ?_
      refine WpL.v (V.mv) ?_
      refine WpL.o (Op1.fn rfl (pool_all0) ?_)
      refine WpL.v (V.lenL tb) ?_
      refine WpL.v (V.mv) ?_
      refine WpL.o (Op1.fn rfl (pool_len0) ?_)
      refine WpL.v (V.add) ?_
      refine WpL.v (V.mv) ?_
      refine WpL.o (Op1.fn rfl (pool_lost0) ?_)
      refine WpL.v (V.add) ?_
      refine WpL.v (V.cmp) ?_
      refine WpL.v (V.pT) ?_
      refine WpL.v (V.as) ?_
      apply WpL.nil
      apply Out.seqN
      apply Wp.ret
      refine Out.f1 rfl ResIs.t ⟨?_, rfl⟩
      exact rfl
open Go Go.ChangeShapes Go.WideShapes Go.ChangeAt Go.RowKit
theorem poolDoes_read : (Try.f13.params.toList.all fun t => Try.prog.readableRec t && decide (t < Try.prog.types.size)) = true := by kernel_rfl
theorem poolDoes_lifted (os : Go.Os) (started : os.Started) (H : Type) (enc : Go.TypeId × Go.Value → H) :
    ReturnsInHanded {} Try.checked os 13 .any (Rows.poolDoesSpec.pre6 enc Try.prog Try.f13 Rows.poolDoesRow.domain false) (Rows.poolDoesSpec.post enc Try.prog Try.f13 false true false false) := by
  refine returnsInHanded_of_change_sized (C := Try.checked) own started (by kernel_rfl) Try.func13
    (ChangeSpec.witness6 (enc := enc) (C := Try.checked) false ⟨#[], #[.slice none 0 0], []⟩ 8 (by kernel_rfl) (by kernel_rfl) (by kernel_rfl) (by kernel_rfl)) ?_
  intro W base args ds gs before hval0 hW hcnd hsz0 _
  have hsz : (DataW.weightsEach Try.prog (Try.f13.params.toList ++ Rows.poolDoesSpec.plain.varTypes Try.prog) (ds ++ gs)).all (· ≤ reachBytes) = true := hsz0
  have hval : ∀ (j : Nat) t v, Try.f13.params[j]? = some t → args[j]? = some v → Value.okWide Try.prog W .any base t v := hval0
  have hW' := hW
  obtain ⟨p, q, hA0, hV, rfl, hfz, hnd⟩ := hW
  have hA1 : DataW.TrodAll enc Try.prog W 0 (fun _ => true) true Try.f13.params.toList args.toList ds p := hA0
  have hA := hA1
  rw [Try.params13] at hA hval hsz
  obtain ⟨v0, vs0, d0, ds0, p0, q0, hargs, rfl, rfl, h0, r0⟩ := trodAll_cons hA
  obtain ⟨rfl, rfl, rfl⟩ := trodAll_nil r0
  obtain rfl : args = #[v0] := by cases args; simp_all
  obtain ⟨rfl, rfl⟩ := trodVars_none hV
  obtain ⟨ao0, b0, off0, len0, cap0, xs0, rfl, hl0, hlc0, hcm0, ha0, hs0, hf0, hby0⟩ := open_slice_plain Try.underlying68 Caucuslaw11Call.leaves (by kernel_rfl) (by decide) (hval 0 68 v0 rfl rfl) h0 (sizedAll hsz 0 rfl rfl)
  obtain ⟨x0, rfl, w0⟩ := fits_map Caucuslaw11Call.c Caucuslaw11Call.wf hf0 Caucuslaw11Call.fit
  obtain rfl : len0 = x0.length := by simpa using hl0.symm
  simp only [List.append_nil] at hW' hA1
  have hbl : ∀ p : Nat × Nat, p ∈ [(x0.length, b0)] → 0 < p.1 → p.2 < W.heap.size := by
    intro p hp h0
    simp only [List.mem_cons, List.mem_nil_iff, or_false] at hp
    rcases hp with rfl
    · exact (ha0 h0).2
  have hR0 : Rd (snap W (blocksOf [(x0.length, b0)])) ao0 x0.length b0 off0 6 (x0.map Caucuslaw11Call.c) := Rd.snap (by simp) (Nat.le_trans hlc0 hcm0) ha0 hs0 (fun h => blocksOf_mem (len := x0.length) (by simp) h)
  refine (Ct.runSnap (blocksOf_nodup _) (blocksOf_lt hbl) (poolDoes_walk _ _ _ _ _ x0 hR0)).mono fun e W' hh => ?_
  obtain ⟨rfl, hS⟩ := hh
  exact ⟨_, rfl, post_law (P := Try.prog) (f := Try.f13) (tbool := 4) hW' hA1 rfl rfl hS laid poolDoes_read rfl Try.underlying4⟩
theorem poolDoes_over : Rows.poolDoesRow.holds Try.pinned (OpenSpec.ofChange Rows.poolDoesSpec) :=
  OpenClaim.holds_of_wide 13 Try.f13 rfl rfl rfl rfl rfl rfl rfl ⟨rfl, rfl, rfl, rfl, rfl⟩ rfl rfl rfl rfl rfl (by kernel_rfl) Try.func13 (by kernel_rfl)
    (of_decide_eq_true (by kernel_rfl)) (by unfold Func.isWrapper; first | (rw [if_pos (by decide +kernel)]; kernel_rfl) | (rw [if_neg (by decide +kernel)]; exact ⟨rfl, rfl⟩))
    (fun os started H enc _ => poolDoes_lifted os started H enc)
/-- THE STATEMENT. -/
theorem poolDoes_proved : Rows.PoolDoesSaid := poolDoes_over
#print axioms poolDoes_proved

end Go.Proofs.Ytgbflapcadlelaa
