/-
  The statement LeadQuorums of layer 14: what is done in the fast way was pre-accepted by so many, what is done otherwise was accepted by so many, and what is accepted reaches as far as all that pre-accepted it. Proved for every input.
-/
import Derived.Test.YthoepbbpmdmfeaaHead
import Derived.Test.YthoepbbpmdmfeaaQuo
import Derived.Test.YthoepbbpmdmfeaaHeapJ
namespace Go.Proofs.Ythoepbbpmdmfeaa
open Go.HL
set_option linter.unusedSimpArgs false
set_option linter.unusedVariables false
set_option maxRecDepth 8000
def bC (l : List Bool) : List Go.Value := l.map fun b => B b
theorem bC_get {l : List Bool} {k : Nat} {x : Bool} (h : l[k]? = some x) : (bC l)[0 + k * 1]? = some (B x) := by
  rw [Nat.mul_one, Nat.zero_add, bC, List.getElem?_map, h]; rfl
theorem bC_set {l : List Bool} {k : Nat} {x : Bool} (h : k < l.length) : SplOf (0 + k * 1) [B x] (bC l) (bC (l.set k x)) := ⟨by
  rw [Nat.mul_one, Nat.zero_add, splice, bC, bC, List.map_set, List.set_eq_take_append_cons_drop, if_pos (by simpa using h)]
  simp⟩
theorem bC_blt {l : List Bool} {k : Nat} (h : k < l.length) : Nat.blt (0 + k * 1) (bC l).length = true := by rw [Nat.blt_eq, bC, List.length_map]; omega
theorem cnt_snoc {l : List Bool} {k : Nat} {b : Bool} (h : l[k]? = some b) : (l.take (k + 1)).count true = (l.take k).count true + (if b = true then 1 else 0) := by
  rw [take_snocS h, List.count_append]; cases b <;> simp
theorem cnt_le (l : List Bool) (k : Nat) : (l.take k).count true ≤ k := Nat.le_trans List.count_le_length (List.length_take_le _ _)
structure QS where
  i : Nat
  x : LeadS
  ss : List Bool
  re : TCall
instance (c : Caucuslaw14Case) (m : TMsg) : Decidable (Own c m) := by unfold Own; infer_instance
instance (c : Caucuslaw14Case) (x : LeadS) (m : TMsg) : Decidable (G1 c x m) := by unfold G1; infer_instance
instance (c : Caucuslaw14Case) (x : LeadS) (m : TMsg) : Decidable (G2 c x m) := by unfold G2; infer_instance
theorem step_q {c : Caucuslaw14Case} {x : LeadS} {ss : List Bool} {re : TCall} (hN : 0 ≤ c.N ∧ c.N ≤ 7) (k : Keeps x c.N c.Self c.Item c.Ballot) (q : QI c x ss re) (late : Bool) (m : TMsg) (hc : ¬ (late = false ∧ m.Kind = 5)) :
    ∃ (y : LeadS) (mv : Bool) (ph oh ss' : List Bool) (re' : TCall),
      (if late = true then (y = x.late.1 ∧ mv = x.late.2) else (y = (x.hear m).1 ∧ mv = (x.hear m).2)) ∧ Keeps y c.N c.Self c.Item c.Ballot ∧ Tr x y mv ∧ QI c y ss' re' ∧ y.ph = ph ∧ y.oh = oh ∧
      ((late = false ∧ G1 c x m) → ph = x.ph.set m.From.toNat true ∧ ss' = ss.set m.From.toNat m.Same ∧ re' = rj re m) ∧ (¬ (late = false ∧ G1 c x m) → ph = x.ph ∧ ss' = ss ∧ re' = re) ∧
      ((late = false ∧ G2 c x m) → oh = x.oh.set m.From.toNat true) ∧ (¬ (late = false ∧ G2 c x m) → oh = x.oh) := by
  cases late with
  | true =>
    obtain ⟨h1, h2, h3, h4⟩ := late_same x
    exact ⟨_, _, _, _, ss, re, by rw [if_pos rfl]; exact ⟨rfl, rfl⟩, late_keeps k, late_tr x, q.keep (late_tr x) ⟨h1, h2, h4⟩, h1, h3, (fun h => absurd h.1 (by simp)), fun _ => ⟨rfl, rfl, rfl⟩, (fun h => absurd h.1 (by simp)), fun _ => rfl⟩
  | false =>
    have hk : m.Kind ≠ 5 := fun h => hc ⟨rfl, h⟩
    obtain ⟨a1, a2, a3, a4⟩ := hear_q k hN.2 m hk
    have t := hear_tr k m hk
    by_cases g : G1 c x m
    · refine ⟨_, _, _, _, ss.set m.From.toNat m.Same, rj re m, by rw [if_neg (by simp)]; exact ⟨rfl, rfl⟩, hear_keeps k m, t, q.put k.wf hN.2 t g (a1 g), (a1 g).1, rfl, fun _ => ⟨rfl, rfl, rfl⟩, (fun h => absurd ⟨rfl, g⟩ h), fun h => a3 h.2, fun h => a4 fun h2 => h ⟨rfl, h2⟩⟩
    · refine ⟨_, _, _, _, ss, re, by rw [if_neg (by simp)]; exact ⟨rfl, rfl⟩, hear_keeps k m, t, q.keep t (a2 g), (a2 g).1, rfl, (fun h => absurd h.2 g), fun _ => ⟨rfl, rfl, rfl⟩, fun h => a3 h.2, fun h => a4 fun h2 => h ⟨rfl, h2⟩⟩
set_option maxHeartbeats 4000000 in
theorem leadQuorums_walk (e : Ent) (ao : Option Go.Addr) (cap b off : Nat) (c : Caucuslaw14Case) (xs : List Caucuslaw14Step) (hR : Rd e ao xs.length b off 26 (xs.map Caucuslaw14Step.c)) :
    Ct Try.prog 11 [A c.c, .slice ao xs.length cap] [e] (fun r σ' => r = B true ∧ σ' = [e]) := by
  have hm := hR.small
  simp only [Go.maxLen] at hm
  have hG := great14 c ao xs.length cap
  have hBg := begin14 c
  by_cases hs : (c.N = 3 ∨ c.N = 5 ∨ c.N = 7) ∧ xs.length ≤ 60
  · rw [show (!(decide (c.N = 3) || (decide (c.N = 5) || decide (c.N = 7))) || decide (60 < xs.length)) = false by simp; omega] at hG
    obtain ⟨hs1, hs2⟩ := hs
    have hF := ref_faults c.N (by omega)
    have hfb : 0 ≤ faults c.N ∧ faults c.N ≤ 7 := by unfold faults; omega
    have hC0 (q : Nat) := lead_call q (newC c)
    refine Ct.enter Try.func11 rfl rfl fun W => ?_
    apply Wp.seq
    apply Wp.region
    refine WpL.o (O.bxA (fun p2 => ?_))
    refine WpL.v (V.as) ?_
    apply WpL.nil
    apply Out.seqN
    apply Wp.seq
    apply Wp.seq
    apply Wp.region
    refine WpL.o (Op1.fn rfl (alive14) ?_)
    refine WpL.v (V.not) ?_
    apply WpL.nil
    apply Out.seqN
    refine Wp.cF ?_
    apply Wp.skip
    apply Out.seqN
    apply Wp.seq
    apply Wp.seq
    apply Wp.region
    refine WpL.v (V.ldA tb) ?_
    refine WpL.v (V.mv) ?_
    refine WpL.o (Op1.fn rfl (hG) ?_)
    apply WpL.nil
    apply Out.seqN
    refine Wp.cF ?_
    apply Wp.skip
    apply Out.seqN
    apply Wp.seq
    apply Wp.region
    refine WpL.v (V.ldA tb) ?_
    refine WpL.o (Op1.callT rfl (hBg) (by (repeat (first | exact Sel.nil | exact Rem.here | apply Sel.cons | apply Rem.there))) ?_)
    rintro v0 s1 ⟨q29, ⟨p29, ⟨rfl, rfl⟩⟩⟩
    refine incat ?_
    refine WpL.v (V.mv) ?_
    refine WpL.v (V.ex) ?_
    refine WpL.v (V.ex) ?_
    refine WpL.v (V.as) ?_
    refine WpL.v (V.as) ?_
    apply WpL.nil
    apply Out.seqN
    apply Wp.seq
    apply Wp.region
    refine WpL.v (V.fa tb) ?_
    refine WpL.v (V.ld1 tb) ?_
    refine WpL.o (Op1.fn rfl (hF) ?_)
    refine WpL.v (V.as) ?_
    apply WpL.nil
    apply Out.seqN
    apply Wp.seq
    apply Wp.region
    refine WpL.o (O.al tb (fun p8 => ?_))
    refine WpL.o (O.al tb (fun p9 => ?_))
    refine WpL.o (O.al tb (fun p10 => ?_))
    apply WpL.nil
    apply Out.seqN
    apply Wp.seq
    apply Wp.region
    refine WpL.v (V.mv) ?_
    refine WpL.o (Op1.callT rfl (hC0 _) (by (repeat (first | exact Sel.nil | exact Rem.here | apply Sel.cons | apply Rem.there))) ?_)
    rintro v2 s3 ⟨rfl, rfl⟩
    refine incat ?_
    refine WpL.o (O.al tb (fun p11 => ?_))
    refine WpL.o (O.stA tb ?_)
    apply WpL.nil
    apply Out.seqN
    apply Wp.seq
    apply Wp.seq
    apply Wp.region
    refine WpL.v (V.mv) ?_
    refine WpL.v (V.lenL tb) ?_
    refine WpL.v (V.mv) ?_
    apply WpL.nil
    apply Out.seqN
    apply Wp.block
    refine Wp.lp [38, 37, 11, 10, 9, 8, 7, 5, 2] (fun y : QS => y.i ≤ xs.length ∧ Keeps y.x c.N c.Self c.Item c.Ballot ∧ QI c y.x y.ss y.re) (fun y => [(39, I (y.i : Int))]) (fun y => [cells q29 142 y.x.c, cells p8 55 (bC y.x.ph), cells p9 55 (bC y.ss), cells p10 55 (bC y.x.oh), cells p11 33 y.re.c]) (fun y => xs.length - y.i) ⟨0, newC c, List.replicate 7 false, c.Call⟩ ⟨Nat.zero_le _, newC_keeps c, QI.new c⟩ ?_
    rintro ⟨i, x, ss, re⟩ ⟨hi, hk, hq⟩ K hK
    dsimp only at hi hk hq
    dsimp only [List.cons_append, List.nil_append]
    by_cases hlt : i < xs.length
    · obtain ⟨s, hs⟩ := getS hlt
      apply Wp.seq
      apply Wp.region
      refine WpL.v (V.cmp) ?_
      apply WpL.nil
      apply Out.seqN
      apply Wp.seq
      refine Wp.c (fun hb0 => ?_) (fun hb0 => ?_)
      (try simp only [decide_eq_true_eq, decide_eq_false_iff_not, Bool.not_eq_true', Bool.not_eq_false', Bool.not_eq_true, Bool.not_eq_false, not_true_eq_false, not_false_eq_true, reduceCtorEq] at hb0)
      apply Wp.skip
      apply Out.seqN
      apply Wp.seq
      apply Wp.block
      apply Wp.seq
      apply Wp.region
      refine WpL.v (V.ixR tb rfl rfl (by assumption)) ?_
      refine WpL.v (V.ldRA tb rfl (by assumption) (getMapS (by assumption))) ?_
      refine WpL.o (O.al tb (fun p13 => ?_))
      refine WpL.o (O.stA tb ?_)
      apply WpL.nil
      apply Out.seqN
      apply Wp.seq
      apply Wp.region
      refine WpL.v (V.fa tb) ?_
      refine WpL.v (V.ldA tb) ?_
      refine WpL.o (O.al tb (fun p14 => ?_))
      refine WpL.o (O.stA tb ?_)
      apply WpL.nil
      apply Out.seqN
      apply Wp.seq
      rotate_left
      (try simp only [decide_eq_true_eq, decide_eq_false_iff_not, Bool.not_eq_true', Bool.not_eq_false', Bool.not_eq_true, Bool.not_eq_false, not_true_eq_false, not_false_eq_true, reduceCtorEq] at hb0)
      (exfalso; omega)
      by_cases hc : s.Late = false ∧ s.Msg.Kind = 5
      · obtain ⟨hl, h5⟩ := hc
        have e5 : cmpI .eql s.Msg.Kind 5 = some true := by simp [cmpI, h5]
        apply Wp.seq
        apply Wp.region
        refine WpL.v (V.fa tb) ?_
        refine WpL.v (V.ld1 tb (v := B false) (hr := by rw [← hl]; rfl)) ?_
        refine WpL.v (V.not) ?_
        refine WpL.v (V.mv) ?_
        refine WpL.v (V.fa tb) ?_
        refine WpL.v (V.ld1 tb) ?_
        refine WpL.v (V.cmp rfl rfl e5) ?_
        refine WpL.v (V.pT) ?_
        apply WpL.nil
        apply Out.seqN
        refine Wp.cT ?_
        apply Wp.seq
        apply Wp.region
        refine WpL.v (V.as) ?_
        apply WpL.nil
        apply Out.seqN
        apply Wp.ret
        apply Out.seqR
        apply Out.blockR
        apply Out.seqR
        apply Out.seqR
        apply Out.blockR
        apply Out.seqR
        refine Out.f1 rfl ResIs.t ⟨?_, rfl⟩
        exact rfl
      obtain ⟨y, mv, ph, oh, ss2, re2, hy, hk2, ht, hq2, hph, hoh, g1, g1n, g2, g2n⟩ := step_q (by omega) hk hq s.Late s.Msg hc
      refine Wp.mtI [14, 13, 39, 38, 37, 11, 10, 9, 8, 7, 5, 2] (fun _ : Unit => True) (fun _ => []) (fun _ => []) (σ1 := []) ?_ ?_
      · intro K2 hK2
        cases hl : s.Late with
        | true =>
          apply Wp.seq
          apply Wp.region
          refine WpL.v (V.fa tb) ?_
          refine WpL.v (V.ld1 tb (v := B true) (hr := by rw [← hl]; rfl)) ?_
          refine WpL.v (V.not) ?_
          refine WpL.v (V.mv) ?_
          refine WpL.sk ?_
          refine WpL.sk ?_
          refine WpL.sk ?_
          refine WpL.v (V.pF) ?_
          apply WpL.nil
          apply Out.seqN
          refine Wp.cF ?_
          apply Wp.skip
          exact Out.ag hK2 () trivial trivial
        | false =>
          have e5 : cmpI .eql s.Msg.Kind 5 = some false := by
            have : ¬ s.Msg.Kind = 5 := fun h => hc ⟨hl, h⟩
            simp [cmpI, this]
          apply Wp.seq
          apply Wp.region
          refine WpL.v (V.fa tb) ?_
          refine WpL.v (V.ld1 tb (v := B false) (hr := by rw [← hl]; rfl)) ?_
          refine WpL.v (V.not) ?_
          refine WpL.v (V.mv) ?_
          refine WpL.v (V.fa tb) ?_
          refine WpL.v (V.ld1 tb) ?_
          refine WpL.v (V.cmp rfl rfl e5) ?_
          refine WpL.v (V.pT) ?_
          apply WpL.nil
          apply Out.seqN
          refine Wp.cF ?_
          apply Wp.skip
          exact Out.ag hK2 () trivial trivial
      rintro ⟨⟩ -
      dsimp only [List.cons_append, List.nil_append]
      have hP := lead_phase q29 x
      apply Wp.seq
      apply Wp.region
      refine WpL.v (V.mv) ?_
      refine WpL.o (Op1.callT rfl (hP) (by (repeat (first | exact Sel.nil | exact Rem.here | apply Sel.cons | apply Rem.there))) ?_)
      rintro v0 s1 ⟨rfl, rfl⟩
      refine incat ?_
      refine WpL.v (V.as) ?_
      apply WpL.nil
      apply Out.seqN
      refine Wp.mt [15, 14, 13, 39, 38, 37, 11, 10, 9, 8, 7, 5, 2] (fun _ : Unit => True) (fun _ => [(16, B (decide (Own c s.Msg)))]) (fun _ => []) (σ1 := []) ?_ ?_
      · intro K2 hK2
        apply Wp.region
        refine WpL.v (V.fa tb) ?_
        refine WpL.v (V.ldA tb) ?_
        refine WpL.v (V.fa tb) ?_
        refine WpL.v (V.ldA tb) ?_
        refine WpL.v (V.eq (TItem.eqT _ _ _)) ?_
        refine WpL.v (V.mv) ?_
        refine WpL.pt (fun hh0 => ?_) (fun hh0 => ?_)
        (try simp only [decide_eq_true_eq, decide_eq_false_iff_not, Bool.not_eq_true', Bool.not_eq_false', Bool.not_eq_true, Bool.not_eq_false, not_true_eq_false, not_false_eq_true, reduceCtorEq] at hh0)
        refine WpL.v (V.fa tb) ?_
        refine WpL.v (V.ld1 tb) ?_
        refine WpL.v (V.fa tb) ?_
        refine WpL.v (V.ld1 tb) ?_
        refine WpL.v (V.cmp) ?_
        refine WpL.v (V.pT) ?_
        refine WpL.v (V.mv) ?_
        refine WpL.pt (fun hh1 => ?_) (fun hh1 => ?_)
        (try simp only [decide_eq_true_eq, decide_eq_false_iff_not, Bool.not_eq_true', Bool.not_eq_false', Bool.not_eq_true, Bool.not_eq_false, not_true_eq_false, not_false_eq_true, reduceCtorEq] at hh1)
        refine WpL.v (V.fa tb) ?_
        refine WpL.v (V.ldA tb) ?_
        refine WpL.v (V.fa tb) ?_
        refine WpL.v (V.ldA tb) ?_
        refine WpL.v (V.eq (TBallot.eqT _ _ _)) ?_
        refine WpL.v (V.pT) ?_
        refine WpL.v (V.mv) ?_
        refine WpL.pt (fun hh2 => ?_) (fun hh2 => ?_)
        (try simp only [decide_eq_true_eq, decide_eq_false_iff_not, Bool.not_eq_true', Bool.not_eq_false', Bool.not_eq_true, Bool.not_eq_false, not_true_eq_false, not_false_eq_true, reduceCtorEq] at hh2)
        refine WpL.v (V.fa tb) ?_
        refine WpL.v (V.ld1 tb) ?_
        refine WpL.v (V.cmp) ?_
        refine WpL.v (V.pT) ?_
        refine WpL.v (V.mv) ?_
        refine WpL.pt (fun hh3 => ?_) (fun hh3 => ?_)
        (try simp only [decide_eq_true_eq, decide_eq_false_iff_not, Bool.not_eq_true', Bool.not_eq_false', Bool.not_eq_true, Bool.not_eq_false, not_true_eq_false, not_false_eq_true, reduceCtorEq] at hh3)
        refine WpL.v (V.fa tb) ?_
        refine WpL.v (V.ld1 tb) ?_
        refine WpL.v (V.fa tb) ?_
        refine WpL.v (V.ld1 tb) ?_
        refine WpL.v (V.cmp) ?_
        refine WpL.v (V.pT) ?_
        refine WpL.v (V.as) ?_
        apply WpL.nil
        rotate_left
        (try simp only [decide_eq_true_eq, decide_eq_false_iff_not, Bool.not_eq_true', Bool.not_eq_false', Bool.not_eq_true, Bool.not_eq_false, not_true_eq_false, not_false_eq_true, reduceCtorEq] at hh3)
        refine WpL.sk ?_
        refine WpL.sk ?_
        refine WpL.sk ?_
        refine WpL.sk ?_
        refine WpL.sk ?_
        refine WpL.v (V.pF) ?_
        refine WpL.v (V.as) ?_
        apply WpL.nil
        rotate_left
        (try simp only [decide_eq_true_eq, decide_eq_false_iff_not, Bool.not_eq_true', Bool.not_eq_false', Bool.not_eq_true, Bool.not_eq_false, not_true_eq_false, not_false_eq_true, reduceCtorEq] at hh2)
        refine WpL.sk ?_
        refine WpL.sk ?_
        refine WpL.sk ?_
        refine WpL.v (V.pF) ?_
        refine WpL.v (V.mv) ?_
        refine WpL.sk ?_
        refine WpL.sk ?_
        refine WpL.sk ?_
        refine WpL.sk ?_
        refine WpL.sk ?_
        refine WpL.v (V.pF) ?_
        refine WpL.v (V.as) ?_
        apply WpL.nil
        rotate_left
        (try simp only [decide_eq_true_eq, decide_eq_false_iff_not, Bool.not_eq_true', Bool.not_eq_false', Bool.not_eq_true, Bool.not_eq_false, not_true_eq_false, not_false_eq_true, reduceCtorEq] at hh1)
        refine WpL.sk ?_
        refine WpL.sk ?_
        refine WpL.sk ?_
        refine WpL.sk ?_
        refine WpL.sk ?_
        refine WpL.v (V.pF) ?_
        refine WpL.v (V.mv) ?_
        refine WpL.sk ?_
        refine WpL.sk ?_
        refine WpL.sk ?_
        refine WpL.v (V.pF) ?_
        refine WpL.v (V.mv) ?_
        refine WpL.sk ?_
        refine WpL.sk ?_
        refine WpL.sk ?_
        refine WpL.sk ?_
        refine WpL.sk ?_
        refine WpL.v (V.pF) ?_
        refine WpL.v (V.as) ?_
        apply WpL.nil
        rotate_left
        (try simp only [decide_eq_true_eq, decide_eq_false_iff_not, Bool.not_eq_true', Bool.not_eq_false', Bool.not_eq_true, Bool.not_eq_false, not_true_eq_false, not_false_eq_true, reduceCtorEq] at hh0)
        refine WpL.sk ?_
        refine WpL.sk ?_
        refine WpL.sk ?_
        refine WpL.sk ?_
        refine WpL.sk ?_
        refine WpL.v (V.pF) ?_
        refine WpL.v (V.mv) ?_
        refine WpL.sk ?_
        refine WpL.sk ?_
        refine WpL.sk ?_
        refine WpL.sk ?_
        refine WpL.sk ?_
        refine WpL.v (V.pF) ?_
        refine WpL.v (V.mv) ?_
        refine WpL.sk ?_
        refine WpL.sk ?_
        refine WpL.sk ?_
        refine WpL.v (V.pF) ?_
        refine WpL.v (V.mv) ?_
        refine WpL.sk ?_
        refine WpL.sk ?_
        refine WpL.sk ?_
        refine WpL.sk ?_
        refine WpL.sk ?_
        refine WpL.v (V.pF) ?_
        refine WpL.v (V.as) ?_
        apply WpL.nil
        rotate_left
        all_goals exact Out.ag hK2 () trivial trivial (he := subEnv.cons rfl (by congr 1; simp [Own, *]) (by (repeat (first | exact subEnv.nil | refine subEnv.cons rfl rfl ?_))))
      rintro ⟨⟩ -
      dsimp only [List.cons_append, List.nil_append]
      generalize hown : decide (Own c s.Msg) = own
      apply Wp.seq
      have hJ := ref_join re.Deps s.Msg.Call.Deps
      have wph := hk.wf.ph
      have woh := hk.wf.oh
      have wsl := hq.sl
      refine Wp.mtI [16, 15, 14, 13, 39, 38, 37, 11, 10, 9, 8, 7, 5, 2] (fun _ : Unit => True) (fun _ => []) (fun _ => [cells p8 55 (bC ph), cells p9 55 (bC ss2), cells p11 33 re2.c]) (σ1 := [cells p8 55 (bC x.ph), cells p9 55 (bC ss), cells p11 33 re.c]) ?_ ?_
      · intro K2 hK2
        by_cases hg : s.Late = false ∧ G1 c x s.Msg
        · obtain ⟨rfl, rfl, rfl⟩ := g1 hg
          obtain ⟨hl, ho, hp, hkd, hp0⟩ := hg
          obtain rfl : own = true := by rw [← hown]; exact decide_eq_true ho
          have hr1 := ho.2.2.2.1
          have hr2 := ho.2.2.2.2
          have e1 : cmpI .eql x.phase 1 = some true := by simp [cmpI, hp]
          have e2 : cmpI .eql s.Msg.Kind 2 = some true := by simp [cmpI, hkd]
          have hfi : s.Msg.From = ((s.Msg.From.toNat : Nat) : Int) := by omega
          have hpf : x.ph[s.Msg.From.toNat]? = some false := by
            obtain ⟨v, hv⟩ := getS (xs := x.ph) (k := s.Msg.From.toNat) (by omega)
            rw [List.getD, hv] at hp0
            rw [hv, show v = false from hp0]
          apply Wp.seq
          apply Wp.region
          refine WpL.v (V.fa tb) ?_
          refine WpL.v (V.ld1 tb (v := B false) (hr := by rw [← hl]; rfl)) ?_
          refine WpL.v (V.not) ?_
          refine WpL.v (V.mv) ?_
          refine WpL.v (V.mv) ?_
          refine WpL.v (V.pT) ?_
          refine WpL.v (V.mv) ?_
          refine WpL.v (V.mv) ?_
          refine WpL.v (V.cmp rfl rfl e1) ?_
          refine WpL.v (V.pT) ?_
          refine WpL.v (V.mv) ?_
          refine WpL.v (V.fa tb) ?_
          refine WpL.v (V.ld1 tb) ?_
          refine WpL.v (V.cmp rfl rfl e2) ?_
          refine WpL.v (V.pT) ?_
          refine WpL.v (V.mv) ?_
          refine WpL.v (V.fa tb) ?_
          refine WpL.v (V.ld1 tb) ?_
          refine WpL.v (V.ixA2 tb (k := s.Msg.From.toNat) rfl rfl hfi) ?_
          refine WpL.v (V.ld1 tb (hr := bC_get hpf)) ?_
          refine WpL.v (V.not) ?_
          refine WpL.v (V.pT) ?_
          apply WpL.nil
          apply Out.seqN
          refine Wp.cT ?_
          apply Wp.seq
          apply Wp.region
          refine WpL.v (V.fa tb) ?_
          refine WpL.v (V.ld1 tb) ?_
          refine WpL.v (V.ixA2 tb (k := s.Msg.From.toNat) rfl rfl hfi) ?_
          refine WpL.o (O.st1 tb ?_ (hl := bC_blt (by omega)) (hs := bC_set (by omega)))
          apply WpL.nil
          apply Out.seqN
          apply Wp.seq
          apply Wp.region
          refine WpL.v (V.fa tb) ?_
          refine WpL.v (V.ld1 tb) ?_
          refine WpL.v (V.fa tb) ?_
          refine WpL.v (V.ld1 tb) ?_
          refine WpL.v (V.ixA2 tb (k := s.Msg.From.toNat) rfl rfl hfi) ?_
          refine WpL.o (O.st1 tb ?_ (hl := bC_blt (by omega)) (hs := bC_set (by omega)))
          apply WpL.nil
          apply Out.seqN
          apply Wp.region
          refine WpL.v (V.fa tb) ?_
          refine WpL.v (V.ldA tb) ?_
          refine WpL.v (V.fa tb) ?_
          refine WpL.v (V.fa tb) ?_
          refine WpL.v (V.ldA tb) ?_
          refine WpL.o (Op1.fn rfl (hJ) ?_)
          refine WpL.v (V.fa tb) ?_
          refine WpL.o (O.stA tb ?_)
          apply WpL.nil
          exact Out.ag hK2 () trivial trivial
        · obtain ⟨rfl, rfl, rfl⟩ := g1n hg
          cases hl : s.Late with
          | true =>
            apply Wp.seq
            apply Wp.region
            refine WpL.v (V.fa tb) ?_
            refine WpL.v (V.ld1 tb (v := B true) (hr := by rw [← hl]; rfl)) ?_
            refine WpL.v (V.not) ?_
            refine WpL.v (V.mv) ?_
            refine WpL.sk ?_
            refine WpL.v (V.pF) ?_
            refine WpL.v (V.mv) ?_
            refine WpL.sk ?_
            refine WpL.sk ?_
            refine WpL.v (V.pF) ?_
            refine WpL.v (V.mv) ?_
            refine WpL.sk ?_
            refine WpL.sk ?_
            refine WpL.sk ?_
            refine WpL.v (V.pF) ?_
            refine WpL.v (V.mv) ?_
            refine WpL.sk ?_
            refine WpL.sk ?_
            refine WpL.sk ?_
            refine WpL.sk ?_
            refine WpL.sk ?_
            refine WpL.v (V.pF) ?_
            apply WpL.nil
            apply Out.seqN
            refine Wp.cF ?_
            apply Wp.skip
            exact Out.ag hK2 () trivial trivial
          | false =>
            by_cases ho : Own c s.Msg
            · obtain rfl : own = true := by rw [← hown]; exact decide_eq_true ho
              by_cases hp : x.phase = 1
              · have e1 : cmpI .eql x.phase 1 = some true := by simp [cmpI, hp]
                by_cases hkd : s.Msg.Kind = 2
                · have e2 : cmpI .eql s.Msg.Kind 2 = some true := by simp [cmpI, hkd]
                  have hr1 := ho.2.2.2.1
                  have hr2 := ho.2.2.2.2
                  have hfi : s.Msg.From = ((s.Msg.From.toNat : Nat) : Int) := by omega
                  have hpf : x.ph[s.Msg.From.toNat]? = some true := by
                    obtain ⟨v, hv⟩ := getS (xs := x.ph) (k := s.Msg.From.toNat) (by omega)
                    cases v with
                    | true => exact hv
                    | false => exact absurd ⟨hl, ho, hp, hkd, by rw [List.getD, hv]; rfl⟩ hg
                  apply Wp.seq
                  apply Wp.region
                  refine WpL.v (V.fa tb) ?_
                  refine WpL.v (V.ld1 tb (v := B false) (hr := by rw [← hl]; rfl)) ?_
                  refine WpL.v (V.not) ?_
                  refine WpL.v (V.mv) ?_
                  refine WpL.v (V.mv) ?_
                  refine WpL.v (V.pT) ?_
                  refine WpL.v (V.mv) ?_
                  refine WpL.v (V.mv) ?_
                  refine WpL.v (V.cmp rfl rfl e1) ?_
                  refine WpL.v (V.pT) ?_
                  refine WpL.v (V.mv) ?_
                  refine WpL.v (V.fa tb) ?_
                  refine WpL.v (V.ld1 tb) ?_
                  refine WpL.v (V.cmp rfl rfl e2) ?_
                  refine WpL.v (V.pT) ?_
                  refine WpL.v (V.mv) ?_
                  refine WpL.v (V.fa tb) ?_
                  refine WpL.v (V.ld1 tb) ?_
                  refine WpL.v (V.ixA2 tb (k := s.Msg.From.toNat) rfl rfl hfi) ?_
                  refine WpL.v (V.ld1 tb (hr := bC_get hpf)) ?_
                  refine WpL.v (V.not) ?_
                  refine WpL.v (V.pT) ?_
                  apply WpL.nil
                  apply Out.seqN
                  refine Wp.cF ?_
                  apply Wp.skip
                  exact Out.ag hK2 () trivial trivial
                · have e2 : cmpI .eql s.Msg.Kind 2 = some false := by simp [cmpI, hkd]
                  apply Wp.seq
                  apply Wp.region
                  refine WpL.v (V.fa tb) ?_
                  refine WpL.v (V.ld1 tb (v := B false) (hr := by rw [← hl]; rfl)) ?_
                  refine WpL.v (V.not) ?_
                  refine WpL.v (V.mv) ?_
                  refine WpL.v (V.mv) ?_
                  refine WpL.v (V.pT) ?_
                  refine WpL.v (V.mv) ?_
                  refine WpL.v (V.mv) ?_
                  refine WpL.v (V.cmp rfl rfl e1) ?_
                  refine WpL.v (V.pT) ?_
                  refine WpL.v (V.mv) ?_
                  refine WpL.v (V.fa tb) ?_
                  refine WpL.v (V.ld1 tb) ?_
                  refine WpL.v (V.cmp rfl rfl e2) ?_
                  refine WpL.v (V.pT) ?_
                  refine WpL.v (V.mv) ?_
                  refine WpL.sk ?_
                  refine WpL.sk ?_
                  refine WpL.sk ?_
                  refine WpL.sk ?_
                  refine WpL.sk ?_
                  refine WpL.v (V.pF) ?_
                  apply WpL.nil
                  apply Out.seqN
                  refine Wp.cF ?_
                  apply Wp.skip
                  exact Out.ag hK2 () trivial trivial
              · have e1 : cmpI .eql x.phase 1 = some false := by simp [cmpI, hp]
                apply Wp.seq
                apply Wp.region
                refine WpL.v (V.fa tb) ?_
                refine WpL.v (V.ld1 tb (v := B false) (hr := by rw [← hl]; rfl)) ?_
                refine WpL.v (V.not) ?_
                refine WpL.v (V.mv) ?_
                refine WpL.v (V.mv) ?_
                refine WpL.v (V.pT) ?_
                refine WpL.v (V.mv) ?_
                refine WpL.v (V.mv) ?_
                refine WpL.v (V.cmp rfl rfl e1) ?_
                refine WpL.v (V.pT) ?_
                refine WpL.v (V.mv) ?_
                refine WpL.sk ?_
                refine WpL.sk ?_
                refine WpL.sk ?_
                refine WpL.v (V.pF) ?_
                refine WpL.v (V.mv) ?_
                refine WpL.sk ?_
                refine WpL.sk ?_
                refine WpL.sk ?_
                refine WpL.sk ?_
                refine WpL.sk ?_
                refine WpL.v (V.pF) ?_
                apply WpL.nil
                apply Out.seqN
                refine Wp.cF ?_
                apply Wp.skip
                exact Out.ag hK2 () trivial trivial
            · obtain rfl : own = false := by rw [← hown]; exact decide_eq_false ho
              apply Wp.seq
              apply Wp.region
              refine WpL.v (V.fa tb) ?_
              refine WpL.v (V.ld1 tb (v := B false) (hr := by rw [← hl]; rfl)) ?_
              refine WpL.v (V.not) ?_
              refine WpL.v (V.mv) ?_
              refine WpL.v (V.mv) ?_
              refine WpL.v (V.pT) ?_
              refine WpL.v (V.mv) ?_
              refine WpL.sk ?_
              refine WpL.sk ?_
              refine WpL.v (V.pF) ?_
              refine WpL.v (V.mv) ?_
              refine WpL.sk ?_
              refine WpL.sk ?_
              refine WpL.sk ?_
              refine WpL.v (V.pF) ?_
              refine WpL.v (V.mv) ?_
              refine WpL.sk ?_
              refine WpL.sk ?_
              refine WpL.sk ?_
              refine WpL.sk ?_
              refine WpL.sk ?_
              refine WpL.v (V.pF) ?_
              apply WpL.nil
              apply Out.seqN
              refine Wp.cF ?_
              apply Wp.skip
              exact Out.ag hK2 () trivial trivial
      rintro ⟨⟩ -
      dsimp only [List.cons_append, List.nil_append]
      apply Wp.seq
      refine Wp.mtI [16, 15, 14, 13, 39, 38, 37, 11, 10, 9, 8, 7, 5, 2] (fun _ : Unit => True) (fun _ => []) (fun _ => [cells p10 55 (bC oh)]) (σ1 := [cells p10 55 (bC x.oh)]) ?_ ?_
      · intro K2 hK2
        by_cases hg : s.Late = false ∧ G2 c x s.Msg
        · obtain rfl := g2 hg
          obtain ⟨hl, ho, hp, hkd⟩ := hg
          obtain rfl : own = true := by rw [← hown]; exact decide_eq_true ho
          have hr1 := ho.2.2.2.1
          have hr2 := ho.2.2.2.2
          have e1 : cmpI .eql x.phase 2 = some true := by simp [cmpI, hp]
          have e2 : cmpI .eql s.Msg.Kind 4 = some true := by simp [cmpI, hkd]
          have hfi : s.Msg.From = ((s.Msg.From.toNat : Nat) : Int) := by omega
          apply Wp.seq
          apply Wp.region
          refine WpL.v (V.fa tb) ?_
          refine WpL.v (V.ld1 tb (v := B false) (hr := by rw [← hl]; rfl)) ?_
          refine WpL.v (V.not) ?_
          refine WpL.v (V.mv) ?_
          refine WpL.v (V.mv) ?_
          refine WpL.v (V.pT) ?_
          refine WpL.v (V.mv) ?_
          refine WpL.v (V.mv) ?_
          refine WpL.v (V.cmp rfl rfl e1) ?_
          refine WpL.v (V.pT) ?_
          refine WpL.v (V.mv) ?_
          refine WpL.v (V.fa tb) ?_
          refine WpL.v (V.ld1 tb) ?_
          refine WpL.v (V.cmp rfl rfl e2) ?_
          refine WpL.v (V.pT) ?_
          apply WpL.nil
          apply Out.seqN
          refine Wp.cT ?_
          apply Wp.region
          refine WpL.v (V.fa tb) ?_
          refine WpL.v (V.ld1 tb) ?_
          refine WpL.v (V.ixA2 tb (k := s.Msg.From.toNat) rfl rfl hfi) ?_
          refine WpL.o (O.st1 tb ?_ (hl := bC_blt (by omega)) (hs := bC_set (by omega)))
          apply WpL.nil
          exact Out.ag hK2 () trivial trivial
        · obtain rfl := g2n hg
          cases hl : s.Late with
          | true =>
            apply Wp.seq
            apply Wp.region
            refine WpL.v (V.fa tb) ?_
            refine WpL.v (V.ld1 tb (v := B true) (hr := by rw [← hl]; rfl)) ?_
            refine WpL.v (V.not) ?_
            refine WpL.v (V.mv) ?_
            refine WpL.sk ?_
            refine WpL.v (V.pF) ?_
            refine WpL.v (V.mv) ?_
            refine WpL.sk ?_
            refine WpL.sk ?_
            refine WpL.v (V.pF) ?_
            refine WpL.v (V.mv) ?_
            refine WpL.sk ?_
            refine WpL.sk ?_
            refine WpL.sk ?_
            refine WpL.v (V.pF) ?_
            apply WpL.nil
            apply Out.seqN
            refine Wp.cF ?_
            apply Wp.skip
            exact Out.ag hK2 () trivial trivial
          | false =>
            by_cases ho : Own c s.Msg
            · obtain rfl : own = true := by rw [← hown]; exact decide_eq_true ho
              by_cases hp : x.phase = 2
              · have e1 : cmpI .eql x.phase 2 = some true := by simp [cmpI, hp]
                have hkd : ¬ s.Msg.Kind = 4 := fun h => hg ⟨hl, ho, hp, h⟩
                have e2 : cmpI .eql s.Msg.Kind 4 = some false := by simp [cmpI, hkd]
                apply Wp.seq
                apply Wp.region
                refine WpL.v (V.fa tb) ?_
                refine WpL.v (V.ld1 tb (v := B false) (hr := by rw [← hl]; rfl)) ?_
                refine WpL.v (V.not) ?_
                refine WpL.v (V.mv) ?_
                refine WpL.v (V.mv) ?_
                refine WpL.v (V.pT) ?_
                refine WpL.v (V.mv) ?_
                refine WpL.v (V.mv) ?_
                refine WpL.v (V.cmp rfl rfl e1) ?_
                refine WpL.v (V.pT) ?_
                refine WpL.v (V.mv) ?_
                refine WpL.v (V.fa tb) ?_
                refine WpL.v (V.ld1 tb) ?_
                refine WpL.v (V.cmp rfl rfl e2) ?_
                refine WpL.v (V.pT) ?_
                apply WpL.nil
                apply Out.seqN
                refine Wp.cF ?_
                apply Wp.skip
                exact Out.ag hK2 () trivial trivial
              · have e1 : cmpI .eql x.phase 2 = some false := by simp [cmpI, hp]
                apply Wp.seq
                apply Wp.region
                refine WpL.v (V.fa tb) ?_
                refine WpL.v (V.ld1 tb (v := B false) (hr := by rw [← hl]; rfl)) ?_
                refine WpL.v (V.not) ?_
                refine WpL.v (V.mv) ?_
                refine WpL.v (V.mv) ?_
                refine WpL.v (V.pT) ?_
                refine WpL.v (V.mv) ?_
                refine WpL.v (V.mv) ?_
                refine WpL.v (V.cmp rfl rfl e1) ?_
                refine WpL.v (V.pT) ?_
                refine WpL.v (V.mv) ?_
                refine WpL.sk ?_
                refine WpL.sk ?_
                refine WpL.sk ?_
                refine WpL.v (V.pF) ?_
                apply WpL.nil
                apply Out.seqN
                refine Wp.cF ?_
                apply Wp.skip
                exact Out.ag hK2 () trivial trivial
            · obtain rfl : own = false := by rw [← hown]; exact decide_eq_false ho
              apply Wp.seq
              apply Wp.region
              refine WpL.v (V.fa tb) ?_
              refine WpL.v (V.ld1 tb (v := B false) (hr := by rw [← hl]; rfl)) ?_
              refine WpL.v (V.not) ?_
              refine WpL.v (V.mv) ?_
              refine WpL.v (V.mv) ?_
              refine WpL.v (V.pT) ?_
              refine WpL.v (V.mv) ?_
              refine WpL.sk ?_
              refine WpL.sk ?_
              refine WpL.v (V.pF) ?_
              refine WpL.v (V.mv) ?_
              refine WpL.sk ?_
              refine WpL.sk ?_
              refine WpL.sk ?_
              refine WpL.v (V.pF) ?_
              apply WpL.nil
              apply Out.seqN
              refine Wp.cF ?_
              apply Wp.skip
              exact Out.ag hK2 () trivial trivial
      rintro ⟨⟩ -
      dsimp only [List.cons_append, List.nil_append]
      apply Wp.seq
      apply Wp.region
      refine WpL.v (V.as) ?_
      apply WpL.nil
      apply Out.seqN
      apply Wp.seq
      refine Wp.mtI [15, 39, 38, 37, 11, 10, 9, 8, 7, 5, 2] (fun _ : Unit => True) (fun _ => [(17, B mv)]) (fun _ => [cells q29 142 y.c]) (σ1 := [cells q29 142 x.c]) ?_ ?_
      · intro K2 hK2
        cases hl : s.Late with
        | true =>
          rw [hl, if_pos rfl] at hy
          obtain ⟨rfl, rfl⟩ := hy
          have hL := lead_late q29 x hk.wf (by have := hk.n; omega)
          apply Wp.seq
          apply Wp.region
          refine WpL.v (V.fa tb) ?_
          refine WpL.v (V.ld1 tb (v := B true) (hr := by rw [← hl]; rfl)) ?_
          apply WpL.nil
          apply Out.seqN
          refine Wp.cT ?_
          apply Wp.region
          refine WpL.v (V.mv) ?_
          refine WpL.o (Op1.callT rfl (hL) (by (repeat (first | exact Sel.nil | exact Rem.here | apply Sel.cons | apply Rem.there))) ?_)
          rintro v0 s1 ⟨rfl, rfl⟩
          refine incat ?_
          refine WpL.v (V.as) ?_
          apply WpL.nil
          exact Out.ag hK2 () trivial trivial
        | false =>
          rw [hl, if_neg (by simp)] at hy
          obtain ⟨rfl, rfl⟩ := hy
          have hH := lead_hear q29 x hk.wf s.Msg (by have := hk.n; omega)
          apply Wp.seq
          apply Wp.region
          refine WpL.v (V.fa tb) ?_
          refine WpL.v (V.ld1 tb (v := B false) (hr := by rw [← hl]; rfl)) ?_
          apply WpL.nil
          apply Out.seqN
          refine Wp.cF ?_
          apply Wp.region
          refine WpL.v (V.mv) ?_
          refine WpL.v (V.ldA tb) ?_
          refine WpL.o (Op1.callT rfl (hH) (by (repeat (first | exact Sel.nil | exact Rem.here | apply Sel.cons | apply Rem.there))) ?_)
          rintro v0 s1 ⟨rfl, rfl⟩
          refine incat ?_
          refine WpL.v (V.as) ?_
          apply WpL.nil
          exact Out.ag hK2 () trivial trivial
      rintro ⟨⟩ -
      dsimp only [List.cons_append, List.nil_append]
      have hP2 := lead_phase q29 y
      have hmv := ht.mv
      have hbb : (!(mv == !decide (y.phase = x.phase))) = false := by rw [hmv]; cases decide (y.phase = x.phase) <;> rfl
      apply Wp.seq
      apply Wp.seq
      apply Wp.region
      refine WpL.v (V.mv) ?_
      refine WpL.v (V.mv) ?_
      refine WpL.o (Op1.callT rfl (hP2) (by (repeat (first | exact Sel.nil | exact Rem.here | apply Sel.cons | apply Rem.there))) ?_)
      rintro v0 s1 ⟨rfl, rfl⟩
      refine incat ?_
      refine WpL.v (V.mv) ?_
      refine WpL.v (V.cmp) ?_
      refine WpL.v (V.neB tb) ?_
      apply WpL.nil
      apply Out.seqN
      refine Wp.c (fun hqq2 => ?_) (fun hqq2 => ?_)
      (try simp only [decide_eq_true_eq, decide_eq_false_iff_not, Bool.not_eq_true', Bool.not_eq_false', Bool.not_eq_true, Bool.not_eq_false, not_true_eq_false, not_false_eq_true, reduceCtorEq] at hqq2)
      apply Wp.seq
      apply Wp.region
      refine WpL.v (V.as) ?_
      apply WpL.nil
      apply Out.seqN
      apply Wp.ret
      apply Out.seqR
      apply Out.blockR
      apply Out.seqR
      apply Out.seqR
      apply Out.blockR
      apply Out.seqR
      refine Out.f1 rfl ResIs.t ⟨?_, rfl⟩
      rotate_left
      (try simp only [decide_eq_true_eq, decide_eq_false_iff_not, Bool.not_eq_true', Bool.not_eq_false', Bool.not_eq_true, Bool.not_eq_false, not_true_eq_false, not_false_eq_true, reduceCtorEq] at hqq2)
      apply Wp.skip
      apply Out.seqN
      apply Wp.seq
      apply Wp.region
      refine WpL.v (V.as) ?_
      refine WpL.v (V.as) ?_
      refine WpL.v (V.as) ?_
      apply WpL.nil
      apply Out.seqN
      apply Wp.seq
      apply Wp.seq
      apply Wp.region
      refine WpL.v (V.mv) ?_
      apply WpL.nil
      apply Out.seqN
      apply Wp.block
      rotate_left
      · exfalso
        rw [hmv] at hqq2
        simp at hqq2
      subst hph hoh
      have wph2 := hk2.wf.ph
      have woh2 := hk2.wf.oh
      have wsl2 := hq2.sl
      refine Wp.lp [15, 39, 38, 37, 11, 10, 9, 8, 7, 5, 2] (fun k : Nat => k ≤ 7) (fun k => [(154, I (k : Int)), (20, I (((y.oh.take k).count true : Nat) : Int)), (19, I (((ss2.take k).count true : Nat) : Int)), (18, I (((y.ph.take k).count true : Nat) : Int))]) (fun _ => []) (fun k => 7 - k) 0 (Nat.zero_le _) ?_
      intro k hkn K2 hK2
      dsimp only [List.cons_append, List.nil_append]
      by_cases hk7 : k < 7
      · obtain ⟨b1, hb1⟩ := getS (xs := y.ph) (k := k) (by omega)
        obtain ⟨b2, hb2⟩ := getS (xs := ss2) (k := k) (by omega)
        obtain ⟨b3, hb3⟩ := getS (xs := y.oh) (k := k) (by omega)
        have c1 := cnt_snoc hb1
        have c2 := cnt_snoc hb2
        have c3 := cnt_snoc hb3
        have m1 := cnt_le y.ph k
        have m2 := cnt_le ss2 k
        have m3 := cnt_le y.oh k
        generalize (y.ph.take k).count true = n1 at *
        generalize (ss2.take k).count true = n2 at *
        generalize (y.oh.take k).count true = n3 at *
        rcases b1 with _ | _ <;> rcases b2 with _ | _ <;> rcases b3 with _ | _
        · rw [if_neg (by simp)] at c1; rw [if_neg (by simp)] at c2; rw [if_neg (by simp)] at c3
          apply Wp.seq
          apply Wp.region
          refine WpL.v (V.cmp) ?_
          apply WpL.nil
          apply Out.seqN
          apply Wp.seq
          refine Wp.c (fun h0 => ?_) (fun h0 => ?_)
          (try simp only [decide_eq_true_eq, decide_eq_false_iff_not, Bool.not_eq_true', Bool.not_eq_false', Bool.not_eq_true, Bool.not_eq_false, not_true_eq_false, not_false_eq_true, reduceCtorEq] at h0)
          apply Wp.skip
          apply Out.seqN
          apply Wp.seq
          apply Wp.block
          apply Wp.seq
          apply Wp.region
          refine WpL.v (V.mv) ?_
          refine WpL.v (V.as) ?_
          apply WpL.nil
          apply Out.seqN
          apply Wp.seq
          apply Wp.seq
          apply Wp.region
          refine WpL.v (V.mv) ?_
          refine WpL.v (V.ixA2 tb (k := k) rfl rfl rfl) ?_
          refine WpL.v (V.ld1 tb (hr := bC_get hb1)) ?_
          apply WpL.nil
          apply Out.seqN
          refine Wp.cF ?_
          apply Wp.skip
          apply Out.seqN
          apply Wp.seq
          apply Wp.seq
          apply Wp.region
          refine WpL.v (V.mv) ?_
          refine WpL.v (V.ixA2 tb (k := k) rfl rfl rfl) ?_
          refine WpL.v (V.ld1 tb (hr := bC_get hb2)) ?_
          apply WpL.nil
          apply Out.seqN
          refine Wp.cF ?_
          apply Wp.skip
          apply Out.seqN
          apply Wp.seq
          apply Wp.region
          refine WpL.v (V.mv) ?_
          refine WpL.v (V.ixA2 tb (k := k) rfl rfl rfl) ?_
          refine WpL.v (V.ld1 tb (hr := bC_get hb3)) ?_
          apply WpL.nil
          apply Out.seqN
          refine Wp.cF ?_
          apply Wp.skip
          apply Out.blockN
          apply Out.seqN
          apply Wp.region
          refine WpL.v (V.add) ?_
          refine WpL.v (V.mv) ?_
          apply WpL.nil
          rotate_left
          (try simp only [decide_eq_true_eq, decide_eq_false_iff_not, Bool.not_eq_true', Bool.not_eq_false', Bool.not_eq_true, Bool.not_eq_false, not_true_eq_false, not_false_eq_true, reduceCtorEq] at h0)
          (exfalso; omega)
          exact Out.ag hK2 (k + 1) (by omega) (by show 7 - (k + 1) < 7 - k; omega) (he := subEnv.cons rfl rfl (subEnv.cons rfl (congrArg (fun z : Nat => I (z : Int)) c3.symm) (subEnv.cons rfl (congrArg (fun z : Nat => I (z : Int)) c2.symm) (subEnv.cons rfl (congrArg (fun z : Nat => I (z : Int)) c1.symm) (by (repeat (first | exact subEnv.nil | refine subEnv.cons rfl rfl ?_)))))))
        · rw [if_neg (by simp)] at c1; rw [if_neg (by simp)] at c2; rw [if_pos rfl] at c3
          apply Wp.seq
          apply Wp.region
          refine WpL.v (V.cmp) ?_
          apply WpL.nil
          apply Out.seqN
          apply Wp.seq
          refine Wp.c (fun h0 => ?_) (fun h0 => ?_)
          (try simp only [decide_eq_true_eq, decide_eq_false_iff_not, Bool.not_eq_true', Bool.not_eq_false', Bool.not_eq_true, Bool.not_eq_false, not_true_eq_false, not_false_eq_true, reduceCtorEq] at h0)
          apply Wp.skip
          apply Out.seqN
          apply Wp.seq
          apply Wp.block
          apply Wp.seq
          apply Wp.region
          refine WpL.v (V.mv) ?_
          refine WpL.v (V.as) ?_
          apply WpL.nil
          apply Out.seqN
          apply Wp.seq
          apply Wp.seq
          apply Wp.region
          refine WpL.v (V.mv) ?_
          refine WpL.v (V.ixA2 tb (k := k) rfl rfl rfl) ?_
          refine WpL.v (V.ld1 tb (hr := bC_get hb1)) ?_
          apply WpL.nil
          apply Out.seqN
          refine Wp.cF ?_
          apply Wp.skip
          apply Out.seqN
          apply Wp.seq
          apply Wp.seq
          apply Wp.region
          refine WpL.v (V.mv) ?_
          refine WpL.v (V.ixA2 tb (k := k) rfl rfl rfl) ?_
          refine WpL.v (V.ld1 tb (hr := bC_get hb2)) ?_
          apply WpL.nil
          apply Out.seqN
          refine Wp.cF ?_
          apply Wp.skip
          apply Out.seqN
          apply Wp.seq
          apply Wp.region
          refine WpL.v (V.mv) ?_
          refine WpL.v (V.ixA2 tb (k := k) rfl rfl rfl) ?_
          refine WpL.v (V.ld1 tb (hr := bC_get hb3)) ?_
          apply WpL.nil
          apply Out.seqN
          refine Wp.cT ?_
          apply Wp.region
          refine WpL.v (V.mv) ?_
          refine WpL.v (V.add) ?_
          refine WpL.v (V.as) ?_
          apply WpL.nil
          apply Out.blockN
          apply Out.seqN
          apply Wp.region
          refine WpL.v (V.add) ?_
          refine WpL.v (V.mv) ?_
          apply WpL.nil
          rotate_left
          (try simp only [decide_eq_true_eq, decide_eq_false_iff_not, Bool.not_eq_true', Bool.not_eq_false', Bool.not_eq_true, Bool.not_eq_false, not_true_eq_false, not_false_eq_true, reduceCtorEq] at h0)
          (exfalso; omega)
          exact Out.ag hK2 (k + 1) (by omega) (by show 7 - (k + 1) < 7 - k; omega) (he := subEnv.cons rfl rfl (subEnv.cons rfl (congrArg (fun z : Nat => I (z : Int)) c3.symm) (subEnv.cons rfl (congrArg (fun z : Nat => I (z : Int)) c2.symm) (subEnv.cons rfl (congrArg (fun z : Nat => I (z : Int)) c1.symm) (by (repeat (first | exact subEnv.nil | refine subEnv.cons rfl rfl ?_)))))))
        · rw [if_neg (by simp)] at c1; rw [if_pos rfl] at c2; rw [if_neg (by simp)] at c3
          apply Wp.seq
          apply Wp.region
          refine WpL.v (V.cmp) ?_
          apply WpL.nil
          apply Out.seqN
          apply Wp.seq
          refine Wp.c (fun h0 => ?_) (fun h0 => ?_)
          (try simp only [decide_eq_true_eq, decide_eq_false_iff_not, Bool.not_eq_true', Bool.not_eq_false', Bool.not_eq_true, Bool.not_eq_false, not_true_eq_false, not_false_eq_true, reduceCtorEq] at h0)
          apply Wp.skip
          apply Out.seqN
          apply Wp.seq
          apply Wp.block
          apply Wp.seq
          apply Wp.region
          refine WpL.v (V.mv) ?_
          refine WpL.v (V.as) ?_
          apply WpL.nil
          apply Out.seqN
          apply Wp.seq
          apply Wp.seq
          apply Wp.region
          refine WpL.v (V.mv) ?_
          refine WpL.v (V.ixA2 tb (k := k) rfl rfl rfl) ?_
          refine WpL.v (V.ld1 tb (hr := bC_get hb1)) ?_
          apply WpL.nil
          apply Out.seqN
          refine Wp.cF ?_
          apply Wp.skip
          apply Out.seqN
          apply Wp.seq
          apply Wp.seq
          apply Wp.region
          refine WpL.v (V.mv) ?_
          refine WpL.v (V.ixA2 tb (k := k) rfl rfl rfl) ?_
          refine WpL.v (V.ld1 tb (hr := bC_get hb2)) ?_
          apply WpL.nil
          apply Out.seqN
          refine Wp.cT ?_
          apply Wp.region
          refine WpL.v (V.mv) ?_
          refine WpL.v (V.add) ?_
          refine WpL.v (V.as) ?_
          apply WpL.nil
          apply Out.seqN
          apply Wp.seq
          apply Wp.region
          refine WpL.v (V.mv) ?_
          refine WpL.v (V.ixA2 tb (k := k) rfl rfl rfl) ?_
          refine WpL.v (V.ld1 tb (hr := bC_get hb3)) ?_
          apply WpL.nil
          apply Out.seqN
          refine Wp.cF ?_
          apply Wp.skip
          apply Out.blockN
          apply Out.seqN
          apply Wp.region
          refine WpL.v (V.add) ?_
          refine WpL.v (V.mv) ?_
          apply WpL.nil
          rotate_left
          (try simp only [decide_eq_true_eq, decide_eq_false_iff_not, Bool.not_eq_true', Bool.not_eq_false', Bool.not_eq_true, Bool.not_eq_false, not_true_eq_false, not_false_eq_true, reduceCtorEq] at h0)
          (exfalso; omega)
          exact Out.ag hK2 (k + 1) (by omega) (by show 7 - (k + 1) < 7 - k; omega) (he := subEnv.cons rfl rfl (subEnv.cons rfl (congrArg (fun z : Nat => I (z : Int)) c3.symm) (subEnv.cons rfl (congrArg (fun z : Nat => I (z : Int)) c2.symm) (subEnv.cons rfl (congrArg (fun z : Nat => I (z : Int)) c1.symm) (by (repeat (first | exact subEnv.nil | refine subEnv.cons rfl rfl ?_)))))))
        · rw [if_neg (by simp)] at c1; rw [if_pos rfl] at c2; rw [if_pos rfl] at c3
          apply Wp.seq
          apply Wp.region
          refine WpL.v (V.cmp) ?_
          apply WpL.nil
          apply Out.seqN
          apply Wp.seq
          refine Wp.c (fun h0 => ?_) (fun h0 => ?_)
          (try simp only [decide_eq_true_eq, decide_eq_false_iff_not, Bool.not_eq_true', Bool.not_eq_false', Bool.not_eq_true, Bool.not_eq_false, not_true_eq_false, not_false_eq_true, reduceCtorEq] at h0)
          apply Wp.skip
          apply Out.seqN
          apply Wp.seq
          apply Wp.block
          apply Wp.seq
          apply Wp.region
          refine WpL.v (V.mv) ?_
          refine WpL.v (V.as) ?_
          apply WpL.nil
          apply Out.seqN
          apply Wp.seq
          apply Wp.seq
          apply Wp.region
          refine WpL.v (V.mv) ?_
          refine WpL.v (V.ixA2 tb (k := k) rfl rfl rfl) ?_
          refine WpL.v (V.ld1 tb (hr := bC_get hb1)) ?_
          apply WpL.nil
          apply Out.seqN
          refine Wp.cF ?_
          apply Wp.skip
          apply Out.seqN
          apply Wp.seq
          apply Wp.seq
          apply Wp.region
          refine WpL.v (V.mv) ?_
          refine WpL.v (V.ixA2 tb (k := k) rfl rfl rfl) ?_
          refine WpL.v (V.ld1 tb (hr := bC_get hb2)) ?_
          apply WpL.nil
          apply Out.seqN
          refine Wp.cT ?_
          apply Wp.region
          refine WpL.v (V.mv) ?_
          refine WpL.v (V.add) ?_
          refine WpL.v (V.as) ?_
          apply WpL.nil
          apply Out.seqN
          apply Wp.seq
          apply Wp.region
          refine WpL.v (V.mv) ?_
          refine WpL.v (V.ixA2 tb (k := k) rfl rfl rfl) ?_
          refine WpL.v (V.ld1 tb (hr := bC_get hb3)) ?_
          apply WpL.nil
          apply Out.seqN
          refine Wp.cT ?_
          apply Wp.region
          refine WpL.v (V.mv) ?_
          refine WpL.v (V.add) ?_
          refine WpL.v (V.as) ?_
          apply WpL.nil
          apply Out.blockN
          apply Out.seqN
          apply Wp.region
          refine WpL.v (V.add) ?_
          refine WpL.v (V.mv) ?_
          apply WpL.nil
          rotate_left
          (try simp only [decide_eq_true_eq, decide_eq_false_iff_not, Bool.not_eq_true', Bool.not_eq_false', Bool.not_eq_true, Bool.not_eq_false, not_true_eq_false, not_false_eq_true, reduceCtorEq] at h0)
          (exfalso; omega)
          exact Out.ag hK2 (k + 1) (by omega) (by show 7 - (k + 1) < 7 - k; omega) (he := subEnv.cons rfl rfl (subEnv.cons rfl (congrArg (fun z : Nat => I (z : Int)) c3.symm) (subEnv.cons rfl (congrArg (fun z : Nat => I (z : Int)) c2.symm) (subEnv.cons rfl (congrArg (fun z : Nat => I (z : Int)) c1.symm) (by (repeat (first | exact subEnv.nil | refine subEnv.cons rfl rfl ?_)))))))
        · rw [if_pos rfl] at c1; rw [if_neg (by simp)] at c2; rw [if_neg (by simp)] at c3
          apply Wp.seq
          apply Wp.region
          refine WpL.v (V.cmp) ?_
          apply WpL.nil
          apply Out.seqN
          apply Wp.seq
          refine Wp.c (fun h0 => ?_) (fun h0 => ?_)
          (try simp only [decide_eq_true_eq, decide_eq_false_iff_not, Bool.not_eq_true', Bool.not_eq_false', Bool.not_eq_true, Bool.not_eq_false, not_true_eq_false, not_false_eq_true, reduceCtorEq] at h0)
          apply Wp.skip
          apply Out.seqN
          apply Wp.seq
          apply Wp.block
          apply Wp.seq
          apply Wp.region
          refine WpL.v (V.mv) ?_
          refine WpL.v (V.as) ?_
          apply WpL.nil
          apply Out.seqN
          apply Wp.seq
          apply Wp.seq
          apply Wp.region
          refine WpL.v (V.mv) ?_
          refine WpL.v (V.ixA2 tb (k := k) rfl rfl rfl) ?_
          refine WpL.v (V.ld1 tb (hr := bC_get hb1)) ?_
          apply WpL.nil
          apply Out.seqN
          refine Wp.cT ?_
          apply Wp.region
          refine WpL.v (V.mv) ?_
          refine WpL.v (V.add) ?_
          refine WpL.v (V.as) ?_
          apply WpL.nil
          apply Out.seqN
          apply Wp.seq
          apply Wp.seq
          apply Wp.region
          refine WpL.v (V.mv) ?_
          refine WpL.v (V.ixA2 tb (k := k) rfl rfl rfl) ?_
          refine WpL.v (V.ld1 tb (hr := bC_get hb2)) ?_
          apply WpL.nil
          apply Out.seqN
          refine Wp.cF ?_
          apply Wp.skip
          apply Out.seqN
          apply Wp.seq
          apply Wp.region
          refine WpL.v (V.mv) ?_
          refine WpL.v (V.ixA2 tb (k := k) rfl rfl rfl) ?_
          refine WpL.v (V.ld1 tb (hr := bC_get hb3)) ?_
          apply WpL.nil
          apply Out.seqN
          refine Wp.cF ?_
          apply Wp.skip
          apply Out.blockN
          apply Out.seqN
          apply Wp.region
          refine WpL.v (V.add) ?_
          refine WpL.v (V.mv) ?_
          apply WpL.nil
          rotate_left
          (try simp only [decide_eq_true_eq, decide_eq_false_iff_not, Bool.not_eq_true', Bool.not_eq_false', Bool.not_eq_true, Bool.not_eq_false, not_true_eq_false, not_false_eq_true, reduceCtorEq] at h0)
          (exfalso; omega)
          exact Out.ag hK2 (k + 1) (by omega) (by show 7 - (k + 1) < 7 - k; omega) (he := subEnv.cons rfl rfl (subEnv.cons rfl (congrArg (fun z : Nat => I (z : Int)) c3.symm) (subEnv.cons rfl (congrArg (fun z : Nat => I (z : Int)) c2.symm) (subEnv.cons rfl (congrArg (fun z : Nat => I (z : Int)) c1.symm) (by (repeat (first | exact subEnv.nil | refine subEnv.cons rfl rfl ?_)))))))
        · rw [if_pos rfl] at c1; rw [if_neg (by simp)] at c2; rw [if_pos rfl] at c3
          apply Wp.seq
          apply Wp.region
          refine WpL.v (V.cmp) ?_
          apply WpL.nil
          apply Out.seqN
          apply Wp.seq
          refine Wp.c (fun h0 => ?_) (fun h0 => ?_)
          (try simp only [decide_eq_true_eq, decide_eq_false_iff_not, Bool.not_eq_true', Bool.not_eq_false', Bool.not_eq_true, Bool.not_eq_false, not_true_eq_false, not_false_eq_true, reduceCtorEq] at h0)
          apply Wp.skip
          apply Out.seqN
          apply Wp.seq
          apply Wp.block
          apply Wp.seq
          apply Wp.region
          refine WpL.v (V.mv) ?_
          refine WpL.v (V.as) ?_
          apply WpL.nil
          apply Out.seqN
          apply Wp.seq
          apply Wp.seq
          apply Wp.region
          refine WpL.v (V.mv) ?_
          refine WpL.v (V.ixA2 tb (k := k) rfl rfl rfl) ?_
          refine WpL.v (V.ld1 tb (hr := bC_get hb1)) ?_
          apply WpL.nil
          apply Out.seqN
          refine Wp.cT ?_
          apply Wp.region
          refine WpL.v (V.mv) ?_
          refine WpL.v (V.add) ?_
          refine WpL.v (V.as) ?_
          apply WpL.nil
          apply Out.seqN
          apply Wp.seq
          apply Wp.seq
          apply Wp.region
          refine WpL.v (V.mv) ?_
          refine WpL.v (V.ixA2 tb (k := k) rfl rfl rfl) ?_
          refine WpL.v (V.ld1 tb (hr := bC_get hb2)) ?_
          apply WpL.nil
          apply Out.seqN
          refine Wp.cF ?_
          apply Wp.skip
          apply Out.seqN
          apply Wp.seq
          apply Wp.region
          refine WpL.v (V.mv) ?_
          refine WpL.v (V.ixA2 tb (k := k) rfl rfl rfl) ?_
          refine WpL.v (V.ld1 tb (hr := bC_get hb3)) ?_
          apply WpL.nil
          apply Out.seqN
          refine Wp.cT ?_
          apply Wp.region
          refine WpL.v (V.mv) ?_
          refine WpL.v (V.add) ?_
          refine WpL.v (V.as) ?_
          apply WpL.nil
          apply Out.blockN
          apply Out.seqN
          apply Wp.region
          refine WpL.v (V.add) ?_
          refine WpL.v (V.mv) ?_
          apply WpL.nil
          rotate_left
          (try simp only [decide_eq_true_eq, decide_eq_false_iff_not, Bool.not_eq_true', Bool.not_eq_false', Bool.not_eq_true, Bool.not_eq_false, not_true_eq_false, not_false_eq_true, reduceCtorEq] at h0)
          (exfalso; omega)
          exact Out.ag hK2 (k + 1) (by omega) (by show 7 - (k + 1) < 7 - k; omega) (he := subEnv.cons rfl rfl (subEnv.cons rfl (congrArg (fun z : Nat => I (z : Int)) c3.symm) (subEnv.cons rfl (congrArg (fun z : Nat => I (z : Int)) c2.symm) (subEnv.cons rfl (congrArg (fun z : Nat => I (z : Int)) c1.symm) (by (repeat (first | exact subEnv.nil | refine subEnv.cons rfl rfl ?_)))))))
        · rw [if_pos rfl] at c1; rw [if_pos rfl] at c2; rw [if_neg (by simp)] at c3
          apply Wp.seq
          apply Wp.region
          refine WpL.v (V.cmp) ?_
          apply WpL.nil
          apply Out.seqN
          apply Wp.seq
          refine Wp.c (fun h0 => ?_) (fun h0 => ?_)
          (try simp only [decide_eq_true_eq, decide_eq_false_iff_not, Bool.not_eq_true', Bool.not_eq_false', Bool.not_eq_true, Bool.not_eq_false, not_true_eq_false, not_false_eq_true, reduceCtorEq] at h0)
          apply Wp.skip
          apply Out.seqN
          apply Wp.seq
          apply Wp.block
          apply Wp.seq
          apply Wp.region
          refine WpL.v (V.mv) ?_
          refine WpL.v (V.as) ?_
          apply WpL.nil
          apply Out.seqN
          apply Wp.seq
          apply Wp.seq
          apply Wp.region
          refine WpL.v (V.mv) ?_
          refine WpL.v (V.ixA2 tb (k := k) rfl rfl rfl) ?_
          refine WpL.v (V.ld1 tb (hr := bC_get hb1)) ?_
          apply WpL.nil
          apply Out.seqN
          refine Wp.cT ?_
          apply Wp.region
          refine WpL.v (V.mv) ?_
          refine WpL.v (V.add) ?_
          refine WpL.v (V.as) ?_
          apply WpL.nil
          apply Out.seqN
          apply Wp.seq
          apply Wp.seq
          apply Wp.region
          refine WpL.v (V.mv) ?_
          refine WpL.v (V.ixA2 tb (k := k) rfl rfl rfl) ?_
          refine WpL.v (V.ld1 tb (hr := bC_get hb2)) ?_
          apply WpL.nil
          apply Out.seqN
          refine Wp.cT ?_
          apply Wp.region
          refine WpL.v (V.mv) ?_
          refine WpL.v (V.add) ?_
          refine WpL.v (V.as) ?_
          apply WpL.nil
          apply Out.seqN
          apply Wp.seq
          apply Wp.region
          refine WpL.v (V.mv) ?_
          refine WpL.v (V.ixA2 tb (k := k) rfl rfl rfl) ?_
          refine WpL.v (V.ld1 tb (hr := bC_get hb3)) ?_
          apply WpL.nil
          apply Out.seqN
          refine Wp.cF ?_
          apply Wp.skip
          apply Out.blockN
          apply Out.seqN
          apply Wp.region
          refine WpL.v (V.add) ?_
          refine WpL.v (V.mv) ?_
          apply WpL.nil
          rotate_left
          (try simp only [decide_eq_true_eq, decide_eq_false_iff_not, Bool.not_eq_true', Bool.not_eq_false', Bool.not_eq_true, Bool.not_eq_false, not_true_eq_false, not_false_eq_true, reduceCtorEq] at h0)
          (exfalso; omega)
          exact Out.ag hK2 (k + 1) (by omega) (by show 7 - (k + 1) < 7 - k; omega) (he := subEnv.cons rfl rfl (subEnv.cons rfl (congrArg (fun z : Nat => I (z : Int)) c3.symm) (subEnv.cons rfl (congrArg (fun z : Nat => I (z : Int)) c2.symm) (subEnv.cons rfl (congrArg (fun z : Nat => I (z : Int)) c1.symm) (by (repeat (first | exact subEnv.nil | refine subEnv.cons rfl rfl ?_)))))))
        · rw [if_pos rfl] at c1; rw [if_pos rfl] at c2; rw [if_pos rfl] at c3
          apply Wp.seq
          apply Wp.region
          refine WpL.v (V.cmp) ?_
          apply WpL.nil
          apply Out.seqN
          apply Wp.seq
          refine Wp.c (fun h0 => ?_) (fun h0 => ?_)
          (try simp only [decide_eq_true_eq, decide_eq_false_iff_not, Bool.not_eq_true', Bool.not_eq_false', Bool.not_eq_true, Bool.not_eq_false, not_true_eq_false, not_false_eq_true, reduceCtorEq] at h0)
          apply Wp.skip
          apply Out.seqN
          apply Wp.seq
          apply Wp.block
          apply Wp.seq
          apply Wp.region
          refine WpL.v (V.mv) ?_
          refine WpL.v (V.as) ?_
          apply WpL.nil
          apply Out.seqN
          apply Wp.seq
          apply Wp.seq
          apply Wp.region
          refine WpL.v (V.mv) ?_
          refine WpL.v (V.ixA2 tb (k := k) rfl rfl rfl) ?_
          refine WpL.v (V.ld1 tb (hr := bC_get hb1)) ?_
          apply WpL.nil
          apply Out.seqN
          refine Wp.cT ?_
          apply Wp.region
          refine WpL.v (V.mv) ?_
          refine WpL.v (V.add) ?_
          refine WpL.v (V.as) ?_
          apply WpL.nil
          apply Out.seqN
          apply Wp.seq
          apply Wp.seq
          apply Wp.region
          refine WpL.v (V.mv) ?_
          refine WpL.v (V.ixA2 tb (k := k) rfl rfl rfl) ?_
          refine WpL.v (V.ld1 tb (hr := bC_get hb2)) ?_
          apply WpL.nil
          apply Out.seqN
          refine Wp.cT ?_
          apply Wp.region
          refine WpL.v (V.mv) ?_
          refine WpL.v (V.add) ?_
          refine WpL.v (V.as) ?_
          apply WpL.nil
          apply Out.seqN
          apply Wp.seq
          apply Wp.region
          refine WpL.v (V.mv) ?_
          refine WpL.v (V.ixA2 tb (k := k) rfl rfl rfl) ?_
          refine WpL.v (V.ld1 tb (hr := bC_get hb3)) ?_
          apply WpL.nil
          apply Out.seqN
          refine Wp.cT ?_
          apply Wp.region
          refine WpL.v (V.mv) ?_
          refine WpL.v (V.add) ?_
          refine WpL.v (V.as) ?_
          apply WpL.nil
          apply Out.blockN
          apply Out.seqN
          apply Wp.region
          refine WpL.v (V.add) ?_
          refine WpL.v (V.mv) ?_
          apply WpL.nil
          rotate_left
          (try simp only [decide_eq_true_eq, decide_eq_false_iff_not, Bool.not_eq_true', Bool.not_eq_false', Bool.not_eq_true, Bool.not_eq_false, not_true_eq_false, not_false_eq_true, reduceCtorEq] at h0)
          (exfalso; omega)
          exact Out.ag hK2 (k + 1) (by omega) (by show 7 - (k + 1) < 7 - k; omega) (he := subEnv.cons rfl rfl (subEnv.cons rfl (congrArg (fun z : Nat => I (z : Int)) c3.symm) (subEnv.cons rfl (congrArg (fun z : Nat => I (z : Int)) c2.symm) (subEnv.cons rfl (congrArg (fun z : Nat => I (z : Int)) c1.symm) (by (repeat (first | exact subEnv.nil | refine subEnv.cons rfl rfl ?_)))))))
      · obtain rfl : k = 7 := by omega
        clear hK2
        rw [List.take_of_length_le (Nat.le_of_eq wph2), List.take_of_length_le (Nat.le_of_eq wsl2), List.take_of_length_le (Nat.le_of_eq woh2), ← hk2.wf.pn, ← hk2.wf.om, same_count hk2.wf hq2]
        have hCl := lead_call q29 y
        have hyn := hk2.n
        have hxn := hk.n
        by_cases x1 : x.phase = 1
        · have e1 : cmpI .eql x.phase 1 = some true := by simp [cmpI, x1]
          have e2 : cmpI .eql x.phase 2 = some false := by simp [cmpI, x1]
          by_cases y3 : y.phase = 3
          · have e3 : cmpI .eql y.phase 3 = some true := by simp [cmpI, y3]
            have e4 : cmpI .eql y.phase 2 = some false := by simp [cmpI, y3]
            obtain ⟨t1, t2, t3⟩ := ht.t3 x1 y3
            rw [t3, hq.cl x1] at hCl
            rw [hxn] at t2
            have hB : c.Ballot = ⟨0, c.Item.Rep⟩ := by rw [← hk.ballot, t1, hk.item]
            have e5 : cmpI .lss (sameN (vAll y.pl y.ph) : Int) (2 * faults c.N) = some false := by simp [cmpI]; omega
            apply Wp.seq
            apply Wp.region
            refine WpL.v (V.cmp) ?_
            apply WpL.nil
            apply Out.seqN
            apply Wp.seq
            refine Wp.cF ?_
            apply Wp.exit
            apply Out.seqE
            apply Out.seqE
            apply Out.blockE
            apply Out.seqN
            apply Wp.seq
            apply Wp.seq
            refine Wp.dG [] ?_ (List.Sublist.cons _ (List.Sublist.cons _ (List.Sublist.cons _ (List.Sublist.cons _ (List.Sublist.cons _ (List.Sublist.cons _ (List.Sublist.cons _ (List.Sublist.cons _ (List.Sublist.cons_cons _ (List.Sublist.cons_cons _ List.Sublist.slnil)))))))))) (List.Sublist.cons _ (List.Sublist.cons _ (List.Sublist.cons _ (List.Sublist.cons _ (List.Sublist.cons _ (List.Sublist.cons _ (List.Sublist.cons _ (List.Sublist.cons _ (List.Sublist.cons_cons _ (List.Sublist.cons_cons _ List.Sublist.slnil))))))))))
            refine WpA.tF 0 rfl (V.mv) ?_
            refine WpA.tF 1 rfl (V.cmp rfl rfl e1) ?_
            refine WpA.tF 2 rfl (V.mv) ?_
            refine WpA.tF 3 rfl (V.mv) ?_
            refine WpA.oS 4 rfl (Op1.callT rfl (hP2) (by (repeat (first | exact Sel.nil | exact Rem.here | apply Sel.cons | apply Rem.there))) ?_)
            rintro v0 s1 ⟨rfl, rfl⟩
            refine incat ⟨?_, ?_, ?_⟩
            exact holdT
            exact holdT
            refine WpA.tF 5 rfl (V.cmp rfl rfl e3) ?_
            refine WpA.tF 6 rfl (V.pT) ?_
            refine WpA.tF 7 rfl (V.mv) ?_
            refine WpA.tF 8 rfl (V.mv) ?_
            refine WpA.tF 9 rfl (V.mv) ?_
            refine WpA.tF 10 rfl (V.mul) ?_
            refine WpA.tF 11 rfl (V.cmp rfl rfl e5) ?_
            refine WpA.tF 12 rfl (V.mv) ?_
            refine WpA.tF 13 rfl (V.fa tb) ?_
            refine WpA.tF 14 rfl (V.ldA tb) ?_
            refine WpA.tF 15 rfl (V.fa tb) ?_
            refine WpA.tF 16 rfl (V.fa tb) ?_
            refine WpA.tF 17 rfl (V.ld1 tb) ?_
            refine WpA.tF 18 rfl (V.bld tb (c' := (TBallot.c ⟨0, c.Item.Rep⟩))) ?_
            refine WpA.tF 19 rfl (V.ne (TBallot.eqT _ _ _)) ?_
            refine WpA.tF 20 rfl (V.pF) ?_
            refine WpA.tF 21 rfl (V.mv) ?_
            refine WpA.pt 194 (fun hs2 => ?_) (fun hs2 => ?_)
            (try simp only [decide_eq_true_eq, decide_eq_false_iff_not, Bool.not_eq_true', Bool.not_eq_false', Bool.not_eq_true, Bool.not_eq_false, not_true_eq_false, not_false_eq_true, reduceCtorEq] at hs2)
            contradiction
            (try simp only [decide_eq_true_eq, decide_eq_false_iff_not, Bool.not_eq_true', Bool.not_eq_false', Bool.not_eq_true, Bool.not_eq_false, not_true_eq_false, not_false_eq_true, reduceCtorEq] at hs2)
            refine WpA.tF 22 rfl (V.mv) ?_
            refine WpA.tF 24 rfl (V.fa tb) ?_
            refine WpA.tF 25 rfl (V.ldA tb) ?_
            refine WpA.oS 23 rfl (Op1.callT rfl (hCl) (by (repeat (first | exact Sel.nil | exact Rem.here | apply Sel.cons | apply Rem.there))) ?_)
            rintro v3 s4 ⟨rfl, rfl⟩
            refine incat ⟨?_, ?_, ?_⟩
            exact holdT
            exact holdT
            refine WpA.tF 26 rfl (V.ne (TCall.eqT _ _ _)) ?_
            refine WpA.tF 27 rfl (V.pF) ?_
            refine WpA.tF 28 rfl (V.pT) ?_
            refine WpA.ou ?_
            apply Out.seqN
            refine Wp.c (fun hs5 => ?_) (fun hs5 => ?_)
            (try simp only [decide_eq_true_eq, decide_eq_false_iff_not, Bool.not_eq_true', Bool.not_eq_false', Bool.not_eq_true, Bool.not_eq_false, not_true_eq_false, not_false_eq_true, reduceCtorEq] at hs5)
            (try simp only [decide_eq_true_eq, decide_eq_false_iff_not, Bool.not_eq_true', Bool.not_eq_false', Bool.not_eq_true, Bool.not_eq_false, not_true_eq_false, not_false_eq_true, reduceCtorEq] at hs5)
            apply Wp.skip
            apply Out.seqN
            apply Wp.seq
            apply Wp.seq
            refine Wp.dG [] ?_ (List.Sublist.cons _ (List.Sublist.cons _ (List.Sublist.cons _ (List.Sublist.cons _ (List.Sublist.cons_cons _ (List.Sublist.cons _ (List.Sublist.cons _ (List.Sublist.cons _ (List.Sublist.cons _ (List.Sublist.cons_cons _ List.Sublist.slnil)))))))))) (List.Sublist.cons _ (List.Sublist.cons _ (List.Sublist.cons _ (List.Sublist.cons _ (List.Sublist.cons_cons _ (List.Sublist.cons _ (List.Sublist.cons _ (List.Sublist.cons _ (List.Sublist.cons _ (List.Sublist.cons_cons _ List.Sublist.slnil))))))))))
            refine WpA.tF 0 rfl (V.mv) ?_
            refine WpA.tF 1 rfl (V.cmp rfl rfl e1) ?_
            refine WpA.tF 2 rfl (V.mv) ?_
            refine WpA.tF 3 rfl (V.mv) ?_
            refine WpA.oS 4 rfl (Op1.callT rfl (hP2) (by (repeat (first | exact Sel.nil | exact Rem.here | apply Sel.cons | apply Rem.there))) ?_)
            rintro v6 s7 ⟨rfl, rfl⟩
            refine incat ⟨?_, ?_, ?_⟩
            exact holdT
            exact holdT
            refine WpA.tF 5 rfl (V.cmp rfl rfl e4) ?_
            refine WpA.tF 6 rfl (V.pT) ?_
            refine WpA.tF 7 rfl (V.mv) ?_
            refine WpA.s 8 rfl ?_
            refine WpA.s 9 rfl ?_
            refine WpA.s 10 rfl ?_
            refine WpA.s 11 rfl ?_
            refine WpA.s 12 rfl ?_
            refine WpA.s 13 rfl ?_
            refine WpA.s 14 rfl ?_
            refine WpA.s 15 rfl ?_
            refine WpA.s 16 rfl ?_
            refine WpA.s 17 rfl ?_
            refine WpA.s 18 rfl ?_
            refine WpA.s 19 rfl ?_
            refine WpA.s 20 rfl ?_
            refine WpA.s 21 rfl ?_
            refine WpA.s 22 rfl ?_
            refine WpA.s 23 rfl ?_
            refine WpA.tF 24 rfl (V.pF) ?_
            refine WpA.ou ?_
            apply Out.seqN
            refine Wp.cF ?_
            apply Wp.skip
            apply Out.seqN
            apply Wp.seq
            apply Wp.region
            refine WpL.v (V.mv) ?_
            refine WpL.v (V.cmp rfl rfl e2) ?_
            refine WpL.v (V.mv) ?_
            refine WpL.sk ?_
            refine WpL.sk ?_
            refine WpL.sk ?_
            refine WpL.v (V.pF) ?_
            refine WpL.v (V.mv) ?_
            refine WpL.sk ?_
            refine WpL.sk ?_
            refine WpL.sk ?_
            refine WpL.sk ?_
            refine WpL.v (V.pF) ?_
            apply WpL.nil
            apply Out.seqN
            refine Wp.cF ?_
            apply Wp.skip
            apply Out.blockN
            apply Out.seqN
            apply Wp.region
            refine WpL.v (V.add) ?_
            refine WpL.v (V.mv) ?_
            apply WpL.nil
            exact Out.ag hK ⟨i + 1, y, ss2, re2⟩ ⟨by show i + 1 ≤ _; omega, hk2, hq2⟩ (by show xs.length - (i + 1) < xs.length - i; omega)
          have e3 : cmpI .eql y.phase 3 = some false := by simp [cmpI, y3]
          by_cases y2 : y.phase = 2
          · have e4 : cmpI .eql y.phase 2 = some true := by simp [cmpI, y2]
            obtain ⟨t1, t2⟩ := ht.t2 x1 y2
            rw [hxn] at t1
            have hJ2 := ref_join re2.Deps y.call.Deps
            rw [hq2.reach x1 y2 (hq.cl x1) ht (by omega)] at hJ2
            have e5 : cmpI .lss y.pn (faults c.N + 1) = some false := by simp [cmpI]; omega
            apply Wp.seq
            apply Wp.region
            refine WpL.v (V.cmp) ?_
            apply WpL.nil
            apply Out.seqN
            apply Wp.seq
            refine Wp.cF ?_
            apply Wp.exit
            apply Out.seqE
            apply Out.seqE
            apply Out.blockE
            apply Out.seqN
            apply Wp.seq
            apply Wp.seq
            refine Wp.dG [] ?_ (List.Sublist.cons _ (List.Sublist.cons _ (List.Sublist.cons _ (List.Sublist.cons _ (List.Sublist.cons _ (List.Sublist.cons _ (List.Sublist.cons _ (List.Sublist.cons _ (List.Sublist.cons_cons _ (List.Sublist.cons_cons _ List.Sublist.slnil)))))))))) (List.Sublist.cons _ (List.Sublist.cons _ (List.Sublist.cons _ (List.Sublist.cons _ (List.Sublist.cons _ (List.Sublist.cons _ (List.Sublist.cons _ (List.Sublist.cons _ (List.Sublist.cons_cons _ (List.Sublist.cons_cons _ List.Sublist.slnil))))))))))
            refine WpA.tF 0 rfl (V.mv) ?_
            refine WpA.tF 1 rfl (V.cmp rfl rfl e1) ?_
            refine WpA.tF 2 rfl (V.mv) ?_
            refine WpA.tF 3 rfl (V.mv) ?_
            refine WpA.oS 4 rfl (Op1.callT rfl (hP2) (by (repeat (first | exact Sel.nil | exact Rem.here | apply Sel.cons | apply Rem.there))) ?_)
            rintro v0 s1 ⟨rfl, rfl⟩
            refine incat ⟨?_, ?_, ?_⟩
            exact holdT
            exact holdT
            refine WpA.tF 5 rfl (V.cmp rfl rfl e3) ?_
            refine WpA.tF 6 rfl (V.pT) ?_
            refine WpA.tF 7 rfl (V.mv) ?_
            refine WpA.s 8 rfl ?_
            refine WpA.s 9 rfl ?_
            refine WpA.s 10 rfl ?_
            refine WpA.s 11 rfl ?_
            refine WpA.s 12 rfl ?_
            refine WpA.s 13 rfl ?_
            refine WpA.s 14 rfl ?_
            refine WpA.s 15 rfl ?_
            refine WpA.s 16 rfl ?_
            refine WpA.s 17 rfl ?_
            refine WpA.s 18 rfl ?_
            refine WpA.s 19 rfl ?_
            refine WpA.s 20 rfl ?_
            refine WpA.s 21 rfl ?_
            refine WpA.s 22 rfl ?_
            refine WpA.s 23 rfl ?_
            refine WpA.s 24 rfl ?_
            refine WpA.s 25 rfl ?_
            refine WpA.s 26 rfl ?_
            refine WpA.s 27 rfl ?_
            refine WpA.tF 28 rfl (V.pF) ?_
            refine WpA.ou ?_
            apply Out.seqN
            refine Wp.cF ?_
            apply Wp.skip
            apply Out.seqN
            apply Wp.seq
            apply Wp.seq
            refine Wp.dG [] ?_ (List.Sublist.cons _ (List.Sublist.cons _ (List.Sublist.cons _ (List.Sublist.cons _ (List.Sublist.cons_cons _ (List.Sublist.cons _ (List.Sublist.cons _ (List.Sublist.cons _ (List.Sublist.cons _ (List.Sublist.cons_cons _ List.Sublist.slnil)))))))))) (List.Sublist.cons _ (List.Sublist.cons _ (List.Sublist.cons _ (List.Sublist.cons _ (List.Sublist.cons_cons _ (List.Sublist.cons _ (List.Sublist.cons _ (List.Sublist.cons _ (List.Sublist.cons _ (List.Sublist.cons_cons _ List.Sublist.slnil))))))))))
            refine WpA.tF 0 rfl (V.mv) ?_
            refine WpA.tF 1 rfl (V.cmp rfl rfl e1) ?_
            refine WpA.tF 2 rfl (V.mv) ?_
            refine WpA.tF 3 rfl (V.mv) ?_
            refine WpA.oS 4 rfl (Op1.callT rfl (hP2) (by (repeat (first | exact Sel.nil | exact Rem.here | apply Sel.cons | apply Rem.there))) ?_)
            rintro v2 s3 ⟨rfl, rfl⟩
            refine incat ⟨?_, ?_, ?_⟩
            exact holdT
            exact holdT
            refine WpA.tF 5 rfl (V.cmp rfl rfl e4) ?_
            refine WpA.tF 6 rfl (V.pT) ?_
            refine WpA.tF 7 rfl (V.mv) ?_
            refine WpA.tF 8 rfl (V.mv) ?_
            refine WpA.tF 9 rfl (V.mv) ?_
            refine WpA.tF 10 rfl (V.add) ?_
            refine WpA.tF 11 rfl (V.cmp rfl rfl e5) ?_
            refine WpA.tF 12 rfl (V.mv) ?_
            refine WpA.tF 13 rfl (V.fa tb) ?_
            refine WpA.tF 14 rfl (V.ldA tb) ?_
            refine WpA.tF 15 rfl (V.mv) ?_
            refine WpA.tF 19 rfl (V.mv) ?_
            refine WpA.oS 16 rfl (Op1.callT rfl (hCl) (by (repeat (first | exact Sel.nil | exact Rem.here | apply Sel.cons | apply Rem.there))) ?_)
            rintro v4 s5 ⟨rfl, rfl⟩
            refine incat ⟨?_, ?_, ?_⟩
            exact holdT
            exact holdT
            refine WpA.tF 17 rfl (V.fldA tb (off := 6) (T := 31) rfl rfl) ?_
            refine WpA.oS 18 rfl (Op1.fn rfl (hJ2) ⟨?_, ?_, ?_⟩)
            exact holdT
            exact holdT
            refine WpA.oS 20 rfl (Op1.callT rfl (hCl) (by (repeat (first | exact Sel.nil | exact Rem.here | apply Sel.cons | apply Rem.there))) ?_)
            rintro v6 s7 ⟨rfl, rfl⟩
            refine incat ⟨?_, ?_, ?_⟩
            exact holdT
            exact holdT
            refine WpA.tF 21 rfl (V.fldA tb (off := 6) (T := 31) rfl rfl) ?_
            refine WpA.tF 22 rfl (V.ne (TDeps.eqT _ _ _)) ?_
            refine WpA.tF 23 rfl (V.pF) ?_
            refine WpA.tF 24 rfl (V.pT) ?_
            refine WpA.ou ?_
            apply Out.seqN
            refine Wp.c (fun hu8 => ?_) (fun hu8 => ?_)
            (try simp only [decide_eq_true_eq, decide_eq_false_iff_not, Bool.not_eq_true', Bool.not_eq_false', Bool.not_eq_true, Bool.not_eq_false, not_true_eq_false, not_false_eq_true, reduceCtorEq] at hu8)
            (try simp only [decide_eq_true_eq, decide_eq_false_iff_not, Bool.not_eq_true', Bool.not_eq_false', Bool.not_eq_true, Bool.not_eq_false, not_true_eq_false, not_false_eq_true, reduceCtorEq] at hu8)
            apply Wp.skip
            apply Out.seqN
            apply Wp.seq
            apply Wp.region
            refine WpL.v (V.mv) ?_
            refine WpL.v (V.cmp rfl rfl e2) ?_
            refine WpL.v (V.mv) ?_
            refine WpL.sk ?_
            refine WpL.sk ?_
            refine WpL.sk ?_
            refine WpL.v (V.pF) ?_
            refine WpL.v (V.mv) ?_
            refine WpL.sk ?_
            refine WpL.sk ?_
            refine WpL.sk ?_
            refine WpL.sk ?_
            refine WpL.v (V.pF) ?_
            apply WpL.nil
            apply Out.seqN
            refine Wp.cF ?_
            apply Wp.skip
            apply Out.blockN
            apply Out.seqN
            apply Wp.region
            refine WpL.v (V.add) ?_
            refine WpL.v (V.mv) ?_
            apply WpL.nil
            exact Out.ag hK ⟨i + 1, y, ss2, re2⟩ ⟨by show i + 1 ≤ _; omega, hk2, hq2⟩ (by show xs.length - (i + 1) < xs.length - i; omega)
          have e4 : cmpI .eql y.phase 2 = some false := by simp [cmpI, y2]
          apply Wp.seq
          apply Wp.region
          refine WpL.v (V.cmp) ?_
          apply WpL.nil
          apply Out.seqN
          apply Wp.seq
          refine Wp.cF ?_
          apply Wp.exit
          apply Out.seqE
          apply Out.seqE
          apply Out.blockE
          apply Out.seqN
          apply Wp.seq
          apply Wp.seq
          refine Wp.dG [] ?_ (List.Sublist.cons _ (List.Sublist.cons _ (List.Sublist.cons _ (List.Sublist.cons _ (List.Sublist.cons _ (List.Sublist.cons _ (List.Sublist.cons _ (List.Sublist.cons _ (List.Sublist.cons_cons _ (List.Sublist.cons_cons _ List.Sublist.slnil)))))))))) (List.Sublist.cons _ (List.Sublist.cons _ (List.Sublist.cons _ (List.Sublist.cons _ (List.Sublist.cons _ (List.Sublist.cons _ (List.Sublist.cons _ (List.Sublist.cons _ (List.Sublist.cons_cons _ (List.Sublist.cons_cons _ List.Sublist.slnil))))))))))
          refine WpA.tF 0 rfl (V.mv) ?_
          refine WpA.tF 1 rfl (V.cmp rfl rfl e1) ?_
          refine WpA.tF 2 rfl (V.mv) ?_
          refine WpA.tF 3 rfl (V.mv) ?_
          refine WpA.oS 4 rfl (Op1.callT rfl (hP2) (by (repeat (first | exact Sel.nil | exact Rem.here | apply Sel.cons | apply Rem.there))) ?_)
          rintro v0 s1 ⟨rfl, rfl⟩
          refine incat ⟨?_, ?_, ?_⟩
          exact holdT
          exact holdT
          refine WpA.tF 5 rfl (V.cmp rfl rfl e3) ?_
          refine WpA.tF 6 rfl (V.pT) ?_
          refine WpA.tF 7 rfl (V.mv) ?_
          refine WpA.s 8 rfl ?_
          refine WpA.s 9 rfl ?_
          refine WpA.s 10 rfl ?_
          refine WpA.s 11 rfl ?_
          refine WpA.s 12 rfl ?_
          refine WpA.s 13 rfl ?_
          refine WpA.s 14 rfl ?_
          refine WpA.s 15 rfl ?_
          refine WpA.s 16 rfl ?_
          refine WpA.s 17 rfl ?_
          refine WpA.s 18 rfl ?_
          refine WpA.s 19 rfl ?_
          refine WpA.s 20 rfl ?_
          refine WpA.s 21 rfl ?_
          refine WpA.s 22 rfl ?_
          refine WpA.s 23 rfl ?_
          refine WpA.s 24 rfl ?_
          refine WpA.s 25 rfl ?_
          refine WpA.s 26 rfl ?_
          refine WpA.s 27 rfl ?_
          refine WpA.tF 28 rfl (V.pF) ?_
          refine WpA.ou ?_
          apply Out.seqN
          refine Wp.cF ?_
          apply Wp.skip
          apply Out.seqN
          apply Wp.seq
          apply Wp.seq
          refine Wp.dG [] ?_ (List.Sublist.cons _ (List.Sublist.cons _ (List.Sublist.cons _ (List.Sublist.cons _ (List.Sublist.cons_cons _ (List.Sublist.cons _ (List.Sublist.cons _ (List.Sublist.cons _ (List.Sublist.cons _ (List.Sublist.cons_cons _ List.Sublist.slnil)))))))))) (List.Sublist.cons _ (List.Sublist.cons _ (List.Sublist.cons _ (List.Sublist.cons _ (List.Sublist.cons_cons _ (List.Sublist.cons _ (List.Sublist.cons _ (List.Sublist.cons _ (List.Sublist.cons _ (List.Sublist.cons_cons _ List.Sublist.slnil))))))))))
          refine WpA.tF 0 rfl (V.mv) ?_
          refine WpA.tF 1 rfl (V.cmp rfl rfl e1) ?_
          refine WpA.tF 2 rfl (V.mv) ?_
          refine WpA.tF 3 rfl (V.mv) ?_
          refine WpA.oS 4 rfl (Op1.callT rfl (hP2) (by (repeat (first | exact Sel.nil | exact Rem.here | apply Sel.cons | apply Rem.there))) ?_)
          rintro v2 s3 ⟨rfl, rfl⟩
          refine incat ⟨?_, ?_, ?_⟩
          exact holdT
          exact holdT
          refine WpA.tF 5 rfl (V.cmp rfl rfl e4) ?_
          refine WpA.tF 6 rfl (V.pT) ?_
          refine WpA.tF 7 rfl (V.mv) ?_
          refine WpA.s 8 rfl ?_
          refine WpA.s 9 rfl ?_
          refine WpA.s 10 rfl ?_
          refine WpA.s 11 rfl ?_
          refine WpA.s 12 rfl ?_
          refine WpA.s 13 rfl ?_
          refine WpA.s 14 rfl ?_
          refine WpA.s 15 rfl ?_
          refine WpA.s 16 rfl ?_
          refine WpA.s 17 rfl ?_
          refine WpA.s 18 rfl ?_
          refine WpA.s 19 rfl ?_
          refine WpA.s 20 rfl ?_
          refine WpA.s 21 rfl ?_
          refine WpA.s 22 rfl ?_
          refine WpA.s 23 rfl ?_
          refine WpA.tF 24 rfl (V.pF) ?_
          refine WpA.ou ?_
          apply Out.seqN
          refine Wp.cF ?_
          apply Wp.skip
          apply Out.seqN
          apply Wp.seq
          apply Wp.region
          refine WpL.v (V.mv) ?_
          refine WpL.v (V.cmp rfl rfl e2) ?_
          refine WpL.v (V.mv) ?_
          refine WpL.sk ?_
          refine WpL.sk ?_
          refine WpL.sk ?_
          refine WpL.v (V.pF) ?_
          refine WpL.v (V.mv) ?_
          refine WpL.sk ?_
          refine WpL.sk ?_
          refine WpL.sk ?_
          refine WpL.sk ?_
          refine WpL.v (V.pF) ?_
          apply WpL.nil
          apply Out.seqN
          refine Wp.cF ?_
          apply Wp.skip
          apply Out.blockN
          apply Out.seqN
          apply Wp.region
          refine WpL.v (V.add) ?_
          refine WpL.v (V.mv) ?_
          apply WpL.nil
          exact Out.ag hK ⟨i + 1, y, ss2, re2⟩ ⟨by show i + 1 ≤ _; omega, hk2, hq2⟩ (by show xs.length - (i + 1) < xs.length - i; omega)
        have e1 : cmpI .eql x.phase 1 = some false := by simp [cmpI, x1]
        by_cases x2 : x.phase = 2
        · have e2 : cmpI .eql x.phase 2 = some true := by simp [cmpI, x2]
          by_cases y3 : y.phase = 3
          · have e3 : cmpI .eql y.phase 3 = some true := by simp [cmpI, y3]
            have t4 := ht.t4 x2 y3
            rw [hxn] at t4
            have e5 : cmpI .lss y.om (faults c.N + 1) = some false := by simp [cmpI]; omega
            apply Wp.seq
            apply Wp.region
            refine WpL.v (V.cmp) ?_
            apply WpL.nil
            apply Out.seqN
            apply Wp.seq
            refine Wp.cF ?_
            apply Wp.exit
            apply Out.seqE
            apply Out.seqE
            apply Out.blockE
            apply Out.seqN
            apply Wp.seq
            apply Wp.seq
            refine Wp.dG [] ?_ (List.Sublist.cons _ (List.Sublist.cons _ (List.Sublist.cons _ (List.Sublist.cons _ (List.Sublist.cons _ (List.Sublist.cons _ (List.Sublist.cons _ (List.Sublist.cons _ (List.Sublist.cons_cons _ (List.Sublist.cons_cons _ List.Sublist.slnil)))))))))) (List.Sublist.cons _ (List.Sublist.cons _ (List.Sublist.cons _ (List.Sublist.cons _ (List.Sublist.cons _ (List.Sublist.cons _ (List.Sublist.cons _ (List.Sublist.cons _ (List.Sublist.cons_cons _ (List.Sublist.cons_cons _ List.Sublist.slnil))))))))))
            refine WpA.tF 0 rfl (V.mv) ?_
            refine WpA.tF 1 rfl (V.cmp rfl rfl e1) ?_
            refine WpA.tF 2 rfl (V.mv) ?_
            refine WpA.s 3 rfl ?_
            refine WpA.s 4 rfl ?_
            refine WpA.s 5 rfl ?_
            refine WpA.tF 6 rfl (V.pF) ?_
            refine WpA.tF 7 rfl (V.mv) ?_
            refine WpA.s 8 rfl ?_
            refine WpA.s 9 rfl ?_
            refine WpA.s 10 rfl ?_
            refine WpA.s 11 rfl ?_
            refine WpA.s 12 rfl ?_
            refine WpA.s 13 rfl ?_
            refine WpA.s 14 rfl ?_
            refine WpA.s 15 rfl ?_
            refine WpA.s 16 rfl ?_
            refine WpA.s 17 rfl ?_
            refine WpA.s 18 rfl ?_
            refine WpA.s 19 rfl ?_
            refine WpA.s 20 rfl ?_
            refine WpA.s 21 rfl ?_
            refine WpA.s 22 rfl ?_
            refine WpA.s 23 rfl ?_
            refine WpA.s 24 rfl ?_
            refine WpA.s 25 rfl ?_
            refine WpA.s 26 rfl ?_
            refine WpA.s 27 rfl ?_
            refine WpA.tF 28 rfl (V.pF) ?_
            refine WpA.ou ?_
            apply Out.seqN
            refine Wp.cF ?_
            apply Wp.skip
            apply Out.seqN
            apply Wp.seq
            apply Wp.seq
            refine Wp.dG [] ?_ (List.Sublist.cons _ (List.Sublist.cons _ (List.Sublist.cons _ (List.Sublist.cons _ (List.Sublist.cons_cons _ (List.Sublist.cons _ (List.Sublist.cons _ (List.Sublist.cons _ (List.Sublist.cons _ (List.Sublist.cons_cons _ List.Sublist.slnil)))))))))) (List.Sublist.cons _ (List.Sublist.cons _ (List.Sublist.cons _ (List.Sublist.cons _ (List.Sublist.cons_cons _ (List.Sublist.cons _ (List.Sublist.cons _ (List.Sublist.cons _ (List.Sublist.cons _ (List.Sublist.cons_cons _ List.Sublist.slnil))))))))))
            refine WpA.tF 0 rfl (V.mv) ?_
            refine WpA.tF 1 rfl (V.cmp rfl rfl e1) ?_
            refine WpA.tF 2 rfl (V.mv) ?_
            refine WpA.s 3 rfl ?_
            refine WpA.s 4 rfl ?_
            refine WpA.s 5 rfl ?_
            refine WpA.tF 6 rfl (V.pF) ?_
            refine WpA.tF 7 rfl (V.mv) ?_
            refine WpA.s 8 rfl ?_
            refine WpA.s 9 rfl ?_
            refine WpA.s 10 rfl ?_
            refine WpA.s 11 rfl ?_
            refine WpA.s 12 rfl ?_
            refine WpA.s 13 rfl ?_
            refine WpA.s 14 rfl ?_
            refine WpA.s 15 rfl ?_
            refine WpA.s 16 rfl ?_
            refine WpA.s 17 rfl ?_
            refine WpA.s 18 rfl ?_
            refine WpA.s 19 rfl ?_
            refine WpA.s 20 rfl ?_
            refine WpA.s 21 rfl ?_
            refine WpA.s 22 rfl ?_
            refine WpA.s 23 rfl ?_
            refine WpA.tF 24 rfl (V.pF) ?_
            refine WpA.ou ?_
            apply Out.seqN
            refine Wp.cF ?_
            apply Wp.skip
            apply Out.seqN
            apply Wp.seq
            apply Wp.region
            refine WpL.v (V.mv) ?_
            refine WpL.v (V.cmp rfl rfl e2) ?_
            refine WpL.v (V.mv) ?_
            refine WpL.v (V.mv) ?_
            refine WpL.o (Op1.callT rfl (hP2) (by (repeat (first | exact Sel.nil | exact Rem.here | apply Sel.cons | apply Rem.there))) ?_)
            rintro v0 s1 ⟨rfl, rfl⟩
            refine incat ?_
            refine WpL.v (V.cmp rfl rfl e3) ?_
            refine WpL.v (V.pT) ?_
            refine WpL.v (V.mv) ?_
            refine WpL.v (V.mv) ?_
            refine WpL.v (V.mv) ?_
            refine WpL.v (V.add) ?_
            refine WpL.v (V.cmp rfl rfl e5) ?_
            refine WpL.v (V.pT) ?_
            apply WpL.nil
            apply Out.seqN
            refine Wp.cF ?_
            apply Wp.skip
            apply Out.blockN
            apply Out.seqN
            apply Wp.region
            refine WpL.v (V.add) ?_
            refine WpL.v (V.mv) ?_
            apply WpL.nil
            exact Out.ag hK ⟨i + 1, y, ss2, re2⟩ ⟨by show i + 1 ≤ _; omega, hk2, hq2⟩ (by show xs.length - (i + 1) < xs.length - i; omega)
          have e3 : cmpI .eql y.phase 3 = some false := by simp [cmpI, y3]
          apply Wp.seq
          apply Wp.region
          refine WpL.v (V.cmp) ?_
          apply WpL.nil
          apply Out.seqN
          apply Wp.seq
          refine Wp.cF ?_
          apply Wp.exit
          apply Out.seqE
          apply Out.seqE
          apply Out.blockE
          apply Out.seqN
          apply Wp.seq
          apply Wp.seq
          refine Wp.dG [] ?_ (List.Sublist.cons _ (List.Sublist.cons _ (List.Sublist.cons _ (List.Sublist.cons _ (List.Sublist.cons _ (List.Sublist.cons _ (List.Sublist.cons _ (List.Sublist.cons _ (List.Sublist.cons_cons _ (List.Sublist.cons_cons _ List.Sublist.slnil)))))))))) (List.Sublist.cons _ (List.Sublist.cons _ (List.Sublist.cons _ (List.Sublist.cons _ (List.Sublist.cons _ (List.Sublist.cons _ (List.Sublist.cons _ (List.Sublist.cons _ (List.Sublist.cons_cons _ (List.Sublist.cons_cons _ List.Sublist.slnil))))))))))
          refine WpA.tF 0 rfl (V.mv) ?_
          refine WpA.tF 1 rfl (V.cmp rfl rfl e1) ?_
          refine WpA.tF 2 rfl (V.mv) ?_
          refine WpA.s 3 rfl ?_
          refine WpA.s 4 rfl ?_
          refine WpA.s 5 rfl ?_
          refine WpA.tF 6 rfl (V.pF) ?_
          refine WpA.tF 7 rfl (V.mv) ?_
          refine WpA.s 8 rfl ?_
          refine WpA.s 9 rfl ?_
          refine WpA.s 10 rfl ?_
          refine WpA.s 11 rfl ?_
          refine WpA.s 12 rfl ?_
          refine WpA.s 13 rfl ?_
          refine WpA.s 14 rfl ?_
          refine WpA.s 15 rfl ?_
          refine WpA.s 16 rfl ?_
          refine WpA.s 17 rfl ?_
          refine WpA.s 18 rfl ?_
          refine WpA.s 19 rfl ?_
          refine WpA.s 20 rfl ?_
          refine WpA.s 21 rfl ?_
          refine WpA.s 22 rfl ?_
          refine WpA.s 23 rfl ?_
          refine WpA.s 24 rfl ?_
          refine WpA.s 25 rfl ?_
          refine WpA.s 26 rfl ?_
          refine WpA.s 27 rfl ?_
          refine WpA.tF 28 rfl (V.pF) ?_
          refine WpA.ou ?_
          apply Out.seqN
          refine Wp.cF ?_
          apply Wp.skip
          apply Out.seqN
          apply Wp.seq
          apply Wp.seq
          refine Wp.dG [] ?_ (List.Sublist.cons _ (List.Sublist.cons _ (List.Sublist.cons _ (List.Sublist.cons _ (List.Sublist.cons_cons _ (List.Sublist.cons _ (List.Sublist.cons _ (List.Sublist.cons _ (List.Sublist.cons _ (List.Sublist.cons_cons _ List.Sublist.slnil)))))))))) (List.Sublist.cons _ (List.Sublist.cons _ (List.Sublist.cons _ (List.Sublist.cons _ (List.Sublist.cons_cons _ (List.Sublist.cons _ (List.Sublist.cons _ (List.Sublist.cons _ (List.Sublist.cons _ (List.Sublist.cons_cons _ List.Sublist.slnil))))))))))
          refine WpA.tF 0 rfl (V.mv) ?_
          refine WpA.tF 1 rfl (V.cmp rfl rfl e1) ?_
          refine WpA.tF 2 rfl (V.mv) ?_
          refine WpA.s 3 rfl ?_
          refine WpA.s 4 rfl ?_
          refine WpA.s 5 rfl ?_
          refine WpA.tF 6 rfl (V.pF) ?_
          refine WpA.tF 7 rfl (V.mv) ?_
          refine WpA.s 8 rfl ?_
          refine WpA.s 9 rfl ?_
          refine WpA.s 10 rfl ?_
          refine WpA.s 11 rfl ?_
          refine WpA.s 12 rfl ?_
          refine WpA.s 13 rfl ?_
          refine WpA.s 14 rfl ?_
          refine WpA.s 15 rfl ?_
          refine WpA.s 16 rfl ?_
          refine WpA.s 17 rfl ?_
          refine WpA.s 18 rfl ?_
          refine WpA.s 19 rfl ?_
          refine WpA.s 20 rfl ?_
          refine WpA.s 21 rfl ?_
          refine WpA.s 22 rfl ?_
          refine WpA.s 23 rfl ?_
          refine WpA.tF 24 rfl (V.pF) ?_
          refine WpA.ou ?_
          apply Out.seqN
          refine Wp.cF ?_
          apply Wp.skip
          apply Out.seqN
          apply Wp.seq
          apply Wp.region
          refine WpL.v (V.mv) ?_
          refine WpL.v (V.cmp rfl rfl e2) ?_
          refine WpL.v (V.mv) ?_
          refine WpL.v (V.mv) ?_
          refine WpL.o (Op1.callT rfl (hP2) (by (repeat (first | exact Sel.nil | exact Rem.here | apply Sel.cons | apply Rem.there))) ?_)
          rintro v0 s1 ⟨rfl, rfl⟩
          refine incat ?_
          refine WpL.v (V.cmp rfl rfl e3) ?_
          refine WpL.v (V.pT) ?_
          refine WpL.v (V.mv) ?_
          refine WpL.sk ?_
          refine WpL.sk ?_
          refine WpL.sk ?_
          refine WpL.sk ?_
          refine WpL.v (V.pF) ?_
          apply WpL.nil
          apply Out.seqN
          refine Wp.cF ?_
          apply Wp.skip
          apply Out.blockN
          apply Out.seqN
          apply Wp.region
          refine WpL.v (V.add) ?_
          refine WpL.v (V.mv) ?_
          apply WpL.nil
          exact Out.ag hK ⟨i + 1, y, ss2, re2⟩ ⟨by show i + 1 ≤ _; omega, hk2, hq2⟩ (by show xs.length - (i + 1) < xs.length - i; omega)
        have e2 : cmpI .eql x.phase 2 = some false := by simp [cmpI, x2]
        apply Wp.seq
        apply Wp.region
        refine WpL.v (V.cmp) ?_
        apply WpL.nil
        apply Out.seqN
        apply Wp.seq
        refine Wp.cF ?_
        apply Wp.exit
        apply Out.seqE
        apply Out.seqE
        apply Out.blockE
        apply Out.seqN
        apply Wp.seq
        apply Wp.seq
        refine Wp.dG [] ?_ (List.Sublist.cons _ (List.Sublist.cons _ (List.Sublist.cons _ (List.Sublist.cons _ (List.Sublist.cons _ (List.Sublist.cons _ (List.Sublist.cons _ (List.Sublist.cons _ (List.Sublist.cons_cons _ (List.Sublist.cons_cons _ List.Sublist.slnil)))))))))) (List.Sublist.cons _ (List.Sublist.cons _ (List.Sublist.cons _ (List.Sublist.cons _ (List.Sublist.cons _ (List.Sublist.cons _ (List.Sublist.cons _ (List.Sublist.cons _ (List.Sublist.cons_cons _ (List.Sublist.cons_cons _ List.Sublist.slnil))))))))))
        refine WpA.tF 0 rfl (V.mv) ?_
        refine WpA.tF 1 rfl (V.cmp rfl rfl e1) ?_
        refine WpA.tF 2 rfl (V.mv) ?_
        refine WpA.s 3 rfl ?_
        refine WpA.s 4 rfl ?_
        refine WpA.s 5 rfl ?_
        refine WpA.tF 6 rfl (V.pF) ?_
        refine WpA.tF 7 rfl (V.mv) ?_
        refine WpA.s 8 rfl ?_
        refine WpA.s 9 rfl ?_
        refine WpA.s 10 rfl ?_
        refine WpA.s 11 rfl ?_
        refine WpA.s 12 rfl ?_
        refine WpA.s 13 rfl ?_
        refine WpA.s 14 rfl ?_
        refine WpA.s 15 rfl ?_
        refine WpA.s 16 rfl ?_
        refine WpA.s 17 rfl ?_
        refine WpA.s 18 rfl ?_
        refine WpA.s 19 rfl ?_
        refine WpA.s 20 rfl ?_
        refine WpA.s 21 rfl ?_
        refine WpA.s 22 rfl ?_
        refine WpA.s 23 rfl ?_
        refine WpA.s 24 rfl ?_
        refine WpA.s 25 rfl ?_
        refine WpA.s 26 rfl ?_
        refine WpA.s 27 rfl ?_
        refine WpA.tF 28 rfl (V.pF) ?_
        refine WpA.ou ?_
        apply Out.seqN
        refine Wp.cF ?_
        apply Wp.skip
        apply Out.seqN
        apply Wp.seq
        apply Wp.seq
        refine Wp.dG [] ?_ (List.Sublist.cons _ (List.Sublist.cons _ (List.Sublist.cons _ (List.Sublist.cons _ (List.Sublist.cons_cons _ (List.Sublist.cons _ (List.Sublist.cons _ (List.Sublist.cons _ (List.Sublist.cons _ (List.Sublist.cons_cons _ List.Sublist.slnil)))))))))) (List.Sublist.cons _ (List.Sublist.cons _ (List.Sublist.cons _ (List.Sublist.cons _ (List.Sublist.cons_cons _ (List.Sublist.cons _ (List.Sublist.cons _ (List.Sublist.cons _ (List.Sublist.cons _ (List.Sublist.cons_cons _ List.Sublist.slnil))))))))))
        refine WpA.tF 0 rfl (V.mv) ?_
        refine WpA.tF 1 rfl (V.cmp rfl rfl e1) ?_
        refine WpA.tF 2 rfl (V.mv) ?_
        refine WpA.s 3 rfl ?_
        refine WpA.s 4 rfl ?_
        refine WpA.s 5 rfl ?_
        refine WpA.tF 6 rfl (V.pF) ?_
        refine WpA.tF 7 rfl (V.mv) ?_
        refine WpA.s 8 rfl ?_
        refine WpA.s 9 rfl ?_
        refine WpA.s 10 rfl ?_
        refine WpA.s 11 rfl ?_
        refine WpA.s 12 rfl ?_
        refine WpA.s 13 rfl ?_
        refine WpA.s 14 rfl ?_
        refine WpA.s 15 rfl ?_
        refine WpA.s 16 rfl ?_
        refine WpA.s 17 rfl ?_
        refine WpA.s 18 rfl ?_
        refine WpA.s 19 rfl ?_
        refine WpA.s 20 rfl ?_
        refine WpA.s 21 rfl ?_
        refine WpA.s 22 rfl ?_
        refine WpA.s 23 rfl ?_
        refine WpA.tF 24 rfl (V.pF) ?_
        refine WpA.ou ?_
        apply Out.seqN
        refine Wp.cF ?_
        apply Wp.skip
        apply Out.seqN
        apply Wp.seq
        apply Wp.region
        refine WpL.v (V.mv) ?_
        refine WpL.v (V.cmp rfl rfl e2) ?_
        refine WpL.v (V.mv) ?_
        refine WpL.sk ?_
        refine WpL.sk ?_
        refine WpL.sk ?_
        refine WpL.v (V.pF) ?_
        refine WpL.v (V.mv) ?_
        refine WpL.sk ?_
        refine WpL.sk ?_
        refine WpL.sk ?_
        refine WpL.sk ?_
        refine WpL.v (V.pF) ?_
        apply WpL.nil
        apply Out.seqN
        refine Wp.cF ?_
        apply Wp.skip
        apply Out.blockN
        apply Out.seqN
        apply Wp.region
        refine WpL.v (V.add) ?_
        refine WpL.v (V.mv) ?_
        apply WpL.nil
        exact Out.ag hK ⟨i + 1, y, ss2, re2⟩ ⟨by show i + 1 ≤ _; omega, hk2, hq2⟩ (by show xs.length - (i + 1) < xs.length - i; omega)
    · obtain rfl : i = xs.length := by omega
      apply Wp.seq
      apply Wp.region
      refine WpL.v (V.cmp) ?_
      apply WpL.nil
      apply Out.seqN
      apply Wp.seq
      refine Wp.c (fun hf0 => ?_) (fun hf0 => ?_)
      (try simp only [decide_eq_true_eq, decide_eq_false_iff_not, Bool.not_eq_true', Bool.not_eq_false', Bool.not_eq_true, Bool.not_eq_false, not_true_eq_false, not_false_eq_true, reduceCtorEq] at hf0)
      (exfalso; omega)
      (try simp only [decide_eq_true_eq, decide_eq_false_iff_not, Bool.not_eq_true', Bool.not_eq_false', Bool.not_eq_true, Bool.not_eq_false, not_true_eq_false, not_false_eq_true, reduceCtorEq] at hf0)
      apply Wp.exit
      apply Out.seqE
      apply Out.seqE
      apply Out.blockE
      apply Out.seqN
      apply Wp.seq
      apply Wp.region
      refine WpL.v (V.as) ?_
      apply WpL.nil
      apply Out.seqN
      apply Wp.ret
      refine Out.f1 rfl ResIs.t ⟨?_, rfl⟩
      exact rfl
  · rw [show (!(decide (c.N = 3) || (decide (c.N = 5) || decide (c.N = 7))) || decide (60 < xs.length)) = true by simp; omega] at hG
    refine Ct.enter Try.func11 rfl rfl fun W => ?_
    apply Wp.seq
    apply Wp.region
    refine WpL.o (O.bxA (fun p2 => ?_))
    refine WpL.v (V.as) ?_
    apply WpL.nil
    apply Out.seqN
    apply Wp.seq
    apply Wp.seq
    apply Wp.region
    refine WpL.o (Op1.fn rfl (alive14) ?_)
    refine WpL.v (V.not) ?_
    apply WpL.nil
    apply Out.seqN
    refine Wp.cF ?_
    apply Wp.skip
    apply Out.seqN
    apply Wp.seq
    apply Wp.seq
    apply Wp.region
    refine WpL.v (V.ldA tb) ?_
    refine WpL.v (V.mv) ?_
    refine WpL.o (Op1.fn rfl (hG) ?_)
    apply WpL.nil
    apply Out.seqN
    refine Wp.cT ?_
    apply Wp.seq
    apply Wp.region
    refine WpL.v (V.as) ?_
    apply WpL.nil
    apply Out.seqN
    apply Wp.ret
    apply Out.seqR
    refine Out.f1 rfl ResIs.t ⟨?_, rfl⟩
    exact rfl
open Go Go.ChangeShapes Go.WideShapes Go.ChangeAt Go.RowKit
theorem leadQuorums_read : (Try.f11.params.toList.all fun t => Try.prog.readableRec t && decide (t < Try.prog.types.size)) = true := by kernel_rfl
theorem leadQuorums_lifted (os : Go.Os) (started : os.Started) (H : Type) (enc : Go.TypeId × Go.Value → H) :
    ReturnsInHanded {} Try.checked os 11 .any (Rows.leadQuorumsSpec.pre6 enc Try.prog Try.f11 Rows.leadQuorumsRow.domain false) (Rows.leadQuorumsSpec.post enc Try.prog Try.f11 false true false false) := by
  refine returnsInHanded_of_change_sized (C := Try.checked) own started (by kernel_rfl) Try.func11
    (ChangeSpec.witness6 (enc := enc) (C := Try.checked) false ⟨#[], #[A Caucuslaw14Case.z.c, .slice none 0 0], []⟩ 8 (by kernel_rfl) (by kernel_rfl) (by kernel_rfl) (by kernel_rfl)) ?_
  intro W base args ds gs before hval0 hW hcnd hsz0 _
  have hsz : (DataW.weightsEach Try.prog (Try.f11.params.toList ++ Rows.leadQuorumsSpec.plain.varTypes Try.prog) (ds ++ gs)).all (· ≤ reachBytes) = true := hsz0
  have hval : ∀ (j : Nat) t v, Try.f11.params[j]? = some t → args[j]? = some v → Value.okWide Try.prog W .any base t v := hval0
  have hW' := hW
  obtain ⟨p, q, hA0, hV, rfl, hfz, hnd⟩ := hW
  have hA1 : DataW.TrodAll enc Try.prog W 0 (fun _ => true) true Try.f11.params.toList args.toList ds p := hA0
  have hA := hA1
  rw [Try.params11] at hA hval hsz
  obtain ⟨v0, vs0, d0, ds0, p0, q0, hargs, rfl, rfl, h0, r0⟩ := trodAll_cons hA
  obtain ⟨v1, vs1, d1, ds1, p1, q1, rfl, rfl, rfl, h1, r1⟩ := trodAll_cons r0
  obtain ⟨rfl, rfl, rfl⟩ := trodAll_nil r1
  obtain rfl : args = #[v0, v1] := by cases args; simp_all
  obtain ⟨rfl, rfl⟩ := trodVars_none hV
  obtain ⟨c0, rfl, f0⟩ := open_plain Caucuslaw14Case.leaves ⟨_, Try.underlying69⟩ (hval 0 69 v0 rfl rfl) h0 (sizedAll hsz 0 rfl rfl)
  obtain ⟨x0, rfl, w0⟩ := Caucuslaw14Case.fit f0
  obtain ⟨ao1, b1, off1, len1, cap1, xs1, rfl, hl1, hlc1, hcm1, ha1, hs1, hf1, hby1⟩ := open_slice_plain Try.underlying82 Caucuslaw14Step.leaves (by kernel_rfl) (by decide) (hval 1 82 v1 rfl rfl) h1 (sizedAll hsz 1 rfl rfl)
  obtain ⟨x1, rfl, w1⟩ := fits_map Caucuslaw14Step.c Caucuslaw14Step.wf hf1 Caucuslaw14Step.fit
  obtain rfl : len1 = x1.length := by simpa using hl1.symm
  simp only [List.append_nil] at hW' hA1
  have hbl : ∀ p : Nat × Nat, p ∈ [(x1.length, b1)] → 0 < p.1 → p.2 < W.heap.size := by
    intro p hp h0
    simp only [List.mem_cons, List.mem_nil_iff, or_false] at hp
    rcases hp with rfl
    · exact (ha1 h0).2
  have hR1 : Rd (snap W (blocksOf [(x1.length, b1)])) ao1 x1.length b1 off1 26 (x1.map Caucuslaw14Step.c) := Rd.snap (by simp) (Nat.le_trans hlc1 hcm1) ha1 hs1 (fun h => blocksOf_mem (len := x1.length) (by simp) h)
  refine (Ct.runSnap (blocksOf_nodup _) (blocksOf_lt hbl) (leadQuorums_walk _ _ _ _ _ x0 x1 hR1)).mono fun e W' hh => ?_
  obtain ⟨rfl, hS⟩ := hh
  exact ⟨_, rfl, post_law (P := Try.prog) (f := Try.f11) (tbool := 4) hW' hA1 rfl rfl hS laid leadQuorums_read rfl Try.underlying4⟩
theorem leadQuorums_joined : joinedFacts Try.prog 11 Try.f11 Rows.leadQuorumsSpec Rows.leadQuorumsRow = true := by
  unfold joinedFacts
  rewrite [head_enter, head_lift, head_make]
  kernel_rfl
theorem leadQuorums_over : Rows.leadQuorumsRow.holds Try.pinned (OpenSpec.ofChange Rows.leadQuorumsSpec) :=
  OpenClaim.holds_of_wide 11 Try.f11 rfl rfl rfl rfl rfl rfl rfl ⟨rfl, rfl, rfl, rfl, rfl⟩ rfl rfl rfl rfl rfl (by kernel_rfl) Try.func11 leadQuorums_joined
    (of_decide_eq_true (by kernel_rfl)) (by unfold Func.isWrapper; first | (rw [if_pos (by decide +kernel)]; kernel_rfl) | (rw [if_neg (by decide +kernel)]; exact ⟨rfl, rfl⟩))
    (fun os started H enc _ => leadQuorums_lifted os started H enc)
/-- THE STATEMENT. -/
theorem leadQuorums_proved : Rows.LeadQuorumsSaid := leadQuorums_over
#print axioms leadQuorums_proved

end Go.Proofs.Ythoepbbpmdmfeaa
