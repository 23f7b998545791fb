/-
  Layer 14: a lead.
-/
import Derived.Test.YthoepbbpmdmfeaaVotesIt
import Derived.Test.YthoepbbpmdmfeaaRefL
import Derived.Test.YthoepbbpmdmfeaaHeapB
namespace Go.Proofs.Ythoepbbpmdmfeaa
open Go.HL
set_option linter.unusedSimpArgs false
set_option linter.unusedVariables false
set_option maxRecDepth 8000
def LeadS.pre (x : LeadS) : List Go.Value := [I x.n, I x.self] ++ (x.item.c ++ (x.ballot.c ++ (x.call.c ++ [I x.phase])))
def LeadS.pre2 (x : LeadS) : List Go.Value := x.pre ++ votesC x.pl x.ph x.pn
theorem LeadS.vm (x : LeadS) : x.c = VM x.pre x.pl x.ph x.pn (oksC x.ol x.oh x.om) := rfl
theorem LeadS.vs (x : LeadS) : x.c = VS (fun b : Bool => B b) x.pre2 x.ol x.oh x.om [] := by
  rw [LeadS.vm]; unfold VM VS LeadS.pre2 oksC; simp only [List.append_assoc, List.append_nil]
structure LeadS.wf (x : LeadS) : Prop where
  pl : x.pl.length = 7
  ph : x.ph.length = 7
  ol : x.ol.length = 7
  oh : x.oh.length = 7
  pn : x.pn = (x.ph.count true : Int)
  om : x.om = (x.oh.count true : Int)
theorem LeadS.wf.v {x : LeadS} (w : x.wf) : VOk x.pre 21 x.pl x.ph := ⟨rfl, w.pl, w.ph⟩
theorem LeadS.wf.o {x : LeadS} (w : x.wf) : WOk x.pre2 204 x.ol x.oh := ⟨by
  have : (votesC x.pl x.ph x.pn).length = 183 := by unfold votesC; simp only [List.length_append, flatM w.pl, List.length_map, w.ph, List.length_cons, List.length_nil]
  rw [LeadS.pre2, List.length_append, this]; rfl, w.ol, w.oh⟩
theorem LeadS.wf.pb {x : LeadS} (w : x.wf) : 0 ≤ x.pn ∧ x.pn ≤ 7 := by
  have := List.count_le_length (a := true) (l := x.ph)
  rw [w.pn]; rw [w.ph] at this; omega
theorem LeadS.wf.ob {x : LeadS} (w : x.wf) : 0 ≤ x.om ∧ x.om ≤ 7 := by
  have := List.count_le_length (a := true) (l := x.oh)
  rw [w.om]; rw [w.oh] at this; omega
def LeadS.isFast (x : LeadS) : Bool := decide (x.ballot = ⟨0, x.item.Rep⟩)
def LeadS.slow (x : LeadS) : LeadS := { x with call := (vAll x.pl x.ph).foldl (fun c p => mrg c p.2.Call) x.call, phase := 2 }
theorem lead_fast (b : Nat) (x : LeadS) (w : x.wf) : Ct Try.prog 110 [Ptr b 0] [cells b 142 x.c] (fun r σ' => r = B x.isFast ∧ σ' = [cells b 142 x.c]) := by
  refine Ct.enter Try.func110 rfl rfl fun W => ?_
  apply Wp.seq
  apply Wp.region
  refine WpL.v (V.as) ?_
  apply WpL.nil
  apply Out.seqN
  apply Wp.seq
  refine Wp.dG [] ?_ (List.Sublist.cons_cons _ List.Sublist.slnil) (List.Sublist.cons_cons _ List.Sublist.slnil)
  refine WpA.tF 0 rfl (V.mv) ?_
  refine WpA.tF 1 rfl (V.nc) ?_
  refine WpA.tF 2 rfl (V.fa tb) ?_
  refine WpA.tF 3 rfl (V.ldA tb) ?_
  refine WpA.tF 4 rfl (V.mv) ?_
  refine WpA.tF 5 rfl (V.nc) ?_
  refine WpA.tF 6 rfl (V.fa tb) ?_
  refine WpA.tF 7 rfl (V.fa tb) ?_
  refine WpA.tF 8 rfl (V.ld1 tb) ?_
  refine WpA.oS 9 rfl (Op1.fn rfl (ballot_first _) ⟨?_, ?_, ?_⟩)
  exact holdT
  exact holdT
  refine WpA.tF 10 rfl (V.eq (TBallot.eqT _ _ _)) ?_
  refine WpA.tF 11 rfl (V.as) ?_
  refine WpA.ou ?_
  apply Out.seqN
  apply Wp.ret
  refine Out.f1 rfl ResIs.t ⟨?_, rfl⟩
  exact rfl
theorem LeadS.wf.call {x : LeadS} (w : x.wf) (c : TCall) : ({ x with call := c } : LeadS).wf := ⟨w.pl, w.ph, w.ol, w.oh, w.pn, w.om⟩
theorem lead_has (b : Nat) (x : LeadS) (w : x.wf) (rep : Int) : Ct Try.prog 125 [Ptr b 21, I rep] [cells b 142 x.c] (fun r σ' => r = B (decide (0 ≤ rep ∧ rep < 7) && x.ph.getD rep.toNat false) ∧ σ' = [cells b 142 x.c]) :=
  votes_hasM (post := oksC x.ol x.oh x.om) (n := x.pn) b 142 w.v rep
theorem lead_iter (b q : Nat) (x : LeadS) (w : x.wf) :
    IterZ Try.prog 124 [Ptr q 0] (fun c : TCall => [cells b 142 ({ x with call := c } : LeadS).c]) encVM (fun k i c c' => (vAll x.pl x.ph)[k]? = some i ∧ c' = c) (fun k c => k = (vAll x.pl x.ph).length)
      [cells q 173 [Ptr b 21], cells b 142 x.c] [cells q 173 [Ptr b 21]] x.call := by
  intro y γ pr G X S c0 hp0 hG0 hY
  refine Ct.enter Try.func124 rfl rfl fun W => ?_
  apply Wp.seq
  apply Wp.region
  refine WpL.v (V.mv) ?_
  apply WpL.nil
  apply Out.seqN
  apply Wp.block
  rw [show cells b 142 x.c = cells b 142 ({ x with call := pr c0 } : LeadS).c by rw [hp0]]
  refine Wp.lp [0, 1] (fun y : Nat × γ => y.1 ≤ 7 ∧ G (vUpto x.pl x.ph y.1).length y.2) (fun y => [(4, I (y.1 : Int))]) (fun y => [S y.2, cells b 142 ({ x with call := pr y.2 } : LeadS).c]) (fun y => 7 - y.1) (0, c0) ⟨by omega, hG0⟩ ?_
  rintro ⟨k, c⟩ ⟨hk, hG⟩ K hK
  dsimp only at hk hG
  dsimp only [List.cons_append, List.nil_append]
  have hsu := vUpto_succ x.pl x.ph k
  by_cases hk7 : k < 7
  · have wc := w.call (pr c)
    have hT := lead_has b _ wc (k : Int)
    rw [show decide (0 ≤ (k : Int) ∧ (k : Int) < 7) = true by simp; omega, Bool.true_and, show ((k : Int)).toNat = k by omega] at hT
    dsimp only at hT
    cases hv : x.ph.getD k false with
    | false =>
      rw [hv] at hT
      rw [show vAt x.pl x.ph k = none by unfold vAt; rw [hv]; simp] at hsu
      simp only [Option.toList_none, List.append_nil] at hsu
      apply Wp.seq
      apply Wp.region
      refine WpL.v (V.cmp) ?_
      apply WpL.nil
      apply Out.seqN
      apply Wp.seq
      refine Wp.c (fun hz10 => ?_) (fun hz10 => ?_)
      (try simp only [decide_eq_true_eq, decide_eq_false_iff_not, Bool.not_eq_true', Bool.not_eq_false', Bool.not_eq_true, Bool.not_eq_false, not_true_eq_false, not_false_eq_true, reduceCtorEq] at hz10)
      apply Wp.skip
      apply Out.seqN
      apply Wp.seq
      apply Wp.block
      apply Wp.seq
      apply Wp.region
      refine WpL.v (V.mv) ?_
      refine WpL.v (V.as) ?_
      apply WpL.nil
      apply Out.seqN
      apply Wp.seq
      apply Wp.region
      refine WpL.v (V.ld1 tb) ?_
      refine WpL.v (V.mv) ?_
      refine WpL.o (Op1.callT rfl (hT) (by (repeat (first | exact Sel.nil | exact Rem.here | apply Sel.cons | apply Rem.there))) ?_)
      rintro v1 s2 ⟨rfl, rfl⟩
      refine incat ?_
      refine WpL.v (V.mv) ?_
      refine WpL.sk ?_
      refine WpL.sk ?_
      refine WpL.sk ?_
      refine WpL.sk ?_
      refine WpL.sk ?_
      refine WpL.sk ?_
      refine WpL.sk ?_
      refine WpL.sk ?_
      refine WpL.sk ?_
      refine WpL.sk ?_
      refine WpL.v (V.pF) ?_
      apply WpL.nil
      apply Out.seqN
      refine Wp.cF ?_
      apply Wp.skip
      apply Out.blockN
      apply Out.seqN
      apply Wp.region
      refine WpL.v (V.add) ?_
      refine WpL.v (V.mv) ?_
      apply WpL.nil
      rotate_left
      (try simp only [decide_eq_true_eq, decide_eq_false_iff_not, Bool.not_eq_true', Bool.not_eq_false', Bool.not_eq_true, Bool.not_eq_false, not_true_eq_false, not_false_eq_true, reduceCtorEq] at hz10)
      (exfalso; omega)
      exact Out.ag hK (k + 1, c) ⟨by show k + 1 ≤ 7; omega, by rw [hsu]; exact hG⟩ (by show 7 - (k + 1) < 7 - k; omega)
    | true =>
      rw [hv] at hT
      obtain ⟨m, hx⟩ := getS (xs := x.pl) (k := k) (by rw [w.pl]; exact hk7)
      have ha : vAt x.pl x.ph k = some (k, m) := by unfold vAt; rw [hv, if_pos rfl, hx]; rfl
      rw [ha] at hsu
      simp only [Option.toList_some] at hsu
      obtain ⟨post', hsp⟩ := vAll_split hk7 ha
      have hYy := hY (vUpto x.pl x.ph k).length (k, m) c (pr c) hG ⟨by rw [hsp, List.getElem?_append_right (Nat.le_refl _), Nat.sub_self]; rfl, rfl⟩
      have hl1 : (vUpto x.pl x.ph (k + 1)).length = (vUpto x.pl x.ph k).length + 1 := by rw [hsu]; simp
      have hL : SegOf (21 + 0 + k * 25) 25 ({ x with call := pr c } : LeadS).c m.c := VM.get wc.v hx
      apply Wp.seq
      apply Wp.region
      refine WpL.v (V.cmp) ?_
      apply WpL.nil
      apply Out.seqN
      apply Wp.seq
      refine Wp.c (fun hz20 => ?_) (fun hz20 => ?_)
      (try simp only [decide_eq_true_eq, decide_eq_false_iff_not, Bool.not_eq_true', Bool.not_eq_false', Bool.not_eq_true, Bool.not_eq_false, not_true_eq_false, not_false_eq_true, reduceCtorEq] at hz20)
      apply Wp.skip
      apply Out.seqN
      apply Wp.seq
      apply Wp.block
      apply Wp.seq
      apply Wp.region
      refine WpL.v (V.mv) ?_
      refine WpL.v (V.as) ?_
      apply WpL.nil
      apply Out.seqN
      apply Wp.seq
      apply Wp.region
      refine WpL.v (V.ld1 tb) ?_
      refine WpL.v (V.mv) ?_
      refine WpL.o (Op1.callT rfl (hT) (by (repeat (first | exact Sel.nil | exact Rem.here | apply Sel.cons | apply Rem.there))) ?_)
      rintro v1 s2 ⟨rfl, rfl⟩
      refine incat ?_
      refine WpL.v (V.mv) ?_
      refine WpL.v (V.mv) ?_
      refine WpL.v (V.mv) ?_
      refine WpL.v (V.ld1 tb) ?_
      refine WpL.v (V.mv) ?_
      refine WpL.v (V.nc) ?_
      refine WpL.v (V.fa tb) ?_
      refine WpL.v (V.ixA2 tb (k := k) rfl rfl rfl) ?_
      refine WpL.v (V.ldA tb (hl := VM.bL (post := oksC x.ol x.oh x.om) (n := x.pn) wc.v hk7) (hs := hL)) ?_
      refine WpL.o (Op1.callY rfl rfl (hYy) (by (repeat (first | exact Sel.nil | exact Rem.here | apply Sel.cons | apply Rem.there))) ?_)
      rintro v5 s6 ⟨c'19, ⟨t19, ⟨rfl, ⟨hx3, ⟨hx4, rfl⟩⟩⟩⟩⟩
      refine incat ?_
      refine WpL.v (V.not) ?_
      refine WpL.v (V.pT) ?_
      apply WpL.nil
      apply Out.seqN
      refine Wp.c (fun hz27 => ?_) (fun hz27 => ?_)
      (try simp only [decide_eq_true_eq, decide_eq_false_iff_not, Bool.not_eq_true', Bool.not_eq_false', Bool.not_eq_true, Bool.not_eq_false, not_true_eq_false, not_false_eq_true, reduceCtorEq] at hz27)
      apply Wp.ret
      apply Out.blockR
      apply Out.seqR
      apply Out.seqR
      apply Out.blockR
      refine Out.e0 rfl  ?_
      focus (exact ⟨_, _, ⟨_, (vUpto x.pl x.ph k).length + 1, .inr (by apply_assumption; assumption), rfl⟩, (by (repeat (first | exact Sel.nil | exact Rem.here | apply Sel.cons | apply Rem.there)))⟩; done)
      (try simp only [decide_eq_true_eq, decide_eq_false_iff_not, Bool.not_eq_true', Bool.not_eq_false', Bool.not_eq_true, Bool.not_eq_false, not_true_eq_false, not_false_eq_true, reduceCtorEq] at hz27)
      apply Wp.skip
      apply Out.blockN
      apply Out.seqN
      apply Wp.region
      refine WpL.v (V.add) ?_
      refine WpL.v (V.mv) ?_
      apply WpL.nil
      rotate_left
      (try simp only [decide_eq_true_eq, decide_eq_false_iff_not, Bool.not_eq_true', Bool.not_eq_false', Bool.not_eq_true, Bool.not_eq_false, not_true_eq_false, not_false_eq_true, reduceCtorEq] at hz20)
      (exfalso; omega)
      exact Out.ag hK (k + 1, _) ⟨by show k + 1 ≤ 7; omega, by show G _ _; rw [hl1]; apply_assumption; assumption⟩ (by show 7 - (k + 1) < 7 - k; omega)
  · obtain rfl : k = 7 := by omega
    apply Wp.seq
    apply Wp.region
    refine WpL.v (V.cmp) ?_
    apply WpL.nil
    apply Out.seqN
    apply Wp.seq
    refine Wp.cF ?_
    apply Wp.exit
    apply Out.seqE
    apply Out.seqE
    apply Out.blockE
    refine Out.e0 rfl  ?_
    focus (exact ⟨_, _, ⟨c, _, .inl ⟨hG, rfl⟩, rfl⟩, (by (repeat (first | exact Sel.nil | exact Rem.here | apply Sel.cons | apply Rem.there)))⟩; done)
theorem lead_slow (b : Nat) (x : LeadS) (w : x.wf) : Ct Try.prog 88 [Ptr b 0] [cells b 142 x.c] (fun r σ' => r = B true ∧ σ' = [cells b 142 x.slow.c]) := by
  refine Ct.enter Try.func88 rfl rfl fun W => ?_
  apply Wp.seq
  apply Wp.region
  refine WpL.o (O.bx1 (fun p1 => ?_))
  refine WpL.v (V.as) ?_
  apply WpL.nil
  apply Out.seqN
  apply Wp.seq
  apply Wp.seq
  apply Wp.region
  refine WpL.v (V.ld1 tb) ?_
  refine WpL.v (V.nc) ?_
  refine WpL.v (V.fa tb) ?_
  refine WpL.o (Op1.callT rfl (votes_allM _ rfl) (by (repeat (first | exact Sel.nil | exact Rem.here | apply Sel.cons | apply Rem.there))) ?_)
  rintro v0 s1 ⟨q8, ⟨rfl, rfl⟩⟩
  refine incat ?_
  apply WpL.nil
  apply Out.seqN
  apply Wp.block
  refine Wp.rgZ (lead_iter b _ x w) (fun c : TCall => c) (fun _ => [cells p1 72 [Ptr b 0]]) (fun k c => c = ((vAll x.pl x.ph).take k).foldl (fun c p => mrg c p.2.Call) x.call) (fun _ _ _ => False) x.call rfl rfl ?_ ?_ ?_
  · rintro k ⟨j, m⟩ c b' l rec hc ⟨hk, rfl⟩ hr W' D' K hK
    dsimp only [List.cons_append, List.nil_append]
    have e1 : (vAll x.pl x.ph).take (k + 1) = (vAll x.pl x.ph).take k ++ [(j, m)] := take_snocS hk
    have e2 : ((vAll x.pl x.ph).take (k + 1)).foldl (fun c p => mrg c p.2.Call) x.call = mrg b' m.Call := by rw [e1, List.foldl_append, ← hc]; rfl
    have hG (g : Nat) : Ct Try.prog 80 [A b'.c, .slice (some ⟨g, 0, none⟩) 1 1] [rows TCall.c (.slice (some ⟨g, 0, none⟩) 1 1) 33 14 [m.Call]] (fun r σ' => r = A (mrg b' m.Call).c ∧ σ' = [rows TCall.c (.slice (some ⟨g, 0, none⟩) 1 1) 33 14 [m.Call]]) :=
      deps_merge _ _ 1 _ _ b' [m.Call] (Rd.rows (l := [m.Call]) TCall.len (by simp))
    apply Wp.region
    refine WpL.o (O.al tb (fun p4 => ?_))
    refine WpL.o (O.stA tb ?_)
    apply WpL.nil
    refine Out.bg (by assumption) ?_
    apply Wp.block
    refine Wp.dG [] ?_ (List.Sublist.cons_cons _ (List.Sublist.cons_cons _ (List.Sublist.cons_cons _ (List.Sublist.cons _ List.Sublist.slnil)))) (List.Sublist.cons_cons _ (List.Sublist.cons_cons _ (List.Sublist.cons_cons _ (List.Sublist.cons _ List.Sublist.slnil))))
    refine WpA.tF 0 rfl (V.ld1 tb) ?_
    refine WpA.tF 1 rfl (V.ld1 tb) ?_
    refine WpA.tF 2 rfl (V.nc) ?_
    refine WpA.tF 3 rfl (V.fa tb) ?_
    refine WpA.tF 5 rfl (V.fa tb) ?_
    refine WpA.tF 6 rfl (V.ldA tb) ?_
    refine WpA.e2 4 7 rfl rfl ?_ ?_
    refine Op1.vv (V.ldA tb) ⟨?_, ?_, ?_⟩
    exact holdT
    exact holdT
    refine WpA.oS 7 rfl (O.litL tb TCall.c [m.Call] rfl (PartsFrom.agg rfl PartsFrom.nil) rfl rfl (fun p18 => ⟨?_, ?_, ?_⟩))
    exact holdT
    exact holdT
    refine WpA.oS 8 rfl (Op1.callT rfl (hG _) (by (repeat (first | exact Sel.nil | exact Rem.here | apply Sel.cons | apply Rem.there))) ?_)
    rintro v0 s1 ⟨rfl, rfl⟩
    refine incat ⟨?_, ?_, ?_⟩
    exact holdT
    exact holdT
    refine WpA.tF 9 rfl (V.nc) ?_
    refine WpA.tF 10 rfl (V.fa tb) ?_
    refine WpA.oS 11 rfl (O.stA tb ⟨?_, ?_, ?_⟩)
    exact holdT
    exact holdT
    refine WpA.ou ?_
    apply Out.blockN
    rotate_left
    refine O.litL tb TCall.c [m.Call] rfl (PartsFrom.agg rfl PartsFrom.nil) rfl rfl (fun p18 => ⟨?_, ?_, ?_⟩)
    exact holdT
    exact holdT
    refine WpA.oS 4 rfl (Op1.vv (V.ldA tb) ⟨?_, ?_, ?_⟩)
    exact holdT
    exact holdT
    refine WpA.oS 8 rfl (Op1.callT rfl (hG _) (by (repeat (first | exact Sel.nil | exact Rem.here | apply Sel.cons | apply Rem.there))) ?_)
    rintro v2 s3 ⟨rfl, rfl⟩
    refine incat ⟨?_, ?_, ?_⟩
    exact holdT
    exact holdT
    refine WpA.tF 9 rfl (V.nc) ?_
    refine WpA.tF 10 rfl (V.fa tb) ?_
    refine WpA.oS 11 rfl (O.stA tb ⟨?_, ?_, ?_⟩)
    exact holdT
    exact holdT
    refine WpA.ou ?_
    apply Out.blockN
    rotate_left
    all_goals exact Out.rd hK (mrg b' m.Call) (by show _ = _; rw [e2])
  · rintro k c bb rfl hstop
    have hs' : k = (vAll x.pl x.ph).length := hstop
    rw [hs', List.take_length]
    apply Out.blockN
    apply Out.seqN
    apply Wp.seq
    apply Wp.region
    refine WpL.v (V.ld1 tb) ?_
    refine WpL.v (V.nc) ?_
    refine WpL.v (V.fa tb) ?_
    refine WpL.o (O.st1 tb ?_)
    apply WpL.nil
    apply Out.seqN
    apply Wp.seq
    apply Wp.region
    refine WpL.v (V.as) ?_
    apply WpL.nil
    apply Out.seqN
    apply Wp.ret
    refine Out.f1 rfl ResIs.t ⟨?_, rfl⟩
    exact rfl
  · intro _ _ _ _ _ _ h
    exact h.elim
end Go.Proofs.Ythoepbbpmdmfeaa
