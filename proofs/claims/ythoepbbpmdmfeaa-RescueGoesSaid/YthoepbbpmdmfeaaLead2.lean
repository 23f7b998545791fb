/-
  Layer 14: a lead: a pre-acceptance more.
-/
import Derived.Test.YthoepbbpmdmfeaaLead
namespace Go.Proofs.Ythoepbbpmdmfeaa
open Go.HL
set_option linter.unusedSimpArgs false
set_option linter.unusedVariables false
set_option maxRecDepth 8000
theorem count_set {h : List Bool} {k : Nat} (hk : h.getD k true = false) : (h.set k true).count true = h.count true + 1 := by
  have hk2 : h[k]? = some false := by
    cases hh : h[k]? with
    | none => simp [List.getD, hh] at hk
    | some v => simp [List.getD, hh] at hk; rw [hk]
  obtain ⟨e1, e2, e3⟩ := set_parts hk2
  have e4 : h.count true = (h.take k ++ ([false] ++ h.drop (k + 1))).count true := by rw [← e1]
  rw [e3, e4]
  simp only [List.count_append, List.count_cons, List.count_nil]
  simp
  omega
def LeadS.can (x : LeadS) (rep : Int) : Bool := decide (0 ≤ rep ∧ rep < 7) && !(x.ph.getD rep.toNat true)
def LeadS.put (x : LeadS) (rep : Int) (m : TMsg) : LeadS := { x with pl := x.pl.set rep.toNat m, ph := x.ph.set rep.toNat true, pn := x.pn + 1 }
theorem LeadS.can_iff {x : LeadS} {rep : Int} : x.can rep = true ↔ 0 ≤ rep ∧ rep < 7 ∧ x.ph.getD rep.toNat true = false := by
  unfold LeadS.can; simp [and_assoc]
theorem LeadS.wf.put {x : LeadS} (w : x.wf) {rep : Int} (hc : x.can rep = true) (m : TMsg) : (x.put rep m).wf :=
  ⟨by show (x.pl.set _ _).length = 7; rw [List.length_set, w.pl], by show (x.ph.set _ _).length = 7; rw [List.length_set, w.ph], w.ol, w.oh, by
    show x.pn + 1 = ((x.ph.set _ _).count true : Int)
    rw [count_set (LeadS.can_iff.1 hc).2.2, w.pn]; omega, w.om⟩
theorem lead_put (b : Nat) (x : LeadS) (w : x.wf) (rep : Int) (m : TMsg) : Ct Try.prog 98 [Ptr b 21, I rep, A m.c] [cells b 142 x.c] (fun r σ' => r = B (x.can rep) ∧ σ' = [cells b 142 (if x.can rep = true then x.put rep m else x).c]) := by
  have hb := w.pb
  have h := votes_put (post := oksC x.ol x.oh x.om) (n := x.pn) b 142 w.v rep m (by omega)
  refine h.mono ?_
  rintro v σ' ⟨rfl, rfl⟩
  refine ⟨rfl, ?_⟩
  by_cases hc : x.can rep = true
  · rw [if_pos hc, if_pos (LeadS.can_iff.1 hc)]; rfl
  · rw [if_neg hc, if_neg (fun h => hc (LeadS.can_iff.2 h))]; rfl
theorem lead_len (b : Nat) (x : LeadS) (w : x.wf) : Ct Try.prog 87 [Ptr b 21] [cells b 142 x.c] (fun r σ' => r = I x.pn ∧ σ' = [cells b 142 x.c]) :=
  votes_lenM (post := oksC x.ol x.oh x.om) (n := x.pn) b 142 w.v
def sameN (l : List (Nat × TMsg)) : Nat := (l.filter fun p => p.2.Same).length
theorem sameN_snoc (l : List (Nat × TMsg)) (p : Nat × TMsg) : sameN (l ++ [p]) = sameN l + (if p.2.Same = true then 1 else 0) := by
  unfold sameN; rw [List.filter_append, List.length_append]
  by_cases h : p.2.Same = true <;> simp [h]
def LeadS.hear1 (x : LeadS) (m : TMsg) : LeadS × Bool :=
  if x.can m.From = true then
    if (x.put m.From m).isFast = true ∧ 2 * faults x.n ≤ (sameN (vAll (x.put m.From m).pl (x.put m.From m).ph) : Int) then ({ x.put m.From m with phase := 3 }, true)
    else if x.pn + 1 < faults x.n + 1 then (x.put m.From m, false)
    else if (x.put m.From m).isFast = false ∨ x.n - 2 * faults x.n < x.pn + 1 - (sameN (vAll (x.put m.From m).pl (x.put m.From m).ph) : Int) then ((x.put m.From m).slow, true)
    else (x.put m.From m, false)
  else (x, false)
theorem vAll_len {α : Type} (l : List α) (h : List Bool) : (vAll l h).length ≤ 7 := by
  unfold vAll vUpto
  exact Nat.le_trans (List.length_filterMap_le _ _) (by simp)
theorem lead_pre (b : Nat) (x : LeadS) (w : x.wf) (m : TMsg) (hn : 0 ≤ x.n ∧ x.n ≤ 1000) : Ct Try.prog 84 [Ptr b 0, A m.c] [cells b 142 x.c] (fun r σ' => r = B (x.hear1 m).2 ∧ σ' = [cells b 142 (x.hear1 m).1.c]) := by
  have hP := lead_put b x w m.From m
  by_cases hc : x.can m.From = true
  · have wy := w.put hc m
    rw [if_pos hc, hc] at hP
    have hFa : faults x.n ≤ 1000 ∧ 0 ≤ faults x.n := by unfold faults; omega
    have e0 : x.hear1 m = (if (x.put m.From m).isFast = true ∧ 2 * faults x.n ≤ (sameN (vAll (x.put m.From m).pl (x.put m.From m).ph) : Int) then ({ x.put m.From m with phase := 3 }, true)
      else if x.pn + 1 < faults x.n + 1 then (x.put m.From m, false)
      else if (x.put m.From m).isFast = false ∨ x.n - 2 * faults x.n < x.pn + 1 - (sameN (vAll (x.put m.From m).pl (x.put m.From m).ph) : Int) then ((x.put m.From m).slow, true)
      else (x.put m.From m, false)) := by unfold LeadS.hear1; rw [if_pos hc]
    rw [e0]
    clear e0
    have ey : (x.put m.From m).n = x.n := rfl
    have ep : (x.put m.From m).pn = x.pn + 1 := rfl
    rw [← ey, ← ep]
    have hb := wy.pb
    generalize x.put m.From m = y at *
    have hFy := lead_fast b y wy
    have hLy := lead_len b y wy
    have hSy := lead_slow b y wy
    have hfast := ballot_fast y.n (by omega) (by omega)
    have hmost := ballot_most y.n (by omega)
    refine Ct.enter Try.func84 rfl rfl fun W => ?_
    have hI (q : Nat) : Iter Try.prog 124 [Ptr q 0] [cells q 173 [Ptr b 21], cells b 142 y.c] encVM (vAll y.pl y.ph) [cells q 173 [Ptr b 21], cells b 142 y.c] :=
      votes_iterM (post := oksC y.ol y.oh y.om) (n := y.pn) q b 142 wy.v
    apply Wp.seq
    apply Wp.region
    refine WpL.o (O.bxA (fun p3 => ?_))
    refine WpL.v (V.as) ?_
    apply WpL.nil
    apply Out.seqN
    apply Wp.seq
    apply Wp.seq
    refine Wp.dG [] ?_ (List.Sublist.cons_cons _ (List.Sublist.cons _ List.Sublist.slnil)) (List.Sublist.cons_cons _ (List.Sublist.cons _ List.Sublist.slnil))
    refine WpA.tF 0 rfl (V.mv) ?_
    refine WpA.tF 1 rfl (V.nc) ?_
    refine WpA.tF 2 rfl (V.fa tb) ?_
    refine WpA.tF 3 rfl (V.fa tb) ?_
    refine WpA.tF 4 rfl (V.ld1 tb) ?_
    refine WpA.tF 5 rfl (V.ldA tb) ?_
    refine WpA.oS 6 rfl (Op1.callT rfl (hP) (by (repeat (first | exact Sel.nil | exact Rem.here | apply Sel.cons | apply Rem.there))) ?_)
    rintro v0 s1 ⟨rfl, rfl⟩
    refine incat ⟨?_, ?_, ?_⟩
    exact holdT
    exact holdT
    refine WpA.tF 7 rfl (V.not) ?_
    refine WpA.ou ?_
    apply Out.seqN
    refine Wp.cF ?_
    apply Wp.skip
    apply Out.seqN
    apply Wp.seq
    apply Wp.region
    refine WpL.o (O.al tb (fun p5 => ?_))
    refine WpL.o (O.st1 tb ?_)
    apply WpL.nil
    apply Out.seqN
    apply Wp.seq
    apply Wp.seq
    apply Wp.region
    refine WpL.v (V.mv) ?_
    refine WpL.v (V.nc) ?_
    refine WpL.v (V.fa tb) ?_
    refine WpL.o (Op1.callT rfl (votes_allM _ rfl) (by (repeat (first | exact Sel.nil | exact Rem.here | apply Sel.cons | apply Rem.there))) ?_)
    rintro v2 s3 ⟨q19, ⟨rfl, rfl⟩⟩
    refine incat ?_
    apply WpL.nil
    apply Out.seqN
    apply Wp.block
    refine Wp.rg (hI _) (fun k : Nat => [cells p5 3 [I (k : Int)]]) (fun pre k => k = sameN pre) (fun _ _ _ => False) 0 rfl ?_ ?_ ?_
    · rintro pre ⟨j, z⟩ post k l rec hx rfl hr W' D' K hK
      have hlen := vAll_len y.pl y.ph
      have hs1 : sameN pre ≤ pre.length := List.length_filter_le _ _
      have hs2 : pre.length ≤ 7 := by rw [hx, List.length_append] at hlen; omega
      have e1 := sameN_snoc pre (j, z)
      dsimp only at e1
      cases hz : z.Same with
      | true =>
        rw [hz, if_pos rfl] at e1
        apply Wp.region
        refine WpL.o (O.al tb (fun p7 => ?_))
        refine WpL.o (O.stA tb ?_)
        apply WpL.nil
        refine Out.bg (by assumption) ?_
        apply Wp.block
        apply Wp.seq
        apply Wp.region
        refine WpL.v (V.fa tb) ?_
        refine WpL.v (V.ld1 tb (v := B true) (hr := by rw [← hz]; rfl)) ?_
        apply WpL.nil
        apply Out.seqN
        refine Wp.cT ?_
        apply Wp.region
        refine WpL.v (V.ld1 tb) ?_
        refine WpL.v (V.add) ?_
        refine WpL.o (O.st1 tb ?_)
        apply WpL.nil
        apply Out.blockN
        exact Out.rd hK (sameN pre + 1) (by show _ = _; rw [e1])
      | false =>
        rw [hz] at e1
        apply Wp.region
        refine WpL.o (O.al tb (fun p7 => ?_))
        refine WpL.o (O.stA tb ?_)
        apply WpL.nil
        refine Out.bg (by assumption) ?_
        apply Wp.block
        apply Wp.seq
        apply Wp.region
        refine WpL.v (V.fa tb) ?_
        refine WpL.v (V.ld1 tb (v := B false) (hr := by rw [← hz]; rfl)) ?_
        apply WpL.nil
        apply Out.seqN
        refine Wp.cF ?_
        apply Wp.skip
        apply Out.blockN
        exact Out.rd hK (sameN pre) (by show _ = _; rw [e1]; simp)
    · rintro k cc rfl
      generalize hS : sameN (vAll y.pl y.ph) = s at *
      cases hf : y.isFast with
      | true =>
        rw [hf] at hFy
        by_cases h1 : 2 * faults y.n ≤ (s : Int)
        · rw [if_pos ⟨rfl, h1⟩]
          apply Out.blockN
          apply Out.seqN
          apply Wp.seq
          apply Wp.block
          apply Wp.seq
          refine Wp.dG [] ?_ (List.Sublist.cons_cons _ (List.Sublist.cons_cons _ (List.Sublist.cons _ (List.Sublist.cons_cons _ (List.Sublist.cons _ List.Sublist.slnil))))) (List.Sublist.cons_cons _ (List.Sublist.cons_cons _ (List.Sublist.cons _ (List.Sublist.cons_cons _ (List.Sublist.cons _ List.Sublist.slnil)))))
          refine WpA.tF 0 rfl (V.mv) ?_
          refine WpA.oS 1 rfl (Op1.callT rfl (hFy) (by (repeat (first | exact Sel.nil | exact Rem.here | apply Sel.cons | apply Rem.there))) ?_)
          rintro v0 s1 ⟨rfl, rfl⟩
          refine incat ⟨?_, ?_, ?_⟩
          exact holdT
          exact holdT
          refine WpA.tF 2 rfl (V.mv) ?_
          refine WpA.tF 3 rfl (V.ld1 tb) ?_
          refine WpA.tF 4 rfl (V.mv) ?_
          refine WpA.tF 5 rfl (V.nc) ?_
          refine WpA.tF 6 rfl (V.fa tb) ?_
          refine WpA.tF 7 rfl (V.ld1 tb) ?_
          refine WpA.oS 8 rfl (Op1.fn rfl (hfast) ⟨?_, ?_, ?_⟩)
          exact holdT
          exact holdT
          refine WpA.tF 9 rfl (V.cmp) ?_
          refine WpA.tF 10 rfl (V.pT) ?_
          refine WpA.tF 11 rfl (V.as) ?_
          refine WpA.ou ?_
          apply Out.seqN
          refine Wp.c (fun hp32 => ?_) (fun hp32 => ?_)
          (try simp only [decide_eq_true_eq, decide_eq_false_iff_not, Bool.not_eq_true', Bool.not_eq_false', Bool.not_eq_true, Bool.not_eq_false, not_true_eq_false, not_false_eq_true, reduceCtorEq] at hp32)
          apply Wp.seq
          apply Wp.region
          refine WpL.v (V.mv) ?_
          refine WpL.v (V.nc) ?_
          refine WpL.v (V.fa tb) ?_
          refine WpL.o (O.st1 tb ?_)
          apply WpL.nil
          apply Out.seqN
          apply Wp.seq
          apply Wp.region
          refine WpL.v (V.as) ?_
          apply WpL.nil
          apply Out.seqN
          apply Wp.ret
          apply Out.blockR
          apply Out.seqR
          refine Out.f1 rfl ResIs.t ⟨?_, rfl⟩
          exact rfl
          (try simp only [decide_eq_true_eq, decide_eq_false_iff_not, Bool.not_eq_true', Bool.not_eq_false', Bool.not_eq_true, Bool.not_eq_false, not_true_eq_false, not_false_eq_true, reduceCtorEq] at hp32)
          (exfalso; omega)
        · rw [if_neg (fun h => h1 h.2)]
          by_cases h2 : y.pn < faults y.n + 1
          · rw [if_pos h2]
            apply Out.blockN
            apply Out.seqN
            apply Wp.seq
            apply Wp.block
            apply Wp.seq
            refine Wp.dG [] ?_ (List.Sublist.cons_cons _ (List.Sublist.cons_cons _ (List.Sublist.cons _ (List.Sublist.cons_cons _ (List.Sublist.cons _ List.Sublist.slnil))))) (List.Sublist.cons_cons _ (List.Sublist.cons_cons _ (List.Sublist.cons _ (List.Sublist.cons_cons _ (List.Sublist.cons _ List.Sublist.slnil)))))
            refine WpA.tF 0 rfl (V.mv) ?_
            refine WpA.oS 1 rfl (Op1.callT rfl (hFy) (by (repeat (first | exact Sel.nil | exact Rem.here | apply Sel.cons | apply Rem.there))) ?_)
            rintro v0 s1 ⟨rfl, rfl⟩
            refine incat ⟨?_, ?_, ?_⟩
            exact holdT
            exact holdT
            refine WpA.tF 2 rfl (V.mv) ?_
            refine WpA.tF 3 rfl (V.ld1 tb) ?_
            refine WpA.tF 4 rfl (V.mv) ?_
            refine WpA.tF 5 rfl (V.nc) ?_
            refine WpA.tF 6 rfl (V.fa tb) ?_
            refine WpA.tF 7 rfl (V.ld1 tb) ?_
            refine WpA.oS 8 rfl (Op1.fn rfl (hfast) ⟨?_, ?_, ?_⟩)
            exact holdT
            exact holdT
            refine WpA.tF 9 rfl (V.cmp) ?_
            refine WpA.tF 10 rfl (V.pT) ?_
            refine WpA.tF 11 rfl (V.as) ?_
            refine WpA.ou ?_
            apply Out.seqN
            refine Wp.c (fun hp42 => ?_) (fun hp42 => ?_)
            (try simp only [decide_eq_true_eq, decide_eq_false_iff_not, Bool.not_eq_true', Bool.not_eq_false', Bool.not_eq_true, Bool.not_eq_false, not_true_eq_false, not_false_eq_true, reduceCtorEq] at hp42)
            (exfalso; omega)
            (try simp only [decide_eq_true_eq, decide_eq_false_iff_not, Bool.not_eq_true', Bool.not_eq_false', Bool.not_eq_true, Bool.not_eq_false, not_true_eq_false, not_false_eq_true, reduceCtorEq] at hp42)
            apply Wp.seq
            refine Wp.dG [] ?_ (List.Sublist.cons_cons _ (List.Sublist.cons_cons _ (List.Sublist.cons _ (List.Sublist.cons _ (List.Sublist.cons _ List.Sublist.slnil))))) (List.Sublist.cons_cons _ (List.Sublist.cons_cons _ (List.Sublist.cons _ (List.Sublist.cons _ (List.Sublist.cons _ List.Sublist.slnil)))))
            refine WpA.tF 0 rfl (V.mv) ?_
            refine WpA.tF 1 rfl (V.nc) ?_
            refine WpA.tF 2 rfl (V.fa tb) ?_
            refine WpA.tF 4 rfl (V.mv) ?_
            refine WpA.tF 5 rfl (V.nc) ?_
            refine WpA.tF 6 rfl (V.fa tb) ?_
            refine WpA.tF 7 rfl (V.ld1 tb) ?_
            refine WpA.oS 3 rfl (Op1.callT rfl (hLy) (by (repeat (first | exact Sel.nil | exact Rem.here | apply Sel.cons | apply Rem.there))) ?_)
            rintro v3 s4 ⟨rfl, rfl⟩
            refine incat ⟨?_, ?_, ?_⟩
            exact holdT
            exact holdT
            refine WpA.oS 8 rfl (Op1.fn rfl (hmost) ⟨?_, ?_, ?_⟩)
            exact holdT
            exact holdT
            refine WpA.tF 9 rfl (V.cmp) ?_
            refine WpA.tF 10 rfl (V.as) ?_
            refine WpA.ou ?_
            apply Out.seqN
            refine Wp.c (fun hp45 => ?_) (fun hp45 => ?_)
            (try simp only [decide_eq_true_eq, decide_eq_false_iff_not, Bool.not_eq_true', Bool.not_eq_false', Bool.not_eq_true, Bool.not_eq_false, not_true_eq_false, not_false_eq_true, reduceCtorEq] at hp45)
            apply Wp.seq
            apply Wp.region
            refine WpL.v (V.as) ?_
            apply WpL.nil
            apply Out.seqN
            apply Wp.ret
            apply Out.blockR
            apply Out.seqR
            refine Out.f1 rfl ResIs.t ⟨?_, rfl⟩
            exact rfl
            (try simp only [decide_eq_true_eq, decide_eq_false_iff_not, Bool.not_eq_true', Bool.not_eq_false', Bool.not_eq_true, Bool.not_eq_false, not_true_eq_false, not_false_eq_true, reduceCtorEq] at hp45)
            (exfalso; omega)
          · rw [if_neg h2]
            by_cases h3 : y.n - 2 * faults y.n < y.pn - (s : Int)
            · rw [if_pos (.inr h3)]
              apply Out.blockN
              apply Out.seqN
              apply Wp.seq
              apply Wp.block
              apply Wp.seq
              refine Wp.dG [] ?_ (List.Sublist.cons_cons _ (List.Sublist.cons_cons _ (List.Sublist.cons _ (List.Sublist.cons_cons _ (List.Sublist.cons _ List.Sublist.slnil))))) (List.Sublist.cons_cons _ (List.Sublist.cons_cons _ (List.Sublist.cons _ (List.Sublist.cons_cons _ (List.Sublist.cons _ List.Sublist.slnil)))))
              refine WpA.tF 0 rfl (V.mv) ?_
              refine WpA.oS 1 rfl (Op1.callT rfl (hFy) (by (repeat (first | exact Sel.nil | exact Rem.here | apply Sel.cons | apply Rem.there))) ?_)
              rintro v0 s1 ⟨rfl, rfl⟩
              refine incat ⟨?_, ?_, ?_⟩
              exact holdT
              exact holdT
              refine WpA.tF 2 rfl (V.mv) ?_
              refine WpA.tF 3 rfl (V.ld1 tb) ?_
              refine WpA.tF 4 rfl (V.mv) ?_
              refine WpA.tF 5 rfl (V.nc) ?_
              refine WpA.tF 6 rfl (V.fa tb) ?_
              refine WpA.tF 7 rfl (V.ld1 tb) ?_
              refine WpA.oS 8 rfl (Op1.fn rfl (hfast) ⟨?_, ?_, ?_⟩)
              exact holdT
              exact holdT
              refine WpA.tF 9 rfl (V.cmp) ?_
              refine WpA.tF 10 rfl (V.pT) ?_
              refine WpA.tF 11 rfl (V.as) ?_
              refine WpA.ou ?_
              apply Out.seqN
              refine Wp.c (fun hp52 => ?_) (fun hp52 => ?_)
              (try simp only [decide_eq_true_eq, decide_eq_false_iff_not, Bool.not_eq_true', Bool.not_eq_false', Bool.not_eq_true, Bool.not_eq_false, not_true_eq_false, not_false_eq_true, reduceCtorEq] at hp52)
              (exfalso; omega)
              (try simp only [decide_eq_true_eq, decide_eq_false_iff_not, Bool.not_eq_true', Bool.not_eq_false', Bool.not_eq_true, Bool.not_eq_false, not_true_eq_false, not_false_eq_true, reduceCtorEq] at hp52)
              apply Wp.seq
              refine Wp.dG [] ?_ (List.Sublist.cons_cons _ (List.Sublist.cons_cons _ (List.Sublist.cons _ (List.Sublist.cons _ (List.Sublist.cons _ List.Sublist.slnil))))) (List.Sublist.cons_cons _ (List.Sublist.cons_cons _ (List.Sublist.cons _ (List.Sublist.cons _ (List.Sublist.cons _ List.Sublist.slnil)))))
              refine WpA.tF 0 rfl (V.mv) ?_
              refine WpA.tF 1 rfl (V.nc) ?_
              refine WpA.tF 2 rfl (V.fa tb) ?_
              refine WpA.tF 4 rfl (V.mv) ?_
              refine WpA.tF 5 rfl (V.nc) ?_
              refine WpA.tF 6 rfl (V.fa tb) ?_
              refine WpA.tF 7 rfl (V.ld1 tb) ?_
              refine WpA.oS 3 rfl (Op1.callT rfl (hLy) (by (repeat (first | exact Sel.nil | exact Rem.here | apply Sel.cons | apply Rem.there))) ?_)
              rintro v3 s4 ⟨rfl, rfl⟩
              refine incat ⟨?_, ?_, ?_⟩
              exact holdT
              exact holdT
              refine WpA.oS 8 rfl (Op1.fn rfl (hmost) ⟨?_, ?_, ?_⟩)
              exact holdT
              exact holdT
              refine WpA.tF 9 rfl (V.cmp) ?_
              refine WpA.tF 10 rfl (V.as) ?_
              refine WpA.ou ?_
              apply Out.seqN
              refine Wp.c (fun hp55 => ?_) (fun hp55 => ?_)
              (try simp only [decide_eq_true_eq, decide_eq_false_iff_not, Bool.not_eq_true', Bool.not_eq_false', Bool.not_eq_true, Bool.not_eq_false, not_true_eq_false, not_false_eq_true, reduceCtorEq] at hp55)
              (exfalso; omega)
              (try simp only [decide_eq_true_eq, decide_eq_false_iff_not, Bool.not_eq_true', Bool.not_eq_false', Bool.not_eq_true, Bool.not_eq_false, not_true_eq_false, not_false_eq_true, reduceCtorEq] at hp55)
              apply Wp.seq
              refine Wp.dG [] ?_ (List.Sublist.cons_cons _ (List.Sublist.cons_cons _ (List.Sublist.cons_cons _ (List.Sublist.cons _ (List.Sublist.cons _ List.Sublist.slnil))))) (List.Sublist.cons_cons _ (List.Sublist.cons_cons _ (List.Sublist.cons_cons _ (List.Sublist.cons _ (List.Sublist.cons _ List.Sublist.slnil)))))
              refine WpA.tF 0 rfl (V.mv) ?_
              refine WpA.oS 1 rfl (Op1.callT rfl (hFy) (by (repeat (first | exact Sel.nil | exact Rem.here | apply Sel.cons | apply Rem.there))) ?_)
              rintro v6 s7 ⟨rfl, rfl⟩
              refine incat ⟨?_, ?_, ?_⟩
              exact holdT
              exact holdT
              refine WpA.tF 2 rfl (V.not) ?_
              refine WpA.tF 3 rfl (V.mv) ?_
              refine WpA.tF 4 rfl (V.mv) ?_
              refine WpA.tF 5 rfl (V.nc) ?_
              refine WpA.tF 6 rfl (V.fa tb) ?_
              refine WpA.tF 8 rfl (V.ld1 tb) ?_
              refine WpA.tF 10 rfl (V.mv) ?_
              refine WpA.tF 11 rfl (V.nc) ?_
              refine WpA.tF 12 rfl (V.fa tb) ?_
              refine WpA.tF 13 rfl (V.ld1 tb) ?_
              refine WpA.tF 14 rfl (V.mv) ?_
              refine WpA.tF 15 rfl (V.nc) ?_
              refine WpA.tF 16 rfl (V.fa tb) ?_
              refine WpA.tF 17 rfl (V.ld1 tb) ?_
              refine WpA.oS 7 rfl (Op1.callT rfl (hLy) (by (repeat (first | exact Sel.nil | exact Rem.here | apply Sel.cons | apply Rem.there))) ?_)
              rintro v8 s9 ⟨rfl, rfl⟩
              refine incat ⟨?_, ?_, ?_⟩
              exact holdT
              exact holdT
              refine WpA.tF 9 rfl (V.sub) ?_
              refine WpA.oS 18 rfl (Op1.fn rfl (hfast) ⟨?_, ?_, ?_⟩)
              exact holdT
              exact holdT
              refine WpA.tF 19 rfl (V.sub) ?_
              refine WpA.tF 20 rfl (V.cmp) ?_
              refine WpA.tF 21 rfl (V.pF) ?_
              refine WpA.tF 22 rfl (V.as) ?_
              refine WpA.ou ?_
              apply Out.seqN
              refine Wp.c (fun hp510 => ?_) (fun hp510 => ?_)
              (try simp only [decide_eq_true_eq, decide_eq_false_iff_not, Bool.not_eq_true', Bool.not_eq_false', Bool.not_eq_true, Bool.not_eq_false, not_true_eq_false, not_false_eq_true, reduceCtorEq] at hp510)
              apply Wp.seq
              apply Wp.region
              refine WpL.v (V.mv) ?_
              refine WpL.o (Op1.callT rfl (hSy) (by (repeat (first | exact Sel.nil | exact Rem.here | apply Sel.cons | apply Rem.there))) ?_)
              rintro v11 s12 ⟨rfl, rfl⟩
              refine incat ?_
              refine WpL.v (V.as) ?_
              apply WpL.nil
              apply Out.seqN
              apply Wp.ret
              apply Out.blockR
              apply Out.seqR
              refine Out.f1 rfl ResIs.t ⟨?_, rfl⟩
              exact rfl
              (try simp only [decide_eq_true_eq, decide_eq_false_iff_not, Bool.not_eq_true', Bool.not_eq_false', Bool.not_eq_true, Bool.not_eq_false, not_true_eq_false, not_false_eq_true, reduceCtorEq] at hp510)
              (exfalso; omega)
            · rw [if_neg (by rintro (h | h); cases h; exact h3 h)]
              apply Out.blockN
              apply Out.seqN
              apply Wp.seq
              apply Wp.block
              apply Wp.seq
              refine Wp.dG [] ?_ (List.Sublist.cons_cons _ (List.Sublist.cons_cons _ (List.Sublist.cons _ (List.Sublist.cons_cons _ (List.Sublist.cons _ List.Sublist.slnil))))) (List.Sublist.cons_cons _ (List.Sublist.cons_cons _ (List.Sublist.cons _ (List.Sublist.cons_cons _ (List.Sublist.cons _ List.Sublist.slnil)))))
              refine WpA.tF 0 rfl (V.mv) ?_
              refine WpA.oS 1 rfl (Op1.callT rfl (hFy) (by (repeat (first | exact Sel.nil | exact Rem.here | apply Sel.cons | apply Rem.there))) ?_)
              rintro v0 s1 ⟨rfl, rfl⟩
              refine incat ⟨?_, ?_, ?_⟩
              exact holdT
              exact holdT
              refine WpA.tF 2 rfl (V.mv) ?_
              refine WpA.tF 3 rfl (V.ld1 tb) ?_
              refine WpA.tF 4 rfl (V.mv) ?_
              refine WpA.tF 5 rfl (V.nc) ?_
              refine WpA.tF 6 rfl (V.fa tb) ?_
              refine WpA.tF 7 rfl (V.ld1 tb) ?_
              refine WpA.oS 8 rfl (Op1.fn rfl (hfast) ⟨?_, ?_, ?_⟩)
              exact holdT
              exact holdT
              refine WpA.tF 9 rfl (V.cmp) ?_
              refine WpA.tF 10 rfl (V.pT) ?_
              refine WpA.tF 11 rfl (V.as) ?_
              refine WpA.ou ?_
              apply Out.seqN
              refine Wp.c (fun hp62 => ?_) (fun hp62 => ?_)
              (try simp only [decide_eq_true_eq, decide_eq_false_iff_not, Bool.not_eq_true', Bool.not_eq_false', Bool.not_eq_true, Bool.not_eq_false, not_true_eq_false, not_false_eq_true, reduceCtorEq] at hp62)
              (exfalso; omega)
              (try simp only [decide_eq_true_eq, decide_eq_false_iff_not, Bool.not_eq_true', Bool.not_eq_false', Bool.not_eq_true, Bool.not_eq_false, not_true_eq_false, not_false_eq_true, reduceCtorEq] at hp62)
              apply Wp.seq
              refine Wp.dG [] ?_ (List.Sublist.cons_cons _ (List.Sublist.cons_cons _ (List.Sublist.cons _ (List.Sublist.cons _ (List.Sublist.cons _ List.Sublist.slnil))))) (List.Sublist.cons_cons _ (List.Sublist.cons_cons _ (List.Sublist.cons _ (List.Sublist.cons _ (List.Sublist.cons _ List.Sublist.slnil)))))
              refine WpA.tF 0 rfl (V.mv) ?_
              refine WpA.tF 1 rfl (V.nc) ?_
              refine WpA.tF 2 rfl (V.fa tb) ?_
              refine WpA.tF 4 rfl (V.mv) ?_
              refine WpA.tF 5 rfl (V.nc) ?_
              refine WpA.tF 6 rfl (V.fa tb) ?_
              refine WpA.tF 7 rfl (V.ld1 tb) ?_
              refine WpA.oS 3 rfl (Op1.callT rfl (hLy) (by (repeat (first | exact Sel.nil | exact Rem.here | apply Sel.cons | apply Rem.there))) ?_)
              rintro v3 s4 ⟨rfl, rfl⟩
              refine incat ⟨?_, ?_, ?_⟩
              exact holdT
              exact holdT
              refine WpA.oS 8 rfl (Op1.fn rfl (hmost) ⟨?_, ?_, ?_⟩)
              exact holdT
              exact holdT
              refine WpA.tF 9 rfl (V.cmp) ?_
              refine WpA.tF 10 rfl (V.as) ?_
              refine WpA.ou ?_
              apply Out.seqN
              refine Wp.c (fun hp65 => ?_) (fun hp65 => ?_)
              (try simp only [decide_eq_true_eq, decide_eq_false_iff_not, Bool.not_eq_true', Bool.not_eq_false', Bool.not_eq_true, Bool.not_eq_false, not_true_eq_false, not_false_eq_true, reduceCtorEq] at hp65)
              (exfalso; omega)
              (try simp only [decide_eq_true_eq, decide_eq_false_iff_not, Bool.not_eq_true', Bool.not_eq_false', Bool.not_eq_true, Bool.not_eq_false, not_true_eq_false, not_false_eq_true, reduceCtorEq] at hp65)
              apply Wp.seq
              refine Wp.dG [] ?_ (List.Sublist.cons_cons _ (List.Sublist.cons_cons _ (List.Sublist.cons_cons _ (List.Sublist.cons _ (List.Sublist.cons _ List.Sublist.slnil))))) (List.Sublist.cons_cons _ (List.Sublist.cons_cons _ (List.Sublist.cons_cons _ (List.Sublist.cons _ (List.Sublist.cons _ List.Sublist.slnil)))))
              refine WpA.tF 0 rfl (V.mv) ?_
              refine WpA.oS 1 rfl (Op1.callT rfl (hFy) (by (repeat (first | exact Sel.nil | exact Rem.here | apply Sel.cons | apply Rem.there))) ?_)
              rintro v6 s7 ⟨rfl, rfl⟩
              refine incat ⟨?_, ?_, ?_⟩
              exact holdT
              exact holdT
              refine WpA.tF 2 rfl (V.not) ?_
              refine WpA.tF 3 rfl (V.mv) ?_
              refine WpA.tF 4 rfl (V.mv) ?_
              refine WpA.tF 5 rfl (V.nc) ?_
              refine WpA.tF 6 rfl (V.fa tb) ?_
              refine WpA.tF 8 rfl (V.ld1 tb) ?_
              refine WpA.tF 10 rfl (V.mv) ?_
              refine WpA.tF 11 rfl (V.nc) ?_
              refine WpA.tF 12 rfl (V.fa tb) ?_
              refine WpA.tF 13 rfl (V.ld1 tb) ?_
              refine WpA.tF 14 rfl (V.mv) ?_
              refine WpA.tF 15 rfl (V.nc) ?_
              refine WpA.tF 16 rfl (V.fa tb) ?_
              refine WpA.tF 17 rfl (V.ld1 tb) ?_
              refine WpA.oS 7 rfl (Op1.callT rfl (hLy) (by (repeat (first | exact Sel.nil | exact Rem.here | apply Sel.cons | apply Rem.there))) ?_)
              rintro v8 s9 ⟨rfl, rfl⟩
              refine incat ⟨?_, ?_, ?_⟩
              exact holdT
              exact holdT
              refine WpA.tF 9 rfl (V.sub) ?_
              refine WpA.oS 18 rfl (Op1.fn rfl (hfast) ⟨?_, ?_, ?_⟩)
              exact holdT
              exact holdT
              refine WpA.tF 19 rfl (V.sub) ?_
              refine WpA.tF 20 rfl (V.cmp) ?_
              refine WpA.tF 21 rfl (V.pF) ?_
              refine WpA.tF 22 rfl (V.as) ?_
              refine WpA.ou ?_
              apply Out.seqN
              refine Wp.c (fun hp610 => ?_) (fun hp610 => ?_)
              (try simp only [decide_eq_true_eq, decide_eq_false_iff_not, Bool.not_eq_true', Bool.not_eq_false', Bool.not_eq_true, Bool.not_eq_false, not_true_eq_false, not_false_eq_true, reduceCtorEq] at hp610)
              (exfalso; omega)
              (try simp only [decide_eq_true_eq, decide_eq_false_iff_not, Bool.not_eq_true', Bool.not_eq_false', Bool.not_eq_true, Bool.not_eq_false, not_true_eq_false, not_false_eq_true, reduceCtorEq] at hp610)
              apply Wp.skip
              apply Out.blockN
              apply Out.seqN
              apply Wp.seq
              apply Wp.region
              refine WpL.v (V.as) ?_
              apply WpL.nil
              apply Out.seqN
              apply Wp.ret
              refine Out.f1 rfl ResIs.t ⟨?_, rfl⟩
              exact rfl
      | false =>
        rw [hf] at hFy
        rw [if_neg (by rintro ⟨h, _⟩; cases h)]
        by_cases h2 : y.pn < faults y.n + 1
        · rw [if_pos h2]
          apply Out.blockN
          apply Out.seqN
          apply Wp.seq
          apply Wp.block
          apply Wp.seq
          refine Wp.dG [] ?_ (List.Sublist.cons_cons _ (List.Sublist.cons_cons _ (List.Sublist.cons _ (List.Sublist.cons_cons _ (List.Sublist.cons _ List.Sublist.slnil))))) (List.Sublist.cons_cons _ (List.Sublist.cons_cons _ (List.Sublist.cons _ (List.Sublist.cons_cons _ (List.Sublist.cons _ List.Sublist.slnil)))))
          refine WpA.tF 0 rfl (V.mv) ?_
          refine WpA.oS 1 rfl (Op1.callT rfl (hFy) (by (repeat (first | exact Sel.nil | exact Rem.here | apply Sel.cons | apply Rem.there))) ?_)
          rintro v0 s1 ⟨rfl, rfl⟩
          refine incat ⟨?_, ?_, ?_⟩
          exact holdT
          exact holdT
          refine WpA.tF 2 rfl (V.mv) ?_
          refine WpA.s 3 rfl ?_
          refine WpA.s 4 rfl ?_
          refine WpA.s 5 rfl ?_
          refine WpA.s 6 rfl ?_
          refine WpA.s 7 rfl ?_
          refine WpA.s 8 rfl ?_
          refine WpA.s 9 rfl ?_
          refine WpA.tF 10 rfl (V.pF) ?_
          refine WpA.tF 11 rfl (V.as) ?_
          refine WpA.ou ?_
          apply Out.seqN
          refine Wp.cF ?_
          apply Wp.seq
          refine Wp.dG [] ?_ (List.Sublist.cons_cons _ (List.Sublist.cons_cons _ (List.Sublist.cons _ (List.Sublist.cons _ (List.Sublist.cons _ List.Sublist.slnil))))) (List.Sublist.cons_cons _ (List.Sublist.cons_cons _ (List.Sublist.cons _ (List.Sublist.cons _ (List.Sublist.cons _ List.Sublist.slnil)))))
          refine WpA.tF 0 rfl (V.mv) ?_
          refine WpA.tF 1 rfl (V.nc) ?_
          refine WpA.tF 2 rfl (V.fa tb) ?_
          refine WpA.tF 4 rfl (V.mv) ?_
          refine WpA.tF 5 rfl (V.nc) ?_
          refine WpA.tF 6 rfl (V.fa tb) ?_
          refine WpA.tF 7 rfl (V.ld1 tb) ?_
          refine WpA.oS 3 rfl (Op1.callT rfl (hLy) (by (repeat (first | exact Sel.nil | exact Rem.here | apply Sel.cons | apply Rem.there))) ?_)
          rintro v2 s3 ⟨rfl, rfl⟩
          refine incat ⟨?_, ?_, ?_⟩
          exact holdT
          exact holdT
          refine WpA.oS 8 rfl (Op1.fn rfl (hmost) ⟨?_, ?_, ?_⟩)
          exact holdT
          exact holdT
          refine WpA.tF 9 rfl (V.cmp) ?_
          refine WpA.tF 10 rfl (V.as) ?_
          refine WpA.ou ?_
          apply Out.seqN
          refine Wp.c (fun hp74 => ?_) (fun hp74 => ?_)
          (try simp only [decide_eq_true_eq, decide_eq_false_iff_not, Bool.not_eq_true', Bool.not_eq_false', Bool.not_eq_true, Bool.not_eq_false, not_true_eq_false, not_false_eq_true, reduceCtorEq] at hp74)
          apply Wp.seq
          apply Wp.region
          refine WpL.v (V.as) ?_
          apply WpL.nil
          apply Out.seqN
          apply Wp.ret
          apply Out.blockR
          apply Out.seqR
          refine Out.f1 rfl ResIs.t ⟨?_, rfl⟩
          exact rfl
          (try simp only [decide_eq_true_eq, decide_eq_false_iff_not, Bool.not_eq_true', Bool.not_eq_false', Bool.not_eq_true, Bool.not_eq_false, not_true_eq_false, not_false_eq_true, reduceCtorEq] at hp74)
          (exfalso; omega)
        · rw [if_neg h2, if_pos (.inl rfl)]
          apply Out.blockN
          apply Out.seqN
          apply Wp.seq
          apply Wp.block
          apply Wp.seq
          refine Wp.dG [] ?_ (List.Sublist.cons_cons _ (List.Sublist.cons_cons _ (List.Sublist.cons _ (List.Sublist.cons_cons _ (List.Sublist.cons _ List.Sublist.slnil))))) (List.Sublist.cons_cons _ (List.Sublist.cons_cons _ (List.Sublist.cons _ (List.Sublist.cons_cons _ (List.Sublist.cons _ List.Sublist.slnil)))))
          refine WpA.tF 0 rfl (V.mv) ?_
          refine WpA.oS 1 rfl (Op1.callT rfl (hFy) (by (repeat (first | exact Sel.nil | exact Rem.here | apply Sel.cons | apply Rem.there))) ?_)
          rintro v0 s1 ⟨rfl, rfl⟩
          refine incat ⟨?_, ?_, ?_⟩
          exact holdT
          exact holdT
          refine WpA.tF 2 rfl (V.mv) ?_
          refine WpA.s 3 rfl ?_
          refine WpA.s 4 rfl ?_
          refine WpA.s 5 rfl ?_
          refine WpA.s 6 rfl ?_
          refine WpA.s 7 rfl ?_
          refine WpA.s 8 rfl ?_
          refine WpA.s 9 rfl ?_
          refine WpA.tF 10 rfl (V.pF) ?_
          refine WpA.tF 11 rfl (V.as) ?_
          refine WpA.ou ?_
          apply Out.seqN
          refine Wp.cF ?_
          apply Wp.seq
          refine Wp.dG [] ?_ (List.Sublist.cons_cons _ (List.Sublist.cons_cons _ (List.Sublist.cons _ (List.Sublist.cons _ (List.Sublist.cons _ List.Sublist.slnil))))) (List.Sublist.cons_cons _ (List.Sublist.cons_cons _ (List.Sublist.cons _ (List.Sublist.cons _ (List.Sublist.cons _ List.Sublist.slnil)))))
          refine WpA.tF 0 rfl (V.mv) ?_
          refine WpA.tF 1 rfl (V.nc) ?_
          refine WpA.tF 2 rfl (V.fa tb) ?_
          refine WpA.tF 4 rfl (V.mv) ?_
          refine WpA.tF 5 rfl (V.nc) ?_
          refine WpA.tF 6 rfl (V.fa tb) ?_
          refine WpA.tF 7 rfl (V.ld1 tb) ?_
          refine WpA.oS 3 rfl (Op1.callT rfl (hLy) (by (repeat (first | exact Sel.nil | exact Rem.here | apply Sel.cons | apply Rem.there))) ?_)
          rintro v2 s3 ⟨rfl, rfl⟩
          refine incat ⟨?_, ?_, ?_⟩
          exact holdT
          exact holdT
          refine WpA.oS 8 rfl (Op1.fn rfl (hmost) ⟨?_, ?_, ?_⟩)
          exact holdT
          exact holdT
          refine WpA.tF 9 rfl (V.cmp) ?_
          refine WpA.tF 10 rfl (V.as) ?_
          refine WpA.ou ?_
          apply Out.seqN
          refine Wp.c (fun hp84 => ?_) (fun hp84 => ?_)
          (try simp only [decide_eq_true_eq, decide_eq_false_iff_not, Bool.not_eq_true', Bool.not_eq_false', Bool.not_eq_true, Bool.not_eq_false, not_true_eq_false, not_false_eq_true, reduceCtorEq] at hp84)
          (exfalso; omega)
          (try simp only [decide_eq_true_eq, decide_eq_false_iff_not, Bool.not_eq_true', Bool.not_eq_false', Bool.not_eq_true, Bool.not_eq_false, not_true_eq_false, not_false_eq_true, reduceCtorEq] at hp84)
          apply Wp.seq
          refine Wp.dG [] ?_ (List.Sublist.cons_cons _ (List.Sublist.cons_cons _ (List.Sublist.cons_cons _ (List.Sublist.cons _ (List.Sublist.cons _ List.Sublist.slnil))))) (List.Sublist.cons_cons _ (List.Sublist.cons_cons _ (List.Sublist.cons_cons _ (List.Sublist.cons _ (List.Sublist.cons _ List.Sublist.slnil)))))
          refine WpA.tF 0 rfl (V.mv) ?_
          refine WpA.oS 1 rfl (Op1.callT rfl (hFy) (by (repeat (first | exact Sel.nil | exact Rem.here | apply Sel.cons | apply Rem.there))) ?_)
          rintro v5 s6 ⟨rfl, rfl⟩
          refine incat ⟨?_, ?_, ?_⟩
          exact holdT
          exact holdT
          refine WpA.tF 2 rfl (V.not) ?_
          refine WpA.tF 3 rfl (V.mv) ?_
          refine WpA.s 4 rfl ?_
          refine WpA.s 5 rfl ?_
          refine WpA.s 6 rfl ?_
          refine WpA.s 7 rfl ?_
          refine WpA.s 8 rfl ?_
          refine WpA.s 9 rfl ?_
          refine WpA.s 10 rfl ?_
          refine WpA.s 11 rfl ?_
          refine WpA.s 12 rfl ?_
          refine WpA.s 13 rfl ?_
          refine WpA.s 14 rfl ?_
          refine WpA.s 15 rfl ?_
          refine WpA.s 16 rfl ?_
          refine WpA.s 17 rfl ?_
          refine WpA.s 18 rfl ?_
          refine WpA.s 19 rfl ?_
          refine WpA.s 20 rfl ?_
          refine WpA.tF 21 rfl (V.pT) ?_
          refine WpA.tF 22 rfl (V.as) ?_
          refine WpA.ou ?_
          apply Out.seqN
          refine Wp.cT ?_
          apply Wp.seq
          apply Wp.region
          refine WpL.v (V.mv) ?_
          refine WpL.o (Op1.callT rfl (hSy) (by (repeat (first | exact Sel.nil | exact Rem.here | apply Sel.cons | apply Rem.there))) ?_)
          rintro v7 s8 ⟨rfl, rfl⟩
          refine incat ?_
          refine WpL.v (V.as) ?_
          apply WpL.nil
          apply Out.seqN
          apply Wp.ret
          apply Out.blockR
          apply Out.seqR
          refine Out.f1 rfl ResIs.t ⟨?_, rfl⟩
          exact rfl
    · rintro _ _ _ _ _ _ _ h
      exact h.elim
  · have e0 : x.hear1 m = (x, false) := by unfold LeadS.hear1; rw [if_neg hc]
    rw [if_neg hc, show x.can m.From = false by simpa using hc] at hP
    rw [e0]
    refine Ct.enter Try.func84 rfl rfl fun W => ?_
    apply Wp.seq
    apply Wp.region
    refine WpL.o (O.bxA (fun p3 => ?_))
    refine WpL.v (V.as) ?_
    apply WpL.nil
    apply Out.seqN
    apply Wp.seq
    apply Wp.seq
    refine Wp.dG [] ?_ (List.Sublist.cons_cons _ (List.Sublist.cons _ List.Sublist.slnil)) (List.Sublist.cons_cons _ (List.Sublist.cons _ List.Sublist.slnil))
    refine WpA.tF 0 rfl (V.mv) ?_
    refine WpA.tF 1 rfl (V.nc) ?_
    refine WpA.tF 2 rfl (V.fa tb) ?_
    refine WpA.tF 3 rfl (V.fa tb) ?_
    refine WpA.tF 4 rfl (V.ld1 tb) ?_
    refine WpA.tF 5 rfl (V.ldA tb) ?_
    refine WpA.oS 6 rfl (Op1.callT rfl (hP) (by (repeat (first | exact Sel.nil | exact Rem.here | apply Sel.cons | apply Rem.there))) ?_)
    rintro v0 s1 ⟨rfl, rfl⟩
    refine incat ⟨?_, ?_, ?_⟩
    exact holdT
    exact holdT
    refine WpA.tF 7 rfl (V.not) ?_
    refine WpA.ou ?_
    apply Out.seqN
    refine Wp.cT ?_
    apply Wp.seq
    apply Wp.region
    refine WpL.v (V.as) ?_
    apply WpL.nil
    apply Out.seqN
    apply Wp.ret
    apply Out.seqR
    refine Out.f1 rfl ResIs.t ⟨?_, rfl⟩
    exact rfl
end Go.Proofs.Ythoepbbpmdmfeaa
