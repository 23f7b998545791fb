/-
  Layer 14: a lead: what it says; alive; begin.
-/
import Derived.Test.YthoepbbpmdmfeaaLead4
namespace Go.Proofs.Ythoepbbpmdmfeaa
open Go.HL
set_option linter.unusedSimpArgs false
set_option linter.unusedVariables false
set_option maxRecDepth 8000
def sayK (p : Int) : Int := if p = 1 then 1 else if p = 2 then 3 else 5
def sayMk (kk : Int) (x : LeadS) (i : Nat) : TMsg := { TMsg.z with Kind := kk, From := x.self, To := (i : Int), Item := x.item, Ballot := x.ballot, Call := x.call }
def sayM (x : LeadS) (i : Nat) : TMsg := sayMk (sayK x.phase) x i
def LeadS.says (x : LeadS) (k : Nat) : List TMsg := (List.range k).map (sayM x)
theorem LeadS.says_succ (x : LeadS) (k : Nat) : x.says (k + 1) = x.says k ++ [sayM x k] := by simp [LeadS.says, List.range_succ]
theorem LeadS.says_len (x : LeadS) (k : Nat) : (x.says k).length = k := by simp [LeadS.says]
def LeadS.say (x : LeadS) : List TMsg := if x.phase = 1 ∨ x.phase = 2 ∨ x.phase = 3 then x.says x.n.toNat else []
theorem lead_say0 : Ct Try.prog 41 [.pointer none] [] (fun r σ' => r = .slice none 0 0 ∧ σ' = []) := by
  refine Ct.enter Try.func41 rfl rfl fun W => ?_
  apply Wp.seq
  apply Wp.region
  refine WpL.v (V.as) ?_
  apply WpL.nil
  apply Out.seqN
  apply Wp.seq
  apply Wp.region
  refine WpL.v (V.as) ?_
  apply WpL.nil
  apply Out.seqN
  apply Wp.seq
  apply Wp.seq
  apply Wp.region
  refine WpL.v (V.mv) ?_
  refine WpL.o (Op1.fn rfl (lead_phase0) ?_)
  apply WpL.nil
  apply Out.seqN
  apply Wp.block
  apply Wp.seq
  apply Wp.region
  refine WpL.v (V.cmp) ?_
  refine WpL.v (V.as) ?_
  apply WpL.nil
  apply Out.seqN
  refine Wp.cF ?_
  apply Wp.seq
  apply Wp.region
  refine WpL.v (V.cmp) ?_
  refine WpL.v (V.as) ?_
  apply WpL.nil
  apply Out.seqN
  refine Wp.cF ?_
  apply Wp.seq
  apply Wp.region
  refine WpL.v (V.cmp) ?_
  refine WpL.v (V.as) ?_
  apply WpL.nil
  apply Out.seqN
  refine Wp.cF ?_
  apply Wp.seq
  apply Wp.region
  refine WpL.v (V.as) ?_
  apply WpL.nil
  apply Out.seqN
  apply Wp.ret
  apply Out.blockR
  apply Out.seqR
  refine Out.f1 rfl ResIs.t ⟨?_, rfl⟩
  exact rfl
set_option maxHeartbeats 2000000 in
theorem lead_say (b : Nat) (x : LeadS) (hn : 0 ≤ x.n ∧ x.n ≤ 1000) : Ct Try.prog 41 [Ptr b 0] [cells b 142 x.c] (fun r σ' => ∃ v, r = v ∧ σ' = [rows TMsg.c v 44 25 x.say, cells b 142 x.c]) := by
  have hp := lead_phase b x
  obtain ⟨nn, hnn⟩ : ∃ k : Nat, x.n = (k : Int) := ⟨x.n.toNat, by omega⟩
  by_cases h : x.phase = 1 ∨ x.phase = 2 ∨ x.phase = 3
  · rw [show x.say = x.says nn by rw [LeadS.say, if_pos h, hnn]; rfl]
    rcases h with h | h | h
    · have hk : sayK x.phase = 1 := by unfold sayK; rw [h]; rfl
      refine Ct.enter Try.func41 rfl rfl fun W => ?_
      refine Wp.nilRows TMsg.c 44 25 ?_
      apply Wp.seq
      apply Wp.region
      refine WpL.v (V.as) ?_
      apply WpL.nil
      apply Out.seqN
      apply Wp.seq
      apply Wp.region
      refine WpL.v (V.as) ?_
      apply WpL.nil
      apply Out.seqN
      apply Wp.seq
      apply Wp.seq
      apply Wp.region
      refine WpL.v (V.mv) ?_
      refine WpL.o (Op1.callT rfl (hp) (by (repeat (first | exact Sel.nil | exact Rem.here | apply Sel.cons | apply Rem.there))) ?_)
      rintro v0 s1 ⟨rfl, rfl⟩
      refine incat ?_
      apply WpL.nil
      apply Out.seqN
      apply Wp.block
      apply Wp.seq
      apply Wp.region
      refine WpL.v (V.cmp) ?_
      refine WpL.v (V.as) ?_
      apply WpL.nil
      apply Out.seqN
      refine Wp.c (fun ha2 => ?_) (fun ha2 => ?_)
      (try simp only [decide_eq_true_eq, decide_eq_false_iff_not, Bool.not_eq_true', Bool.not_eq_false', Bool.not_eq_true, Bool.not_eq_false, not_true_eq_false, not_false_eq_true, reduceCtorEq] at ha2)
      apply Wp.region
      refine WpL.v (V.as) ?_
      apply WpL.nil
      apply Out.blockN
      apply Out.seqN
      apply Wp.seq
      apply Wp.region
      refine WpL.v (V.as) ?_
      apply WpL.nil
      apply Out.seqN
      apply Wp.seq
      apply Wp.seq
      apply Wp.region
      refine WpL.v (V.mv) ?_
      refine WpL.v (V.nc) ?_
      refine WpL.v (V.fa tb) ?_
      refine WpL.v (V.ld1 tb) ?_
      refine WpL.v (V.mv) ?_
      apply WpL.nil
      apply Out.seqN
      apply Wp.block
      rotate_left
      (try simp only [decide_eq_true_eq, decide_eq_false_iff_not, Bool.not_eq_true', Bool.not_eq_false', Bool.not_eq_true, Bool.not_eq_false, not_true_eq_false, not_false_eq_true, reduceCtorEq] at ha2)
      (exfalso; omega)
      refine Wp.lp [17, 3, 0] (fun y : Nat × Go.Value => y.1 ≤ nn) (fun y => [(18, I (y.1 : Int)), (4, y.2)]) (fun y => [rows TMsg.c y.2 44 25 (x.says y.1)]) (fun y => nn - y.1) (0, .slice none 0 0) (Nat.zero_le _) ?_
      rintro ⟨k, v⟩ hkn K hK
      dsimp only at hkn
      dsimp only [List.cons_append, List.nil_append]
      have hsl := x.says_len k
      by_cases hlt : k < nn
      · have e3 : x.says (k + 1) = x.says k ++ [sayMk 1 x k] := by rw [LeadS.says_succ, sayM, hk]
        apply Wp.seq
        apply Wp.region
        refine WpL.v (V.cmp) ?_
        apply WpL.nil
        apply Out.seqN
        apply Wp.seq
        refine Wp.c (fun ha10 => ?_) (fun ha10 => ?_)
        (try simp only [decide_eq_true_eq, decide_eq_false_iff_not, Bool.not_eq_true', Bool.not_eq_false', Bool.not_eq_true, Bool.not_eq_false, not_true_eq_false, not_false_eq_true, reduceCtorEq] at ha10)
        apply Wp.skip
        apply Out.seqN
        apply Wp.seq
        apply Wp.block
        apply Wp.seq
        apply Wp.region
        refine WpL.v (V.mv) ?_
        refine WpL.v (V.as) ?_
        apply WpL.nil
        apply Out.seqN
        refine Wp.dG [] ?_ (List.Sublist.cons _ (List.Sublist.cons_cons _ List.Sublist.slnil)) (List.Sublist.cons _ (List.Sublist.cons_cons _ List.Sublist.slnil))
        refine WpA.tF 0 rfl (V.mv) ?_
        refine WpA.tF 1 rfl (V.mv) ?_
        refine WpA.tF 2 rfl (V.mv) ?_
        refine WpA.tF 3 rfl (V.nc) ?_
        refine WpA.tF 4 rfl (V.fa tb) ?_
        refine WpA.tF 5 rfl (V.ld1 tb) ?_
        refine WpA.tF 6 rfl (V.mv) ?_
        refine WpA.tF 7 rfl (V.mv) ?_
        refine WpA.tF 8 rfl (V.nc) ?_
        refine WpA.tF 9 rfl (V.fa tb) ?_
        refine WpA.tF 10 rfl (V.ldA tb) ?_
        refine WpA.tF 11 rfl (V.mv) ?_
        refine WpA.tF 12 rfl (V.nc) ?_
        refine WpA.tF 13 rfl (V.fa tb) ?_
        refine WpA.tF 14 rfl (V.ldA tb) ?_
        refine WpA.tF 15 rfl (V.mv) ?_
        refine WpA.tF 16 rfl (V.nc) ?_
        refine WpA.tF 17 rfl (V.fa tb) ?_
        refine WpA.tF 18 rfl (V.ldA tb) ?_
        refine WpA.tF 19 rfl (V.bld tb (c' := (sayMk 1 x k).c)) ?_
        refine WpA.oS 20 rfl (O.lit tb (fun p41 => ⟨?_, ?_, ?_⟩))
        exact holdT
        exact holdT
        refine WpA.oS 21 rfl (O.apL (m := [sayMk 1 x k]) tb rfl rfl (by (intro _; repeat first | exact Upd.here _ _ _ | apply Upd.there)) (SrcL.one (f := TMsg.c) (a := sayMk 1 x k) tb (by (repeat first | exact List.Mem.head _ | apply List.Mem.tail)) TMsg.ones) (fun g42 cap42 => ⟨?_, ?_, ?_⟩))
        exact holdT
        exact holdT
        refine WpA.tF 22 rfl (V.as) ?_
        refine WpA.ou ?_
        apply Out.blockN
        apply Out.seqN
        apply Wp.region
        refine WpL.v (V.add) ?_
        refine WpL.v (V.mv) ?_
        apply WpL.nil
        rotate_left
        (try simp only [decide_eq_true_eq, decide_eq_false_iff_not, Bool.not_eq_true', Bool.not_eq_false', Bool.not_eq_true, Bool.not_eq_false, not_true_eq_false, not_false_eq_true, reduceCtorEq] at ha10)
        (exfalso; omega)
        exact Out.ag hK (k + 1, .slice (some ⟨g42, 0, none⟩) (x.says k ++ [sayMk 1 x k]).length cap42) (by show k + 1 ≤ _; omega) (by show nn - (k + 1) < nn - k; omega) (he := by (repeat (first | exact subEnv.nil | refine subEnv.cons rfl rfl ?_))) (hs := by rw [e3]; (repeat (first | exact Sel.nil | exact Rem.here | apply Sel.cons | apply Rem.there)))
      · obtain rfl : k = nn := by omega
        apply Wp.seq
        apply Wp.region
        refine WpL.v (V.cmp) ?_
        apply WpL.nil
        apply Out.seqN
        apply Wp.seq
        refine Wp.c (fun ha20 => ?_) (fun ha20 => ?_)
        (try simp only [decide_eq_true_eq, decide_eq_false_iff_not, Bool.not_eq_true', Bool.not_eq_false', Bool.not_eq_true, Bool.not_eq_false, not_true_eq_false, not_false_eq_true, reduceCtorEq] at ha20)
        (exfalso; omega)
        (try simp only [decide_eq_true_eq, decide_eq_false_iff_not, Bool.not_eq_true', Bool.not_eq_false', Bool.not_eq_true, Bool.not_eq_false, not_true_eq_false, not_false_eq_true, reduceCtorEq] at ha20)
        apply Wp.exit
        apply Out.seqE
        apply Out.seqE
        apply Out.blockE
        apply Out.seqN
        apply Wp.seq
        apply Wp.region
        refine WpL.v (V.mv) ?_
        refine WpL.v (V.as) ?_
        apply WpL.nil
        apply Out.seqN
        apply Wp.ret
        refine Out.e1 rfl ResIs.t ?_
        exact ⟨_, _, ⟨_, rfl, rfl⟩, (by (repeat (first | exact Sel.nil | exact Rem.here | apply Sel.cons | apply Rem.there)))⟩
    · have hk : sayK x.phase = 3 := by unfold sayK; rw [h]; rfl
      refine Ct.enter Try.func41 rfl rfl fun W => ?_
      refine Wp.nilRows TMsg.c 44 25 ?_
      apply Wp.seq
      apply Wp.region
      refine WpL.v (V.as) ?_
      apply WpL.nil
      apply Out.seqN
      apply Wp.seq
      apply Wp.region
      refine WpL.v (V.as) ?_
      apply WpL.nil
      apply Out.seqN
      apply Wp.seq
      apply Wp.seq
      apply Wp.region
      refine WpL.v (V.mv) ?_
      refine WpL.o (Op1.callT rfl (hp) (by (repeat (first | exact Sel.nil | exact Rem.here | apply Sel.cons | apply Rem.there))) ?_)
      rintro v0 s1 ⟨rfl, rfl⟩
      refine incat ?_
      apply WpL.nil
      apply Out.seqN
      apply Wp.block
      apply Wp.seq
      apply Wp.region
      refine WpL.v (V.cmp) ?_
      refine WpL.v (V.as) ?_
      apply WpL.nil
      apply Out.seqN
      refine Wp.c (fun hb2 => ?_) (fun hb2 => ?_)
      (try simp only [decide_eq_true_eq, decide_eq_false_iff_not, Bool.not_eq_true', Bool.not_eq_false', Bool.not_eq_true, Bool.not_eq_false, not_true_eq_false, not_false_eq_true, reduceCtorEq] at hb2)
      (exfalso; omega)
      (try simp only [decide_eq_true_eq, decide_eq_false_iff_not, Bool.not_eq_true', Bool.not_eq_false', Bool.not_eq_true, Bool.not_eq_false, not_true_eq_false, not_false_eq_true, reduceCtorEq] at hb2)
      apply Wp.seq
      apply Wp.region
      refine WpL.v (V.cmp) ?_
      refine WpL.v (V.as) ?_
      apply WpL.nil
      apply Out.seqN
      refine Wp.c (fun hb3 => ?_) (fun hb3 => ?_)
      (try simp only [decide_eq_true_eq, decide_eq_false_iff_not, Bool.not_eq_true', Bool.not_eq_false', Bool.not_eq_true, Bool.not_eq_false, not_true_eq_false, not_false_eq_true, reduceCtorEq] at hb3)
      apply Wp.region
      refine WpL.v (V.as) ?_
      apply WpL.nil
      apply Out.blockN
      apply Out.seqN
      apply Wp.seq
      apply Wp.region
      refine WpL.v (V.as) ?_
      apply WpL.nil
      apply Out.seqN
      apply Wp.seq
      apply Wp.seq
      apply Wp.region
      refine WpL.v (V.mv) ?_
      refine WpL.v (V.nc) ?_
      refine WpL.v (V.fa tb) ?_
      refine WpL.v (V.ld1 tb) ?_
      refine WpL.v (V.mv) ?_
      apply WpL.nil
      apply Out.seqN
      apply Wp.block
      rotate_left
      (try simp only [decide_eq_true_eq, decide_eq_false_iff_not, Bool.not_eq_true', Bool.not_eq_false', Bool.not_eq_true, Bool.not_eq_false, not_true_eq_false, not_false_eq_true, reduceCtorEq] at hb3)
      (exfalso; omega)
      refine Wp.lp [17, 3, 0] (fun y : Nat × Go.Value => y.1 ≤ nn) (fun y => [(18, I (y.1 : Int)), (4, y.2)]) (fun y => [rows TMsg.c y.2 44 25 (x.says y.1)]) (fun y => nn - y.1) (0, .slice none 0 0) (Nat.zero_le _) ?_
      rintro ⟨k, v⟩ hkn K hK
      dsimp only at hkn
      dsimp only [List.cons_append, List.nil_append]
      have hsl := x.says_len k
      by_cases hlt : k < nn
      · have e3 : x.says (k + 1) = x.says k ++ [sayMk 3 x k] := by rw [LeadS.says_succ, sayM, hk]
        apply Wp.seq
        apply Wp.region
        refine WpL.v (V.cmp) ?_
        apply WpL.nil
        apply Out.seqN
        apply Wp.seq
        refine Wp.c (fun hb10 => ?_) (fun hb10 => ?_)
        (try simp only [decide_eq_true_eq, decide_eq_false_iff_not, Bool.not_eq_true', Bool.not_eq_false', Bool.not_eq_true, Bool.not_eq_false, not_true_eq_false, not_false_eq_true, reduceCtorEq] at hb10)
        apply Wp.skip
        apply Out.seqN
        apply Wp.seq
        apply Wp.block
        apply Wp.seq
        apply Wp.region
        refine WpL.v (V.mv) ?_
        refine WpL.v (V.as) ?_
        apply WpL.nil
        apply Out.seqN
        refine Wp.dG [] ?_ (List.Sublist.cons _ (List.Sublist.cons_cons _ List.Sublist.slnil)) (List.Sublist.cons _ (List.Sublist.cons_cons _ List.Sublist.slnil))
        refine WpA.tF 0 rfl (V.mv) ?_
        refine WpA.tF 1 rfl (V.mv) ?_
        refine WpA.tF 2 rfl (V.mv) ?_
        refine WpA.tF 3 rfl (V.nc) ?_
        refine WpA.tF 4 rfl (V.fa tb) ?_
        refine WpA.tF 5 rfl (V.ld1 tb) ?_
        refine WpA.tF 6 rfl (V.mv) ?_
        refine WpA.tF 7 rfl (V.mv) ?_
        refine WpA.tF 8 rfl (V.nc) ?_
        refine WpA.tF 9 rfl (V.fa tb) ?_
        refine WpA.tF 10 rfl (V.ldA tb) ?_
        refine WpA.tF 11 rfl (V.mv) ?_
        refine WpA.tF 12 rfl (V.nc) ?_
        refine WpA.tF 13 rfl (V.fa tb) ?_
        refine WpA.tF 14 rfl (V.ldA tb) ?_
        refine WpA.tF 15 rfl (V.mv) ?_
        refine WpA.tF 16 rfl (V.nc) ?_
        refine WpA.tF 17 rfl (V.fa tb) ?_
        refine WpA.tF 18 rfl (V.ldA tb) ?_
        refine WpA.tF 19 rfl (V.bld tb (c' := (sayMk 3 x k).c)) ?_
        refine WpA.oS 20 rfl (O.lit tb (fun p41 => ⟨?_, ?_, ?_⟩))
        exact holdT
        exact holdT
        refine WpA.oS 21 rfl (O.apL (m := [sayMk 3 x k]) tb rfl rfl (by (intro _; repeat first | exact Upd.here _ _ _ | apply Upd.there)) (SrcL.one (f := TMsg.c) (a := sayMk 3 x k) tb (by (repeat first | exact List.Mem.head _ | apply List.Mem.tail)) TMsg.ones) (fun g42 cap42 => ⟨?_, ?_, ?_⟩))
        exact holdT
        exact holdT
        refine WpA.tF 22 rfl (V.as) ?_
        refine WpA.ou ?_
        apply Out.blockN
        apply Out.seqN
        apply Wp.region
        refine WpL.v (V.add) ?_
        refine WpL.v (V.mv) ?_
        apply WpL.nil
        rotate_left
        (try simp only [decide_eq_true_eq, decide_eq_false_iff_not, Bool.not_eq_true', Bool.not_eq_false', Bool.not_eq_true, Bool.not_eq_false, not_true_eq_false, not_false_eq_true, reduceCtorEq] at hb10)
        (exfalso; omega)
        exact Out.ag hK (k + 1, .slice (some ⟨g42, 0, none⟩) (x.says k ++ [sayMk 3 x k]).length cap42) (by show k + 1 ≤ _; omega) (by show nn - (k + 1) < nn - k; omega) (he := by (repeat (first | exact subEnv.nil | refine subEnv.cons rfl rfl ?_))) (hs := by rw [e3]; (repeat (first | exact Sel.nil | exact Rem.here | apply Sel.cons | apply Rem.there)))
      · obtain rfl : k = nn := by omega
        apply Wp.seq
        apply Wp.region
        refine WpL.v (V.cmp) ?_
        apply WpL.nil
        apply Out.seqN
        apply Wp.seq
        refine Wp.c (fun hb20 => ?_) (fun hb20 => ?_)
        (try simp only [decide_eq_true_eq, decide_eq_false_iff_not, Bool.not_eq_true', Bool.not_eq_false', Bool.not_eq_true, Bool.not_eq_false, not_true_eq_false, not_false_eq_true, reduceCtorEq] at hb20)
        (exfalso; omega)
        (try simp only [decide_eq_true_eq, decide_eq_false_iff_not, Bool.not_eq_true', Bool.not_eq_false', Bool.not_eq_true, Bool.not_eq_false, not_true_eq_false, not_false_eq_true, reduceCtorEq] at hb20)
        apply Wp.exit
        apply Out.seqE
        apply Out.seqE
        apply Out.blockE
        apply Out.seqN
        apply Wp.seq
        apply Wp.region
        refine WpL.v (V.mv) ?_
        refine WpL.v (V.as) ?_
        apply WpL.nil
        apply Out.seqN
        apply Wp.ret
        refine Out.e1 rfl ResIs.t ?_
        exact ⟨_, _, ⟨_, rfl, rfl⟩, (by (repeat (first | exact Sel.nil | exact Rem.here | apply Sel.cons | apply Rem.there)))⟩
    · have hk : sayK x.phase = 5 := by unfold sayK; rw [h]; rfl
      refine Ct.enter Try.func41 rfl rfl fun W => ?_
      refine Wp.nilRows TMsg.c 44 25 ?_
      apply Wp.seq
      apply Wp.region
      refine WpL.v (V.as) ?_
      apply WpL.nil
      apply Out.seqN
      apply Wp.seq
      apply Wp.region
      refine WpL.v (V.as) ?_
      apply WpL.nil
      apply Out.seqN
      apply Wp.seq
      apply Wp.seq
      apply Wp.region
      refine WpL.v (V.mv) ?_
      refine WpL.o (Op1.callT rfl (hp) (by (repeat (first | exact Sel.nil | exact Rem.here | apply Sel.cons | apply Rem.there))) ?_)
      rintro v0 s1 ⟨rfl, rfl⟩
      refine incat ?_
      apply WpL.nil
      apply Out.seqN
      apply Wp.block
      apply Wp.seq
      apply Wp.region
      refine WpL.v (V.cmp) ?_
      refine WpL.v (V.as) ?_
      apply WpL.nil
      apply Out.seqN
      refine Wp.c (fun hc2 => ?_) (fun hc2 => ?_)
      (try simp only [decide_eq_true_eq, decide_eq_false_iff_not, Bool.not_eq_true', Bool.not_eq_false', Bool.not_eq_true, Bool.not_eq_false, not_true_eq_false, not_false_eq_true, reduceCtorEq] at hc2)
      (exfalso; omega)
      (try simp only [decide_eq_true_eq, decide_eq_false_iff_not, Bool.not_eq_true', Bool.not_eq_false', Bool.not_eq_true, Bool.not_eq_false, not_true_eq_false, not_false_eq_true, reduceCtorEq] at hc2)
      apply Wp.seq
      apply Wp.region
      refine WpL.v (V.cmp) ?_
      refine WpL.v (V.as) ?_
      apply WpL.nil
      apply Out.seqN
      refine Wp.c (fun hc3 => ?_) (fun hc3 => ?_)
      (try simp only [decide_eq_true_eq, decide_eq_false_iff_not, Bool.not_eq_true', Bool.not_eq_false', Bool.not_eq_true, Bool.not_eq_false, not_true_eq_false, not_false_eq_true, reduceCtorEq] at hc3)
      (exfalso; omega)
      (try simp only [decide_eq_true_eq, decide_eq_false_iff_not, Bool.not_eq_true', Bool.not_eq_false', Bool.not_eq_true, Bool.not_eq_false, not_true_eq_false, not_false_eq_true, reduceCtorEq] at hc3)
      apply Wp.seq
      apply Wp.region
      refine WpL.v (V.cmp) ?_
      refine WpL.v (V.as) ?_
      apply WpL.nil
      apply Out.seqN
      refine Wp.c (fun hc4 => ?_) (fun hc4 => ?_)
      (try simp only [decide_eq_true_eq, decide_eq_false_iff_not, Bool.not_eq_true', Bool.not_eq_false', Bool.not_eq_true, Bool.not_eq_false, not_true_eq_false, not_false_eq_true, reduceCtorEq] at hc4)
      apply Wp.region
      refine WpL.v (V.as) ?_
      apply WpL.nil
      apply Out.blockN
      apply Out.seqN
      apply Wp.seq
      apply Wp.region
      refine WpL.v (V.as) ?_
      apply WpL.nil
      apply Out.seqN
      apply Wp.seq
      apply Wp.seq
      apply Wp.region
      refine WpL.v (V.mv) ?_
      refine WpL.v (V.nc) ?_
      refine WpL.v (V.fa tb) ?_
      refine WpL.v (V.ld1 tb) ?_
      refine WpL.v (V.mv) ?_
      apply WpL.nil
      apply Out.seqN
      apply Wp.block
      rotate_left
      (try simp only [decide_eq_true_eq, decide_eq_false_iff_not, Bool.not_eq_true', Bool.not_eq_false', Bool.not_eq_true, Bool.not_eq_false, not_true_eq_false, not_false_eq_true, reduceCtorEq] at hc4)
      (exfalso; omega)
      refine Wp.lp [17, 3, 0] (fun y : Nat × Go.Value => y.1 ≤ nn) (fun y => [(18, I (y.1 : Int)), (4, y.2)]) (fun y => [rows TMsg.c y.2 44 25 (x.says y.1)]) (fun y => nn - y.1) (0, .slice none 0 0) (Nat.zero_le _) ?_
      rintro ⟨k, v⟩ hkn K hK
      dsimp only at hkn
      dsimp only [List.cons_append, List.nil_append]
      have hsl := x.says_len k
      by_cases hlt : k < nn
      · have e3 : x.says (k + 1) = x.says k ++ [sayMk 5 x k] := by rw [LeadS.says_succ, sayM, hk]
        apply Wp.seq
        apply Wp.region
        refine WpL.v (V.cmp) ?_
        apply WpL.nil
        apply Out.seqN
        apply Wp.seq
        refine Wp.c (fun hc10 => ?_) (fun hc10 => ?_)
        (try simp only [decide_eq_true_eq, decide_eq_false_iff_not, Bool.not_eq_true', Bool.not_eq_false', Bool.not_eq_true, Bool.not_eq_false, not_true_eq_false, not_false_eq_true, reduceCtorEq] at hc10)
        apply Wp.skip
        apply Out.seqN
        apply Wp.seq
        apply Wp.block
        apply Wp.seq
        apply Wp.region
        refine WpL.v (V.mv) ?_
        refine WpL.v (V.as) ?_
        apply WpL.nil
        apply Out.seqN
        refine Wp.dG [] ?_ (List.Sublist.cons _ (List.Sublist.cons_cons _ List.Sublist.slnil)) (List.Sublist.cons _ (List.Sublist.cons_cons _ List.Sublist.slnil))
        refine WpA.tF 0 rfl (V.mv) ?_
        refine WpA.tF 1 rfl (V.mv) ?_
        refine WpA.tF 2 rfl (V.mv) ?_
        refine WpA.tF 3 rfl (V.nc) ?_
        refine WpA.tF 4 rfl (V.fa tb) ?_
        refine WpA.tF 5 rfl (V.ld1 tb) ?_
        refine WpA.tF 6 rfl (V.mv) ?_
        refine WpA.tF 7 rfl (V.mv) ?_
        refine WpA.tF 8 rfl (V.nc) ?_
        refine WpA.tF 9 rfl (V.fa tb) ?_
        refine WpA.tF 10 rfl (V.ldA tb) ?_
        refine WpA.tF 11 rfl (V.mv) ?_
        refine WpA.tF 12 rfl (V.nc) ?_
        refine WpA.tF 13 rfl (V.fa tb) ?_
        refine WpA.tF 14 rfl (V.ldA tb) ?_
        refine WpA.tF 15 rfl (V.mv) ?_
        refine WpA.tF 16 rfl (V.nc) ?_
        refine WpA.tF 17 rfl (V.fa tb) ?_
        refine WpA.tF 18 rfl (V.ldA tb) ?_
        refine WpA.tF 19 rfl (V.bld tb (c' := (sayMk 5 x k).c)) ?_
        refine WpA.oS 20 rfl (O.lit tb (fun p41 => ⟨?_, ?_, ?_⟩))
        exact holdT
        exact holdT
        refine WpA.oS 21 rfl (O.apL (m := [sayMk 5 x k]) tb rfl rfl (by (intro _; repeat first | exact Upd.here _ _ _ | apply Upd.there)) (SrcL.one (f := TMsg.c) (a := sayMk 5 x k) tb (by (repeat first | exact List.Mem.head _ | apply List.Mem.tail)) TMsg.ones) (fun g42 cap42 => ⟨?_, ?_, ?_⟩))
        exact holdT
        exact holdT
        refine WpA.tF 22 rfl (V.as) ?_
        refine WpA.ou ?_
        apply Out.blockN
        apply Out.seqN
        apply Wp.region
        refine WpL.v (V.add) ?_
        refine WpL.v (V.mv) ?_
        apply WpL.nil
        rotate_left
        (try simp only [decide_eq_true_eq, decide_eq_false_iff_not, Bool.not_eq_true', Bool.not_eq_false', Bool.not_eq_true, Bool.not_eq_false, not_true_eq_false, not_false_eq_true, reduceCtorEq] at hc10)
        (exfalso; omega)
        exact Out.ag hK (k + 1, .slice (some ⟨g42, 0, none⟩) (x.says k ++ [sayMk 5 x k]).length cap42) (by show k + 1 ≤ _; omega) (by show nn - (k + 1) < nn - k; omega) (he := by (repeat (first | exact subEnv.nil | refine subEnv.cons rfl rfl ?_))) (hs := by rw [e3]; (repeat (first | exact Sel.nil | exact Rem.here | apply Sel.cons | apply Rem.there)))
      · obtain rfl : k = nn := by omega
        apply Wp.seq
        apply Wp.region
        refine WpL.v (V.cmp) ?_
        apply WpL.nil
        apply Out.seqN
        apply Wp.seq
        refine Wp.c (fun hc20 => ?_) (fun hc20 => ?_)
        (try simp only [decide_eq_true_eq, decide_eq_false_iff_not, Bool.not_eq_true', Bool.not_eq_false', Bool.not_eq_true, Bool.not_eq_false, not_true_eq_false, not_false_eq_true, reduceCtorEq] at hc20)
        (exfalso; omega)
        (try simp only [decide_eq_true_eq, decide_eq_false_iff_not, Bool.not_eq_true', Bool.not_eq_false', Bool.not_eq_true, Bool.not_eq_false, not_true_eq_false, not_false_eq_true, reduceCtorEq] at hc20)
        apply Wp.exit
        apply Out.seqE
        apply Out.seqE
        apply Out.blockE
        apply Out.seqN
        apply Wp.seq
        apply Wp.region
        refine WpL.v (V.mv) ?_
        refine WpL.v (V.as) ?_
        apply WpL.nil
        apply Out.seqN
        apply Wp.ret
        refine Out.e1 rfl ResIs.t ?_
        exact ⟨_, _, ⟨_, rfl, rfl⟩, (by (repeat (first | exact Sel.nil | exact Rem.here | apply Sel.cons | apply Rem.there)))⟩
  · rw [show x.say = [] by rw [LeadS.say, if_neg h]]
    refine Ct.enter Try.func41 rfl rfl fun W => ?_
    refine Wp.nilRows TMsg.c 44 25 ?_
    apply Wp.seq
    apply Wp.region
    refine WpL.v (V.as) ?_
    apply WpL.nil
    apply Out.seqN
    apply Wp.seq
    apply Wp.region
    refine WpL.v (V.as) ?_
    apply WpL.nil
    apply Out.seqN
    apply Wp.seq
    apply Wp.seq
    apply Wp.region
    refine WpL.v (V.mv) ?_
    refine WpL.o (Op1.callT rfl (hp) (by (repeat (first | exact Sel.nil | exact Rem.here | apply Sel.cons | apply Rem.there))) ?_)
    rintro v0 s1 ⟨rfl, rfl⟩
    refine incat ?_
    apply WpL.nil
    apply Out.seqN
    apply Wp.block
    apply Wp.seq
    apply Wp.region
    refine WpL.v (V.cmp) ?_
    refine WpL.v (V.as) ?_
    apply WpL.nil
    apply Out.seqN
    refine Wp.c (fun hd2 => ?_) (fun hd2 => ?_)
    (try simp only [decide_eq_true_eq, decide_eq_false_iff_not, Bool.not_eq_true', Bool.not_eq_false', Bool.not_eq_true, Bool.not_eq_false, not_true_eq_false, not_false_eq_true, reduceCtorEq] at hd2)
    (exfalso; omega)
    (try simp only [decide_eq_true_eq, decide_eq_false_iff_not, Bool.not_eq_true', Bool.not_eq_false', Bool.not_eq_true, Bool.not_eq_false, not_true_eq_false, not_false_eq_true, reduceCtorEq] at hd2)
    apply Wp.seq
    apply Wp.region
    refine WpL.v (V.cmp) ?_
    refine WpL.v (V.as) ?_
    apply WpL.nil
    apply Out.seqN
    refine Wp.c (fun hd3 => ?_) (fun hd3 => ?_)
    (try simp only [decide_eq_true_eq, decide_eq_false_iff_not, Bool.not_eq_true', Bool.not_eq_false', Bool.not_eq_true, Bool.not_eq_false, not_true_eq_false, not_false_eq_true, reduceCtorEq] at hd3)
    (exfalso; omega)
    (try simp only [decide_eq_true_eq, decide_eq_false_iff_not, Bool.not_eq_true', Bool.not_eq_false', Bool.not_eq_true, Bool.not_eq_false, not_true_eq_false, not_false_eq_true, reduceCtorEq] at hd3)
    apply Wp.seq
    apply Wp.region
    refine WpL.v (V.cmp) ?_
    refine WpL.v (V.as) ?_
    apply WpL.nil
    apply Out.seqN
    refine Wp.c (fun hd4 => ?_) (fun hd4 => ?_)
    (try simp only [decide_eq_true_eq, decide_eq_false_iff_not, Bool.not_eq_true', Bool.not_eq_false', Bool.not_eq_true, Bool.not_eq_false, not_true_eq_false, not_false_eq_true, reduceCtorEq] at hd4)
    (exfalso; omega)
    (try simp only [decide_eq_true_eq, decide_eq_false_iff_not, Bool.not_eq_true', Bool.not_eq_false', Bool.not_eq_true, Bool.not_eq_false, not_true_eq_false, not_false_eq_true, reduceCtorEq] at hd4)
    apply Wp.seq
    apply Wp.region
    refine WpL.v (V.as) ?_
    apply WpL.nil
    apply Out.seqN
    apply Wp.ret
    apply Out.blockR
    apply Out.seqR
    refine Out.e1 rfl ResIs.t ?_
    exact ⟨_, _, ⟨_, rfl, rfl⟩, (by (repeat (first | exact Sel.nil | exact Rem.here | apply Sel.cons | apply Rem.there)))⟩
end Go.Proofs.Ythoepbbpmdmfeaa
