/-
  Layer 16: a rescue: how it goes on.
-/
import Derived.Test.YthoepbbpmdmfeaaLead8
import Derived.Test.YthoepbbpmdmfeaaHeapJ
namespace Go.Proofs.Ythoepbbpmdmfeaa
open Go.HL
set_option linter.unusedSimpArgs false
set_option linter.unusedVariables false
set_option maxRecDepth 8000
structure RescS.wf (x : RescS) : Prop where
  gl : x.gl.length = 7
  gh : x.gh.length = 7
  gn : 0 ≤ x.gn ∧ x.gn ≤ 50
def RescS.pre (x : RescS) : List Go.Value := [I x.n, I x.self] ++ (x.item.c ++ (x.ballot.c ++ [B x.lost]))
theorem RescS.vm (x : RescS) : x.c = VM x.pre x.gl x.gh x.gn [x.next] := rfl
theorem RescS.wf.v {x : RescS} (w : x.wf) : VOk x.pre 7 x.gl x.gh := ⟨rfl, w.gl, w.gh⟩
theorem RescS.len {x : RescS} (w : x.wf) : x.c.length = 191 := by rw [RescS.vm, VM.len w.v]; rfl
theorem RescS.setNext {x : RescS} (w : x.wf) (v : Go.Value) : SplOf 190 [v] x.c ({ x with next := v } : RescS).c := ⟨by
  have hv := votesC_len (n := x.gn) w.gl w.gh
  have e : ∀ u : Go.Value, ({ x with next := u } : RescS).c = ([.int .i64 x.n, .int .i64 x.self] ++ (x.item.c ++ (x.ballot.c ++ ([.bool x.lost] ++ (votesC x.gl x.gh x.gn))))) ++ ([u] ++ []) := fun u => by simp [RescS.c]
  have e0 : x.c = ({ x with next := x.next } : RescS).c := rfl
  rw [e0, e, e]
  exact splice_mid (by simp [hv, TItem.len, TBallot.len]) rfl⟩
theorem RescS.bNext {x : RescS} (w : x.wf) : Nat.blt 190 x.c.length = true := by rw [RescS.len w]; rfl
theorem rescue_lead (b : Nat) (x : RescS) (w : x.wf) (p : Int) (c : TCall) : Ct Try.prog 116 [Ptr b 0, I p, A c.c] [cells b 154 x.c] (fun r σ' => ∃ q, r = .tuple #[] ∧ σ' = [cells b 154 ({ x with next := Ptr q 0 } : RescS).c, cells q 142 (newL x.n x.self x.item x.ballot c p).c]) := by
  have hN := lead_new x.n x.self x.item x.ballot c p
  have hb := RescS.bNext w
  have hs (q : Nat) := RescS.setNext w (Ptr q 0)
  refine Ct.enter Try.func116 rfl rfl fun W => ?_
  apply Wp.seq
  apply Wp.region
  refine WpL.o (O.bxA (fun p5 => ?_))
  apply WpL.nil
  apply Out.seqN
  refine Wp.dG [22] ?_ (List.Sublist.cons_cons _ (List.Sublist.cons_cons _ List.Sublist.slnil)) (List.Sublist.cons_cons _ (List.Sublist.cons _ List.Sublist.slnil))
  refine WpA.tF 0 rfl (V.mv) ?_
  refine WpA.tF 1 rfl (V.mv) ?_
  refine WpA.tF 2 rfl (V.nc) ?_
  refine WpA.tF 3 rfl (V.fa tb) ?_
  refine WpA.tF 5 rfl (V.mv) ?_
  refine WpA.tF 6 rfl (V.nc) ?_
  refine WpA.tF 7 rfl (V.fa tb) ?_
  refine WpA.tF 9 rfl (V.mv) ?_
  refine WpA.tF 10 rfl (V.nc) ?_
  refine WpA.tF 11 rfl (V.fa tb) ?_
  refine WpA.tF 13 rfl (V.mv) ?_
  refine WpA.tF 14 rfl (V.nc) ?_
  refine WpA.tF 15 rfl (V.fa tb) ?_
  refine WpA.tF 17 rfl (V.ldA tb) ?_
  refine WpA.tF 18 rfl (V.mv) ?_
  refine WpA.t 4 rfl (V.ld1 tb) ?_
  refine WpA.t 8 rfl (V.ld1 tb) ?_
  refine WpA.t 12 rfl (V.ldA tb) ?_
  refine WpA.t 16 rfl (V.ldA tb) ?_
  refine WpA.oS 19 rfl (Op1.callT rfl (hN) (by (repeat (first | exact Sel.nil | exact Rem.here | apply Sel.cons | apply Rem.there))) ?_)
  rintro v0 s1 ⟨q25, ⟨rfl, rfl⟩⟩
  refine incat ⟨?_, ?_, ?_⟩
  exact holdT
  exact holdT
  refine WpA.tF 20 rfl (V.nc) ?_
  refine WpA.tF 21 rfl (V.fa tb) ?_
  refine WpA.l 22 rfl (O.st1 tb ⟨?_, ?_⟩ (hl := hb) (hs := hs _))
  exact holdT
  refine WpA.ou ?_
  refine Out.e0 rfl  ?_
  exact ⟨_, _, ⟨_, rfl, rfl⟩, (by (repeat (first | exact Sel.nil | exact Rem.here | apply Sel.cons | apply Rem.there)))⟩
def comM (x : RescS) (c : TCall) : TMsg := { TMsg.z with Kind := 5, To := x.self, Item := x.item, Call := c }
def doneL (x : RescS) (c : TCall) : LeadS := { newL x.n x.self x.item x.ballot c 2 with call := c, phase := 3 }
theorem done_hear (x : RescS) (c : TCall) (hn : 1 ≤ x.n) : (newL x.n x.self x.item x.ballot c 2).hear (comM x c) = (doneL x c, true) := by
  unfold LeadS.hear
  rw [if_neg (by
    show ¬ (2 < (2 : Int) ∨ x.item ≠ x.item ∨ x.self ≠ x.self ∨ (0 : Int) < 0 ∨ x.n ≤ 0)
    simp; omega), if_pos (show (comM x c).Kind = 5 from rfl)]
  rfl
theorem rescue_done (b : Nat) (x : RescS) (w : x.wf) (c : TCall) (hn : 1 ≤ x.n ∧ x.n ≤ 1000) : Ct Try.prog 97 [Ptr b 0, A c.c] [cells b 154 x.c] (fun r σ' => ∃ q, r = .tuple #[] ∧ σ' = [cells b 154 ({ x with next := Ptr q 0 } : RescS).c, cells q 142 (doneL x c).c]) := by
  have hL := rescue_lead b x w 2 c
  have hH (q : Nat) := lead_hear q (newL x.n x.self x.item x.ballot c 2) (newL_wf _ _ _ _ _ _) (comM x c) (show 0 ≤ x.n ∧ x.n ≤ 1000 by omega)
  rw [done_hear x c hn.1] at hH
  have hat (q : Nat) := RescS.at (x := { x with next := Ptr q 0 }) w.gl w.gh
  refine Ct.enter Try.func97 rfl rfl fun W => ?_
  apply Wp.seq
  apply Wp.region
  refine WpL.o (O.bxA (fun p3 => ?_))
  apply WpL.nil
  apply Out.seqN
  apply Wp.seq
  apply Wp.region
  refine WpL.v (V.mv) ?_
  refine WpL.v (V.ldA tb) ?_
  refine WpL.o (Op1.callT rfl (hL) (by (repeat (first | exact Sel.nil | exact Rem.here | apply Sel.cons | apply Rem.there))) ?_)
  rintro v0 s1 ⟨q6, ⟨rfl, rfl⟩⟩
  refine incat ?_
  apply WpL.nil
  apply Out.seqN
  refine Wp.dG [] ?_ (List.Sublist.cons_cons _ (List.Sublist.cons _ (List.Sublist.cons_cons _ List.Sublist.slnil))) (List.Sublist.cons_cons _ (List.Sublist.cons _ (List.Sublist.cons_cons _ List.Sublist.slnil)))
  refine WpA.tF 0 rfl (V.mv) ?_
  refine WpA.tF 1 rfl (V.nc) ?_
  refine WpA.tF 2 rfl (V.fa tb) ?_
  refine WpA.tF 3 rfl (V.ld1 tb (hr := hat _)) ?_
  refine WpA.tF 4 rfl (V.mv) ?_
  refine WpA.tF 5 rfl (V.nc) ?_
  refine WpA.tF 6 rfl (V.fa tb) ?_
  refine WpA.tF 7 rfl (V.ld1 tb) ?_
  refine WpA.tF 8 rfl (V.mv) ?_
  refine WpA.tF 9 rfl (V.nc) ?_
  refine WpA.tF 10 rfl (V.fa tb) ?_
  refine WpA.tF 11 rfl (V.ldA tb) ?_
  refine WpA.tF 12 rfl (V.ldA tb) ?_
  refine WpA.tF 13 rfl (V.bld tb (c' := (comM x c).c)) ?_
  refine WpA.oS 14 rfl (Op1.callT rfl (hH _) (by (repeat (first | exact Sel.nil | exact Rem.here | apply Sel.cons | apply Rem.there))) ?_)
  rintro v2 s3 ⟨rfl, rfl⟩
  refine incat ⟨?_, ?_, ?_⟩
  exact holdT
  exact holdT
  refine WpA.ou ?_
  refine Out.e0 rfl  ?_
  exact ⟨_, _, ⟨_, rfl, rfl⟩, (by (repeat (first | exact Sel.nil | exact Rem.here | apply Sel.cons | apply Rem.there)))⟩
end Go.Proofs.Ythoepbbpmdmfeaa
