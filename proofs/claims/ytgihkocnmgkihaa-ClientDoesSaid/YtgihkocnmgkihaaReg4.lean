/-
  Layer 20: alive.
-/
import Derived.Test.YtgihkocnmgkihaaReg3
namespace Go.Proofs.Ytgihkocnmgkihaa
open Go.HL
set_option linter.unusedSimpArgs false
set_option linter.unusedVariables false
set_option maxRecDepth 8000
theorem alive20 : Fun Try.prog 12 [] (B true) := by
  have hN := reg_new
  have hD1 (b m : Nat) := reg_do b m [] ⟨2, [97], [], 0, 0, 0⟩ (by decide) (by decide)
  rw [show doN [] ⟨2, [97], [], 0, 0, 0⟩ = (rep 0 [] 1, [([97], ⟨[97], [], 1⟩)]) by rfl] at hD1
  have hD2 (b m : Nat) := reg_do b m [([97], ⟨[97], [], 1⟩)] ⟨3, [97], [], 1, 0, 0⟩ (by decide) (by decide)
  rw [show doN [([97], ⟨[97], [], 1⟩)] ⟨3, [97], [], 1, 0, 0⟩ = (rep 0 [] 2, [([97], ⟨[97], [], 2⟩)]) by rfl] at hD2
  have hL (b m : Nat) := reg_len b m [([97], ⟨[97], [], 2⟩)]
  unfold rgE mE at hN hD1 hD2 hL
  unfold rep at hD1 hD2
  refine Ct.enter Try.func12 rfl rfl fun W => ?_
  apply Wp.seq
  apply Wp.region
  refine WpL.v (V.as) ?_
  apply WpL.nil
  apply Out.seqN
  apply Wp.seq
  apply Wp.region
  refine WpL.o (Op1.callT rfl (hN) (by (repeat (first | exact Sel.nil | exact Rem.here | apply Sel.cons | apply Rem.there))) ?_)
  rintro v0 s1 ⟨b3, ⟨m3, ⟨rfl, rfl⟩⟩⟩
  refine incat ?_
  refine WpL.v (V.as) ?_
  apply WpL.nil
  apply Out.seqN
  apply Wp.seq
  apply Wp.region
  refine WpL.v (V.mv) ?_
  refine WpL.v (V.bld tb (c' := TDeed.c ⟨2, [97], [], 0, 0, 0⟩)) ?_
  refine WpL.o (Op1.callT rfl (hD1 _ _) (by (repeat (first | exact Sel.nil | exact Rem.here | apply Sel.cons | apply Rem.there))) ?_)
  rintro v2 s3 ⟨rfl, rfl⟩
  refine incat ?_
  apply WpL.nil
  apply Out.seqN
  apply Wp.seq
  apply Wp.region
  refine WpL.v (V.mv) ?_
  refine WpL.v (V.bld tb (c' := TDeed.c ⟨3, [97], [], 1, 0, 0⟩)) ?_
  refine WpL.o (Op1.callT rfl (hD2 _ _) (by (repeat (first | exact Sel.nil | exact Rem.here | apply Sel.cons | apply Rem.there))) ?_)
  rintro v4 s5 ⟨rfl, rfl⟩
  refine incat ?_
  refine WpL.o (O.al tb (fun p2 => ?_))
  refine WpL.o (O.stA tb ?_)
  apply WpL.nil
  apply Out.seqN
  apply Wp.seq
  apply Wp.region
  refine WpL.v (V.fa tb) ?_
  refine WpL.v (V.ld1 tb) ?_
  refine WpL.v (V.cmp) ?_
  refine WpL.v (V.mv) ?_
  refine WpL.v (V.fa tb) ?_
  refine WpL.v (V.ld1 tb) ?_
  refine WpL.v (V.cmp) ?_
  refine WpL.v (V.pT) ?_
  refine WpL.v (V.mv) ?_
  refine WpL.v (V.mv) ?_
  refine WpL.o (Op1.callT rfl (hL _ _) (by (repeat (first | exact Sel.nil | exact Rem.here | apply Sel.cons | apply Rem.there))) ?_)
  rintro v6 s7 ⟨rfl, rfl⟩
  refine incat ?_
  refine WpL.v (V.cmp) ?_
  refine WpL.v (V.pT) ?_
  refine WpL.v (V.as) ?_
  apply WpL.nil
  apply Out.seqN
  apply Wp.ret
  refine Out.f1 rfl ResIs.t ⟨?_, rfl⟩
  exact rfl
end Go.Proofs.Ytgihkocnmgkihaa
