/-
  Layer 20: a nil registry.
-/
import Derived.Test.YtgihkocnmgkihaaAny
import Derived.Test.YtgihkocnmgkihaaHeapQ
namespace Go.Proofs.Ytgihkocnmgkihaa
open Go.HL
set_option linter.unusedSimpArgs false
set_option linter.unusedVariables false
set_option maxRecDepth 8000
theorem reg_do_nil (d : TDeed) : Fun Try.prog 15 [.pointer none, A d.c] (A (RegistryReply.c ⟨2, [], 0, .slice none 0 0⟩)) := by
  refine Ct.enter Try.func15 rfl rfl fun W => ?_
  apply Wp.seq
  apply Wp.region
  refine WpL.o (O.bxA (fun p3 => ?_))
  refine WpL.o (O.al tb (fun p4 => ?_))
  apply WpL.nil
  apply Out.seqN
  apply Wp.seq
  apply Wp.seq
  apply Wp.region
  refine WpL.v (V.mv) ?_
  refine WpL.v (V.eqN) ?_
  apply WpL.nil
  apply Out.seqN
  refine Wp.cT ?_
  apply Wp.seq
  apply Wp.region
  refine WpL.v (V.bld tb) ?_
  refine WpL.o (O.stA tb ?_)
  apply WpL.nil
  apply Out.seqN
  apply Wp.ret
  apply Out.seqR
  refine Out.f1 rfl (ResIs.ca tb) ⟨?_, rfl⟩
  exact rfl
theorem reg_len_nil : Fun Try.prog 20 [.pointer none] (I 0) := by
  refine Ct.enter Try.func20 rfl rfl fun W => ?_
  apply Wp.seq
  apply Wp.region
  refine WpL.v (V.as) ?_
  apply WpL.nil
  apply Out.seqN
  apply Wp.seq
  apply Wp.seq
  apply Wp.region
  refine WpL.v (V.mv) ?_
  refine WpL.v (V.eqN) ?_
  apply WpL.nil
  apply Out.seqN
  refine Wp.cT ?_
  apply Wp.seq
  apply Wp.region
  refine WpL.v (V.as) ?_
  apply WpL.nil
  apply Out.seqN
  apply Wp.ret
  apply Out.seqR
  refine Out.f1 rfl ResIs.t ⟨?_, rfl⟩
  exact rfl
theorem pairs_iter_nil (a c : Nat) (p : List UInt8) : Iter Try.prog 50 [Ptr a 0, Ptr c 0] [cells a 25 [.pointer none], cells c 9 [S p]] encP [] [cells a 25 [.pointer none], cells c 9 [S p]] := by
  intro y β G X S' b0 hG0 hY
  refine Ct.enter Try.func50 rfl rfl fun W => ?_
  apply Wp.seq
  apply Wp.seq
  apply Wp.region
  refine WpL.v (V.ld1 tb) ?_
  refine WpL.v (V.eqN) ?_
  apply WpL.nil
  apply Out.seqN
  refine Wp.cT ?_
  apply Wp.ret
  apply Out.seqR
  refine Out.e0 rfl  ?_
  focus (exact ⟨_, _, ⟨b0, .inl hG0, rfl⟩, (by (repeat (first | exact Sel.nil | exact Rem.here | apply Sel.cons | apply Rem.there)))⟩; done)
theorem reg_bytes_nil : Ct Try.prog 21 [.pointer none] [] (fun r σ' => r = S [] ∧ σ' = []) := by
  have hP := reg_pairs (.pointer none) rfl []
  refine Ct.enter Try.func21 rfl rfl fun W => ?_
  apply Wp.seq
  apply Wp.region
  refine WpL.v (V.as) ?_
  apply WpL.nil
  apply Out.seqN
  apply Wp.seq
  apply Wp.region
  refine WpL.v (V.bld tb) ?_
  refine WpL.o (O.bxR u8c 5 1 rfl (fun p6 => ?_))
  refine WpL.o (O.al tb (fun p3 => ?_))
  refine WpL.o (O.st1 tb ?_)
  apply WpL.nil
  apply Out.seqN
  apply Wp.seq
  apply Wp.seq
  apply Wp.region
  refine WpL.v (V.mv) ?_
  refine WpL.o (Op1.callT rfl (hP) (by (repeat (first | exact Sel.nil | exact Rem.here | apply Sel.cons | apply Rem.there))) ?_)
  rintro v0 s1 ⟨a8, ⟨c8, ⟨rfl, rfl⟩⟩⟩
  refine incat ?_
  apply WpL.nil
  apply Out.seqN
  apply Wp.block
  refine Wp.rg (pairs_iter_nil a8 c8 []) (fun y : Unit => []) (fun pre y => True) (fun _ _ _ => False) () trivial ?_ ?_ ?_
  · rintro pre x post y lp rec hx hxs hr W' D' K hK
    simp at hx
  · rintro y b1 hxs
    dsimp only [List.cons_append, List.nil_append]
    apply Out.blockN
    apply Out.seqN
    apply Wp.seq
    apply Wp.region
    refine WpL.v (V.ld1 tb) ?_
    refine WpL.o (Op1.callT rfl (sinkBytes _ _ _) (by (repeat (first | exact Sel.nil | exact Rem.here | apply Sel.cons | apply Rem.there))) ?_)
    rintro v0 s1 ⟨rfl, rfl⟩
    refine incat ?_
    refine WpL.v (V.as) ?_
    apply WpL.nil
    apply Out.seqN
    apply Wp.ret
    refine Out.f1 rfl ResIs.t ⟨?_, rfl⟩
    exact rfl
  · intro _ _ _ _ _ _ _ h
    exact h.elim
end Go.Proofs.Ytgihkocnmgkihaa
