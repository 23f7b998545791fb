/-
  Layer 20: the registry.
-/
import Derived.Test.YtgihkocnmgkihaaPairs
import Derived.Test.YtgihkocnmgkihaaHeapN
import Derived.Test.YtgihkocnmgkihaaHeapG
namespace Go.Proofs.Ytgihkocnmgkihaa
open Go.HL
set_option linter.unusedSimpArgs false
set_option linter.unusedVariables false
set_option maxRecDepth 8000
theorem reg_new : Ct Try.prog 14 [] [] (fun r σ' => ∃ b m, r = Ptr b 0 ∧ σ' = rgE b m []) := by
  unfold rgE mE
  refine Ct.enter Try.func14 rfl rfl fun W => ?_
  apply Wp.seq
  apply Wp.region
  refine WpL.v (V.as) ?_
  apply WpL.nil
  apply Out.seqN
  apply Wp.seq
  apply Wp.region
  refine WpL.o (Op1.mkMap kS vP rfl (fun p1 => ?_))
  refine WpL.v (V.bld tb) ?_
  refine WpL.o (O.bxA (fun p3 => ?_))
  refine WpL.v (V.as) ?_
  apply WpL.nil
  apply Out.seqN
  apply Wp.ret
  refine Out.e1 rfl ResIs.t ?_
  focus (exact ⟨_, _, ⟨_, _, rfl, rfl⟩, (by (repeat (first | exact Sel.nil | exact Rem.here | apply Sel.cons | apply Rem.there)))⟩; done)
theorem reg_len (b m : Nat) (l : PM) : Ct Try.prog 20 [Ptr b 0] (rgE b m l) (fun r σ' => r = I (l.length : Int) ∧ σ' = rgE b m l) := by
  unfold rgE mE
  refine Ct.enter Try.func20 rfl rfl fun W => ?_
  apply Wp.seq
  apply Wp.region
  refine WpL.v (V.as) ?_
  apply WpL.nil
  apply Out.seqN
  apply Wp.seq
  apply Wp.seq
  apply Wp.region
  refine WpL.v (V.mv) ?_
  refine WpL.v (V.eqP) ?_
  apply WpL.nil
  apply Out.seqN
  refine Wp.cF ?_
  apply Wp.skip
  apply Out.seqN
  apply Wp.seq
  apply Wp.region
  refine WpL.v (V.mv) ?_
  refine WpL.v (V.nc) ?_
  refine WpL.v (V.fa tb) ?_
  refine WpL.v (V.ld1 tb) ?_
  refine WpL.v (Val.lenM map72 rfl (by (repeat first | exact List.Mem.head _ | apply List.Mem.tail))) ?_
  refine WpL.v (V.as) ?_
  apply WpL.nil
  apply Out.seqN
  apply Wp.ret
  refine Out.f1 rfl ResIs.t ⟨?_, rfl⟩
  exact rfl
def putL (l : PM) (k v : List UInt8) : PM := mput l k ⟨k, v, (look l k).Version + 1⟩
set_option maxHeartbeats 1000000 in
theorem reg_put (b m : Nat) (l : PM) (k v : List UInt8) (hv : 0 ≤ (look l k).Version ∧ (look l k).Version ≤ 1000000) :
    Ct Try.prog 41 [Ptr b 0, S k, S v] (rgE b m l) (fun r σ' => r = A (RegistryReply.c ⟨0, [], (look l k).Version + 1, .slice none 0 0⟩) ∧ σ' = rgE b m (putL l k v)) := by
  unfold putL
  have hv2 : 0 ≤ ((mget l k).getD RegistryPair.z).Version ∧ ((mget l k).getD RegistryPair.z).Version ≤ 1000000 := hv
  unfold rgE mE
  refine Ct.enter Try.func41 rfl rfl fun W => ?_
  apply Wp.seq
  apply Wp.region
  refine WpL.o (O.al tb (fun p6 => ?_))
  apply WpL.nil
  apply Out.seqN
  apply Wp.seq
  apply Wp.region
  refine WpL.v (V.mv) ?_
  refine WpL.v (V.nc) ?_
  refine WpL.v (V.fa tb) ?_
  refine WpL.v (V.ld1 tb) ?_
  refine WpL.v (V.mv) ?_
  refine WpL.v (Val.lookD (l := l) (k := k) (vf := vP) RegistryPair.z kokS map72 zero52 rfl rfl (by (repeat first | exact List.Mem.head _ | apply List.Mem.tail))) ?_
  refine WpL.o (O.al tb (fun p7 => ?_))
  refine WpL.o (O.stA tb ?_)
  apply WpL.nil
  apply Out.seqN
  apply Wp.seq
  apply Wp.region
  refine WpL.v (V.mv) ?_
  refine WpL.v (V.mv) ?_
  refine WpL.v (V.fa tb) ?_
  refine WpL.v (V.ld1 tb) ?_
  refine WpL.v (V.add) ?_
  refine WpL.v (V.fa tb) ?_
  refine WpL.o (O.st1 tb ?_)
  refine WpL.v (V.fa tb) ?_
  refine WpL.o (O.st1 tb ?_)
  refine WpL.v (V.fa tb) ?_
  refine WpL.o (O.st1 tb ?_)
  apply WpL.nil
  apply Out.seqN
  apply Wp.seq
  refine Wp.dG [] ?_ (List.Sublist.cons_cons _ (List.Sublist.cons _ (List.Sublist.cons_cons _ (List.Sublist.cons _ List.Sublist.slnil)))) (List.Sublist.cons_cons _ (List.Sublist.cons _ (List.Sublist.cons_cons _ (List.Sublist.cons _ List.Sublist.slnil))))
  refine WpA.tF 0 rfl (V.mv) ?_
  refine WpA.tF 1 rfl (V.nc) ?_
  refine WpA.tF 2 rfl (V.fa tb) ?_
  refine WpA.tF 3 rfl (V.ld1 tb) ?_
  refine WpA.tF 4 rfl (V.mv) ?_
  refine WpA.tF 5 rfl (V.ldA tb) ?_
  refine WpA.oS 6 rfl (Op1.updM (l := l) (k := k) (v := (⟨k, v, (look l k).Version + 1⟩ : RegistryPair)) (vf := vP) kokS map72 rfl rfl rfl (by (repeat first | exact Upd.here _ _ _ | apply Upd.there)) ⟨?_, ?_, ?_⟩)
  exact holdT
  exact holdT
  refine WpA.ou ?_
  apply Out.seqN
  apply Wp.seq
  apply Wp.region
  refine WpL.v (V.fa tb) ?_
  refine WpL.v (V.ld1 tb) ?_
  refine WpL.v (V.bld tb) ?_
  refine WpL.o (O.stA tb ?_)
  apply WpL.nil
  apply Out.seqN
  apply Wp.ret
  refine Out.f1 rfl (ResIs.ca tb) ⟨?_, rfl⟩
  exact rfl
end Go.Proofs.Ytgihkocnmgkihaa
