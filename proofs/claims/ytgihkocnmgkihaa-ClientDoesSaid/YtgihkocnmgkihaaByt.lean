/-
  Layer 20: the registry's bytes; what clashes.
-/
import Derived.Test.YtgihkocnmgkihaaRef4
namespace Go.Proofs.Ytgihkocnmgkihaa
open Go.HL
set_option linter.unusedSimpArgs false
set_option linter.unusedVariables false
set_option maxRecDepth 8000
theorem reg_bytes (b m : Nat) (n : Nat) (l : PM) (hi : RI n l) (hz : RZ l) (hn : n ≤ 1000) : Ct Try.prog 21 [Ptr b 0] (rgE b m l) (fun r σ' => r = S (bytesR (canon l)) ∧ σ' = rgE b m l) := by
  have hP := reg_pairs (Ptr b 0) rfl []
  have hl := hi.len
  have hsm := Small.canon hi hz (by omega)
  have hcl := canon_len l
  unfold rgE
  refine Ct.enter Try.func21 rfl rfl fun W => ?_
  apply Wp.seq
  apply Wp.region
  refine WpL.v (V.as) ?_
  apply WpL.nil
  apply Out.seqN
  apply Wp.seq
  apply Wp.region
  refine WpL.v (V.bld tb) ?_
  refine WpL.o (O.bxR u8c 5 1 rfl (fun p6 => ?_))
  refine WpL.o (O.al tb (fun p3 => ?_))
  refine WpL.o (O.st1 tb ?_)
  apply WpL.nil
  apply Out.seqN
  apply Wp.seq
  apply Wp.seq
  apply Wp.region
  refine WpL.v (V.mv) ?_
  refine WpL.o (Op1.callT rfl (hP) (by (repeat (first | exact Sel.nil | exact Rem.here | apply Sel.cons | apply Rem.there))) ?_)
  rintro v0 s1 ⟨a8, ⟨c8, ⟨rfl, rfl⟩⟩⟩
  refine incat ?_
  apply WpL.nil
  apply Out.seqN
  apply Wp.block
  refine Wp.rg (pairs_iter a8 c8 b m [] l (by omega)) (fun y : Go.Value × List UInt8 => [cells p3 80 [Ptr p6 0], cells p6 83 (OctaveSink.c ⟨y.1⟩), rows u8c y.1 5 1 y.2]) (fun pre y => y.2 = bytesR pre) (fun _ _ _ => False) (.slice none 0 0, []) rfl ?_ ?_ ?_
  · rintro pre x post ⟨v, xs⟩ lp rec hx hxs hr W' D' K hK
    dsimp only at hxs
    rw [pairsL_nil] at hx
    have hxm : x ∈ canon l := by rw [hx]; simp
    have hxq := hsm x hxm
    have hpl : (bytesR pre).length ≤ 127 * pre.length := bytesR_len fun p hp => hsm p (by rw [hx]; simp [hp])
    have hle : pre.length ≤ 1000 := by
      have := congrArg List.length hx
      simp only [List.length_append, List.length_cons] at this
      omega
    rw [← hxs] at hpl
    have hn1 := natI_len (n := (x.Key.length : Int)) (by omega)
    have hn2 := natI_len (n := (x.Value.length : Int)) (by omega)
    have hsn : xs ++ (natI x.Key.length ++ x.Key) ++ (natI x.Value.length ++ x.Value) ++ natI x.Version = bytesR (pre ++ [x]) := by
      rw [bytesR_snoc, hxs]
      unfold pairB
      simp only [List.append_assoc]
    dsimp only [List.cons_append, List.nil_append]
    apply Wp.region
    refine WpL.o (O.al tb (fun p4 => ?_))
    refine WpL.o (O.stA tb ?_)
    apply WpL.nil
    refine Out.bg (by assumption) ?_
    apply Wp.block
    apply Wp.seq
    apply Wp.region
    refine WpL.v (V.ld1 tb) ?_
    refine WpL.v (V.fa tb) ?_
    refine WpL.v (V.ld1 tb) ?_
    refine WpL.o (Op1.callT rfl (sinkText _ _ _ _ ?_) (by (repeat (first | exact Sel.nil | exact Rem.here | apply Sel.cons | apply Rem.there))) ?_)
    (first | with_reducible assumption | omega | (simp only [List.length_append, List.length_cons, List.length_nil, List.length_map] at *; omega) | (focus (simp; done)))
    rintro v0 s1 ⟨v'13, ⟨rfl, rfl⟩⟩
    refine incat ?_
    apply WpL.nil
    apply Out.seqN
    apply Wp.seq
    apply Wp.region
    refine WpL.v (V.ld1 tb) ?_
    refine WpL.v (V.fa tb) ?_
    refine WpL.v (V.ld1 tb) ?_
    refine WpL.o (Op1.callT rfl (sinkText _ _ _ _ ?_) (by (repeat (first | exact Sel.nil | exact Rem.here | apply Sel.cons | apply Rem.there))) ?_)
    (first | with_reducible assumption | omega | (simp only [List.length_append, List.length_cons, List.length_nil, List.length_map] at *; omega) | (focus (simp; done)))
    rintro v2 s3 ⟨v'17, ⟨rfl, rfl⟩⟩
    refine incat ?_
    apply WpL.nil
    apply Out.seqN
    apply Wp.region
    refine WpL.v (V.ld1 tb) ?_
    refine WpL.v (V.fa tb) ?_
    refine WpL.v (V.ld1 tb) ?_
    refine WpL.o (O.lit tb (fun p21 => ?_))
    refine WpL.o (Op1.callT rfl (sinkNat1 _ _ _ _ _ ?_ ?_) (by (repeat (first | exact Sel.nil | exact Rem.here | apply Sel.cons | apply Rem.there))) ?_)
    (first | with_reducible assumption | omega | (simp only [List.length_append, List.length_cons, List.length_nil, List.length_map] at *; omega) | (focus (simp; done)))
    (first | with_reducible assumption | omega | (simp only [List.length_append, List.length_cons, List.length_nil, List.length_map] at *; omega) | (focus (simp; done)))
    rintro v4 s5 ⟨v'22, ⟨rfl, rfl⟩⟩
    refine incat ?_
    apply WpL.nil
    apply Out.blockN
    exact Out.rd hK (_, _) hsn
  · rintro ⟨v, xs⟩ b1 hxs
    dsimp only at hxs
    rw [pairsL_nil] at hxs
    subst hxs
    dsimp only [List.cons_append, List.nil_append]
    apply Out.blockN
    apply Out.seqN
    apply Wp.seq
    apply Wp.region
    refine WpL.v (V.ld1 tb) ?_
    refine WpL.o (Op1.callT rfl (sinkBytes _ _ _) (by (repeat (first | exact Sel.nil | exact Rem.here | apply Sel.cons | apply Rem.there))) ?_)
    rintro v0 s1 ⟨rfl, rfl⟩
    refine incat ?_
    refine WpL.v (V.as) ?_
    apply WpL.nil
    apply Out.seqN
    apply Wp.ret
    refine Out.f1 rfl ResIs.t ⟨?_, rfl⟩
    exact rfl
  · intro _ _ _ _ _ _ _ h
    exact h.elim
def writes (d : TDeed) : Bool := decide (2 ≤ d.Kind) && decide (d.Kind ≤ 4)
def clash (a b : TDeed) : Bool := if a.Kind = 0 ∨ b.Kind = 0 then false else if a.Session = b.Session ∧ a.Session ≠ 0 then true else writes a && about b a.Key || writes b && about a b.Key
end Go.Proofs.Ytgihkocnmgkihaa
