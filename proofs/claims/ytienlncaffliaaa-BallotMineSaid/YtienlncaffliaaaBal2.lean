/-
  Layer 2: a ballot's bytes.
-/
import Derived.Test.YtienlncaffliaaaBal
import Derived.Test.YtienlncaffliaaaOct3
namespace Go.Proofs.Ytienlncaffliaaa
open Go.HL
set_option linter.unusedSimpArgs false
set_option linter.unusedVariables false
set_option maxRecDepth 8000
theorem putB (b : Nat) (v : Go.Value) (xs : List UInt8) (x : TBallot) (h1 : x.Round ≤ 9223372036854775807) (h2 : x.Rep ≤ 9223372036854775807) (hx : xs.length ≤ 900000) :
    Ct Try.prog 50 [Ptr b 0, A x.c] [cells b 26 (OctaveSink.c ⟨v⟩), rows u8c v 5 1 xs] (fun r σ' => ∃ v', r = .tuple #[] ∧ σ' = [cells b 26 (OctaveSink.c ⟨v'⟩), rows u8c v' 5 1 (xs ++ (natI x.Round ++ natI x.Rep))]) := by
  refine Ct.enter Try.func50 rfl rfl fun W => ?_
  apply Wp.seq
  apply Wp.region
  refine WpL.o (O.bxA (fun p3 => ?_))
  apply WpL.nil
  apply Out.seqN
  apply Wp.region
  refine WpL.v (V.mv) ?_
  refine WpL.v (V.fa tb) ?_
  refine WpL.v (V.ld1 tb) ?_
  refine WpL.v (V.fa tb) ?_
  refine WpL.v (V.ld1 tb) ?_
  refine WpL.o (O.lit tb (fun p9 => ?_))
  refine WpL.o (Op1.callT rfl (sinkNat2 _ _ _ _ _ _ ?_ ?_ ?_) (by (repeat (first | exact Sel.nil | exact Rem.here | apply Sel.cons | apply Rem.there))) ?_)
  (first | with_reducible assumption | omega | (simp only [List.length_append, List.length_cons, List.length_nil, List.length_map] at *; omega) | (focus (simp; done)))
  (first | with_reducible assumption | omega | (simp only [List.length_append, List.length_cons, List.length_nil, List.length_map] at *; omega) | (focus (simp; done)))
  (first | with_reducible assumption | omega | (simp only [List.length_append, List.length_cons, List.length_nil, List.length_map] at *; omega) | (focus (simp; done)))
  rintro v0 s1 ⟨v'10, ⟨rfl, rfl⟩⟩
  refine incat ?_
  apply WpL.nil
  refine Out.e0 rfl  ?_
  exact ⟨_, _, ⟨_, rfl, rfl⟩, (by (repeat (first | exact Sel.nil | exact Rem.here | apply Sel.cons | apply Rem.there)))⟩
theorem getB (b : Nat) (s : OctaveSource) (hs : s.in_.length ≤ 9223372036854775807) : Ct Try.prog 51 [Ptr b 0] [cells b 99 s.c]
    (fun r σ' => r = A (TBallot.mk (natS s 1099511627776).1 (natS (natS s 1099511627776).2 6).1).c ∧ σ' = [cells b 99 (natS (natS s 1099511627776).2 6).2.c]) := by
  have hl := natS_len s 1099511627776
  refine Ct.enter Try.func51 rfl rfl fun W => ?_
  apply Wp.seq
  apply Wp.region
  refine WpL.o (O.al tb (fun p2 => ?_))
  apply WpL.nil
  apply Out.seqN
  apply Wp.seq
  apply Wp.region
  refine WpL.v (V.mv) ?_
  refine WpL.o (Op1.callT rfl (srcNat _ _ _ ?_) (by (repeat (first | exact Sel.nil | exact Rem.here | apply Sel.cons | apply Rem.there))) ?_)
  (first | with_reducible assumption | omega | (simp only [List.length_append, List.length_cons, List.length_nil, List.length_map] at *; omega) | (focus (simp; done)))
  rintro v0 s1 ⟨rfl, rfl⟩
  refine incat ?_
  refine WpL.v (V.mv) ?_
  refine WpL.o (Op1.callT rfl (srcNat _ _ _ ?_) (by (repeat (first | exact Sel.nil | exact Rem.here | apply Sel.cons | apply Rem.there))) ?_)
  (first | with_reducible assumption | omega | (simp only [List.length_append, List.length_cons, List.length_nil, List.length_map] at *; omega) | (focus (simp; done)))
  rintro v2 s3 ⟨rfl, rfl⟩
  refine incat ?_
  refine WpL.v (V.bld tb) ?_
  refine WpL.o (O.stA tb ?_)
  apply WpL.nil
  apply Out.seqN
  apply Wp.ret
  refine Out.f1 rfl (ResIs.ca tb) ⟨?_, rfl⟩
  exact rfl
theorem refBytesB (x : TBallot) (h1 : x.Round ≤ 9223372036854775807) (h2 : x.Rep ≤ 9223372036854775807) : Fun Try.prog 52 [A x.c] (S (natI x.Round ++ natI x.Rep)) := by
  have := natI_len h1
  have := natI_len h2
  refine Ct.enter Try.func52 rfl rfl fun W => ?_
  apply Wp.seq
  apply Wp.region
  refine WpL.o (O.bxA (fun p1 => ?_))
  refine WpL.v (V.as) ?_
  apply WpL.nil
  apply Out.seqN
  apply Wp.seq
  refine Wp.dG [] ?_ (List.Sublist.cons_cons _ List.Sublist.slnil)
  refine WpA.t 0 rfl (V.fa tb) ?_
  refine WpA.t 1 rfl (V.ld1 tb) ?_
  refine WpA.t 3 rfl (V.fa tb) ?_
  refine WpA.t 4 rfl (V.ld1 tb) ?_
  refine WpA.oS 2 rfl (Op1.fn rfl (refNat _ ?_) ⟨?_, ?_⟩)
  (first | with_reducible assumption | omega | (simp only [List.length_append, List.length_cons, List.length_nil, List.length_map] at *; omega) | (focus (simp; done)))
  exact holdT
  refine WpA.oS 5 rfl (Op1.fn rfl (refNat _ ?_) ⟨?_, ?_⟩)
  (first | with_reducible assumption | omega | (simp only [List.length_append, List.length_cons, List.length_nil, List.length_map] at *; omega) | (focus (simp; done)))
  exact holdT
  refine WpA.t 6 rfl (V.cat) ?_
  refine WpA.t 7 rfl (V.as) ?_
  refine WpA.ou ?_
  apply Out.seqN
  apply Wp.ret
  refine Out.f1 rfl ResIs.t ⟨?_, rfl⟩
  exact rfl
end Go.Proofs.Ytienlncaffliaaa
