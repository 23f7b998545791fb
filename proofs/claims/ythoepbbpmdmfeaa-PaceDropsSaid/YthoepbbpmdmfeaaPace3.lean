/-
  Layer 17: what is taken over.
-/
import Derived.Test.YthoepbbpmdmfeaaPace2
namespace Go.Proofs.Ythoepbbpmdmfeaa
open Go.HL
set_option linter.unusedSimpArgs false
set_option linter.unusedVariables false
set_option maxRecDepth 8000
theorem pace_again (b : Nat) (n self : Int) (p m : Nat) (v : Go.Value) (t : Int) (l : List WheelSpokeOfItem) (tm : MapI) (now : Int) (x : TItem)
    (hw1 : IW1 t l) (hl : l.length ≤ 400) (ht : t ≤ 100000) (hx : -1048576 ≤ x.Rep ∧ x.Rep ≤ 1048576) (hn : n ≤ 1048576) (hs : -1048576 ≤ self ∧ self ≤ 1048576) (hnow : -1152921504606846976 ≤ now ∧ now ≤ 1152921504606846976) (htv : 0 ≤ tv tm x ∧ tv tm x ≤ 1000000) :
    Ct Try.prog 72 [Ptr b 0, I now, A x.c] (paE b n self p m v t l tm) (fun r σ' => ∃ g cap, r = .tuple #[] ∧ σ' = paE b n self p m (.slice (some ⟨g, 0, none⟩) (IinsS ⟨x, now + waitV n self x.Rep (tv tm x + 1), t⟩ (IdelK x l)).length cap) (t + 1) (IinsS ⟨x, now + waitV n self x.Rep (tv tm x + 1), t⟩ (IdelK x l)) (mput tm x (tv tm x + 1))) := by
  have ht0 := hw1.t0
  have htv2 : 0 ≤ (mget tm x).getD 0 ∧ (mget tm x).getD 0 ≤ 1000000 := htv
  have hW : Fun Try.prog 60 [I n, I self, A x.c, I (tv (mput tm x (tv tm x + 1)) x)] (I (waitV n self x.Rep (tv tm x + 1))) := by
    have h := pace_wait n self x (tv (mput tm x (tv tm x + 1)) x) hn hs hx
    rw [tv_put, if_pos rfl] at h ⊢
    exact h
  have hwb := waitV_ge n self x.Rep (tv tm x + 1) hn
  generalize waitV n self x.Rep (tv tm x + 1) = w at *
  have hS := Iwheel_set p v t l x (now + w) (hw1.del x).sorted (by omega) (by omega)
  unfold IwhE at hS
  unfold paE
  refine Ct.enter Try.func72 rfl rfl fun W => ?_
  apply Wp.seq
  apply Wp.region
  refine WpL.o (O.bxA (fun p5 => ?_))
  apply WpL.nil
  apply Out.seqN
  apply Wp.seq
  apply Wp.seq
  apply Wp.region
  refine WpL.v (V.mv) ?_
  refine WpL.v (V.eqP) ?_
  apply WpL.nil
  apply Out.seqN
  refine Wp.cF ?_
  apply Wp.skip
  apply Out.seqN
  apply Wp.seq
  refine Wp.dG [] ?_ (List.Sublist.cons_cons _ (List.Sublist.cons_cons _ (List.Sublist.cons _ (List.Sublist.cons _ (List.Sublist.cons _ List.Sublist.slnil))))) (List.Sublist.cons_cons _ (List.Sublist.cons_cons _ (List.Sublist.cons _ (List.Sublist.cons _ (List.Sublist.cons _ List.Sublist.slnil)))))
  refine WpA.tF 0 rfl (V.mv) ?_
  refine WpA.tF 1 rfl (V.nc) ?_
  refine WpA.tF 2 rfl (V.fa tb) ?_
  refine WpA.tF 3 rfl (V.ld1 tb) ?_
  refine WpA.tF 4 rfl (V.ldA tb) ?_
  refine WpA.e2 5 7 rfl rfl ?_ ?_
  refine Op1.vv (Val.lookD (l := tm) (k := x) (vf := fun n : Int => I n) 0 kokI map159 zero3 rfl rfl (by (repeat first | exact List.Mem.head _ | apply List.Mem.tail))) ⟨?_, ?_, ?_⟩
  exact holdT
  exact holdT
  refine WpA.tF 6 rfl (V.add) ?_
  refine WpA.oS 7 rfl (Op1.entM (l := tm) (k := x) (vf := fun n : Int => I n) 0 kokI map159 zero3 rfl rfl (by (intro _; repeat first | exact Upd.here _ _ _ | apply Upd.there)) (fun s15 => ⟨?_, ?_, ?_⟩))
  exact holdT
  exact holdT
  refine WpA.tF 8 rfl (V.ex) ?_
  refine WpA.oS 9 rfl (Op1.entS (l := tm) (k := x) (v := tv tm x + 1) (vf := fun n : Int => I n) rfl rfl rfl (by (repeat first | exact Upd.here _ _ _ | apply Upd.there)) ⟨?_, ?_, ?_⟩)
  exact holdT
  exact holdT
  refine WpA.ou ?_
  apply Out.seqN
  refine Wp.dG [] ?_ (List.Sublist.cons_cons _ (List.Sublist.cons_cons _ (List.Sublist.cons _ (List.Sublist.cons _ (List.Sublist.cons _ List.Sublist.slnil))))) (List.Sublist.cons_cons _ (List.Sublist.cons_cons _ (List.Sublist.cons _ (List.Sublist.cons _ (List.Sublist.cons _ List.Sublist.slnil)))))
  refine WpA.tF 0 rfl (V.mv) ?_
  refine WpA.tF 1 rfl (V.nc) ?_
  refine WpA.tF 2 rfl (V.fa tb) ?_
  refine WpA.tF 3 rfl (V.ld1 tb) ?_
  refine WpA.tF 4 rfl (V.ldA tb) ?_
  refine WpA.tF 5 rfl (V.mv) ?_
  refine WpA.tF 6 rfl (V.mv) ?_
  refine WpA.tF 7 rfl (V.nc) ?_
  refine WpA.tF 8 rfl (V.fa tb) ?_
  refine WpA.tF 9 rfl (V.ld1 tb) ?_
  refine WpA.tF 10 rfl (V.mv) ?_
  refine WpA.tF 11 rfl (V.nc) ?_
  refine WpA.tF 12 rfl (V.fa tb) ?_
  refine WpA.tF 13 rfl (V.ld1 tb) ?_
  refine WpA.tF 14 rfl (V.ldA tb) ?_
  refine WpA.tF 15 rfl (V.mv) ?_
  refine WpA.tF 16 rfl (V.nc) ?_
  refine WpA.tF 17 rfl (V.fa tb) ?_
  refine WpA.tF 18 rfl (V.ld1 tb) ?_
  refine WpA.tF 19 rfl (V.ldA tb) ?_
  refine WpA.oS 20 rfl (Op1.vv (Val.lookD (l := mput tm x (tv tm x + 1)) (k := x) (vf := fun n : Int => I n) 0 kokI map159 zero3 rfl rfl (by (repeat first | exact List.Mem.head _ | apply List.Mem.tail))) ⟨?_, ?_, ?_⟩)
  exact holdT
  exact holdT
  refine WpA.oS 21 rfl (Op1.fn rfl (hW) ⟨?_, ?_, ?_⟩)
  exact holdT
  exact holdT
  refine WpA.tF 22 rfl (V.add) ?_
  refine WpA.oS 23 rfl (Op1.callT rfl (hS) (by (repeat (first | exact Sel.nil | exact Rem.here | apply Sel.cons | apply Rem.there))) ?_)
  rintro v0 s1 ⟨g40, ⟨cap40, ⟨rfl, rfl⟩⟩⟩
  refine incat ⟨?_, ?_, ?_⟩
  exact holdT
  exact holdT
  refine WpA.ou ?_
  refine Out.e0 rfl  ?_
  focus (exact ⟨_, _, ⟨_, _, rfl, rfl⟩, (by (repeat (first | exact Sel.nil | exact Rem.here | apply Sel.cons | apply Rem.there)))⟩; done)
  refine Op1.entM (l := tm) (k := x) (vf := fun n : Int => I n) 0 kokI map159 zero3 rfl rfl (by (intro _; repeat first | exact Upd.here _ _ _ | apply Upd.there)) (fun s15 => ⟨?_, ?_, ?_⟩)
  exact holdT
  exact holdT
  refine WpA.tF 8 rfl (V.ex) ?_
  refine WpA.oS 5 rfl (Op1.vv (Val.lookP (l := tm) (k := x) (vf := fun n : Int => I n) kokI map159 rfl rfl (by (repeat first | exact List.Mem.head _ | apply List.Mem.tail))) ⟨?_, ?_, ?_⟩)
  exact holdT
  exact holdT
  refine WpA.tF 6 rfl (V.add) ?_
  refine WpA.oS 9 rfl (Op1.entS (l := tm) (k := x) (v := tv tm x + 1) (vf := fun n : Int => I n) rfl rfl rfl (by (repeat first | exact Upd.here _ _ _ | apply Upd.there)) ⟨?_, ?_, ?_⟩)
  exact holdT
  exact holdT
  refine WpA.ou ?_
  apply Out.seqN
  refine Wp.dG [] ?_ (List.Sublist.cons_cons _ (List.Sublist.cons_cons _ (List.Sublist.cons _ (List.Sublist.cons _ (List.Sublist.cons _ List.Sublist.slnil))))) (List.Sublist.cons_cons _ (List.Sublist.cons_cons _ (List.Sublist.cons _ (List.Sublist.cons _ (List.Sublist.cons _ List.Sublist.slnil)))))
  refine WpA.tF 0 rfl (V.mv) ?_
  refine WpA.tF 1 rfl (V.nc) ?_
  refine WpA.tF 2 rfl (V.fa tb) ?_
  refine WpA.tF 3 rfl (V.ld1 tb) ?_
  refine WpA.tF 4 rfl (V.ldA tb) ?_
  refine WpA.tF 5 rfl (V.mv) ?_
  refine WpA.tF 6 rfl (V.mv) ?_
  refine WpA.tF 7 rfl (V.nc) ?_
  refine WpA.tF 8 rfl (V.fa tb) ?_
  refine WpA.tF 9 rfl (V.ld1 tb) ?_
  refine WpA.tF 10 rfl (V.mv) ?_
  refine WpA.tF 11 rfl (V.nc) ?_
  refine WpA.tF 12 rfl (V.fa tb) ?_
  refine WpA.tF 13 rfl (V.ld1 tb) ?_
  refine WpA.tF 14 rfl (V.ldA tb) ?_
  refine WpA.tF 15 rfl (V.mv) ?_
  refine WpA.tF 16 rfl (V.nc) ?_
  refine WpA.tF 17 rfl (V.fa tb) ?_
  refine WpA.tF 18 rfl (V.ld1 tb) ?_
  refine WpA.tF 19 rfl (V.ldA tb) ?_
  refine WpA.oS 20 rfl (Op1.vv (Val.lookD (l := mput tm x (tv tm x + 1)) (k := x) (vf := fun n : Int => I n) 0 kokI map159 zero3 rfl rfl (by (repeat first | exact List.Mem.head _ | apply List.Mem.tail))) ⟨?_, ?_, ?_⟩)
  exact holdT
  exact holdT
  refine WpA.oS 21 rfl (Op1.fn rfl (hW) ⟨?_, ?_, ?_⟩)
  exact holdT
  exact holdT
  refine WpA.tF 22 rfl (V.add) ?_
  refine WpA.oS 23 rfl (Op1.callT rfl (hS) (by (repeat (first | exact Sel.nil | exact Rem.here | apply Sel.cons | apply Rem.there))) ?_)
  rintro v4 s5 ⟨g40_2, ⟨cap40_3, ⟨rfl, rfl⟩⟩⟩
  refine incat ⟨?_, ?_, ?_⟩
  exact holdT
  exact holdT
  refine WpA.ou ?_
  refine Out.e0 rfl  ?_
  focus (exact ⟨_, _, ⟨_, _, rfl, rfl⟩, (by (repeat (first | exact Sel.nil | exact Rem.here | apply Sel.cons | apply Rem.there)))⟩; done)
end Go.Proofs.Ythoepbbpmdmfeaa
