/-
  The statement LatticePromises of layer 13: of ballots that are asked for, one behind the other, the greatest is promised in the end. Proved for every input.
-/
import Derived.Test.YtienlncaffliaaaLat
namespace Go.Proofs.Ytienlncaffliaaa
open Go.HL
set_option linter.unusedSimpArgs false
set_option linter.unusedVariables false
def instOf (top : TBallot) : TInst := { TInst.z with Promised := top }
theorem prom_ok (top x : TBallot) (h : (promise (instOf top) x).2 = true) : (promise (instOf top) x).1 = instOf x := by
  revert h; unfold promise; split <;> simp [instOf]
theorem prom_no (top x : TBallot) (h : (promise (instOf top) x).2 = false) : (promise (instOf top) x).1 = instOf top := by
  revert h; unfold promise; split <;> simp [instOf]
theorem latticePromises_walk (e : Ent) (ao : Option Go.Addr) (cap b off : Nat) (xs : List TBallot) (hR : Rd e ao xs.length b off 2 (xs.map TBallot.c)) :
    Ct Try.prog 5 [.slice ao xs.length cap] [e] (fun v σ' => v = B true ∧ σ' = [e]) := by
  have hm := hR.small
  simp only [Go.maxLen] at hm
  refine Ct.enter Try.func5 rfl rfl fun W => ?_
  apply Wp.seq
  apply Wp.region
  refine WpL.v (V.as) ?_
  apply WpL.nil
  apply Out.seqN
  apply Wp.seq
  apply Wp.seq
  apply Wp.region
  refine WpL.o (Op1.fn (alive13) ?_)
  refine WpL.v (V.not) ?_
  apply WpL.nil
  apply Out.seqN
  refine Wp.cF ?_
  apply Wp.skip
  apply Out.seqN
  apply Wp.seq
  apply Wp.seq
  apply Wp.region
  refine WpL.v (V.mv) ?_
  refine WpL.v (V.lenL tb) ?_
  refine WpL.v (V.cmp) ?_
  apply WpL.nil
  apply Out.seqN
  refine Wp.c (fun ha0 => ?_) (fun ha0 => ?_)
  (try simp only [decide_eq_true_eq, decide_eq_false_iff_not, Bool.not_eq_true', Bool.not_eq_false', Bool.not_eq_true, Bool.not_eq_false] at ha0)
  apply Wp.seq
  apply Wp.region
  refine WpL.v (V.as) ?_
  apply WpL.nil
  apply Out.seqN
  apply Wp.ret
  apply Out.seqR
  refine Out.f1 rfl ResIs.t ⟨?_, rfl⟩
  exact rfl
  (try simp only [decide_eq_true_eq, decide_eq_false_iff_not, Bool.not_eq_true', Bool.not_eq_false', Bool.not_eq_true, Bool.not_eq_false] at ha0)
  apply Wp.skip
  apply Out.seqN
  apply Wp.seq
  apply Wp.region
  refine WpL.v (V.bld tb) ?_
  refine WpL.o (O.al tb (fun p3 => ?_))
  refine WpL.o (O.stA tb ?_)
  apply WpL.nil
  apply Out.seqN
  apply Wp.seq
  apply Wp.region
  refine WpL.v (V.bld tb) ?_
  refine WpL.o (O.al tb (fun p4 => ?_))
  refine WpL.o (O.stA tb ?_)
  apply WpL.nil
  apply Out.seqN
  apply Wp.seq
  apply Wp.seq
  apply Wp.region
  refine WpL.v (V.mv) ?_
  refine WpL.v (V.lenL tb) ?_
  refine WpL.v (V.mv) ?_
  apply WpL.nil
  apply Out.seqN
  apply Wp.block
  refine Wp.lp [17, 16, 4, 3] (fun x : Nat × TBallot => x.1 ≤ xs.length) (fun x => [(18, I (x.1 : Int))]) (fun x => [cells p4 37 x.2.c, cells p3 45 (instOf x.2).c]) (fun x => xs.length - x.1) (0, TBallot.z) (Nat.zero_le _) ?_
  rintro ⟨k, top⟩ hk K hK
  dsimp only at hk
  dsimp only [List.cons_append, List.nil_append]
  apply Wp.seq
  apply Wp.region
  refine WpL.v (V.cmp) ?_
  apply WpL.nil
  apply Out.seqN
  apply Wp.seq
  refine Wp.c (fun hb0 => ?_) (fun hb0 => ?_)
  (try simp only [decide_eq_true_eq, decide_eq_false_iff_not, Bool.not_eq_true', Bool.not_eq_false', Bool.not_eq_true, Bool.not_eq_false] at hb0)
  apply Wp.skip
  apply Out.seqN
  apply Wp.seq
  apply Wp.block
  apply Wp.seq
  apply Wp.region
  refine WpL.v (V.ixR tb rfl rfl (by assumption)) ?_
  refine WpL.v (V.ldRA tb rfl (by assumption) (getMapD (by omega))) ?_
  refine WpL.o (O.al tb (fun p6 => ?_))
  refine WpL.o (O.stA tb ?_)
  apply WpL.nil
  apply Out.seqN
  apply Wp.seq
  apply Wp.seq
  apply Wp.region
  refine WpL.v (V.fa tb) ?_
  refine WpL.v (V.ld1 tb) ?_
  refine WpL.v (V.cmp) ?_
  refine WpL.v (V.mv) ?_
  refine WpL.pt (fun hb1 => ?_) (fun hb1 => ?_)
  (try simp only [decide_eq_true_eq, decide_eq_false_iff_not, Bool.not_eq_true', Bool.not_eq_false', Bool.not_eq_true, Bool.not_eq_false] at hb1)
  refine WpL.sk ?_
  refine WpL.sk ?_
  refine WpL.sk ?_
  refine WpL.v (V.pT) ?_
  apply WpL.nil
  apply Out.seqN
  refine Wp.cT ?_
  apply Wp.seq
  apply Wp.region
  refine WpL.v (V.as) ?_
  apply WpL.nil
  apply Out.seqN
  apply Wp.ret
  apply Out.seqR
  apply Out.blockR
  apply Out.seqR
  apply Out.seqR
  apply Out.blockR
  apply Out.seqR
  refine Out.f1 rfl ResIs.t ⟨?_, rfl⟩
  exact rfl
  (try simp only [decide_eq_true_eq, decide_eq_false_iff_not, Bool.not_eq_true', Bool.not_eq_false', Bool.not_eq_true, Bool.not_eq_false] at hb1)
  refine WpL.v (V.fa tb) ?_
  refine WpL.v (V.ld1 tb) ?_
  refine WpL.v (V.cmp) ?_
  refine WpL.v (V.pF) ?_
  apply WpL.nil
  apply Out.seqN
  refine Wp.c (fun hb2 => ?_) (fun hb2 => ?_)
  (try simp only [decide_eq_true_eq, decide_eq_false_iff_not, Bool.not_eq_true', Bool.not_eq_false', Bool.not_eq_true, Bool.not_eq_false] at hb2)
  apply Wp.seq
  apply Wp.region
  refine WpL.v (V.as) ?_
  apply WpL.nil
  apply Out.seqN
  apply Wp.ret
  apply Out.seqR
  apply Out.blockR
  apply Out.seqR
  apply Out.seqR
  apply Out.blockR
  apply Out.seqR
  refine Out.f1 rfl ResIs.t ⟨?_, rfl⟩
  exact rfl
  (try simp only [decide_eq_true_eq, decide_eq_false_iff_not, Bool.not_eq_true', Bool.not_eq_false', Bool.not_eq_true, Bool.not_eq_false] at hb2)
  apply Wp.skip
  apply Out.seqN
  apply Wp.seq
  apply Wp.region
  refine WpL.v (V.ldA tb) ?_
  refine WpL.v (V.ldA tb) ?_
  refine WpL.o (Op1.fn (promise_any _ _) ?_)
  refine WpL.v (V.mv) ?_
  refine WpL.v (V.ex) ?_
  refine WpL.v (V.ex) ?_
  refine WpL.o (O.al tb (fun p7 => ?_))
  refine WpL.o (O.stA tb ?_)
  refine WpL.v (V.as) ?_
  apply WpL.nil
  apply Out.seqN
  apply Wp.seq
  apply Wp.seq
  apply Wp.region
  refine WpL.v (V.mv) ?_
  refine WpL.v (V.ldA tb) ?_
  refine WpL.v (V.ldA tb) ?_
  refine WpL.o (Op1.fn (refLess_any _ _) ?_)
  refine WpL.v (V.not) ?_
  refine WpL.v (V.neB tb) ?_
  apply WpL.nil
  apply Out.seqN
  refine Wp.c (fun hb3 => ?_) (fun hb3 => ?_)
  (try simp only [decide_eq_true_eq, decide_eq_false_iff_not, Bool.not_eq_true', Bool.not_eq_false', Bool.not_eq_true, Bool.not_eq_false] at hb3)
  apply Wp.seq
  apply Wp.region
  refine WpL.v (V.as) ?_
  apply WpL.nil
  apply Out.seqN
  apply Wp.ret
  apply Out.seqR
  apply Out.blockR
  apply Out.seqR
  apply Out.seqR
  apply Out.blockR
  apply Out.seqR
  refine Out.f1 rfl ResIs.t ⟨?_, rfl⟩
  rotate_left
  (try simp only [decide_eq_true_eq, decide_eq_false_iff_not, Bool.not_eq_true', Bool.not_eq_false', Bool.not_eq_true, Bool.not_eq_false] at hb3)
  apply Wp.skip
  apply Out.seqN
  apply Wp.seq
  apply Wp.seq
  apply Wp.region
  refine WpL.v (V.mv) ?_
  apply WpL.nil
  apply Out.seqN
  refine Wp.c (fun hb4 => ?_) (fun hb4 => ?_)
  (try simp only [decide_eq_true_eq, decide_eq_false_iff_not, Bool.not_eq_true', Bool.not_eq_false', Bool.not_eq_true, Bool.not_eq_false] at hb4)
  apply Wp.region
  refine WpL.v (V.ldA tb) ?_
  refine WpL.o (O.stA tb ?_)
  apply WpL.nil
  apply Out.seqN
  apply Wp.region
  refine WpL.v (V.ldA tb) ?_
  refine WpL.o (O.stA tb ?_)
  apply WpL.nil
  apply Out.blockN
  apply Out.seqN
  apply Wp.region
  refine WpL.v (V.add) ?_
  refine WpL.v (V.mv) ?_
  apply WpL.nil
  rotate_left
  (try simp only [decide_eq_true_eq, decide_eq_false_iff_not, Bool.not_eq_true', Bool.not_eq_false', Bool.not_eq_true, Bool.not_eq_false] at hb4)
  apply Wp.skip
  apply Out.seqN
  apply Wp.region
  refine WpL.v (V.ldA tb) ?_
  refine WpL.o (O.stA tb ?_)
  apply WpL.nil
  apply Out.blockN
  apply Out.seqN
  apply Wp.region
  refine WpL.v (V.add) ?_
  refine WpL.v (V.mv) ?_
  apply WpL.nil
  rotate_left
  (try simp only [decide_eq_true_eq, decide_eq_false_iff_not, Bool.not_eq_true', Bool.not_eq_false', Bool.not_eq_true, Bool.not_eq_false] at hb0)
  apply Wp.exit
  apply Out.seqE
  apply Out.seqE
  apply Out.blockE
  apply Out.seqN
  apply Wp.seq
  apply Wp.region
  refine WpL.v (V.ldA tb) ?_
  refine WpL.v (V.ldA tb) ?_
  refine WpL.v (V.bld tb) ?_
  refine WpL.v (V.eq (TInst.eqT _ _ _)) ?_
  refine WpL.v (V.as) ?_
  apply WpL.nil
  apply Out.seqN
  apply Wp.ret
  refine Out.f1 rfl ResIs.t ⟨?_, rfl⟩
  rotate_left
  · exfalso
    revert hb3
    unfold promise
    split <;> simp_all [instOf]
  · rw [prom_ok top _ (by assumption)]
    exact Out.ag hK (k + 1, xs.getD k default) (by dsimp only; omega) (by dsimp only; omega)
  · rw [prom_no top _ (by assumption)]
    exact Out.ag hK (k + 1, top) (by dsimp only; omega) (by dsimp only; omega)
  · simp [instOf]
open Go Go.ChangeShapes Go.WideShapes Go.ChangeAt Go.RowKit
theorem latticePromises_read : (Try.f5.params.toList.all fun t => Try.prog.readableRec t && decide (t < Try.prog.types.size)) = true := by kernel_rfl
theorem latticePromises_lifted (os : Go.Os) (started : os.Started) (H : Type) (enc : Go.TypeId × Go.Value → H) :
    ReturnsInHanded {} Try.checked os 5 .any (Rows.latticePromisesSpec.pre6 enc Try.prog Try.f5 Rows.latticePromisesRow.domain false) (Rows.latticePromisesSpec.post enc Try.prog Try.f5 false true false false) := by
  refine returnsInHanded_of_change (C := Try.checked) own started (by kernel_rfl) Try.func5
    (ChangeSpec.witness6 (enc := enc) (C := Try.checked) false ⟨#[], #[.slice none 0 0], []⟩ 8 (by kernel_rfl) (by kernel_rfl) (by kernel_rfl) (by kernel_rfl)) ?_
  intro W base args ds gs before hval0 hW hcnd _
  have hval : ∀ (j : Nat) t v, Try.f5.params[j]? = some t → args[j]? = some v → Value.okWide Try.prog W .any base t v := hval0
  have hW' := hW
  obtain ⟨p, q, hA0, hV, rfl, hfz, hnd⟩ := hW
  have hA1 : DataW.TrodAll enc Try.prog W 0 (fun _ => true) true Try.f5.params.toList args.toList ds p := hA0
  have hA := hA1
  rw [Try.params5] at hA hval
  obtain ⟨v0, vs0, d0, ds0, p0, q0, hargs, rfl, rfl, h0, r0⟩ := trodAll_cons hA
  obtain ⟨rfl, rfl, rfl⟩ := trodAll_nil r0
  obtain rfl : args = #[v0] := by cases args; simp_all
  obtain ⟨rfl, rfl⟩ := trodVars_none hV
  obtain ⟨ao0, b0, off0, len0, cap0, xs0, rfl, hl0, hlc0, hcm0, ha0, hs0, hf0⟩ := open_slice_plain Try.underlying35 TBallot.leaves (by kernel_rfl) (by decide) (hval 0 35 v0 rfl rfl) h0
  obtain ⟨x0, rfl, w0⟩ := fits_map TBallot.c TBallot.wf hf0 TBallot.fit
  obtain rfl : len0 = x0.length := by simpa using hl0.symm
  simp only [List.append_nil] at hW' hA1
  have hbl : ∀ p : Nat × Nat, p ∈ [(x0.length, b0)] → 0 < p.1 → p.2 < W.heap.size := by
    intro p hp h0
    simp only [List.mem_cons, List.mem_nil_iff, or_false] at hp
    rcases hp with rfl
    · exact (ha0 h0).2
  have hR0 : Rd (snap W (blocksOf [(x0.length, b0)])) ao0 x0.length b0 off0 2 (x0.map TBallot.c) := Rd.snap (by simp) (Nat.le_trans hlc0 hcm0) ha0 hs0 (fun h => blocksOf_mem (len := x0.length) (by simp) h)
  refine (Ct.runSnap (blocksOf_nodup _) (blocksOf_lt hbl) (latticePromises_walk _ _ _ _ _ x0 hR0)).mono fun e W' hh => ?_
  obtain ⟨rfl, hS⟩ := hh
  exact ⟨_, rfl, post_law (P := Try.prog) (f := Try.f5) (tbool := 4) hW' hA1 rfl rfl hS laid latticePromises_read rfl Try.underlying4⟩
theorem latticePromises_over : Rows.latticePromisesRow.holds Try.pinned (OpenSpec.ofChange Rows.latticePromisesSpec) :=
  OpenClaim.holds_of_wide 5 Try.f5 rfl rfl rfl rfl rfl rfl rfl ⟨rfl, rfl, rfl, rfl, rfl⟩ rfl rfl rfl rfl rfl (by kernel_rfl) Try.func5 (by kernel_rfl)
    (of_decide_eq_true (by kernel_rfl)) (by unfold Func.isWrapper; first | (rw [if_pos (by decide +kernel)]; kernel_rfl) | (rw [if_neg (by decide +kernel)]; exact ⟨rfl, rfl⟩))
    (fun os started H enc _ => latticePromises_lifted os started H enc)
/-- THE STATEMENT. -/
theorem latticePromises_proved : Rows.LatticePromisesSaid := latticePromises_over
#print axioms latticePromises_proved

end Go.Proofs.Ytienlncaffliaaa
