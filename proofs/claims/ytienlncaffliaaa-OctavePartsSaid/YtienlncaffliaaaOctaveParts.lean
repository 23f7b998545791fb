/-
  The statement OctaveParts of layer 1: what is put by one behind what was put by another one is what both put, one behind the other. Proved for every input.
-/
import Derived.Test.YtienlncaffliaaaOct2
namespace Go.Proofs.Ytienlncaffliaaa
open Go.HL
set_option linter.unusedSimpArgs false
set_option linter.unusedVariables false
set_option maxRecDepth 8000
theorem flat_len (xs : List Item) (hn : ∀ x, x ∈ xs → x.N ≤ 9223372036854775807) (hw : ∀ x, x ∈ xs → x.T.length ≤ 140737488351232) : (xs.flatMap itemB).length ≤ 9 * xs.length + sumT xs := by
  induction xs with
  | nil => simp
  | cons x xs ih =>
    have h1 := itemB_len x (hn x (by simp)) (by have := hw x (by simp); omega)
    have h2 := ih (fun y hy => hn y (by simp [hy])) (fun y hy => hw y (by simp [hy]))
    simp only [List.flatMap_cons, List.length_append, List.length_cons, sumT, List.map_cons, List.sum_cons] at *
    omega
theorem octaveParts_walk (e : Ent) (ao : Option Go.Addr) (cap b off : Nat) (xs : List Item) (hR : Rd e ao xs.length b off 4 (xs.map Caucuslaw01Item.c)) (hw : ∀ x, x ∈ xs → x.T.length ≤ 140737488351232) (hn : ∀ x, x ∈ xs → x.N ≤ 9223372036854775807)
    (ao' : Option Go.Addr) (cap' b' off' : Nat) (ys : List Item) (hR' : Rd e ao' ys.length b' off' 4 (ys.map Caucuslaw01Item.c)) (hw' : ∀ x, x ∈ ys → x.T.length ≤ 140737488351232) (hn' : ∀ x, x ∈ ys → x.N ≤ 9223372036854775807) :
    Ct Try.prog 4 [.slice ao xs.length cap, .slice ao' ys.length cap'] [e] (fun r σ' => r = B true ∧ σ' = [e]) := by
  have hl1 := hR.len
  have hl2 := hR'.len
  have hf1 := flat_len xs hn hw
  have hf2 := flat_len ys hn' hw'
  refine Ct.enter Try.func4 rfl rfl fun W => ?_
  by_cases hg : greatI xs = false ∧ greatI ys = false
  · obtain ⟨hg1, hg2⟩ := hg
    have hg3 := hg1
    have hg4 := hg2
    simp only [greatI, decide_eq_false_iff_not, not_or, Nat.not_lt] at hg3 hg4
    obtain ⟨hs1, hk1⟩ := hg3
    obtain ⟨hs2, hk2⟩ := hg4
    have hG1 := great01 e ao cap b off xs hR hw
    have hG2 := great01 e ao' cap' b' off' ys hR' hw'
    rw [hg1] at hG1
    rw [hg2] at hG2
    have hP1 := put01 e ao cap b off xs hR hn (by omega) (by omega)
    have hP2 := put01 e ao' cap' b' off' ys hR' hn' (by omega) (by omega)
    apply Wp.seq
    apply Wp.region
    refine WpL.v (V.as) ?_
    apply WpL.nil
    apply Out.seqN
    apply Wp.seq
    apply Wp.seq
    apply Wp.region
    refine WpL.o (Op1.fn rfl (alive01) ?_)
    refine WpL.v (V.not) ?_
    apply WpL.nil
    apply Out.seqN
    refine Wp.cF ?_
    apply Wp.skip
    apply Out.seqN
    apply Wp.seq
    apply Wp.seq
    apply Wp.region
    refine WpL.v (V.mv) ?_
    refine WpL.o (Op1.callT rfl (hG1) (by (repeat (first | exact Sel.nil | exact Rem.here | apply Sel.cons | apply Rem.there))) ?_)
    rintro v0 s1 ⟨rfl, rfl⟩
    refine incat ?_
    refine WpL.v (V.mv) ?_
    refine WpL.v (V.mv) ?_
    refine WpL.o (Op1.callT rfl (hG2) (by (repeat (first | exact Sel.nil | exact Rem.here | apply Sel.cons | apply Rem.there))) ?_)
    rintro v2 s3 ⟨rfl, rfl⟩
    refine incat ?_
    refine WpL.v (V.pF) ?_
    refine WpL.v (V.mv) ?_
    refine WpL.v (V.mv) ?_
    refine WpL.v (V.lenL tb) ?_
    refine WpL.v (V.mv) ?_
    refine WpL.v (V.lenL tb) ?_
    refine WpL.v (V.add) ?_
    refine WpL.v (V.cmp) ?_
    refine WpL.v (V.pF) ?_
    apply WpL.nil
    apply Out.seqN
    refine Wp.c (fun ha4 => ?_) (fun ha4 => ?_)
    (try simp only [decide_eq_true_eq, decide_eq_false_iff_not, Bool.not_eq_true', Bool.not_eq_false', Bool.not_eq_true, Bool.not_eq_false, reduceCtorEq] at ha4)
    apply Wp.seq
    apply Wp.region
    refine WpL.v (V.as) ?_
    apply WpL.nil
    apply Out.seqN
    apply Wp.ret
    apply Out.seqR
    refine Out.f1 rfl ResIs.t ⟨?_, rfl⟩
    exact rfl
    (try simp only [decide_eq_true_eq, decide_eq_false_iff_not, Bool.not_eq_true', Bool.not_eq_false', Bool.not_eq_true, Bool.not_eq_false, reduceCtorEq] at ha4)
    apply Wp.skip
    apply Out.seqN
    apply Wp.seq
    apply Wp.region
    refine WpL.v (V.mv) ?_
    refine WpL.o (Op1.callT rfl (hP1) (by (repeat (first | exact Sel.nil | exact Rem.here | apply Sel.cons | apply Rem.there))) ?_)
    rintro v5 s6 ⟨rfl, rfl⟩
    refine incat ?_
    refine WpL.v (V.mv) ?_
    refine WpL.v (V.ex) ?_
    refine WpL.v (V.ex) ?_
    refine WpL.v (V.as) ?_
    refine WpL.v (V.as) ?_
    apply WpL.nil
    apply Out.seqN
    apply Wp.seq
    apply Wp.region
    refine WpL.v (V.mv) ?_
    refine WpL.o (Op1.callT rfl (hP2) (by (repeat (first | exact Sel.nil | exact Rem.here | apply Sel.cons | apply Rem.there))) ?_)
    rintro v7 s8 ⟨rfl, rfl⟩
    refine incat ?_
    refine WpL.v (V.mv) ?_
    refine WpL.v (V.ex) ?_
    refine WpL.v (V.ex) ?_
    refine WpL.v (V.as) ?_
    refine WpL.v (V.as) ?_
    apply WpL.nil
    apply Out.seqN
    apply Wp.seq
    apply Wp.region
    refine WpL.o (O.litL tb Caucuslaw01Item.c [] rfl PartsFrom.nil rfl rfl (fun p38 => ?_))
    refine WpL.v (V.mv) ?_
    refine WpL.o (O.apLV tb rfl rfl (by (intro _; repeat first | exact Upd.here _ _ _ | apply Upd.there)) (SrcL.rdz tb (by with_reducible assumption) (by (repeat first | exact List.Mem.head _ | apply List.Mem.tail)) Caucuslaw01Item.ones (fun _ => rfl)) (fun v40 h40 n40 => ?_))
    refine WpL.v (V.mv) ?_
    refine WpL.o (O.apLV tb rfl rfl (by (intro _; repeat first | exact Upd.here _ _ _ | apply Upd.there)) (SrcL.rdz tb (by with_reducible assumption) (by (repeat first | exact List.Mem.head _ | apply List.Mem.tail)) Caucuslaw01Item.ones (fun _ => rfl)) (fun v42 h42 n42 => ?_))
    refine WpL.fact (rowsForm (f := Caucuslaw01Item.c) (v := v42) (l := [] ++ xs ++ ys) (by (repeat first | exact List.Mem.head _ | apply List.Mem.tail))) ?_
    rintro (⟨h, _⟩ | ⟨g, cap3, rfl, hc1, hc2⟩)
    · exfalso
      have h1 := (n40.1 (n42.1 h).1).1
      cases h1
    · have hlen : ([] ++ xs ++ ys).length = xs.length + ys.length := by simp
      have hR3 := Rd.rows (f := Caucuslaw01Item.c) (g := g) (E := 73) (sz := 4) (cap := cap3) (l := [] ++ xs ++ ys) (fun _ => rfl) (by omega)
      have hP3 := put01 _ _ cap3 _ _ _ hR3 (by
        intro x hx
        simp only [List.nil_append, List.mem_append] at hx
        rcases hx with hx | hx
        · exact hn x hx
        · exact hn' x hx) (by simp only [List.nil_append, sumT, List.map_append, List.sum_append] at *; omega) (by omega)
      refine WpL.o (Op1.callT rfl (hP3) (by (repeat (first | exact Sel.nil | exact Rem.here | apply Sel.cons | apply Rem.there))) ?_)
      rintro v0 s1 ⟨rfl, rfl⟩
      refine incat ?_
      refine WpL.v (V.mv) ?_
      refine WpL.v (V.ex) ?_
      refine WpL.v (V.ex) ?_
      refine WpL.v (V.as) ?_
      refine WpL.v (V.as) ?_
      apply WpL.nil
      apply Out.seqN
      apply Wp.seq
      apply Wp.region
      refine WpL.v (V.mv) ?_
      refine WpL.v (V.mv) ?_
      refine WpL.v (V.mv) ?_
      refine WpL.v (V.cat) ?_
      refine WpL.v (V.cmpS) ?_
      refine WpL.v (V.as) ?_
      apply WpL.nil
      apply Out.seqN
      apply Wp.ret
      refine Out.f1 rfl ResIs.t ⟨?_, rfl⟩
      simp
  · apply Wp.seq
    apply Wp.region
    refine WpL.v (V.as) ?_
    apply WpL.nil
    apply Out.seqN
    apply Wp.seq
    apply Wp.seq
    apply Wp.region
    refine WpL.o (Op1.fn rfl (alive01) ?_)
    refine WpL.v (V.not) ?_
    apply WpL.nil
    apply Out.seqN
    refine Wp.cF ?_
    apply Wp.skip
    apply Out.seqN
    apply Wp.seq
    apply Wp.seq
    apply Wp.region
    refine WpL.v (V.mv) ?_
    refine WpL.o (Op1.callT rfl (great01 e ao cap b off xs hR hw) (by (repeat (first | exact Sel.nil | exact Rem.here | apply Sel.cons | apply Rem.there))) ?_)
    rintro v0 s1 ⟨rfl, rfl⟩
    refine incat ?_
    refine WpL.v (V.mv) ?_
    refine WpL.pt (fun hb2 => ?_) (fun hb2 => ?_)
    (try simp only [decide_eq_true_eq, decide_eq_false_iff_not, Bool.not_eq_true', Bool.not_eq_false', Bool.not_eq_true, Bool.not_eq_false, reduceCtorEq] at hb2)
    refine WpL.sk ?_
    refine WpL.sk ?_
    refine WpL.v (V.pT) ?_
    refine WpL.v (V.mv) ?_
    refine WpL.sk ?_
    refine WpL.sk ?_
    refine WpL.sk ?_
    refine WpL.sk ?_
    refine WpL.sk ?_
    refine WpL.sk ?_
    refine WpL.v (V.pT) ?_
    apply WpL.nil
    apply Out.seqN
    refine Wp.cT ?_
    apply Wp.seq
    apply Wp.region
    refine WpL.v (V.as) ?_
    apply WpL.nil
    apply Out.seqN
    apply Wp.ret
    apply Out.seqR
    refine Out.f1 rfl ResIs.t ⟨?_, rfl⟩
    exact rfl
    (try simp only [decide_eq_true_eq, decide_eq_false_iff_not, Bool.not_eq_true', Bool.not_eq_false', Bool.not_eq_true, Bool.not_eq_false, reduceCtorEq] at hb2)
    refine WpL.v (V.mv) ?_
    refine WpL.o (Op1.callT rfl (great01 e ao' cap' b' off' ys hR' hw') (by (repeat (first | exact Sel.nil | exact Rem.here | apply Sel.cons | apply Rem.there))) ?_)
    rintro v3 s4 ⟨rfl, rfl⟩
    refine incat ?_
    refine WpL.v (V.pF) ?_
    refine WpL.v (V.mv) ?_
    refine WpL.pt (fun hb5 => ?_) (fun hb5 => ?_)
    (try simp only [decide_eq_true_eq, decide_eq_false_iff_not, Bool.not_eq_true', Bool.not_eq_false', Bool.not_eq_true, Bool.not_eq_false, reduceCtorEq] at hb5)
    refine WpL.sk ?_
    refine WpL.sk ?_
    refine WpL.sk ?_
    refine WpL.sk ?_
    refine WpL.sk ?_
    refine WpL.sk ?_
    refine WpL.v (V.pT) ?_
    apply WpL.nil
    apply Out.seqN
    refine Wp.cT ?_
    apply Wp.seq
    apply Wp.region
    refine WpL.v (V.as) ?_
    apply WpL.nil
    apply Out.seqN
    apply Wp.ret
    apply Out.seqR
    refine Out.f1 rfl ResIs.t ⟨?_, rfl⟩
    exact rfl
    (try simp only [decide_eq_true_eq, decide_eq_false_iff_not, Bool.not_eq_true', Bool.not_eq_false', Bool.not_eq_true, Bool.not_eq_false, reduceCtorEq] at hb5)
    refine WpL.v (V.mv) ?_
    refine WpL.v (V.lenL tb) ?_
    refine WpL.v (V.mv) ?_
    refine WpL.v (V.lenL tb) ?_
    refine WpL.v (V.ari) ?_
    refine WpL.v (V.cmp) ?_
    refine WpL.v (V.pF) ?_
    apply WpL.nil
    apply Out.seqN
    refine Wp.c (fun hb6 => ?_) (fun hb6 => ?_)
    (try simp only [decide_eq_true_eq, decide_eq_false_iff_not, Bool.not_eq_true', Bool.not_eq_false', Bool.not_eq_true, Bool.not_eq_false, reduceCtorEq] at hb6)
    apply Wp.seq
    apply Wp.region
    refine WpL.v (V.as) ?_
    apply WpL.nil
    apply Out.seqN
    apply Wp.ret
    apply Out.seqR
    refine Out.f1 rfl ResIs.t ⟨?_, rfl⟩
    exact rfl
    (try simp only [decide_eq_true_eq, decide_eq_false_iff_not, Bool.not_eq_true', Bool.not_eq_false', Bool.not_eq_true, Bool.not_eq_false, reduceCtorEq] at hb6)
    apply Wp.skip
    apply Out.seqN
    apply Wp.seq
    apply Wp.region
    refine WpL.v (V.mv) ?_
    simp_all
open Go Go.ChangeShapes Go.WideShapes Go.ChangeAt Go.RowKit
theorem octaveParts_read : (Try.f4.params.toList.all fun t => Try.prog.readableRec t && decide (t < Try.prog.types.size)) = true := by kernel_rfl
theorem octaveParts_lifted (os : Go.Os) (started : os.Started) (H : Type) (enc : Go.TypeId × Go.Value → H) :
    ReturnsInHanded {} Try.checked os 4 .any (Rows.octavePartsSpec.pre6 enc Try.prog Try.f4 Rows.octavePartsRow.domain false) (Rows.octavePartsSpec.post enc Try.prog Try.f4 false true false false) := by
  refine returnsInHanded_of_change_sized (C := Try.checked) own started (by kernel_rfl) Try.func4
    (ChangeSpec.witness6 (enc := enc) (C := Try.checked) false ⟨#[], #[.slice none 0 0, .slice none 0 0], []⟩ 8 (by kernel_rfl) (by kernel_rfl) (by kernel_rfl) (by kernel_rfl)) ?_
  intro W base args ds gs before hval0 hW hcnd hsz0 _
  have hsz : (DataW.weightsEach Try.prog (Try.f4.params.toList ++ Rows.octavePartsSpec.plain.varTypes Try.prog) (ds ++ gs)).all (· ≤ reachBytes) = true := hsz0
  have hval : ∀ (j : Nat) t v, Try.f4.params[j]? = some t → args[j]? = some v → Value.okWide Try.prog W .any base t v := hval0
  have hW' := hW
  obtain ⟨p, q, hA0, hV, rfl, hfz, hnd⟩ := hW
  have hA1 : DataW.TrodAll enc Try.prog W 0 (fun _ => true) true Try.f4.params.toList args.toList ds p := hA0
  have hA := hA1
  rw [Try.params4] at hA hval hsz
  obtain ⟨v0, vs0, d0, ds0, p0, q0, hargs, rfl, rfl, h0, r0⟩ := trodAll_cons hA
  obtain ⟨v1, vs1, d1, ds1, p1, q1, rfl, rfl, rfl, h1, r1⟩ := trodAll_cons r0
  obtain ⟨rfl, rfl, rfl⟩ := trodAll_nil r1
  obtain rfl : args = #[v0, v1] := by cases args; simp_all
  obtain ⟨rfl, rfl⟩ := trodVars_none hV
  obtain ⟨ao0, b0, off0, len0, cap0, xs0, rfl, hl0, hlc0, hcm0, ha0, hs0, hf0, hby0⟩ := open_slice_plain Try.underlying30 Caucuslaw01Item.leaves (by kernel_rfl) (by decide) (hval 0 30 v0 rfl rfl) h0 (sizedAll hsz 0 rfl rfl)
  obtain ⟨x0, rfl, w0⟩ := fits_map Caucuslaw01Item.c Caucuslaw01Item.wf hf0 Caucuslaw01Item.fit
  obtain rfl : len0 = x0.length := by simpa using hl0.symm
  obtain ⟨ao1, b1, off1, len1, cap1, xs1, rfl, hl1, hlc1, hcm1, ha1, hs1, hf1, hby1⟩ := open_slice_plain Try.underlying30 Caucuslaw01Item.leaves (by kernel_rfl) (by decide) (hval 1 30 v1 rfl rfl) h1 (sizedAll hsz 1 rfl rfl)
  obtain ⟨x1, rfl, w1⟩ := fits_map Caucuslaw01Item.c Caucuslaw01Item.wf hf1 Caucuslaw01Item.fit
  obtain rfl : len1 = x1.length := by simpa using hl1.symm
  simp only [List.append_nil] at hW' hA1
  have hbl : ∀ p : Nat × Nat, p ∈ [(x0.length, b0), (x1.length, b1)] → 0 < p.1 → p.2 < W.heap.size := by
    intro p hp h0
    simp only [List.mem_cons, List.mem_nil_iff, or_false] at hp
    rcases hp with rfl | rfl
    · exact (ha0 h0).2
    · exact (ha1 h0).2
  have hR0 : Rd (snap W (blocksOf [(x0.length, b0), (x1.length, b1)])) ao0 x0.length b0 off0 4 (x0.map Caucuslaw01Item.c) := Rd.snap (by simp) (Nat.le_trans hlc0 hcm0) ha0 hs0 (fun h => blocksOf_mem (len := x0.length) (by simp) h)
  have hR1 : Rd (snap W (blocksOf [(x0.length, b0), (x1.length, b1)])) ao1 x1.length b1 off1 4 (x1.map Caucuslaw01Item.c) := Rd.snap (by simp) (Nat.le_trans hlc1 hcm1) ha1 hs1 (fun h => blocksOf_mem (len := x1.length) (by simp) h)
  refine (Ct.runSnap (blocksOf_nodup _) (blocksOf_lt hbl) (octaveParts_walk _ _ _ _ _ x0 hR0 (fun x hx => (w0 x hx).2.2) (fun x hx => (In.i64 (w0 x hx).2.1).2) _ _ _ _ x1 hR1 (fun x hx => (w1 x hx).2.2) (fun x hx => (In.i64 (w1 x hx).2.1).2))).mono fun e W' hh => ?_
  obtain ⟨rfl, hS⟩ := hh
  exact ⟨_, rfl, post_law (P := Try.prog) (f := Try.f4) (tbool := 4) hW' hA1 rfl rfl hS laid octaveParts_read rfl Try.underlying4⟩
theorem octaveParts_over : Rows.octavePartsRow.holds Try.pinned (OpenSpec.ofChange Rows.octavePartsSpec) :=
  OpenClaim.holds_of_wide 4 Try.f4 rfl rfl rfl rfl rfl rfl rfl ⟨rfl, rfl, rfl, rfl, rfl⟩ rfl rfl rfl rfl rfl (by kernel_rfl) Try.func4 (by kernel_rfl)
    (of_decide_eq_true (by kernel_rfl)) (by unfold Func.isWrapper; first | (rw [if_pos (by decide +kernel)]; kernel_rfl) | (rw [if_neg (by decide +kernel)]; exact ⟨rfl, rfl⟩))
    (fun os started H enc _ => octaveParts_lifted os started H enc)
/-- THE STATEMENT. -/
theorem octaveParts_proved : Rows.OctavePartsSaid := octaveParts_over
#print axioms octaveParts_proved

end Go.Proofs.Ytienlncaffliaaa
