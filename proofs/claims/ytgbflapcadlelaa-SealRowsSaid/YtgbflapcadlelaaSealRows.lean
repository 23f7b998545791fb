/-
  The statement SealRows of layer 6: two rows, one behind the other, are the row of both; Split finds all of it. Proved for every input.
-/
import Derived.Test.YtgbflapcadlelaaRowB
namespace Go.Proofs.Ytgbflapcadlelaa
open Go.HL
set_option linter.unusedSimpArgs false
set_option linter.unusedVariables false
set_option maxRecDepth 8000
theorem eql_self (a : Int) : cmpI .eql a a = some true := by simp [cmpI]
theorem sealRows_walk (e : Ent) (ao : Option Go.Addr) (cap b off : Nat) (xs : List (List UInt8)) (hR : Rd e ao xs.length b off 1 (xs.map strc)) (hw : ∀ t, t ∈ xs → t.length ≤ 140737488351232)
    (ao' : Option Go.Addr) (cap' b' off' : Nat) (ys : List (List UInt8)) (hR' : Rd e ao' ys.length b' off' 1 (ys.map strc)) (hw' : ∀ t, t ∈ ys → t.length ≤ 140737488351232) :
    Ct Try.prog 19 [.slice ao xs.length cap, .slice ao' ys.length cap'] [e] (fun r σ' => r = B true ∧ σ' = [e]) := by
  have hm := hR.len
  have hm' := hR'.len
  have hG := great_any e ao cap b off xs hR hw
  have hG' := great_any e ao' cap' b' off' ys hR' hw'
  cases hg : greatB xs with
  | true =>
    rw [hg] at hG
    refine Ct.enter Try.func19 rfl rfl fun W => ?_
    apply Wp.seq
    apply Wp.region
    refine WpL.v (V.as) ?_
    apply WpL.nil
    apply Out.seqN
    apply Wp.seq
    apply Wp.seq
    apply Wp.region
    refine WpL.o (Op1.fn rfl (alive06) ?_)
    refine WpL.v (V.not) ?_
    apply WpL.nil
    apply Out.seqN
    refine Wp.cF ?_
    apply Wp.skip
    apply Out.seqN
    apply Wp.seq
    apply Wp.seq
    apply Wp.region
    refine WpL.v (V.mv) ?_
    refine WpL.o (Op1.callT rfl (hG) (by (repeat (first | exact Sel.nil | exact Rem.here | apply Sel.cons | apply Rem.there))) ?_)
    rintro v0 s1 ⟨rfl, rfl⟩
    refine incat ?_
    refine WpL.v (V.mv) ?_
    refine WpL.sk ?_
    refine WpL.sk ?_
    refine WpL.v (V.pT) ?_
    apply WpL.nil
    apply Out.seqN
    refine Wp.cT ?_
    apply Wp.seq
    apply Wp.region
    refine WpL.v (V.as) ?_
    apply WpL.nil
    apply Out.seqN
    apply Wp.ret
    apply Out.seqR
    refine Out.f1 rfl ResIs.t ⟨?_, rfl⟩
    exact rfl
  | false =>
    rw [hg] at hG
    cases hg' : greatB ys with
    | true =>
      rw [hg'] at hG'
      refine Ct.enter Try.func19 rfl rfl fun W => ?_
      apply Wp.seq
      apply Wp.region
      refine WpL.v (V.as) ?_
      apply WpL.nil
      apply Out.seqN
      apply Wp.seq
      apply Wp.seq
      apply Wp.region
      refine WpL.o (Op1.fn rfl (alive06) ?_)
      refine WpL.v (V.not) ?_
      apply WpL.nil
      apply Out.seqN
      refine Wp.cF ?_
      apply Wp.skip
      apply Out.seqN
      apply Wp.seq
      apply Wp.seq
      apply Wp.region
      refine WpL.v (V.mv) ?_
      refine WpL.o (Op1.callT rfl (hG) (by (repeat (first | exact Sel.nil | exact Rem.here | apply Sel.cons | apply Rem.there))) ?_)
      rintro v0 s1 ⟨rfl, rfl⟩
      refine incat ?_
      refine WpL.v (V.mv) ?_
      refine WpL.v (V.mv) ?_
      refine WpL.o (Op1.callT rfl (hG') (by (repeat (first | exact Sel.nil | exact Rem.here | apply Sel.cons | apply Rem.there))) ?_)
      rintro v2 s3 ⟨rfl, rfl⟩
      refine incat ?_
      refine WpL.v (V.pF) ?_
      apply WpL.nil
      apply Out.seqN
      refine Wp.cT ?_
      apply Wp.seq
      apply Wp.region
      refine WpL.v (V.as) ?_
      apply WpL.nil
      apply Out.seqN
      apply Wp.ret
      apply Out.seqR
      refine Out.f1 rfl ResIs.t ⟨?_, rfl⟩
      exact rfl
    | false =>
      rw [hg'] at hG'
      obtain ⟨hn, ht⟩ := great_no hg
      obtain ⟨hn', ht'⟩ := great_no hg'
      have hA := seal_row e ao cap b off xs hR (fun t h => by have := ht t h; omega) (by omega)
      have hB := seal_row e ao' cap' b' off' ys hR' (fun t h => by have := ht' t h; omega) (by omega)
      have hall : ∀ t, t ∈ xs ++ ys → t.length ≤ 16384 := fun t h => by
        rcases List.mem_append.1 h with h | h
        · have := ht t h; omega
        · have := ht' t h; omega
      have hlen : (xs ++ ys).length ≤ 45 := by rw [List.length_append]; omega
      have hC := split_row hall hlen
      have hD (v : Go.Value) := seal_rowV v hall hlen
      rw [rowB_app] at hC hD
      have hrl := rowB_len hall
      rw [rowB_app, List.length_append] at hrl
      refine Ct.enter Try.func19 rfl rfl fun W => ?_
      apply Wp.seq
      apply Wp.region
      refine WpL.v (V.as) ?_
      apply WpL.nil
      apply Out.seqN
      apply Wp.seq
      apply Wp.seq
      apply Wp.region
      refine WpL.o (Op1.fn rfl (alive06) ?_)
      refine WpL.v (V.not) ?_
      apply WpL.nil
      apply Out.seqN
      refine Wp.cF ?_
      apply Wp.skip
      apply Out.seqN
      apply Wp.seq
      apply Wp.seq
      apply Wp.region
      refine WpL.v (V.mv) ?_
      refine WpL.o (Op1.callT rfl (hG) (by (repeat (first | exact Sel.nil | exact Rem.here | apply Sel.cons | apply Rem.there))) ?_)
      rintro v0 s1 ⟨rfl, rfl⟩
      refine incat ?_
      refine WpL.v (V.mv) ?_
      refine WpL.v (V.mv) ?_
      refine WpL.o (Op1.callT rfl (hG') (by (repeat (first | exact Sel.nil | exact Rem.here | apply Sel.cons | apply Rem.there))) ?_)
      rintro v2 s3 ⟨rfl, rfl⟩
      refine incat ?_
      refine WpL.v (V.pF) ?_
      apply WpL.nil
      apply Out.seqN
      refine Wp.cF ?_
      apply Wp.skip
      apply Out.seqN
      apply Wp.seq
      apply Wp.region
      refine WpL.v (V.mv) ?_
      refine WpL.o (Op1.callT rfl (hA) (by (repeat (first | exact Sel.nil | exact Rem.here | apply Sel.cons | apply Rem.there))) ?_)
      rintro v4 s5 ⟨rfl, rfl⟩
      refine incat ?_
      refine WpL.v (V.mv) ?_
      refine WpL.o (Op1.callT rfl (hB) (by (repeat (first | exact Sel.nil | exact Rem.here | apply Sel.cons | apply Rem.there))) ?_)
      rintro v6 s7 ⟨rfl, rfl⟩
      refine incat ?_
      refine WpL.v (V.cat) ?_
      refine WpL.v (V.as) ?_
      apply WpL.nil
      apply Out.seqN
      apply Wp.seq
      apply Wp.region
      refine WpL.v (V.mv) ?_
      refine WpL.o (Op1.callT rfl (hC) (by (repeat (first | exact Sel.nil | exact Rem.here | apply Sel.cons | apply Rem.there))) ?_)
      rintro v8 s9 ⟨r23, ⟨rfl, rfl⟩⟩
      refine incat ?_
      refine WpL.v (V.mv) ?_
      refine WpL.v (V.ex) ?_
      refine WpL.v (V.ex) ?_
      refine WpL.v (V.as) ?_
      refine WpL.v (V.as) ?_
      apply WpL.nil
      apply Out.seqN
      apply Wp.seq
      apply Wp.region
      refine WpL.v (V.mv) ?_
      refine WpL.o (O.litL tb strc ([] : List (List UInt8)) rfl PartsFrom.nil rfl rfl (fun p27 => ?_))
      refine WpL.v (V.mv) ?_
      refine WpL.o (O.apLV tb rfl rfl (by (intro _; repeat first | exact Upd.here _ _ _ | apply Upd.there)) (SrcL.rdz tb hR (by (repeat first | exact List.Mem.head _ | apply List.Mem.tail)) ones_strc (fun _ => rfl)) (fun v29 h129 hv29 => ?_))
      refine WpL.v (V.mv) ?_
      refine WpL.o (O.apLV tb rfl rfl (by (intro _; repeat first | exact Upd.here _ _ _ | apply Upd.there)) (SrcL.rdz tb hR' (by (repeat first | exact List.Mem.head _ | apply List.Mem.tail)) ones_strc (fun _ => rfl)) (fun v31 h131 hv31 => ?_))
      refine WpL.o (Op1.callT rfl (hD _) (by (repeat (first | exact Sel.nil | exact Rem.here | apply Sel.cons | apply Rem.there))) ?_)
      rintro v10 s11 ⟨rfl, rfl⟩
      refine incat ?_
      refine WpL.v (V.cmpS rfl rfl (eqlS_self _)) ?_
      refine WpL.v (V.mv) ?_
      refine WpL.v (V.mv) ?_
      refine WpL.v (V.lenRows tb) ?_
      refine WpL.v (V.mv) ?_
      refine WpL.v (V.lenL tb) ?_
      refine WpL.v (V.mv) ?_
      refine WpL.v (V.lenL tb) ?_
      refine WpL.v (V.add) ?_
      refine WpL.v (V.cmp) ?_
      refine WpL.v (V.pT) ?_
      refine WpL.v (V.mv) ?_
      refine WpL.pt (fun hc12 => ?_) (fun hc12 => ?_)
      (try simp only [decide_eq_true_eq, decide_eq_false_iff_not, Bool.not_eq_true', Bool.not_eq_false', Bool.not_eq_true, Bool.not_eq_false, not_true_eq_false, not_false_eq_true, reduceCtorEq] at hc12)
      refine WpL.v (V.mv) ?_
      refine WpL.v (V.mv) ?_
      refine WpL.v (V.lenS tb) ?_
      refine WpL.v (V.cmp rfl rfl (eql_self _)) ?_
      refine WpL.v (V.pT) ?_
      refine WpL.v (V.as) ?_
      apply WpL.nil
      apply Out.seqN
      apply Wp.ret
      refine Out.f1 rfl ResIs.t ⟨?_, rfl⟩
      exact rfl
      (try simp only [decide_eq_true_eq, decide_eq_false_iff_not, Bool.not_eq_true', Bool.not_eq_false', Bool.not_eq_true, Bool.not_eq_false, not_true_eq_false, not_false_eq_true, reduceCtorEq] at hc12)
      (exfalso; simp at hc12; done)
open Go Go.ChangeShapes Go.WideShapes Go.ChangeAt Go.RowKit
theorem sealRows_read : (Try.f19.params.toList.all fun t => Try.prog.readableRec t && decide (t < Try.prog.types.size)) = true := by kernel_rfl
theorem sealRows_lifted (os : Go.Os) (started : os.Started) (H : Type) (enc : Go.TypeId × Go.Value → H) :
    ReturnsInHanded {} Try.checked os 19 .any (Rows.sealRowsSpec.pre6 enc Try.prog Try.f19 Rows.sealRowsRow.domain false) (Rows.sealRowsSpec.post enc Try.prog Try.f19 false true false false) := by
  refine returnsInHanded_of_change_sized (C := Try.checked) own started (by kernel_rfl) Try.func19
    (ChangeSpec.witness6 (enc := enc) (C := Try.checked) false ⟨#[], #[.slice none 0 0, .slice none 0 0], []⟩ 8 (by kernel_rfl) (by kernel_rfl) (by kernel_rfl) (by kernel_rfl)) ?_
  intro W base args ds gs before hval0 hW hcnd hsz0 _
  have hsz : (DataW.weightsEach Try.prog (Try.f19.params.toList ++ Rows.sealRowsSpec.plain.varTypes Try.prog) (ds ++ gs)).all (· ≤ reachBytes) = true := hsz0
  have hval : ∀ (j : Nat) t v, Try.f19.params[j]? = some t → args[j]? = some v → Value.okWide Try.prog W .any base t v := hval0
  have hW' := hW
  obtain ⟨p, q, hA0, hV, rfl, hfz, hnd⟩ := hW
  have hA1 : DataW.TrodAll enc Try.prog W 0 (fun _ => true) true Try.f19.params.toList args.toList ds p := hA0
  have hA := hA1
  rw [Try.params19] at hA hval hsz
  obtain ⟨v0, vs0, d0, ds0, p0, q0, hargs, rfl, rfl, h0, r0⟩ := trodAll_cons hA
  obtain ⟨v1, vs1, d1, ds1, p1, q1, rfl, rfl, rfl, h1, r1⟩ := trodAll_cons r0
  obtain ⟨rfl, rfl, rfl⟩ := trodAll_nil r1
  obtain rfl : args = #[v0, v1] := by cases args; simp_all
  obtain ⟨rfl, rfl⟩ := trodVars_none hV
  obtain ⟨ao0, b0, off0, len0, cap0, xs0, rfl, hl0, hlc0, hcm0, ha0, hs0, hf0, hby0⟩ := open_slice_plain Try.underlying76 StrT.leaves (by kernel_rfl) (by decide) (hval 0 76 v0 rfl rfl) h0 (sizedAll hsz 0 rfl rfl)
  obtain ⟨x0, rfl, w0⟩ := fits_map StrT.c StrT.wf hf0 StrT.fit
  obtain rfl : len0 = x0.length := by simpa using hl0.symm
  obtain ⟨ao1, b1, off1, len1, cap1, xs1, rfl, hl1, hlc1, hcm1, ha1, hs1, hf1, hby1⟩ := open_slice_plain Try.underlying76 StrT.leaves (by kernel_rfl) (by decide) (hval 1 76 v1 rfl rfl) h1 (sizedAll hsz 1 rfl rfl)
  obtain ⟨x1, rfl, w1⟩ := fits_map StrT.c StrT.wf hf1 StrT.fit
  obtain rfl : len1 = x1.length := by simpa using hl1.symm
  simp only [List.append_nil] at hW' hA1
  have hbl : ∀ p : Nat × Nat, p ∈ [(x0.length, b0), (x1.length, b1)] → 0 < p.1 → p.2 < W.heap.size := by
    intro p hp h0
    simp only [List.mem_cons, List.mem_nil_iff, or_false] at hp
    rcases hp with rfl | rfl
    · exact (ha0 h0).2
    · exact (ha1 h0).2
  have hR0 : Rd (snap W (blocksOf [(x0.length, b0), (x1.length, b1)])) ao0 x0.length b0 off0 1 (x0.map StrT.c) := Rd.snap (by simp) (Nat.le_trans hlc0 hcm0) ha0 hs0 (fun h => blocksOf_mem (len := x0.length) (by simp) h)
  have hR1 : Rd (snap W (blocksOf [(x0.length, b0), (x1.length, b1)])) ao1 x1.length b1 off1 1 (x1.map StrT.c) := Rd.snap (by simp) (Nat.le_trans hlc1 hcm1) ha1 hs1 (fun h => blocksOf_mem (len := x1.length) (by simp) h)
  refine (Ct.runSnap (blocksOf_nodup _) (blocksOf_lt hbl) (sealRows_walk _ _ _ _ _ x0 hR0 w0 _ _ _ _ x1 hR1 w1)).mono fun e W' hh => ?_
  obtain ⟨rfl, hS⟩ := hh
  exact ⟨_, rfl, post_law (P := Try.prog) (f := Try.f19) (tbool := 4) hW' hA1 rfl rfl hS laid sealRows_read rfl Try.underlying4⟩
theorem sealRows_over : Rows.sealRowsRow.holds Try.pinned (OpenSpec.ofChange Rows.sealRowsSpec) :=
  OpenClaim.holds_of_wide 19 Try.f19 rfl rfl rfl rfl rfl rfl rfl ⟨rfl, rfl, rfl, rfl, rfl⟩ rfl rfl rfl rfl rfl (by kernel_rfl) Try.func19 (by kernel_rfl)
    (of_decide_eq_true (by kernel_rfl)) (by unfold Func.isWrapper; first | (rw [if_pos (by decide +kernel)]; kernel_rfl) | (rw [if_neg (by decide +kernel)]; exact ⟨rfl, rfl⟩))
    (fun os started H enc _ => sealRows_lifted os started H enc)
/-- THE STATEMENT. -/
theorem sealRows_proved : Rows.SealRowsSaid := sealRows_over
#print axioms sealRows_proved

end Go.Proofs.Ytgbflapcadlelaa
