/-
  The statement RegistrySame of layer 20: Same answers whether two replies are the same in all. Proved for every input.
-/
import Derived.Test.YtgihkocnmgkihaaHead
import Derived.Test.YtgihkocnmgkihaaAny
namespace Go.Proofs.Ytgihkocnmgkihaa
open Go.HL
open Go Go.ChangeShapes Go.WideShapes Go.ChangeAt Go.RowKit
set_option linter.unusedSimpArgs false
set_option linter.unusedVariables false
set_option maxRecDepth 8000
abbrev StrT.c : List UInt8 → List Go.Value := strc
def StrT.wf (x : List UInt8) : Prop := x.length ≤ 140737488351232
theorem StrT.leaves : leaves Try.prog 40 9 = some [.s] := by kernel_rfl
theorem StrT.fit {cs : List Go.Value} (h0 : Fits [.s] cs) : ∃ x : List UInt8, cs = StrT.c x ∧ StrT.wf x := by
  obtain ⟨_, _, rfl, ⟨n0, rfl, w0⟩, h1⟩ := Fits.cons h0
  obtain rfl := Fits.nil h1
  exact ⟨n0, rfl, w0⟩
section
variable {H' : Type} {enc : TypeId × Go.Value → H'} {P : Program} {w : World} {base : Nat} {spare : Nat → Bool} {held : Bool}
theorem open_slice_core {T e m : Nat} {ls : List Leaf} {cs : List Go.Value} {d : DataW H'} {ps : List MemPlace} {fuel : Nat} (hT : P.underlying T = some (.slice e)) (hls : HL.leaves P m e = some ls) (hsz : ls.length = P.cellsOf e) (hpos : 0 < ls.length)
    (hf' : DataW.trod enc P w base spare held fuel T cs = some (d, ps)) (hlt : Light P T d) :
    ∃ (ao : Option Addr) (b off len cap : Nat) (xs : List (List Go.Value)), cs = [.slice ao len cap] ∧ xs.length = len ∧ len ≤ cap ∧ cap ≤ maxLen ∧ (0 < len → ao = some ⟨b, off, none⟩ ∧ b < w.heap.size) ∧ Slc w b off ls.length xs ∧ (∀ x, x ∈ xs → Fits ls x) := by
  rcases Go.Deep.open_slice hT hf' with ⟨h0, _⟩ | ⟨a, len, cap, q, n, Dd, Pl, hcs, _, hl, hm, hq, hdx, hi⟩
  · subst h0
    exact ⟨none, 0, 0, 0, 0, [], rfl, rfl, Nat.le_refl _, Nat.zero_le _, fun h => absurd h (by omega), fun i x h => (by simp at h), fun x h => (by cases h)⟩
  · subst hcs
    have hql : len ≤ q := by rw [hq]; split <;> omega
    rw [← hsz] at hi
    refine ⟨some a, a.block, a.off, len, cap, (List.range len).map fun i => (w.cells? base (a.add (i * ls.length)) ls.length).getD [], rfl, by simp, hl, hm, fun hpos' => ?_, fun i x hx => ?_, fun x hx => ?_⟩
    · obtain ⟨cs', hc, _⟩ := hi 0 (by omega)
      obtain ⟨hcl, hcg⟩ := cells?_get hc
      have h0 := hcg 0 hpos
      have ha : (a.add (0 * ls.length)).add 0 = a := by simp [Addr.add]
      rw [ha] at h0
      have hlt : 0 < cs'.length := by omega
      rw [List.getElem?_eq_getElem hlt] at h0
      have hsp : a.spot = none := by
        unfold World.cell? at h0
        split at h0
        · cases hs : a.spot with
          | none => rfl
          | some z => simp [hs] at h0
        · cases h0
      refine ⟨?_, block_lt_of_cell h0⟩
      obtain ⟨ab, ao', asp⟩ := a
      simp only at hsp
      subst hsp
      rfl
    · have hil : i < len := by
        have := (List.getElem?_eq_some_iff.1 hx).1
        simpa using this
      obtain ⟨cs0, hc0, _⟩ := hi 0 (by omega)
      obtain ⟨cs', hc, _⟩ := hi i (by omega)
      obtain ⟨hcl, hcg⟩ := cells?_get hc
      have hx' : x = cs' := by
        rw [List.getElem?_map, List.getElem?_range hil] at hx
        simpa [hc] using hx.symm
      subst hx'
      refine ⟨hcl, fun j u hu => ?_⟩
      have hj : j < ls.length := by have := (List.getElem?_eq_some_iff.1 hu).1; omega
      have hg := hcg j hj
      rw [hu] at hg
      obtain ⟨hcl0, hcg0⟩ := cells?_get hc0
      have h0 := hcg0 0 hpos
      have ha : (a.add (0 * ls.length)).add 0 = a := by simp [Addr.add]
      rw [ha, List.getElem?_eq_getElem (by omega : 0 < cs0.length)] at h0
      have hsp : a.spot = none := by
        unfold World.cell? at h0
        split at h0
        · cases hs : a.spot with
          | none => rfl
          | some z => simp [hs] at h0
        · cases h0
      obtain ⟨ab, ao', asp⟩ := a
      simp only at hsp
      subst hsp
      simpa [Addr.add_mid] using hg
    · obtain ⟨i, hir, rfl⟩ := List.mem_map.1 hx
      have hil : i < len := List.mem_range.1 hir
      obtain ⟨cs', hc, ht⟩ := hi i (by omega)
      rw [hc]
      refine trod_fits m e ls n cs' _ hls ht fun k hk => hlt k ?_
      simp only [Prod.mk.injEq] at hdx
      rw [hdx.1]
      have := weights_mem_all (P := P) (e := e) (ds := (List.range len).map Dd) (d := Dd i) (List.mem_map.2 ⟨i, hir, rfl⟩) k hk
      simp only [DataW.weights, hT, List.mem_cons, List.mem_append]
      exact .inr (.inl this)
end
theorem open_reply {H' : Type} {enc : TypeId × Go.Value → H'} {w : World} {base : Nat} {spare : Nat → Bool} {held : Bool} {r' : Reach} {b0 : Nat} {v : Go.Value} {d : DataW H'} {ps : List MemPlace} (hval : Value.okWide Try.prog w r' b0 32 v) (hd : DataW.Trod enc Try.prog w base spare held 32 v d ps) (hlt : Light Try.prog 32 d) :
    ∃ (e : Int) (s : List UInt8) (r : Int) (ao : Option Addr) (b off len cap : Nat) (xs : List (List Go.Value)), v = A (RegistryReply.c ⟨e, s, r, .slice ao len cap⟩) ∧ xs.length = len ∧ len ≤ cap ∧ cap ≤ maxLen ∧ (0 < len → ao = some ⟨b, off, none⟩ ∧ b < w.heap.size) ∧ Slc w b off 1 xs ∧ (∀ x, x ∈ xs → Fits [.s] x) := by
  obtain ⟨cs, rfl, _⟩ := okWide_struct Try.underlying32 hval
  obtain ⟨fuel, hf⟩ := hd
  have hf' : DataW.trod enc Try.prog w base spare held fuel 32 cs.toList = some (d, ps) := by simpa [Value.cells] using hf
  obtain ⟨xs, n, _, hx, hl, hxl, hfs⟩ := DataW.trod_struct Try.underlying32 hf'
  have c4 : Try.prog.cellsOf 32 = 4 := by kernel_rfl
  have c29 : Try.prog.cellsOf 29 = 1 := by kernel_rfl
  have c9 : Try.prog.cellsOf 9 = 1 := by kernel_rfl
  have c3 : Try.prog.cellsOf 3 = 1 := by kernel_rfl
  have c30 : Try.prog.cellsOf 30 = 1 := by kernel_rfl
  rw [c4] at hl
  have h0 : DataW.trod enc Try.prog w base spare held n 29 (List.take (Try.prog.cellsOf 29) (List.drop 0 cs.toList)) = xs[0]? := hfs 0 _ rfl
  have h1 : DataW.trod enc Try.prog w base spare held n 9 (List.take (Try.prog.cellsOf 9) (List.drop 1 cs.toList)) = xs[1]? := hfs 1 _ rfl
  have h2 : DataW.trod enc Try.prog w base spare held n 3 (List.take (Try.prog.cellsOf 3) (List.drop 2 cs.toList)) = xs[2]? := hfs 2 _ rfl
  have h3 : DataW.trod enc Try.prog w base spare held n 30 (List.take (Try.prog.cellsOf 30) (List.drop 3 cs.toList)) = xs[3]? := hfs 3 _ rfl
  rw [c29] at h0
  rw [c9] at h1
  rw [c3] at h2
  rw [c30] at h3
  obtain ⟨cl⟩ := cs
  match cl, hl with
  | [a0, a1, a2, a3], _ =>
  simp only [List.drop_zero, List.drop_succ_cons, List.take_succ_cons, List.take_zero] at h0 h1 h2 h3
  have hg : ∀ i, i < 4 → ∃ y, xs[i]? = some y := fun i hi => ⟨_, List.getElem?_eq_getElem (by rw [hxl]; exact hi)⟩
  obtain ⟨y0, e0⟩ := hg 0 (by decide)
  obtain ⟨y1, e1⟩ := hg 1 (by decide)
  obtain ⟨y2, e2⟩ := hg 2 (by decide)
  obtain ⟨y3, e3⟩ := hg 3 (by decide)
  rw [e0] at h0
  rw [e1] at h1
  rw [e2] at h2
  rw [e3] at h3
  obtain ⟨q0, k0, _, _⟩ := DataW.trod_int Try.underlying29 h0
  obtain ⟨s1, k1, _, _⟩ := DataW.trod_string Try.underlying9 h1
  obtain ⟨q2, k2, _, _⟩ := DataW.trod_int Try.underlying3 h2
  have hl3 : Light Try.prog 30 y3.1 := fun k hk => hlt k (by
    have := DataW.weights_mem_each (P := Try.prog) (ts := [29, 9, 3, 30]) (ds := xs.map (·.1)) (j := 3) (t := 30) (d := y3.1) rfl (by rw [List.getElem?_map, e3]; rfl) k hk
    have hx1 : d = .agg (xs.map (·.1)) := congrArg Prod.fst hx
    rw [hx1]
    simpa [DataW.weights, Try.underlying32] using this)
  obtain ⟨ao, b, off, len, cap, ys, k3, r1, r2, r3, r4, r5, r6⟩ := open_slice_core Try.underlying30 StrT.leaves (by rw [c9]; rfl) (by decide) h3 hl3
  cases k0
  cases k1
  cases k2
  cases k3
  exact ⟨q0, s1.data.toList, q2, ao, b, off, len, cap, ys, rfl, r1, r2, r3, r4, r5, r6⟩
theorem sameR_ref (a b : RegistryReply) (ka kb : List (List UInt8)) : sameR a b ka kb = (decide (ka = kb) && (decide (a.Err = b.Err) && decide (a.Value = b.Value) && decide (a.Version = b.Version))) := by
  unfold sameR
  exact Bool.and_comm _ _
theorem registrySame_walk (e : Ent) (r1 r2 : Int) (s1 s2 : List UInt8) (n1 n2 : Int) (ao1 ao2 : Option Go.Addr) (k1 k2 : List (List UInt8)) (cap1 cap2 b1 b2 off1 off2 : Nat) (hR1 : Rd e ao1 k1.length b1 off1 1 (k1.map strc)) (hR2 : Rd e ao2 k2.length b2 off2 1 (k2.map strc)) :
    Ct Try.prog 4 [A (RegistryReply.c ⟨r1, s1, n1, .slice ao1 k1.length cap1⟩), A (RegistryReply.c ⟨r2, s2, n2, .slice ao2 k2.length cap2⟩)] [e] (fun r σ' => r = B true ∧ σ' = [e]) := by
  have hK1 : KR e (.slice ao1 k1.length cap1) k1 := ⟨ao1, cap1, b1, off1, rfl, hR1⟩
  have hK2 : KR e (.slice ao2 k2.length cap2) k2 := ⟨ao2, cap2, b2, off2, rfl, hR2⟩
  have hS := same20 e ⟨r1, s1, n1, .slice ao1 k1.length cap1⟩ ⟨r2, s2, n2, .slice ao2 k2.length cap2⟩ k1 k2 hK1 hK2
  have hSs := same20 e ⟨r1, s1, n1, .slice ao1 k1.length cap1⟩ ⟨r1, s1, n1, .slice ao1 k1.length cap1⟩ k1 k1 hK1 hK1
  have hT1 := told20 ⟨r1, s1, n1, .slice ao1 k1.length cap1⟩ rfl
  have hT2 := told20 ⟨r2, s2, n2, .slice ao2 k2.length cap2⟩ rfl
  have hF := refSame e (toldR ⟨r1, s1, n1, .slice ao1 k1.length cap1⟩) (toldR ⟨r2, s2, n2, .slice ao2 k2.length cap2⟩) k1 k2 hK1 hK2
  rw [sameR_ref] at hS
  rw [show sameR ⟨r1, s1, n1, .slice ao1 k1.length cap1⟩ ⟨r1, s1, n1, .slice ao1 k1.length cap1⟩ k1 k1 = true by simp [sameR]] at hSs
  unfold toldR at hT1 hT2 hF
  generalize (decide (k1 = k2) && (decide (r1 = r2) && decide (s1 = s2) && decide (n1 = n2))) = t at *
  refine Ct.enter Try.func4 rfl rfl fun W => ?_
  apply Wp.seq
  apply Wp.region
  refine WpL.o (O.bxA (fun p2 => ?_))
  refine WpL.o (O.bxA (fun p3 => ?_))
  refine WpL.v (V.as) ?_
  apply WpL.nil
  apply Out.seqN
  apply Wp.seq
  apply Wp.seq
  apply Wp.region
  refine WpL.o (Op1.fn rfl (alive20) ?_)
  refine WpL.v (V.not) ?_
  apply WpL.nil
  apply Out.seqN
  refine Wp.cF ?_
  apply Wp.skip
  apply Out.seqN
  apply Wp.seq
  apply Wp.seq
  apply Wp.region
  refine WpL.v (V.fa tb) ?_
  refine WpL.v (V.ld1 tb) ?_
  refine WpL.v (V.lenL tb) ?_
  refine WpL.v (V.cmp) ?_
  refine WpL.v (V.mv) ?_
  refine WpL.pt (fun hsa0 => ?_) (fun hsa0 => ?_)
  (try simp only [decide_eq_true_eq, decide_eq_false_iff_not, Bool.not_eq_true', Bool.not_eq_false', Bool.not_eq_true, Bool.not_eq_false, not_true_eq_false, not_false_eq_true, reduceCtorEq] at hsa0)
  refine WpL.sk ?_
  refine WpL.sk ?_
  refine WpL.sk ?_
  refine WpL.sk ?_
  refine WpL.v (V.pT) ?_
  apply WpL.nil
  apply Out.seqN
  refine Wp.cT ?_
  apply Wp.seq
  apply Wp.region
  refine WpL.v (V.as) ?_
  apply WpL.nil
  apply Out.seqN
  apply Wp.ret
  apply Out.seqR
  refine Out.f1 rfl ResIs.t ⟨?_, rfl⟩
  exact rfl
  (try simp only [decide_eq_true_eq, decide_eq_false_iff_not, Bool.not_eq_true', Bool.not_eq_false', Bool.not_eq_true, Bool.not_eq_false, not_true_eq_false, not_false_eq_true, reduceCtorEq] at hsa0)
  refine WpL.v (V.fa tb) ?_
  refine WpL.v (V.ld1 tb) ?_
  refine WpL.v (V.lenL tb) ?_
  refine WpL.v (V.cmp) ?_
  refine WpL.v (V.pF) ?_
  apply WpL.nil
  apply Out.seqN
  refine Wp.c (fun hsa1 => ?_) (fun hsa1 => ?_)
  (try simp only [decide_eq_true_eq, decide_eq_false_iff_not, Bool.not_eq_true', Bool.not_eq_false', Bool.not_eq_true, Bool.not_eq_false, not_true_eq_false, not_false_eq_true, reduceCtorEq] at hsa1)
  apply Wp.seq
  apply Wp.region
  refine WpL.v (V.as) ?_
  apply WpL.nil
  apply Out.seqN
  apply Wp.ret
  apply Out.seqR
  refine Out.f1 rfl ResIs.t ⟨?_, rfl⟩
  exact rfl
  (try simp only [decide_eq_true_eq, decide_eq_false_iff_not, Bool.not_eq_true', Bool.not_eq_false', Bool.not_eq_true, Bool.not_eq_false, not_true_eq_false, not_false_eq_true, reduceCtorEq] at hsa1)
  apply Wp.skip
  apply Out.seqN
  apply Wp.seq
  refine Wp.dG [] ?_ (List.Sublist.cons_cons _ (List.Sublist.cons_cons _ (List.Sublist.cons_cons _ List.Sublist.slnil))) (List.Sublist.cons_cons _ (List.Sublist.cons_cons _ (List.Sublist.cons_cons _ List.Sublist.slnil)))
  refine WpA.tF 0 rfl (V.ldA tb) ?_
  refine WpA.tF 1 rfl (V.ldA tb) ?_
  refine WpA.tF 3 rfl (V.ldA tb) ?_
  refine WpA.tF 5 rfl (V.ldA tb) ?_
  refine WpA.oS 2 rfl (Op1.callT rfl (hS) (by (repeat (first | exact Sel.nil | exact Rem.here | apply Sel.cons | apply Rem.there))) ?_)
  rintro v2 s3 ⟨rfl, rfl⟩
  refine incat ⟨?_, ?_, ?_⟩
  exact holdT
  exact holdT
  refine WpA.oS 4 rfl (Op1.fn rfl (hT1) ⟨?_, ?_, ?_⟩)
  exact holdT
  exact holdT
  refine WpA.oS 6 rfl (Op1.fn rfl (hT2) ⟨?_, ?_, ?_⟩)
  exact holdT
  exact holdT
  refine WpA.oS 7 rfl (Op1.callT rfl (hF) (by (repeat (first | exact Sel.nil | exact Rem.here | apply Sel.cons | apply Rem.there))) ?_)
  rintro v4 s5 ⟨rfl, rfl⟩
  refine incat ⟨?_, ?_, ?_⟩
  exact holdT
  exact holdT
  refine WpA.tF 8 rfl (V.eqB tb) ?_
  refine WpA.tF 9 rfl (V.mv) ?_
  refine WpA.pt 26 (fun hsa6 => ?_) (fun hsa6 => ?_)
  (try simp only [decide_eq_true_eq, decide_eq_false_iff_not, Bool.not_eq_true', Bool.not_eq_false', Bool.not_eq_true, Bool.not_eq_false, not_true_eq_false, not_false_eq_true, reduceCtorEq] at hsa6)
  refine WpA.tF 10 rfl (V.ldA tb) ?_
  refine WpA.tF 11 rfl (V.ldA tb) ?_
  refine WpA.oS 12 rfl (Op1.callT rfl (hSs) (by (repeat (first | exact Sel.nil | exact Rem.here | apply Sel.cons | apply Rem.there))) ?_)
  rintro v7 s8 ⟨rfl, rfl⟩
  refine incat ⟨?_, ?_, ?_⟩
  exact holdT
  exact holdT
  refine WpA.tF 13 rfl (V.pT) ?_
  refine WpA.tF 14 rfl (V.as) ?_
  refine WpA.ou ?_
  apply Out.seqN
  apply Wp.ret
  refine Out.f1 rfl ResIs.t ⟨?_, rfl⟩
  exact rfl
  (try simp only [decide_eq_true_eq, decide_eq_false_iff_not, Bool.not_eq_true', Bool.not_eq_false', Bool.not_eq_true, Bool.not_eq_false, not_true_eq_false, not_false_eq_true, reduceCtorEq] at hsa6)
  (exfalso; simp at hsa6; done)
open Go Go.ChangeShapes Go.WideShapes Go.ChangeAt Go.RowKit
theorem registrySame_read : (Try.f4.params.toList.all fun t => Try.prog.readableRec t && decide (t < Try.prog.types.size)) = true := by kernel_rfl
theorem registrySame_lifted (os : Go.Os) (started : os.Started) (H : Type) (enc : Go.TypeId × Go.Value → H) :
    ReturnsInHanded {} Try.checked os 4 .any (Rows.registrySameSpec.pre6 enc Try.prog Try.f4 Rows.registrySameRow.domain false) (Rows.registrySameSpec.post enc Try.prog Try.f4 false true false false) := by
  refine returnsInHanded_of_change_sized (C := Try.checked) own started (by kernel_rfl) Try.func4
    (ChangeSpec.witness6 (enc := enc) (C := Try.checked) false ⟨#[], #[A RegistryReply.z.c, A RegistryReply.z.c], []⟩ 8 (by kernel_rfl) (by kernel_rfl) (by kernel_rfl) (by kernel_rfl)) ?_
  intro W base args ds gs before hval0 hW hcnd hsz0 _
  have hsz : (DataW.weightsEach Try.prog (Try.f4.params.toList ++ Rows.registrySameSpec.plain.varTypes Try.prog) (ds ++ gs)).all (· ≤ reachBytes) = true := hsz0
  have hval : ∀ (j : Nat) t v, Try.f4.params[j]? = some t → args[j]? = some v → Value.okWide Try.prog W .any base t v := hval0
  have hW' := hW
  obtain ⟨p, q, hA0, hV, rfl, hfz, hnd⟩ := hW
  have hA1 : DataW.TrodAll enc Try.prog W 0 (fun _ => true) true Try.f4.params.toList args.toList ds p := hA0
  have hA := hA1
  rw [Try.params4] at hA hval hsz
  obtain ⟨v0, vs0, d0, ds0, p0, q0, hargs, rfl, rfl, h0, r0⟩ := trodAll_cons hA
  obtain ⟨v1, vs1, d1, ds1, p1, q1, rfl, rfl, rfl, h1, r1⟩ := trodAll_cons r0
  obtain ⟨rfl, rfl, rfl⟩ := trodAll_nil r1
  obtain rfl : args = #[v0, v1] := by cases args; simp_all
  obtain ⟨rfl, rfl⟩ := trodVars_none hV
  obtain ⟨e0, s0, n0, ao0, b0, off0, len0, cap0, xs0, rfl, hl0, hlc0, hcm0, ha0, hs0, hf0⟩ := open_reply (hval 0 32 v0 rfl rfl) h0 (sizedAll hsz 0 rfl rfl)
  obtain ⟨x0, rfl, w0⟩ := fits_map StrT.c StrT.wf hf0 StrT.fit
  obtain rfl : len0 = x0.length := by simpa using hl0.symm
  obtain ⟨e1, s1, n1, ao1, b1, off1, len1, cap1, xs1, rfl, hl1, hlc1, hcm1, ha1, hs1, hf1⟩ := open_reply (hval 1 32 v1 rfl rfl) h1 (sizedAll hsz 1 rfl rfl)
  obtain ⟨x1, rfl, w1⟩ := fits_map StrT.c StrT.wf hf1 StrT.fit
  obtain rfl : len1 = x1.length := by simpa using hl1.symm
  simp only [List.append_nil] at hW' hA1
  have hbl : ∀ p : Nat × Nat, p ∈ [(x0.length, b0), (x1.length, b1)] → 0 < p.1 → p.2 < W.heap.size := by
    intro p hp h0
    simp only [List.mem_cons, List.mem_nil_iff, or_false] at hp
    rcases hp with rfl | rfl
    · exact (ha0 h0).2
    · exact (ha1 h0).2
  have hR0 : Rd (snap W (blocksOf [(x0.length, b0), (x1.length, b1)])) ao0 x0.length b0 off0 1 (x0.map StrT.c) := Rd.snap (by simp) (Nat.le_trans hlc0 hcm0) ha0 hs0 (fun h => blocksOf_mem (len := x0.length) (by simp) h)
  have hR1 : Rd (snap W (blocksOf [(x0.length, b0), (x1.length, b1)])) ao1 x1.length b1 off1 1 (x1.map StrT.c) := Rd.snap (by simp) (Nat.le_trans hlc1 hcm1) ha1 hs1 (fun h => blocksOf_mem (len := x1.length) (by simp) h)
  refine (Ct.runSnap (blocksOf_nodup _) (blocksOf_lt hbl) (registrySame_walk _ e0 e1 s0 s1 n0 n1 _ _ x0 x1 _ _ _ _ _ _ hR0 hR1)).mono fun e W' hh => ?_
  obtain ⟨rfl, hS⟩ := hh
  exact ⟨_, rfl, post_law (P := Try.prog) (f := Try.f4) (tbool := 4) hW' hA1 rfl rfl hS laid registrySame_read rfl Try.underlying4⟩
theorem registrySame_joined : joinedFacts Try.prog 4 Try.f4 Rows.registrySameSpec Rows.registrySameRow = true := by
  unfold joinedFacts
  rewrite [head_enter, head_lift, head_make]
  kernel_rfl
theorem registrySame_over : Rows.registrySameRow.holds Try.pinned (OpenSpec.ofChange Rows.registrySameSpec) :=
  OpenClaim.holds_of_wide 4 Try.f4 rfl rfl rfl rfl rfl rfl rfl ⟨rfl, rfl, rfl, rfl, rfl⟩ rfl rfl rfl rfl rfl (by kernel_rfl) Try.func4 registrySame_joined
    (of_decide_eq_true (by kernel_rfl)) (by unfold Func.isWrapper; first | (rw [if_pos (by decide +kernel)]; kernel_rfl) | (rw [if_neg (by decide +kernel)]; exact ⟨rfl, rfl⟩))
    (fun os started H enc _ => registrySame_lifted os started H enc)
/-- THE STATEMENT. -/
theorem registrySame_proved : Rows.RegistrySameSaid := registrySame_over
#print axioms registrySame_proved

end Go.Proofs.Ytgihkocnmgkihaa
