/-
  The statement RegistryDoes of layer 20: in every row of deeds each reply, and all pairs, are the document's; a nil registry. Proved for every input.
-/
import Derived.Test.YtgihkocnmgkihaaHead
import Derived.Test.YtgihkocnmgkihaaNil
namespace Go.Proofs.Ytgihkocnmgkihaa
open Go.HL
set_option linter.unusedSimpArgs false
set_option linter.unusedVariables false
set_option maxRecDepth 8000
structure RD20 where
  k : Nat
  l : PM
  ks : Go.Value
  vs : Go.Value
  ns : Go.Value
theorem refSame_at (x : DR) (v v' : Go.Value) : Ct Try.prog 17 [A (Caucusref20Reply.c ⟨x.err, x.val, x.ver, v⟩), A (Caucusref20Reply.c ⟨x.err, x.val, x.ver, v'⟩)] [rows strc v 9 1 x.keys, rows strc v' 9 1 x.keys] (fun r σ' => r = B true ∧ σ' = [rows strc v 9 1 x.keys, rows strc v' 9 1 x.keys]) := by
  refine Ct.mono (refSame_rows ⟨x.err, x.val, x.ver, v⟩ ⟨x.err, x.val, x.ver, v'⟩ x.keys x.keys) ?_
  rintro r σ' ⟨rfl, rfl⟩
  exact ⟨by simp, rfl⟩
theorem told_at (x : DR) (ao : Option Go.Addr) (len cap : Nat) : Fun Try.prog 18 [A (RegistryReply.c ⟨x.err, x.val, x.ver, .slice ao len cap⟩)] (A (Caucusref20Reply.c ⟨x.err, x.val, x.ver, .slice ao len cap⟩)) := told20 ⟨x.err, x.val, x.ver, .slice ao len cap⟩ rfl
theorem filt_next {α : Type} {R : List α} {P : α → Bool} {k : Nat} {q x : α} {pre post : List α} (hq : R[k]? = some q) (hp : P q = true) (h : R.filter P = pre ++ x :: post) (hk : (R.take k).filter P = pre) : q = x := by
  have e : R.filter P = (R.take (k + 1)).filter P ++ (R.drop (k + 1)).filter P := by rw [← List.filter_append, List.take_append_drop]
  rw [filter_snoc hq, hk, if_pos hp, h, List.append_assoc] at e
  have := List.append_cancel_left e
  simp only [List.cons_append, List.nil_append, List.cons.injEq] at this
  exact this.1.symm
theorem filt_over {α : Type} {R : List α} {P : α → Bool} {k : Nat} {q : α} (hq : R[k]? = some q) (hp : P q = true) (hk : (R.take k).filter P = R.filter P) : False := by
  have e : R.filter P = (R.take (k + 1)).filter P ++ (R.drop (k + 1)).filter P := by rw [← List.filter_append, List.take_append_drop]
  rw [filter_snoc hq, hk, if_pos hp] at e
  have := congrArg List.length e
  simp at this
set_option maxHeartbeats 8000000 in
theorem registryDoes_walk (e : Ent) (ao : Option Go.Addr) (cap b off : Nat) (xs : List TDeed) (prefix_ : List UInt8) (hw : ∀ x ∈ xs, x.Key.length ≤ 140737488351232 ∧ x.Value.length ≤ 140737488351232) (hpw : prefix_.length ≤ 140737488351232) (hR : Rd e ao xs.length b off 6 (xs.map TDeed.c)) :
    Ct Try.prog 5 [.slice ao xs.length cap, S prefix_] [e] (fun r σ' => r = B true ∧ σ' = [e]) := by
  have hm := hR.small
  simp only [Go.maxLen] at hm
  have hG := great20z e ao cap b off xs hw hR
  have hN := reg_new
  unfold rgE mE at hN
  refine Ct.enter Try.func5 rfl rfl fun W => ?_
  refine Wp.nilRows i64c 3 1 ?_
  refine Wp.nilRows strc 9 1 ?_
  refine Wp.nilRows strc 9 1 ?_
  apply Wp.seq
  apply Wp.region
  refine WpL.o (O.bx1 (fun p3 => ?_))
  refine WpL.o (O.al tb (fun p4 => ?_))
  apply WpL.nil
  apply Out.seqN
  apply Wp.seq
  apply Wp.seq
  apply Wp.region
  refine WpL.o (Op1.fn rfl (alive20) ?_)
  refine WpL.v (V.not) ?_
  apply WpL.nil
  apply Out.seqN
  refine Wp.cF ?_
  apply Wp.skip
  apply Out.seqN
  apply Wp.seq
  apply Wp.seq
  apply Wp.region
  refine WpL.v (V.mv) ?_
  refine WpL.o (Op1.callT rfl (hG) (by (repeat (first | exact Sel.nil | exact Rem.here | apply Sel.cons | apply Rem.there))) ?_)
  rintro v1 s2 ⟨t16, ⟨hx0, ⟨rfl, rfl⟩⟩⟩
  refine incat ?_
  refine WpL.v (V.mv) ?_
  refine WpL.pt (fun hd03 => ?_) (fun hd03 => ?_)
  (try simp only [decide_eq_true_eq, decide_eq_false_iff_not, Bool.not_eq_true', Bool.not_eq_false', Bool.not_eq_true, Bool.not_eq_false, not_true_eq_false, not_false_eq_true, reduceCtorEq] at hd03)
  refine WpL.sk ?_
  refine WpL.sk ?_
  refine WpL.sk ?_
  refine WpL.v (V.pT) ?_
  apply WpL.nil
  apply Out.seqN
  refine Wp.cT ?_
  apply Wp.seq
  apply Wp.region
  refine WpL.o (O.st1 tb ?_)
  apply WpL.nil
  apply Out.seqN
  apply Wp.ret
  apply Out.seqR
  refine Out.f1 rfl (ResIs.c1 tb) ⟨?_, rfl⟩
  exact rfl
  (try simp only [decide_eq_true_eq, decide_eq_false_iff_not, Bool.not_eq_true', Bool.not_eq_false', Bool.not_eq_true, Bool.not_eq_false, not_true_eq_false, not_false_eq_true, reduceCtorEq] at hd03)
  refine WpL.v (V.ld1 tb) ?_
  refine WpL.v (V.lenS tb) ?_
  refine WpL.v (V.cmp) ?_
  refine WpL.v (V.pF) ?_
  apply WpL.nil
  apply Out.seqN
  refine Wp.c (fun hd04 => ?_) (fun hd04 => ?_)
  (try simp only [decide_eq_true_eq, decide_eq_false_iff_not, Bool.not_eq_true', Bool.not_eq_false', Bool.not_eq_true, Bool.not_eq_false, not_true_eq_false, not_false_eq_true, reduceCtorEq] at hd04)
  apply Wp.seq
  apply Wp.region
  refine WpL.o (O.st1 tb ?_)
  apply WpL.nil
  apply Out.seqN
  apply Wp.ret
  apply Out.seqR
  refine Out.f1 rfl (ResIs.c1 tb) ⟨?_, rfl⟩
  exact rfl
  (try simp only [decide_eq_true_eq, decide_eq_false_iff_not, Bool.not_eq_true', Bool.not_eq_false', Bool.not_eq_true, Bool.not_eq_false, not_true_eq_false, not_false_eq_true, reduceCtorEq] at hd04)
  apply Wp.skip
  apply Out.seqN
  apply Wp.seq
  apply Wp.region
  refine WpL.o (Op1.callT rfl (hN) (by (repeat (first | exact Sel.nil | exact Rem.here | apply Sel.cons | apply Rem.there))) ?_)
  rintro v5 s6 ⟨b22, ⟨m22, ⟨rfl, rfl⟩⟩⟩
  refine incat ?_
  refine WpL.v (V.bld tb) ?_
  refine WpL.o (O.bxA (fun p24 => ?_))
  refine WpL.o (O.al tb (fun p6 => ?_))
  refine WpL.v (V.as) ?_
  refine WpL.o (O.st1 tb ?_)
  apply WpL.nil
  apply Out.seqN
  apply Wp.seq
  apply Wp.seq
  apply Wp.region
  refine WpL.v (V.mv) ?_
  refine WpL.v (V.lenL tb) ?_
  refine WpL.v (V.mv) ?_
  apply WpL.nil
  apply Out.seqN
  apply Wp.block
  obtain ⟨hx80, hxs⟩ := hx0 (by assumption)
  refine Wp.lp [26, 25, 5, 6, 4, 3] (fun y : RD20 => y.k ≤ xs.length ∧ RI y.k y.l ∧ RZ y.l) (fun y => [(27, I (y.k : Int))]) (fun y => mapK kS vP m22 y.l :: rfE p24 y.ks y.vs y.ns (canon y.l)) (fun y => xs.length - y.k) ⟨0, [], .slice none 0 0, .slice none 0 0, .slice none 0 0⟩ ⟨Nat.zero_le _, RI.zero, RZ.zero⟩ ?_ (hs := by rw [canon_nil]; unfold rfE; dsimp only [List.map_nil]; (repeat (first | exact Sel.nil | exact Rem.here | apply Sel.cons | apply Rem.there)))
  rintro ⟨k, l, ks, vs, ns⟩ ⟨hk, hi, hz⟩ K hK
  dsimp only at hk hi hz
  unfold rfE
  dsimp only [List.cons_append, List.nil_append]
  by_cases hlt : k < xs.length
  · obtain ⟨x, hx⟩ := getS hlt
    have hi2 := hi.any x
    have hz2 := hz.any hi (hxs x (List.mem_of_getElem? hx))
    have hA := reg_any b22 m22 k l x hi (by omega)
    have hB := ref_any p24 ks vs ns k l x hi (by omega)
    have hL := reg_len b22 m22 (doA l x).l
    have hY := reg_bytes b22 m22 _ _ hi2 hz2 (by omega)
    have hsm := Small.canon hi2 hz2 (by omega)
    have hcl := canon_len (doA l x).l
    have hil := hi2.len
    have hY2 (k v n : Go.Value) := ref_bytes p24 k v n (canon (doA l x).l) hsm (by omega)
    have hck : ((canon (doA l x).l).map (·.Key)).length = (doA l x).l.length := by rw [List.length_map]; exact hcl
    generalize doA l x = y at *
    unfold mE at hA
    unfold rgE mE at hL hY
    unfold rfE at hB hY2
    apply Wp.seq
    apply Wp.region
    refine WpL.v (V.cmp) ?_
    apply WpL.nil
    apply Out.seqN
    apply Wp.seq
    refine Wp.c (fun hd10 => ?_) (fun hd10 => ?_)
    (try simp only [decide_eq_true_eq, decide_eq_false_iff_not, Bool.not_eq_true', Bool.not_eq_false', Bool.not_eq_true, Bool.not_eq_false, not_true_eq_false, not_false_eq_true, reduceCtorEq] at hd10)
    apply Wp.skip
    apply Out.seqN
    apply Wp.seq
    apply Wp.block
    apply Wp.seq
    apply Wp.region
    refine WpL.v (V.ixR tb rfl rfl (by assumption)) ?_
    refine WpL.v (V.ldRA tb rfl (by assumption) (getMapS (by assumption))) ?_
    refine WpL.o (O.al tb (fun p8 => ?_))
    refine WpL.o (O.stA tb ?_)
    apply WpL.nil
    apply Out.seqN
    apply Wp.seq
    apply Wp.region
    refine WpL.v (V.mv) ?_
    refine WpL.v (V.ldA tb) ?_
    refine WpL.o (Op1.callT rfl (hA) (by (repeat (first | exact Sel.nil | exact Rem.here | apply Sel.cons | apply Rem.there))) ?_)
    rintro v1 s2 ⟨ao33, ⟨len33, ⟨cap33, ⟨rfl, rfl⟩⟩⟩⟩
    refine incat ?_
    refine WpL.o (O.al tb (fun p9 => ?_))
    refine WpL.o (O.stA tb ?_)
    apply WpL.nil
    apply Out.seqN
    rotate_left
    (try simp only [decide_eq_true_eq, decide_eq_false_iff_not, Bool.not_eq_true', Bool.not_eq_false', Bool.not_eq_true, Bool.not_eq_false, not_true_eq_false, not_false_eq_true, reduceCtorEq] at hd10)
    (exfalso; omega)
    apply Wp.seq
    refine Wp.dG [] ?_ (List.Sublist.cons_cons _ (List.Sublist.cons _ (List.Sublist.cons _ (List.Sublist.cons _ (List.Sublist.cons_cons _ (List.Sublist.cons _ (List.Sublist.cons _ (List.Sublist.cons _ (List.Sublist.cons _ (List.Sublist.cons_cons _ (List.Sublist.cons _ (List.Sublist.cons _ (List.Sublist.cons _ List.Sublist.slnil))))))))))))) (List.Sublist.cons_cons _ (List.Sublist.cons _ (List.Sublist.cons _ (List.Sublist.cons _ (List.Sublist.cons_cons _ (List.Sublist.cons _ (List.Sublist.cons _ (List.Sublist.cons _ (List.Sublist.cons _ (List.Sublist.cons_cons _ (List.Sublist.cons _ (List.Sublist.cons _ (List.Sublist.cons _ List.Sublist.slnil)))))))))))))
    refine WpA.tF 0 rfl (V.ldA tb) ?_
    refine WpA.tF 2 rfl (V.ld1 tb) ?_
    refine WpA.tF 3 rfl (V.ldA tb) ?_
    refine WpA.oS 1 rfl (Op1.fn rfl (told_at y _ _ _) ⟨?_, ?_, ?_⟩)
    exact holdT
    exact holdT
    refine WpA.oS 4 rfl (Op1.callT rfl (hB) (by (repeat (first | exact Sel.nil | exact Rem.here | apply Sel.cons | apply Rem.there))) ?_)
    rintro v0 s1 ⟨ao38, ⟨len38, ⟨cap38, ⟨ks'38, ⟨vs'38, ⟨ns'38, ⟨rfl, rfl⟩⟩⟩⟩⟩⟩⟩
    refine incat ⟨?_, ?_, ?_⟩
    exact holdT
    exact holdT
    refine WpA.oS 5 rfl (Op1.callT rfl (refSame_at y _ _) (by (repeat (first | exact Sel.nil | exact Rem.here | apply Sel.cons | apply Rem.there))) ?_)
    rintro v2 s3 ⟨rfl, rfl⟩
    refine incat ⟨?_, ?_, ?_⟩
    exact holdT
    exact holdT
    refine WpA.tF 6 rfl (V.not) ?_
    refine WpA.tF 7 rfl (V.mv) ?_
    refine WpA.tF 8 rfl (V.mv) ?_
    refine WpA.tF 10 rfl (V.ld1 tb) ?_
    refine WpA.tF 11 rfl (V.nc) ?_
    refine WpA.tF 12 rfl (V.fa tb) ?_
    refine WpA.e2 9 13 rfl rfl ?_ ?_
    refine Op1.callT rfl (hL) (by (repeat (first | exact Sel.nil | exact Rem.here | apply Sel.cons | apply Rem.there))) ?_
    rintro v4 s5 ⟨rfl, rfl⟩
    refine incat ⟨?_, ?_, ?_⟩
    exact holdT
    exact holdT
    refine WpA.oS 13 rfl (Op1.vv (V.ld1 tb) ⟨?_, ?_, ?_⟩)
    exact holdT
    exact holdT
    refine WpA.oS 14 rfl (Op1.vv (V.lenRows tb) ⟨?_, ?_, ?_⟩)
    exact holdT
    exact holdT
    refine WpA.tF 15 rfl (V.cmp) ?_
    refine WpA.tF 16 rfl (V.pF) ?_
    refine WpA.tF 17 rfl (V.mv) ?_
    refine WpA.pt 51 (fun hd26 => ?_) (fun hd26 => ?_)
    (try simp only [decide_eq_true_eq, decide_eq_false_iff_not, Bool.not_eq_true', Bool.not_eq_false', Bool.not_eq_true, Bool.not_eq_false, not_true_eq_false, not_false_eq_true, reduceCtorEq] at hd26)
    (exfalso; omega)
    (try simp only [decide_eq_true_eq, decide_eq_false_iff_not, Bool.not_eq_true', Bool.not_eq_false', Bool.not_eq_true, Bool.not_eq_false, not_true_eq_false, not_false_eq_true, reduceCtorEq] at hd26)
    refine WpA.tF 18 rfl (V.mv) ?_
    refine WpA.tF 20 rfl (V.ld1 tb) ?_
    refine WpA.oS 19 rfl (Op1.callT rfl (hY) (by (repeat (first | exact Sel.nil | exact Rem.here | apply Sel.cons | apply Rem.there))) ?_)
    rintro v7 s8 ⟨rfl, rfl⟩
    refine incat ⟨?_, ?_, ?_⟩
    exact holdT
    exact holdT
    refine WpA.oS 21 rfl (Op1.callT rfl (hY2 _ _ _) (by (repeat (first | exact Sel.nil | exact Rem.here | apply Sel.cons | apply Rem.there))) ?_)
    rintro v9 s10 ⟨rfl, rfl⟩
    refine incat ⟨?_, ?_, ?_⟩
    exact holdT
    exact holdT
    refine WpA.tF 22 rfl (V.cmpS) ?_
    refine WpA.tF 23 rfl (V.pF) ?_
    refine WpA.tF 24 rfl (V.mv) ?_
    refine WpA.pt 58 (fun hd211 => ?_) (fun hd211 => ?_)
    (try simp only [decide_eq_true_eq, decide_eq_false_iff_not, Bool.not_eq_true', Bool.not_eq_false', Bool.not_eq_true, Bool.not_eq_false, not_true_eq_false, not_false_eq_true, reduceCtorEq] at hd211)
    (try simp only [decide_eq_true_eq, decide_eq_false_iff_not, Bool.not_eq_true', Bool.not_eq_false', Bool.not_eq_true, Bool.not_eq_false, not_true_eq_false, not_false_eq_true, reduceCtorEq] at hd211)
    refine WpA.tF 25 rfl (V.ldA tb) ?_
    refine WpA.tF 26 rfl (V.ldA tb) ?_
    refine WpA.oS 27 rfl (Op1.callT rfl (same_self ⟨y.err, y.val, y.ver, .slice ao33 len33 cap33⟩ y.keys) (by (repeat (first | exact Sel.nil | exact Rem.here | apply Sel.cons | apply Rem.there))) ?_)
    rintro v12 s13 ⟨rfl, rfl⟩
    refine incat ⟨?_, ?_, ?_⟩
    exact holdT
    exact holdT
    refine WpA.tF 28 rfl (V.not) ?_
    refine WpA.tF 29 rfl (V.pF) ?_
    refine WpA.ou ?_
    apply Out.seqN
    refine Wp.cF ?_
    apply Wp.skip
    apply Out.blockN
    apply Out.seqN
    apply Wp.region
    refine WpL.v (V.add) ?_
    refine WpL.v (V.mv) ?_
    apply WpL.nil
    rotate_left
    refine Op1.vv (V.ld1 tb) ⟨?_, ?_, ?_⟩
    exact holdT
    exact holdT
    refine WpA.e2 9 14 rfl rfl ?_ ?_
    refine Op1.callT rfl (hL) (by (repeat (first | exact Sel.nil | exact Rem.here | apply Sel.cons | apply Rem.there))) ?_
    rintro v14 s15 ⟨rfl, rfl⟩
    refine incat ⟨?_, ?_, ?_⟩
    exact holdT
    exact holdT
    refine WpA.oS 14 rfl (Op1.vv (V.lenRows tb) ⟨?_, ?_, ?_⟩)
    exact holdT
    exact holdT
    refine WpA.tF 15 rfl (V.cmp) ?_
    refine WpA.tF 16 rfl (V.pF) ?_
    refine WpA.tF 17 rfl (V.mv) ?_
    refine WpA.pt 51 (fun hd216 => ?_) (fun hd216 => ?_)
    (try simp only [decide_eq_true_eq, decide_eq_false_iff_not, Bool.not_eq_true', Bool.not_eq_false', Bool.not_eq_true, Bool.not_eq_false, not_true_eq_false, not_false_eq_true, reduceCtorEq] at hd216)
    (exfalso; omega)
    (try simp only [decide_eq_true_eq, decide_eq_false_iff_not, Bool.not_eq_true', Bool.not_eq_false', Bool.not_eq_true, Bool.not_eq_false, not_true_eq_false, not_false_eq_true, reduceCtorEq] at hd216)
    refine WpA.tF 18 rfl (V.mv) ?_
    refine WpA.tF 20 rfl (V.ld1 tb) ?_
    refine WpA.oS 19 rfl (Op1.callT rfl (hY) (by (repeat (first | exact Sel.nil | exact Rem.here | apply Sel.cons | apply Rem.there))) ?_)
    rintro v17 s18 ⟨rfl, rfl⟩
    refine incat ⟨?_, ?_, ?_⟩
    exact holdT
    exact holdT
    refine WpA.oS 21 rfl (Op1.callT rfl (hY2 _ _ _) (by (repeat (first | exact Sel.nil | exact Rem.here | apply Sel.cons | apply Rem.there))) ?_)
    rintro v19 s20 ⟨rfl, rfl⟩
    refine incat ⟨?_, ?_, ?_⟩
    exact holdT
    exact holdT
    refine WpA.tF 22 rfl (V.cmpS) ?_
    refine WpA.tF 23 rfl (V.pF) ?_
    refine WpA.tF 24 rfl (V.mv) ?_
    refine WpA.pt 58 (fun hd221 => ?_) (fun hd221 => ?_)
    (try simp only [decide_eq_true_eq, decide_eq_false_iff_not, Bool.not_eq_true', Bool.not_eq_false', Bool.not_eq_true, Bool.not_eq_false, not_true_eq_false, not_false_eq_true, reduceCtorEq] at hd221)
    (try simp only [decide_eq_true_eq, decide_eq_false_iff_not, Bool.not_eq_true', Bool.not_eq_false', Bool.not_eq_true, Bool.not_eq_false, not_true_eq_false, not_false_eq_true, reduceCtorEq] at hd221)
    refine WpA.tF 25 rfl (V.ldA tb) ?_
    refine WpA.tF 26 rfl (V.ldA tb) ?_
    refine WpA.oS 27 rfl (Op1.callT rfl (same_self ⟨y.err, y.val, y.ver, .slice ao33 len33 cap33⟩ y.keys) (by (repeat (first | exact Sel.nil | exact Rem.here | apply Sel.cons | apply Rem.there))) ?_)
    rintro v22 s23 ⟨rfl, rfl⟩
    refine incat ⟨?_, ?_, ?_⟩
    exact holdT
    exact holdT
    refine WpA.tF 28 rfl (V.not) ?_
    refine WpA.tF 29 rfl (V.pF) ?_
    refine WpA.ou ?_
    apply Out.seqN
    refine Wp.cF ?_
    apply Wp.skip
    apply Out.blockN
    apply Out.seqN
    apply Wp.region
    refine WpL.v (V.add) ?_
    refine WpL.v (V.mv) ?_
    apply WpL.nil
    rotate_left
    refine Op1.vv (V.lenRows tb) ⟨?_, ?_, ?_⟩
    exact holdT
    exact holdT
    refine WpA.oS 9 rfl (Op1.callT rfl (hL) (by (repeat (first | exact Sel.nil | exact Rem.here | apply Sel.cons | apply Rem.there))) ?_)
    rintro v24 s25 ⟨rfl, rfl⟩
    refine incat ⟨?_, ?_, ?_⟩
    exact holdT
    exact holdT
    refine WpA.tF 15 rfl (V.cmp) ?_
    refine WpA.tF 16 rfl (V.pF) ?_
    refine WpA.tF 17 rfl (V.mv) ?_
    refine WpA.pt 51 (fun hd226 => ?_) (fun hd226 => ?_)
    (try simp only [decide_eq_true_eq, decide_eq_false_iff_not, Bool.not_eq_true', Bool.not_eq_false', Bool.not_eq_true, Bool.not_eq_false, not_true_eq_false, not_false_eq_true, reduceCtorEq] at hd226)
    (exfalso; omega)
    (try simp only [decide_eq_true_eq, decide_eq_false_iff_not, Bool.not_eq_true', Bool.not_eq_false', Bool.not_eq_true, Bool.not_eq_false, not_true_eq_false, not_false_eq_true, reduceCtorEq] at hd226)
    refine WpA.tF 18 rfl (V.mv) ?_
    refine WpA.tF 20 rfl (V.ld1 tb) ?_
    refine WpA.oS 19 rfl (Op1.callT rfl (hY) (by (repeat (first | exact Sel.nil | exact Rem.here | apply Sel.cons | apply Rem.there))) ?_)
    rintro v27 s28 ⟨rfl, rfl⟩
    refine incat ⟨?_, ?_, ?_⟩
    exact holdT
    exact holdT
    refine WpA.oS 21 rfl (Op1.callT rfl (hY2 _ _ _) (by (repeat (first | exact Sel.nil | exact Rem.here | apply Sel.cons | apply Rem.there))) ?_)
    rintro v29 s30 ⟨rfl, rfl⟩
    refine incat ⟨?_, ?_, ?_⟩
    exact holdT
    exact holdT
    refine WpA.tF 22 rfl (V.cmpS) ?_
    refine WpA.tF 23 rfl (V.pF) ?_
    refine WpA.tF 24 rfl (V.mv) ?_
    refine WpA.pt 58 (fun hd231 => ?_) (fun hd231 => ?_)
    (try simp only [decide_eq_true_eq, decide_eq_false_iff_not, Bool.not_eq_true', Bool.not_eq_false', Bool.not_eq_true, Bool.not_eq_false, not_true_eq_false, not_false_eq_true, reduceCtorEq] at hd231)
    (try simp only [decide_eq_true_eq, decide_eq_false_iff_not, Bool.not_eq_true', Bool.not_eq_false', Bool.not_eq_true, Bool.not_eq_false, not_true_eq_false, not_false_eq_true, reduceCtorEq] at hd231)
    refine WpA.tF 25 rfl (V.ldA tb) ?_
    refine WpA.tF 26 rfl (V.ldA tb) ?_
    refine WpA.oS 27 rfl (Op1.callT rfl (same_self ⟨y.err, y.val, y.ver, .slice ao33 len33 cap33⟩ y.keys) (by (repeat (first | exact Sel.nil | exact Rem.here | apply Sel.cons | apply Rem.there))) ?_)
    rintro v32 s33 ⟨rfl, rfl⟩
    refine incat ⟨?_, ?_, ?_⟩
    exact holdT
    exact holdT
    refine WpA.tF 28 rfl (V.not) ?_
    refine WpA.tF 29 rfl (V.pF) ?_
    refine WpA.ou ?_
    apply Out.seqN
    refine Wp.cF ?_
    apply Wp.skip
    apply Out.blockN
    apply Out.seqN
    apply Wp.region
    refine WpL.v (V.add) ?_
    refine WpL.v (V.mv) ?_
    apply WpL.nil
    rotate_left
    all_goals exact Out.ag hK ⟨k + 1, y.l, _, _, _⟩ ⟨by show k + 1 ≤ _; omega, hi2, hz2⟩ (by show xs.length - (k + 1) < xs.length - k; omega)
  · obtain rfl : k = xs.length := by omega
    clear hK
    have hP := reg_pairs (Ptr b22 0) rfl prefix_
    have hil := hi.len
    have hcl := canon_len l
    have hpc := pairsL_canon hi prefix_
    have hIt (a c : Nat) := pairs_iter a c b22 m22 prefix_ l (by omega)
    refine Wp.fact (rowsRd (f := strc) (v := ks) (l := (canon l).map (·.Key)) (E := 9) (sz := 1) (fun _ => rfl) (by repeat first | exact List.Mem.head _ | apply List.Mem.tail)) fun hvv => ?_
    obtain ⟨ao1, cap1, bk1, off1, rfl, hR1⟩ := hvv
    refine Wp.fact (rowsRd (f := strc) (v := vs) (l := (canon l).map (·.Value)) (E := 9) (sz := 1) (fun _ => rfl) (by repeat first | exact List.Mem.head _ | apply List.Mem.tail)) fun hvv => ?_
    obtain ⟨ao2, cap2, bk2, off2, rfl, hR2⟩ := hvv
    refine Wp.fact (rowsRd (f := i64c) (v := ns) (l := (canon l).map (·.Version)) (E := 3) (sz := 1) (fun _ => rfl) (by repeat first | exact List.Mem.head _ | apply List.Mem.tail)) fun hvv => ?_
    obtain ⟨ao3, cap3, bk3, off3, rfl, hR3⟩ := hvv
    have hl1 : ((canon l).map (·.Key)).length = (canon l).length := List.length_map ..
    have hl2 : ((canon l).map (·.Value)).length = (canon l).length := List.length_map ..
    have hl3 : ((canon l).map (·.Version)).length = (canon l).length := List.length_map ..
    generalize canon l = R at *
    apply Wp.seq
    apply Wp.region
    refine WpL.v (V.cmp) ?_
    apply WpL.nil
    apply Out.seqN
    apply Wp.seq
    refine Wp.c (fun hd30 => ?_) (fun hd30 => ?_)
    (try simp only [decide_eq_true_eq, decide_eq_false_iff_not, Bool.not_eq_true', Bool.not_eq_false', Bool.not_eq_true, Bool.not_eq_false, not_true_eq_false, not_false_eq_true, reduceCtorEq] at hd30)
    (exfalso; omega)
    (try simp only [decide_eq_true_eq, decide_eq_false_iff_not, Bool.not_eq_true', Bool.not_eq_false', Bool.not_eq_true, Bool.not_eq_false, not_true_eq_false, not_false_eq_true, reduceCtorEq] at hd30)
    apply Wp.exit
    apply Out.seqE
    apply Out.seqE
    apply Out.blockE
    apply Out.seqN
    apply Wp.seq
    apply Wp.region
    refine WpL.o (O.al tb (fun p10 => ?_))
    refine WpL.o (O.st1 tb ?_)
    apply WpL.nil
    apply Out.seqN
    apply Wp.seq
    apply Wp.seq
    apply Wp.region
    refine WpL.v (V.mv) ?_
    refine WpL.v (V.ld1 tb) ?_
    refine WpL.o (Op1.callT rfl (hP) (by (repeat (first | exact Sel.nil | exact Rem.here | apply Sel.cons | apply Rem.there))) ?_)
    rintro v1 s2 ⟨a67, ⟨c67, ⟨rfl, rfl⟩⟩⟩
    refine incat ?_
    apply WpL.nil
    apply Out.seqN
    apply Wp.block
    have hA5 (k : List UInt8) : Fun Try.prog 24 [A (TDeed.c ⟨5, prefix_, [], 0, 0, 0⟩), S k] (B (pfx prefix_ k)) := by
      have := ref_about ⟨5, prefix_, [], 0, 0, 0⟩ k
      simpa only [about, if_true] using this
    refine Wp.rg (hIt a67 c67) (fun i : Nat => [cells p10 3 [I (i : Int)], cells p6 41 [Ptr p24 0], cells p3 9 [S prefix_], cells p24 44 (Caucusref20Registry.c ⟨.slice ao1 (R.map (·.Key)).length cap1, .slice ao2 (R.map (·.Value)).length cap2, .slice ao3 (R.map (·.Version)).length cap3⟩), rows strc (.slice ao1 (R.map (·.Key)).length cap1) 9 1 (R.map (·.Key)), rows strc (.slice ao2 (R.map (·.Value)).length cap2) 9 1 (R.map (·.Value)), rows i64c (.slice ao3 (R.map (·.Version)).length cap3) 3 1 (R.map (·.Version)), cells p4 4 [B false]])
      (fun pre i => i ≤ R.length ∧ (R.take i).filter (fun q => pfx prefix_ q.Key) = pre) (fun _ _ _ => False) 0 ⟨Nat.zero_le _, rfl⟩ ?_ ?_ ?_
    · rintro pre x post i lp rec hx ⟨hi2, hpre⟩ hr W' D' K hK
      rw [hpc] at hx
      dsimp only [List.cons_append, List.nil_append]
      apply Wp.region
      refine WpL.o (O.al tb (fun p11 => ?_))
      refine WpL.o (O.stA tb ?_)
      apply WpL.nil
      refine Out.bg (by assumption) ?_
      apply Wp.block
      apply Wp.seq
      apply Wp.block
      refine Wp.lp [11, 10, 6, 3, 4] (fun k : Nat => k ≤ R.length ∧ (R.take k).filter (fun q => pfx prefix_ q.Key) = pre) (fun k => []) (fun k => [cells p10 3 [I (k : Int)]]) (fun k => R.length - k) i ⟨hi2, hpre⟩ ?_
      rintro k ⟨hk, hkp⟩ K2 hK2
      dsimp only [List.cons_append, List.nil_append]
      by_cases hlt : k < R.length
      · obtain ⟨q, hq⟩ := getS hlt
        have hq1 : (R.map (·.Key))[k]? = some q.Key := by rw [List.getElem?_map, hq]; rfl
        have hq2 : (R.map (·.Value))[k]? = some q.Value := by rw [List.getElem?_map, hq]; rfl
        have hq3 : (R.map (·.Version))[k]? = some q.Version := by rw [List.getElem?_map, hq]; rfl
        have hfs := filter_snoc hq (fun q => pfx prefix_ q.Key)
        have hA := hA5 q.Key
        have hml := hR1.len
        cases hp : pfx prefix_ q.Key with
        | false =>
          rw [hp] at hA
          simp only [hp, Bool.false_eq_true, if_false, List.append_nil] at hfs
          apply Wp.seq
          apply Wp.seq
          refine Wp.dG [] ?_ (List.Sublist.cons_cons _ (List.Sublist.cons _ (List.Sublist.cons_cons _ (List.Sublist.cons_cons _ (List.Sublist.cons_cons _ (List.Sublist.cons _ (List.Sublist.cons_cons _ (List.Sublist.cons_cons _ (List.Sublist.cons_cons _ (List.Sublist.cons _ List.Sublist.slnil)))))))))) (List.Sublist.cons_cons _ (List.Sublist.cons _ (List.Sublist.cons_cons _ (List.Sublist.cons_cons _ (List.Sublist.cons_cons _ (List.Sublist.cons _ (List.Sublist.cons_cons _ (List.Sublist.cons_cons _ (List.Sublist.cons_cons _ (List.Sublist.cons _ List.Sublist.slnil))))))))))
          refine WpA.tF 0 rfl (V.ld1 tb) ?_
          refine WpA.tF 1 rfl (V.ld1 tb) ?_
          refine WpA.tF 2 rfl (V.nc) ?_
          refine WpA.tF 3 rfl (V.fa tb) ?_
          refine WpA.oS 4 rfl (Op1.vv (V.ld1 tb) ⟨?_, ?_, ?_⟩)
          exact holdT
          exact holdT
          refine WpA.tF 5 rfl (V.lenL tb) ?_
          refine WpA.tF 6 rfl (V.cmp) ?_
          refine WpA.tF 7 rfl (V.mv) ?_
          refine WpA.pt 76 (fun hd50 => ?_) (fun hd50 => ?_)
          (try simp only [decide_eq_true_eq, decide_eq_false_iff_not, Bool.not_eq_true', Bool.not_eq_false', Bool.not_eq_true, Bool.not_eq_false, not_true_eq_false, not_false_eq_true, reduceCtorEq] at hd50)
          refine WpA.tF 8 rfl (V.ld1 tb) ?_
          refine WpA.tF 9 rfl (V.bld tb (c' := TDeed.c ⟨5, prefix_, [], 0, 0, 0⟩)) ?_
          refine WpA.tF 10 rfl (V.ld1 tb) ?_
          refine WpA.tF 11 rfl (V.nc) ?_
          refine WpA.tF 12 rfl (V.fa tb) ?_
          refine WpA.tF 14 rfl (V.ld1 tb) ?_
          refine WpA.oS 13 rfl (Op1.vv (V.ld1 tb) ⟨?_, ?_, ?_⟩)
          exact holdT
          exact holdT
          refine WpA.tF 15 rfl (V.ixR tb rfl rfl (by assumption)) ?_
          refine WpA.tF 16 rfl (V.ldR1 tb rfl hR1 (getMapS hq1)) ?_
          refine WpA.oS 17 rfl (Op1.fn rfl (hA) ⟨?_, ?_, ?_⟩)
          exact holdT
          exact holdT
          refine WpA.tF 18 rfl (V.not) ?_
          refine WpA.tF 19 rfl (V.pT) ?_
          refine WpA.ou ?_
          apply Out.seqN
          refine Wp.cT ?_
          apply Wp.skip
          apply Out.seqN
          apply Wp.block
          apply Wp.region
          refine WpL.v (V.ld1 tb) ?_
          refine WpL.v (V.add) ?_
          refine WpL.o (O.st1 tb ?_)
          apply WpL.nil
          apply Out.blockN
          rotate_left
          (try simp only [decide_eq_true_eq, decide_eq_false_iff_not, Bool.not_eq_true', Bool.not_eq_false', Bool.not_eq_true, Bool.not_eq_false, not_true_eq_false, not_false_eq_true, reduceCtorEq] at hd50)
          (exfalso; omega)
          all_goals exact Out.ag hK2 (k + 1) ⟨by omega, by rw [hfs]; exact hkp⟩ (by omega)
        | true =>
          obtain rfl : q = x := filt_next hq hp hx hkp
          rw [hp] at hA
          simp only [hp, if_true] at hfs
          clear hK2
          have hne : (!(q == q)) = false := by simp
          apply Wp.seq
          apply Wp.seq
          refine Wp.dG [] ?_ (List.Sublist.cons_cons _ (List.Sublist.cons _ (List.Sublist.cons_cons _ (List.Sublist.cons_cons _ (List.Sublist.cons_cons _ (List.Sublist.cons _ (List.Sublist.cons_cons _ (List.Sublist.cons_cons _ (List.Sublist.cons_cons _ (List.Sublist.cons _ List.Sublist.slnil)))))))))) (List.Sublist.cons_cons _ (List.Sublist.cons _ (List.Sublist.cons_cons _ (List.Sublist.cons_cons _ (List.Sublist.cons_cons _ (List.Sublist.cons _ (List.Sublist.cons_cons _ (List.Sublist.cons_cons _ (List.Sublist.cons_cons _ (List.Sublist.cons _ List.Sublist.slnil))))))))))
          refine WpA.tF 0 rfl (V.ld1 tb) ?_
          refine WpA.tF 1 rfl (V.ld1 tb) ?_
          refine WpA.tF 2 rfl (V.nc) ?_
          refine WpA.tF 3 rfl (V.fa tb) ?_
          refine WpA.oS 4 rfl (Op1.vv (V.ld1 tb) ⟨?_, ?_, ?_⟩)
          exact holdT
          exact holdT
          refine WpA.tF 5 rfl (V.lenL tb) ?_
          refine WpA.tF 6 rfl (V.cmp) ?_
          refine WpA.tF 7 rfl (V.mv) ?_
          refine WpA.pt 76 (fun hd60 => ?_) (fun hd60 => ?_)
          (try simp only [decide_eq_true_eq, decide_eq_false_iff_not, Bool.not_eq_true', Bool.not_eq_false', Bool.not_eq_true, Bool.not_eq_false, not_true_eq_false, not_false_eq_true, reduceCtorEq] at hd60)
          refine WpA.tF 8 rfl (V.ld1 tb) ?_
          refine WpA.tF 9 rfl (V.bld tb (c' := TDeed.c ⟨5, prefix_, [], 0, 0, 0⟩)) ?_
          refine WpA.tF 10 rfl (V.ld1 tb) ?_
          refine WpA.tF 11 rfl (V.nc) ?_
          refine WpA.tF 12 rfl (V.fa tb) ?_
          refine WpA.tF 14 rfl (V.ld1 tb) ?_
          refine WpA.oS 13 rfl (Op1.vv (V.ld1 tb) ⟨?_, ?_, ?_⟩)
          exact holdT
          exact holdT
          refine WpA.tF 15 rfl (V.ixR tb rfl rfl (by assumption)) ?_
          refine WpA.tF 16 rfl (V.ldR1 tb rfl hR1 (getMapS hq1)) ?_
          refine WpA.oS 17 rfl (Op1.fn rfl (hA) ⟨?_, ?_, ?_⟩)
          exact holdT
          exact holdT
          refine WpA.tF 18 rfl (V.not) ?_
          refine WpA.tF 19 rfl (V.pT) ?_
          refine WpA.ou ?_
          apply Out.seqN
          refine Wp.cF ?_
          apply Wp.exit
          apply Out.seqE
          apply Out.seqE
          apply Out.blockE
          apply Out.seqN
          apply Wp.seq
          apply Wp.seq
          refine Wp.dG [] ?_ (List.Sublist.cons_cons _ (List.Sublist.cons_cons _ (List.Sublist.cons _ (List.Sublist.cons_cons _ (List.Sublist.cons_cons _ (List.Sublist.cons_cons _ (List.Sublist.cons_cons _ (List.Sublist.cons_cons _ (List.Sublist.cons_cons _ (List.Sublist.cons _ List.Sublist.slnil)))))))))) (List.Sublist.cons_cons _ (List.Sublist.cons_cons _ (List.Sublist.cons _ (List.Sublist.cons_cons _ (List.Sublist.cons_cons _ (List.Sublist.cons_cons _ (List.Sublist.cons_cons _ (List.Sublist.cons_cons _ (List.Sublist.cons_cons _ (List.Sublist.cons _ List.Sublist.slnil))))))))))
          refine WpA.tF 0 rfl (V.ld1 tb) ?_
          refine WpA.tF 1 rfl (V.ld1 tb) ?_
          refine WpA.tF 2 rfl (V.nc) ?_
          refine WpA.tF 3 rfl (V.fa tb) ?_
          refine WpA.tF 4 rfl (V.ld1 tb) ?_
          refine WpA.tF 5 rfl (V.lenL tb) ?_
          refine WpA.tF 6 rfl (V.cmp) ?_
          refine WpA.tF 7 rfl (V.mv) ?_
          refine WpA.pt 98 (fun hd61 => ?_) (fun hd61 => ?_)
          (try simp only [decide_eq_true_eq, decide_eq_false_iff_not, Bool.not_eq_true', Bool.not_eq_false', Bool.not_eq_true, Bool.not_eq_false, not_true_eq_false, not_false_eq_true, reduceCtorEq] at hd61)
          (exfalso; omega)
          (try simp only [decide_eq_true_eq, decide_eq_false_iff_not, Bool.not_eq_true', Bool.not_eq_false', Bool.not_eq_true, Bool.not_eq_false, not_true_eq_false, not_false_eq_true, reduceCtorEq] at hd61)
          refine WpA.tF 8 rfl (V.ldA tb) ?_
          refine WpA.tF 9 rfl (V.ld1 tb) ?_
          refine WpA.tF 10 rfl (V.nc) ?_
          refine WpA.tF 11 rfl (V.fa tb) ?_
          refine WpA.tF 12 rfl (V.ld1 tb) ?_
          refine WpA.tF 13 rfl (V.ld1 tb) ?_
          refine WpA.tF 14 rfl (V.ixR tb rfl rfl (by assumption)) ?_
          refine WpA.tF 15 rfl (V.ldR1 tb rfl hR1 (getMapS hq1)) ?_
          refine WpA.tF 16 rfl (V.ld1 tb) ?_
          refine WpA.tF 17 rfl (V.nc) ?_
          refine WpA.tF 18 rfl (V.fa tb) ?_
          refine WpA.tF 19 rfl (V.ld1 tb) ?_
          refine WpA.tF 20 rfl (V.ld1 tb) ?_
          refine WpA.tF 21 rfl (V.ixR tb rfl rfl (by assumption)) ?_
          refine WpA.tF 22 rfl (V.ldR1 tb rfl hR2 (getMapS hq2)) ?_
          refine WpA.tF 23 rfl (V.ld1 tb) ?_
          refine WpA.tF 24 rfl (V.nc) ?_
          refine WpA.tF 25 rfl (V.fa tb) ?_
          refine WpA.tF 26 rfl (V.ld1 tb) ?_
          refine WpA.tF 27 rfl (V.ld1 tb) ?_
          refine WpA.tF 28 rfl (V.ixR tb rfl rfl (by assumption)) ?_
          refine WpA.tF 29 rfl (V.ldR1 tb rfl hR3 (getMapS hq3)) ?_
          refine WpA.tF 30 rfl (V.bld tb (c' := RegistryPair.c q)) ?_
          refine WpA.tF 31 rfl (V.ne (RegistryPair.eqT _ _ _)) ?_
          refine WpA.tF 32 rfl (V.pF) ?_
          refine WpA.ou ?_
          apply Out.seqN
          refine Wp.c (fun hd62 => ?_) (fun hd62 => ?_)
          (try simp only [decide_eq_true_eq, decide_eq_false_iff_not, Bool.not_eq_true', Bool.not_eq_false', Bool.not_eq_true, Bool.not_eq_false, not_true_eq_false, not_false_eq_true, reduceCtorEq] at hd62)
          (try simp only [decide_eq_true_eq, decide_eq_false_iff_not, Bool.not_eq_true', Bool.not_eq_false', Bool.not_eq_true, Bool.not_eq_false, not_true_eq_false, not_false_eq_true, reduceCtorEq] at hd62)
          apply Wp.skip
          apply Out.seqN
          apply Wp.region
          refine WpL.v (V.ld1 tb) ?_
          refine WpL.v (V.add) ?_
          refine WpL.o (O.st1 tb ?_)
          apply WpL.nil
          apply Out.blockN
          rotate_left
          (try simp only [decide_eq_true_eq, decide_eq_false_iff_not, Bool.not_eq_true', Bool.not_eq_false', Bool.not_eq_true, Bool.not_eq_false, not_true_eq_false, not_false_eq_true, reduceCtorEq] at hd60)
          (exfalso; omega)
          all_goals exact Out.rd hK (k + 1) ⟨by omega, by rw [hfs, hkp]⟩
      · exfalso
        obtain rfl : k = R.length := by omega
        rw [List.take_length, hx] at hkp
        have := congrArg List.length hkp
        simp at this
    · rintro i b1 ⟨hi2, hall⟩
      rw [hpc] at hall
      dsimp only [List.cons_append, List.nil_append]
      apply Out.blockN
      apply Out.seqN
      apply Wp.seq
      apply Wp.block
      refine Wp.lp [10, 6, 4, 3] (fun k : Nat => k ≤ R.length ∧ (R.take k).filter (fun q => pfx prefix_ q.Key) = R.filter (fun q => pfx prefix_ q.Key)) (fun k => []) (fun k => [cells p10 3 [I (k : Int)]]) (fun k => R.length - k) i ⟨hi2, hall⟩ ?_
      rintro k ⟨hk, hkp⟩ K2 hK2
      dsimp only [List.cons_append, List.nil_append]
      by_cases hlt : k < R.length
      · obtain ⟨q, hq⟩ := getS hlt
        have hq1 : (R.map (·.Key))[k]? = some q.Key := by rw [List.getElem?_map, hq]; rfl
        have hfs := filter_snoc hq (fun q => pfx prefix_ q.Key)
        have hA := hA5 q.Key
        have hml := hR1.len
        cases hp : pfx prefix_ q.Key with
        | true => exact absurd (filt_over hq hp hkp) id
        | false =>
          rw [hp] at hA
          simp only [hp, Bool.false_eq_true, if_false, List.append_nil] at hfs
          apply Wp.seq
          apply Wp.seq
          refine Wp.dG [] ?_ (List.Sublist.cons_cons _ (List.Sublist.cons_cons _ (List.Sublist.cons_cons _ (List.Sublist.cons _ (List.Sublist.cons _ (List.Sublist.cons_cons _ (List.Sublist.cons_cons _ (List.Sublist.cons_cons _ (List.Sublist.cons _ (List.Sublist.cons _ (List.Sublist.cons _ (List.Sublist.cons _ (List.Sublist.cons_cons _ (List.Sublist.cons_cons _ List.Sublist.slnil)))))))))))))) (List.Sublist.cons_cons _ (List.Sublist.cons_cons _ (List.Sublist.cons_cons _ (List.Sublist.cons _ (List.Sublist.cons _ (List.Sublist.cons_cons _ (List.Sublist.cons_cons _ (List.Sublist.cons_cons _ (List.Sublist.cons _ (List.Sublist.cons _ (List.Sublist.cons _ (List.Sublist.cons _ (List.Sublist.cons_cons _ (List.Sublist.cons_cons _ List.Sublist.slnil))))))))))))))
          refine WpA.tF 0 rfl (V.ld1 tb) ?_
          refine WpA.tF 1 rfl (V.ld1 tb) ?_
          refine WpA.tF 2 rfl (V.nc) ?_
          refine WpA.tF 3 rfl (V.fa tb) ?_
          refine WpA.oS 4 rfl (Op1.vv (V.ld1 tb) ⟨?_, ?_, ?_⟩)
          exact holdT
          exact holdT
          refine WpA.tF 5 rfl (V.lenL tb) ?_
          refine WpA.tF 6 rfl (V.cmp) ?_
          refine WpA.ou ?_
          apply Out.seqN
          refine Wp.c (fun hd80 => ?_) (fun hd80 => ?_)
          (try simp only [decide_eq_true_eq, decide_eq_false_iff_not, Bool.not_eq_true', Bool.not_eq_false', Bool.not_eq_true, Bool.not_eq_false, not_true_eq_false, not_false_eq_true, reduceCtorEq] at hd80)
          apply Wp.skip
          apply Out.seqN
          apply Wp.seq
          apply Wp.block
          apply Wp.seq
          refine Wp.dG [] ?_ (List.Sublist.cons_cons _ (List.Sublist.cons_cons _ (List.Sublist.cons_cons _ (List.Sublist.cons_cons _ (List.Sublist.cons _ (List.Sublist.cons_cons _ (List.Sublist.cons_cons _ (List.Sublist.cons_cons _ (List.Sublist.cons _ (List.Sublist.cons _ (List.Sublist.cons _ (List.Sublist.cons _ (List.Sublist.cons_cons _ (List.Sublist.cons_cons _ List.Sublist.slnil)))))))))))))) (List.Sublist.cons_cons _ (List.Sublist.cons_cons _ (List.Sublist.cons_cons _ (List.Sublist.cons_cons _ (List.Sublist.cons _ (List.Sublist.cons_cons _ (List.Sublist.cons_cons _ (List.Sublist.cons_cons _ (List.Sublist.cons _ (List.Sublist.cons _ (List.Sublist.cons _ (List.Sublist.cons _ (List.Sublist.cons_cons _ (List.Sublist.cons_cons _ List.Sublist.slnil))))))))))))))
          refine WpA.tF 0 rfl (V.ld1 tb) ?_
          refine WpA.tF 1 rfl (V.bld tb (c' := TDeed.c ⟨5, prefix_, [], 0, 0, 0⟩)) ?_
          refine WpA.tF 2 rfl (V.ld1 tb) ?_
          refine WpA.tF 3 rfl (V.nc) ?_
          refine WpA.tF 4 rfl (V.fa tb) ?_
          refine WpA.tF 6 rfl (V.ld1 tb) ?_
          refine WpA.oS 5 rfl (Op1.vv (V.ld1 tb) ⟨?_, ?_, ?_⟩)
          exact holdT
          exact holdT
          refine WpA.tF 7 rfl (V.ixR tb rfl rfl (by assumption)) ?_
          refine WpA.tF 8 rfl (V.ldR1 tb rfl hR1 (getMapS hq1)) ?_
          refine WpA.oS 9 rfl (Op1.fn rfl (hA) ⟨?_, ?_, ?_⟩)
          exact holdT
          exact holdT
          refine WpA.ou ?_
          apply Out.seqN
          refine Wp.cF ?_
          apply Wp.skip
          apply Out.blockN
          apply Out.seqN
          apply Wp.region
          refine WpL.v (V.ld1 tb) ?_
          refine WpL.v (V.add) ?_
          refine WpL.o (O.st1 tb ?_)
          apply WpL.nil
          rotate_left
          (try simp only [decide_eq_true_eq, decide_eq_false_iff_not, Bool.not_eq_true', Bool.not_eq_false', Bool.not_eq_true, Bool.not_eq_false, not_true_eq_false, not_false_eq_true, reduceCtorEq] at hd80)
          (exfalso; omega)
          all_goals exact Out.ag hK2 (k + 1) ⟨by omega, by rw [hfs]; exact hkp⟩ (by omega)
      · obtain rfl : k = R.length := by omega
        clear hK2
        have hP0 := reg_pairs (.pointer none) rfl []
        apply Wp.seq
        apply Wp.seq
        refine Wp.dG [] ?_ (List.Sublist.cons_cons _ (List.Sublist.cons_cons _ (List.Sublist.cons_cons _ (List.Sublist.cons _ (List.Sublist.cons _ (List.Sublist.cons_cons _ (List.Sublist.cons_cons _ (List.Sublist.cons_cons _ (List.Sublist.cons _ (List.Sublist.cons _ (List.Sublist.cons _ (List.Sublist.cons _ (List.Sublist.cons_cons _ (List.Sublist.cons_cons _ List.Sublist.slnil)))))))))))))) (List.Sublist.cons_cons _ (List.Sublist.cons_cons _ (List.Sublist.cons_cons _ (List.Sublist.cons _ (List.Sublist.cons _ (List.Sublist.cons_cons _ (List.Sublist.cons_cons _ (List.Sublist.cons_cons _ (List.Sublist.cons _ (List.Sublist.cons _ (List.Sublist.cons _ (List.Sublist.cons _ (List.Sublist.cons_cons _ (List.Sublist.cons_cons _ List.Sublist.slnil))))))))))))))
        refine WpA.tF 0 rfl (V.ld1 tb) ?_
        refine WpA.tF 1 rfl (V.ld1 tb) ?_
        refine WpA.tF 2 rfl (V.nc) ?_
        refine WpA.tF 3 rfl (V.fa tb) ?_
        refine WpA.oS 4 rfl (Op1.vv (V.ld1 tb) ⟨?_, ?_, ?_⟩)
        exact holdT
        exact holdT
        refine WpA.tF 5 rfl (V.lenL tb) ?_
        refine WpA.tF 6 rfl (V.cmp) ?_
        refine WpA.ou ?_
        apply Out.seqN
        refine Wp.c (fun hd90 => ?_) (fun hd90 => ?_)
        (try simp only [decide_eq_true_eq, decide_eq_false_iff_not, Bool.not_eq_true', Bool.not_eq_false', Bool.not_eq_true, Bool.not_eq_false, not_true_eq_false, not_false_eq_true, reduceCtorEq] at hd90)
        (exfalso; omega)
        (try simp only [decide_eq_true_eq, decide_eq_false_iff_not, Bool.not_eq_true', Bool.not_eq_false', Bool.not_eq_true, Bool.not_eq_false, not_true_eq_false, not_false_eq_true, reduceCtorEq] at hd90)
        apply Wp.exit
        apply Out.seqE
        apply Out.seqE
        apply Out.blockE
        apply Out.seqN
        apply Wp.seq
        apply Wp.region
        refine WpL.v (V.as) ?_
        apply WpL.nil
        apply Out.seqN
        apply Wp.seq
        apply Wp.seq
        apply Wp.region
        refine WpL.v (V.mv) ?_
        refine WpL.o (Op1.callT rfl (hP0) (by (repeat (first | exact Sel.nil | exact Rem.here | apply Sel.cons | apply Rem.there))) ?_)
        rintro v1 s2 ⟨a146, ⟨c146, ⟨rfl, rfl⟩⟩⟩
        refine incat ?_
        apply WpL.nil
        apply Out.seqN
        apply Wp.block
        refine Wp.rg (pairs_iter_nil _ _ []) (fun y : Unit => []) (fun pre y => True) (fun _ _ _ => False) () trivial ?_ ?_ ?_
        · rintro pre x post y lp rec hx hxs hr W' D' K hK
          simp at hx
        · rintro y b2 hxs
          dsimp only [List.cons_append, List.nil_append]
          have hD0 := reg_do_nil ⟨0, [], [], 0, 0, 0⟩
          apply Out.blockN
          apply Out.seqN
          apply Wp.seq
          apply Wp.region
          refine WpL.v (V.mv) ?_
          refine WpL.v (V.bld tb (c' := TDeed.c ⟨0, [], [], 0, 0, 0⟩)) ?_
          refine WpL.o (Op1.fn rfl (hD0) ?_)
          refine WpL.v (V.fld1 tb (off := 0) (T := 29) rfl rfl (Reads.one (tb.oneAt (T := 29) rfl) rfl)) ?_
          refine WpL.v (V.cmp) ?_
          refine WpL.v (V.mv) ?_
          refine WpL.v (V.mv) ?_
          refine WpL.o (Op1.fn rfl (reg_len_nil) ?_)
          refine WpL.v (V.cmp) ?_
          refine WpL.v (V.pT) ?_
          refine WpL.v (V.mv) ?_
          refine WpL.v (V.mv) ?_
          refine WpL.o (Op1.callT rfl (reg_bytes_nil) (by (repeat (first | exact Sel.nil | exact Rem.here | apply Sel.cons | apply Rem.there))) ?_)
          rintro v0 s1 ⟨rfl, rfl⟩
          refine incat ?_
          refine WpL.v (V.cmpS) ?_
          refine WpL.v (V.pT) ?_
          refine WpL.o (O.st1 tb ?_)
          apply WpL.nil
          apply Out.seqN
          apply Wp.ret
          refine Out.f1 rfl (ResIs.c1 tb) ⟨?_, rfl⟩
          exact rfl
        · intro _ _ _ _ _ _ _ h
          exact h.elim
    · intro _ _ _ _ _ _ _ h
      exact h.elim
open Go Go.ChangeShapes Go.WideShapes Go.ChangeAt Go.RowKit
theorem registryDoes_read : (Try.f5.params.toList.all fun t => Try.prog.readableRec t && decide (t < Try.prog.types.size)) = true := by kernel_rfl
theorem registryDoes_lifted (os : Go.Os) (started : os.Started) (H : Type) (enc : Go.TypeId × Go.Value → H) :
    ReturnsInHanded {} Try.checked os 5 .any (Rows.registryDoesSpec.pre6 enc Try.prog Try.f5 Rows.registryDoesRow.domain false) (Rows.registryDoesSpec.post enc Try.prog Try.f5 false true false false) := by
  refine returnsInHanded_of_change_sized (C := Try.checked) own started (by kernel_rfl) Try.func5
    (ChangeSpec.witness6 (enc := enc) (C := Try.checked) false ⟨#[], #[.slice none 0 0, S []], []⟩ 8 (by kernel_rfl) (by kernel_rfl) (by kernel_rfl) (by kernel_rfl)) ?_
  intro W base args ds gs before hval0 hW hcnd hsz0 _
  have hsz : (DataW.weightsEach Try.prog (Try.f5.params.toList ++ Rows.registryDoesSpec.plain.varTypes Try.prog) (ds ++ gs)).all (· ≤ reachBytes) = true := hsz0
  have hval : ∀ (j : Nat) t v, Try.f5.params[j]? = some t → args[j]? = some v → Value.okWide Try.prog W .any base t v := hval0
  have hW' := hW
  obtain ⟨p, q, hA0, hV, rfl, hfz, hnd⟩ := hW
  have hA1 : DataW.TrodAll enc Try.prog W 0 (fun _ => true) true Try.f5.params.toList args.toList ds p := hA0
  have hA := hA1
  rw [Try.params5] at hA hval hsz
  obtain ⟨v0, vs0, d0, ds0, p0, q0, hargs, rfl, rfl, h0, r0⟩ := trodAll_cons hA
  obtain ⟨v1, vs1, d1, ds1, p1, q1, rfl, rfl, rfl, h1, r1⟩ := trodAll_cons r0
  obtain ⟨rfl, rfl, rfl⟩ := trodAll_nil r1
  obtain rfl : args = #[v0, v1] := by cases args; simp_all
  obtain ⟨rfl, rfl⟩ := trodVars_none hV
  obtain ⟨ao0, b0, off0, len0, cap0, xs0, rfl, hl0, hlc0, hcm0, ha0, hs0, hf0, hby0⟩ := open_slice_plain Try.underlying22 TDeed.leaves (by kernel_rfl) (by decide) (hval 0 22 v0 rfl rfl) h0 (sizedAll hsz 0 rfl rfl)
  obtain ⟨x0, rfl, w0⟩ := fits_map TDeed.c TDeed.wf hf0 TDeed.fit
  obtain rfl : len0 = x0.length := by simpa using hl0.symm
  obtain ⟨x1, rfl, w1⟩ := open_str (P := Try.prog) Try.underlying9 h1 (string_cells (hval 1 9 v1 rfl rfl) Try.underlying9) (sizedAll hsz 1 rfl rfl)
  simp only [List.append_nil] at hW' hA1
  have hbl : ∀ p : Nat × Nat, p ∈ [(x0.length, b0)] → 0 < p.1 → p.2 < W.heap.size := by
    intro p hp h0
    simp only [List.mem_cons, List.mem_nil_iff, or_false] at hp
    rcases hp with rfl
    · exact (ha0 h0).2
  have hR0 : Rd (snap W (blocksOf [(x0.length, b0)])) ao0 x0.length b0 off0 6 (x0.map TDeed.c) := Rd.snap (by simp) (Nat.le_trans hlc0 hcm0) ha0 hs0 (fun h => blocksOf_mem (len := x0.length) (by simp) h)
  refine (Ct.runSnap (blocksOf_nodup _) (blocksOf_lt hbl) (registryDoes_walk _ _ _ _ _ x0 x1 (fun x hx => ⟨(w0 x hx).2.1, (w0 x hx).2.2.1⟩) w1 hR0)).mono fun e W' hh => ?_
  obtain ⟨rfl, hS⟩ := hh
  exact ⟨_, rfl, post_law (P := Try.prog) (f := Try.f5) (tbool := 4) hW' hA1 rfl rfl hS laid registryDoes_read rfl Try.underlying4⟩
theorem registryDoes_joined : joinedFacts Try.prog 5 Try.f5 Rows.registryDoesSpec Rows.registryDoesRow = true := by
  unfold joinedFacts
  rewrite [head_enter, head_lift, head_make]
  kernel_rfl
theorem registryDoes_over : Rows.registryDoesRow.holds Try.pinned (OpenSpec.ofChange Rows.registryDoesSpec) :=
  OpenClaim.holds_of_wide 5 Try.f5 rfl rfl rfl rfl rfl rfl rfl ⟨rfl, rfl, rfl, rfl, rfl⟩ rfl rfl rfl rfl rfl (by kernel_rfl) Try.func5 registryDoes_joined
    (of_decide_eq_true (by kernel_rfl)) (by unfold Func.isWrapper; first | (rw [if_pos (by decide +kernel)]; kernel_rfl) | (rw [if_neg (by decide +kernel)]; exact ⟨rfl, rfl⟩))
    (fun os started H enc _ => registryDoes_lifted os started H enc)
/-- THE STATEMENT. -/
theorem registryDoes_proved : Rows.RegistryDoesSaid := registryDoes_over
#print axioms registryDoes_proved

end Go.Proofs.Ytgihkocnmgkihaa
