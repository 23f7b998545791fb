/-
  The statement ItemStops of layer 3: All may be left at any time; what was seen up to then is the beginning. Proved for every input.
-/
import Derived.Test.YtgbflapcadlelaaItem5
namespace Go.Proofs.Ytgbflapcadlelaa
open Go.HL
set_option linter.unusedSimpArgs false
set_option linter.unusedVariables false
set_option maxRecDepth 8000
theorem itemStops_walk (e : Ent) (ao : Option Go.Addr) (cap b off : Nat) (n : Int) (xs : List Caucuslaw03Call) (stop : Int) (hR : Rd e ao xs.length b off 3 (xs.map Caucuslaw03Call.c)) :
    Ct Try.prog 5 [I n, .slice ao xs.length cap, I stop] [e] (fun v σ' => v = B true ∧ σ' = [e]) := by
  have hm := hR.small
  simp only [Go.maxLen] at hm
  refine Ct.enter Try.func5 rfl rfl fun W => ?_
  apply Wp.seq
  apply Wp.region
  refine WpL.o (O.bx1 (fun p5 => ?_))
  refine WpL.o (O.al tb (fun p6 => ?_))
  apply WpL.nil
  apply Out.seqN
  apply Wp.seq
  apply Wp.seq
  apply Wp.region
  refine WpL.o (Op1.fn rfl (alive03) ?_)
  refine WpL.v (V.not) ?_
  apply WpL.nil
  apply Out.seqN
  refine Wp.cF ?_
  apply Wp.skip
  apply Out.seqN
  apply Wp.seq
  apply Wp.seq
  apply Wp.region
  refine WpL.v (V.mv) ?_
  refine WpL.v (V.lenL tb) ?_
  refine WpL.v (V.cmp) ?_
  apply WpL.nil
  apply Out.seqN
  refine Wp.c (fun ha0 => ?_) (fun ha0 => ?_)
  (try simp only [decide_eq_true_eq, decide_eq_false_iff_not, Bool.not_eq_true', Bool.not_eq_false', Bool.not_eq_true, Bool.not_eq_false, not_true_eq_false, not_false_eq_true, reduceCtorEq] at ha0)
  apply Wp.seq
  apply Wp.region
  refine WpL.o (O.st1 tb ?_)
  apply WpL.nil
  apply Out.seqN
  apply Wp.ret
  apply Out.seqR
  refine Out.f1 rfl (ResIs.c1 tb) ⟨?_, rfl⟩
  exact rfl
  (try simp only [decide_eq_true_eq, decide_eq_false_iff_not, Bool.not_eq_true', Bool.not_eq_false', Bool.not_eq_true, Bool.not_eq_false, not_true_eq_false, not_false_eq_true, reduceCtorEq] at ha0)
  apply Wp.skip
  apply Out.seqN
  apply Wp.seq
  apply Wp.region
  refine WpL.v (V.mv) ?_
  refine WpL.o (Op1.callT rfl (item_new _) (by (repeat (first | exact Sel.nil | exact Rem.here | apply Sel.cons | apply Rem.there))) ?_)
  rintro v1 s2 ⟨b20, ⟨rfl, rfl⟩⟩
  refine incat ?_
  refine WpL.v (V.as) ?_
  apply WpL.nil
  apply Out.seqN
  apply Wp.seq
  apply Wp.seq
  apply Wp.region
  refine WpL.v (V.mv) ?_
  refine WpL.v (V.lenL tb) ?_
  refine WpL.v (V.mv) ?_
  apply WpL.nil
  apply Out.seqN
  apply Wp.block
  refine Wp.lp [22, 21, 7, 5, 6] (fun y : Nat × List Go.Value × List Go.Value => y.1 ≤ xs.length ∧ y.2.1.length = 7 ∧ y.2.2.length = 7) (fun y => [(23, I (y.1 : Int))]) (fun y => [itemE b20 y.2.1 y.2.2 (IP.run n (xs.take y.1))]) (fun y => xs.length - y.1) (0, _, _) ⟨Nat.zero_le _, rfl, rfl⟩ ?_
  rintro ⟨i, vs, us⟩ ⟨hi, hv, hu⟩ K hK
  dsimp only at hi hv hu
  dsimp only [List.cons_append, List.nil_append]
  have hok := IP.run_ok n (xs.take i)
  have hw := hok.towf
  by_cases hlt : i < xs.length
  · obtain ⟨x, hx⟩ := getS hlt
    have e1 := take_snocS hx
    have hS : Ct Try.prog 27 [Ptr b20 0, A x.Item.c, I x.N] [itemE b20 vs us (IP.run n (xs.take i))] (fun r σ' => ∃ vs' us', vs'.length = 7 ∧ us'.length = 7 ∧ r = B (goodI x.Item (IP.run n (xs.take i)).reps) ∧ σ' = [itemE b20 vs' us' (IP.run n (xs.take (i + 1)))]) := by
      rw [e1, IP.run_snoc]; exact item_set _ _ _ _ _ _ hw hv hu
    apply Wp.seq
    apply Wp.region
    refine WpL.v (V.cmp) ?_
    apply WpL.nil
    apply Out.seqN
    apply Wp.seq
    refine Wp.c (fun hb0 => ?_) (fun hb0 => ?_)
    (try simp only [decide_eq_true_eq, decide_eq_false_iff_not, Bool.not_eq_true', Bool.not_eq_false', Bool.not_eq_true, Bool.not_eq_false, not_true_eq_false, not_false_eq_true, reduceCtorEq] at hb0)
    apply Wp.skip
    apply Out.seqN
    apply Wp.seq
    apply Wp.block
    apply Wp.seq
    apply Wp.region
    refine WpL.v (V.ixR tb rfl rfl (by assumption)) ?_
    refine WpL.v (V.ldRA tb rfl (by assumption) (getMapS (by assumption))) ?_
    refine WpL.o (O.al tb (fun p9 => ?_))
    refine WpL.o (O.stA tb ?_)
    apply WpL.nil
    apply Out.seqN
    apply Wp.region
    refine WpL.v (V.mv) ?_
    refine WpL.v (V.fa tb) ?_
    refine WpL.v (V.ldA tb) ?_
    refine WpL.v (V.fa tb) ?_
    refine WpL.v (V.ld1 tb) ?_
    refine WpL.o (Op1.callT rfl (hS) (by (repeat (first | exact Sel.nil | exact Rem.here | apply Sel.cons | apply Rem.there))) ?_)
    rintro v3 s4 ⟨vs'32, ⟨us'32, ⟨hx1, ⟨hx2, ⟨rfl, rfl⟩⟩⟩⟩⟩
    refine incat ?_
    apply WpL.nil
    apply Out.blockN
    apply Out.seqN
    apply Wp.region
    refine WpL.v (V.add) ?_
    refine WpL.v (V.mv) ?_
    apply WpL.nil
    rotate_left
    (try simp only [decide_eq_true_eq, decide_eq_false_iff_not, Bool.not_eq_true', Bool.not_eq_false', Bool.not_eq_true, Bool.not_eq_false, not_true_eq_false, not_false_eq_true, reduceCtorEq] at hb0)
    (exfalso; omega)
    exact Out.ag hK (i + 1, vs'32, us'32) ⟨by show i + 1 ≤ _; omega, hx1, hx2⟩ (by show xs.length - (i + 1) < xs.length - i; omega)
  · obtain rfl : i = xs.length := by omega
    clear hK
    rw [List.take_length] at hok hw
    rw [List.take_length]
    generalize hp : IP.run n xs = p at hok hw
    have hal := IP.all_len hw
    apply Wp.seq
    apply Wp.region
    refine WpL.v (V.cmp) ?_
    apply WpL.nil
    apply Out.seqN
    apply Wp.seq
    refine Wp.c (fun hc0 => ?_) (fun hc0 => ?_)
    (try simp only [decide_eq_true_eq, decide_eq_false_iff_not, Bool.not_eq_true', Bool.not_eq_false', Bool.not_eq_true, Bool.not_eq_false, not_true_eq_false, not_false_eq_true, reduceCtorEq] at hc0)
    (exfalso; omega)
    (try simp only [decide_eq_true_eq, decide_eq_false_iff_not, Bool.not_eq_true', Bool.not_eq_false', Bool.not_eq_true, Bool.not_eq_false, not_true_eq_false, not_false_eq_true, reduceCtorEq] at hc0)
    apply Wp.exit
    apply Out.seqE
    apply Out.seqE
    apply Out.blockE
    apply Out.seqN
    apply Wp.seq
    apply Wp.region
    refine WpL.o (O.al tb (fun p10 => ?_))
    apply WpL.nil
    apply Out.seqN
    apply Wp.seq
    apply Wp.seq
    apply Wp.region
    refine WpL.v (V.mv) ?_
    refine WpL.o (Op1.callT rfl (item_all _ rfl) (by (repeat (first | exact Sel.nil | exact Rem.here | apply Sel.cons | apply Rem.there))) ?_)
    rintro v1 s2 ⟨q35, ⟨rfl, rfl⟩⟩
    refine incat ?_
    apply WpL.nil
    apply Out.seqN
    apply Wp.block
    refine Wp.nilRows TItem.c 30 2 ?_
    refine Wp.rg (item_iter _ b20 vs us p hw hv hu) (fun y : Go.Value × List TItem => [cells p10 34 [y.1], rows TItem.c y.1 30 2 y.2]) (fun pre y => y.2 = pre.map Prod.fst ∧ y.1.oneCell' = true) (fun _ _ _ => False) (.slice none 0 0, []) ⟨rfl, rfl⟩ ?_ ?_ ?_
    · rintro pre x post ⟨v, l⟩ lp rec hx ⟨hl, hv1⟩ hr W' D' K1 hK1
      dsimp only at hl hv1
      have hlen : l.length < 448 := by rw [hl, List.length_map]; rw [hx] at hal; simp at hal; omega
      apply Wp.region
      refine WpL.o (O.al tb (fun p11 => ?_))
      refine WpL.o (O.stA tb ?_)
      apply WpL.nil
      refine Out.bg (by assumption) ?_
      apply Wp.block
      apply Wp.region
      refine WpL.v (V.ld1 tb) ?_
      refine WpL.v (V.ldA tb) ?_
      refine WpL.o (O.lit tb (fun p40 => ?_))
      refine WpL.o (O.apL tb rfl rfl (by (intro _; repeat first | exact Upd.here _ _ _ | apply Upd.there)) (SrcL.one tb (by (repeat first | exact List.Mem.head _ | apply List.Mem.tail)) TItem.ones) (fun g41 cap41 => ?_))
      refine WpL.o (O.st1 tb ?_)
      apply WpL.nil
      apply Out.blockN
      exact Out.rd hK1 (_, l ++ [x.1]) ⟨by simp [hl], rfl⟩
    · rintro ⟨v, l⟩ c ⟨hl, hv1⟩
      dsimp only at hl hv1
      have hlen : l.length = p.all.length := by rw [hl, List.length_map]
      apply Out.blockN
      apply Out.seqN
      apply Wp.seq
      apply Wp.region
      refine WpL.o (O.al tb (fun p12 => ?_))
      refine WpL.o (O.st1 tb ?_)
      apply WpL.nil
      apply Out.seqN
      apply Wp.seq
      apply Wp.seq
      apply Wp.region
      refine WpL.v (V.mv) ?_
      refine WpL.o (Op1.callT rfl (item_all _ rfl) (by (repeat (first | exact Sel.nil | exact Rem.here | apply Sel.cons | apply Rem.there))) ?_)
      rintro v0 s1 ⟨q43, ⟨rfl, rfl⟩⟩
      refine incat ?_
      apply WpL.nil
      apply Out.seqN
      apply Wp.block
      dsimp only [List.cons_append, List.nil_append]
      refine Wp.rg (item_iter _ b20 vs us p hw hv hu) (fun k : Nat => [cells p12 3 [I (k : Int)], cells p5 3 [I stop], cells p10 34 [v], rows TItem.c v 30 2 l, cells p6 4 [B false]]) (fun pre k => k = pre.length) (fun e pre k => e = .exit 4 ∧ k = pre.length ∧ (k : Int) = stop) 0 rfl ?_ ?_ ?_
      · rintro pre x post k lp rec hx rfl hr W' D' K1 hK1
        have hk : l[pre.length]? = some x.1 := by rw [hl, hx]; simp
        have hlt2 : pre.length < l.length := (List.getElem?_eq_some_iff.1 hk).1
        refine Wp.form (f := TItem.c) (v := v) (l := l) (by (repeat first | exact List.Mem.head _ | apply List.Mem.tail)) (fun _ h1 => ?_) (fun g2 cap2 hv2 => ?_)
        · rw [h1] at hk; simp at hk
        · subst hv2
          apply Wp.region
          refine WpL.o (O.al tb (fun p13 => ?_))
          refine WpL.o (O.stA tb ?_)
          apply WpL.nil
          refine Out.bg (by assumption) ?_
          apply Wp.block
          apply Wp.seq
          apply Wp.seq
          refine Wp.dG [] ?_ (List.Sublist.cons_cons _ (List.Sublist.cons_cons _ (List.Sublist.cons_cons _ (List.Sublist.cons _ (List.Sublist.cons_cons _ (List.Sublist.cons_cons _ (List.Sublist.cons _ List.Sublist.slnil))))))) (List.Sublist.cons_cons _ (List.Sublist.cons_cons _ (List.Sublist.cons_cons _ (List.Sublist.cons _ (List.Sublist.cons_cons _ (List.Sublist.cons_cons _ (List.Sublist.cons _ List.Sublist.slnil)))))))
          refine WpA.tF 0 rfl (V.ld1 tb) ?_
          refine WpA.tF 1 rfl (V.ld1 tb) ?_
          refine WpA.tF 2 rfl (V.ixk tb rfl rfl) ?_
          refine WpA.tF 3 rfl (V.ldRow tb rfl (by (repeat first | exact List.Mem.head _ | apply List.Mem.tail)) (fun _ => rfl) (by assumption)) ?_
          refine WpA.tF 4 rfl (V.ldA tb) ?_
          refine WpA.tF 5 rfl (V.ne (TItem.eqT _ _ _)) ?_
          refine WpA.ou ?_
          apply Out.seqN
          refine Wp.c (fun hf0 => ?_) (fun hf0 => ?_)
          (try simp only [decide_eq_true_eq, decide_eq_false_iff_not, Bool.not_eq_true', Bool.not_eq_false', Bool.not_eq_true, Bool.not_eq_false, not_true_eq_false, not_false_eq_true, reduceCtorEq] at hf0)
          (try simp only [decide_eq_true_eq, decide_eq_false_iff_not, Bool.not_eq_true', Bool.not_eq_false', Bool.not_eq_true, Bool.not_eq_false, not_true_eq_false, not_false_eq_true, reduceCtorEq] at hf0)
          apply Wp.skip
          apply Out.seqN
          apply Wp.seq
          apply Wp.region
          refine WpL.v (V.ld1 tb) ?_
          refine WpL.v (V.add) ?_
          refine WpL.o (O.st1 tb ?_)
          apply WpL.nil
          apply Out.seqN
          apply Wp.seq
          apply Wp.region
          refine WpL.v (V.ld1 tb) ?_
          refine WpL.v (V.ld1 tb) ?_
          refine WpL.v (V.cmp) ?_
          apply WpL.nil
          apply Out.seqN
          refine Wp.c (fun hf1 => ?_) (fun hf1 => ?_)
          (try simp only [decide_eq_true_eq, decide_eq_false_iff_not, Bool.not_eq_true', Bool.not_eq_false', Bool.not_eq_true, Bool.not_eq_false, not_true_eq_false, not_false_eq_true, reduceCtorEq] at hf1)
          apply Wp.exit
          refine Out.blockO' ?_
          rotate_left
          (try simp only [decide_eq_true_eq, decide_eq_false_iff_not, Bool.not_eq_true', Bool.not_eq_false', Bool.not_eq_true, Bool.not_eq_false, not_true_eq_false, not_false_eq_true, reduceCtorEq] at hf1)
          apply Wp.skip
          apply Out.blockN
          rotate_left
          · exact Out.rd hK1 (pre.length + 1) ⟨rfl, by simp, by push_cast; assumption⟩
          · exact Out.rd hK1 (pre.length + 1) (by show _ = _; simp)
      · rintro k c2 rfl
        apply Out.blockN
        apply Out.seqN
        apply Wp.seq
        apply Wp.region
        refine WpL.v (V.ld1 tb) ?_
        refine WpL.v (V.ld1 tb) ?_
        refine WpL.v (V.lenRows tb) ?_
        refine WpL.v (V.cmp) ?_
        refine WpL.v (V.mv) ?_
        refine WpL.pt (fun hg0 => ?_) (fun hg0 => ?_)
        (try simp only [decide_eq_true_eq, decide_eq_false_iff_not, Bool.not_eq_true', Bool.not_eq_false', Bool.not_eq_true, Bool.not_eq_false, not_true_eq_false, not_false_eq_true, reduceCtorEq] at hg0)
        refine WpL.sk ?_
        refine WpL.sk ?_
        refine WpL.sk ?_
        refine WpL.v (V.pT) ?_
        refine WpL.o (O.st1 tb ?_)
        apply WpL.nil
        apply Out.seqN
        apply Wp.ret
        refine Out.f1 rfl (ResIs.c1 tb) ⟨?_, rfl⟩
        exact rfl
        (try simp only [decide_eq_true_eq, decide_eq_false_iff_not, Bool.not_eq_true', Bool.not_eq_false', Bool.not_eq_true, Bool.not_eq_false, not_true_eq_false, not_false_eq_true, reduceCtorEq] at hg0)
        (exfalso; omega)
      · rintro k c2 ex pre hwy hgo hpre ⟨rfl, rfl, hst⟩
        apply Out.blockE
        apply Out.seqN
        apply Wp.seq
        apply Wp.region
        refine WpL.v (V.ld1 tb) ?_
        refine WpL.v (V.ld1 tb) ?_
        refine WpL.v (V.lenRows tb) ?_
        refine WpL.v (V.cmp) ?_
        refine WpL.v (V.mv) ?_
        refine WpL.pt (fun hh0 => ?_) (fun hh0 => ?_)
        (try simp only [decide_eq_true_eq, decide_eq_false_iff_not, Bool.not_eq_true', Bool.not_eq_false', Bool.not_eq_true, Bool.not_eq_false, not_true_eq_false, not_false_eq_true, reduceCtorEq] at hh0)
        refine WpL.sk ?_
        refine WpL.sk ?_
        refine WpL.sk ?_
        refine WpL.v (V.pT) ?_
        refine WpL.o (O.st1 tb ?_)
        apply WpL.nil
        apply Out.seqN
        apply Wp.ret
        refine Out.f1 rfl (ResIs.c1 tb) ⟨?_, rfl⟩
        exact rfl
        (try simp only [decide_eq_true_eq, decide_eq_false_iff_not, Bool.not_eq_true', Bool.not_eq_false', Bool.not_eq_true, Bool.not_eq_false, not_true_eq_false, not_false_eq_true, reduceCtorEq] at hh0)
        refine WpL.v (V.ld1 tb) ?_
        refine WpL.v (V.ld1 tb) ?_
        refine WpL.v (V.cmp) ?_
        refine WpL.v (V.pF) ?_
        refine WpL.o (O.st1 tb ?_)
        apply WpL.nil
        apply Out.seqN
        apply Wp.ret
        refine Out.f1 rfl (ResIs.c1 tb) ⟨?_, rfl⟩
        focus ((simp [hst]); done)
    · rintro _ _ _ _ _ _ _ h
      exact h.elim
open Go Go.ChangeShapes Go.WideShapes Go.ChangeAt Go.RowKit
theorem itemStops_read : (Try.f5.params.toList.all fun t => Try.prog.readableRec t && decide (t < Try.prog.types.size)) = true := by kernel_rfl
theorem itemStops_lifted (os : Go.Os) (started : os.Started) (H : Type) (enc : Go.TypeId × Go.Value → H) :
    ReturnsInHanded {} Try.checked os 5 .any (Rows.itemStopsSpec.pre6 enc Try.prog Try.f5 Rows.itemStopsRow.domain false) (Rows.itemStopsSpec.post enc Try.prog Try.f5 false true false false) := by
  refine returnsInHanded_of_change_sized (C := Try.checked) own started (by kernel_rfl) Try.func5
    (ChangeSpec.witness6 (enc := enc) (C := Try.checked) false ⟨#[], #[I 0, .slice none 0 0, I 0], []⟩ 8 (by kernel_rfl) (by kernel_rfl) (by kernel_rfl) (by kernel_rfl)) ?_
  intro W base args ds gs before hval0 hW hcnd hsz0 _
  have hsz : (DataW.weightsEach Try.prog (Try.f5.params.toList ++ Rows.itemStopsSpec.plain.varTypes Try.prog) (ds ++ gs)).all (· ≤ reachBytes) = true := hsz0
  have hval : ∀ (j : Nat) t v, Try.f5.params[j]? = some t → args[j]? = some v → Value.okWide Try.prog W .any base t v := hval0
  have hW' := hW
  obtain ⟨p, q, hA0, hV, rfl, hfz, hnd⟩ := hW
  have hA1 : DataW.TrodAll enc Try.prog W 0 (fun _ => true) true Try.f5.params.toList args.toList ds p := hA0
  have hA := hA1
  rw [Try.params5] at hA hval hsz
  obtain ⟨v0, vs0, d0, ds0, p0, q0, hargs, rfl, rfl, h0, r0⟩ := trodAll_cons hA
  obtain ⟨v1, vs1, d1, ds1, p1, q1, rfl, rfl, rfl, h1, r1⟩ := trodAll_cons r0
  obtain ⟨v2, vs2, d2, ds2, p2, q2, rfl, rfl, rfl, h2, r2⟩ := trodAll_cons r1
  obtain ⟨rfl, rfl, rfl⟩ := trodAll_nil r2
  obtain rfl : args = #[v0, v1, v2] := by cases args; simp_all
  obtain ⟨rfl, rfl⟩ := trodVars_none hV
  obtain ⟨x0, rfl, rfl, rfl, w0⟩ := open_int Try.underlying3 (hval 0 3 v0 rfl rfl) h0
  obtain ⟨ao1, b1, off1, len1, cap1, xs1, rfl, hl1, hlc1, hcm1, ha1, hs1, hf1, hby1⟩ := open_slice_plain Try.underlying28 Caucuslaw03Call.leaves (by kernel_rfl) (by decide) (hval 1 28 v1 rfl rfl) h1 (sizedAll hsz 1 rfl rfl)
  obtain ⟨x1, rfl, w1⟩ := fits_map Caucuslaw03Call.c Caucuslaw03Call.wf hf1 Caucuslaw03Call.fit
  obtain rfl : len1 = x1.length := by simpa using hl1.symm
  obtain ⟨x2, rfl, rfl, rfl, w2⟩ := open_int Try.underlying3 (hval 2 3 v2 rfl rfl) h2
  simp only [List.append_nil] at hW' hA1
  have hbl : ∀ p : Nat × Nat, p ∈ [(x1.length, b1)] → 0 < p.1 → p.2 < W.heap.size := by
    intro p hp h0
    simp only [List.mem_cons, List.mem_nil_iff, or_false] at hp
    rcases hp with rfl
    · exact (ha1 h0).2
  have hR1 : Rd (snap W (blocksOf [(x1.length, b1)])) ao1 x1.length b1 off1 3 (x1.map Caucuslaw03Call.c) := Rd.snap (by simp) (Nat.le_trans hlc1 hcm1) ha1 hs1 (fun h => blocksOf_mem (len := x1.length) (by simp) h)
  refine (Ct.runSnap (blocksOf_nodup _) (blocksOf_lt hbl) (itemStops_walk _ _ _ _ _ x0 x1 x2 hR1)).mono fun e W' hh => ?_
  obtain ⟨rfl, hS⟩ := hh
  exact ⟨_, rfl, post_law (P := Try.prog) (f := Try.f5) (tbool := 4) hW' hA1 rfl rfl hS laid itemStops_read rfl Try.underlying4⟩
theorem itemStops_over : Rows.itemStopsRow.holds Try.pinned (OpenSpec.ofChange Rows.itemStopsSpec) :=
  OpenClaim.holds_of_wide 5 Try.f5 rfl rfl rfl rfl rfl rfl rfl ⟨rfl, rfl, rfl, rfl, rfl⟩ rfl rfl rfl rfl rfl (by kernel_rfl) Try.func5 (by kernel_rfl)
    (of_decide_eq_true (by kernel_rfl)) (by unfold Func.isWrapper; first | (rw [if_pos (by decide +kernel)]; kernel_rfl) | (rw [if_neg (by decide +kernel)]; exact ⟨rfl, rfl⟩))
    (fun os started H enc _ => itemStops_lifted os started H enc)
/-- THE STATEMENT. -/
theorem itemStops_proved : Rows.ItemStopsSaid := itemStops_over
#print axioms itemStops_proved

end Go.Proofs.Ytgbflapcadlelaa
