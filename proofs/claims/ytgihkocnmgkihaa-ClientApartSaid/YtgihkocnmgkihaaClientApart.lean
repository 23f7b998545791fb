/-
  The statement ClientApart of layer 21: two deeds that don't clash come to the same replies, and the same machine, in either order. Proved for every input.
-/
import Derived.Test.YtgihkocnmgkihaaHead
import Derived.Test.YtgihkocnmgkihaaCap
namespace Go.Proofs.Ytgihkocnmgkihaa
open Go.HL
set_option linter.unusedSimpArgs false
set_option linter.unusedVariables false
set_option maxRecDepth 8000
structure CA21 where
  k : Nat
  s : CS
  sl1 : SM
  g1 : GB
  sl2 : SM
  g2 : GB
theorem sameC (x : RV) (v v' : Go.Value) : Ct Try.prog 16 [A (x.c v), A (x.c v')] [rows strc v 9 1 x.keys, rows strc v' 9 1 x.keys] (fun r σ' => r = B true ∧ σ' = [rows strc v 9 1 x.keys, rows strc v' 9 1 x.keys]) := by
  refine Ct.mono (same_rows ⟨x.err, x.val, x.ver, v⟩ ⟨x.err, x.val, x.ver, v'⟩ x.keys x.keys) ?_
  rintro r σ' ⟨rfl, rfl⟩
  exact ⟨by simp [sameR], rfl⟩
set_option maxHeartbeats 8000000 in
theorem clientApart_walk (e : Ent) (ao : Option Go.Addr) (cap b off : Nat) (xs : List TDeed) (d1 d2 : TDeed) (hw : ∀ x ∈ xs, x.Key.length ≤ 140737488351232 ∧ x.Value.length ≤ 140737488351232) (hd1 : d1.Key.length ≤ 140737488351232 ∧ d1.Value.length ≤ 140737488351232) (hd2 : d2.Key.length ≤ 140737488351232 ∧ d2.Value.length ≤ 140737488351232) (hR : Rd e ao xs.length b off 6 (xs.map TDeed.c)) :
    Ct Try.prog 11 [.slice ao xs.length cap, A d1.c, A d2.c] [e] (fun r σ' => r = B true ∧ σ' = [e]) := by
  have hm := hR.small
  simp only [Go.maxLen] at hm
  have hG := great21z e ao cap b off xs hw hR
  have hG1 (g : Nat) := great21z (row (.slice (some ⟨g, 0, none⟩) 2 2) 28 6 2 (d1.c ++ d2.c)) (some ⟨g, 0, none⟩) 2 g 0 [d1, d2] (by intro q hq; simp at hq; rcases hq with rfl | rfl <;> assumption) (Rd.lits (E := 28) (cap := 2) TDeed.c [d1, d2] rfl (by simp) TDeed.len (by simp))
  have hN := client_new2
  have hC := ref_clash d1 d2
  unfold cmE at hN
  refine Ct.enter Try.func11 rfl rfl fun W => ?_
  apply Wp.seq
  apply Wp.region
  refine WpL.o (O.bxA (fun p4 => ?_))
  refine WpL.o (O.bxA (fun p5 => ?_))
  refine WpL.v (V.as) ?_
  apply WpL.nil
  apply Out.seqN
  apply Wp.seq
  apply Wp.seq
  apply Wp.region
  refine WpL.o (Op1.fn rfl (alive21) ?_)
  refine WpL.v (V.not) ?_
  apply WpL.nil
  apply Out.seqN
  refine Wp.cF ?_
  apply Wp.skip
  apply Out.seqN
  apply Wp.seq
  apply Wp.seq
  apply Wp.region
  refine WpL.v (V.mv) ?_
  refine WpL.o (Op1.callT rfl (hG) (by (repeat (first | exact Sel.nil | exact Rem.here | apply Sel.cons | apply Rem.there))) ?_)
  rintro v1 s2 ⟨t18, ⟨hx0, ⟨rfl, rfl⟩⟩⟩
  refine incat ?_
  refine WpL.v (V.mv) ?_
  refine WpL.pt (fun hp03 => ?_) (fun hp03 => ?_)
  (try simp only [decide_eq_true_eq, decide_eq_false_iff_not, Bool.not_eq_true', Bool.not_eq_false', Bool.not_eq_true, Bool.not_eq_false, not_true_eq_false, not_false_eq_true, reduceCtorEq] at hp03)
  refine WpL.sk ?_
  refine WpL.sk ?_
  refine WpL.sk ?_
  refine WpL.sk ?_
  refine WpL.v (V.pT) ?_
  refine WpL.v (V.mv) ?_
  refine WpL.sk ?_
  refine WpL.sk ?_
  refine WpL.sk ?_
  refine WpL.v (V.pT) ?_
  apply WpL.nil
  apply Out.seqN
  refine Wp.cT ?_
  apply Wp.seq
  apply Wp.region
  refine WpL.v (V.as) ?_
  apply WpL.nil
  apply Out.seqN
  apply Wp.ret
  apply Out.seqR
  refine Out.f1 rfl ResIs.t ⟨?_, rfl⟩
  exact rfl
  (try simp only [decide_eq_true_eq, decide_eq_false_iff_not, Bool.not_eq_true', Bool.not_eq_false', Bool.not_eq_true, Bool.not_eq_false, not_true_eq_false, not_false_eq_true, reduceCtorEq] at hp03)
  refine WpL.v (V.ldA tb) ?_
  refine WpL.v (V.ldA tb) ?_
  refine WpL.o (O.lit tb (fun p22 => ?_))
  refine WpL.o (Op1.callT rfl (hG1 _) (by (repeat (first | exact Sel.nil | exact Rem.here | apply Sel.cons | apply Rem.there))) ?_)
  rintro v5 s6 ⟨t23, ⟨hx4, ⟨rfl, rfl⟩⟩⟩
  refine incat ?_
  refine WpL.v (V.pF) ?_
  refine WpL.v (V.mv) ?_
  refine WpL.pt (fun hp07 => ?_) (fun hp07 => ?_)
  (try simp only [decide_eq_true_eq, decide_eq_false_iff_not, Bool.not_eq_true', Bool.not_eq_false', Bool.not_eq_true, Bool.not_eq_false, not_true_eq_false, not_false_eq_true, reduceCtorEq] at hp07)
  refine WpL.sk ?_
  refine WpL.sk ?_
  refine WpL.sk ?_
  refine WpL.v (V.pT) ?_
  apply WpL.nil
  apply Out.seqN
  refine Wp.cT ?_
  apply Wp.seq
  apply Wp.region
  refine WpL.v (V.as) ?_
  apply WpL.nil
  apply Out.seqN
  apply Wp.ret
  apply Out.seqR
  refine Out.f1 rfl ResIs.t ⟨?_, rfl⟩
  exact rfl
  (try simp only [decide_eq_true_eq, decide_eq_false_iff_not, Bool.not_eq_true', Bool.not_eq_false', Bool.not_eq_true, Bool.not_eq_false, not_true_eq_false, not_false_eq_true, reduceCtorEq] at hp07)
  refine WpL.v (V.ldA tb) ?_
  refine WpL.v (V.ldA tb) ?_
  refine WpL.o (Op1.fn rfl (hC) ?_)
  refine WpL.v (V.pF) ?_
  apply WpL.nil
  apply Out.seqN
  refine Wp.c (fun hp08 => ?_) (fun hp08 => ?_)
  (try simp only [decide_eq_true_eq, decide_eq_false_iff_not, Bool.not_eq_true', Bool.not_eq_false', Bool.not_eq_true, Bool.not_eq_false, not_true_eq_false, not_false_eq_true, reduceCtorEq] at hp08)
  apply Wp.seq
  apply Wp.region
  refine WpL.v (V.as) ?_
  apply WpL.nil
  apply Out.seqN
  apply Wp.ret
  apply Out.seqR
  refine Out.f1 rfl ResIs.t ⟨?_, rfl⟩
  exact rfl
  (try simp only [decide_eq_true_eq, decide_eq_false_iff_not, Bool.not_eq_true', Bool.not_eq_false', Bool.not_eq_true, Bool.not_eq_false, not_true_eq_false, not_false_eq_true, reduceCtorEq] at hp08)
  apply Wp.skip
  apply Out.seqN
  apply Wp.seq
  apply Wp.region
  refine WpL.o (Op1.callT rfl (hN) (by (repeat (first | exact Sel.nil | exact Rem.here | apply Sel.cons | apply Rem.there))) ?_)
  rintro v9 s10 ⟨b30, ⟨rb30, ⟨rm30, ⟨sm30, ⟨rfl, rfl⟩⟩⟩⟩⟩
  refine incat ?_
  refine WpL.o (Op1.callT rfl (hN) (by (repeat (first | exact Sel.nil | exact Rem.here | apply Sel.cons | apply Rem.there))) ?_)
  rintro v11 s12 ⟨b31, ⟨rb31, ⟨rm31, ⟨sm31, ⟨rfl, rfl⟩⟩⟩⟩⟩
  refine incat ?_
  refine WpL.v (V.as) ?_
  refine WpL.v (V.as) ?_
  apply WpL.nil
  apply Out.seqN
  apply Wp.seq
  apply Wp.seq
  apply Wp.region
  refine WpL.v (V.mv) ?_
  refine WpL.v (V.lenL tb) ?_
  refine WpL.v (V.mv) ?_
  apply WpL.nil
  apply Out.seqN
  apply Wp.block
  have hcl : clash d1 d2 = false := by assumption
  obtain ⟨hx80, hxs⟩ := hx0 (by assumption)
  have hds := (hx4 (by assumption)).2
  have hds1 := hds d1 (by simp)
  have hds2 := hds d2 (by simp)
  refine Wp.lp [33, 32, 8, 7, 5, 4] (fun y : CA21 => y.k ≤ xs.length ∧ CI y.k y.s ∧ CZ y.s ∧ HI y.s.ss y.sl1 y.g1 ∧ HI y.s.ss y.sl2 y.g2) (fun y => [(34, I (y.k : Int))]) (fun y => [cells b30 96 (ClientMachine.c ⟨Ptr rb30 0, .map (some sm30), y.s.cnt⟩), cells rb30 74 (RegistryRegistry.c ⟨.map (some rm30)⟩), mE rm30 y.s.l, mS sm30 y.sl1, gE y.g1, cells b31 96 (ClientMachine.c ⟨Ptr rb31 0, .map (some sm31), y.s.cnt⟩), cells rb31 74 (RegistryRegistry.c ⟨.map (some rm31)⟩), mE rm31 y.s.l, mS sm31 y.sl2, gE y.g2]) (fun y => xs.length - y.k) ⟨0, CS.z, [], [], [], []⟩ ⟨Nat.zero_le _, CI.zero, CZ.zero, HI.zero, HI.zero⟩ ?_
  rintro ⟨k, s, sl1, g1, sl2, g2⟩ ⟨hk, hi, hz, hh1, hh2⟩ K hK
  dsimp only at hk hi hz hh1 hh2
  dsimp only [List.cons_append, List.nil_append]
  by_cases hlt : k < xs.length
  · obtain ⟨x, hx⟩ := getS hlt
    have hA := client_do b30 rb30 rm30 sm30 k s sl1 g1 x hi hh1 (by omega)
    have hB := client_do b31 rb31 rm31 sm31 k s sl2 g2 x hi hh2 (by omega)
    unfold cmE RV.c at hA hB
    have hi2 := hi.do_ x
    have hz2 := hz.do_ hi (by omega) (hxs x (List.mem_of_getElem? hx))
    apply Wp.seq
    apply Wp.region
    refine WpL.v (V.cmp) ?_
    apply WpL.nil
    apply Out.seqN
    apply Wp.seq
    refine Wp.c (fun hp10 => ?_) (fun hp10 => ?_)
    (try simp only [decide_eq_true_eq, decide_eq_false_iff_not, Bool.not_eq_true', Bool.not_eq_false', Bool.not_eq_true, Bool.not_eq_false, not_true_eq_false, not_false_eq_true, reduceCtorEq] at hp10)
    apply Wp.skip
    apply Out.seqN
    apply Wp.seq
    apply Wp.block
    apply Wp.seq
    apply Wp.region
    refine WpL.v (V.ixR tb rfl rfl (by assumption)) ?_
    refine WpL.v (V.ldRA tb rfl (by assumption) (getMapS (by assumption))) ?_
    refine WpL.o (O.al tb (fun p10 => ?_))
    refine WpL.o (O.stA tb ?_)
    apply WpL.nil
    apply Out.seqN
    apply Wp.seq
    apply Wp.region
    refine WpL.v (V.mv) ?_
    refine WpL.v (V.ldA tb) ?_
    refine WpL.o (Op1.callT rfl (hA) (by (repeat (first | exact Sel.nil | exact Rem.here | apply Sel.cons | apply Rem.there))) ?_)
    rintro v2 s3 ⟨ao40, ⟨len40, ⟨cap40, ⟨sl'40, ⟨g'40, ⟨hx1, ⟨rfl, rfl⟩⟩⟩⟩⟩⟩⟩
    refine incat ?_
    apply WpL.nil
    apply Out.seqN
    apply Wp.region
    refine WpL.v (V.mv) ?_
    refine WpL.v (V.ldA tb) ?_
    refine WpL.o (Op1.callT rfl (hB) (by (repeat (first | exact Sel.nil | exact Rem.here | apply Sel.cons | apply Rem.there))) ?_)
    rintro v5 s6 ⟨ao43, ⟨len43, ⟨cap43, ⟨sl'43, ⟨g'43, ⟨hx4, ⟨rfl, rfl⟩⟩⟩⟩⟩⟩⟩
    refine incat ?_
    apply WpL.nil
    apply Out.blockN
    apply Out.seqN
    apply Wp.region
    refine WpL.v (V.add) ?_
    refine WpL.v (V.mv) ?_
    apply WpL.nil
    rotate_left
    (try simp only [decide_eq_true_eq, decide_eq_false_iff_not, Bool.not_eq_true', Bool.not_eq_false', Bool.not_eq_true, Bool.not_eq_false, not_true_eq_false, not_false_eq_true, reduceCtorEq] at hp10)
    (exfalso; omega)
    exact Out.ag hK ⟨k + 1, (doC s x).2, sl'40, g'40, sl'43, g'43⟩ ⟨by show k + 1 ≤ _; omega, hi2, hz2, by assumption, by assumption⟩ (by show xs.length - (k + 1) < xs.length - k; omega)
  · obtain rfl : k = xs.length := by omega
    clear hK
    obtain ⟨e1, e2, e3⟩ := apartC_law hi d1 d2 hcl
    have hia := hi.do_ d1
    have hza := hz.do_ hi (by omega) hds1
    have hib := hi.do_ d2
    have hzb := hz.do_ hi (by omega) hds2
    have hiab := hia.do_ d2
    have hzab := hza.do_ hia (by omega) hds2
    have hiba := hib.do_ d1
    have hzba := hzb.do_ hib (by omega) hds1
    have hA1 := client_do b30 rb30 rm30 sm30 _ s sl1 g1 d1 hi hh1 (by omega)
    have hA2 (sl : SM) (g : GB) (hh : HI (doC s d1).2.ss sl g) := client_do b30 rb30 rm30 sm30 _ (doC s d1).2 sl g d2 hia hh (by omega)
    have hB1 := client_do b31 rb31 rm31 sm31 _ s sl2 g2 d2 hi hh2 (by omega)
    have hB2 (sl : SM) (g : GB) (hh : HI (doC s d2).2.ss sl g) := client_do b31 rb31 rm31 sm31 _ (doC s d2).2 sl g d1 hib hh (by omega)
    have hY1 (sl : SM) (g : GB) (hh : HI (doC (doC s d1).2 d2).2.ss sl g) := client_bytes b30 rb30 rm30 sm30 _ _ sl g hiab hzab hh (by omega)
    have hY2 (sl : SM) (g : GB) (hh : HI (doC (doC s d2).2 d1).2.ss sl g) := client_bytes b31 rb31 rm31 sm31 _ _ sl g hiba hzba hh (by omega)
    rw [← e3] at hY2
    rw [← e1] at hB2
    rw [e2] at hA2
    generalize (doC (doC s d1).2 d2).2 = sab at *
    generalize (doC (doC s d2).2 d1).2 = sba at *
    generalize (doC s d1).2 = sa at *
    generalize (doC s d2).2 = sb at *
    generalize (doC s d1).1 = rx at *
    generalize (doC s d2).1 = ry at *
    unfold cmE at hA1 hA2 hB1 hB2 hY1 hY2
    apply Wp.seq
    apply Wp.region
    refine WpL.v (V.cmp) ?_
    apply WpL.nil
    apply Out.seqN
    apply Wp.seq
    refine Wp.c (fun hp20 => ?_) (fun hp20 => ?_)
    (try simp only [decide_eq_true_eq, decide_eq_false_iff_not, Bool.not_eq_true', Bool.not_eq_false', Bool.not_eq_true, Bool.not_eq_false, not_true_eq_false, not_false_eq_true, reduceCtorEq] at hp20)
    (exfalso; omega)
    (try simp only [decide_eq_true_eq, decide_eq_false_iff_not, Bool.not_eq_true', Bool.not_eq_false', Bool.not_eq_true, Bool.not_eq_false, not_true_eq_false, not_false_eq_true, reduceCtorEq] at hp20)
    apply Wp.exit
    apply Out.seqE
    apply Out.seqE
    apply Out.blockE
    apply Out.seqN
    refine Wp.mt [8, 7, 5, 4] (fun (z : (Option Go.Addr × Nat × Nat) × (Option Go.Addr × Nat × Nat) × Nat × Nat × SM × GB) => HI sab.ss z.2.2.2.2.1 z.2.2.2.2.2) (fun z => [(11, Ptr z.2.2.1 0), (12, Ptr z.2.2.2.1 0)]) (fun z => [cells z.2.2.1 32 (rx.c (.slice z.1.1 z.1.2.1 z.1.2.2)), cells z.2.2.2.1 32 (ry.c (.slice z.2.1.1 z.2.1.2.1 z.2.1.2.2)), rows strc (.slice z.1.1 z.1.2.1 z.1.2.2) 9 1 rx.keys, rows strc (.slice z.2.1.1 z.2.1.2.1 z.2.1.2.2) 9 1 ry.keys, cells b30 96 (ClientMachine.c ⟨Ptr rb30 0, .map (some sm30), sab.cnt⟩), cells rb30 74 (RegistryRegistry.c ⟨.map (some rm30)⟩), mE rm30 sab.l, mS sm30 z.2.2.2.2.1, gE z.2.2.2.2.2]) (σ1 := [cells b30 96 (ClientMachine.c ⟨Ptr rb30 0, .map (some sm30), s.cnt⟩), cells rb30 74 (RegistryRegistry.c ⟨.map (some rm30)⟩), mE rm30 s.l, mS sm30 sl1, gE g1]) ?_ ?_
    · intro K2 hK2
      refine Wp.dG [] ?_ (List.Sublist.cons _ (List.Sublist.cons _ (List.Sublist.cons _ (List.Sublist.cons _ (List.Sublist.cons _ (List.Sublist.cons _ (List.Sublist.cons _ (List.Sublist.cons _ (List.Sublist.cons _ (List.Sublist.cons _ (List.Sublist.cons _ (List.Sublist.cons _ (List.Sublist.cons_cons _ (List.Sublist.cons_cons _ List.Sublist.slnil)))))))))))))) (List.Sublist.cons _ (List.Sublist.cons _ (List.Sublist.cons _ (List.Sublist.cons _ (List.Sublist.cons _ (List.Sublist.cons _ (List.Sublist.cons _ (List.Sublist.cons _ (List.Sublist.cons _ (List.Sublist.cons _ (List.Sublist.cons _ (List.Sublist.cons _ (List.Sublist.cons_cons _ (List.Sublist.cons_cons _ List.Sublist.slnil))))))))))))))
      refine WpA.tF 0 rfl (V.mv) ?_
      refine WpA.tF 1 rfl (V.ldA tb) ?_
      refine WpA.tF 3 rfl (V.mv) ?_
      refine WpA.tF 4 rfl (V.ldA tb) ?_
      refine WpA.e3 2 6 7 rfl rfl rfl ?_ ?_ ?_
      refine Op1.callT rfl (hA1) (by (repeat (first | exact Sel.nil | exact Rem.here | apply Sel.cons | apply Rem.there))) ?_
      rintro v1 s2 ⟨ao47, ⟨len47, ⟨cap47, ⟨sl'47, ⟨g'47, ⟨hx0, ⟨rfl, rfl⟩⟩⟩⟩⟩⟩⟩
      refine incat ⟨?_, ?_, ?_⟩
      exact holdT
      exact holdT
      refine WpA.e3 5 6 7 rfl rfl rfl ?_ ?_ ?_
      refine Op1.callT rfl (hA2 _ _ ?_) (by (repeat (first | exact Sel.nil | exact Rem.here | apply Sel.cons | apply Rem.there))) ?_
      (first | with_reducible assumption | omega | (simp only [List.length_append, List.length_cons, List.length_nil, List.length_map] at *; omega) | (focus (simp; done)))
      rintro v4 s5 ⟨ao50, ⟨len50, ⟨cap50, ⟨sl'50, ⟨g'50, ⟨hx3, ⟨rfl, rfl⟩⟩⟩⟩⟩⟩⟩
      refine incat ⟨?_, ?_, ?_⟩
      exact holdT
      exact holdT
      refine WpA.e2 6 7 rfl rfl ?_ ?_
      refine O.al tb (fun p11 => ⟨?_, ?_, ?_⟩)
      exact holdT
      exact holdT
      refine WpA.oS 7 rfl (O.al tb (fun p12 => ⟨?_, ?_, ?_⟩))
      exact holdT
      exact holdT
      refine WpA.oS 8 rfl (O.stA tb ⟨?_, ?_, ?_⟩)
      exact holdT
      exact holdT
      refine WpA.oS 9 rfl (O.stA tb ⟨?_, ?_, ?_⟩)
      exact holdT
      exact holdT
      refine WpA.ou ?_
      rotate_left
      refine O.al tb (fun p12 => ⟨?_, ?_, ?_⟩)
      exact holdT
      exact holdT
      refine WpA.oS 6 rfl (O.al tb (fun p11 => ⟨?_, ?_, ?_⟩))
      exact holdT
      exact holdT
      refine WpA.oS 8 rfl (O.stA tb ⟨?_, ?_, ?_⟩)
      exact holdT
      exact holdT
      refine WpA.oS 9 rfl (O.stA tb ⟨?_, ?_, ?_⟩)
      exact holdT
      exact holdT
      refine WpA.ou ?_
      rotate_left
      refine O.al tb (fun p11 => ⟨?_, ?_, ?_⟩)
      exact holdT
      exact holdT
      refine WpA.e2 5 7 rfl rfl ?_ ?_
      refine Op1.callT rfl (hA2 _ _ ?_) (by (repeat (first | exact Sel.nil | exact Rem.here | apply Sel.cons | apply Rem.there))) ?_
      (first | with_reducible assumption | omega | (simp only [List.length_append, List.length_cons, List.length_nil, List.length_map] at *; omega) | (focus (simp; done)))
      rintro v12 s13 ⟨ao50_6, ⟨len50_7, ⟨cap50_8, ⟨sl'50_9, ⟨g'50_10, ⟨hx11, ⟨rfl, rfl⟩⟩⟩⟩⟩⟩⟩
      refine incat ⟨?_, ?_, ?_⟩
      exact holdT
      exact holdT
      refine WpA.oS 7 rfl (O.al tb (fun p12 => ⟨?_, ?_, ?_⟩))
      exact holdT
      exact holdT
      refine WpA.oS 8 rfl (O.stA tb ⟨?_, ?_, ?_⟩)
      exact holdT
      exact holdT
      refine WpA.oS 9 rfl (O.stA tb ⟨?_, ?_, ?_⟩)
      exact holdT
      exact holdT
      refine WpA.ou ?_
      rotate_left
      refine O.al tb (fun p12 => ⟨?_, ?_, ?_⟩)
      exact holdT
      exact holdT
      refine WpA.oS 5 rfl (Op1.callT rfl (hA2 _ _ ?_) (by (repeat (first | exact Sel.nil | exact Rem.here | apply Sel.cons | apply Rem.there))) ?_)
      (first | with_reducible assumption | omega | (simp only [List.length_append, List.length_cons, List.length_nil, List.length_map] at *; omega) | (focus (simp; done)))
      rintro v20 s21 ⟨ao50_14, ⟨len50_15, ⟨cap50_16, ⟨sl'50_17, ⟨g'50_18, ⟨hx19, ⟨rfl, rfl⟩⟩⟩⟩⟩⟩⟩
      refine incat ⟨?_, ?_, ?_⟩
      exact holdT
      exact holdT
      refine WpA.oS 8 rfl (O.stA tb ⟨?_, ?_, ?_⟩)
      exact holdT
      exact holdT
      refine WpA.oS 9 rfl (O.stA tb ⟨?_, ?_, ?_⟩)
      exact holdT
      exact holdT
      refine WpA.ou ?_
      rotate_left
      refine O.al tb (fun p12 => ⟨?_, ?_, ?_⟩)
      exact holdT
      exact holdT
      refine WpA.e2 5 6 rfl rfl ?_ ?_
      refine Op1.callT rfl (hA2 _ _ ?_) (by (repeat (first | exact Sel.nil | exact Rem.here | apply Sel.cons | apply Rem.there))) ?_
      (first | with_reducible assumption | omega | (simp only [List.length_append, List.length_cons, List.length_nil, List.length_map] at *; omega) | (focus (simp; done)))
      rintro v28 s29 ⟨ao50_22, ⟨len50_23, ⟨cap50_24, ⟨sl'50_25, ⟨g'50_26, ⟨hx27, ⟨rfl, rfl⟩⟩⟩⟩⟩⟩⟩
      refine incat ⟨?_, ?_, ?_⟩
      exact holdT
      exact holdT
      refine WpA.oS 6 rfl (O.al tb (fun p11 => ⟨?_, ?_, ?_⟩))
      exact holdT
      exact holdT
      refine WpA.oS 8 rfl (O.stA tb ⟨?_, ?_, ?_⟩)
      exact holdT
      exact holdT
      refine WpA.oS 9 rfl (O.stA tb ⟨?_, ?_, ?_⟩)
      exact holdT
      exact holdT
      refine WpA.ou ?_
      rotate_left
      refine O.al tb (fun p11 => ⟨?_, ?_, ?_⟩)
      exact holdT
      exact holdT
      refine WpA.oS 5 rfl (Op1.callT rfl (hA2 _ _ ?_) (by (repeat (first | exact Sel.nil | exact Rem.here | apply Sel.cons | apply Rem.there))) ?_)
      (first | with_reducible assumption | omega | (simp only [List.length_append, List.length_cons, List.length_nil, List.length_map] at *; omega) | (focus (simp; done)))
      rintro v36 s37 ⟨ao50_30, ⟨len50_31, ⟨cap50_32, ⟨sl'50_33, ⟨g'50_34, ⟨hx35, ⟨rfl, rfl⟩⟩⟩⟩⟩⟩⟩
      refine incat ⟨?_, ?_, ?_⟩
      exact holdT
      exact holdT
      refine WpA.oS 8 rfl (O.stA tb ⟨?_, ?_, ?_⟩)
      exact holdT
      exact holdT
      refine WpA.oS 9 rfl (O.stA tb ⟨?_, ?_, ?_⟩)
      exact holdT
      exact holdT
      refine WpA.ou ?_
      rotate_left
      refine O.al tb (fun p11 => ⟨?_, ?_, ?_⟩)
      exact holdT
      exact holdT
      refine WpA.e2 2 7 rfl rfl ?_ ?_
      refine Op1.callT rfl (hA1) (by (repeat (first | exact Sel.nil | exact Rem.here | apply Sel.cons | apply Rem.there))) ?_
      rintro v44 s45 ⟨ao47_38, ⟨len47_39, ⟨cap47_40, ⟨sl'47_41, ⟨g'47_42, ⟨hx43, ⟨rfl, rfl⟩⟩⟩⟩⟩⟩⟩
      refine incat ⟨?_, ?_, ?_⟩
      exact holdT
      exact holdT
      refine WpA.e2 5 7 rfl rfl ?_ ?_
      refine Op1.callT rfl (hA2 _ _ ?_) (by (repeat (first | exact Sel.nil | exact Rem.here | apply Sel.cons | apply Rem.there))) ?_
      (first | with_reducible assumption | omega | (simp only [List.length_append, List.length_cons, List.length_nil, List.length_map] at *; omega) | (focus (simp; done)))
      rintro v52 s53 ⟨ao50_46, ⟨len50_47, ⟨cap50_48, ⟨sl'50_49, ⟨g'50_50, ⟨hx51, ⟨rfl, rfl⟩⟩⟩⟩⟩⟩⟩
      refine incat ⟨?_, ?_, ?_⟩
      exact holdT
      exact holdT
      refine WpA.oS 7 rfl (O.al tb (fun p12 => ⟨?_, ?_, ?_⟩))
      exact holdT
      exact holdT
      refine WpA.oS 8 rfl (O.stA tb ⟨?_, ?_, ?_⟩)
      exact holdT
      exact holdT
      refine WpA.oS 9 rfl (O.stA tb ⟨?_, ?_, ?_⟩)
      exact holdT
      exact holdT
      refine WpA.ou ?_
      rotate_left
      refine O.al tb (fun p12 => ⟨?_, ?_, ?_⟩)
      exact holdT
      exact holdT
      refine WpA.oS 5 rfl (Op1.callT rfl (hA2 _ _ ?_) (by (repeat (first | exact Sel.nil | exact Rem.here | apply Sel.cons | apply Rem.there))) ?_)
      (first | with_reducible assumption | omega | (simp only [List.length_append, List.length_cons, List.length_nil, List.length_map] at *; omega) | (focus (simp; done)))
      rintro v60 s61 ⟨ao50_54, ⟨len50_55, ⟨cap50_56, ⟨sl'50_57, ⟨g'50_58, ⟨hx59, ⟨rfl, rfl⟩⟩⟩⟩⟩⟩⟩
      refine incat ⟨?_, ?_, ?_⟩
      exact holdT
      exact holdT
      refine WpA.oS 8 rfl (O.stA tb ⟨?_, ?_, ?_⟩)
      exact holdT
      exact holdT
      refine WpA.oS 9 rfl (O.stA tb ⟨?_, ?_, ?_⟩)
      exact holdT
      exact holdT
      refine WpA.ou ?_
      rotate_left
      refine O.al tb (fun p12 => ⟨?_, ?_, ?_⟩)
      exact holdT
      exact holdT
      refine WpA.oS 2 rfl (Op1.callT rfl (hA1) (by (repeat (first | exact Sel.nil | exact Rem.here | apply Sel.cons | apply Rem.there))) ?_)
      rintro v68 s69 ⟨ao47_62, ⟨len47_63, ⟨cap47_64, ⟨sl'47_65, ⟨g'47_66, ⟨hx67, ⟨rfl, rfl⟩⟩⟩⟩⟩⟩⟩
      refine incat ⟨?_, ?_, ?_⟩
      exact holdT
      exact holdT
      refine WpA.oS 5 rfl (Op1.callT rfl (hA2 _ _ ?_) (by (repeat (first | exact Sel.nil | exact Rem.here | apply Sel.cons | apply Rem.there))) ?_)
      (first | with_reducible assumption | omega | (simp only [List.length_append, List.length_cons, List.length_nil, List.length_map] at *; omega) | (focus (simp; done)))
      rintro v76 s77 ⟨ao50_70, ⟨len50_71, ⟨cap50_72, ⟨sl'50_73, ⟨g'50_74, ⟨hx75, ⟨rfl, rfl⟩⟩⟩⟩⟩⟩⟩
      refine incat ⟨?_, ?_, ?_⟩
      exact holdT
      exact holdT
      refine WpA.oS 8 rfl (O.stA tb ⟨?_, ?_, ?_⟩)
      exact holdT
      exact holdT
      refine WpA.oS 9 rfl (O.stA tb ⟨?_, ?_, ?_⟩)
      exact holdT
      exact holdT
      refine WpA.ou ?_
      rotate_left
      refine O.al tb (fun p12 => ⟨?_, ?_, ?_⟩)
      exact holdT
      exact holdT
      refine WpA.e2 2 6 rfl rfl ?_ ?_
      refine Op1.callT rfl (hA1) (by (repeat (first | exact Sel.nil | exact Rem.here | apply Sel.cons | apply Rem.there))) ?_
      rintro v84 s85 ⟨ao47_78, ⟨len47_79, ⟨cap47_80, ⟨sl'47_81, ⟨g'47_82, ⟨hx83, ⟨rfl, rfl⟩⟩⟩⟩⟩⟩⟩
      refine incat ⟨?_, ?_, ?_⟩
      exact holdT
      exact holdT
      refine WpA.e2 5 6 rfl rfl ?_ ?_
      refine Op1.callT rfl (hA2 _ _ ?_) (by (repeat (first | exact Sel.nil | exact Rem.here | apply Sel.cons | apply Rem.there))) ?_
      (first | with_reducible assumption | omega | (simp only [List.length_append, List.length_cons, List.length_nil, List.length_map] at *; omega) | (focus (simp; done)))
      rintro v92 s93 ⟨ao50_86, ⟨len50_87, ⟨cap50_88, ⟨sl'50_89, ⟨g'50_90, ⟨hx91, ⟨rfl, rfl⟩⟩⟩⟩⟩⟩⟩
      refine incat ⟨?_, ?_, ?_⟩
      exact holdT
      exact holdT
      refine WpA.oS 6 rfl (O.al tb (fun p11 => ⟨?_, ?_, ?_⟩))
      exact holdT
      exact holdT
      refine WpA.oS 8 rfl (O.stA tb ⟨?_, ?_, ?_⟩)
      exact holdT
      exact holdT
      refine WpA.oS 9 rfl (O.stA tb ⟨?_, ?_, ?_⟩)
      exact holdT
      exact holdT
      refine WpA.ou ?_
      rotate_left
      refine O.al tb (fun p11 => ⟨?_, ?_, ?_⟩)
      exact holdT
      exact holdT
      refine WpA.oS 5 rfl (Op1.callT rfl (hA2 _ _ ?_) (by (repeat (first | exact Sel.nil | exact Rem.here | apply Sel.cons | apply Rem.there))) ?_)
      (first | with_reducible assumption | omega | (simp only [List.length_append, List.length_cons, List.length_nil, List.length_map] at *; omega) | (focus (simp; done)))
      rintro v100 s101 ⟨ao50_94, ⟨len50_95, ⟨cap50_96, ⟨sl'50_97, ⟨g'50_98, ⟨hx99, ⟨rfl, rfl⟩⟩⟩⟩⟩⟩⟩
      refine incat ⟨?_, ?_, ?_⟩
      exact holdT
      exact holdT
      refine WpA.oS 8 rfl (O.stA tb ⟨?_, ?_, ?_⟩)
      exact holdT
      exact holdT
      refine WpA.oS 9 rfl (O.stA tb ⟨?_, ?_, ?_⟩)
      exact holdT
      exact holdT
      refine WpA.ou ?_
      rotate_left
      refine O.al tb (fun p11 => ⟨?_, ?_, ?_⟩)
      exact holdT
      exact holdT
      refine WpA.oS 2 rfl (Op1.callT rfl (hA1) (by (repeat (first | exact Sel.nil | exact Rem.here | apply Sel.cons | apply Rem.there))) ?_)
      rintro v108 s109 ⟨ao47_102, ⟨len47_103, ⟨cap47_104, ⟨sl'47_105, ⟨g'47_106, ⟨hx107, ⟨rfl, rfl⟩⟩⟩⟩⟩⟩⟩
      refine incat ⟨?_, ?_, ?_⟩
      exact holdT
      exact holdT
      refine WpA.oS 5 rfl (Op1.callT rfl (hA2 _ _ ?_) (by (repeat (first | exact Sel.nil | exact Rem.here | apply Sel.cons | apply Rem.there))) ?_)
      (first | with_reducible assumption | omega | (simp only [List.length_append, List.length_cons, List.length_nil, List.length_map] at *; omega) | (focus (simp; done)))
      rintro v116 s117 ⟨ao50_110, ⟨len50_111, ⟨cap50_112, ⟨sl'50_113, ⟨g'50_114, ⟨hx115, ⟨rfl, rfl⟩⟩⟩⟩⟩⟩⟩
      refine incat ⟨?_, ?_, ?_⟩
      exact holdT
      exact holdT
      refine WpA.oS 8 rfl (O.stA tb ⟨?_, ?_, ?_⟩)
      exact holdT
      exact holdT
      refine WpA.oS 9 rfl (O.stA tb ⟨?_, ?_, ?_⟩)
      exact holdT
      exact holdT
      refine WpA.ou ?_
      rotate_left
      all_goals exact Out.ag hK2 ((_, _, _), (_, _, _), _, _, _, _) (by assumption) trivial
    · rintro ⟨⟨ao1, len1, cap1⟩, ⟨ao2, len2, cap2⟩, q11, q12, slA, gA⟩ hhA
      dsimp only at hhA
      dsimp only
      dsimp only [List.cons_append, List.nil_append]
      have hYA := hY1 slA gA hhA
      refine Wp.mt [12, 11, 8, 7, 5, 4] (fun (z : (Option Go.Addr × Nat × Nat) × (Option Go.Addr × Nat × Nat) × Nat × Nat × SM × GB) => HI sba.ss z.2.2.2.2.1 z.2.2.2.2.2) (fun z => [(13, Ptr z.2.2.1 0), (14, Ptr z.2.2.2.1 0)]) (fun z => [cells z.2.2.1 32 (ry.c (.slice z.1.1 z.1.2.1 z.1.2.2)), cells z.2.2.2.1 32 (rx.c (.slice z.2.1.1 z.2.1.2.1 z.2.1.2.2)), rows strc (.slice z.1.1 z.1.2.1 z.1.2.2) 9 1 ry.keys, rows strc (.slice z.2.1.1 z.2.1.2.1 z.2.1.2.2) 9 1 rx.keys, cells b31 96 (ClientMachine.c ⟨Ptr rb31 0, .map (some sm31), sba.cnt⟩), cells rb31 74 (RegistryRegistry.c ⟨.map (some rm31)⟩), mE rm31 sba.l, mS sm31 z.2.2.2.2.1, gE z.2.2.2.2.2]) (σ1 := [cells b31 96 (ClientMachine.c ⟨Ptr rb31 0, .map (some sm31), s.cnt⟩), cells rb31 74 (RegistryRegistry.c ⟨.map (some rm31)⟩), mE rm31 s.l, mS sm31 sl2, gE g2]) ?_ ?_
      · intro K2 hK2
        refine Wp.dG [] ?_ (List.Sublist.cons _ (List.Sublist.cons _ (List.Sublist.cons _ (List.Sublist.cons _ (List.Sublist.cons _ (List.Sublist.cons _ (List.Sublist.cons _ (List.Sublist.cons _ (List.Sublist.cons _ (List.Sublist.cons _ (List.Sublist.cons _ (List.Sublist.cons _ (List.Sublist.cons _ (List.Sublist.cons _ (List.Sublist.cons _ (List.Sublist.cons _ (List.Sublist.cons_cons _ (List.Sublist.cons_cons _ List.Sublist.slnil)))))))))))))))))) (List.Sublist.cons _ (List.Sublist.cons _ (List.Sublist.cons _ (List.Sublist.cons _ (List.Sublist.cons _ (List.Sublist.cons _ (List.Sublist.cons _ (List.Sublist.cons _ (List.Sublist.cons _ (List.Sublist.cons _ (List.Sublist.cons _ (List.Sublist.cons _ (List.Sublist.cons _ (List.Sublist.cons _ (List.Sublist.cons _ (List.Sublist.cons _ (List.Sublist.cons_cons _ (List.Sublist.cons_cons _ List.Sublist.slnil))))))))))))))))))
        refine WpA.tF 0 rfl (V.mv) ?_
        refine WpA.tF 1 rfl (V.ldA tb) ?_
        refine WpA.tF 3 rfl (V.mv) ?_
        refine WpA.tF 4 rfl (V.ldA tb) ?_
        refine WpA.e3 2 6 7 rfl rfl rfl ?_ ?_ ?_
        refine Op1.callT rfl (hB1) (by (repeat (first | exact Sel.nil | exact Rem.here | apply Sel.cons | apply Rem.there))) ?_
        rintro v1 s2 ⟨ao53, ⟨len53, ⟨cap53, ⟨sl'53, ⟨g'53, ⟨hx0, ⟨rfl, rfl⟩⟩⟩⟩⟩⟩⟩
        refine incat ⟨?_, ?_, ?_⟩
        exact holdT
        exact holdT
        refine WpA.e3 5 6 7 rfl rfl rfl ?_ ?_ ?_
        refine Op1.callT rfl (hB2 _ _ ?_) (by (repeat (first | exact Sel.nil | exact Rem.here | apply Sel.cons | apply Rem.there))) ?_
        (first | with_reducible assumption | omega | (simp only [List.length_append, List.length_cons, List.length_nil, List.length_map] at *; omega) | (focus (simp; done)))
        rintro v4 s5 ⟨ao56, ⟨len56, ⟨cap56, ⟨sl'56, ⟨g'56, ⟨hx3, ⟨rfl, rfl⟩⟩⟩⟩⟩⟩⟩
        refine incat ⟨?_, ?_, ?_⟩
        exact holdT
        exact holdT
        refine WpA.e2 6 7 rfl rfl ?_ ?_
        refine O.al tb (fun p13 => ⟨?_, ?_, ?_⟩)
        exact holdT
        exact holdT
        refine WpA.oS 7 rfl (O.al tb (fun p14 => ⟨?_, ?_, ?_⟩))
        exact holdT
        exact holdT
        refine WpA.oS 8 rfl (O.stA tb ⟨?_, ?_, ?_⟩)
        exact holdT
        exact holdT
        refine WpA.oS 9 rfl (O.stA tb ⟨?_, ?_, ?_⟩)
        exact holdT
        exact holdT
        refine WpA.ou ?_
        rotate_left
        refine O.al tb (fun p14 => ⟨?_, ?_, ?_⟩)
        exact holdT
        exact holdT
        refine WpA.oS 6 rfl (O.al tb (fun p13 => ⟨?_, ?_, ?_⟩))
        exact holdT
        exact holdT
        refine WpA.oS 8 rfl (O.stA tb ⟨?_, ?_, ?_⟩)
        exact holdT
        exact holdT
        refine WpA.oS 9 rfl (O.stA tb ⟨?_, ?_, ?_⟩)
        exact holdT
        exact holdT
        refine WpA.ou ?_
        rotate_left
        refine O.al tb (fun p13 => ⟨?_, ?_, ?_⟩)
        exact holdT
        exact holdT
        refine WpA.e2 5 7 rfl rfl ?_ ?_
        refine Op1.callT rfl (hB2 _ _ ?_) (by (repeat (first | exact Sel.nil | exact Rem.here | apply Sel.cons | apply Rem.there))) ?_
        (first | with_reducible assumption | omega | (simp only [List.length_append, List.length_cons, List.length_nil, List.length_map] at *; omega) | (focus (simp; done)))
        rintro v12 s13 ⟨ao56_6, ⟨len56_7, ⟨cap56_8, ⟨sl'56_9, ⟨g'56_10, ⟨hx11, ⟨rfl, rfl⟩⟩⟩⟩⟩⟩⟩
        refine incat ⟨?_, ?_, ?_⟩
        exact holdT
        exact holdT
        refine WpA.oS 7 rfl (O.al tb (fun p14 => ⟨?_, ?_, ?_⟩))
        exact holdT
        exact holdT
        refine WpA.oS 8 rfl (O.stA tb ⟨?_, ?_, ?_⟩)
        exact holdT
        exact holdT
        refine WpA.oS 9 rfl (O.stA tb ⟨?_, ?_, ?_⟩)
        exact holdT
        exact holdT
        refine WpA.ou ?_
        rotate_left
        refine O.al tb (fun p14 => ⟨?_, ?_, ?_⟩)
        exact holdT
        exact holdT
        refine WpA.oS 5 rfl (Op1.callT rfl (hB2 _ _ ?_) (by (repeat (first | exact Sel.nil | exact Rem.here | apply Sel.cons | apply Rem.there))) ?_)
        (first | with_reducible assumption | omega | (simp only [List.length_append, List.length_cons, List.length_nil, List.length_map] at *; omega) | (focus (simp; done)))
        rintro v20 s21 ⟨ao56_14, ⟨len56_15, ⟨cap56_16, ⟨sl'56_17, ⟨g'56_18, ⟨hx19, ⟨rfl, rfl⟩⟩⟩⟩⟩⟩⟩
        refine incat ⟨?_, ?_, ?_⟩
        exact holdT
        exact holdT
        refine WpA.oS 8 rfl (O.stA tb ⟨?_, ?_, ?_⟩)
        exact holdT
        exact holdT
        refine WpA.oS 9 rfl (O.stA tb ⟨?_, ?_, ?_⟩)
        exact holdT
        exact holdT
        refine WpA.ou ?_
        rotate_left
        refine O.al tb (fun p14 => ⟨?_, ?_, ?_⟩)
        exact holdT
        exact holdT
        refine WpA.e2 5 6 rfl rfl ?_ ?_
        refine Op1.callT rfl (hB2 _ _ ?_) (by (repeat (first | exact Sel.nil | exact Rem.here | apply Sel.cons | apply Rem.there))) ?_
        (first | with_reducible assumption | omega | (simp only [List.length_append, List.length_cons, List.length_nil, List.length_map] at *; omega) | (focus (simp; done)))
        rintro v28 s29 ⟨ao56_22, ⟨len56_23, ⟨cap56_24, ⟨sl'56_25, ⟨g'56_26, ⟨hx27, ⟨rfl, rfl⟩⟩⟩⟩⟩⟩⟩
        refine incat ⟨?_, ?_, ?_⟩
        exact holdT
        exact holdT
        refine WpA.oS 6 rfl (O.al tb (fun p13 => ⟨?_, ?_, ?_⟩))
        exact holdT
        exact holdT
        refine WpA.oS 8 rfl (O.stA tb ⟨?_, ?_, ?_⟩)
        exact holdT
        exact holdT
        refine WpA.oS 9 rfl (O.stA tb ⟨?_, ?_, ?_⟩)
        exact holdT
        exact holdT
        refine WpA.ou ?_
        rotate_left
        refine O.al tb (fun p13 => ⟨?_, ?_, ?_⟩)
        exact holdT
        exact holdT
        refine WpA.oS 5 rfl (Op1.callT rfl (hB2 _ _ ?_) (by (repeat (first | exact Sel.nil | exact Rem.here | apply Sel.cons | apply Rem.there))) ?_)
        (first | with_reducible assumption | omega | (simp only [List.length_append, List.length_cons, List.length_nil, List.length_map] at *; omega) | (focus (simp; done)))
        rintro v36 s37 ⟨ao56_30, ⟨len56_31, ⟨cap56_32, ⟨sl'56_33, ⟨g'56_34, ⟨hx35, ⟨rfl, rfl⟩⟩⟩⟩⟩⟩⟩
        refine incat ⟨?_, ?_, ?_⟩
        exact holdT
        exact holdT
        refine WpA.oS 8 rfl (O.stA tb ⟨?_, ?_, ?_⟩)
        exact holdT
        exact holdT
        refine WpA.oS 9 rfl (O.stA tb ⟨?_, ?_, ?_⟩)
        exact holdT
        exact holdT
        refine WpA.ou ?_
        rotate_left
        refine O.al tb (fun p13 => ⟨?_, ?_, ?_⟩)
        exact holdT
        exact holdT
        refine WpA.e2 2 7 rfl rfl ?_ ?_
        refine Op1.callT rfl (hB1) (by (repeat (first | exact Sel.nil | exact Rem.here | apply Sel.cons | apply Rem.there))) ?_
        rintro v44 s45 ⟨ao53_38, ⟨len53_39, ⟨cap53_40, ⟨sl'53_41, ⟨g'53_42, ⟨hx43, ⟨rfl, rfl⟩⟩⟩⟩⟩⟩⟩
        refine incat ⟨?_, ?_, ?_⟩
        exact holdT
        exact holdT
        refine WpA.e2 5 7 rfl rfl ?_ ?_
        refine Op1.callT rfl (hB2 _ _ ?_) (by (repeat (first | exact Sel.nil | exact Rem.here | apply Sel.cons | apply Rem.there))) ?_
        (first | with_reducible assumption | omega | (simp only [List.length_append, List.length_cons, List.length_nil, List.length_map] at *; omega) | (focus (simp; done)))
        rintro v52 s53 ⟨ao56_46, ⟨len56_47, ⟨cap56_48, ⟨sl'56_49, ⟨g'56_50, ⟨hx51, ⟨rfl, rfl⟩⟩⟩⟩⟩⟩⟩
        refine incat ⟨?_, ?_, ?_⟩
        exact holdT
        exact holdT
        refine WpA.oS 7 rfl (O.al tb (fun p14 => ⟨?_, ?_, ?_⟩))
        exact holdT
        exact holdT
        refine WpA.oS 8 rfl (O.stA tb ⟨?_, ?_, ?_⟩)
        exact holdT
        exact holdT
        refine WpA.oS 9 rfl (O.stA tb ⟨?_, ?_, ?_⟩)
        exact holdT
        exact holdT
        refine WpA.ou ?_
        rotate_left
        refine O.al tb (fun p14 => ⟨?_, ?_, ?_⟩)
        exact holdT
        exact holdT
        refine WpA.oS 5 rfl (Op1.callT rfl (hB2 _ _ ?_) (by (repeat (first | exact Sel.nil | exact Rem.here | apply Sel.cons | apply Rem.there))) ?_)
        (first | with_reducible assumption | omega | (simp only [List.length_append, List.length_cons, List.length_nil, List.length_map] at *; omega) | (focus (simp; done)))
        rintro v60 s61 ⟨ao56_54, ⟨len56_55, ⟨cap56_56, ⟨sl'56_57, ⟨g'56_58, ⟨hx59, ⟨rfl, rfl⟩⟩⟩⟩⟩⟩⟩
        refine incat ⟨?_, ?_, ?_⟩
        exact holdT
        exact holdT
        refine WpA.oS 8 rfl (O.stA tb ⟨?_, ?_, ?_⟩)
        exact holdT
        exact holdT
        refine WpA.oS 9 rfl (O.stA tb ⟨?_, ?_, ?_⟩)
        exact holdT
        exact holdT
        refine WpA.ou ?_
        rotate_left
        refine O.al tb (fun p14 => ⟨?_, ?_, ?_⟩)
        exact holdT
        exact holdT
        refine WpA.oS 2 rfl (Op1.callT rfl (hB1) (by (repeat (first | exact Sel.nil | exact Rem.here | apply Sel.cons | apply Rem.there))) ?_)
        rintro v68 s69 ⟨ao53_62, ⟨len53_63, ⟨cap53_64, ⟨sl'53_65, ⟨g'53_66, ⟨hx67, ⟨rfl, rfl⟩⟩⟩⟩⟩⟩⟩
        refine incat ⟨?_, ?_, ?_⟩
        exact holdT
        exact holdT
        refine WpA.oS 5 rfl (Op1.callT rfl (hB2 _ _ ?_) (by (repeat (first | exact Sel.nil | exact Rem.here | apply Sel.cons | apply Rem.there))) ?_)
        (first | with_reducible assumption | omega | (simp only [List.length_append, List.length_cons, List.length_nil, List.length_map] at *; omega) | (focus (simp; done)))
        rintro v76 s77 ⟨ao56_70, ⟨len56_71, ⟨cap56_72, ⟨sl'56_73, ⟨g'56_74, ⟨hx75, ⟨rfl, rfl⟩⟩⟩⟩⟩⟩⟩
        refine incat ⟨?_, ?_, ?_⟩
        exact holdT
        exact holdT
        refine WpA.oS 8 rfl (O.stA tb ⟨?_, ?_, ?_⟩)
        exact holdT
        exact holdT
        refine WpA.oS 9 rfl (O.stA tb ⟨?_, ?_, ?_⟩)
        exact holdT
        exact holdT
        refine WpA.ou ?_
        rotate_left
        refine O.al tb (fun p14 => ⟨?_, ?_, ?_⟩)
        exact holdT
        exact holdT
        refine WpA.e2 2 6 rfl rfl ?_ ?_
        refine Op1.callT rfl (hB1) (by (repeat (first | exact Sel.nil | exact Rem.here | apply Sel.cons | apply Rem.there))) ?_
        rintro v84 s85 ⟨ao53_78, ⟨len53_79, ⟨cap53_80, ⟨sl'53_81, ⟨g'53_82, ⟨hx83, ⟨rfl, rfl⟩⟩⟩⟩⟩⟩⟩
        refine incat ⟨?_, ?_, ?_⟩
        exact holdT
        exact holdT
        refine WpA.e2 5 6 rfl rfl ?_ ?_
        refine Op1.callT rfl (hB2 _ _ ?_) (by (repeat (first | exact Sel.nil | exact Rem.here | apply Sel.cons | apply Rem.there))) ?_
        (first | with_reducible assumption | omega | (simp only [List.length_append, List.length_cons, List.length_nil, List.length_map] at *; omega) | (focus (simp; done)))
        rintro v92 s93 ⟨ao56_86, ⟨len56_87, ⟨cap56_88, ⟨sl'56_89, ⟨g'56_90, ⟨hx91, ⟨rfl, rfl⟩⟩⟩⟩⟩⟩⟩
        refine incat ⟨?_, ?_, ?_⟩
        exact holdT
        exact holdT
        refine WpA.oS 6 rfl (O.al tb (fun p13 => ⟨?_, ?_, ?_⟩))
        exact holdT
        exact holdT
        refine WpA.oS 8 rfl (O.stA tb ⟨?_, ?_, ?_⟩)
        exact holdT
        exact holdT
        refine WpA.oS 9 rfl (O.stA tb ⟨?_, ?_, ?_⟩)
        exact holdT
        exact holdT
        refine WpA.ou ?_
        rotate_left
        refine O.al tb (fun p13 => ⟨?_, ?_, ?_⟩)
        exact holdT
        exact holdT
        refine WpA.oS 5 rfl (Op1.callT rfl (hB2 _ _ ?_) (by (repeat (first | exact Sel.nil | exact Rem.here | apply Sel.cons | apply Rem.there))) ?_)
        (first | with_reducible assumption | omega | (simp only [List.length_append, List.length_cons, List.length_nil, List.length_map] at *; omega) | (focus (simp; done)))
        rintro v100 s101 ⟨ao56_94, ⟨len56_95, ⟨cap56_96, ⟨sl'56_97, ⟨g'56_98, ⟨hx99, ⟨rfl, rfl⟩⟩⟩⟩⟩⟩⟩
        refine incat ⟨?_, ?_, ?_⟩
        exact holdT
        exact holdT
        refine WpA.oS 8 rfl (O.stA tb ⟨?_, ?_, ?_⟩)
        exact holdT
        exact holdT
        refine WpA.oS 9 rfl (O.stA tb ⟨?_, ?_, ?_⟩)
        exact holdT
        exact holdT
        refine WpA.ou ?_
        rotate_left
        refine O.al tb (fun p13 => ⟨?_, ?_, ?_⟩)
        exact holdT
        exact holdT
        refine WpA.oS 2 rfl (Op1.callT rfl (hB1) (by (repeat (first | exact Sel.nil | exact Rem.here | apply Sel.cons | apply Rem.there))) ?_)
        rintro v108 s109 ⟨ao53_102, ⟨len53_103, ⟨cap53_104, ⟨sl'53_105, ⟨g'53_106, ⟨hx107, ⟨rfl, rfl⟩⟩⟩⟩⟩⟩⟩
        refine incat ⟨?_, ?_, ?_⟩
        exact holdT
        exact holdT
        refine WpA.oS 5 rfl (Op1.callT rfl (hB2 _ _ ?_) (by (repeat (first | exact Sel.nil | exact Rem.here | apply Sel.cons | apply Rem.there))) ?_)
        (first | with_reducible assumption | omega | (simp only [List.length_append, List.length_cons, List.length_nil, List.length_map] at *; omega) | (focus (simp; done)))
        rintro v116 s117 ⟨ao56_110, ⟨len56_111, ⟨cap56_112, ⟨sl'56_113, ⟨g'56_114, ⟨hx115, ⟨rfl, rfl⟩⟩⟩⟩⟩⟩⟩
        refine incat ⟨?_, ?_, ?_⟩
        exact holdT
        exact holdT
        refine WpA.oS 8 rfl (O.stA tb ⟨?_, ?_, ?_⟩)
        exact holdT
        exact holdT
        refine WpA.oS 9 rfl (O.stA tb ⟨?_, ?_, ?_⟩)
        exact holdT
        exact holdT
        refine WpA.ou ?_
        rotate_left
        all_goals exact Out.ag hK2 ((_, _, _), (_, _, _), _, _, _, _) (by assumption) trivial
      · rintro ⟨⟨ao3, len3, cap3⟩, ⟨ao4, len4, cap4⟩, q13, q14, slB, gB⟩ hhB
        dsimp only at hhB
        dsimp only
        dsimp only [List.cons_append, List.nil_append]
        have hYB := hY2 slB gB hhB
        have hS1 := sameC rx (.slice ao1 len1 cap1) (.slice ao4 len4 cap4)
        have hS2 := sameC ry (.slice ao2 len2 cap2) (.slice ao3 len3 cap3)
        apply Wp.seq
        apply Wp.region
        refine WpL.v (V.ldA tb) ?_
        refine WpL.v (V.ldA tb) ?_
        refine WpL.o (Op1.callT rfl (hS1) (by (repeat (first | exact Sel.nil | exact Rem.here | apply Sel.cons | apply Rem.there))) ?_)
        rintro v0 s1 ⟨rfl, rfl⟩
        refine incat ?_
        refine WpL.v (V.mv) ?_
        refine WpL.v (V.ldA tb) ?_
        refine WpL.v (V.ldA tb) ?_
        refine WpL.o (Op1.callT rfl (hS2) (by (repeat (first | exact Sel.nil | exact Rem.here | apply Sel.cons | apply Rem.there))) ?_)
        rintro v2 s3 ⟨rfl, rfl⟩
        refine incat ?_
        refine WpL.v (V.pT) ?_
        refine WpL.v (V.mv) ?_
        refine WpL.v (V.mv) ?_
        refine WpL.o (Op1.callT rfl (hYA) (by (repeat (first | exact Sel.nil | exact Rem.here | apply Sel.cons | apply Rem.there))) ?_)
        rintro v4 s5 ⟨rfl, rfl⟩
        refine incat ?_
        refine WpL.v (V.mv) ?_
        refine WpL.o (Op1.callT rfl (hYB) (by (repeat (first | exact Sel.nil | exact Rem.here | apply Sel.cons | apply Rem.there))) ?_)
        rintro v6 s7 ⟨rfl, rfl⟩
        refine incat ?_
        refine WpL.v (V.cmpS) ?_
        refine WpL.v (V.pT) ?_
        refine WpL.v (V.as) ?_
        apply WpL.nil
        apply Out.seqN
        apply Wp.ret
        refine Out.f1 rfl ResIs.t ⟨?_, rfl⟩
        · simp
open Go Go.ChangeShapes Go.WideShapes Go.ChangeAt Go.RowKit
theorem clientApart_read : (Try.f11.params.toList.all fun t => Try.prog.readableRec t && decide (t < Try.prog.types.size)) = true := by kernel_rfl
theorem clientApart_lifted (os : Go.Os) (started : os.Started) (H : Type) (enc : Go.TypeId × Go.Value → H) :
    ReturnsInHanded {} Try.checked os 11 .any (Rows.clientApartSpec.pre6 enc Try.prog Try.f11 Rows.clientApartRow.domain false) (Rows.clientApartSpec.post enc Try.prog Try.f11 false true false false) := by
  refine returnsInHanded_of_change_sized (C := Try.checked) own started (by kernel_rfl) Try.func11
    (ChangeSpec.witness6 (enc := enc) (C := Try.checked) false ⟨#[], #[.slice none 0 0, A TDeed.z.c, A TDeed.z.c], []⟩ 8 (by kernel_rfl) (by kernel_rfl) (by kernel_rfl) (by kernel_rfl)) ?_
  intro W base args ds gs before hval0 hW hcnd hsz0 _
  have hsz : (DataW.weightsEach Try.prog (Try.f11.params.toList ++ Rows.clientApartSpec.plain.varTypes Try.prog) (ds ++ gs)).all (· ≤ reachBytes) = true := hsz0
  have hval : ∀ (j : Nat) t v, Try.f11.params[j]? = some t → args[j]? = some v → Value.okWide Try.prog W .any base t v := hval0
  have hW' := hW
  obtain ⟨p, q, hA0, hV, rfl, hfz, hnd⟩ := hW
  have hA1 : DataW.TrodAll enc Try.prog W 0 (fun _ => true) true Try.f11.params.toList args.toList ds p := hA0
  have hA := hA1
  rw [Try.params11] at hA hval hsz
  obtain ⟨v0, vs0, d0, ds0, p0, q0, hargs, rfl, rfl, h0, r0⟩ := trodAll_cons hA
  obtain ⟨v1, vs1, d1, ds1, p1, q1, rfl, rfl, rfl, h1, r1⟩ := trodAll_cons r0
  obtain ⟨v2, vs2, d2, ds2, p2, q2, rfl, rfl, rfl, h2, r2⟩ := trodAll_cons r1
  obtain ⟨rfl, rfl, rfl⟩ := trodAll_nil r2
  obtain rfl : args = #[v0, v1, v2] := by cases args; simp_all
  obtain ⟨rfl, rfl⟩ := trodVars_none hV
  obtain ⟨ao0, b0, off0, len0, cap0, xs0, rfl, hl0, hlc0, hcm0, ha0, hs0, hf0, hby0⟩ := open_slice_plain Try.underlying22 TDeed.leaves (by kernel_rfl) (by decide) (hval 0 22 v0 rfl rfl) h0 (sizedAll hsz 0 rfl rfl)
  obtain ⟨x0, rfl, w0⟩ := fits_map TDeed.c TDeed.wf hf0 TDeed.fit
  obtain rfl : len0 = x0.length := by simpa using hl0.symm
  obtain ⟨c1, rfl, f1⟩ := open_plain TDeed.leaves ⟨_, Try.underlying28⟩ (hval 1 28 v1 rfl rfl) h1 (sizedAll hsz 1 rfl rfl)
  obtain ⟨x1, rfl, w1⟩ := TDeed.fit f1
  obtain ⟨c2, rfl, f2⟩ := open_plain TDeed.leaves ⟨_, Try.underlying28⟩ (hval 2 28 v2 rfl rfl) h2 (sizedAll hsz 2 rfl rfl)
  obtain ⟨x2, rfl, w2⟩ := TDeed.fit f2
  simp only [List.append_nil] at hW' hA1
  have hbl : ∀ p : Nat × Nat, p ∈ [(x0.length, b0)] → 0 < p.1 → p.2 < W.heap.size := by
    intro p hp h0
    simp only [List.mem_cons, List.mem_nil_iff, or_false] at hp
    rcases hp with rfl
    · exact (ha0 h0).2
  have hR0 : Rd (snap W (blocksOf [(x0.length, b0)])) ao0 x0.length b0 off0 6 (x0.map TDeed.c) := Rd.snap (by simp) (Nat.le_trans hlc0 hcm0) ha0 hs0 (fun h => blocksOf_mem (len := x0.length) (by simp) h)
  refine (Ct.runSnap (blocksOf_nodup _) (blocksOf_lt hbl) (clientApart_walk _ _ _ _ _ x0 x1 x2 (fun x hx => ⟨(w0 x hx).2.1, (w0 x hx).2.2.1⟩) ⟨w1.2.1, w1.2.2.1⟩ ⟨w2.2.1, w2.2.2.1⟩ hR0)).mono fun e W' hh => ?_
  obtain ⟨rfl, hS⟩ := hh
  exact ⟨_, rfl, post_law (P := Try.prog) (f := Try.f11) (tbool := 4) hW' hA1 rfl rfl hS laid clientApart_read rfl Try.underlying4⟩
theorem clientApart_joined : joinedFacts Try.prog 11 Try.f11 Rows.clientApartSpec Rows.clientApartRow = true := by
  unfold joinedFacts
  rewrite [head_enter, head_lift, head_make]
  kernel_rfl
theorem clientApart_over : Rows.clientApartRow.holds Try.pinned (OpenSpec.ofChange Rows.clientApartSpec) :=
  OpenClaim.holds_of_wide 11 Try.f11 rfl rfl rfl rfl rfl rfl rfl ⟨rfl, rfl, rfl, rfl, rfl⟩ rfl rfl rfl rfl rfl (by kernel_rfl) Try.func11 clientApart_joined
    (of_decide_eq_true (by kernel_rfl)) (by unfold Func.isWrapper; first | (rw [if_pos (by decide +kernel)]; kernel_rfl) | (rw [if_neg (by decide +kernel)]; exact ⟨rfl, rfl⟩))
    (fun os started H enc _ => clientApart_lifted os started H enc)
/-- THE STATEMENT. -/
theorem clientApart_proved : Rows.ClientApartSaid := clientApart_over
#print axioms clientApart_proved

end Go.Proofs.Ytgihkocnmgkihaa
