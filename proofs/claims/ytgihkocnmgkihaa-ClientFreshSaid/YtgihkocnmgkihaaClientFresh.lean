/-
  The statement ClientFresh of layer 21: sessions know nothing of one another's numbers: a session's first number is done, whatever others did, and what it is told is what the registry would tell. Proved for every input.
-/
import Derived.Test.YtgihkocnmgkihaaHead
import Derived.Test.YtgihkocnmgkihaaCfr
namespace Go.Proofs.Ytgihkocnmgkihaa
open Go.HL
set_option linter.unusedSimpArgs false
set_option linter.unusedVariables false
set_option maxRecDepth 8000
structure CF21 where
  k : Nat
  s : CS
  sl1 : SM
  g1 : GB
  sl2 : SM
  g2 : GB
theorem sameF (x : RV) (v v' : Go.Value) : Ct Try.prog 16 [A (x.c v), A (x.c v')] [rows strc v 9 1 x.keys, rows strc v' 9 1 x.keys] (fun r σ' => r = B true ∧ σ' = [rows strc v 9 1 x.keys, rows strc v' 9 1 x.keys]) := by
  refine Ct.mono (same_rows ⟨x.err, x.val, x.ver, v⟩ ⟨x.err, x.val, x.ver, v'⟩ x.keys x.keys) ?_
  rintro r σ' ⟨rfl, rfl⟩
  exact ⟨by simp [sameR], rfl⟩
set_option maxHeartbeats 8000000 in
theorem clientFresh_walk (e : Ent) (ao : Option Go.Addr) (cap b off : Nat) (xs : List TDeed) (d1 : TDeed) (hw : ∀ x ∈ xs, x.Key.length ≤ 140737488351232 ∧ x.Value.length ≤ 140737488351232) (hd1 : d1.Key.length ≤ 140737488351232 ∧ d1.Value.length ≤ 140737488351232) (hR : Rd e ao xs.length b off 6 (xs.map TDeed.c)) :
    Ct Try.prog 8 [.slice ao xs.length cap, A d1.c] [e] (fun r σ' => r = B true ∧ σ' = [e]) := by
  have hm := hR.small
  simp only [Go.maxLen] at hm
  have hG := great21z e ao cap b off xs hw hR
  have hG1 (g : Nat) := great21z (row (.slice (some ⟨g, 0, none⟩) 1 1) 28 6 1 d1.c) (some ⟨g, 0, none⟩) 1 g 0 [d1] (by intro q hq; simp at hq; rcases hq with rfl; assumption) (Rd.lits (E := 28) (cap := 1) TDeed.c [d1] rfl (by simp) TDeed.len (by simp))
  have hN := client_new2
  have hC := ref_good d1
  unfold cmE at hN
  refine Ct.enter Try.func8 rfl rfl fun W => ?_
  apply Wp.seq
  apply Wp.region
  refine WpL.o (O.bxA (fun p3 => ?_))
  refine WpL.v (V.as) ?_
  apply WpL.nil
  apply Out.seqN
  apply Wp.seq
  apply Wp.seq
  apply Wp.region
  refine WpL.o (Op1.fn rfl (alive21) ?_)
  refine WpL.v (V.not) ?_
  apply WpL.nil
  apply Out.seqN
  refine Wp.cF ?_
  apply Wp.skip
  apply Out.seqN
  apply Wp.seq
  apply Wp.seq
  apply Wp.region
  refine WpL.v (V.mv) ?_
  refine WpL.o (Op1.callT rfl (hG) (by (repeat (first | exact Sel.nil | exact Rem.here | apply Sel.cons | apply Rem.there))) ?_)
  rintro v1 s2 ⟨t13, ⟨hx0, ⟨rfl, rfl⟩⟩⟩
  refine incat ?_
  refine WpL.v (V.mv) ?_
  refine WpL.pt (fun hp03 => ?_) (fun hp03 => ?_)
  (try simp only [decide_eq_true_eq, decide_eq_false_iff_not, Bool.not_eq_true', Bool.not_eq_false', Bool.not_eq_true, Bool.not_eq_false, not_true_eq_false, not_false_eq_true, reduceCtorEq] at hp03)
  refine WpL.sk ?_
  refine WpL.sk ?_
  refine WpL.sk ?_
  refine WpL.v (V.pT) ?_
  refine WpL.v (V.mv) ?_
  refine WpL.sk ?_
  refine WpL.sk ?_
  refine WpL.sk ?_
  refine WpL.v (V.pT) ?_
  apply WpL.nil
  apply Out.seqN
  refine Wp.cT ?_
  apply Wp.seq
  apply Wp.region
  refine WpL.v (V.as) ?_
  apply WpL.nil
  apply Out.seqN
  apply Wp.ret
  apply Out.seqR
  refine Out.f1 rfl ResIs.t ⟨?_, rfl⟩
  exact rfl
  (try simp only [decide_eq_true_eq, decide_eq_false_iff_not, Bool.not_eq_true', Bool.not_eq_false', Bool.not_eq_true, Bool.not_eq_false, not_true_eq_false, not_false_eq_true, reduceCtorEq] at hp03)
  refine WpL.v (V.ldA tb) ?_
  refine WpL.o (O.lit tb (fun p16 => ?_))
  refine WpL.o (Op1.callT rfl (hG1 _) (by (repeat (first | exact Sel.nil | exact Rem.here | apply Sel.cons | apply Rem.there))) ?_)
  rintro v5 s6 ⟨t17, ⟨hx4, ⟨rfl, rfl⟩⟩⟩
  refine incat ?_
  refine WpL.v (V.pF) ?_
  refine WpL.v (V.mv) ?_
  refine WpL.pt (fun hp07 => ?_) (fun hp07 => ?_)
  (try simp only [decide_eq_true_eq, decide_eq_false_iff_not, Bool.not_eq_true', Bool.not_eq_false', Bool.not_eq_true, Bool.not_eq_false, not_true_eq_false, not_false_eq_true, reduceCtorEq] at hp07)
  refine WpL.sk ?_
  refine WpL.sk ?_
  refine WpL.sk ?_
  refine WpL.v (V.pT) ?_
  apply WpL.nil
  apply Out.seqN
  refine Wp.cT ?_
  apply Wp.seq
  apply Wp.region
  refine WpL.v (V.as) ?_
  apply WpL.nil
  apply Out.seqN
  apply Wp.ret
  apply Out.seqR
  refine Out.f1 rfl ResIs.t ⟨?_, rfl⟩
  exact rfl
  (try simp only [decide_eq_true_eq, decide_eq_false_iff_not, Bool.not_eq_true', Bool.not_eq_false', Bool.not_eq_true, Bool.not_eq_false, not_true_eq_false, not_false_eq_true, reduceCtorEq] at hp07)
  refine WpL.v (V.ldA tb) ?_
  refine WpL.o (Op1.fn rfl (hC) ?_)
  refine WpL.v (V.not) ?_
  refine WpL.v (V.pF) ?_
  apply WpL.nil
  apply Out.seqN
  refine Wp.c (fun hp08 => ?_) (fun hp08 => ?_)
  (try simp only [decide_eq_true_eq, decide_eq_false_iff_not, Bool.not_eq_true', Bool.not_eq_false', Bool.not_eq_true, Bool.not_eq_false, not_true_eq_false, not_false_eq_true, reduceCtorEq] at hp08)
  apply Wp.seq
  apply Wp.region
  refine WpL.v (V.as) ?_
  apply WpL.nil
  apply Out.seqN
  apply Wp.ret
  apply Out.seqR
  refine Out.f1 rfl ResIs.t ⟨?_, rfl⟩
  exact rfl
  (try simp only [decide_eq_true_eq, decide_eq_false_iff_not, Bool.not_eq_true', Bool.not_eq_false', Bool.not_eq_true, Bool.not_eq_false, not_true_eq_false, not_false_eq_true, reduceCtorEq] at hp08)
  apply Wp.skip
  apply Out.seqN
  apply Wp.seq
  apply Wp.region
  refine WpL.o (Op1.callT rfl (hN) (by (repeat (first | exact Sel.nil | exact Rem.here | apply Sel.cons | apply Rem.there))) ?_)
  rintro v9 s10 ⟨b24, ⟨rb24, ⟨rm24, ⟨sm24, ⟨rfl, rfl⟩⟩⟩⟩⟩
  refine incat ?_
  refine WpL.o (Op1.callT rfl (hN) (by (repeat (first | exact Sel.nil | exact Rem.here | apply Sel.cons | apply Rem.there))) ?_)
  rintro v11 s12 ⟨b25, ⟨rb25, ⟨rm25, ⟨sm25, ⟨rfl, rfl⟩⟩⟩⟩⟩
  refine incat ?_
  refine WpL.v (V.as) ?_
  refine WpL.v (V.as) ?_
  apply WpL.nil
  apply Out.seqN
  apply Wp.seq
  apply Wp.seq
  apply Wp.region
  refine WpL.v (V.mv) ?_
  refine WpL.v (V.lenL tb) ?_
  refine WpL.v (V.mv) ?_
  apply WpL.nil
  apply Out.seqN
  apply Wp.block
  have hgd : goodD d1 = true := by assumption
  obtain ⟨hx80, hxs⟩ := hx0 (by assumption)
  have hds1 := (hx4 (by assumption)).2 d1 (by simp)
  refine Wp.lp [27, 26, 6, 5, 3] (fun y : CF21 => y.k ≤ xs.length ∧ CI y.k y.s ∧ CZ y.s ∧ HI y.s.ss y.sl1 y.g1 ∧ HI y.s.ss y.sl2 y.g2 ∧ (d1.Session ≠ 0 → mget y.s.ss d1.Session = none)) (fun y => [(28, I (y.k : Int))]) (fun y => [cells b24 96 (ClientMachine.c ⟨Ptr rb24 0, .map (some sm24), y.s.cnt⟩), cells rb24 74 (RegistryRegistry.c ⟨.map (some rm24)⟩), mE rm24 y.s.l, mS sm24 y.sl1, gE y.g1, cells b25 96 (ClientMachine.c ⟨Ptr rb25 0, .map (some sm25), y.s.cnt⟩), cells rb25 74 (RegistryRegistry.c ⟨.map (some rm25)⟩), mE rm25 y.s.l, mS sm25 y.sl2, gE y.g2]) (fun y => xs.length - y.k) ⟨0, CS.z, [], [], [], []⟩ ⟨Nat.zero_le _, CI.zero, CZ.zero, HI.zero, HI.zero, fun _ => mget_nil _⟩ ?_
  rintro ⟨k, s, sl1, g1, sl2, g2⟩ ⟨hk, hi, hz, hh1, hh2, hfr⟩ K hK
  dsimp only at hk hi hz hh1 hh2 hfr
  dsimp only [List.cons_append, List.nil_append]
  by_cases hlt : k < xs.length
  · obtain ⟨x, hx⟩ := getS hlt
    have hA := client_do b24 rb24 rm24 sm24 k s sl1 g1 x hi hh1 (by omega)
    have hB := client_do b25 rb25 rm25 sm25 k s sl2 g2 x hi hh2 (by omega)
    unfold cmE RV.c at hA hB
    have hi2 := hi.do_ x
    have hz2 := hz.do_ hi (by omega) (hxs x (List.mem_of_getElem? hx))
    apply Wp.seq
    apply Wp.region
    refine WpL.v (V.cmp) ?_
    apply WpL.nil
    apply Out.seqN
    apply Wp.seq
    refine Wp.c (fun hp10 => ?_) (fun hp10 => ?_)
    (try simp only [decide_eq_true_eq, decide_eq_false_iff_not, Bool.not_eq_true', Bool.not_eq_false', Bool.not_eq_true, Bool.not_eq_false, not_true_eq_false, not_false_eq_true, reduceCtorEq] at hp10)
    apply Wp.skip
    apply Out.seqN
    apply Wp.seq
    apply Wp.block
    apply Wp.seq
    apply Wp.region
    refine WpL.v (V.ixR tb rfl rfl (by assumption)) ?_
    refine WpL.v (V.ldRA tb rfl (by assumption) (getMapS (by assumption))) ?_
    refine WpL.o (O.al tb (fun p8 => ?_))
    refine WpL.o (O.stA tb ?_)
    apply WpL.nil
    apply Out.seqN
    apply Wp.seq
    apply Wp.seq
    apply Wp.region
    refine WpL.v (V.fa tb) ?_
    refine WpL.v (V.ld1 tb) ?_
    refine WpL.v (V.fa tb) ?_
    refine WpL.v (V.ld1 tb) ?_
    refine WpL.v (V.cmp) ?_
    refine WpL.v (V.mv) ?_
    refine WpL.pt (fun hp11 => ?_) (fun hp11 => ?_)
    (try simp only [decide_eq_true_eq, decide_eq_false_iff_not, Bool.not_eq_true', Bool.not_eq_false', Bool.not_eq_true, Bool.not_eq_false, not_true_eq_false, not_false_eq_true, reduceCtorEq] at hp11)
    refine WpL.v (V.fa tb) ?_
    refine WpL.v (V.ld1 tb) ?_
    refine WpL.v (V.cmp) ?_
    refine WpL.v (V.pT) ?_
    apply WpL.nil
    apply Out.seqN
    refine Wp.c (fun hp12 => ?_) (fun hp12 => ?_)
    (try simp only [decide_eq_true_eq, decide_eq_false_iff_not, Bool.not_eq_true', Bool.not_eq_false', Bool.not_eq_true, Bool.not_eq_false, not_true_eq_false, not_false_eq_true, reduceCtorEq] at hp12)
    apply Wp.seq
    apply Wp.region
    refine WpL.v (V.as) ?_
    apply WpL.nil
    apply Out.seqN
    apply Wp.ret
    apply Out.seqR
    apply Out.blockR
    apply Out.seqR
    apply Out.seqR
    apply Out.blockR
    apply Out.seqR
    refine Out.f1 rfl ResIs.t ⟨?_, rfl⟩
    exact rfl
    (try simp only [decide_eq_true_eq, decide_eq_false_iff_not, Bool.not_eq_true', Bool.not_eq_false', Bool.not_eq_true, Bool.not_eq_false, not_true_eq_false, not_false_eq_true, reduceCtorEq] at hp12)
    apply Wp.skip
    apply Out.seqN
    apply Wp.seq
    apply Wp.region
    refine WpL.v (V.mv) ?_
    refine WpL.v (V.ldA tb) ?_
    refine WpL.o (Op1.callT rfl (hA) (by (repeat (first | exact Sel.nil | exact Rem.here | apply Sel.cons | apply Rem.there))) ?_)
    rintro v4 s5 ⟨ao44, ⟨len44, ⟨cap44, ⟨sl'44, ⟨g'44, ⟨hx3, ⟨rfl, rfl⟩⟩⟩⟩⟩⟩⟩
    refine incat ?_
    apply WpL.nil
    apply Out.seqN
    apply Wp.region
    refine WpL.v (V.mv) ?_
    refine WpL.v (V.ldA tb) ?_
    refine WpL.o (Op1.callT rfl (hB) (by (repeat (first | exact Sel.nil | exact Rem.here | apply Sel.cons | apply Rem.there))) ?_)
    rintro v7 s8 ⟨ao47, ⟨len47, ⟨cap47, ⟨sl'47, ⟨g'47, ⟨hx6, ⟨rfl, rfl⟩⟩⟩⟩⟩⟩⟩
    refine incat ?_
    apply WpL.nil
    apply Out.blockN
    apply Out.seqN
    apply Wp.region
    refine WpL.v (V.add) ?_
    refine WpL.v (V.mv) ?_
    apply WpL.nil
    rotate_left
    (try simp only [decide_eq_true_eq, decide_eq_false_iff_not, Bool.not_eq_true', Bool.not_eq_false', Bool.not_eq_true, Bool.not_eq_false, not_true_eq_false, not_false_eq_true, reduceCtorEq] at hp11)
    refine WpL.sk ?_
    refine WpL.sk ?_
    refine WpL.sk ?_
    refine WpL.v (V.pF) ?_
    apply WpL.nil
    apply Out.seqN
    refine Wp.cF ?_
    apply Wp.skip
    apply Out.seqN
    apply Wp.seq
    apply Wp.region
    refine WpL.v (V.mv) ?_
    refine WpL.v (V.ldA tb) ?_
    refine WpL.o (Op1.callT rfl (hA) (by (repeat (first | exact Sel.nil | exact Rem.here | apply Sel.cons | apply Rem.there))) ?_)
    rintro v15 s16 ⟨ao44_9, ⟨len44_10, ⟨cap44_11, ⟨sl'44_12, ⟨g'44_13, ⟨hx14, ⟨rfl, rfl⟩⟩⟩⟩⟩⟩⟩
    refine incat ?_
    apply WpL.nil
    apply Out.seqN
    apply Wp.region
    refine WpL.v (V.mv) ?_
    refine WpL.v (V.ldA tb) ?_
    refine WpL.o (Op1.callT rfl (hB) (by (repeat (first | exact Sel.nil | exact Rem.here | apply Sel.cons | apply Rem.there))) ?_)
    rintro v23 s24 ⟨ao47_17, ⟨len47_18, ⟨cap47_19, ⟨sl'47_20, ⟨g'47_21, ⟨hx22, ⟨rfl, rfl⟩⟩⟩⟩⟩⟩⟩
    refine incat ?_
    apply WpL.nil
    apply Out.blockN
    apply Out.seqN
    apply Wp.region
    refine WpL.v (V.add) ?_
    refine WpL.v (V.mv) ?_
    apply WpL.nil
    rotate_left
    (try simp only [decide_eq_true_eq, decide_eq_false_iff_not, Bool.not_eq_true', Bool.not_eq_false', Bool.not_eq_true, Bool.not_eq_false, not_true_eq_false, not_false_eq_true, reduceCtorEq] at hp10)
    (exfalso; omega)
    all_goals first
      | exact Out.ag hK ⟨k + 1, (doC s x).2, sl'44, g'44, sl'47, g'47⟩ ⟨by show k + 1 ≤ _; omega, hi2, hz2, by assumption, by assumption, fun h0 => none_do (by intro e9; simp_all) (hfr h0)⟩ (by show xs.length - (k + 1) < xs.length - k; omega)
      | exact Out.ag hK ⟨k + 1, (doC s x).2, sl'44_12, g'44_13, sl'47_20, g'47_21⟩ ⟨by show k + 1 ≤ _; omega, hi2, hz2, by assumption, by assumption, fun h0 => none_do (by intro e9; simp_all) (hfr h0)⟩ (by show xs.length - (k + 1) < xs.length - k; omega)
  · obtain rfl : k = xs.length := by omega
    clear hK
    obtain ⟨e1, e2, e3, e4⟩ := fresh_law hi d1 hgd hfr
    have hia := hi.do_ d1
    have hza := hz.do_ hi (by omega) hds1
    have hib := hi.do_ (bareD d1)
    have hzb := hz.do_ hi (by omega) (d := bareD d1) hds1
    have hA := client_do b24 rb24 rm24 sm24 _ s sl1 g1 d1 hi hh1 (by omega)
    have hB := client_do b25 rb25 rm25 sm25 _ s sl2 g2 (bareD d1) hi hh2 (by omega)
    have hYA := reg_bytes rb24 rm24 _ _ hia.reg hza.reg (by omega)
    have hYB := reg_bytes rb25 rm25 _ _ hib.reg hzb.reg (by omega)
    have hCA := client_count b24 (Ptr rb24 0) (.map (some sm24)) (doC s d1).2.cnt
    have hCB := client_count b25 (Ptr rb25 0) (.map (some sm25)) (doC s (bareD d1)).2.cnt
    have hRA := client_registry b24 (Ptr rb24 0) (.map (some sm24)) (doC s d1).2.cnt
    have hRB := client_registry b25 (Ptr rb25 0) (.map (some sm25)) (doC s (bareD d1)).2.cnt
    have hLA (sl : SM) := client_last b24 sm24 (Ptr rb24 0) (doC s d1).2.cnt sl d1.Session
    have hlk (sl : SM) (g : GB) (hh : HI (doC s d1).2.ss sl g) : (lookS sl d1.Session).num = d1.Number := by
      have := congrArg Prod.fst (hh.look (doC s d1).2.l (doC s d1).2.cnt d1.Session)
      exact this.trans e4
    rw [← e1, ← e2, ← e3] at hB
    rw [← e2] at hCB hRB
    rw [← e3] at hYB
    have hS (v v' : Go.Value) := sameF (doC s d1).1 v v'
    unfold RV.c at hS
    generalize (doC s d1).2 = sa at *
    generalize (doC s d1).1 = rx at *
    unfold cmE RV.c at hA hB
    unfold bareD at hB
    unfold rgE at hYA hYB
    apply Wp.seq
    apply Wp.region
    refine WpL.v (V.cmp) ?_
    apply WpL.nil
    apply Out.seqN
    apply Wp.seq
    refine Wp.c (fun hp20 => ?_) (fun hp20 => ?_)
    (try simp only [decide_eq_true_eq, decide_eq_false_iff_not, Bool.not_eq_true', Bool.not_eq_false', Bool.not_eq_true, Bool.not_eq_false, not_true_eq_false, not_false_eq_true, reduceCtorEq] at hp20)
    (exfalso; omega)
    (try simp only [decide_eq_true_eq, decide_eq_false_iff_not, Bool.not_eq_true', Bool.not_eq_false', Bool.not_eq_true, Bool.not_eq_false, not_true_eq_false, not_false_eq_true, reduceCtorEq] at hp20)
    apply Wp.exit
    apply Out.seqE
    apply Out.seqE
    apply Out.blockE
    apply Out.seqN
    apply Wp.seq
    apply Wp.region
    refine WpL.v (V.ldA tb) ?_
    refine WpL.o (O.al tb (fun p9 => ?_))
    refine WpL.o (O.stA tb ?_)
    apply WpL.nil
    apply Out.seqN
    apply Wp.seq
    apply Wp.region
    refine WpL.v (V.fa tb) ?_
    refine WpL.o (O.st1 tb ?_)
    refine WpL.v (V.fa tb) ?_
    refine WpL.o (O.st1 tb ?_)
    apply WpL.nil
    apply Out.seqN
    apply Wp.seq
    refine Wp.dG [] ?_ (List.Sublist.cons_cons _ (List.Sublist.cons _ (List.Sublist.cons _ (List.Sublist.cons _ (List.Sublist.cons _ (List.Sublist.cons _ (List.Sublist.cons _ (List.Sublist.cons _ (List.Sublist.cons _ (List.Sublist.cons _ (List.Sublist.cons _ (List.Sublist.cons _ (List.Sublist.cons _ (List.Sublist.cons_cons _ List.Sublist.slnil)))))))))))))) (List.Sublist.cons_cons _ (List.Sublist.cons _ (List.Sublist.cons _ (List.Sublist.cons _ (List.Sublist.cons _ (List.Sublist.cons _ (List.Sublist.cons _ (List.Sublist.cons _ (List.Sublist.cons _ (List.Sublist.cons _ (List.Sublist.cons _ (List.Sublist.cons _ (List.Sublist.cons _ (List.Sublist.cons_cons _ List.Sublist.slnil))))))))))))))
    refine WpA.tF 0 rfl (V.mv) ?_
    refine WpA.tF 1 rfl (V.ldA tb) ?_
    refine WpA.tF 3 rfl (V.mv) ?_
    refine WpA.tF 4 rfl (V.ldA tb) ?_
    refine WpA.oS 2 rfl (Op1.callT rfl (hA) (by (repeat (first | exact Sel.nil | exact Rem.here | apply Sel.cons | apply Rem.there))) ?_)
    rintro v1 s2 ⟨ao54, ⟨len54, ⟨cap54, ⟨sl'54, ⟨g'54, ⟨hx0, ⟨rfl, rfl⟩⟩⟩⟩⟩⟩⟩
    refine incat ⟨?_, ?_, ?_⟩
    exact holdT
    exact holdT
    refine WpA.oS 5 rfl (Op1.callT rfl (hB) (by (repeat (first | exact Sel.nil | exact Rem.here | apply Sel.cons | apply Rem.there))) ?_)
    rintro v4 s5 ⟨ao57, ⟨len57, ⟨cap57, ⟨sl'57, ⟨g'57, ⟨hx3, ⟨rfl, rfl⟩⟩⟩⟩⟩⟩⟩
    refine incat ⟨?_, ?_, ?_⟩
    exact holdT
    exact holdT
    refine WpA.oS 6 rfl (Op1.callT rfl (hS _ _) (by (repeat (first | exact Sel.nil | exact Rem.here | apply Sel.cons | apply Rem.there))) ?_)
    rintro v6 s7 ⟨rfl, rfl⟩
    refine incat ⟨?_, ?_, ?_⟩
    exact holdT
    exact holdT
    refine WpA.tF 7 rfl (V.mv) ?_
    refine WpA.tF 8 rfl (V.mv) ?_
    refine WpA.tF 10 rfl (V.mv) ?_
    refine WpA.oS 9 rfl (Op1.callT rfl (hCA) (by (repeat (first | exact Sel.nil | exact Rem.here | apply Sel.cons | apply Rem.there))) ?_)
    rintro v8 s9 ⟨rfl, rfl⟩
    refine incat ⟨?_, ?_, ?_⟩
    exact holdT
    exact holdT
    refine WpA.oS 11 rfl (Op1.callT rfl (hCB) (by (repeat (first | exact Sel.nil | exact Rem.here | apply Sel.cons | apply Rem.there))) ?_)
    rintro v10 s11 ⟨rfl, rfl⟩
    refine incat ⟨?_, ?_, ?_⟩
    exact holdT
    exact holdT
    refine WpA.tF 12 rfl (V.cmp) ?_
    refine WpA.tF 13 rfl (V.pT) ?_
    refine WpA.tF 14 rfl (V.mv) ?_
    refine WpA.pt 66 (fun hp312 => ?_) (fun hp312 => ?_)
    (try simp only [decide_eq_true_eq, decide_eq_false_iff_not, Bool.not_eq_true', Bool.not_eq_false', Bool.not_eq_true, Bool.not_eq_false, not_true_eq_false, not_false_eq_true, reduceCtorEq] at hp312)
    refine WpA.tF 15 rfl (V.mv) ?_
    refine WpA.tF 18 rfl (V.mv) ?_
    refine WpA.oS 16 rfl (Op1.callT rfl (hRA) (by (repeat (first | exact Sel.nil | exact Rem.here | apply Sel.cons | apply Rem.there))) ?_)
    rintro v13 s14 ⟨rfl, rfl⟩
    refine incat ⟨?_, ?_, ?_⟩
    exact holdT
    exact holdT
    refine WpA.oS 17 rfl (Op1.callT rfl (hYA) (by (repeat (first | exact Sel.nil | exact Rem.here | apply Sel.cons | apply Rem.there))) ?_)
    rintro v15 s16 ⟨rfl, rfl⟩
    refine incat ⟨?_, ?_, ?_⟩
    exact holdT
    exact holdT
    refine WpA.oS 19 rfl (Op1.callT rfl (hRB) (by (repeat (first | exact Sel.nil | exact Rem.here | apply Sel.cons | apply Rem.there))) ?_)
    rintro v17 s18 ⟨rfl, rfl⟩
    refine incat ⟨?_, ?_, ?_⟩
    exact holdT
    exact holdT
    refine WpA.oS 20 rfl (Op1.callT rfl (hYB) (by (repeat (first | exact Sel.nil | exact Rem.here | apply Sel.cons | apply Rem.there))) ?_)
    rintro v19 s20 ⟨rfl, rfl⟩
    refine incat ⟨?_, ?_, ?_⟩
    exact holdT
    exact holdT
    refine WpA.tF 21 rfl (V.cmpS) ?_
    refine WpA.tF 22 rfl (V.pT) ?_
    refine WpA.tF 23 rfl (V.mv) ?_
    refine WpA.pt 75 (fun hp321 => ?_) (fun hp321 => ?_)
    (try simp only [decide_eq_true_eq, decide_eq_false_iff_not, Bool.not_eq_true', Bool.not_eq_false', Bool.not_eq_true, Bool.not_eq_false, not_true_eq_false, not_false_eq_true, reduceCtorEq] at hp321)
    refine WpA.tF 24 rfl (V.mv) ?_
    refine WpA.tF 25 rfl (V.fa tb) ?_
    refine WpA.tF 26 rfl (V.ld1 tb) ?_
    refine WpA.tF 28 rfl (V.fa tb) ?_
    refine WpA.tF 29 rfl (V.ld1 tb) ?_
    refine WpA.oS 27 rfl (Op1.callT rfl (hLA _) (by (repeat (first | exact Sel.nil | exact Rem.here | apply Sel.cons | apply Rem.there))) ?_)
    rintro v22 s23 ⟨rfl, rfl⟩
    refine incat ⟨?_, ?_, ?_⟩
    exact holdT
    exact holdT
    refine WpA.tF 30 rfl (V.cmp) ?_
    refine WpA.tF 31 rfl (V.pT) ?_
    refine WpA.tF 32 rfl (V.as) ?_
    refine WpA.ou ?_
    apply Out.seqN
    apply Wp.ret
    refine Out.f1 rfl ResIs.t ⟨?_, rfl⟩
    rotate_left
    (try simp only [decide_eq_true_eq, decide_eq_false_iff_not, Bool.not_eq_true', Bool.not_eq_false', Bool.not_eq_true, Bool.not_eq_false, not_true_eq_false, not_false_eq_true, reduceCtorEq] at hp321)
    (try simp only [decide_eq_true_eq, decide_eq_false_iff_not, Bool.not_eq_true', Bool.not_eq_false', Bool.not_eq_true, Bool.not_eq_false, not_true_eq_false, not_false_eq_true, reduceCtorEq] at hp312)
    rw [hlk _ _ (by assumption)]
    simp
open Go Go.ChangeShapes Go.WideShapes Go.ChangeAt Go.RowKit
theorem clientFresh_read : (Try.f8.params.toList.all fun t => Try.prog.readableRec t && decide (t < Try.prog.types.size)) = true := by kernel_rfl
theorem clientFresh_lifted (os : Go.Os) (started : os.Started) (H : Type) (enc : Go.TypeId × Go.Value → H) :
    ReturnsInHanded {} Try.checked os 8 .any (Rows.clientFreshSpec.pre6 enc Try.prog Try.f8 Rows.clientFreshRow.domain false) (Rows.clientFreshSpec.post enc Try.prog Try.f8 false true false false) := by
  refine returnsInHanded_of_change_sized (C := Try.checked) own started (by kernel_rfl) Try.func8
    (ChangeSpec.witness6 (enc := enc) (C := Try.checked) false ⟨#[], #[.slice none 0 0, A TDeed.z.c], []⟩ 8 (by kernel_rfl) (by kernel_rfl) (by kernel_rfl) (by kernel_rfl)) ?_
  intro W base args ds gs before hval0 hW hcnd hsz0 _
  have hsz : (DataW.weightsEach Try.prog (Try.f8.params.toList ++ Rows.clientFreshSpec.plain.varTypes Try.prog) (ds ++ gs)).all (· ≤ reachBytes) = true := hsz0
  have hval : ∀ (j : Nat) t v, Try.f8.params[j]? = some t → args[j]? = some v → Value.okWide Try.prog W .any base t v := hval0
  have hW' := hW
  obtain ⟨p, q, hA0, hV, rfl, hfz, hnd⟩ := hW
  have hA1 : DataW.TrodAll enc Try.prog W 0 (fun _ => true) true Try.f8.params.toList args.toList ds p := hA0
  have hA := hA1
  rw [Try.params8] at hA hval hsz
  obtain ⟨v0, vs0, d0, ds0, p0, q0, hargs, rfl, rfl, h0, r0⟩ := trodAll_cons hA
  obtain ⟨v1, vs1, d1, ds1, p1, q1, rfl, rfl, rfl, h1, r1⟩ := trodAll_cons r0
  obtain ⟨rfl, rfl, rfl⟩ := trodAll_nil r1
  obtain rfl : args = #[v0, v1] := by cases args; simp_all
  obtain ⟨rfl, rfl⟩ := trodVars_none hV
  obtain ⟨ao0, b0, off0, len0, cap0, xs0, rfl, hl0, hlc0, hcm0, ha0, hs0, hf0, hby0⟩ := open_slice_plain Try.underlying22 TDeed.leaves (by kernel_rfl) (by decide) (hval 0 22 v0 rfl rfl) h0 (sizedAll hsz 0 rfl rfl)
  obtain ⟨x0, rfl, w0⟩ := fits_map TDeed.c TDeed.wf hf0 TDeed.fit
  obtain rfl : len0 = x0.length := by simpa using hl0.symm
  obtain ⟨c1, rfl, f1⟩ := open_plain TDeed.leaves ⟨_, Try.underlying28⟩ (hval 1 28 v1 rfl rfl) h1 (sizedAll hsz 1 rfl rfl)
  obtain ⟨x1, rfl, w1⟩ := TDeed.fit f1
  simp only [List.append_nil] at hW' hA1
  have hbl : ∀ p : Nat × Nat, p ∈ [(x0.length, b0)] → 0 < p.1 → p.2 < W.heap.size := by
    intro p hp h0
    simp only [List.mem_cons, List.mem_nil_iff, or_false] at hp
    rcases hp with rfl
    · exact (ha0 h0).2
  have hR0 : Rd (snap W (blocksOf [(x0.length, b0)])) ao0 x0.length b0 off0 6 (x0.map TDeed.c) := Rd.snap (by simp) (Nat.le_trans hlc0 hcm0) ha0 hs0 (fun h => blocksOf_mem (len := x0.length) (by simp) h)
  refine (Ct.runSnap (blocksOf_nodup _) (blocksOf_lt hbl) (clientFresh_walk _ _ _ _ _ x0 x1 (fun x hx => ⟨(w0 x hx).2.1, (w0 x hx).2.2.1⟩) ⟨w1.2.1, w1.2.2.1⟩ hR0)).mono fun e W' hh => ?_
  obtain ⟨rfl, hS⟩ := hh
  exact ⟨_, rfl, post_law (P := Try.prog) (f := Try.f8) (tbool := 4) hW' hA1 rfl rfl hS laid clientFresh_read rfl Try.underlying4⟩
theorem clientFresh_joined : joinedFacts Try.prog 8 Try.f8 Rows.clientFreshSpec Rows.clientFreshRow = true := by
  unfold joinedFacts
  rewrite [head_enter, head_lift, head_make]
  kernel_rfl
theorem clientFresh_over : Rows.clientFreshRow.holds Try.pinned (OpenSpec.ofChange Rows.clientFreshSpec) :=
  OpenClaim.holds_of_wide 8 Try.f8 rfl rfl rfl rfl rfl rfl rfl ⟨rfl, rfl, rfl, rfl, rfl⟩ rfl rfl rfl rfl rfl (by kernel_rfl) Try.func8 clientFresh_joined
    (of_decide_eq_true (by kernel_rfl)) (by unfold Func.isWrapper; first | (rw [if_pos (by decide +kernel)]; kernel_rfl) | (rw [if_neg (by decide +kernel)]; exact ⟨rfl, rfl⟩))
    (fun os started H enc _ => clientFresh_lifted os started H enc)
/-- THE STATEMENT. -/
theorem clientFresh_proved : Rows.ClientFreshSaid := clientFresh_over
#print axioms clientFresh_proved

end Go.Proofs.Ytgihkocnmgkihaa
