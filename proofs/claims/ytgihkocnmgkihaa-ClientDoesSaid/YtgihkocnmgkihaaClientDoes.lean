/-
  The statement ClientDoes of layer 21: in every row of deeds each reply, the sessions, and all bytes, are the document's; what is told is new memory; a nil machine. Proved for every input.
-/
import Derived.Test.YtgihkocnmgkihaaHead
import Derived.Test.YtgihkocnmgkihaaDm6
import Derived.Test.YtgihkocnmgkihaaHeapM
namespace Go.HL
theorem selTail2 : ∀ (m l : List Ent) {τ ρ : List Ent}, Sel l τ ρ → Sel (l ++ m) (m ++ τ) ρ
  | [], l, τ, ρ, h => by rw [List.append_nil, List.nil_append]; exact h
  | x :: m, l, τ, ρ, h => Sel.cons (remTail x m l) (selTail2 m l h)
end Go.HL
namespace Go.Proofs.Ytgihkocnmgkihaa
open Go.HL
set_option linter.unusedSimpArgs false
set_option linter.unusedVariables false
set_option maxRecDepth 8000
structure CD21 where
  k : Nat
  s : CS
  sl : SM
  g : GB
  ks : Go.Value
  vs : Go.Value
  ns : Go.Value
  ids : Go.Value
  nums : Go.Value
  reps : Go.Value
  T : SM
  g2 : GB
set_option maxHeartbeats 8000000 in
theorem clientDoes_walk (e : Ent) (ao : Option Go.Addr) (cap b off : Nat) (xs : List TDeed) (other : Int) (hw : ∀ x ∈ xs, x.Key.length ≤ 140737488351232 ∧ x.Value.length ≤ 140737488351232) (hR : Rd e ao xs.length b off 6 (xs.map TDeed.c)) :
    Ct Try.prog 9 [.slice ao xs.length cap, I other] [e] (fun r σ' => r = B true ∧ σ' = [e]) := by
  have hm := hR.small
  simp only [Go.maxLen] at hm
  have hG := great21z e ao cap b off xs hw hR
  have hN := client_new2
  unfold cmE at hN
  refine Ct.enter Try.func9 rfl rfl fun W => ?_
  refine Wp.nilRows strc 9 1 ?_
  refine Wp.nilRows strc 9 1 ?_
  refine Wp.nilRows i64c 3 1 ?_
  refine Wp.nilRows i64c 3 1 ?_
  refine Wp.nilRows i64c 3 1 ?_
  refine Wp.nilRows rpC 39 4 ?_
  refine Wp.see (fun w h => H.layZ h) ?_
  refine Wp.eqv (Eqv.append (σ := [bag [gE []]]) (τ := [gE []]) Eqv.bag (Eqv.refl _)).symm ?_
  dsimp only [List.cons_append, List.nil_append]
  apply Wp.seq
  apply Wp.region
  refine WpL.o (O.al tb (fun p4 => ?_))
  apply WpL.nil
  apply Out.seqN
  apply Wp.seq
  apply Wp.seq
  apply Wp.region
  refine WpL.o (Op1.fn rfl (alive21) ?_)
  refine WpL.v (V.not) ?_
  apply WpL.nil
  apply Out.seqN
  refine Wp.cF ?_
  apply Wp.skip
  apply Out.seqN
  apply Wp.seq
  apply Wp.seq
  apply Wp.region
  refine WpL.v (V.mv) ?_
  refine WpL.o (Op1.callT rfl (hG) (by (repeat (first | exact Sel.nil | exact Rem.here | apply Sel.cons | apply Rem.there))) ?_)
  rintro v1 s2 ⟨t18, ⟨hx0, ⟨rfl, rfl⟩⟩⟩
  refine incat ?_
  apply WpL.nil
  apply Out.seqN
  refine Wp.c (fun hp03 => ?_) (fun hp03 => ?_)
  (try simp only [decide_eq_true_eq, decide_eq_false_iff_not, Bool.not_eq_true', Bool.not_eq_false', Bool.not_eq_true, Bool.not_eq_false, not_true_eq_false, not_false_eq_true, reduceCtorEq] at hp03)
  apply Wp.seq
  apply Wp.region
  refine WpL.o (O.st1 tb ?_)
  apply WpL.nil
  apply Out.seqN
  apply Wp.ret
  apply Out.seqR
  refine Out.f1 rfl (ResIs.c1 tb) ⟨?_, rfl⟩
  exact rfl
  (try simp only [decide_eq_true_eq, decide_eq_false_iff_not, Bool.not_eq_true', Bool.not_eq_false', Bool.not_eq_true, Bool.not_eq_false, not_true_eq_false, not_false_eq_true, reduceCtorEq] at hp03)
  apply Wp.skip
  apply Out.seqN
  apply Wp.seq
  apply Wp.region
  refine WpL.o (Op1.callT rfl (hN) (by (repeat (first | exact Sel.nil | exact Rem.here | apply Sel.cons | apply Rem.there))) ?_)
  rintro v4 s5 ⟨b19, ⟨rb19, ⟨rm19, ⟨sm19, ⟨rfl, rfl⟩⟩⟩⟩⟩
  refine incat ?_
  refine WpL.v (V.bld tb) ?_
  refine WpL.o (O.bxA (fun p21 => ?_))
  refine WpL.o (O.al tb (fun p5 => ?_))
  refine WpL.o (O.al tb (fun p6 => ?_))
  refine WpL.o (O.st1 tb ?_)
  refine WpL.o (O.st1 tb ?_)
  apply WpL.nil
  apply Out.seqN
  apply Wp.seq
  apply Wp.seq
  apply Wp.region
  refine WpL.v (V.mv) ?_
  refine WpL.v (V.lenL tb) ?_
  refine WpL.v (V.mv) ?_
  apply WpL.nil
  apply Out.seqN
  apply Wp.block
  obtain ⟨hx80, hxs⟩ := hx0 (by assumption)
  refine Wp.lpD [23, 22, 6, 5, 4, 1] (fun y : CD21 => y.k ≤ xs.length ∧ CI y.k y.s ∧ CZ y.s ∧ HI y.s.ss y.sl y.g ∧ DM y.s.ss y.T y.g2) (fun y => [(24, I (y.k : Int))]) (fun y => [cells b19 96 (ClientMachine.c ⟨Ptr rb19 0, .map (some sm19), y.s.cnt⟩), cells rb19 74 (RegistryRegistry.c ⟨.map (some rm19)⟩), mE rm19 y.s.l, mS sm19 y.sl, gE y.g, cells p21 65 [y.ks, y.vs, y.ns, y.ids, y.nums, y.reps, I y.s.cnt], rows strc y.ks 9 1 ((canon y.s.l).map (·.Key)), rows strc y.vs 9 1 ((canon y.s.l).map (·.Value)), rows i64c y.ns 3 1 ((canon y.s.l).map (·.Version)), rows i64c y.ids 3 1 (y.T.map (·.1)), rows i64c y.nums 3 1 (y.T.map (·.2.num)), rows rpC y.reps 39 4 (y.T.map (·.2)), bag [gE y.g2]]) (fun y => xs.length - y.k) ⟨0, CS.z, [], [], .slice none 0 0, .slice none 0 0, .slice none 0 0, .slice none 0 0, .slice none 0 0, .slice none 0 0, [], []⟩ ⟨Nat.zero_le _, CI.zero, CZ.zero, HI.zero, DM.zero⟩ ?_ (hs := by simp only [CS.z, canon_nil, List.map_nil]; (repeat (first | exact Sel.nil | exact Rem.here | apply Sel.cons | apply Rem.there)))
  rintro ⟨k, s, sl, g, ks, vs, ns, ids, nums, reps, T, g2⟩ ds ⟨hk, hi, hz, hh, hd⟩ K hK
  dsimp only at hk hi hz hh hd
  dsimp only [List.cons_append, List.nil_append]
  by_cases hlt : k < xs.length
  · obtain ⟨x, hx⟩ := getS hlt
    have hA := client_do b19 rb19 rm19 sm19 k s sl g x hi hh (by omega)
    have hB := dm_doF p21 ks vs ns ids nums reps k s T g2 x hi hd (by omega)
    have hi2 := hi.do_ x
    have hz2 := hz.do_ hi (by omega) (hxs x (List.mem_of_getElem? hx))
    unfold cmE RV.c at hA
    unfold dmF at hB
    apply Wp.seq
    apply Wp.region
    refine WpL.v (V.cmp) ?_
    apply WpL.nil
    apply Out.seqN
    apply Wp.seq
    refine Wp.c (fun hp10 => ?_) (fun hp10 => ?_)
    (try simp only [decide_eq_true_eq, decide_eq_false_iff_not, Bool.not_eq_true', Bool.not_eq_false', Bool.not_eq_true, Bool.not_eq_false, not_true_eq_false, not_false_eq_true, reduceCtorEq] at hp10)
    apply Wp.skip
    apply Out.seqN
    apply Wp.seq
    apply Wp.block
    apply Wp.seq
    apply Wp.region
    refine WpL.v (V.ixR tb rfl rfl (by assumption)) ?_
    refine WpL.v (V.ldRA tb rfl (by assumption) (getMapS (by assumption))) ?_
    refine WpL.o (O.al tb (fun p8 => ?_))
    refine WpL.o (O.stA tb ?_)
    apply WpL.nil
    apply Out.seqN
    apply Wp.seq
    apply Wp.region
    refine WpL.v (V.ld1 tb) ?_
    refine WpL.v (V.ldA tb) ?_
    refine WpL.o (Op1.callT rfl (hA) (by (repeat (first | exact Sel.nil | exact Rem.here | apply Sel.cons | apply Rem.there))) ?_)
    rintro v2 s3 ⟨ao30, ⟨len30, ⟨cap30, ⟨sl'30, ⟨g'30, ⟨hx1, ⟨rfl, rfl⟩⟩⟩⟩⟩⟩⟩
    refine incat ?_
    refine WpL.o (O.al tb (fun p9 => ?_))
    refine WpL.o (O.stA tb ?_)
    apply WpL.nil
    apply Out.seqN
    apply Wp.seq
    rotate_left
    (try simp only [decide_eq_true_eq, decide_eq_false_iff_not, Bool.not_eq_true', Bool.not_eq_false', Bool.not_eq_true, Bool.not_eq_false, not_true_eq_false, not_false_eq_true, reduceCtorEq] at hp10)
    (exfalso; omega)
    have hh2 : HI (doC s x).2.ss sl'30 g'30 := by assumption
    refine Wp.fact (rowsRd (f := strc) (v := .slice ao30 len30 cap30) (l := (doC s x).1.keys) (E := 9) (sz := 1) (fun _ => rfl) (by repeat first | exact List.Mem.head _ | apply List.Mem.tail)) fun hv => ?_
    obtain ⟨ao0, cap0, bk0, off0, he0, hR0⟩ := hv
    cases he0
    have hkm := hR0.small
    simp only [Go.maxLen] at hkm
    have hY1 := client_bytes b19 rb19 rm19 sm19 _ (doC s x).2 sl'30 g'30 hi2 hz2 hh2 (by omega)
    have hC1 := client_count b19 (Ptr rb19 0) (.map (some sm19)) (doC s x).2.cnt
    have hY2 := fun (ks vs ns ids nums reps : Go.Value) (T : SM) (g : GB) => dm_bytesF p21 ks vs ns ids nums reps _ (doC s x).2 T g hi2 hz2 (by omega)
    have hT (ao : Option Go.Addr) (len cap : Nat) := told21_rv (doC s x).1 ao len cap
    have hS := fun (v v' : Go.Value) (g : GB) => refSame_F (doC s x).1 v v' g
    have hLs (k : Int) := client_last b19 sm19 (Ptr rb19 0) (doC s x).2.cnt sl'30 k
    have hlk (k : Int) := hh2.look (doC s x).2.l (doC s x).2.cnt k
    have hse := fun (T : SM) (g : GB) (hd : DM (doC s x).2.ss T g) => DM.sess hi2 hd hh2
    have hsl : sl'30.length ≤ 100000 := by
      have h1 := congrArg List.length (sids_ids sl'30)
      rw [sids_len, hh2.fo, idsC_len] at h1
      have := hi2.len
      omega
    generalize (doC s x).2 = s2 at *
    generalize (doC s x).1 = rv at *
    unfold cmE at hY1
    unfold dmF at hY2
    
    refine Wp.mt [24, 23, 22, 9, 6, 5, 4, 1] (fun (z : Go.Value × Go.Value × Go.Value × Go.Value × Go.Value × Go.Value × SM × GB) => DM s2.ss z.2.2.2.2.2.2.1 z.2.2.2.2.2.2.2) (fun z => [(53, Go.Value.bool (!decide (s2.cnt = s2.cnt)))]) (fun z => [rows strc (.slice ao30 rv.keys.length cap30) 9 1 rv.keys, cells b19 96 (ClientMachine.c ⟨Ptr rb19 0, .map (some sm19), s2.cnt⟩), cells rb19 74 (RegistryRegistry.c ⟨.map (some rm19)⟩), mE rm19 s2.l, mS sm19 sl'30, gE g'30, cells p21 65 [z.1, z.2.1, z.2.2.1, z.2.2.2.1, z.2.2.2.2.1, z.2.2.2.2.2.1, I s2.cnt], rows strc z.1 9 1 ((canon s2.l).map (·.Key)), rows strc z.2.1 9 1 ((canon s2.l).map (·.Value)), rows i64c z.2.2.1 3 1 ((canon s2.l).map (·.Version)), rows i64c z.2.2.2.1 3 1 (z.2.2.2.2.2.2.1.map (·.1)), rows i64c z.2.2.2.2.1 3 1 (z.2.2.2.2.2.2.1.map (·.2.num)), rows rpC z.2.2.2.2.2.1 39 4 (z.2.2.2.2.2.2.1.map (·.2)), bag [gE z.2.2.2.2.2.2.2]]) (σ1 := [rows strc (.slice ao30 rv.keys.length cap30) 9 1 rv.keys, cells b19 96 (ClientMachine.c ⟨Ptr rb19 0, .map (some sm19), s2.cnt⟩), cells rb19 74 (RegistryRegistry.c ⟨.map (some rm19)⟩), mE rm19 s2.l, mS sm19 sl'30, gE g'30, cells p21 65 [ks, vs, ns, ids, nums, reps, I s.cnt], rows strc ks 9 1 ((canon s.l).map (·.Key)), rows strc vs 9 1 ((canon s.l).map (·.Value)), rows i64c ns 3 1 ((canon s.l).map (·.Version)), rows i64c ids 3 1 (T.map (·.1)), rows i64c nums 3 1 (T.map (·.2.num)), rows rpC reps 39 4 (T.map (·.2)), bag [gE g2]]) ?_ ?_
    · intro K2 hK2
      refine Wp.dG [] ?_ (List.Sublist.cons_cons _ (List.Sublist.cons _ (List.Sublist.cons _ (List.Sublist.cons _ (List.Sublist.cons _ (List.Sublist.cons _ (List.Sublist.cons _ (List.Sublist.cons_cons _ (List.Sublist.cons _ (List.Sublist.cons _ (List.Sublist.cons _ (List.Sublist.cons _ (List.Sublist.cons _ (List.Sublist.cons _ (List.Sublist.cons _ (List.Sublist.cons _ (List.Sublist.cons _ (List.Sublist.cons_cons _ (List.Sublist.cons_cons _ (List.Sublist.cons _ (List.Sublist.cons _ List.Sublist.slnil))))))))))))))))))))) (List.Sublist.cons_cons _ (List.Sublist.cons _ (List.Sublist.cons _ (List.Sublist.cons _ (List.Sublist.cons _ (List.Sublist.cons _ (List.Sublist.cons _ (List.Sublist.cons_cons _ (List.Sublist.cons _ (List.Sublist.cons _ (List.Sublist.cons _ (List.Sublist.cons _ (List.Sublist.cons _ (List.Sublist.cons _ (List.Sublist.cons _ (List.Sublist.cons _ (List.Sublist.cons _ (List.Sublist.cons_cons _ (List.Sublist.cons_cons _ (List.Sublist.cons _ (List.Sublist.cons _ List.Sublist.slnil)))))))))))))))))))))
      refine WpA.tF 0 rfl (V.ldA tb) ?_
      refine WpA.tF 2 rfl (V.ld1 tb) ?_
      refine WpA.tF 3 rfl (V.ldA tb) ?_
      refine WpA.oS 1 rfl (Op1.fn rfl (hT _ _ _) ⟨?_, ?_, ?_⟩)
      exact holdT
      exact holdT
      refine WpA.oS 4 rfl (Op1.callT rfl (hB) (by (repeat (first | exact Sel.nil | exact Rem.here | apply Sel.cons | apply Rem.there))) ?_)
      rintro v2 s3 ⟨ao35, ⟨len35, ⟨cap35, ⟨ks35, ⟨vs35, ⟨ns35, ⟨ids35, ⟨nums35, ⟨reps35, ⟨T35, ⟨g35, ⟨hx0, ⟨hx1, ⟨rfl, rfl⟩⟩⟩⟩⟩⟩⟩⟩⟩⟩⟩⟩⟩⟩
      refine incat ⟨?_, ?_, ?_⟩
      exact holdT
      exact holdT
      refine WpA.oS 5 rfl (Op1.callT rfl (hS _ _ _ ?_) (by (repeat (first | exact Sel.nil | exact Rem.here | apply Sel.cons | apply Rem.there))) ?_)
      (first | with_reducible assumption | omega | (simp only [List.length_append, List.length_cons, List.length_nil, List.length_map] at *; omega) | (focus (simp; done)))
      rintro v4 s5 ⟨rfl, rfl⟩
      refine incat ⟨?_, ?_, ?_⟩
      exact holdT
      exact holdT
      refine WpA.tF 6 rfl (V.not) ?_
      refine WpA.tF 7 rfl (V.mv) ?_
      refine WpA.tF 8 rfl (V.ld1 tb) ?_
      refine WpA.tF 10 rfl (V.ld1 tb) ?_
      refine WpA.oS 9 rfl (Op1.callT rfl (hY1) (by (repeat (first | exact Sel.nil | exact Rem.here | apply Sel.cons | apply Rem.there))) ?_)
      rintro v6 s7 ⟨rfl, rfl⟩
      refine incat ⟨?_, ?_, ?_⟩
      exact holdT
      exact holdT
      refine WpA.oS 11 rfl (Op1.callT rfl (hY2 _ _ _ _ _ _ _ _ ?_) (by (repeat (first | exact Sel.nil | exact Rem.here | apply Sel.cons | apply Rem.there))) ?_)
      (first | with_reducible assumption | omega | (simp only [List.length_append, List.length_cons, List.length_nil, List.length_map] at *; omega) | (focus (simp; done)))
      rintro v8 s9 ⟨rfl, rfl⟩
      refine incat ⟨?_, ?_, ?_⟩
      exact holdT
      exact holdT
      refine WpA.tF 12 rfl (V.cmpS) ?_
      refine WpA.tF 13 rfl (V.pF) ?_
      refine WpA.tF 14 rfl (V.mv) ?_
      refine WpA.pt 45 (fun hp310 => ?_) (fun hp310 => ?_)
      (try simp only [decide_eq_true_eq, decide_eq_false_iff_not, Bool.not_eq_true', Bool.not_eq_false', Bool.not_eq_true, Bool.not_eq_false, not_true_eq_false, not_false_eq_true, reduceCtorEq] at hp310)
      (try simp only [decide_eq_true_eq, decide_eq_false_iff_not, Bool.not_eq_true', Bool.not_eq_false', Bool.not_eq_true, Bool.not_eq_false, not_true_eq_false, not_false_eq_true, reduceCtorEq] at hp310)
      refine WpA.tF 15 rfl (V.ld1 tb) ?_
      refine WpA.tF 17 rfl (V.ld1 tb) ?_
      refine WpA.tF 18 rfl (V.nc) ?_
      refine WpA.tF 19 rfl (V.fa tb) ?_
      refine WpA.e2 16 20 rfl rfl ?_ ?_
      refine Op1.callT rfl (hC1) (by (repeat (first | exact Sel.nil | exact Rem.here | apply Sel.cons | apply Rem.there))) ?_
      rintro v11 s12 ⟨rfl, rfl⟩
      refine incat ⟨?_, ?_, ?_⟩
      exact holdT
      exact holdT
      refine WpA.oS 20 rfl (Op1.vv (V.ld1 tb) ⟨?_, ?_, ?_⟩)
      exact holdT
      exact holdT
      refine WpA.tF 21 rfl (V.cmp) ?_
      refine WpA.tF 22 rfl (V.pF) ?_
      refine WpA.ou ?_
      rotate_left
      refine Op1.vv (V.ld1 tb) ⟨?_, ?_, ?_⟩
      exact holdT
      exact holdT
      refine WpA.oS 16 rfl (Op1.callT rfl (hC1) (by (repeat (first | exact Sel.nil | exact Rem.here | apply Sel.cons | apply Rem.there))) ?_)
      rintro v13 s14 ⟨rfl, rfl⟩
      refine incat ⟨?_, ?_, ?_⟩
      exact holdT
      exact holdT
      refine WpA.tF 21 rfl (V.cmp) ?_
      refine WpA.tF 22 rfl (V.pF) ?_
      refine WpA.ou ?_
      rotate_left
      all_goals exact Out.ag hK2 (_, _, _, _, _, _, _, _) (by assumption) trivial
    · rintro ⟨ks2, vs2, ns2, ids2, nums2, reps2, T2, g22⟩ hd2
      dsimp only at hd2
      dsimp only
      dsimp only [List.cons_append, List.nil_append]
      have hse2 := hse T2 g22 hd2
      have hCs := client_sessions (Ptr b19 0) rfl
      have hIt := fun (a : Nat) => sess_iterZ a b19 sm19 (Ptr rb19 0) s2.cnt sl'30 hsl
      refine Wp.c (fun hp40 => ?_) (fun hp40 => ?_)
      (try simp only [decide_eq_true_eq, decide_eq_false_iff_not, Bool.not_eq_true', Bool.not_eq_false', Bool.not_eq_true, Bool.not_eq_false, not_true_eq_false, not_false_eq_true, reduceCtorEq] at hp40)
      (try simp only [decide_eq_true_eq, decide_eq_false_iff_not, Bool.not_eq_true', Bool.not_eq_false', Bool.not_eq_true, Bool.not_eq_false, not_true_eq_false, not_false_eq_true, reduceCtorEq] at hp40)
      apply Wp.skip
      apply Out.seqN
      apply Wp.seq
      apply Wp.seq
      apply Wp.region
      refine WpL.v (V.fa tb) ?_
      refine WpL.v (V.ld1 tb) ?_
      refine WpL.v (V.lenL tb) ?_
      refine WpL.v (V.mv) ?_
      apply WpL.nil
      apply Out.seqN
      apply Wp.block
      refine Wp.lp [56, 24, 23, 22, 9, 6, 5, 4, 1] (fun z : Nat × List (List UInt8) => z.1 ≤ rv.keys.length ∧ z.2.length = rv.keys.length) (fun z => [(57, I (z.1 : Int))]) (fun z => [rows strc (.slice ao30 rv.keys.length cap30) 9 1 z.2]) (fun z => rv.keys.length - z.1) (0, rv.keys) ⟨Nat.zero_le _, rfl⟩ ?_
      rintro ⟨i, l2⟩ ⟨hi1, hl2⟩ K3 hK3
      dsimp only at hi1 hl2
      dsimp only [List.cons_append, List.nil_append]
      by_cases hil : i < rv.keys.length
      · refine Wp.fact (rowOwn (f := strc) (v := .slice ao30 rv.keys.length cap30) (l := l2) (E := 9) (sz := 1) (by repeat first | exact List.Mem.head _ | apply List.Mem.tail) (by omega)) fun hv => ?_
        obtain ⟨gg, cc, hv, hcc1, hcc2⟩ := hv
        simp only [Go.Value.slice.injEq] at hv
        obtain ⟨rfl, _, rfl⟩ := hv
        have hRs := Rd.rows (f := strc) (g := gg) (E := 9) (sz := 1) (cap := cap30) (l := l2) (fun _ => rfl) (by simp only [Go.maxLen] at hcc2; omega)
        rw [hl2] at hRs
        apply Wp.seq
        apply Wp.region
        refine WpL.v (V.cmp) ?_
        apply WpL.nil
        apply Out.seqN
        apply Wp.seq
        refine Wp.c (fun hp50 => ?_) (fun hp50 => ?_)
        (try simp only [decide_eq_true_eq, decide_eq_false_iff_not, Bool.not_eq_true', Bool.not_eq_false', Bool.not_eq_true, Bool.not_eq_false, not_true_eq_false, not_false_eq_true, reduceCtorEq] at hp50)
        apply Wp.skip
        apply Out.seqN
        apply Wp.seq
        apply Wp.block
        apply Wp.seq
        apply Wp.region
        refine WpL.v (V.mv) ?_
        refine WpL.v (V.as) ?_
        apply WpL.nil
        apply Out.seqN
        apply Wp.region
        refine WpL.v (V.fa tb) ?_
        refine WpL.v (V.ld1 tb) ?_
        refine WpL.v (V.mv) ?_
        refine WpL.v (V.ixR tb rfl rfl (by assumption)) ?_
        refine WpL.o (O.stRow1 tb (f := strc) (a := [115, 112, 111, 105, 108, 116]) rfl rfl rfl rfl (by repeat first | exact Upd.here _ _ _ | apply Upd.there) hl2 (by omega) (fun _ => rfl) ?_)
        apply WpL.nil
        apply Out.blockN
        apply Out.seqN
        apply Wp.region
        refine WpL.v (V.add) ?_
        refine WpL.v (V.mv) ?_
        apply WpL.nil
        rotate_left
        (try simp only [decide_eq_true_eq, decide_eq_false_iff_not, Bool.not_eq_true', Bool.not_eq_false', Bool.not_eq_true, Bool.not_eq_false, not_true_eq_false, not_false_eq_true, reduceCtorEq] at hp50)
        (exfalso; omega)
        exact Out.ag hK3 (i + 1, l2.set i [115, 112, 111, 105, 108, 116]) ⟨by show i + 1 ≤ _; omega, by show (l2.set i _).length = _; rw [List.length_set]; exact hl2⟩ (by show rv.keys.length - (i + 1) < rv.keys.length - i; omega)
      · clear hK3
        obtain rfl : i = rv.keys.length := by omega
        apply Wp.seq
        apply Wp.region
        refine WpL.v (V.cmp) ?_
        apply WpL.nil
        apply Out.seqN
        apply Wp.seq
        refine Wp.c (fun hp60 => ?_) (fun hp60 => ?_)
        (try simp only [decide_eq_true_eq, decide_eq_false_iff_not, Bool.not_eq_true', Bool.not_eq_false', Bool.not_eq_true, Bool.not_eq_false, not_true_eq_false, not_false_eq_true, reduceCtorEq] at hp60)
        (exfalso; omega)
        (try simp only [decide_eq_true_eq, decide_eq_false_iff_not, Bool.not_eq_true', Bool.not_eq_false', Bool.not_eq_true, Bool.not_eq_false, not_true_eq_false, not_false_eq_true, reduceCtorEq] at hp60)
        apply Wp.exit
        apply Out.seqE
        apply Out.seqE
        apply Out.blockE
        apply Out.seqN
        apply Wp.seq
        apply Wp.region
        refine WpL.o (O.al tb (fun p11 => ?_))
        refine WpL.o (O.st1 tb ?_)
        apply WpL.nil
        apply Out.seqN
        apply Wp.seq
        apply Wp.seq
        apply Wp.region
        refine WpL.v (V.ld1 tb) ?_
        refine WpL.o (Op1.callT rfl (hCs) (by (repeat (first | exact Sel.nil | exact Rem.here | apply Sel.cons | apply Rem.there))) ?_)
        rintro v1 s2 ⟨a66, ⟨rfl, rfl⟩⟩
        refine incat ?_
        apply WpL.nil
        apply Out.seqN
        apply Wp.block
        have hids := hd2.ids hi2
        have hTl : T2.length ≤ 82 := by
          have h1 := congrArg List.length hids
          rw [List.length_map, idsC_len] at h1
          have := hi2.len
          omega
        have hse2 := hse T2 g22 hd2
        have hse3 : (sessL sl'30).length = T2.length := by rw [hse2, List.length_map]
        refine Wp.fact (rowsRd (f := i64c) (v := ids2) (l := T2.map (·.1)) (E := 3) (sz := 1) (fun _ => rfl) (by repeat first | exact List.Mem.head _ | apply List.Mem.tail)) fun hv => ?_
        obtain ⟨ao1, cap1, bk1, off1, rfl, hR1⟩ := hv
        refine Wp.fact (rowsRd (f := i64c) (v := nums2) (l := T2.map (·.2.num)) (E := 3) (sz := 1) (fun _ => rfl) (by repeat first | exact List.Mem.head _ | apply List.Mem.tail)) fun hv => ?_
        obtain ⟨ao2, cap2, bk2, off2, rfl, hR2⟩ := hv
        have hl1 : (T2.map (·.1)).length = T2.length := List.length_map ..
        have hl2b : (T2.map (·.2.num)).length = T2.length := List.length_map ..
        refine Wp.rgZ (hIt a66) (fun _ => ()) (fun i : Nat => [cells p11 3 [I (i : Int)], cells p5 59 [Ptr b19 0], cells p6 62 [Ptr p21 0], cells p21 65 [ks2, vs2, ns2, .slice ao1 (T2.map (·.1)).length cap1, .slice ao2 (T2.map (·.2.num)).length cap2, reps2, I s2.cnt], rows i64c (.slice ao1 (T2.map (·.1)).length cap1) 3 1 (T2.map (·.1)), rows i64c (.slice ao2 (T2.map (·.2.num)).length cap2) 3 1 (T2.map (·.2.num)), cells p4 4 [B false]]) (fun k i => i = k ∧ k ≤ T2.length) (fun _ _ _ => False) 0 rfl ⟨rfl, Nat.zero_le _⟩ ?_ ?_ ?_
        · rintro j ⟨id, num⟩ i b' lp rec ⟨rfl, hjl⟩ ⟨hst, rfl⟩ hr W' D' K4 hK4
          unfold seZ
          dsimp only [List.cons_append, List.nil_append]
          have hst2 := hst
          rw [hse2, List.getElem?_map] at hst2
          obtain ⟨q, hq, hqe⟩ := Option.map_eq_some_iff.1 hst2
          simp only [Prod.mk.injEq] at hqe
          obtain ⟨rfl, rfl⟩ := hqe
          have hjt := (List.getElem?_eq_some_iff.1 hq).1
          have hq1 : (T2.map (·.1))[i]? = some q.1 := by rw [List.getElem?_map, hq]; rfl
          have hq2 : (T2.map (·.2.num))[i]? = some q.2.num := by rw [List.getElem?_map, hq]; rfl
          have hL := hLs q.1
          have hln : (lookS sl'30 q.1).num = q.2.num := by
            have h1 := congrArg Prod.fst (hlk q.1)
            have h2 := congrArg Prod.fst (hd2.at (List.mem_of_getElem? hq))
            exact h1.trans h2
          rw [hln] at hL
          apply Wp.seq
          apply Wp.region
          refine WpL.v (V.as) ?_
          apply WpL.nil
          apply Out.seqN
          apply Wp.region
          refine WpL.v (V.as) ?_
          apply WpL.nil
          refine Out.bg (by assumption) ?_
          apply Wp.block
          apply Wp.seq
          apply Wp.seq
          refine Wp.dG [] ?_ (List.Sublist.cons _ (List.Sublist.cons_cons _ (List.Sublist.cons_cons _ (List.Sublist.cons_cons _ (List.Sublist.cons _ (List.Sublist.cons _ (List.Sublist.cons _ (List.Sublist.cons _ (List.Sublist.cons _ (List.Sublist.cons _ List.Sublist.slnil)))))))))) (List.Sublist.cons _ (List.Sublist.cons_cons _ (List.Sublist.cons_cons _ (List.Sublist.cons_cons _ (List.Sublist.cons _ (List.Sublist.cons _ (List.Sublist.cons _ (List.Sublist.cons _ (List.Sublist.cons _ (List.Sublist.cons _ List.Sublist.slnil))))))))))
          refine WpA.tF 0 rfl (V.ld1 tb) ?_
          refine WpA.tF 1 rfl (V.ld1 tb) ?_
          refine WpA.tF 2 rfl (V.nc) ?_
          refine WpA.tF 3 rfl (V.fa tb) ?_
          refine WpA.oS 4 rfl (Op1.vv (V.ld1 tb) ⟨?_, ?_, ?_⟩)
          exact holdT
          exact holdT
          refine WpA.tF 5 rfl (V.lenL tb) ?_
          refine WpA.tF 6 rfl (V.cmp) ?_
          refine WpA.tF 7 rfl (V.mv) ?_
          refine WpA.pt 76 (fun hp70 => ?_) (fun hp70 => ?_)
          (try simp only [decide_eq_true_eq, decide_eq_false_iff_not, Bool.not_eq_true', Bool.not_eq_false', Bool.not_eq_true, Bool.not_eq_false, not_true_eq_false, not_false_eq_true, reduceCtorEq] at hp70)
          (exfalso; omega)
          (try simp only [decide_eq_true_eq, decide_eq_false_iff_not, Bool.not_eq_true', Bool.not_eq_false', Bool.not_eq_true, Bool.not_eq_false, not_true_eq_false, not_false_eq_true, reduceCtorEq] at hp70)
          refine WpA.tF 8 rfl (V.ld1 tb) ?_
          refine WpA.tF 9 rfl (V.nc) ?_
          refine WpA.tF 10 rfl (V.fa tb) ?_
          refine WpA.tF 12 rfl (V.ld1 tb) ?_
          refine WpA.tF 15 rfl (V.mv) ?_
          refine WpA.oS 11 rfl (Op1.vv (V.ld1 tb) ⟨?_, ?_, ?_⟩)
          exact holdT
          exact holdT
          refine WpA.tF 13 rfl (V.ixR tb rfl rfl (by assumption)) ?_
          refine WpA.oS 14 rfl (Op1.vv (V.ldR1 tb rfl hR1 (getMapS hq1)) ⟨?_, ?_, ?_⟩)
          exact holdT
          exact holdT
          refine WpA.tF 16 rfl (V.cmp) ?_
          refine WpA.tF 17 rfl (V.pF) ?_
          refine WpA.tF 18 rfl (V.mv) ?_
          refine WpA.pt 87 (fun hp71 => ?_) (fun hp71 => ?_)
          (try simp only [decide_eq_true_eq, decide_eq_false_iff_not, Bool.not_eq_true', Bool.not_eq_false', Bool.not_eq_true, Bool.not_eq_false, not_true_eq_false, not_false_eq_true, reduceCtorEq] at hp71)
          (try simp only [decide_eq_true_eq, decide_eq_false_iff_not, Bool.not_eq_true', Bool.not_eq_false', Bool.not_eq_true, Bool.not_eq_false, not_true_eq_false, not_false_eq_true, reduceCtorEq] at hp71)
          refine WpA.tF 19 rfl (V.ld1 tb) ?_
          refine WpA.tF 20 rfl (V.nc) ?_
          refine WpA.tF 21 rfl (V.fa tb) ?_
          refine WpA.tF 23 rfl (V.ld1 tb) ?_
          refine WpA.tF 26 rfl (V.mv) ?_
          refine WpA.oS 22 rfl (Op1.vv (V.ld1 tb) ⟨?_, ?_, ?_⟩)
          exact holdT
          exact holdT
          refine WpA.tF 24 rfl (V.ixR tb rfl rfl (by assumption)) ?_
          refine WpA.oS 25 rfl (Op1.vv (V.ldR1 tb rfl hR2 (getMapS hq2)) ⟨?_, ?_, ?_⟩)
          exact holdT
          exact holdT
          refine WpA.tF 27 rfl (V.cmp) ?_
          refine WpA.tF 28 rfl (V.pF) ?_
          refine WpA.tF 29 rfl (V.mv) ?_
          refine WpA.pt 98 (fun hp72 => ?_) (fun hp72 => ?_)
          (try simp only [decide_eq_true_eq, decide_eq_false_iff_not, Bool.not_eq_true', Bool.not_eq_false', Bool.not_eq_true, Bool.not_eq_false, not_true_eq_false, not_false_eq_true, reduceCtorEq] at hp72)
          (try simp only [decide_eq_true_eq, decide_eq_false_iff_not, Bool.not_eq_true', Bool.not_eq_false', Bool.not_eq_true, Bool.not_eq_false, not_true_eq_false, not_false_eq_true, reduceCtorEq] at hp72)
          refine WpA.tF 30 rfl (V.ld1 tb) ?_
          refine WpA.tF 31 rfl (V.mv) ?_
          refine WpA.tF 33 rfl (V.mv) ?_
          refine WpA.oS 32 rfl (Op1.callT rfl (hL) (by (repeat (first | exact Sel.nil | exact Rem.here | apply Sel.cons | apply Rem.there))) ?_)
          rintro v3 s4 ⟨rfl, rfl⟩
          refine incat ⟨?_, ?_, ?_⟩
          exact holdT
          exact holdT
          refine WpA.tF 34 rfl (V.cmp) ?_
          refine WpA.tF 35 rfl (V.pF) ?_
          refine WpA.ou ?_
          apply Out.seqN
          refine Wp.c (fun hp75 => ?_) (fun hp75 => ?_)
          (try simp only [decide_eq_true_eq, decide_eq_false_iff_not, Bool.not_eq_true', Bool.not_eq_false', Bool.not_eq_true, Bool.not_eq_false, not_true_eq_false, not_false_eq_true, reduceCtorEq] at hp75)
          (try simp only [decide_eq_true_eq, decide_eq_false_iff_not, Bool.not_eq_true', Bool.not_eq_false', Bool.not_eq_true, Bool.not_eq_false, not_true_eq_false, not_false_eq_true, reduceCtorEq] at hp75)
          apply Wp.skip
          apply Out.seqN
          apply Wp.region
          refine WpL.v (V.ld1 tb) ?_
          refine WpL.v (V.add) ?_
          refine WpL.o (O.st1 tb ?_)
          apply WpL.nil
          apply Out.blockN
          exact Out.rdZ hK4 (i + 1) ⟨rfl, by omega⟩
        · rintro j i b1 ⟨rfl, hjl⟩ hst
          rw [hse3] at hst
          subst hst
          unfold seZ
          dsimp only [List.cons_append, List.nil_append]
          have hL := hLs other
          cases hmo : mget s2.ss other with
          | some y0 =>
            obtain ⟨j, x0, hj, _, hjb⟩ := hd2.find hmo
            have hAt := dm_at_yes p21 ks2 vs2 ns2 (.slice ao1 (T2.map (·.1)).length cap1) (.slice ao2 (T2.map (·.2.num)).length cap2) reps2 s2.cnt T2 other j x0 hj hjb
            apply Out.blockN
            apply Out.seqN
            apply Wp.seq
            refine Wp.dG [] ?_ (List.Sublist.cons _ (List.Sublist.cons_cons _ (List.Sublist.cons_cons _ (List.Sublist.cons_cons _ (List.Sublist.cons _ (List.Sublist.cons _ (List.Sublist.cons _ (List.Sublist.cons _ (List.Sublist.cons _ (List.Sublist.cons _ (List.Sublist.cons _ (List.Sublist.cons _ (List.Sublist.cons _ (List.Sublist.cons _ (List.Sublist.cons _ (List.Sublist.cons _ (List.Sublist.cons _ (List.Sublist.cons _ (List.Sublist.cons _ (List.Sublist.cons _ (List.Sublist.cons _ (List.Sublist.cons _ (List.Sublist.cons _ (List.Sublist.cons _ List.Sublist.slnil)))))))))))))))))))))))) (List.Sublist.cons _ (List.Sublist.cons_cons _ (List.Sublist.cons_cons _ (List.Sublist.cons_cons _ (List.Sublist.cons _ (List.Sublist.cons _ (List.Sublist.cons _ (List.Sublist.cons _ (List.Sublist.cons _ (List.Sublist.cons _ (List.Sublist.cons _ (List.Sublist.cons _ (List.Sublist.cons _ (List.Sublist.cons _ (List.Sublist.cons _ (List.Sublist.cons _ (List.Sublist.cons _ (List.Sublist.cons _ (List.Sublist.cons _ (List.Sublist.cons _ (List.Sublist.cons _ (List.Sublist.cons _ (List.Sublist.cons _ (List.Sublist.cons _ List.Sublist.slnil))))))))))))))))))))))))
            refine WpA.tF 0 rfl (V.ld1 tb) ?_
            refine WpA.tF 1 rfl (V.ld1 tb) ?_
            refine WpA.tF 2 rfl (V.nc) ?_
            refine WpA.tF 3 rfl (V.fa tb) ?_
            refine WpA.oS 4 rfl (Op1.vv (V.ld1 tb) ⟨?_, ?_, ?_⟩)
            exact holdT
            exact holdT
            refine WpA.tF 5 rfl (V.lenL tb) ?_
            refine WpA.tF 6 rfl (V.cmp) ?_
            refine WpA.tF 7 rfl (V.mv) ?_
            refine WpA.pt 114 (fun hp80 => ?_) (fun hp80 => ?_)
            (try simp only [decide_eq_true_eq, decide_eq_false_iff_not, Bool.not_eq_true', Bool.not_eq_false', Bool.not_eq_true, Bool.not_eq_false, not_true_eq_false, not_false_eq_true, reduceCtorEq] at hp80)
            (exfalso; omega)
            (try simp only [decide_eq_true_eq, decide_eq_false_iff_not, Bool.not_eq_true', Bool.not_eq_false', Bool.not_eq_true, Bool.not_eq_false, not_true_eq_false, not_false_eq_true, reduceCtorEq] at hp80)
            refine WpA.tF 8 rfl (V.ld1 tb) ?_
            refine WpA.tF 9 rfl (V.mv) ?_
            refine WpA.oS 10 rfl (Op1.callT rfl (hAt) (by (repeat (first | exact Sel.nil | exact Rem.here | apply Sel.cons | apply Rem.there))) ?_)
            rintro v1 s2 ⟨rfl, rfl⟩
            refine incat ⟨?_, ?_, ?_⟩
            exact holdT
            exact holdT
            refine WpA.tF 11 rfl (V.cmp) ?_
            refine WpA.tF 12 rfl (V.mv) ?_
            refine WpA.pt 119 (fun hp83 => ?_) (fun hp83 => ?_)
            (try simp only [decide_eq_true_eq, decide_eq_false_iff_not, Bool.not_eq_true', Bool.not_eq_false', Bool.not_eq_true, Bool.not_eq_false, not_true_eq_false, not_false_eq_true, reduceCtorEq] at hp83)
            (exfalso; omega)
            (try simp only [decide_eq_true_eq, decide_eq_false_iff_not, Bool.not_eq_true', Bool.not_eq_false', Bool.not_eq_true, Bool.not_eq_false, not_true_eq_false, not_false_eq_true, reduceCtorEq] at hp83)
            refine WpA.s 13 rfl ?_
            refine WpA.s 14 rfl ?_
            refine WpA.s 15 rfl ?_
            refine WpA.s 16 rfl ?_
            refine WpA.tF 17 rfl (V.pF) ?_
            refine WpA.tF 18 rfl (V.pF) ?_
            refine WpA.ou ?_
            apply Out.seqN
            refine Wp.cF ?_
            apply Wp.skip
            apply Out.blockN
            apply Out.seqN
            apply Wp.region
            refine WpL.v (V.add) ?_
            refine WpL.v (V.mv) ?_
            apply WpL.nil
            all_goals exact Out.agD hK [b1] ⟨k + 1, s2, sl'30, g'30, ks2, vs2, ns2, _, _, reps2, T2, g22⟩ ⟨by show k + 1 ≤ _; omega, hi2, hz2, hh2, hd2⟩ (by show xs.length - (k + 1) < xs.length - k; omega)
          | none =>
            have hAt := dm_at_no p21 ks2 vs2 ns2 (.slice ao1 (T2.map (·.1)).length cap1) (.slice ao2 (T2.map (·.2.num)).length cap2) reps2 s2.cnt T2 other (hd2.none hmo)
            have hln : (lookS sl'30 other).num = 0 := by
              have h1 := congrArg Prod.fst (hlk other)
              rw [show (CS.get ⟨s2.l, s2.ss, s2.cnt⟩ other).1 = 0 by unfold CS.get; rw [show (CS.mk s2.l s2.ss s2.cnt).ss = s2.ss from rfl, hmo]; rfl] at h1
              exact h1
            rw [hln] at hL
            apply Out.blockN
            apply Out.seqN
            apply Wp.seq
            refine Wp.dG [] ?_ (List.Sublist.cons _ (List.Sublist.cons_cons _ (List.Sublist.cons_cons _ (List.Sublist.cons_cons _ (List.Sublist.cons _ (List.Sublist.cons _ (List.Sublist.cons _ (List.Sublist.cons _ (List.Sublist.cons _ (List.Sublist.cons _ (List.Sublist.cons _ (List.Sublist.cons _ (List.Sublist.cons _ (List.Sublist.cons _ (List.Sublist.cons _ (List.Sublist.cons _ (List.Sublist.cons _ (List.Sublist.cons _ (List.Sublist.cons _ (List.Sublist.cons _ (List.Sublist.cons _ (List.Sublist.cons _ (List.Sublist.cons _ (List.Sublist.cons _ List.Sublist.slnil)))))))))))))))))))))))) (List.Sublist.cons _ (List.Sublist.cons_cons _ (List.Sublist.cons_cons _ (List.Sublist.cons_cons _ (List.Sublist.cons _ (List.Sublist.cons _ (List.Sublist.cons _ (List.Sublist.cons _ (List.Sublist.cons _ (List.Sublist.cons _ (List.Sublist.cons _ (List.Sublist.cons _ (List.Sublist.cons _ (List.Sublist.cons _ (List.Sublist.cons _ (List.Sublist.cons _ (List.Sublist.cons _ (List.Sublist.cons _ (List.Sublist.cons _ (List.Sublist.cons _ (List.Sublist.cons _ (List.Sublist.cons _ (List.Sublist.cons _ (List.Sublist.cons _ List.Sublist.slnil))))))))))))))))))))))))
            refine WpA.tF 0 rfl (V.ld1 tb) ?_
            refine WpA.tF 1 rfl (V.ld1 tb) ?_
            refine WpA.tF 2 rfl (V.nc) ?_
            refine WpA.tF 3 rfl (V.fa tb) ?_
            refine WpA.oS 4 rfl (Op1.vv (V.ld1 tb) ⟨?_, ?_, ?_⟩)
            exact holdT
            exact holdT
            refine WpA.tF 5 rfl (V.lenL tb) ?_
            refine WpA.tF 6 rfl (V.cmp) ?_
            refine WpA.tF 7 rfl (V.mv) ?_
            refine WpA.pt 114 (fun hq80 => ?_) (fun hq80 => ?_)
            (try simp only [decide_eq_true_eq, decide_eq_false_iff_not, Bool.not_eq_true', Bool.not_eq_false', Bool.not_eq_true, Bool.not_eq_false, not_true_eq_false, not_false_eq_true, reduceCtorEq] at hq80)
            (exfalso; omega)
            (try simp only [decide_eq_true_eq, decide_eq_false_iff_not, Bool.not_eq_true', Bool.not_eq_false', Bool.not_eq_true, Bool.not_eq_false, not_true_eq_false, not_false_eq_true, reduceCtorEq] at hq80)
            refine WpA.tF 8 rfl (V.ld1 tb) ?_
            refine WpA.tF 9 rfl (V.mv) ?_
            refine WpA.oS 10 rfl (Op1.callT rfl (hAt) (by (repeat (first | exact Sel.nil | exact Rem.here | apply Sel.cons | apply Rem.there))) ?_)
            rintro v1 s2 ⟨rfl, rfl⟩
            refine incat ⟨?_, ?_, ?_⟩
            exact holdT
            exact holdT
            refine WpA.tF 11 rfl (V.cmp) ?_
            refine WpA.tF 12 rfl (V.mv) ?_
            refine WpA.tF 13 rfl (V.ld1 tb) ?_
            refine WpA.tF 14 rfl (V.mv) ?_
            refine WpA.oS 15 rfl (Op1.callT rfl (hL) (by (repeat (first | exact Sel.nil | exact Rem.here | apply Sel.cons | apply Rem.there))) ?_)
            rintro v3 s4 ⟨rfl, rfl⟩
            refine incat ⟨?_, ?_, ?_⟩
            exact holdT
            exact holdT
            refine WpA.tF 16 rfl (V.cmp) ?_
            refine WpA.tF 17 rfl (V.pT) ?_
            refine WpA.tF 18 rfl (V.pF) ?_
            refine WpA.ou ?_
            apply Out.seqN
            refine Wp.cF ?_
            apply Wp.skip
            apply Out.blockN
            apply Out.seqN
            apply Wp.region
            refine WpL.v (V.add) ?_
            refine WpL.v (V.mv) ?_
            apply WpL.nil
            all_goals exact Out.agD hK [b1] ⟨k + 1, s2, sl'30, g'30, ks2, vs2, ns2, _, _, reps2, T2, g22⟩ ⟨by show k + 1 ≤ _; omega, hi2, hz2, hh2, hd2⟩ (by show xs.length - (k + 1) < xs.length - k; omega)
        · intro _ _ _ _ _ _ h
          exact h.elim
  · obtain rfl : k = xs.length := by omega
    clear hK
    have hCs := client_sessions (.pointer none) rfl
    have hDn := client_nil ⟨0, [], [], 0, 0, 0⟩
    have hBn := client_bytes_nil
    have hLn := client_last_nil 1
    refine Wp.unbagE (τ := dfrs ds) ?_
    dsimp only [List.cons_append, List.nil_append]
    apply Wp.seq
    apply Wp.region
    refine WpL.v (V.cmp) ?_
    apply WpL.nil
    apply Out.seqN
    apply Wp.seq
    refine Wp.c (fun hp90 => ?_) (fun hp90 => ?_)
    (try simp only [decide_eq_true_eq, decide_eq_false_iff_not, Bool.not_eq_true', Bool.not_eq_false', Bool.not_eq_true, Bool.not_eq_false, not_true_eq_false, not_false_eq_true, reduceCtorEq] at hp90)
    (exfalso; omega)
    (try simp only [decide_eq_true_eq, decide_eq_false_iff_not, Bool.not_eq_true', Bool.not_eq_false', Bool.not_eq_true, Bool.not_eq_false, not_true_eq_false, not_false_eq_true, reduceCtorEq] at hp90)
    apply Wp.exit
    apply Out.seqE
    apply Out.seqE
    apply Out.blockE
    apply Out.seqN
    apply Wp.seq
    apply Wp.region
    refine WpL.v (V.as) ?_
    apply WpL.nil
    apply Out.seqN
    apply Wp.seq
    apply Wp.seq
    apply Wp.region
    refine WpL.v (V.mv) ?_
    refine WpL.o (Op1.callT rfl (hCs) (by (repeat (first | exact Sel.nil | exact Rem.here | apply Sel.cons | apply Rem.there))) ?_)
    rintro v1 s2 ⟨a128, ⟨rfl, rfl⟩⟩
    refine incat ?_
    apply WpL.nil
    apply Out.seqN
    apply Wp.block
    refine Wp.rg (sess_iter_nil a128) (fun y : Unit => []) (fun pre y => True) (fun _ _ _ => False) () trivial ?_ ?_ ?_
    · rintro pre x post y lp rec hx hxs hr W' D' K hK
      simp at hx
    · rintro y b1 _
      dsimp only [List.cons_append, List.nil_append]
      apply Out.blockN
      apply Out.seqN
      apply Wp.seq
      apply Wp.region
      refine WpL.v (V.mv) ?_
      refine WpL.v (V.bld tb) ?_
      refine WpL.o (Op1.fn rfl (hDn) ?_)
      refine WpL.v (V.fld1 tb (off := 0) (T := 29) rfl rfl (Reads.one (tb.oneAt (T := 29) rfl) rfl)) ?_
      refine WpL.v (V.cmp) ?_
      refine WpL.v (V.mv) ?_
      refine WpL.v (V.mv) ?_
      refine WpL.o (Op1.fn rfl (hLn) ?_)
      refine WpL.v (V.mv) ?_
      refine WpL.o (Op1.fn rfl (client_count_nil) ?_)
      refine WpL.v (V.add) ?_
      refine WpL.v (V.cmp) ?_
      refine WpL.v (V.pT) ?_
      refine WpL.v (V.mv) ?_
      refine WpL.v (V.mv) ?_
      refine WpL.o (Op1.fn rfl (client_registry_nil) ?_)
      refine WpL.v (V.eqN) ?_
      refine WpL.v (V.pT) ?_
      refine WpL.v (V.mv) ?_
      refine WpL.v (V.mv) ?_
      refine WpL.o (Op1.callT rfl (hBn) (by (repeat (first | exact Sel.nil | exact Rem.here | apply Sel.cons | apply Rem.there))) ?_)
      rintro v0 s1 ⟨rfl, rfl⟩
      refine incat ?_
      refine WpL.v (V.cmpS) ?_
      refine WpL.v (V.pT) ?_
      refine WpL.o (O.st1 tb ?_)
      apply WpL.nil
      apply Out.seqN
      apply Wp.ret
      refine Out.e1 rfl (ResIs.c1 tb) ?_
      focus (exact ⟨[e], _, ⟨by simp, rfl⟩, Sel.cons Rem.here (selTail2 (dfrs ds) [_, _, _, _, _, _, _, _, _, _, _, _, _, _, _, _, _, _] (τ := [e]) (by (repeat (first | exact Sel.nil | exact Rem.here | apply Sel.cons | apply Rem.there))))⟩; done)
    · intro _ _ _ _ _ _ _ h
      exact h.elim
open Go Go.ChangeShapes Go.WideShapes Go.ChangeAt Go.RowKit
theorem clientDoes_read : (Try.f9.params.toList.all fun t => Try.prog.readableRec t && decide (t < Try.prog.types.size)) = true := by kernel_rfl
theorem clientDoes_lifted (os : Go.Os) (started : os.Started) (H : Type) (enc : Go.TypeId × Go.Value → H) :
    ReturnsInHanded {} Try.checked os 9 .any (Rows.clientDoesSpec.pre6 enc Try.prog Try.f9 Rows.clientDoesRow.domain false) (Rows.clientDoesSpec.post enc Try.prog Try.f9 false true false false) := by
  refine returnsInHanded_of_change_sized (C := Try.checked) own started (by kernel_rfl) Try.func9
    (ChangeSpec.witness6 (enc := enc) (C := Try.checked) false ⟨#[], #[.slice none 0 0, I 0], []⟩ 8 (by kernel_rfl) (by kernel_rfl) (by kernel_rfl) (by kernel_rfl)) ?_
  intro W base args ds gs before hval0 hW hcnd hsz0 _
  have hsz : (DataW.weightsEach Try.prog (Try.f9.params.toList ++ Rows.clientDoesSpec.plain.varTypes Try.prog) (ds ++ gs)).all (· ≤ reachBytes) = true := hsz0
  have hval : ∀ (j : Nat) t v, Try.f9.params[j]? = some t → args[j]? = some v → Value.okWide Try.prog W .any base t v := hval0
  have hW' := hW
  obtain ⟨p, q, hA0, hV, rfl, hfz, hnd⟩ := hW
  have hA1 : DataW.TrodAll enc Try.prog W 0 (fun _ => true) true Try.f9.params.toList args.toList ds p := hA0
  have hA := hA1
  rw [Try.params9] at hA hval hsz
  obtain ⟨v0, vs0, d0, ds0, p0, q0, hargs, rfl, rfl, h0, r0⟩ := trodAll_cons hA
  obtain ⟨v1, vs1, d1, ds1, p1, q1, rfl, rfl, rfl, h1, r1⟩ := trodAll_cons r0
  obtain ⟨rfl, rfl, rfl⟩ := trodAll_nil r1
  obtain rfl : args = #[v0, v1] := by cases args; simp_all
  obtain ⟨rfl, rfl⟩ := trodVars_none hV
  obtain ⟨ao0, b0, off0, len0, cap0, xs0, rfl, hl0, hlc0, hcm0, ha0, hs0, hf0, hby0⟩ := open_slice_plain Try.underlying22 TDeed.leaves (by kernel_rfl) (by decide) (hval 0 22 v0 rfl rfl) h0 (sizedAll hsz 0 rfl rfl)
  obtain ⟨x0, rfl, w0⟩ := fits_map TDeed.c TDeed.wf hf0 TDeed.fit
  obtain rfl : len0 = x0.length := by simpa using hl0.symm
  obtain ⟨x1, rfl, rfl, rfl, w1⟩ := open_int Try.underlying3 (hval 1 3 v1 rfl rfl) h1
  simp only [List.append_nil] at hW' hA1
  have hbl : ∀ p : Nat × Nat, p ∈ [(x0.length, b0)] → 0 < p.1 → p.2 < W.heap.size := by
    intro p hp h0
    simp only [List.mem_cons, List.mem_nil_iff, or_false] at hp
    rcases hp with rfl
    · exact (ha0 h0).2
  have hR0 : Rd (snap W (blocksOf [(x0.length, b0)])) ao0 x0.length b0 off0 6 (x0.map TDeed.c) := Rd.snap (by simp) (Nat.le_trans hlc0 hcm0) ha0 hs0 (fun h => blocksOf_mem (len := x0.length) (by simp) h)
  refine (Ct.runSnap (blocksOf_nodup _) (blocksOf_lt hbl) (clientDoes_walk _ _ _ _ _ x0 x1 (fun x hx => ⟨(w0 x hx).2.1, (w0 x hx).2.2.1⟩) hR0)).mono fun e W' hh => ?_
  obtain ⟨rfl, hS⟩ := hh
  exact ⟨_, rfl, post_law (P := Try.prog) (f := Try.f9) (tbool := 4) hW' hA1 rfl rfl hS laid clientDoes_read rfl Try.underlying4⟩
theorem clientDoes_joined : joinedFacts Try.prog 9 Try.f9 Rows.clientDoesSpec Rows.clientDoesRow = true := by
  unfold joinedFacts
  rewrite [head_enter, head_lift, head_make]
  kernel_rfl
theorem clientDoes_over : Rows.clientDoesRow.holds Try.pinned (OpenSpec.ofChange Rows.clientDoesSpec) :=
  OpenClaim.holds_of_wide 9 Try.f9 rfl rfl rfl rfl rfl rfl rfl ⟨rfl, rfl, rfl, rfl, rfl⟩ rfl rfl rfl rfl rfl (by kernel_rfl) Try.func9 clientDoes_joined
    (of_decide_eq_true (by kernel_rfl)) (by unfold Func.isWrapper; first | (rw [if_pos (by decide +kernel)]; kernel_rfl) | (rw [if_neg (by decide +kernel)]; exact ⟨rfl, rfl⟩))
    (fun os started H enc _ => clientDoes_lifted os started H enc)
/-- THE STATEMENT. -/
theorem clientDoes_proved : Rows.ClientDoesSaid := clientDoes_over
#print axioms clientDoes_proved

end Go.Proofs.Ytgihkocnmgkihaa
