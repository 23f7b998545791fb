/-
  Layer 3: Set, walked.
-/
import Derived.Test.YtgbflapcadlelaaItem
namespace Go.Proofs.Ytgbflapcadlelaa
open Go.HL
set_option linter.unusedSimpArgs false
set_option linter.unusedVariables false
set_option maxRecDepth 8000
theorem item_set0 (x : TItem) (v : Int) : Fun Try.prog 27 [.pointer none, A x.c, I v] (B false) := by
  refine Ct.enter Try.func27 rfl rfl fun W => ?_
  apply Wp.seq
  apply Wp.region
  refine WpL.o (O.bxA (fun p4 => ?_))
  refine WpL.v (V.as) ?_
  apply WpL.nil
  apply Out.seqN
  apply Wp.seq
  apply Wp.seq
  refine Wp.dG [] ?_ (List.Sublist.cons_cons _ List.Sublist.slnil) (List.Sublist.cons_cons _ List.Sublist.slnil)
  refine WpA.tF 0 rfl (V.mv) ?_
  refine WpA.tF 1 rfl (V.eqN) ?_
  refine WpA.tF 2 rfl (V.mv) ?_
  refine WpA.s 3 rfl ?_
  refine WpA.s 4 rfl ?_
  refine WpA.s 5 rfl ?_
  refine WpA.s 6 rfl ?_
  refine WpA.s 7 rfl ?_
  refine WpA.s 8 rfl ?_
  refine WpA.s 9 rfl ?_
  refine WpA.tF 10 rfl (V.pT) ?_
  refine WpA.ou ?_
  apply Out.seqN
  refine Wp.cT ?_
  apply Wp.seq
  apply Wp.region
  refine WpL.v (V.as) ?_
  apply WpL.nil
  apply Out.seqN
  apply Wp.ret
  apply Out.seqR
  refine Out.f1 rfl ResIs.t ⟨?_, rfl⟩
  exact rfl
theorem padLen {α : Type} (l : List α) (n : Nat) (d : α) : (padTo l n d).length = Max.max l.length n := by simp [padTo]; omega
theorem padRep {α : Type} {l : List α} {m n : Nat} {d : α} (h1 : m = 0 ∨ l.length + m ≤ n) (h2 : n ≤ l.length + m) : l ++ List.replicate m d = padTo l n d := by
  have : m = n - l.length := by omega
  rw [padTo, this]
theorem repSnoc {α : Type} (l : List α) (m : Nat) (d : α) : l ++ List.replicate (m + 1) d = (l ++ List.replicate m d) ++ [d] := by rw [List.replicate_succ', List.append_assoc]
theorem item_set (b : Nat) (vs us : List Go.Value) (p : IP) (x : TItem) (t : Int) (hw : p.wf) (hv : vs.length = 7) (hu : us.length = 7) :
    Ct Try.prog 27 [Ptr b 0, A x.c, I t] [itemE b vs us p] (fun r σ' => ∃ vs' us', vs'.length = 7 ∧ us'.length = 7 ∧ r = B (goodI x p.reps) ∧ σ' = [itemE b vs' us' (p.set x t)]) := by
  by_cases hg : goodI x p.reps = true
  · have hG : Fun Try.prog 36 [A x.c, I p.reps] (B true) := hg ▸ item_good x p.reps
    rw [hg]
    have hset : p.set x t = { p with xs := p.xs.set x.Rep.toNat ((padTo (p.x x.Rep.toNat) x.Num.toNat 0).set (x.Num - 1).toNat t), hs := p.hs.set x.Rep.toNat ((padTo (p.h x.Rep.toNat) x.Num.toNat false).set (x.Num - 1).toNat true) } := by rw [IP.set, if_pos hg]
    rw [hset]
    simp only [goodI, Bool.and_eq_true, decide_eq_true_eq] at hg
    obtain ⟨k, hrep⟩ := Int.eq_ofNat_of_zero_le hg.1.1.1
    have hk : x.Rep.toNat = k := by omega
    rw [hk]
    have hi := hw.hi
    have lx := hw.lx
    have lh := hw.lh
    have hs := hw.same k
    have hmost := hw.most k
    obtain ⟨v, hvk⟩ := getS (xs := vs) (k := k) (by omega)
    obtain ⟨u, huk⟩ := getS (xs := us) (k := k) (by omega)
    have hO := itemE.open (b := b) (p := p) hvk huk (by omega) (by omega)
    refine Ct.eqv hO (R := fun r σ' => ∃ v' u', r = B true ∧ σ' = itemO b vs us p k v' u' ((padTo (p.x k) x.Num.toNat 0).set (x.Num - 1).toNat t) ((padTo (p.h k) x.Num.toNat false).set (x.Num - 1).toNat true)) ?_ (by
      rintro r σ' ⟨v', u', rfl, rfl⟩
      exact ⟨_, ⟨vs.set k v', us.set k u', by simpa using hv, by simpa using hu, rfl, rfl⟩, itemE.shut (by omega) (by omega) (by omega) (by omega)⟩)
    unfold itemO
    refine Ct.enter Try.func27 rfl rfl fun W => ?_
    have hJ0 : ∀ {Q : Post} {c : Go.Code}, (((p.x k).length = 0 ∨ ∃ g cap g' cap', v = .slice (some ⟨g, 0, none⟩) (p.x k).length cap ∧ u = .slice (some ⟨g', 0, none⟩) (p.h k).length cap') → Wp Try.prog none W (doms (itemO b vs us p k v u (p.x k) (p.h k))) ⟨Try.f27.ntmps, []⟩ Q c (envOf 0 [Ptr b 0, A x.c, I t]) (itemO b vs us p k v u (p.x k) (p.h k))) → Wp Try.prog none W (doms (itemO b vs us p k v u (p.x k) (p.h k))) ⟨Try.f27.ntmps, []⟩ Q c (envOf 0 [Ptr b 0, A x.c, I t]) (itemO b vs us p k v u (p.x k) (p.h k)) := by
      intro Q c h
      refine Wp.form (f := i64c) (v := v) (l := p.x k) (by unfold itemO; (repeat first | exact List.Mem.head _ | apply List.Mem.tail)) (fun _ h1 => h (.inl (by rw [h1]; rfl))) (fun g' cap' hv1 => ?_)
      refine Wp.form (f := boolc) (v := u) (l := p.h k) (by unfold itemO; (repeat first | exact List.Mem.head _ | apply List.Mem.tail)) (fun _ h1 => h (.inl (by rw [hs, h1]; rfl))) (fun g cap hu1 => h (.inr ⟨_, _, _, _, hv1, hu1⟩))
    refine hJ0 fun hj0 => ?_
    clear hJ0
    unfold itemO
    have hvl : ∀ {a b}, (itemC (vs.set k a) b p)[1 + k * 1]? = some a := fun {a b} => itemC.v (by omega)
    have hul : ∀ {a b}, (itemC (vs.set k a) (us.set k b) p)[8 + k * 1]? = some b := fun {a b} => itemC.u (by simpa using hv) (by omega)
    have hvs : ∀ {a a' b}, SplOf (1 + k * 1) [a'] (itemC (vs.set k a) b p) (itemC (vs.set k a') b p) := fun {a a' b} => ⟨itemC.sv (by omega)⟩
    have hus : ∀ {a b b'}, SplOf (8 + k * 1) [b'] (itemC (vs.set k a) (us.set k b) p) (itemC (vs.set k a) (us.set k b') p) := fun {a b b'} => ⟨itemC.su (by simpa using hv) (by omega)⟩
    have hvb : ∀ {a b}, b.length = 7 → Nat.blt (1 + k * 1) (itemC (vs.set k a) b p).length = true := fun {a b} hb => by
      rw [Nat.blt_eq]; simp [itemC]; omega
    have hub : ∀ {a b}, Nat.blt (8 + k * 1) (itemC (vs.set k a) (us.set k b) p).length = true := fun {a b} => by
      rw [Nat.blt_eq]; simp [itemC]; omega
    have hub1 : ∀ {b}, (us.set k b).length = 7 := fun {b} => by simpa using hu
    apply Wp.seq
    apply Wp.region
    refine WpL.o (O.bxA (fun p4 => ?_))
    refine WpL.v (V.as) ?_
    apply WpL.nil
    apply Out.seqN
    apply Wp.seq
    apply Wp.seq
    refine Wp.dG [] ?_ (List.Sublist.cons_cons _ (List.Sublist.cons_cons _ (List.Sublist.cons_cons _ (List.Sublist.cons_cons _ (List.Sublist.cons_cons _ (List.Sublist.cons_cons _ List.Sublist.slnil)))))) (List.Sublist.cons_cons _ (List.Sublist.cons_cons _ (List.Sublist.cons_cons _ (List.Sublist.cons_cons _ (List.Sublist.cons_cons _ (List.Sublist.cons_cons _ List.Sublist.slnil))))))
    refine WpA.tF 0 rfl (V.mv) ?_
    refine WpA.tF 1 rfl (V.eqP) ?_
    refine WpA.tF 2 rfl (V.mv) ?_
    refine WpA.tF 3 rfl (V.ldA tb) ?_
    refine WpA.tF 4 rfl (V.mv) ?_
    refine WpA.tF 5 rfl (V.nc) ?_
    refine WpA.tF 6 rfl (V.fa tb) ?_
    refine WpA.tF 7 rfl (V.ld1 tb (hr := itemC.r)) ?_
    refine WpA.oS 8 rfl (Op1.fn rfl (hG) ⟨?_, ?_, ?_⟩)
    exact holdT
    exact holdT
    refine WpA.tF 9 rfl (V.not) ?_
    refine WpA.tF 10 rfl (V.pF) ?_
    refine WpA.ou ?_
    apply Out.seqN
    refine Wp.cF ?_
    apply Wp.skip
    apply Out.seqN
    apply Wp.seq
    apply Wp.block
    refine Wp.lp [4, 0, 2] (fun y : Go.Value × Go.Value × List Int × List Bool => (∃ m, y.2.2.1 = p.x k ++ List.replicate m 0 ∧ y.2.2.2 = p.h k ++ List.replicate m false ∧ (m = 0 ∨ (((p.x k).length + m : Nat) : Int) ≤ x.Num)) ∧
        (y.2.2.1.length = 0 ∨ ∃ g cap g' cap', y.1 = .slice (some ⟨g, 0, none⟩) y.2.2.1.length cap ∧ y.2.1 = .slice (some ⟨g', 0, none⟩) y.2.2.2.length cap')) (fun y => [])
      (fun y => [cells b 122 (itemC (vs.set k y.1) (us.set k y.2.1) p), rows i64c y.1 3 1 y.2.2.1, rows boolc y.2.1 4 1 y.2.2.2]) (fun y => x.Num.toNat - y.2.2.1.length) (v, u, p.x k, p.h k) ⟨⟨0, by simp, by simp, .inl rfl⟩, hj0⟩ ?_
    rintro ⟨v', u', X, Hh⟩ ⟨⟨m, hX, hH, hm⟩, hf⟩ K hK
    dsimp only at hX hH hm hf
    dsimp only [List.cons_append, List.nil_append]
    have lX : X.length = (p.x k).length + m := by rw [hX]; simp
    have lH : Hh.length = X.length := by rw [hH, lX]; simp [hs]
    by_cases hlt : (X.length : Int) < x.Num
    · apply Wp.seq
      apply Wp.seq
      refine Wp.dG [] ?_ (List.Sublist.cons_cons _ (List.Sublist.cons_cons _ (List.Sublist.cons_cons _ (List.Sublist.cons_cons _ (List.Sublist.cons_cons _ (List.Sublist.cons_cons _ List.Sublist.slnil)))))) (List.Sublist.cons_cons _ (List.Sublist.cons_cons _ (List.Sublist.cons_cons _ (List.Sublist.cons_cons _ (List.Sublist.cons_cons _ (List.Sublist.cons_cons _ List.Sublist.slnil))))))
      refine WpA.tF 0 rfl (V.mv) ?_
      refine WpA.tF 1 rfl (V.fa tb) ?_
      refine WpA.tF 2 rfl (V.ld1 tb) ?_
      refine WpA.tF 3 rfl (V.nc) ?_
      refine WpA.tF 4 rfl (V.fa tb) ?_
      refine WpA.tF 5 rfl (V.ixA2 tb rfl rfl hrep) ?_
      refine WpA.tF 6 rfl (V.ld1 tb (hr := hvl)) ?_
      refine WpA.tF 7 rfl (V.lenRows tb) ?_
      refine WpA.tF 8 rfl (V.fa tb) ?_
      refine WpA.tF 9 rfl (V.ld1 tb) ?_
      refine WpA.tF 10 rfl (V.cmp) ?_
      refine WpA.ou ?_
      apply Out.seqN
      refine Wp.c (fun hsb0 => ?_) (fun hsb0 => ?_)
      (try simp only [decide_eq_true_eq, decide_eq_false_iff_not, Bool.not_eq_true', Bool.not_eq_false', Bool.not_eq_true, Bool.not_eq_false, not_true_eq_false, not_false_eq_true, reduceCtorEq] at hsb0)
      apply Wp.skip
      apply Out.seqN
      apply Wp.block
      apply Wp.seq
      apply Wp.region
      refine WpL.v (V.as) ?_
      apply WpL.nil
      apply Out.seqN
      refine Wp.dG [28, 32] ?_ (List.Sublist.cons_cons _ (List.Sublist.cons _ (List.Sublist.cons _ (List.Sublist.cons_cons _ (List.Sublist.cons _ (List.Sublist.cons _ List.Sublist.slnil)))))) (List.Sublist.cons _ (List.Sublist.cons _ (List.Sublist.cons _ (List.Sublist.cons_cons _ (List.Sublist.cons _ (List.Sublist.cons _ List.Sublist.slnil))))))
      refine WpA.tF 0 rfl (V.mv) ?_
      refine WpA.tF 1 rfl (V.fa tb) ?_
      refine WpA.tF 2 rfl (V.ld1 tb) ?_
      refine WpA.tF 3 rfl (V.mv) ?_
      refine WpA.tF 4 rfl (V.fa tb) ?_
      refine WpA.tF 5 rfl (V.ld1 tb) ?_
      refine WpA.tF 6 rfl (V.mv) ?_
      refine WpA.tF 7 rfl (V.fa tb) ?_
      refine WpA.tF 8 rfl (V.ld1 tb) ?_
      refine WpA.tF 9 rfl (V.nc) ?_
      refine WpA.tF 10 rfl (V.fa tb) ?_
      refine WpA.tF 11 rfl (V.ixA2 tb rfl rfl hrep) ?_
      refine WpA.tF 13 rfl (V.mv) ?_
      refine WpA.tF 16 rfl (V.mv) ?_
      refine WpA.tF 17 rfl (V.fa tb) ?_
      refine WpA.tF 18 rfl (V.ld1 tb) ?_
      refine WpA.tF 19 rfl (V.nc) ?_
      refine WpA.tF 20 rfl (V.fa tb) ?_
      refine WpA.tF 21 rfl (V.ixA2 tb rfl rfl hrep) ?_
      refine WpA.tF 25 rfl (V.nc) ?_
      refine WpA.tF 26 rfl (V.fa tb) ?_
      refine WpA.tF 29 rfl (V.nc) ?_
      refine WpA.tF 30 rfl (V.fa tb) ?_
      refine WpA.t 12 rfl (V.ld1 tb (hr := hvl)) ?_
      refine WpA.t 22 rfl (V.ld1 tb (hr := hul)) ?_
      refine WpA.e2 14 23 rfl rfl ?_ ?_
      refine O.lit tb (fun p44 => ⟨?_, ?_, ?_⟩)
      exact holdT
      exact holdT
      refine WpA.e2 15 23 rfl rfl ?_ ?_
      refine O.apL tb rfl rfl (by (intro _; repeat first | exact Upd.here _ _ _ | apply Upd.there)) (SrcL.one tb (by (repeat first | exact List.Mem.head _ | apply List.Mem.tail)) ones_i64c) (fun g45 cap45 => ⟨?_, ?_, ?_⟩)
      exact holdT
      exact holdT
      refine WpA.oS 23 rfl (O.lit tb (fun p53 => ⟨?_, ?_, ?_⟩))
      exact holdT
      exact holdT
      refine WpA.oS 24 rfl (O.apL tb rfl rfl (by (intro _; repeat first | exact Upd.here _ _ _ | apply Upd.there)) (SrcL.one tb (by (repeat first | exact List.Mem.head _ | apply List.Mem.tail)) ones_boolc) (fun g54 cap54 => ⟨?_, ?_, ?_⟩))
      exact holdT
      exact holdT
      refine WpA.tF 27 rfl (V.ixA2 tb rfl rfl hrep) ?_
      refine WpA.l 28 rfl (O.st1 tb ⟨?_, ?_⟩ (hl := hvb hub1) (hs := hvs))
      exact holdT
      refine WpA.tF 31 rfl (V.ixA2 tb rfl rfl hrep) ?_
      refine WpA.l 32 rfl (O.st1 tb ⟨?_, ?_⟩ (hl := hub) (hs := hus))
      exact holdT
      refine WpA.ou ?_
      apply Out.blockN
      rotate_left
      refine O.lit tb (fun p53 => ⟨?_, ?_, ?_⟩)
      exact holdT
      exact holdT
      refine WpA.oS 15 rfl (O.apL tb rfl rfl (by (intro _; repeat first | exact Upd.here _ _ _ | apply Upd.there)) (SrcL.one tb (by (repeat first | exact List.Mem.head _ | apply List.Mem.tail)) ones_i64c) (fun g45 cap45 => ⟨?_, ?_, ?_⟩))
      exact holdT
      exact holdT
      refine WpA.oS 24 rfl (O.apL tb rfl rfl (by (intro _; repeat first | exact Upd.here _ _ _ | apply Upd.there)) (SrcL.one tb (by (repeat first | exact List.Mem.head _ | apply List.Mem.tail)) ones_boolc) (fun g54 cap54 => ⟨?_, ?_, ?_⟩))
      exact holdT
      exact holdT
      refine WpA.tF 27 rfl (V.ixA2 tb rfl rfl hrep) ?_
      refine WpA.l 28 rfl (O.st1 tb ⟨?_, ?_⟩ (hl := hvb hub1) (hs := hvs))
      exact holdT
      refine WpA.tF 31 rfl (V.ixA2 tb rfl rfl hrep) ?_
      refine WpA.l 32 rfl (O.st1 tb ⟨?_, ?_⟩ (hl := hub) (hs := hus))
      exact holdT
      refine WpA.ou ?_
      apply Out.blockN
      rotate_left
      refine O.lit tb (fun p53 => ⟨?_, ?_, ?_⟩)
      exact holdT
      exact holdT
      refine WpA.oS 14 rfl (O.lit tb (fun p44 => ⟨?_, ?_, ?_⟩))
      exact holdT
      exact holdT
      refine WpA.oS 15 rfl (O.apL tb rfl rfl (by (intro _; repeat first | exact Upd.here _ _ _ | apply Upd.there)) (SrcL.one tb (by (repeat first | exact List.Mem.head _ | apply List.Mem.tail)) ones_i64c) (fun g45 cap45 => ⟨?_, ?_, ?_⟩))
      exact holdT
      exact holdT
      refine WpA.oS 24 rfl (O.apL tb rfl rfl (by (intro _; repeat first | exact Upd.here _ _ _ | apply Upd.there)) (SrcL.one tb (by (repeat first | exact List.Mem.head _ | apply List.Mem.tail)) ones_boolc) (fun g54 cap54 => ⟨?_, ?_, ?_⟩))
      exact holdT
      exact holdT
      refine WpA.tF 27 rfl (V.ixA2 tb rfl rfl hrep) ?_
      refine WpA.l 28 rfl (O.st1 tb ⟨?_, ?_⟩ (hl := hvb hub1) (hs := hvs))
      exact holdT
      refine WpA.tF 31 rfl (V.ixA2 tb rfl rfl hrep) ?_
      refine WpA.l 32 rfl (O.st1 tb ⟨?_, ?_⟩ (hl := hub) (hs := hus))
      exact holdT
      refine WpA.ou ?_
      apply Out.blockN
      rotate_left
      (try simp only [decide_eq_true_eq, decide_eq_false_iff_not, Bool.not_eq_true', Bool.not_eq_false', Bool.not_eq_true, Bool.not_eq_false, not_true_eq_false, not_false_eq_true, reduceCtorEq] at hsb0)
      (exfalso; omega)
      all_goals exact Out.ag hK (_, _, X ++ [0], Hh ++ [false]) ⟨⟨m + 1, by rw [repSnoc, ← hX], by rw [repSnoc, ← hH], .inr (by push_cast; omega)⟩, .inr ⟨_, _, _, _, rfl, rfl⟩⟩ (by simp; omega)
    · have hX' : X = padTo (p.x k) x.Num.toNat 0 := by rw [hX]; exact padRep (by omega) (by omega)
      have hH' : Hh = padTo (p.h k) x.Num.toNat false := by rw [hH]; exact padRep (by omega) (by omega)
      rw [← hX', ← hH']
      rcases hf with hf | ⟨g, cap, g', cap', rfl, rfl⟩
      · omega
      · apply Wp.seq
        apply Wp.seq
        refine Wp.dG [] ?_ (List.Sublist.cons_cons _ (List.Sublist.cons_cons _ (List.Sublist.cons_cons _ (List.Sublist.cons_cons _ (List.Sublist.cons_cons _ (List.Sublist.cons_cons _ List.Sublist.slnil)))))) (List.Sublist.cons_cons _ (List.Sublist.cons_cons _ (List.Sublist.cons_cons _ (List.Sublist.cons_cons _ (List.Sublist.cons_cons _ (List.Sublist.cons_cons _ List.Sublist.slnil))))))
        refine WpA.tF 0 rfl (V.mv) ?_
        refine WpA.tF 1 rfl (V.fa tb) ?_
        refine WpA.tF 2 rfl (V.ld1 tb) ?_
        refine WpA.tF 3 rfl (V.nc) ?_
        refine WpA.tF 4 rfl (V.fa tb) ?_
        refine WpA.tF 5 rfl (V.ixA2 tb rfl rfl hrep) ?_
        refine WpA.tF 6 rfl (V.ld1 tb (hr := hvl)) ?_
        refine WpA.tF 7 rfl (V.lenL tb) ?_
        refine WpA.tF 8 rfl (V.fa tb) ?_
        refine WpA.tF 9 rfl (V.ld1 tb) ?_
        refine WpA.tF 10 rfl (V.cmp) ?_
        refine WpA.ou ?_
        apply Out.seqN
        refine Wp.c (fun hsc0 => ?_) (fun hsc0 => ?_)
        (try simp only [decide_eq_true_eq, decide_eq_false_iff_not, Bool.not_eq_true', Bool.not_eq_false', Bool.not_eq_true, Bool.not_eq_false, not_true_eq_false, not_false_eq_true, reduceCtorEq] at hsc0)
        (exfalso; omega)
        (try simp only [decide_eq_true_eq, decide_eq_false_iff_not, Bool.not_eq_true', Bool.not_eq_false', Bool.not_eq_true, Bool.not_eq_false, not_true_eq_false, not_false_eq_true, reduceCtorEq] at hsc0)
        apply Wp.exit
        apply Out.seqE
        apply Out.seqE
        apply Out.blockE
        apply Out.seqN
        apply Wp.seq
        refine Wp.dG [] ?_ (List.Sublist.cons_cons _ (List.Sublist.cons _ (List.Sublist.cons _ (List.Sublist.cons_cons _ (List.Sublist.cons _ (List.Sublist.cons _ List.Sublist.slnil)))))) (List.Sublist.cons_cons _ (List.Sublist.cons _ (List.Sublist.cons _ (List.Sublist.cons_cons _ (List.Sublist.cons _ (List.Sublist.cons _ List.Sublist.slnil))))))
        refine WpA.tF 0 rfl (V.mv) ?_
        refine WpA.tF 1 rfl (V.fa tb) ?_
        refine WpA.tF 2 rfl (V.ld1 tb) ?_
        refine WpA.tF 3 rfl (V.nc) ?_
        refine WpA.tF 4 rfl (V.fa tb) ?_
        refine WpA.tF 5 rfl (V.ixA2 tb rfl rfl hrep) ?_
        refine WpA.tF 6 rfl (V.ld1 tb (hr := hvl)) ?_
        refine WpA.tF 7 rfl (V.fa tb) ?_
        refine WpA.tF 8 rfl (V.ld1 tb) ?_
        refine WpA.tF 9 rfl (V.sub) ?_
        refine WpA.tF 10 rfl (V.mv) ?_
        refine WpA.tF 11 rfl (V.fa tb) ?_
        refine WpA.tF 12 rfl (V.ld1 tb) ?_
        refine WpA.tF 13 rfl (V.nc) ?_
        refine WpA.tF 14 rfl (V.fa tb) ?_
        refine WpA.tF 15 rfl (V.ixA2 tb rfl rfl hrep) ?_
        refine WpA.tF 16 rfl (V.ld1 tb (hr := hul)) ?_
        refine WpA.tF 17 rfl (V.fa tb) ?_
        refine WpA.tF 18 rfl (V.ld1 tb) ?_
        refine WpA.tF 19 rfl (V.sub) ?_
        refine WpA.tF 20 rfl (V.mv) ?_
        refine WpA.tF 21 rfl (V.ix tb) ?_
        refine WpA.oS 22 rfl (O.stRow1 tb (f := i64c) (a := t) rfl rfl rfl rfl (by repeat first | exact Upd.here _ _ _ | apply Upd.there) rfl (by omega) (fun _ => rfl) ⟨?_, ?_, ?_⟩)
        exact holdT
        exact holdT
        refine WpA.tF 23 rfl (V.ix tb) ?_
        refine WpA.oS 24 rfl (O.stRow1 tb (f := boolc) (a := true) rfl rfl rfl rfl (by repeat first | exact Upd.here _ _ _ | apply Upd.there) rfl (by omega) (fun _ => rfl) ⟨?_, ?_, ?_⟩)
        exact holdT
        exact holdT
        refine WpA.ou ?_
        apply Out.seqN
        apply Wp.seq
        apply Wp.region
        refine WpL.v (V.as) ?_
        apply WpL.nil
        apply Out.seqN
        apply Wp.ret
        refine Out.e1 rfl ResIs.t ?_
        focus (exact ⟨_, _, ⟨_, _, rfl, rfl⟩, (by (repeat (first | exact Sel.nil | exact Rem.here | apply Sel.cons | apply Rem.there)))⟩; done)
  · have hg' : goodI x p.reps = false := by simpa using hg
    have hG : Fun Try.prog 36 [A x.c, I p.reps] (B false) := hg' ▸ item_good x p.reps
    have hset : p.set x t = p := by simp [IP.set, hg']
    rw [hset, hg']
    refine Ct.eqv itemE.bare (R := fun r σ' => r = B false ∧ σ' = [cells b 122 (itemC vs us p), manyE i64c 3 1 vs p.xs, manyE boolc 4 1 us p.hs]) ?_ (by rintro r σ' ⟨rfl, rfl⟩; exact ⟨_, ⟨vs, us, hv, hu, rfl, rfl⟩, itemE.bare.symm⟩)
    refine Ct.enter Try.func27 rfl rfl fun W => ?_
    apply Wp.seq
    apply Wp.region
    refine WpL.o (O.bxA (fun p4 => ?_))
    refine WpL.v (V.as) ?_
    apply WpL.nil
    apply Out.seqN
    apply Wp.seq
    apply Wp.seq
    refine Wp.dG [] ?_ (List.Sublist.cons_cons _ (List.Sublist.cons_cons _ (List.Sublist.cons_cons _ (List.Sublist.cons_cons _ List.Sublist.slnil)))) (List.Sublist.cons_cons _ (List.Sublist.cons_cons _ (List.Sublist.cons_cons _ (List.Sublist.cons_cons _ List.Sublist.slnil))))
    refine WpA.tF 0 rfl (V.mv) ?_
    refine WpA.tF 1 rfl (V.eqP) ?_
    refine WpA.tF 2 rfl (V.mv) ?_
    refine WpA.tF 3 rfl (V.ldA tb) ?_
    refine WpA.tF 4 rfl (V.mv) ?_
    refine WpA.tF 5 rfl (V.nc) ?_
    refine WpA.tF 6 rfl (V.fa tb) ?_
    refine WpA.tF 7 rfl (V.ld1 tb (hr := itemC.r)) ?_
    refine WpA.oS 8 rfl (Op1.fn rfl (hG) ⟨?_, ?_, ?_⟩)
    exact holdT
    exact holdT
    refine WpA.tF 9 rfl (V.not) ?_
    refine WpA.tF 10 rfl (V.pF) ?_
    refine WpA.ou ?_
    apply Out.seqN
    refine Wp.cT ?_
    apply Wp.seq
    apply Wp.region
    refine WpL.v (V.as) ?_
    apply WpL.nil
    apply Out.seqN
    apply Wp.ret
    apply Out.seqR
    refine Out.f1 rfl ResIs.t ⟨?_, rfl⟩
    exact rfl
end Go.Proofs.Ytgbflapcadlelaa
