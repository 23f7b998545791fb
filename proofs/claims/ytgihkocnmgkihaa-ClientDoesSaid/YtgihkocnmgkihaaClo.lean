/-
  Layer 21: a list of no keys is nil; keys copied.
-/
import Derived.Test.YtgihkocnmgkihaaSes2
import Derived.Test.YtgihkocnmgkihaaGood
namespace Go.Proofs.Ytgihkocnmgkihaa
open Go.HL
set_option linter.unusedSimpArgs false
set_option linter.unusedVariables false
set_option maxRecDepth 8000
set_option maxHeartbeats 2000000 in
theorem reg_list2 (b m : Nat) (l : PM) (d : TDeed) (hk : d.Kind = 5) (hl : l.length ≤ 100000) :
    Ct Try.prog 15 [Ptr b 0, A d.c] (rgE b m l) (fun r σ' => ∃ v, (listL d.Key l = [] → v = .slice none 0 0) ∧ r = A (RegistryReply.c ⟨0, [], 0, v⟩) ∧ σ' = rgE b m l ++ [rows strc v 9 1 (listL d.Key l)]) := by
  have hP := reg_pairs (Ptr b 0) rfl d.Key
  unfold rgE
  dsimp only [List.cons_append, List.nil_append]
  refine Ct.enter Try.func15 rfl rfl fun W => ?_
  refine Wp.nilRows strc 9 1 ?_
  apply Wp.seq
  apply Wp.region
  refine WpL.o (O.bxA (fun p3 => ?_))
  refine WpL.o (O.al tb (fun p4 => ?_))
  apply WpL.nil
  apply Out.seqN
  apply Wp.seq
  apply Wp.seq
  apply Wp.region
  refine WpL.v (V.mv) ?_
  refine WpL.v (V.eqP) ?_
  apply WpL.nil
  apply Out.seqN
  refine Wp.cF ?_
  apply Wp.skip
  apply Out.seqN
  apply Wp.seq
  refine Wp.dG [] ?_ (List.Sublist.cons _ (List.Sublist.cons_cons _ (List.Sublist.cons _ (List.Sublist.cons_cons _ (List.Sublist.cons _ List.Sublist.slnil))))) (List.Sublist.cons _ (List.Sublist.cons_cons _ (List.Sublist.cons _ (List.Sublist.cons_cons _ (List.Sublist.cons _ List.Sublist.slnil)))))
  refine WpA.tF 0 rfl (V.mv) ?_
  refine WpA.tF 1 rfl (V.nc) ?_
  refine WpA.tF 2 rfl (V.fa tb) ?_
  refine WpA.tF 3 rfl (V.ld1 tb) ?_
  refine WpA.tF 4 rfl (V.fa tb) ?_
  refine WpA.tF 5 rfl (V.ld1 tb) ?_
  refine WpA.e2 6 10 rfl rfl ?_ ?_
  refine Op1.vv (Val.look2D (l := l) (k := d.Key) (vf := vP) RegistryPair.z kokS map72 zero52 rfl rfl (by (repeat first | exact List.Mem.head _ | apply List.Mem.tail))) ⟨?_, ?_, ?_⟩
  exact holdT
  exact holdT
  refine WpA.tF 7 rfl (V.mv) ?_
  refine WpA.tF 8 rfl (V.ex) ?_
  refine WpA.tF 9 rfl (V.ex) ?_
  refine WpA.oS 10 rfl (O.al tb (fun p5 => ⟨?_, ?_, ?_⟩))
  exact holdT
  exact holdT
  refine WpA.oS 11 rfl (O.stA tb ⟨?_, ?_, ?_⟩)
  exact holdT
  exact holdT
  refine WpA.tF 12 rfl (V.as) ?_
  refine WpA.ou ?_
  apply Out.seqN
  apply Wp.seq
  apply Wp.seq
  apply Wp.region
  refine WpL.v (V.fa tb) ?_
  refine WpL.v (V.ld1 tb) ?_
  apply WpL.nil
  apply Out.seqN
  apply Wp.block
  apply Wp.seq
  apply Wp.region
  refine WpL.v (V.cmp) ?_
  refine WpL.v (V.as) ?_
  apply WpL.nil
  apply Out.seqN
  refine Wp.c (fun ha0 => ?_) (fun ha0 => ?_)
  (try simp only [decide_eq_true_eq, decide_eq_false_iff_not, Bool.not_eq_true', Bool.not_eq_false', Bool.not_eq_true, Bool.not_eq_false, not_true_eq_false, not_false_eq_true, reduceCtorEq] at ha0)
  (exfalso; omega)
  (try simp only [decide_eq_true_eq, decide_eq_false_iff_not, Bool.not_eq_true', Bool.not_eq_false', Bool.not_eq_true, Bool.not_eq_false, not_true_eq_false, not_false_eq_true, reduceCtorEq] at ha0)
  apply Wp.seq
  apply Wp.region
  refine WpL.v (V.cmp) ?_
  refine WpL.v (V.as) ?_
  apply WpL.nil
  apply Out.seqN
  refine Wp.c (fun ha1 => ?_) (fun ha1 => ?_)
  (try simp only [decide_eq_true_eq, decide_eq_false_iff_not, Bool.not_eq_true', Bool.not_eq_false', Bool.not_eq_true, Bool.not_eq_false, not_true_eq_false, not_false_eq_true, reduceCtorEq] at ha1)
  (exfalso; omega)
  (try simp only [decide_eq_true_eq, decide_eq_false_iff_not, Bool.not_eq_true', Bool.not_eq_false', Bool.not_eq_true, Bool.not_eq_false, not_true_eq_false, not_false_eq_true, reduceCtorEq] at ha1)
  apply Wp.seq
  apply Wp.region
  refine WpL.v (V.cmp) ?_
  refine WpL.v (V.as) ?_
  apply WpL.nil
  apply Out.seqN
  refine Wp.c (fun ha2 => ?_) (fun ha2 => ?_)
  (try simp only [decide_eq_true_eq, decide_eq_false_iff_not, Bool.not_eq_true', Bool.not_eq_false', Bool.not_eq_true, Bool.not_eq_false, not_true_eq_false, not_false_eq_true, reduceCtorEq] at ha2)
  (exfalso; omega)
  (try simp only [decide_eq_true_eq, decide_eq_false_iff_not, Bool.not_eq_true', Bool.not_eq_false', Bool.not_eq_true, Bool.not_eq_false, not_true_eq_false, not_false_eq_true, reduceCtorEq] at ha2)
  apply Wp.seq
  apply Wp.region
  refine WpL.v (V.cmp) ?_
  refine WpL.v (V.as) ?_
  apply WpL.nil
  apply Out.seqN
  refine Wp.c (fun ha3 => ?_) (fun ha3 => ?_)
  (try simp only [decide_eq_true_eq, decide_eq_false_iff_not, Bool.not_eq_true', Bool.not_eq_false', Bool.not_eq_true, Bool.not_eq_false, not_true_eq_false, not_false_eq_true, reduceCtorEq] at ha3)
  apply Wp.seq
  apply Wp.region
  refine WpL.o (O.al tb (fun p7 => ?_))
  apply WpL.nil
  apply Out.seqN
  apply Wp.seq
  apply Wp.seq
  apply Wp.region
  refine WpL.v (V.mv) ?_
  refine WpL.v (V.fa tb) ?_
  refine WpL.v (V.ld1 tb) ?_
  refine WpL.o (Op1.callT rfl (hP) (by (repeat (first | exact Sel.nil | exact Rem.here | apply Sel.cons | apply Rem.there))) ?_)
  rintro v4 s5 ⟨a56, ⟨c56, ⟨rfl, rfl⟩⟩⟩
  refine incat ?_
  apply WpL.nil
  apply Out.seqN
  apply Wp.block
  rotate_left
  (try simp only [decide_eq_true_eq, decide_eq_false_iff_not, Bool.not_eq_true', Bool.not_eq_false', Bool.not_eq_true, Bool.not_eq_false, not_true_eq_false, not_false_eq_true, reduceCtorEq] at ha3)
  (exfalso; omega)
  refine O.al tb (fun p5 => ⟨?_, ?_, ?_⟩)
  exact holdT
  exact holdT
  refine WpA.oS 6 rfl (Op1.vv (Val.look2D (l := l) (k := d.Key) (vf := vP) RegistryPair.z kokS map72 zero52 rfl rfl (by (repeat first | exact List.Mem.head _ | apply List.Mem.tail))) ⟨?_, ?_, ?_⟩)
  exact holdT
  exact holdT
  refine WpA.tF 7 rfl (V.mv) ?_
  refine WpA.tF 8 rfl (V.ex) ?_
  refine WpA.tF 9 rfl (V.ex) ?_
  refine WpA.oS 11 rfl (O.stA tb ⟨?_, ?_, ?_⟩)
  exact holdT
  exact holdT
  refine WpA.tF 12 rfl (V.as) ?_
  refine WpA.ou ?_
  apply Out.seqN
  apply Wp.seq
  apply Wp.seq
  apply Wp.region
  refine WpL.v (V.fa tb) ?_
  refine WpL.v (V.ld1 tb) ?_
  apply WpL.nil
  apply Out.seqN
  apply Wp.block
  apply Wp.seq
  apply Wp.region
  refine WpL.v (V.cmp) ?_
  refine WpL.v (V.as) ?_
  apply WpL.nil
  apply Out.seqN
  refine Wp.c (fun ha6 => ?_) (fun ha6 => ?_)
  (try simp only [decide_eq_true_eq, decide_eq_false_iff_not, Bool.not_eq_true', Bool.not_eq_false', Bool.not_eq_true, Bool.not_eq_false, not_true_eq_false, not_false_eq_true, reduceCtorEq] at ha6)
  (exfalso; omega)
  (try simp only [decide_eq_true_eq, decide_eq_false_iff_not, Bool.not_eq_true', Bool.not_eq_false', Bool.not_eq_true, Bool.not_eq_false, not_true_eq_false, not_false_eq_true, reduceCtorEq] at ha6)
  apply Wp.seq
  apply Wp.region
  refine WpL.v (V.cmp) ?_
  refine WpL.v (V.as) ?_
  apply WpL.nil
  apply Out.seqN
  refine Wp.c (fun ha7 => ?_) (fun ha7 => ?_)
  (try simp only [decide_eq_true_eq, decide_eq_false_iff_not, Bool.not_eq_true', Bool.not_eq_false', Bool.not_eq_true, Bool.not_eq_false, not_true_eq_false, not_false_eq_true, reduceCtorEq] at ha7)
  (exfalso; omega)
  (try simp only [decide_eq_true_eq, decide_eq_false_iff_not, Bool.not_eq_true', Bool.not_eq_false', Bool.not_eq_true, Bool.not_eq_false, not_true_eq_false, not_false_eq_true, reduceCtorEq] at ha7)
  apply Wp.seq
  apply Wp.region
  refine WpL.v (V.cmp) ?_
  refine WpL.v (V.as) ?_
  apply WpL.nil
  apply Out.seqN
  refine Wp.c (fun ha8 => ?_) (fun ha8 => ?_)
  (try simp only [decide_eq_true_eq, decide_eq_false_iff_not, Bool.not_eq_true', Bool.not_eq_false', Bool.not_eq_true, Bool.not_eq_false, not_true_eq_false, not_false_eq_true, reduceCtorEq] at ha8)
  (exfalso; omega)
  (try simp only [decide_eq_true_eq, decide_eq_false_iff_not, Bool.not_eq_true', Bool.not_eq_false', Bool.not_eq_true, Bool.not_eq_false, not_true_eq_false, not_false_eq_true, reduceCtorEq] at ha8)
  apply Wp.seq
  apply Wp.region
  refine WpL.v (V.cmp) ?_
  refine WpL.v (V.as) ?_
  apply WpL.nil
  apply Out.seqN
  refine Wp.c (fun ha9 => ?_) (fun ha9 => ?_)
  (try simp only [decide_eq_true_eq, decide_eq_false_iff_not, Bool.not_eq_true', Bool.not_eq_false', Bool.not_eq_true, Bool.not_eq_false, not_true_eq_false, not_false_eq_true, reduceCtorEq] at ha9)
  apply Wp.seq
  apply Wp.region
  refine WpL.o (O.al tb (fun p7 => ?_))
  apply WpL.nil
  apply Out.seqN
  apply Wp.seq
  apply Wp.seq
  apply Wp.region
  refine WpL.v (V.mv) ?_
  refine WpL.v (V.fa tb) ?_
  refine WpL.v (V.ld1 tb) ?_
  refine WpL.o (Op1.callT rfl (hP) (by (repeat (first | exact Sel.nil | exact Rem.here | apply Sel.cons | apply Rem.there))) ?_)
  rintro v12 s13 ⟨a56_10, ⟨c56_11, ⟨rfl, rfl⟩⟩⟩
  refine incat ?_
  apply WpL.nil
  apply Out.seqN
  apply Wp.block
  rotate_left
  (try simp only [decide_eq_true_eq, decide_eq_false_iff_not, Bool.not_eq_true', Bool.not_eq_false', Bool.not_eq_true, Bool.not_eq_false, not_true_eq_false, not_false_eq_true, reduceCtorEq] at ha9)
  (exfalso; omega)
  · refine Wp.rg (pairs_iter a56 c56 b m d.Key l hl) (fun y : Go.Value × List (List UInt8) => [cells p7 30 [y.1], rows strc y.1 9 1 y.2]) (fun pre y => y.2 = pre.map (·.Key) ∧ (y.1 = .slice none 0 0 ∨ ∃ g cap, y.1 = .slice (some ⟨g, 0, none⟩) y.2.length cap) ∧ (y.2 = [] → y.1 = .slice none 0 0)) (fun _ _ _ => False) (.slice none 0 0, []) ⟨rfl, .inl rfl, fun _ => rfl⟩ ?_ ?_ ?_
    · rintro pre x post ⟨v, ks⟩ lp rec hx ⟨hks, _, _⟩ hr W' D' K hK
      dsimp only at hks
      have hlen := pairsL_len d.Key l
      rw [hx] at hlen
      simp only [List.length_append, List.length_cons] at hlen
      have hkl : ks.length = pre.length := by rw [hks, List.length_map]
      dsimp only [List.cons_append, List.nil_append]
      apply Wp.region
      refine WpL.o (O.al tb (fun p8 => ?_))
      refine WpL.o (O.stA tb ?_)
      apply WpL.nil
      refine Out.bg (by assumption) ?_
      apply Wp.block
      apply Wp.region
      refine WpL.v (V.ld1 tb) ?_
      refine WpL.v (V.fa tb) ?_
      refine WpL.v (V.ld1 tb) ?_
      refine WpL.o (O.lit tb (fun p61 => ?_))
      refine WpL.o (O.apL tb rfl rfl (by (intro _; repeat first | exact Upd.here _ _ _ | apply Upd.there)) (SrcL.one (f := strc) (a := x.Key) tb (by (repeat first | exact List.Mem.head _ | apply List.Mem.tail)) (fun _ => rfl)) (fun g62 cap62 => ?_))
      refine WpL.o (O.st1 tb ?_)
      apply WpL.nil
      apply Out.blockN
      exact Out.rd hK (.slice (some ⟨g62, 0, none⟩) (ks ++ [x.Key]).length cap62, ks ++ [x.Key]) ⟨by show _ = _; rw [hks]; simp, .inr ⟨_, _, rfl⟩, fun h => by simp at h⟩
    · rintro ⟨v, ks⟩ b1 ⟨hks, hv, hvn⟩
      dsimp only at hks hv hvn
      have e : ks = listL d.Key l := hks
      subst e
      dsimp only [List.cons_append, List.nil_append]
      rcases hv with rfl | ⟨g, cp, rfl⟩
      · apply Out.blockN
        apply Out.seqN
        apply Wp.seq
        apply Wp.region
        refine WpL.v (V.ld1 tb) ?_
        refine WpL.v (V.bld tb) ?_
        refine WpL.o (O.stA tb ?_)
        apply WpL.nil
        apply Out.seqN
        apply Wp.ret
        apply Out.blockR
        apply Out.seqR
        refine Out.e1 rfl (ResIs.ca tb) ?_
        focus (exact ⟨_, _, ⟨_, hvn, rfl, rfl⟩, (by (repeat (first | exact Sel.nil | exact Rem.here | apply Sel.cons | apply Rem.there)))⟩; done)
      · apply Out.blockN
        apply Out.seqN
        apply Wp.seq
        apply Wp.region
        refine WpL.v (V.ld1 tb) ?_
        refine WpL.v (V.bld tb) ?_
        refine WpL.o (O.stA tb ?_)
        apply WpL.nil
        apply Out.seqN
        apply Wp.ret
        apply Out.blockR
        apply Out.seqR
        refine Out.e1 rfl (ResIs.ca tb) ?_
        focus (exact ⟨_, _, ⟨_, hvn, rfl, rfl⟩, (by (repeat (first | exact Sel.nil | exact Rem.here | apply Sel.cons | apply Rem.there)))⟩; done)
    · intro _ _ _ _ _ _ _ h
      exact h.elim
  · refine Wp.rg (pairs_iter a56_10 c56_11 b m d.Key l hl) (fun y : Go.Value × List (List UInt8) => [cells p7 30 [y.1], rows strc y.1 9 1 y.2]) (fun pre y => y.2 = pre.map (·.Key) ∧ (y.1 = .slice none 0 0 ∨ ∃ g cap, y.1 = .slice (some ⟨g, 0, none⟩) y.2.length cap) ∧ (y.2 = [] → y.1 = .slice none 0 0)) (fun _ _ _ => False) (.slice none 0 0, []) ⟨rfl, .inl rfl, fun _ => rfl⟩ ?_ ?_ ?_
    · rintro pre x post ⟨v, ks⟩ lp rec hx ⟨hks, _, _⟩ hr W' D' K hK
      dsimp only at hks
      have hlen := pairsL_len d.Key l
      rw [hx] at hlen
      simp only [List.length_append, List.length_cons] at hlen
      have hkl : ks.length = pre.length := by rw [hks, List.length_map]
      dsimp only [List.cons_append, List.nil_append]
      apply Wp.region
      refine WpL.o (O.al tb (fun p8 => ?_))
      refine WpL.o (O.stA tb ?_)
      apply WpL.nil
      refine Out.bg (by assumption) ?_
      apply Wp.block
      apply Wp.region
      refine WpL.v (V.ld1 tb) ?_
      refine WpL.v (V.fa tb) ?_
      refine WpL.v (V.ld1 tb) ?_
      refine WpL.o (O.lit tb (fun p61 => ?_))
      refine WpL.o (O.apL tb rfl rfl (by (intro _; repeat first | exact Upd.here _ _ _ | apply Upd.there)) (SrcL.one (f := strc) (a := x.Key) tb (by (repeat first | exact List.Mem.head _ | apply List.Mem.tail)) (fun _ => rfl)) (fun g62 cap62 => ?_))
      refine WpL.o (O.st1 tb ?_)
      apply WpL.nil
      apply Out.blockN
      exact Out.rd hK (.slice (some ⟨g62, 0, none⟩) (ks ++ [x.Key]).length cap62, ks ++ [x.Key]) ⟨by show _ = _; rw [hks]; simp, .inr ⟨_, _, rfl⟩, fun h => by simp at h⟩
    · rintro ⟨v, ks⟩ b1 ⟨hks, hv, hvn⟩
      dsimp only at hks hv hvn
      have e : ks = listL d.Key l := hks
      subst e
      dsimp only [List.cons_append, List.nil_append]
      rcases hv with rfl | ⟨g, cp, rfl⟩
      · apply Out.blockN
        apply Out.seqN
        apply Wp.seq
        apply Wp.region
        refine WpL.v (V.ld1 tb) ?_
        refine WpL.v (V.bld tb) ?_
        refine WpL.o (O.stA tb ?_)
        apply WpL.nil
        apply Out.seqN
        apply Wp.ret
        apply Out.blockR
        apply Out.seqR
        refine Out.e1 rfl (ResIs.ca tb) ?_
        focus (exact ⟨_, _, ⟨_, hvn, rfl, rfl⟩, (by (repeat (first | exact Sel.nil | exact Rem.here | apply Sel.cons | apply Rem.there)))⟩; done)
      · apply Out.blockN
        apply Out.seqN
        apply Wp.seq
        apply Wp.region
        refine WpL.v (V.ld1 tb) ?_
        refine WpL.v (V.bld tb) ?_
        refine WpL.o (O.stA tb ?_)
        apply WpL.nil
        apply Out.seqN
        apply Wp.ret
        apply Out.blockR
        apply Out.seqR
        refine Out.e1 rfl (ResIs.ca tb) ?_
        focus (exact ⟨_, _, ⟨_, hvn, rfl, rfl⟩, (by (repeat (first | exact Sel.nil | exact Rem.here | apply Sel.cons | apply Rem.there)))⟩; done)
    · intro _ _ _ _ _ _ _ h
      exact h.elim
theorem reg_any2 (b m n : Nat) (l : PM) (d : TDeed) (hi : RI n l) (hn : n ≤ 10000) :
    Ct Try.prog 15 [Ptr b 0, A d.c] [cells b 74 (RegistryRegistry.c ⟨.map (some m)⟩), mE m l] (fun r σ' => ∃ ao len cap, ((doA l d).keys = [] → Go.Value.slice ao len cap = .slice none 0 0) ∧ r = A (RegistryReply.c ⟨(doA l d).err, (doA l d).val, (doA l d).ver, .slice ao len cap⟩) ∧ σ' = [rows strc (.slice ao len cap) 9 1 (doA l d).keys, cells b 74 (RegistryRegistry.c ⟨.map (some m)⟩), mE m (doA l d).l]) := by
  have hl := hi.len
  have hv := hi.ver d.Key
  unfold doA
  by_cases hk : d.Kind = 5
  · simp only [if_pos hk]
    refine Ct.postW (reg_list2 b m l d hk (by omega)) ?_
    rintro v σ' W D w ⟨x, hxn, rfl, rfl⟩ hH
    have hH2 := hH.perm (List.perm_append_comm (l₁ := rgE b m l) (l₂ := [_]))
    obtain ⟨ao, cap, _, _, rfl, _⟩ := rowsRd (f := strc) (sz := 1) (E := 9) (fun _ => rfl) (List.Mem.head _) w hH2
    exact ⟨_, ⟨ao, _, cap, hxn, rfl, rfl⟩, hH2⟩
  · simp only [if_neg hk]
    refine Ct.postW (reg_do b m l d hk (by omega)) ?_
    rintro v σ' W D w ⟨rfl, rfl⟩ hH
    refine ⟨_, ⟨none, 0, 0, fun _ => rfl, ?_, rfl⟩, hH.rowsNil strc 9 1⟩
    rw [← doN_keys l d]
/-- A copy of keys: new memory, or nil. -/
theorem keys_clone (e : Ent) (v : Go.Value) (ks : List (List UInt8)) (hR : KR e v ks) (h0 : ks = [] → v = .slice none 0 0) (hkl : ks.length ≤ 100000) :
    Ct Try.prog 55 [v] [e] (fun r σ' => ∃ ao len cap, (ks = [] → Go.Value.slice ao len cap = .slice none 0 0) ∧ r = .slice ao len cap ∧ σ' = [rows strc (.slice ao len cap) 9 1 ks, e]) := by
  by_cases hk : ks = []
  · subst hk
    rw [h0 rfl]
    refine Ct.enter Try.func55 rfl rfl fun W => ?_
    refine Wp.nilRows strc 9 1 ?_
    apply Wp.seq
    apply Wp.region
    refine WpL.v (V.as) ?_
    apply WpL.nil
    apply Out.seqN
    apply Wp.seq
    apply Wp.seq
    apply Wp.region
    refine WpL.v (V.mv) ?_
    refine WpL.v (V.eqSN tb) ?_
    apply WpL.nil
    apply Out.seqN
    refine Wp.cT ?_
    apply Wp.seq
    apply Wp.region
    refine WpL.v (V.as) ?_
    apply WpL.nil
    apply Out.seqN
    apply Wp.ret
    apply Out.seqR
    refine Out.e1 rfl ResIs.t ?_
    focus (exact ⟨_, _, ⟨none, 0, 0, fun _ => rfl, rfl, rfl⟩, (by (repeat (first | exact Sel.nil | exact Rem.here | apply Sel.cons | apply Rem.there)))⟩; done)
  · obtain ⟨ao, cap, b, off, rfl, hRd⟩ := hR
    have hpos : 0 < ks.length := List.length_pos_iff.2 hk
    obtain rfl := hRd.addr hpos
    refine Ct.enter Try.func55 rfl rfl fun W => ?_
    apply Wp.seq
    apply Wp.region
    refine WpL.v (V.as) ?_
    apply WpL.nil
    apply Out.seqN
    apply Wp.seq
    apply Wp.seq
    apply Wp.region
    refine WpL.v (V.mv) ?_
    refine WpL.v (V.eqSS tb) ?_
    apply WpL.nil
    apply Out.seqN
    refine Wp.cF ?_
    apply Wp.skip
    apply Out.seqN
    apply Wp.seq
    apply Wp.region
    refine WpL.o (O.litL tb strc [] rfl PartsFrom.nil rfl rfl (fun p5 => ?_))
    refine WpL.v (V.mv) ?_
    refine WpL.o (O.apL tb rfl rfl (by (intro _; repeat first | exact Upd.here _ _ _ | apply Upd.there)) (SrcL.rd tb hRd (by (repeat first | exact List.Mem.head _ | apply List.Mem.tail)) ones_strc (fun _ => rfl) hpos) (fun g7 cap7 => ?_))
    refine WpL.v (V.as) ?_
    apply WpL.nil
    apply Out.seqN
    apply Wp.ret
    refine Out.e1 rfl ResIs.t ?_
    focus (exact ⟨_, _, ⟨_, _, _, fun h => absurd h hk, rfl, rfl⟩, (by (repeat (first | exact Sel.nil | exact Rem.here | apply Sel.cons | apply Rem.there)))⟩; done)
end Go.Proofs.Ytgihkocnmgkihaa
