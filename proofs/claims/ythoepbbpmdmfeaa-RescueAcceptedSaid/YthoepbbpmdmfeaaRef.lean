/-
  Layer 16: the document's Choose; what the statements ask first.
-/
import Derived.Test.YthoepbbpmdmfeaaChoose
namespace Go.Proofs.Ythoepbbpmdmfeaa
open Go.HL
set_option linter.unusedSimpArgs false
set_option linter.unusedVariables false
set_option maxRecDepth 8000
theorem r16_size (n : Int) : Fun Try.prog 24 [I n] (B (decide (n = 3) || (decide (n = 5) || decide (n = 7)))) := by
  refine Ct.enter Try.func24 rfl rfl fun W => ?_
  apply Wp.seq
  apply Wp.region
  refine WpL.v (V.as) ?_
  apply WpL.nil
  apply Out.seqN
  apply Wp.seq
  apply Wp.region
  refine WpL.v (V.mv) ?_
  refine WpL.v (V.cmp) ?_
  refine WpL.v (V.mv) ?_
  refine WpL.pt (fun hsz0 => ?_) (fun hsz0 => ?_)
  (try simp only [decide_eq_true_eq, decide_eq_false_iff_not, Bool.not_eq_true', Bool.not_eq_false', Bool.not_eq_true, Bool.not_eq_false, not_true_eq_false, not_false_eq_true, reduceCtorEq] at hsz0)
  refine WpL.sk ?_
  refine WpL.sk ?_
  refine WpL.v (V.pT) ?_
  refine WpL.v (V.mv) ?_
  refine WpL.sk ?_
  refine WpL.sk ?_
  refine WpL.v (V.pT) ?_
  refine WpL.v (V.as) ?_
  apply WpL.nil
  apply Out.seqN
  apply Wp.ret
  refine Out.f1 rfl ResIs.t ⟨?_, rfl⟩
  focus ((first | (simp [*]; done) | (simp [*]; omega)); done)
  (try simp only [decide_eq_true_eq, decide_eq_false_iff_not, Bool.not_eq_true', Bool.not_eq_false', Bool.not_eq_true, Bool.not_eq_false, not_true_eq_false, not_false_eq_true, reduceCtorEq] at hsz0)
  refine WpL.v (V.mv) ?_
  refine WpL.v (V.cmp) ?_
  refine WpL.v (V.pF) ?_
  refine WpL.v (V.mv) ?_
  refine WpL.pt (fun hsz1 => ?_) (fun hsz1 => ?_)
  (try simp only [decide_eq_true_eq, decide_eq_false_iff_not, Bool.not_eq_true', Bool.not_eq_false', Bool.not_eq_true, Bool.not_eq_false, not_true_eq_false, not_false_eq_true, reduceCtorEq] at hsz1)
  refine WpL.sk ?_
  refine WpL.sk ?_
  refine WpL.v (V.pT) ?_
  refine WpL.v (V.as) ?_
  apply WpL.nil
  apply Out.seqN
  apply Wp.ret
  refine Out.f1 rfl ResIs.t ⟨?_, rfl⟩
  focus ((first | (simp [*]; done) | (simp [*]; omega)); done)
  (try simp only [decide_eq_true_eq, decide_eq_false_iff_not, Bool.not_eq_true', Bool.not_eq_false', Bool.not_eq_true, Bool.not_eq_false, not_true_eq_false, not_false_eq_true, reduceCtorEq] at hsz1)
  refine WpL.v (V.mv) ?_
  refine WpL.v (V.cmp) ?_
  refine WpL.v (V.pF) ?_
  refine WpL.v (V.as) ?_
  apply WpL.nil
  apply Out.seqN
  apply Wp.ret
  refine Out.f1 rfl ResIs.t ⟨?_, rfl⟩
  focus ((first | (simp [*]; done) | (simp [*]; omega)); done)
theorem rescue_new (n self : Int) (x : TItem) (y : TBallot) : Ct Try.prog 62 [I n, I self, A x.c, A y.c] [] (fun r σ' => ∃ b, r = Ptr b 0 ∧ σ' = [cells b 154 (RescS.c { RescS.z with n := n, self := self, item := x, ballot := y })]) := by
  refine Ct.enter Try.func62 rfl rfl fun W => ?_
  apply Wp.seq
  apply Wp.region
  refine WpL.o (O.bxA (fun p6 => ?_))
  refine WpL.o (O.bxA (fun p7 => ?_))
  refine WpL.v (V.as) ?_
  apply WpL.nil
  apply Out.seqN
  apply Wp.seq
  apply Wp.region
  refine WpL.v (V.mv) ?_
  refine WpL.v (V.mv) ?_
  refine WpL.v (V.ldA tb) ?_
  refine WpL.v (V.ldA tb) ?_
  refine WpL.v (V.bld tb) ?_
  refine WpL.o (O.bxA (fun p14 => ?_))
  refine WpL.v (V.as) ?_
  apply WpL.nil
  apply Out.seqN
  apply Wp.ret
  refine Out.e1 rfl ResIs.t ?_
  exact ⟨_, _, ⟨_, rfl, rfl⟩, (by (repeat (first | exact Sel.nil | exact Rem.here | apply Sel.cons | apply Rem.there)))⟩
theorem votesC_len {l : List TMsg} {h : List Bool} {n : Int} (hl : l.length = 7) (hh : h.length = 7) : (votesC l h n).length = 183 := by
  have e := flatMap_len TMsg.len l
  simp only [votesC, List.length_append, e, hl, List.length_map, hh, List.length_singleton]
theorem RescS.at {x : RescS} (hl : x.gl.length = 7) (hh : x.gh.length = 7) : x.c[190]? = some x.next := by
  have e : x.c = ([.int .i64 x.n, .int .i64 x.self] ++ (x.item.c ++ (x.ballot.c ++ ([.bool x.lost] ++ (votesC x.gl x.gh x.gn))))) ++ [x.next] := by simp [RescS.c]
  have hv := votesC_len (n := x.gn) hl hh
  rw [e, List.getElem?_append_right (by simp [hv, TItem.len, TBallot.len])]
  simp [hv, TItem.len, TBallot.len]
def prepM (x : RescS) (k : Nat) : TMsg := { TMsg.z with Kind := 6, From := x.self, To := (k : Int), Item := x.item, Ballot := x.ballot }
set_option maxHeartbeats 2000000 in
theorem rescue_say0 (b : Nat) (x : RescS) (m : Nat) (hn : x.n = (m : Int)) (hm : m ≤ 100) (h0 : x.lost = false) (hx : x.next = .pointer none) (hl : x.gl.length = 7) (hh : x.gh.length = 7) :
    Ct Try.prog 66 [Ptr b 0] [cells b 154 x.c] (fun r σ' => ∃ v, r = v ∧ σ' = [rows TMsg.c v 44 25 ((List.range m).map (prepM x)), cells b 154 x.c]) := by
  have hat := RescS.at hl hh
  rw [hx] at hat
  refine Ct.enter Try.func66 rfl rfl fun W => ?_
  refine Wp.nilRows TMsg.c 44 25 ?_
  apply Wp.seq
  apply Wp.region
  refine WpL.v (V.as) ?_
  apply WpL.nil
  apply Out.seqN
  apply Wp.seq
  apply Wp.block
  apply Wp.seq
  apply Wp.region
  refine WpL.v (V.mv) ?_
  refine WpL.v (V.eqP) ?_
  refine WpL.v (V.mv) ?_
  refine WpL.v (V.mv) ?_
  refine WpL.v (V.nc) ?_
  refine WpL.v (V.fa tb) ?_
  refine WpL.v (V.ld1 tb) ?_
  refine WpL.v (V.pF) ?_
  refine WpL.v (V.as) ?_
  apply WpL.nil
  apply Out.seqN
  refine Wp.c (fun hsy0 => ?_) (fun hsy0 => ?_)
  (try simp only [decide_eq_true_eq, decide_eq_false_iff_not, Bool.not_eq_true', Bool.not_eq_false', Bool.not_eq_true, Bool.not_eq_false, not_true_eq_false, not_false_eq_true, reduceCtorEq] at hsy0)
  exact absurd (Eq.trans (Eq.symm hsy0) (by assumption) : true = false) (by decide)
  (try simp only [decide_eq_true_eq, decide_eq_false_iff_not, Bool.not_eq_true', Bool.not_eq_false', Bool.not_eq_true, Bool.not_eq_false, not_true_eq_false, not_false_eq_true, reduceCtorEq] at hsy0)
  apply Wp.seq
  apply Wp.region
  refine WpL.v (V.mv) ?_
  refine WpL.v (V.nc) ?_
  refine WpL.v (V.fa tb) ?_
  refine WpL.v (V.ld1 tb (hr := hat)) ?_
  refine WpL.v (V.neN) ?_
  refine WpL.v (V.as) ?_
  apply WpL.nil
  apply Out.seqN
  refine Wp.cF ?_
  apply Wp.skip
  apply Out.blockN
  apply Out.seqN
  apply Wp.seq
  apply Wp.region
  refine WpL.v (V.as) ?_
  apply WpL.nil
  apply Out.seqN
  apply Wp.seq
  apply Wp.seq
  apply Wp.region
  refine WpL.v (V.mv) ?_
  refine WpL.v (V.nc) ?_
  refine WpL.v (V.fa tb) ?_
  refine WpL.v (V.ld1 tb) ?_
  refine WpL.v (V.mv) ?_
  apply WpL.nil
  apply Out.seqN
  apply Wp.block
  refine Wp.lp [28, 0] (fun y : Nat × Go.Value => y.1 ≤ m) (fun y => [(29, I (y.1 : Int)), (3, y.2)]) (fun y => [rows TMsg.c y.2 44 25 ((List.range y.1).map (prepM x))]) (fun y => m - y.1) (0, _) (Nat.zero_le _) ?_
  rintro ⟨k, v⟩ hk K hK
  dsimp only at hk
  dsimp only [List.cons_append, List.nil_append]
  have hlen : ((List.range k).map (prepM x)).length = k := by simp
  by_cases hlt : k < m
  · have e1 : (List.range (k + 1)).map (prepM x) = (List.range k).map (prepM x) ++ [prepM x k] := by rw [List.range_succ, List.map_append]; rfl
    generalize (List.range k).map (prepM x) = L at *
    have hbb : (L.length + 1) * 1000 ≤ 1000000 := by omega
    apply Wp.seq
    apply Wp.region
    refine WpL.v (V.cmp) ?_
    apply WpL.nil
    apply Out.seqN
    apply Wp.seq
    refine Wp.c (fun h0 => ?_) (fun h0 => ?_)
    (try simp only [decide_eq_true_eq, decide_eq_false_iff_not, Bool.not_eq_true', Bool.not_eq_false', Bool.not_eq_true, Bool.not_eq_false, not_true_eq_false, not_false_eq_true, reduceCtorEq] at h0)
    apply Wp.skip
    apply Out.seqN
    apply Wp.seq
    apply Wp.block
    apply Wp.seq
    apply Wp.region
    refine WpL.v (V.mv) ?_
    refine WpL.v (V.as) ?_
    apply WpL.nil
    apply Out.seqN
    refine Wp.dG [] ?_ (List.Sublist.cons _ (List.Sublist.cons_cons _ List.Sublist.slnil)) (List.Sublist.cons _ (List.Sublist.cons_cons _ List.Sublist.slnil))
    refine WpA.tF 0 rfl (V.mv) ?_
    refine WpA.tF 1 rfl (V.mv) ?_
    refine WpA.tF 2 rfl (V.nc) ?_
    refine WpA.tF 3 rfl (V.fa tb) ?_
    refine WpA.tF 4 rfl (V.ld1 tb) ?_
    refine WpA.tF 5 rfl (V.mv) ?_
    refine WpA.tF 6 rfl (V.mv) ?_
    refine WpA.tF 7 rfl (V.nc) ?_
    refine WpA.tF 8 rfl (V.fa tb) ?_
    refine WpA.tF 9 rfl (V.ldA tb) ?_
    refine WpA.tF 10 rfl (V.mv) ?_
    refine WpA.tF 11 rfl (V.nc) ?_
    refine WpA.tF 12 rfl (V.fa tb) ?_
    refine WpA.tF 13 rfl (V.ldA tb) ?_
    refine WpA.tF 14 rfl (V.bld tb (c' := (prepM x k).c)) ?_
    refine WpA.oS 15 rfl (O.lit tb (fun p47 => ⟨?_, ?_, ?_⟩))
    exact holdT
    exact holdT
    refine WpA.oS 16 rfl (O.apL tb rfl rfl (by (intro _; repeat first | exact Upd.here _ _ _ | apply Upd.there)) (SrcL.one (f := TMsg.c) (a := prepM x k) tb (by (repeat first | exact List.Mem.head _ | apply List.Mem.tail)) TMsg.ones) (fun g48 cap48 => ⟨?_, ?_, ?_⟩))
    exact holdT
    exact holdT
    refine WpA.tF 17 rfl (V.as) ?_
    refine WpA.ou ?_
    apply Out.blockN
    apply Out.seqN
    apply Wp.region
    refine WpL.v (V.add) ?_
    refine WpL.v (V.mv) ?_
    apply WpL.nil
    rotate_left
    (try simp only [decide_eq_true_eq, decide_eq_false_iff_not, Bool.not_eq_true', Bool.not_eq_false', Bool.not_eq_true, Bool.not_eq_false, not_true_eq_false, not_false_eq_true, reduceCtorEq] at h0)
    (exfalso; omega)
    all_goals exact Out.ag hK (k + 1, _) (by show k + 1 ≤ _; omega) (by show m - (k + 1) < m - k; omega) (hs := by rw [e1]; (repeat (first | exact Sel.nil | exact Rem.here | apply Sel.cons | apply Rem.there)))
  · obtain rfl : k = m := by omega
    clear hK
    apply Wp.seq
    apply Wp.region
    refine WpL.v (V.cmp) ?_
    apply WpL.nil
    apply Out.seqN
    apply Wp.seq
    refine Wp.c (fun h0 => ?_) (fun h0 => ?_)
    (try simp only [decide_eq_true_eq, decide_eq_false_iff_not, Bool.not_eq_true', Bool.not_eq_false', Bool.not_eq_true, Bool.not_eq_false, not_true_eq_false, not_false_eq_true, reduceCtorEq] at h0)
    (exfalso; omega)
    (try simp only [decide_eq_true_eq, decide_eq_false_iff_not, Bool.not_eq_true', Bool.not_eq_false', Bool.not_eq_true, Bool.not_eq_false, not_true_eq_false, not_false_eq_true, reduceCtorEq] at h0)
    apply Wp.exit
    apply Out.seqE
    apply Out.seqE
    apply Out.blockE
    apply Out.seqN
    apply Wp.seq
    apply Wp.region
    refine WpL.v (V.mv) ?_
    refine WpL.v (V.as) ?_
    apply WpL.nil
    apply Out.seqN
    apply Wp.ret
    refine Out.e1 rfl ResIs.t ?_
    exact ⟨_, _, ⟨_, rfl, rfl⟩, (by (repeat (first | exact Sel.nil | exact Rem.here | apply Sel.cons | apply Rem.there)))⟩
def am (k : Int) : TMsg := { TMsg.z with Kind := 7, From := k }
set_option maxHeartbeats 2000000 in
theorem alive16 : Fun Try.prog 23 [] (B true) := by
  have hC (g : Nat) : Ct Try.prog 25 [I 3, A (TItem.c ⟨0, 1⟩), .slice (some ⟨g, 0, none⟩) 2 2] [rows TMsg.c (.slice (some ⟨g, 0, none⟩) 2 2) 44 25 [am 0, am 1]] (fun r σ' => r = .tuple #[I 2, A TCall.z.c] ∧ σ' = [rows TMsg.c (.slice (some ⟨g, 0, none⟩) 2 2) 44 25 [am 0, am 1]]) :=
    rescue_choose _ _ 2 _ _ 3 ⟨0, 1⟩ [am 0, am 1] (by decide) (by decide) (Rd.rows (l := [am 0, am 1]) TMsg.len (by decide))
  have hS (b : Nat) : Ct Try.prog 66 [Ptr b 0] [cells b 154 (RescS.c { RescS.z with n := 3, self := 1, item := ⟨0, 1⟩, ballot := ⟨1, 1⟩ })] (fun r σ' => ∃ g cp, r = .slice (some ⟨g, 0, none⟩) 3 cp ∧ σ' = [rows TMsg.c (.slice (some ⟨g, 0, none⟩) 3 cp) 44 25 ((List.range 3).map (prepM { RescS.z with n := 3, self := 1, item := ⟨0, 1⟩, ballot := ⟨1, 1⟩ })), cells b 154 (RescS.c { RescS.z with n := 3, self := 1, item := ⟨0, 1⟩, ballot := ⟨1, 1⟩ })]) := by
    refine Ct.facts (rescue_say0 b { RescS.z with n := 3, self := 1, item := ⟨0, 1⟩, ballot := ⟨1, 1⟩ } 3 rfl (by decide) rfl rfl rfl rfl) ?_
    rintro v σ' W D w ⟨v', rfl, rfl⟩ hH
    rcases rowsForm (List.Mem.head _) w hH with ⟨_, h⟩ | ⟨g, cp, rfl, _⟩
    · simp at h
    · exact ⟨g, cp, rfl, rfl⟩
  refine Ct.enter Try.func23 rfl rfl fun W => ?_
  apply Wp.seq
  apply Wp.region
  refine WpL.v (V.as) ?_
  apply WpL.nil
  apply Out.seqN
  apply Wp.seq
  apply Wp.region
  refine WpL.v (V.bld tb) ?_
  refine WpL.v (V.bld tb) ?_
  refine WpL.v (V.bld tb) ?_
  refine WpL.o (O.litL tb TMsg.c [am 0, am 1] rfl (PartsFrom.agg rfl (PartsFrom.agg rfl PartsFrom.nil)) rfl rfl (fun p7 => ?_))
  refine WpL.o (Op1.callT rfl (hC _) (by (repeat (first | exact Sel.nil | exact Rem.here | apply Sel.cons | apply Rem.there))) ?_)
  rintro v0 s1 ⟨rfl, rfl⟩
  refine incat ?_
  refine WpL.v (V.mv) ?_
  refine WpL.v (V.ex) ?_
  refine WpL.v (V.ex) ?_
  refine WpL.o (O.al tb (fun p2 => ?_))
  refine WpL.v (V.as) ?_
  refine WpL.o (O.stA tb ?_)
  apply WpL.nil
  apply Out.seqN
  apply Wp.seq
  apply Wp.region
  refine WpL.v (V.mv) ?_
  refine WpL.v (V.cmp) ?_
  refine WpL.v (V.mv) ?_
  refine WpL.v (V.ldA tb) ?_
  refine WpL.v (V.bld tb) ?_
  refine WpL.v (V.eq (TCall.eqT _ _ _)) ?_
  refine WpL.v (V.pT) ?_
  refine WpL.v (V.mv) ?_
  refine WpL.v (V.bld tb) ?_
  refine WpL.v (V.bld tb) ?_
  refine WpL.o (Op1.callT rfl (rescue_new _ _ _ _) (by (repeat (first | exact Sel.nil | exact Rem.here | apply Sel.cons | apply Rem.there))) ?_)
  rintro v2 s3 ⟨b21, ⟨rfl, rfl⟩⟩
  refine incat ?_
  refine WpL.o (Op1.callT rfl (hS _) (by (repeat (first | exact Sel.nil | exact Rem.here | apply Sel.cons | apply Rem.there))) ?_)
  rintro v4 s5 ⟨g22, ⟨cp22, ⟨rfl, rfl⟩⟩⟩
  refine incat ?_
  refine WpL.v (V.lenL tb) ?_
  refine WpL.v (V.cmp) ?_
  refine WpL.v (V.pT) ?_
  refine WpL.v (V.as) ?_
  apply WpL.nil
  apply Out.seqN
  apply Wp.ret
  refine Out.f1 rfl ResIs.t ⟨?_, rfl⟩
  exact rfl
end Go.Proofs.Ythoepbbpmdmfeaa
