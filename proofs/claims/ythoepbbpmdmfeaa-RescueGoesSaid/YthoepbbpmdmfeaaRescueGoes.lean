/-
  The statement RescueGoes of layer 16: a rescue that hears a majority's promises goes on just then; once more the same ones change nothing. Proved for every input.
-/
import Derived.Test.YthoepbbpmdmfeaaHead
import Derived.Test.YthoepbbpmdmfeaaResc2
namespace Go.Proofs.Ythoepbbpmdmfeaa
open Go.HL
set_option linter.unusedSimpArgs false
set_option linter.unusedVariables false
set_option maxRecDepth 8000
theorem rescue_phase0 (b : Nat) (x : RescS) (w : x.wf) (hx : x.next = .pointer none) : Ct Try.prog 64 [Ptr b 0] [cells b 154 x.c] (fun r σ' => r = I 0 ∧ σ' = [cells b 154 x.c]) := by
  have hat := RescS.at w.gl w.gh
  rw [hx] at hat
  refine Ct.enter Try.func64 rfl rfl fun W => ?_
  apply Wp.seq
  apply Wp.region
  refine WpL.v (V.as) ?_
  apply WpL.nil
  apply Out.seqN
  apply Wp.seq
  apply Wp.seq
  apply Wp.region
  refine WpL.v (V.mv) ?_
  refine WpL.v (V.eqP) ?_
  apply WpL.nil
  apply Out.seqN
  refine Wp.cF ?_
  apply Wp.skip
  apply Out.seqN
  apply Wp.seq
  apply Wp.region
  refine WpL.v (V.mv) ?_
  refine WpL.v (V.nc) ?_
  refine WpL.v (V.fa tb) ?_
  refine WpL.v (V.ld1 tb (hr := hat)) ?_
  refine WpL.o (Op1.fn rfl (lead_phase0) ?_)
  refine WpL.v (V.as) ?_
  apply WpL.nil
  apply Out.seqN
  apply Wp.ret
  refine Out.f1 rfl ResIs.t ⟨?_, rfl⟩
  exact rfl
section
variable (b q : Nat) (x : RescS) (L : LeadS) (w : x.wf) (hx : x.next = Ptr q 0)
include w hx
theorem rescue_phase : Ct Try.prog 64 [Ptr b 0] [cells b 154 x.c, cells q 142 L.c] (fun r σ' => r = I L.phase ∧ σ' = [cells b 154 x.c, cells q 142 L.c]) := by
  have hat := RescS.at w.gl w.gh
  rw [hx] at hat
  have hP := lead_phase q L
  refine Ct.enter Try.func64 rfl rfl fun W => ?_
  apply Wp.seq
  apply Wp.region
  refine WpL.v (V.as) ?_
  apply WpL.nil
  apply Out.seqN
  apply Wp.seq
  apply Wp.seq
  apply Wp.region
  refine WpL.v (V.mv) ?_
  refine WpL.v (V.eqP) ?_
  apply WpL.nil
  apply Out.seqN
  refine Wp.cF ?_
  apply Wp.skip
  apply Out.seqN
  apply Wp.seq
  apply Wp.region
  refine WpL.v (V.mv) ?_
  refine WpL.v (V.nc) ?_
  refine WpL.v (V.fa tb) ?_
  refine WpL.v (V.ld1 tb (hr := hat)) ?_
  refine WpL.o (Op1.callT rfl (hP) (by (repeat (first | exact Sel.nil | exact Rem.here | apply Sel.cons | apply Rem.there))) ?_)
  rintro v0 s1 ⟨rfl, rfl⟩
  refine incat ?_
  refine WpL.v (V.as) ?_
  apply WpL.nil
  apply Out.seqN
  apply Wp.ret
  refine Out.f1 rfl ResIs.t ⟨?_, rfl⟩
  exact rfl
theorem rescue_lost (hl : x.lost = false) : Ct Try.prog 65 [Ptr b 0] [cells b 154 x.c, cells q 142 L.c] (fun r σ' => r = B (decide (L.phase = 4)) ∧ σ' = [cells b 154 x.c, cells q 142 L.c]) := by
  have hat := RescS.at w.gl w.gh
  rw [hx] at hat
  have hP := lead_phase q L
  refine Ct.enter Try.func65 rfl rfl fun W => ?_
  apply Wp.seq
  apply Wp.region
  refine WpL.v (V.as) ?_
  apply WpL.nil
  apply Out.seqN
  apply Wp.seq
  apply Wp.region
  refine WpL.v (V.mv) ?_
  refine WpL.v (V.eqP) ?_
  refine WpL.v (V.mv) ?_
  refine WpL.v (V.mv) ?_
  refine WpL.v (V.nc) ?_
  refine WpL.v (V.fa tb) ?_
  refine WpL.v (V.ld1 tb (v := B false) (hr := by rw [← hl]; rfl)) ?_
  refine WpL.v (V.pF) ?_
  refine WpL.v (V.mv) ?_
  refine WpL.v (V.mv) ?_
  refine WpL.v (V.nc) ?_
  refine WpL.v (V.fa tb) ?_
  refine WpL.v (V.ld1 tb (hr := hat)) ?_
  refine WpL.o (Op1.callT rfl (hP) (by (repeat (first | exact Sel.nil | exact Rem.here | apply Sel.cons | apply Rem.there))) ?_)
  rintro v0 s1 ⟨rfl, rfl⟩
  refine incat ?_
  refine WpL.v (V.cmp) ?_
  refine WpL.v (V.pF) ?_
  refine WpL.v (V.as) ?_
  apply WpL.nil
  apply Out.seqN
  apply Wp.ret
  refine Out.f1 rfl ResIs.t ⟨?_, rfl⟩
  exact rfl
theorem rescue_say (hl : x.lost = false) (hn : 0 ≤ L.n ∧ L.n ≤ 1000) : Ct Try.prog 66 [Ptr b 0] [cells b 154 x.c, cells q 142 L.c] (fun r σ' => ∃ ap cp, r = .slice ap L.say.length cp ∧ σ' = [cells b 154 x.c, cells q 142 L.c]) := by
  have hat := RescS.at w.gl w.gh
  rw [hx] at hat
  have hS := lead_say_rd q L hn
  refine Ct.enter Try.func66 rfl rfl fun W => ?_
  apply Wp.seq
  apply Wp.region
  refine WpL.v (V.as) ?_
  apply WpL.nil
  apply Out.seqN
  apply Wp.seq
  apply Wp.block
  apply Wp.seq
  apply Wp.region
  refine WpL.v (V.mv) ?_
  refine WpL.v (V.eqP) ?_
  refine WpL.v (V.mv) ?_
  refine WpL.v (V.mv) ?_
  refine WpL.v (V.nc) ?_
  refine WpL.v (V.fa tb) ?_
  refine WpL.v (V.ld1 tb (v := B false) (hr := by rw [← hl]; rfl)) ?_
  refine WpL.v (V.pF) ?_
  refine WpL.v (V.as) ?_
  apply WpL.nil
  apply Out.seqN
  refine Wp.cF ?_
  apply Wp.seq
  apply Wp.region
  refine WpL.v (V.mv) ?_
  refine WpL.v (V.nc) ?_
  refine WpL.v (V.fa tb) ?_
  refine WpL.v (V.ld1 tb (hr := hat)) ?_
  refine WpL.v (V.neP) ?_
  refine WpL.v (V.as) ?_
  apply WpL.nil
  apply Out.seqN
  refine Wp.cT ?_
  apply Wp.seq
  apply Wp.region
  refine WpL.v (V.mv) ?_
  refine WpL.v (V.nc) ?_
  refine WpL.v (V.fa tb) ?_
  refine WpL.v (V.ld1 tb (hr := hat)) ?_
  refine WpL.o (Op1.callT rfl (hS) (by (repeat (first | exact Sel.nil | exact Rem.here | apply Sel.cons | apply Rem.there))) ?_)
  rintro v1 s2 ⟨ap24, ⟨cp24, ⟨g24, ⟨hx0, ⟨rfl, rfl⟩⟩⟩⟩⟩
  refine incat ?_
  refine WpL.v (V.as) ?_
  apply WpL.nil
  apply Out.seqN
  apply Wp.ret
  apply Out.blockR
  apply Out.seqR
  refine Out.e1 rfl ResIs.t ?_
  focus (exact ⟨_, _, ⟨_, _, rfl, rfl⟩, (by (repeat (first | exact Sel.nil | exact Rem.here | apply Sel.cons | apply Rem.there)))⟩; done)
end
theorem rescue_ballot (b q : Nat) (x : RescS) (L : LeadS) : Ct Try.prog 67 [Ptr b 0] [cells b 154 x.c, cells q 142 L.c] (fun r σ' => r = A x.ballot.c ∧ σ' = [cells b 154 x.c, cells q 142 L.c]) := by
  refine Ct.enter Try.func67 rfl rfl fun W => ?_
  apply Wp.seq
  apply Wp.region
  refine WpL.o (O.al tb (fun p2 => ?_))
  apply WpL.nil
  apply Out.seqN
  apply Wp.seq
  apply Wp.seq
  apply Wp.region
  refine WpL.v (V.mv) ?_
  refine WpL.v (V.eqP) ?_
  apply WpL.nil
  apply Out.seqN
  refine Wp.cF ?_
  apply Wp.skip
  apply Out.seqN
  apply Wp.seq
  apply Wp.region
  refine WpL.v (V.mv) ?_
  refine WpL.v (V.nc) ?_
  refine WpL.v (V.fa tb) ?_
  refine WpL.v (V.ldA tb) ?_
  refine WpL.o (O.stA tb ?_)
  apply WpL.nil
  apply Out.seqN
  apply Wp.ret
  refine Out.f1 rfl (ResIs.ca tb) ⟨?_, rfl⟩
  exact rfl
def pm (self : Int) (it : TItem) (bb : TBallot) (k : Nat) (m : TMsg) : TMsg := { m with Kind := 7, From := (k : Int), To := self, Item := it, Ballot := bb }
structure GS where
  k : Nat
  x : RescS
  go : Option (Nat × LeadS)
def GS.S (b : Nat) (y : GS) : List Ent := match y.go with
  | none => [cells b 154 y.x.c]
  | some (q, L) => [cells b 154 y.x.c, cells q 142 L.c]
structure GI (n sf : Int) (it : TItem) (bb : TBallot) (x : RescS) (k : Nat) : Prop where
  wf : x.wf
  n : x.n = n
  self : x.self = sf
  it : x.item = it
  bb : x.ballot = bb
  ls : x.lost = false
  gn : x.gn = (k : Int)
  len : (vAll x.gl x.gh).length = k
  free : ∀ r, k ≤ r → r < 7 → x.gh[r]? = some false
theorem GI.put {n self : Int} {it : TItem} {bb : TBallot} {x : RescS} {k : Nat} (g : GI n self it bb x k) (hk : k < 7) (m : TMsg) : GI n self it bb (putR x (pm self it bb k m)) (k + 1) := by
  have hf : (pm self it bb k m).From.toNat = k := by show ((k : Int)).toNat = k; omega
  refine ⟨putR_wf g.wf _ (by rw [g.gn]; omega), g.n, g.self, g.it, g.bb, g.ls, by show x.gn + 1 = _; rw [g.gn]; omega, ?_, fun r h1 h2 => ?_⟩
  · show (vAll (x.gl.set (pm self it bb k m).From.toNat _) (x.gh.set (pm self it bb k m).From.toNat true)).length = k + 1
    rw [hf, (vAll_put (m := pm self it bb k m) hk g.wf.gl (g.free k (Nat.le_refl _) hk)).length_eq, List.length_cons, g.len]
  · show (x.gh.set (pm self it bb k m).From.toNat true)[r]? = _
    rw [hf, List.getElem?_set, if_neg (by omega)]
    exact g.free r (by omega) h2
theorem GI.fits {n self : Int} {it : TItem} {bb : TBallot} {x : RescS} {k : Nat} (g : GI n self it bb x k) (hn : (k : Int) < n) (h7 : n ≤ 7) (hx : x.next = .pointer none) (j : Nat) (hj : (j : Int) < n) (m : TMsg) : Fits7 x (pm self it bb j m) :=
  ⟨g.it.symm, g.self.symm, by show (0 : Int) ≤ (j : Int); omega, by rw [g.n]; exact hj, rfl, g.bb.symm, g.ls, hx, by rw [g.n]; exact h7⟩
theorem goL_ok {x : RescS} (h : x.way ≠ 0) (hw : x.way = 1 ∨ x.way = 2 ∨ x.way = 3) : x.goL.n = x.n ∧ (x.goL.phase = 1 ∨ x.goL.phase = 2 ∨ x.goL.phase = 3) := by
  unfold RescS.goL
  rcases hw with hw | hw | hw
  · rw [if_pos hw]; exact ⟨rfl, .inr (.inr rfl)⟩
  · rw [if_neg (by omega), if_neg (by omega)]; exact ⟨rfl, .inr (.inl rfl)⟩
  · rw [if_neg (by omega), if_pos hw]; exact ⟨rfl, .inl rfl⟩
set_option maxHeartbeats 2000000 in
theorem rescueGoes_walk (e : Ent) (ao : Option Go.Addr) (cap b off : Nat) (n self : Int) (it : TItem) (bb : TBallot) (xs : List TMsg) (hR : Rd e ao xs.length b off 25 (xs.map TMsg.c)) :
    Ct Try.prog 20 [I n, I self, A it.c, A bb.c, .slice ao xs.length cap] [e] (fun r σ' => r = B true ∧ σ' = [e]) := by
  have hm := hR.small
  simp only [Go.maxLen] at hm
  by_cases hn : n = 3 ∨ n = 5 ∨ n = 7
  · have hS : Fun Try.prog 24 [I n] (B true) := by
      have h := r16_size n
      rwa [show (decide (n = 3) || (decide (n = 5) || decide (n = 7))) = true by simp; exact hn] at h
    by_cases hl : (xs.length : Int) = n
    · have hF := ref_faults n (by omega)
      obtain ⟨f, hf⟩ : ∃ f : Nat, faults n = (f : Int) := ⟨(faults n).toNat, by unfold faults; omega⟩
      have hfn : (f : Int) + 1 ≤ n ∧ 1 ≤ f ∧ f ≤ 3 := by unfold faults at hf; omega
      rw [hf] at hF
      have hN := rescue_new n self it bb
      refine Ct.enter Try.func20 rfl rfl fun W => ?_
      apply Wp.seq
      apply Wp.region
      refine WpL.o (O.bxA (fun p7 => ?_))
      refine WpL.o (O.bxA (fun p8 => ?_))
      refine WpL.v (V.as) ?_
      apply WpL.nil
      apply Out.seqN
      apply Wp.seq
      apply Wp.seq
      apply Wp.region
      refine WpL.o (Op1.fn rfl (alive16) ?_)
      refine WpL.v (V.not) ?_
      apply WpL.nil
      apply Out.seqN
      refine Wp.cF ?_
      apply Wp.skip
      apply Out.seqN
      apply Wp.seq
      apply Wp.seq
      apply Wp.region
      refine WpL.v (V.mv) ?_
      refine WpL.o (Op1.fn rfl (hS) ?_)
      refine WpL.v (V.not) ?_
      refine WpL.v (V.mv) ?_
      refine WpL.v (V.mv) ?_
      refine WpL.v (V.lenL tb) ?_
      refine WpL.v (V.mv) ?_
      refine WpL.v (V.cmp) ?_
      refine WpL.v (V.pF) ?_
      apply WpL.nil
      apply Out.seqN
      refine Wp.c (fun ha0 => ?_) (fun ha0 => ?_)
      (try simp only [decide_eq_true_eq, decide_eq_false_iff_not, Bool.not_eq_true', Bool.not_eq_false', Bool.not_eq_true, Bool.not_eq_false, not_true_eq_false, not_false_eq_true, reduceCtorEq] at ha0)
      (exfalso; omega)
      (try simp only [decide_eq_true_eq, decide_eq_false_iff_not, Bool.not_eq_true', Bool.not_eq_false', Bool.not_eq_true, Bool.not_eq_false, not_true_eq_false, not_false_eq_true, reduceCtorEq] at ha0)
      apply Wp.skip
      apply Out.seqN
      apply Wp.seq
      apply Wp.region
      refine WpL.v (V.mv) ?_
      refine WpL.v (V.mv) ?_
      refine WpL.v (V.ldA tb) ?_
      refine WpL.v (V.ldA tb) ?_
      refine WpL.o (Op1.callT rfl (hN) (by (repeat (first | exact Sel.nil | exact Rem.here | apply Sel.cons | apply Rem.there))) ?_)
      rintro v1 s2 ⟨b30, ⟨rfl, rfl⟩⟩
      refine incat ?_
      refine WpL.v (V.as) ?_
      apply WpL.nil
      apply Out.seqN
      apply Wp.seq
      apply Wp.region
      refine WpL.v (V.mv) ?_
      refine WpL.o (Op1.fn rfl (hF) ?_)
      refine WpL.v (V.as) ?_
      apply WpL.nil
      apply Out.seqN
      apply Wp.seq
      apply Wp.seq
      apply Wp.region
      refine WpL.v (V.as) ?_
      apply WpL.nil
      apply Out.seqN
      apply Wp.block
      refine Wp.lp [12, 11, 8, 7, 4, 1, 0] (fun y : GS => (y.go = none ∧ y.k ≤ f ∧ GI n self it bb y.x y.k ∧ y.x.next = .pointer none) ∨ (∃ q L, y.go = some (q, L) ∧ y.k = f + 1 ∧ GI n self it bb y.x y.k ∧ y.x.next = Ptr q 0 ∧ L.n = n ∧ (L.phase = 1 ∨ L.phase = 2 ∨ L.phase = 3))) (fun y => [(13, I (y.k : Int))]) (fun y => GS.S b30 y) (fun y => f + 1 - y.k) ⟨0, { RescS.z with n := n, self := self, item := it, ballot := bb }, none⟩ (.inl ⟨rfl, Nat.zero_le _, ⟨⟨rfl, rfl, by show (0 : Int) ≤ 0 ∧ (0 : Int) ≤ 50; omega⟩, rfl, rfl, rfl, rfl, rfl, rfl, rfl, fun r _ h => by
        show (List.replicate 7 false)[r]? = _
        rw [List.getElem?_replicate, if_pos h]⟩, rfl⟩) ?_
      rintro ⟨k, x, go⟩ hJ K hK
      dsimp only at hJ
      rcases hJ with ⟨rfl, hk, g, hx⟩ | ⟨q, L, rfl, rfl, g, hx, hLn, hLp⟩
      · dsimp only [GS.S, List.cons_append, List.nil_append]
        obtain ⟨m, hmk⟩ := getS (xs := xs) (k := k) (by omega)
        have hfit := g.fits (by omega) (by omega) hx k (by omega) m
        have hh : x.gh.getD (pm self it bb k m).From.toNat true = false := by
          show x.gh.getD ((k : Int)).toNat true = false
          rw [show ((k : Int)).toNat = k by omega, List.getD, g.free k (Nat.le_refl _) (by omega)]; rfl
        have g2 := g.put (by omega) m
        have hll : (putR x (pm self it bb k m)).list.length = k + 1 := by unfold RescS.list; rw [List.length_map, g2.len]
        have hle : cmpI .leq (k : Int) (f : Int) = some true := by simp [cmpI]; omega
        by_cases hkf : k < f
        · have hw : (putR x (pm self it bb k m)).way = 0 := by
            unfold RescS.way
            rw [choose_small (by rw [hll, g2.n, hf]; omega)]
          have h1 := rescue_hear_wait b30 x g.wf (pm self it bb k m) hfit (by rw [g.n]; omega) (by rw [g.gn]; omega) hh hw
          have h2 := rescue_hear_again b30 (putR x (pm self it bb k m)) g2.wf (pm self it bb k m) (g2.fits (by omega) (by omega) hx k (by omega) m) (by
            show (x.gh.set ((k : Int)).toNat true).getD ((k : Int)).toNat true = true
            rw [List.getD, List.getElem?_set, if_pos rfl, if_pos (by rw [g.wf.gh]; omega)]; rfl)
          have h3 := rescue_phase0 b30 (putR x (pm self it bb k m)) g2.wf hx
          have e1 : cmpI .eql (k : Int) (f : Int) = some false := by simp [cmpI]; omega
          have e2 : cmpI .lss (k : Int) (f : Int) = some true := by simp [cmpI]; omega
          apply Wp.seq
          apply Wp.seq
          apply Wp.region
          refine WpL.v (V.mv) ?_
          refine WpL.v (V.mv) ?_
          refine WpL.v (V.cmp rfl rfl hle) ?_
          apply WpL.nil
          apply Out.seqN
          refine Wp.cT ?_
          apply Wp.skip
          apply Out.seqN
          apply Wp.seq
          apply Wp.block
          apply Wp.seq
          apply Wp.region
          refine WpL.v (V.mv) ?_
          refine WpL.v (V.mv) ?_
          refine WpL.v (V.ixR tb rfl rfl (by assumption)) ?_
          refine WpL.v (V.ldRA tb rfl (by assumption) (getMapS (by assumption))) ?_
          refine WpL.o (O.al tb (fun p14 => ?_))
          refine WpL.o (O.stA tb ?_)
          apply WpL.nil
          apply Out.seqN
          apply Wp.seq
          apply Wp.region
          refine WpL.v (V.fa tb) ?_
          refine WpL.o (O.st1 tb ?_)
          apply WpL.nil
          apply Out.seqN
          apply Wp.seq
          apply Wp.region
          refine WpL.v (V.mv) ?_
          refine WpL.v (V.fa tb) ?_
          refine WpL.o (O.st1 tb ?_)
          apply WpL.nil
          apply Out.seqN
          apply Wp.seq
          apply Wp.region
          refine WpL.v (V.mv) ?_
          refine WpL.v (V.fa tb) ?_
          refine WpL.o (O.st1 tb ?_)
          apply WpL.nil
          apply Out.seqN
          apply Wp.seq
          apply Wp.region
          refine WpL.v (V.ldA tb) ?_
          refine WpL.v (V.fa tb) ?_
          refine WpL.o (O.stA tb ?_)
          apply WpL.nil
          apply Out.seqN
          apply Wp.seq
          apply Wp.region
          refine WpL.v (V.ldA tb) ?_
          refine WpL.v (V.fa tb) ?_
          refine WpL.o (O.stA tb ?_)
          apply WpL.nil
          apply Out.seqN
          apply Wp.seq
          apply Wp.region
          refine WpL.v (V.mv) ?_
          refine WpL.v (V.ldA tb) ?_
          refine WpL.o (Op1.callT rfl (h1) (by (repeat (first | exact Sel.nil | exact Rem.here | apply Sel.cons | apply Rem.there))) ?_)
          rintro v0 s1 ⟨rfl, rfl⟩
          refine incat ?_
          refine WpL.v (V.mv) ?_
          refine WpL.v (V.mv) ?_
          refine WpL.v (V.cmp rfl rfl e1) ?_
          refine WpL.v (V.neB tb) ?_
          refine WpL.v (V.mv) ?_
          refine WpL.v (V.mv) ?_
          refine WpL.v (V.mv) ?_
          refine WpL.v (V.cmp rfl rfl e2) ?_
          refine WpL.v (V.mv) ?_
          refine WpL.v (V.mv) ?_
          refine WpL.v (V.ldA tb) ?_
          refine WpL.o (Op1.callT rfl (h2) (by (repeat (first | exact Sel.nil | exact Rem.here | apply Sel.cons | apply Rem.there))) ?_)
          rintro v2 s3 ⟨rfl, rfl⟩
          refine incat ?_
          refine WpL.v (V.mv) ?_
          refine WpL.v (V.mv) ?_
          refine WpL.o (Op1.callT rfl (h3) (by (repeat (first | exact Sel.nil | exact Rem.here | apply Sel.cons | apply Rem.there))) ?_)
          rintro v4 s5 ⟨rfl, rfl⟩
          refine incat ?_
          refine WpL.v (V.cmp) ?_
          refine WpL.v (V.pF) ?_
          refine WpL.v (V.pT) ?_
          refine WpL.v (V.pF) ?_
          apply WpL.nil
          apply Out.seqN
          refine Wp.cF ?_
          apply Wp.skip
          apply Out.blockN
          apply Out.seqN
          apply Wp.region
          refine WpL.v (V.mv) ?_
          refine WpL.v (V.add) ?_
          refine WpL.v (V.as) ?_
          apply WpL.nil
          exact Out.ag hK ⟨k + 1, putR x (pm self it bb k m), none⟩ (.inl ⟨rfl, by show k + 1 ≤ f; omega, g2, hx⟩) (by show f + 1 - (k + 1) < f + 1 - k; omega)
        · obtain rfl : k = f := by omega
          have hway := choose_go (n := (putR x (pm self it bb k m)).n) (x := (putR x (pm self it bb k m)).item) (xs := (putR x (pm self it bb k m)).list) (by rw [hll, g2.n, hf]; omega)
          change (putR x (pm self it bb k m)).way = 1 ∨ (putR x (pm self it bb k m)).way = 2 ∨ (putR x (pm self it bb k m)).way = 3 at hway
          have hw : (putR x (pm self it bb k m)).way ≠ 0 := by omega
          obtain ⟨o1, o2⟩ := goL_ok hw hway
          have h1 := rescue_hear_go b30 x g.wf (pm self it bb k m) hfit (by rw [g.n]; omega) (by rw [g.gn]; omega) hh hw
          have e1 : cmpI .eql (k : Int) (k : Int) = some true := by simp [cmpI]
          have e2 : cmpI .lss (k : Int) (k : Int) = some false := by simp [cmpI]
          apply Wp.seq
          apply Wp.seq
          apply Wp.region
          refine WpL.v (V.mv) ?_
          refine WpL.v (V.mv) ?_
          refine WpL.v (V.cmp rfl rfl hle) ?_
          apply WpL.nil
          apply Out.seqN
          refine Wp.cT ?_
          apply Wp.skip
          apply Out.seqN
          apply Wp.seq
          apply Wp.block
          apply Wp.seq
          apply Wp.region
          refine WpL.v (V.mv) ?_
          refine WpL.v (V.mv) ?_
          refine WpL.v (V.ixR tb rfl rfl (by assumption)) ?_
          refine WpL.v (V.ldRA tb rfl (by assumption) (getMapS (by assumption))) ?_
          refine WpL.o (O.al tb (fun p14 => ?_))
          refine WpL.o (O.stA tb ?_)
          apply WpL.nil
          apply Out.seqN
          apply Wp.seq
          apply Wp.region
          refine WpL.v (V.fa tb) ?_
          refine WpL.o (O.st1 tb ?_)
          apply WpL.nil
          apply Out.seqN
          apply Wp.seq
          apply Wp.region
          refine WpL.v (V.mv) ?_
          refine WpL.v (V.fa tb) ?_
          refine WpL.o (O.st1 tb ?_)
          apply WpL.nil
          apply Out.seqN
          apply Wp.seq
          apply Wp.region
          refine WpL.v (V.mv) ?_
          refine WpL.v (V.fa tb) ?_
          refine WpL.o (O.st1 tb ?_)
          apply WpL.nil
          apply Out.seqN
          apply Wp.seq
          apply Wp.region
          refine WpL.v (V.ldA tb) ?_
          refine WpL.v (V.fa tb) ?_
          refine WpL.o (O.stA tb ?_)
          apply WpL.nil
          apply Out.seqN
          apply Wp.seq
          apply Wp.region
          refine WpL.v (V.ldA tb) ?_
          refine WpL.v (V.fa tb) ?_
          refine WpL.o (O.stA tb ?_)
          apply WpL.nil
          apply Out.seqN
          apply Wp.seq
          apply Wp.region
          refine WpL.v (V.mv) ?_
          refine WpL.v (V.ldA tb) ?_
          refine WpL.o (Op1.callT rfl (h1) (by (repeat (first | exact Sel.nil | exact Rem.here | apply Sel.cons | apply Rem.there))) ?_)
          rintro v0 s1 ⟨q53, ⟨rfl, rfl⟩⟩
          refine incat ?_
          refine WpL.v (V.mv) ?_
          refine WpL.v (V.mv) ?_
          refine WpL.v (V.cmp rfl rfl e1) ?_
          refine WpL.v (V.neB tb) ?_
          refine WpL.v (V.mv) ?_
          refine WpL.v (V.mv) ?_
          refine WpL.v (V.mv) ?_
          refine WpL.v (V.cmp rfl rfl e2) ?_
          refine WpL.v (V.mv) ?_
          refine WpL.sk ?_
          refine WpL.sk ?_
          refine WpL.sk ?_
          refine WpL.sk ?_
          refine WpL.sk ?_
          refine WpL.sk ?_
          refine WpL.sk ?_
          refine WpL.sk ?_
          refine WpL.v (V.pF) ?_
          refine WpL.v (V.pF) ?_
          apply WpL.nil
          apply Out.seqN
          refine Wp.cF ?_
          apply Wp.skip
          apply Out.blockN
          apply Out.seqN
          apply Wp.region
          refine WpL.v (V.mv) ?_
          refine WpL.v (V.add) ?_
          refine WpL.v (V.as) ?_
          apply WpL.nil
          exact Out.ag hK ⟨k + 1, { putR x (pm self it bb k m) with next := Ptr q53 0 }, some (q53, (putR x (pm self it bb k m)).goL)⟩ (.inr ⟨_, _, rfl, rfl, ⟨⟨g2.wf.gl, g2.wf.gh, g2.wf.gn⟩, g2.n, g2.self, g2.it, g2.bb, g2.ls, g2.gn, g2.len, g2.free⟩, rfl, by rw [o1, g2.n], o2⟩) (by show k + 1 - (k + 1) < k + 1 - k; omega)
      · dsimp only [GS.S, List.cons_append, List.nil_append]
        have hle : cmpI .leq ((f + 1 : Nat) : Int) (f : Int) = some false := by simp [cmpI]; omega
        have h1 := rescue_phase b30 q x L g.wf hx
        have h2 := rescue_lost b30 q x L g.wf hx g.ls
        rw [show decide (L.phase = 4) = false by simp; omega] at h2
        have h3 := rescue_say b30 q x L g.wf hx g.ls (by omega)
        have hsl : (L.say.length : Int) = n := by rw [say_at hLp, L.says_len]; omega
        have h4 := rescue_ballot b30 q x L
        rw [g.bb] at h4
        have e1 : cmpI .gtr L.phase 0 = some true := by simp [cmpI]; omega
        have e2 : cmpI .eql (L.say.length : Int) n = some true := by simp [cmpI, hsl]
        apply Wp.seq
        apply Wp.seq
        apply Wp.region
        refine WpL.v (V.mv) ?_
        refine WpL.v (V.mv) ?_
        refine WpL.v (V.cmp rfl rfl hle) ?_
        apply WpL.nil
        apply Out.seqN
        refine Wp.cF ?_
        apply Wp.exit
        apply Out.seqE
        apply Out.seqE
        apply Out.blockE
        apply Out.seqN
        apply Wp.seq
        refine Wp.dG [] ?_ (List.Sublist.cons _ (List.Sublist.cons _ (List.Sublist.cons_cons _ (List.Sublist.cons _ (List.Sublist.cons_cons _ List.Sublist.slnil))))) (List.Sublist.cons _ (List.Sublist.cons _ (List.Sublist.cons_cons _ (List.Sublist.cons _ (List.Sublist.cons_cons _ List.Sublist.slnil)))))
        refine WpA.tF 0 rfl (V.mv) ?_
        refine WpA.oS 1 rfl (Op1.callT rfl (h1) (by (repeat (first | exact Sel.nil | exact Rem.here | apply Sel.cons | apply Rem.there))) ?_)
        rintro v0 s1 ⟨rfl, rfl⟩
        refine incat ⟨?_, ?_, ?_⟩
        exact holdT
        exact holdT
        refine WpA.tF 2 rfl (V.cmp rfl rfl e1) ?_
        refine WpA.tF 3 rfl (V.mv) ?_
        refine WpA.tF 4 rfl (V.mv) ?_
        refine WpA.oS 5 rfl (Op1.callT rfl (h2) (by (repeat (first | exact Sel.nil | exact Rem.here | apply Sel.cons | apply Rem.there))) ?_)
        rintro v2 s3 ⟨rfl, rfl⟩
        refine incat ⟨?_, ?_, ?_⟩
        exact holdT
        exact holdT
        refine WpA.tF 6 rfl (V.not) ?_
        refine WpA.tF 7 rfl (V.pT) ?_
        refine WpA.tF 8 rfl (V.mv) ?_
        refine WpA.tF 9 rfl (V.mv) ?_
        refine WpA.tF 12 rfl (V.mv) ?_
        refine WpA.oS 10 rfl (Op1.callT rfl (h3) (by (repeat (first | exact Sel.nil | exact Rem.here | apply Sel.cons | apply Rem.there))) ?_)
        rintro v4 s5 ⟨ap83, ⟨cp83, ⟨rfl, rfl⟩⟩⟩
        refine incat ⟨?_, ?_, ?_⟩
        exact holdT
        exact holdT
        refine WpA.tF 11 rfl (V.lenL tb) ?_
        refine WpA.tF 13 rfl (V.cmp rfl rfl e2) ?_
        refine WpA.tF 14 rfl (V.pT) ?_
        refine WpA.tF 15 rfl (V.mv) ?_
        refine WpA.tF 16 rfl (V.mv) ?_
        refine WpA.tF 18 rfl (V.ldA tb) ?_
        refine WpA.oS 17 rfl (Op1.callT rfl (h4) (by (repeat (first | exact Sel.nil | exact Rem.here | apply Sel.cons | apply Rem.there))) ?_)
        rintro v6 s7 ⟨rfl, rfl⟩
        refine incat ⟨?_, ?_, ?_⟩
        exact holdT
        exact holdT
        refine WpA.tF 19 rfl (V.eq (TBallot.eqT _ _ _)) ?_
        refine WpA.tF 20 rfl (V.pT) ?_
        refine WpA.tF 21 rfl (V.as) ?_
        refine WpA.ou ?_
        apply Out.seqN
        apply Wp.ret
        refine Out.f1 rfl ResIs.t ⟨?_, rfl⟩
        focus ((simp); done)
    · refine Ct.enter Try.func20 rfl rfl fun W => ?_
      apply Wp.seq
      apply Wp.region
      refine WpL.o (O.bxA (fun p7 => ?_))
      refine WpL.o (O.bxA (fun p8 => ?_))
      refine WpL.v (V.as) ?_
      apply WpL.nil
      apply Out.seqN
      apply Wp.seq
      apply Wp.seq
      apply Wp.region
      refine WpL.o (Op1.fn rfl (alive16) ?_)
      refine WpL.v (V.not) ?_
      apply WpL.nil
      apply Out.seqN
      refine Wp.cF ?_
      apply Wp.skip
      apply Out.seqN
      apply Wp.seq
      apply Wp.seq
      apply Wp.region
      refine WpL.v (V.mv) ?_
      refine WpL.o (Op1.fn rfl (hS) ?_)
      refine WpL.v (V.not) ?_
      refine WpL.v (V.mv) ?_
      refine WpL.v (V.mv) ?_
      refine WpL.v (V.lenL tb) ?_
      refine WpL.v (V.mv) ?_
      refine WpL.v (V.cmp) ?_
      refine WpL.v (V.pF) ?_
      apply WpL.nil
      apply Out.seqN
      refine Wp.c (fun he0 => ?_) (fun he0 => ?_)
      (try simp only [decide_eq_true_eq, decide_eq_false_iff_not, Bool.not_eq_true', Bool.not_eq_false', Bool.not_eq_true, Bool.not_eq_false, not_true_eq_false, not_false_eq_true, reduceCtorEq] at he0)
      apply Wp.seq
      apply Wp.region
      refine WpL.v (V.as) ?_
      apply WpL.nil
      apply Out.seqN
      apply Wp.ret
      apply Out.seqR
      refine Out.f1 rfl ResIs.t ⟨?_, rfl⟩
      exact rfl
      (try simp only [decide_eq_true_eq, decide_eq_false_iff_not, Bool.not_eq_true', Bool.not_eq_false', Bool.not_eq_true, Bool.not_eq_false, not_true_eq_false, not_false_eq_true, reduceCtorEq] at he0)
      (exfalso; omega)
  · have hS : Fun Try.prog 24 [I n] (B false) := by
      have h := r16_size n
      rwa [show (decide (n = 3) || (decide (n = 5) || decide (n = 7))) = false by simp; omega] at h
    refine Ct.enter Try.func20 rfl rfl fun W => ?_
    apply Wp.seq
    apply Wp.region
    refine WpL.o (O.bxA (fun p7 => ?_))
    refine WpL.o (O.bxA (fun p8 => ?_))
    refine WpL.v (V.as) ?_
    apply WpL.nil
    apply Out.seqN
    apply Wp.seq
    apply Wp.seq
    apply Wp.region
    refine WpL.o (Op1.fn rfl (alive16) ?_)
    refine WpL.v (V.not) ?_
    apply WpL.nil
    apply Out.seqN
    refine Wp.cF ?_
    apply Wp.skip
    apply Out.seqN
    apply Wp.seq
    apply Wp.seq
    apply Wp.region
    refine WpL.v (V.mv) ?_
    refine WpL.o (Op1.fn rfl (hS) ?_)
    refine WpL.v (V.not) ?_
    refine WpL.v (V.mv) ?_
    refine WpL.sk ?_
    refine WpL.sk ?_
    refine WpL.sk ?_
    refine WpL.sk ?_
    refine WpL.v (V.pT) ?_
    apply WpL.nil
    apply Out.seqN
    refine Wp.cT ?_
    apply Wp.seq
    apply Wp.region
    refine WpL.v (V.as) ?_
    apply WpL.nil
    apply Out.seqN
    apply Wp.ret
    apply Out.seqR
    refine Out.f1 rfl ResIs.t ⟨?_, rfl⟩
    exact rfl
open Go Go.ChangeShapes Go.WideShapes Go.ChangeAt Go.RowKit
theorem rescueGoes_read : (Try.f20.params.toList.all fun t => Try.prog.readableRec t && decide (t < Try.prog.types.size)) = true := by kernel_rfl
theorem rescueGoes_lifted (os : Go.Os) (started : os.Started) (H : Type) (enc : Go.TypeId × Go.Value → H) :
    ReturnsInHanded {} Try.checked os 20 .any (Rows.rescueGoesSpec.pre6 enc Try.prog Try.f20 Rows.rescueGoesRow.domain false) (Rows.rescueGoesSpec.post enc Try.prog Try.f20 false true false false) := by
  refine returnsInHanded_of_change_sized (C := Try.checked) own started (by kernel_rfl) Try.func20
    (ChangeSpec.witness6 (enc := enc) (C := Try.checked) false ⟨#[], #[I 0, I 0, A TItem.z.c, A TBallot.z.c, .slice none 0 0], []⟩ 8 (by kernel_rfl) (by kernel_rfl) (by kernel_rfl) (by kernel_rfl)) ?_
  intro W base args ds gs before hval0 hW hcnd hsz0 _
  have hsz : (DataW.weightsEach Try.prog (Try.f20.params.toList ++ Rows.rescueGoesSpec.plain.varTypes Try.prog) (ds ++ gs)).all (· ≤ reachBytes) = true := hsz0
  have hval : ∀ (j : Nat) t v, Try.f20.params[j]? = some t → args[j]? = some v → Value.okWide Try.prog W .any base t v := hval0
  have hW' := hW
  obtain ⟨p, q, hA0, hV, rfl, hfz, hnd⟩ := hW
  have hA1 : DataW.TrodAll enc Try.prog W 0 (fun _ => true) true Try.f20.params.toList args.toList ds p := hA0
  have hA := hA1
  rw [Try.params20] at hA hval hsz
  obtain ⟨v0, vs0, d0, ds0, p0, q0, hargs, rfl, rfl, h0, r0⟩ := trodAll_cons hA
  obtain ⟨v1, vs1, d1, ds1, p1, q1, rfl, rfl, rfl, h1, r1⟩ := trodAll_cons r0
  obtain ⟨v2, vs2, d2, ds2, p2, q2, rfl, rfl, rfl, h2, r2⟩ := trodAll_cons r1
  obtain ⟨v3, vs3, d3, ds3, p3, q3, rfl, rfl, rfl, h3, r3⟩ := trodAll_cons r2
  obtain ⟨v4, vs4, d4, ds4, p4, q4, rfl, rfl, rfl, h4, r4⟩ := trodAll_cons r3
  obtain ⟨rfl, rfl, rfl⟩ := trodAll_nil r4
  obtain rfl : args = #[v0, v1, v2, v3, v4] := by cases args; simp_all
  obtain ⟨rfl, rfl⟩ := trodVars_none hV
  obtain ⟨x0, rfl, rfl, rfl, w0⟩ := open_int Try.underlying3 (hval 0 3 v0 rfl rfl) h0
  obtain ⟨x1, rfl, rfl, rfl, w1⟩ := open_int Try.underlying3 (hval 1 3 v1 rfl rfl) h1
  obtain ⟨c2, rfl, f2⟩ := open_plain TItem.leaves ⟨_, Try.underlying23⟩ (hval 2 23 v2 rfl rfl) h2 (sizedAll hsz 2 rfl rfl)
  obtain ⟨x2, rfl, w2⟩ := TItem.fit f2
  obtain ⟨c3, rfl, f3⟩ := open_plain TBallot.leaves ⟨_, Try.underlying40⟩ (hval 3 40 v3 rfl rfl) h3 (sizedAll hsz 3 rfl rfl)
  obtain ⟨x3, rfl, w3⟩ := TBallot.fit f3
  obtain ⟨ao4, b4, off4, len4, cap4, xs4, rfl, hl4, hlc4, hcm4, ha4, hs4, hf4, hby4⟩ := open_slice_plain Try.underlying24 TMsg.leaves (by kernel_rfl) (by decide) (hval 4 24 v4 rfl rfl) h4 (sizedAll hsz 4 rfl rfl)
  obtain ⟨x4, rfl, w4⟩ := fits_map TMsg.c TMsg.wf hf4 TMsg.fit
  obtain rfl : len4 = x4.length := by simpa using hl4.symm
  simp only [List.append_nil] at hW' hA1
  have hbl : ∀ p : Nat × Nat, p ∈ [(x4.length, b4)] → 0 < p.1 → p.2 < W.heap.size := by
    intro p hp h0
    simp only [List.mem_cons, List.mem_nil_iff, or_false] at hp
    rcases hp with rfl
    · exact (ha4 h0).2
  have hR4 : Rd (snap W (blocksOf [(x4.length, b4)])) ao4 x4.length b4 off4 25 (x4.map TMsg.c) := Rd.snap (by simp) (Nat.le_trans hlc4 hcm4) ha4 hs4 (fun h => blocksOf_mem (len := x4.length) (by simp) h)
  refine (Ct.runSnap (blocksOf_nodup _) (blocksOf_lt hbl) (rescueGoes_walk _ _ _ _ _ x0 x1 x2 x3 x4 hR4)).mono fun e W' hh => ?_
  obtain ⟨rfl, hS⟩ := hh
  exact ⟨_, rfl, post_law (P := Try.prog) (f := Try.f20) (tbool := 4) hW' hA1 rfl rfl hS laid rescueGoes_read rfl Try.underlying4⟩
theorem rescueGoes_joined : joinedFacts Try.prog 20 Try.f20 Rows.rescueGoesSpec Rows.rescueGoesRow = true := by
  unfold joinedFacts
  rewrite [head_enter, head_lift, head_make]
  kernel_rfl
theorem rescueGoes_over : Rows.rescueGoesRow.holds Try.pinned (OpenSpec.ofChange Rows.rescueGoesSpec) :=
  OpenClaim.holds_of_wide 20 Try.f20 rfl rfl rfl rfl rfl rfl rfl ⟨rfl, rfl, rfl, rfl, rfl⟩ rfl rfl rfl rfl rfl (by kernel_rfl) Try.func20 rescueGoes_joined
    (of_decide_eq_true (by kernel_rfl)) (by unfold Func.isWrapper; first | (rw [if_pos (by decide +kernel)]; kernel_rfl) | (rw [if_neg (by decide +kernel)]; exact ⟨rfl, rfl⟩))
    (fun os started H enc _ => rescueGoes_lifted os started H enc)
/-- THE STATEMENT. -/
theorem rescueGoes_proved : Rows.RescueGoesSaid := rescueGoes_over
#print axioms rescueGoes_proved

end Go.Proofs.Ythoepbbpmdmfeaa
