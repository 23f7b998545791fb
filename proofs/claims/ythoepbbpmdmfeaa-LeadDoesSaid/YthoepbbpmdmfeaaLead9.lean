/-
  Layer 14: the document's lead.
-/
import Derived.Test.YthoepbbpmdmfeaaLead8
namespace Go.Proofs.Ythoepbbpmdmfeaa
open Go.HL
set_option linter.unusedSimpArgs false
set_option linter.unusedVariables false
set_option maxRecDepth 8000
structure RS where
  n : Int
  self : Int
  item : TItem
  ballot : TBallot
  call : TCall
  phase : Int
  pres : List TMsg
  oks : List Int
def RS.s (x : RS) (vp vo : Go.Value) : Caucusref14Lead := ⟨x.n, x.self, x.item, x.ballot, x.call, x.phase, vp, vo⟩
def refE (p : Nat) (x : RS) (vp vo : Go.Value) : List Ent := [cells p 88 (x.s vp vo).c, rows TMsg.c vp 44 25 x.pres, rows i64c vo 3 1 x.oks]
def RS.slow (x : RS) : RS := { x with call := x.pres.foldl (fun c m => mrg c m.Call) x.call, phase := 2 }
theorem ref_slow (p : Nat) (x : RS) (vp vo : Go.Value) : Ct Try.prog 89 [Ptr p 0] (refE p x vp vo) (fun r σ' => r = B true ∧ σ' = refE p x.slow vp vo) := by
  unfold refE
  refine Ct.enter Try.func89 rfl rfl fun W => ?_
  refine Wp.fact (rowsRd (f := TMsg.c) (v := vp) (l := x.pres) (E := 44) (sz := 25) TMsg.len (by (repeat first | exact List.Mem.head _ | apply List.Mem.tail))) fun hv => ?_
  obtain ⟨ap, cp, g, rfl, hR⟩ := hv
  have hm := hR.small
  simp only [Go.maxLen] at hm
  apply Wp.seq
  apply Wp.region
  refine WpL.v (V.as) ?_
  apply WpL.nil
  apply Out.seqN
  apply Wp.seq
  apply Wp.seq
  apply Wp.region
  refine WpL.v (V.mv) ?_
  refine WpL.v (V.nc) ?_
  refine WpL.v (V.fa tb) ?_
  refine WpL.v (V.ld1 tb) ?_
  refine WpL.v (V.lenL tb) ?_
  refine WpL.v (V.mv) ?_
  apply WpL.nil
  apply Out.seqN
  apply Wp.block
  refine Wp.lp [9, 8, 0] (fun k : Nat => k ≤ x.pres.length) (fun k => [(10, I (k : Int))]) (fun k => [cells p 88 (({ x with call := (x.pres.take k).foldl (fun c m => mrg c m.Call) x.call } : RS).s (.slice ap x.pres.length cp) vo).c]) (fun k => x.pres.length - k) 0 (Nat.zero_le _) ?_
  intro k hk K hK
  dsimp only [List.cons_append, List.nil_append]
  by_cases hlt : k < x.pres.length
  · obtain ⟨m, hmk⟩ := getS hlt
    have e1 := take_snocS hmk
    have e2 : (x.pres.take (k + 1)).foldl (fun c m => mrg c m.Call) x.call = mrg ((x.pres.take k).foldl (fun c m => mrg c m.Call) x.call) m.Call := by rw [e1, List.foldl_append]; rfl
    generalize (x.pres.take k).foldl (fun c m => mrg c m.Call) x.call = cc at *
    rw [mrg_eq] at e2
    have hJn := ref_join cc.Deps m.Call.Deps
    apply Wp.seq
    apply Wp.region
    refine WpL.v (V.cmp) ?_
    apply WpL.nil
    apply Out.seqN
    apply Wp.seq
    refine Wp.c (fun hs10 => ?_) (fun hs10 => ?_)
    (try simp only [decide_eq_true_eq, decide_eq_false_iff_not, Bool.not_eq_true', Bool.not_eq_false', Bool.not_eq_true, Bool.not_eq_false, not_true_eq_false, not_false_eq_true, reduceCtorEq] at hs10)
    apply Wp.skip
    apply Out.seqN
    apply Wp.seq
    apply Wp.block
    apply Wp.seq
    apply Wp.region
    refine WpL.v (V.ixR tb rfl rfl (by assumption)) ?_
    refine WpL.v (V.ldRA tb rfl hR (getMapS hmk)) ?_
    refine WpL.o (O.al tb (fun p4 => ?_))
    refine WpL.o (O.stA tb ?_)
    apply WpL.nil
    apply Out.seqN
    apply Wp.seq
    refine Wp.dG [13] ?_ (List.Sublist.cons_cons _ (List.Sublist.cons_cons _ (List.Sublist.cons_cons _ (List.Sublist.cons_cons _ List.Sublist.slnil)))) (List.Sublist.cons_cons _ (List.Sublist.cons _ (List.Sublist.cons_cons _ (List.Sublist.cons_cons _ List.Sublist.slnil))))
    refine WpA.tF 0 rfl (V.mv) ?_
    refine WpA.tF 1 rfl (V.mv) ?_
    refine WpA.tF 2 rfl (V.nc) ?_
    refine WpA.tF 3 rfl (V.fa tb) ?_
    refine WpA.tF 4 rfl (V.fa tb) ?_
    refine WpA.tF 6 rfl (V.fa tb) ?_
    refine WpA.tF 7 rfl (V.fa tb) ?_
    refine WpA.tF 8 rfl (V.ldA tb) ?_
    refine WpA.t 5 rfl (V.ldA tb) ?_
    refine WpA.oS 9 rfl (Op1.fn rfl (hJn) ⟨?_, ?_, ?_⟩)
    exact holdT
    exact holdT
    refine WpA.tF 10 rfl (V.nc) ?_
    refine WpA.tF 11 rfl (V.fa tb) ?_
    refine WpA.tF 12 rfl (V.fa tb) ?_
    refine WpA.l 13 rfl (O.stA tb ⟨?_, ?_⟩)
    exact holdT
    refine WpA.ou ?_
    apply Out.seqN
    refine Wp.dG [13] ?_ (List.Sublist.cons_cons _ (List.Sublist.cons_cons _ (List.Sublist.cons_cons _ (List.Sublist.cons_cons _ List.Sublist.slnil)))) (List.Sublist.cons_cons _ (List.Sublist.cons _ (List.Sublist.cons_cons _ (List.Sublist.cons_cons _ List.Sublist.slnil))))
    refine WpA.tF 0 rfl (V.mv) ?_
    refine WpA.tF 1 rfl (V.mv) ?_
    refine WpA.tF 2 rfl (V.nc) ?_
    refine WpA.tF 3 rfl (V.fa tb) ?_
    refine WpA.tF 4 rfl (V.fa tb) ?_
    refine WpA.tF 6 rfl (V.fa tb) ?_
    refine WpA.tF 7 rfl (V.fa tb) ?_
    refine WpA.tF 8 rfl (V.ld1 tb) ?_
    refine WpA.t 5 rfl (V.ld1 tb) ?_
    refine WpA.tF 9 rfl (V.max) ?_
    refine WpA.tF 10 rfl (V.nc) ?_
    refine WpA.tF 11 rfl (V.fa tb) ?_
    refine WpA.tF 12 rfl (V.fa tb) ?_
    refine WpA.l 13 rfl (O.st1 tb ⟨?_, ?_⟩)
    exact holdT
    refine WpA.ou ?_
    apply Out.blockN
    apply Out.seqN
    apply Wp.region
    refine WpL.v (V.add) ?_
    refine WpL.v (V.mv) ?_
    apply WpL.nil
    rotate_left
    (try simp only [decide_eq_true_eq, decide_eq_false_iff_not, Bool.not_eq_true', Bool.not_eq_false', Bool.not_eq_true, Bool.not_eq_false, not_true_eq_false, not_false_eq_true, reduceCtorEq] at hs10)
    (exfalso; omega)
    exact Out.ag hK (k + 1) (by show k + 1 ≤ _; omega) (by show x.pres.length - (k + 1) < x.pres.length - k; omega) (hs := by rw [e2]; (repeat (first | exact Sel.nil | exact Rem.here | apply Sel.cons | apply Rem.there)))
  · obtain rfl : k = x.pres.length := by omega
    rw [List.take_length]
    apply Wp.seq
    apply Wp.region
    refine WpL.v (V.cmp) ?_
    apply WpL.nil
    apply Out.seqN
    apply Wp.seq
    refine Wp.c (fun hs20 => ?_) (fun hs20 => ?_)
    (try simp only [decide_eq_true_eq, decide_eq_false_iff_not, Bool.not_eq_true', Bool.not_eq_false', Bool.not_eq_true, Bool.not_eq_false, not_true_eq_false, not_false_eq_true, reduceCtorEq] at hs20)
    (exfalso; omega)
    (try simp only [decide_eq_true_eq, decide_eq_false_iff_not, Bool.not_eq_true', Bool.not_eq_false', Bool.not_eq_true, Bool.not_eq_false, not_true_eq_false, not_false_eq_true, reduceCtorEq] at hs20)
    apply Wp.exit
    apply Out.seqE
    apply Out.seqE
    apply Out.blockE
    apply Out.seqN
    apply Wp.seq
    apply Wp.region
    refine WpL.v (V.mv) ?_
    refine WpL.v (V.nc) ?_
    refine WpL.v (V.fa tb) ?_
    refine WpL.o (O.st1 tb ?_)
    apply WpL.nil
    apply Out.seqN
    apply Wp.seq
    apply Wp.region
    refine WpL.v (V.as) ?_
    apply WpL.nil
    apply Out.seqN
    apply Wp.ret
    refine Out.f1 rfl ResIs.t ⟨?_, rfl⟩
    exact rfl
def RS.isFast (x : RS) : Bool := decide (x.ballot.Round = 0) && decide (x.ballot.Rep = x.item.Rep)
def RS.put (x : RS) (m : TMsg) : RS := { x with pres := x.pres ++ [m] }
def RS.hear1 (x : RS) (m : TMsg) : RS × Bool :=
  if ∃ y ∈ x.pres, y.From = m.From then (x, false)
  else if x.isFast = true ∧ 2 * faults x.n ≤ (((x.put m).pres.filter (·.Same)).length : Int) then ({ x.put m with phase := 3 }, true)
  else if faults x.n + 1 ≤ ((x.put m).pres.length : Int) ∧ (x.isFast = false ∨ x.n - 2 * faults x.n < ((x.put m).pres.length : Int) - (((x.put m).pres.filter (·.Same)).length : Int)) then ((x.put m).slow, true)
  else (x.put m, false)
set_option maxHeartbeats 4000000 in
theorem ref_pre (p : Nat) (x : RS) (vp vo : Go.Value) (m : TMsg) (hn : 0 ≤ x.n ∧ x.n ≤ 1000) (hl : x.pres.length ≤ 1000) :
    Ct Try.prog 90 [Ptr p 0, A m.c] (refE p x vp vo) (fun r σ' => ∃ vq, r = B (x.hear1 m).2 ∧ σ' = refE p (x.hear1 m).1 vq vo) := by
  unfold refE
  by_cases hex : ∃ y ∈ x.pres, y.From = m.From
  · rw [show x.hear1 m = (x, false) by unfold RS.hear1; rw [if_pos hex]]
    refine Ct.enter Try.func90 rfl rfl fun W => ?_
    refine Wp.fact (rowsRd (f := TMsg.c) (v := vp) (l := x.pres) (E := 44) (sz := 25) TMsg.len (by (repeat first | exact List.Mem.head _ | apply List.Mem.tail))) fun hv => ?_
    obtain ⟨ap, cp, g, rfl, hR⟩ := hv
    apply Wp.seq
    apply Wp.region
    refine WpL.o (O.bxA (fun p3 => ?_))
    refine WpL.v (V.as) ?_
    apply WpL.nil
    apply Out.seqN
    apply Wp.seq
    apply Wp.seq
    apply Wp.region
    refine WpL.v (V.mv) ?_
    refine WpL.v (V.nc) ?_
    refine WpL.v (V.fa tb) ?_
    refine WpL.v (V.ld1 tb) ?_
    refine WpL.v (V.lenL tb) ?_
    refine WpL.v (V.mv) ?_
    apply WpL.nil
    apply Out.seqN
    apply Wp.block
    refine Wp.lp [16, 15, 3, 0] (fun i : Nat => i ≤ x.pres.length ∧ ∀ y ∈ x.pres.take i, y.From ≠ m.From) (fun i => [(17, I (i : Int))]) (fun _ => []) (fun i => x.pres.length - i) 0 ⟨Nat.zero_le _, by simp⟩ ?_
    rintro i ⟨hi, hno⟩ K hK
    dsimp only [List.cons_append, List.nil_append]
    by_cases hlt : i < x.pres.length
    · obtain ⟨y, hy⟩ := getS hlt
      by_cases hyf : y.From = m.From
      · apply Wp.seq
        apply Wp.region
        refine WpL.v (V.cmp) ?_
        apply WpL.nil
        apply Out.seqN
        apply Wp.seq
        refine Wp.c (fun hp10 => ?_) (fun hp10 => ?_)
        (try simp only [decide_eq_true_eq, decide_eq_false_iff_not, Bool.not_eq_true', Bool.not_eq_false', Bool.not_eq_true, Bool.not_eq_false, not_true_eq_false, not_false_eq_true, reduceCtorEq] at hp10)
        apply Wp.skip
        apply Out.seqN
        apply Wp.seq
        apply Wp.block
        apply Wp.seq
        apply Wp.region
        refine WpL.v (V.ixR tb rfl rfl (by assumption)) ?_
        refine WpL.v (V.ldRA tb rfl hR (getMapS hy)) ?_
        refine WpL.o (O.al tb (fun p6 => ?_))
        refine WpL.o (O.stA tb ?_)
        apply WpL.nil
        apply Out.seqN
        apply Wp.seq
        apply Wp.region
        refine WpL.v (V.fa tb) ?_
        refine WpL.v (V.ld1 tb) ?_
        refine WpL.v (V.fa tb) ?_
        refine WpL.v (V.ld1 tb) ?_
        refine WpL.v (V.cmp) ?_
        apply WpL.nil
        apply Out.seqN
        refine Wp.c (fun hp11 => ?_) (fun hp11 => ?_)
        (try simp only [decide_eq_true_eq, decide_eq_false_iff_not, Bool.not_eq_true', Bool.not_eq_false', Bool.not_eq_true, Bool.not_eq_false, not_true_eq_false, not_false_eq_true, reduceCtorEq] at hp11)
        apply Wp.seq
        apply Wp.region
        refine WpL.v (V.as) ?_
        apply WpL.nil
        apply Out.seqN
        apply Wp.ret
        apply Out.blockR
        apply Out.seqR
        apply Out.seqR
        apply Out.blockR
        apply Out.seqR
        refine Out.e1 rfl ResIs.t ?_
        exact ⟨_, _, ⟨_, rfl, rfl⟩, (by (repeat (first | exact Sel.nil | exact Rem.here | apply Sel.cons | apply Rem.there)))⟩
        (try simp only [decide_eq_true_eq, decide_eq_false_iff_not, Bool.not_eq_true', Bool.not_eq_false', Bool.not_eq_true, Bool.not_eq_false, not_true_eq_false, not_false_eq_true, reduceCtorEq] at hp11)
        (exfalso; omega)
        (try simp only [decide_eq_true_eq, decide_eq_false_iff_not, Bool.not_eq_true', Bool.not_eq_false', Bool.not_eq_true, Bool.not_eq_false, not_true_eq_false, not_false_eq_true, reduceCtorEq] at hp10)
        (exfalso; omega)
      · apply Wp.seq
        apply Wp.region
        refine WpL.v (V.cmp) ?_
        apply WpL.nil
        apply Out.seqN
        apply Wp.seq
        refine Wp.c (fun hp20 => ?_) (fun hp20 => ?_)
        (try simp only [decide_eq_true_eq, decide_eq_false_iff_not, Bool.not_eq_true', Bool.not_eq_false', Bool.not_eq_true, Bool.not_eq_false, not_true_eq_false, not_false_eq_true, reduceCtorEq] at hp20)
        apply Wp.skip
        apply Out.seqN
        apply Wp.seq
        apply Wp.block
        apply Wp.seq
        apply Wp.region
        refine WpL.v (V.ixR tb rfl rfl (by assumption)) ?_
        refine WpL.v (V.ldRA tb rfl hR (getMapS hy)) ?_
        refine WpL.o (O.al tb (fun p6 => ?_))
        refine WpL.o (O.stA tb ?_)
        apply WpL.nil
        apply Out.seqN
        apply Wp.seq
        apply Wp.region
        refine WpL.v (V.fa tb) ?_
        refine WpL.v (V.ld1 tb) ?_
        refine WpL.v (V.fa tb) ?_
        refine WpL.v (V.ld1 tb) ?_
        refine WpL.v (V.cmp) ?_
        apply WpL.nil
        apply Out.seqN
        refine Wp.c (fun hp21 => ?_) (fun hp21 => ?_)
        (try simp only [decide_eq_true_eq, decide_eq_false_iff_not, Bool.not_eq_true', Bool.not_eq_false', Bool.not_eq_true, Bool.not_eq_false, not_true_eq_false, not_false_eq_true, reduceCtorEq] at hp21)
        (exfalso; omega)
        (try simp only [decide_eq_true_eq, decide_eq_false_iff_not, Bool.not_eq_true', Bool.not_eq_false', Bool.not_eq_true, Bool.not_eq_false, not_true_eq_false, not_false_eq_true, reduceCtorEq] at hp21)
        apply Wp.skip
        apply Out.blockN
        apply Out.seqN
        apply Wp.region
        refine WpL.v (V.add) ?_
        refine WpL.v (V.mv) ?_
        apply WpL.nil
        rotate_left
        (try simp only [decide_eq_true_eq, decide_eq_false_iff_not, Bool.not_eq_true', Bool.not_eq_false', Bool.not_eq_true, Bool.not_eq_false, not_true_eq_false, not_false_eq_true, reduceCtorEq] at hp20)
        (exfalso; omega)
        exact Out.ag hK (i + 1) ⟨by show i + 1 ≤ _; omega, fun z hz => by
          rw [take_snocS hy] at hz
          rcases List.mem_append.1 hz with hz | hz
          · exact hno z hz
          · simp only [List.mem_singleton] at hz; rw [hz]; exact hyf⟩ (by show x.pres.length - (i + 1) < x.pres.length - i; omega)
    · obtain rfl : i = x.pres.length := by omega
      rw [List.take_length] at hno
      obtain ⟨y, hy, hyf⟩ := hex
      exact absurd hyf (hno y hy)
  · refine Ct.enter Try.func90 rfl rfl fun W => ?_
    refine Wp.fact (rowsRd (f := TMsg.c) (v := vp) (l := x.pres) (E := 44) (sz := 25) TMsg.len (by (repeat first | exact List.Mem.head _ | apply List.Mem.tail))) fun hv => ?_
    obtain ⟨ap, cp, g, rfl, hR⟩ := hv
    apply Wp.seq
    apply Wp.region
    refine WpL.o (O.bxA (fun p3 => ?_))
    refine WpL.v (V.as) ?_
    apply WpL.nil
    apply Out.seqN
    apply Wp.seq
    apply Wp.seq
    apply Wp.region
    refine WpL.v (V.mv) ?_
    refine WpL.v (V.nc) ?_
    refine WpL.v (V.fa tb) ?_
    refine WpL.v (V.ld1 tb) ?_
    refine WpL.v (V.lenL tb) ?_
    refine WpL.v (V.mv) ?_
    apply WpL.nil
    apply Out.seqN
    apply Wp.block
    refine Wp.lp [16, 15, 3, 0] (fun i : Nat => i ≤ x.pres.length) (fun i => [(17, I (i : Int))]) (fun _ => []) (fun i => x.pres.length - i) 0 (Nat.zero_le _) ?_
    rintro i hi K hK
    dsimp only [List.cons_append, List.nil_append]
    by_cases hlt : i < x.pres.length
    · obtain ⟨y, hy⟩ := getS hlt
      have hyf : ¬ y.From = m.From := fun h => hex ⟨y, List.mem_of_getElem? hy, h⟩
      apply Wp.seq
      apply Wp.region
      refine WpL.v (V.cmp) ?_
      apply WpL.nil
      apply Out.seqN
      apply Wp.seq
      refine Wp.c (fun hq10 => ?_) (fun hq10 => ?_)
      (try simp only [decide_eq_true_eq, decide_eq_false_iff_not, Bool.not_eq_true', Bool.not_eq_false', Bool.not_eq_true, Bool.not_eq_false, not_true_eq_false, not_false_eq_true, reduceCtorEq] at hq10)
      apply Wp.skip
      apply Out.seqN
      apply Wp.seq
      apply Wp.block
      apply Wp.seq
      apply Wp.region
      refine WpL.v (V.ixR tb rfl rfl (by assumption)) ?_
      refine WpL.v (V.ldRA tb rfl hR (getMapS hy)) ?_
      refine WpL.o (O.al tb (fun p6 => ?_))
      refine WpL.o (O.stA tb ?_)
      apply WpL.nil
      apply Out.seqN
      apply Wp.seq
      apply Wp.region
      refine WpL.v (V.fa tb) ?_
      refine WpL.v (V.ld1 tb) ?_
      refine WpL.v (V.fa tb) ?_
      refine WpL.v (V.ld1 tb) ?_
      refine WpL.v (V.cmp) ?_
      apply WpL.nil
      apply Out.seqN
      refine Wp.c (fun hq11 => ?_) (fun hq11 => ?_)
      (try simp only [decide_eq_true_eq, decide_eq_false_iff_not, Bool.not_eq_true', Bool.not_eq_false', Bool.not_eq_true, Bool.not_eq_false, not_true_eq_false, not_false_eq_true, reduceCtorEq] at hq11)
      (exfalso; omega)
      (try simp only [decide_eq_true_eq, decide_eq_false_iff_not, Bool.not_eq_true', Bool.not_eq_false', Bool.not_eq_true, Bool.not_eq_false, not_true_eq_false, not_false_eq_true, reduceCtorEq] at hq11)
      apply Wp.skip
      apply Out.blockN
      apply Out.seqN
      apply Wp.region
      refine WpL.v (V.add) ?_
      refine WpL.v (V.mv) ?_
      apply WpL.nil
      rotate_left
      (try simp only [decide_eq_true_eq, decide_eq_false_iff_not, Bool.not_eq_true', Bool.not_eq_false', Bool.not_eq_true, Bool.not_eq_false, not_true_eq_false, not_false_eq_true, reduceCtorEq] at hq10)
      (exfalso; omega)
      exact Out.ag hK (i + 1) (by show i + 1 ≤ _; omega) (by show x.pres.length - (i + 1) < x.pres.length - i; omega)
    · obtain rfl : i = x.pres.length := by omega
      clear hK
      apply Wp.seq
      apply Wp.region
      refine WpL.v (V.cmp) ?_
      apply WpL.nil
      apply Out.seqN
      apply Wp.seq
      refine Wp.c (fun hq20 => ?_) (fun hq20 => ?_)
      (try simp only [decide_eq_true_eq, decide_eq_false_iff_not, Bool.not_eq_true', Bool.not_eq_false', Bool.not_eq_true, Bool.not_eq_false, not_true_eq_false, not_false_eq_true, reduceCtorEq] at hq20)
      (exfalso; omega)
      (try simp only [decide_eq_true_eq, decide_eq_false_iff_not, Bool.not_eq_true', Bool.not_eq_false', Bool.not_eq_true, Bool.not_eq_false, not_true_eq_false, not_false_eq_true, reduceCtorEq] at hq20)
      apply Wp.exit
      apply Out.seqE
      apply Out.seqE
      apply Out.blockE
      apply Out.seqN
      apply Wp.seq
      refine Wp.dG [10] ?_ (List.Sublist.cons_cons _ (List.Sublist.cons_cons _ (List.Sublist.cons _ (List.Sublist.cons _ List.Sublist.slnil)))) (List.Sublist.cons_cons _ (List.Sublist.cons _ (List.Sublist.cons _ (List.Sublist.cons _ List.Sublist.slnil))))
      refine WpA.tF 0 rfl (V.mv) ?_
      refine WpA.tF 1 rfl (V.mv) ?_
      refine WpA.tF 2 rfl (V.nc) ?_
      refine WpA.tF 3 rfl (V.fa tb) ?_
      refine WpA.tF 5 rfl (V.ldA tb) ?_
      refine WpA.t 4 rfl (V.ld1 tb) ?_
      refine WpA.oS 6 rfl (O.lit tb (fun p33 => ⟨?_, ?_, ?_⟩))
      exact holdT
      exact holdT
      refine WpA.oS 7 rfl (O.apLV (l := x.pres) (m := [m]) tb rfl rfl (by (intro _; repeat first | exact Upd.here _ _ _ | apply Upd.there)) (SrcL.one (f := TMsg.c) (a := m) tb (by (repeat first | exact List.Mem.head _ | apply List.Mem.tail)) TMsg.ones) (fun v34 h134 hv34 => ⟨?_, ?_, ?_⟩) (hbb := by simp only [List.length_cons, List.length_nil]; omega) (h63 := by simp only [List.length_cons, List.length_nil]; omega))
      exact holdT
      exact holdT
      refine WpA.tF 8 rfl (V.nc) ?_
      refine WpA.tF 9 rfl (V.fa tb) ?_
      refine WpA.l 10 rfl (O.st1 tb ⟨?_, ?_⟩)
      exact holdT
      refine WpA.ou ?_
      apply Out.seqN
      apply Wp.seq
      apply Wp.region
      refine WpL.v (V.as) ?_
      apply WpL.nil
      apply Out.seqN
      apply Wp.seq
      apply Wp.seq
      apply Wp.region
      refine WpL.v (V.mv) ?_
      refine WpL.v (V.nc) ?_
      refine WpL.v (V.fa tb) ?_
      refine WpL.v (V.ld1 tb) ?_
      refine WpL.v (V.lenRows tb) ?_
      refine WpL.v (V.mv) ?_
      apply WpL.nil
      apply Out.seqN
      apply Wp.block
      have hput : x.hear1 m = (if x.isFast = true ∧ 2 * faults x.n ≤ (((x.put m).pres.filter (·.Same)).length : Int) then ({ x.put m with phase := 3 }, true)
        else if faults x.n + 1 ≤ ((x.put m).pres.length : Int) ∧ (x.isFast = false ∨ x.n - 2 * faults x.n < ((x.put m).pres.length : Int) - (((x.put m).pres.filter (·.Same)).length : Int)) then ((x.put m).slow, true)
        else (x.put m, false)) := by unfold RS.hear1; rw [if_neg hex]
      rw [hput]
      have hlm : (x.pres ++ [m]).length = x.pres.length + 1 := by simp
      refine Wp.fact (rowsRd (f := TMsg.c) (v := v34) (l := x.pres ++ [m]) (E := 44) (sz := 25) TMsg.len (by (repeat first | exact List.Mem.head _ | apply List.Mem.tail))) fun hv => ?_
      obtain ⟨aq, cq, g2, rfl, hR2⟩ := hv
      refine Wp.lp [41, 40, 0] (fun i : Nat => i ≤ (x.pres ++ [m]).length) (fun i => [(42, I (i : Int)), (7, I ((((x.pres ++ [m]).take i).filter (·.Same)).length : Int))]) (fun _ => []) (fun i => (x.pres ++ [m]).length - i) 0 (Nat.zero_le _) ?_
      rintro i hi K hK
      dsimp only [List.cons_append, List.nil_append]
      by_cases hlt : i < (x.pres ++ [m]).length
      · obtain ⟨y, hy⟩ := getS hlt
        have e1 := take_snocS hy
        have hsm : (((x.pres ++ [m]).take i).filter (·.Same)).length ≤ 1001 := Nat.le_trans (List.length_filter_le _ _) (by rw [List.length_take]; omega)
        cases hys : y.Same with
        | true =>
          have e2 : ((((x.pres ++ [m]).take (i + 1)).filter (·.Same)).length : Int) = ((((x.pres ++ [m]).take i).filter (·.Same)).length : Int) + 1 := by rw [e1, List.filter_append]; simp [hys]
          apply Wp.seq
          apply Wp.region
          refine WpL.v (V.cmp) ?_
          apply WpL.nil
          apply Out.seqN
          apply Wp.seq
          refine Wp.c (fun hq30 => ?_) (fun hq30 => ?_)
          (try simp only [decide_eq_true_eq, decide_eq_false_iff_not, Bool.not_eq_true', Bool.not_eq_false', Bool.not_eq_true, Bool.not_eq_false, not_true_eq_false, not_false_eq_true, reduceCtorEq] at hq30)
          apply Wp.skip
          apply Out.seqN
          apply Wp.seq
          apply Wp.block
          apply Wp.seq
          apply Wp.region
          refine WpL.v (V.ixR tb rfl rfl (by assumption)) ?_
          refine WpL.v (V.ldRA tb rfl hR2 (getMapS hy)) ?_
          refine WpL.o (O.al tb (fun p9 => ?_))
          refine WpL.o (O.stA tb ?_)
          apply WpL.nil
          apply Out.seqN
          apply Wp.seq
          apply Wp.region
          refine WpL.v (V.fa tb) ?_
          refine WpL.v (V.ld1 tb (v := B true) (hr := by rw [← hys]; rfl)) ?_
          apply WpL.nil
          apply Out.seqN
          refine Wp.cT ?_
          apply Wp.region
          refine WpL.v (V.mv) ?_
          refine WpL.v (V.add) ?_
          refine WpL.v (V.as) ?_
          apply WpL.nil
          apply Out.blockN
          apply Out.seqN
          apply Wp.region
          refine WpL.v (V.add) ?_
          refine WpL.v (V.mv) ?_
          apply WpL.nil
          rotate_left
          (try simp only [decide_eq_true_eq, decide_eq_false_iff_not, Bool.not_eq_true', Bool.not_eq_false', Bool.not_eq_true, Bool.not_eq_false, not_true_eq_false, not_false_eq_true, reduceCtorEq] at hq30)
          (exfalso; omega)
          exact Out.ag hK (i + 1) (by show i + 1 ≤ _; omega) (by show (x.pres ++ [m]).length - (i + 1) < (x.pres ++ [m]).length - i; omega) (he := by rw [e2]; (repeat (first | exact subEnv.nil | refine subEnv.cons rfl rfl ?_)))
        | false =>
          have e2 : ((((x.pres ++ [m]).take (i + 1)).filter (·.Same)).length : Int) = ((((x.pres ++ [m]).take i).filter (·.Same)).length : Int) := by rw [e1, List.filter_append]; simp [hys]
          apply Wp.seq
          apply Wp.region
          refine WpL.v (V.cmp) ?_
          apply WpL.nil
          apply Out.seqN
          apply Wp.seq
          refine Wp.c (fun hq40 => ?_) (fun hq40 => ?_)
          (try simp only [decide_eq_true_eq, decide_eq_false_iff_not, Bool.not_eq_true', Bool.not_eq_false', Bool.not_eq_true, Bool.not_eq_false, not_true_eq_false, not_false_eq_true, reduceCtorEq] at hq40)
          apply Wp.skip
          apply Out.seqN
          apply Wp.seq
          apply Wp.block
          apply Wp.seq
          apply Wp.region
          refine WpL.v (V.ixR tb rfl rfl (by assumption)) ?_
          refine WpL.v (V.ldRA tb rfl hR2 (getMapS hy)) ?_
          refine WpL.o (O.al tb (fun p9 => ?_))
          refine WpL.o (O.stA tb ?_)
          apply WpL.nil
          apply Out.seqN
          apply Wp.seq
          apply Wp.region
          refine WpL.v (V.fa tb) ?_
          refine WpL.v (V.ld1 tb (v := B false) (hr := by rw [← hys]; rfl)) ?_
          apply WpL.nil
          apply Out.seqN
          refine Wp.cF ?_
          apply Wp.skip
          apply Out.blockN
          apply Out.seqN
          apply Wp.region
          refine WpL.v (V.add) ?_
          refine WpL.v (V.mv) ?_
          apply WpL.nil
          rotate_left
          (try simp only [decide_eq_true_eq, decide_eq_false_iff_not, Bool.not_eq_true', Bool.not_eq_false', Bool.not_eq_true, Bool.not_eq_false, not_true_eq_false, not_false_eq_true, reduceCtorEq] at hq40)
          (exfalso; omega)
          exact Out.ag hK (i + 1) (by show i + 1 ≤ _; omega) (by show (x.pres ++ [m]).length - (i + 1) < (x.pres ++ [m]).length - i; omega) (he := by rw [e2]; (repeat (first | exact subEnv.nil | refine subEnv.cons rfl rfl ?_)))
      · obtain rfl : i = (x.pres ++ [m]).length := by omega
        clear hK
        rw [List.take_length]
        have hF := ref_faults x.n (by omega)
        have hFa : faults x.n ≤ 1000 ∧ 0 ≤ faults x.n := by unfold faults; omega
        have hSl := ref_slow p (x.put m) (.slice aq (x.pres ++ [m]).length cq) vo
        unfold refE at hSl
        rw [show (x.put m).pres = x.pres ++ [m] from rfl]
        rw [show (x.put m).pres = x.pres ++ [m] from rfl] at hSl
        have hsn : ((x.pres ++ [m]).filter (·.Same)).length ≤ 1001 := Nat.le_trans (List.length_filter_le _ _) (by omega)
        generalize hS : ((x.pres ++ [m]).filter (·.Same)).length = s at *
        have hNs : (x.s (.slice ap x.pres.length cp) vo).N = x.n := rfl
        by_cases hr : x.ballot.Round = 0
        · by_cases hi2 : x.ballot.Rep = x.item.Rep
          · have hf : x.isFast = true := by unfold RS.isFast; simp [hr, hi2]
            rw [hf]
            by_cases h1 : 2 * faults x.n ≤ (s : Int)
            · rw [if_pos ⟨rfl, h1⟩]
              apply Wp.seq
              apply Wp.region
              refine WpL.v (V.cmp) ?_
              apply WpL.nil
              apply Out.seqN
              apply Wp.seq
              refine Wp.c (fun hr10 => ?_) (fun hr10 => ?_)
              (try simp only [decide_eq_true_eq, decide_eq_false_iff_not, Bool.not_eq_true', Bool.not_eq_false', Bool.not_eq_true, Bool.not_eq_false, not_true_eq_false, not_false_eq_true, reduceCtorEq] at hr10)
              (exfalso; omega)
              (try simp only [decide_eq_true_eq, decide_eq_false_iff_not, Bool.not_eq_true', Bool.not_eq_false', Bool.not_eq_true, Bool.not_eq_false, not_true_eq_false, not_false_eq_true, reduceCtorEq] at hr10)
              apply Wp.exit
              apply Out.seqE
              apply Out.seqE
              apply Out.blockE
              apply Out.seqN
              apply Wp.seq
              apply Wp.region
              refine WpL.v (V.mv) ?_
              refine WpL.v (V.nc) ?_
              refine WpL.v (V.fa tb) ?_
              refine WpL.v (V.ld1 tb) ?_
              refine WpL.o (Op1.fn rfl (hF) ?_)
              refine WpL.v (V.as) ?_
              apply WpL.nil
              apply Out.seqN
              apply Wp.seq
              refine Wp.dG [] ?_ (List.Sublist.cons _ (List.Sublist.cons _ (List.Sublist.cons_cons _ (List.Sublist.cons _ (List.Sublist.cons _ List.Sublist.slnil))))) (List.Sublist.cons _ (List.Sublist.cons _ (List.Sublist.cons_cons _ (List.Sublist.cons _ (List.Sublist.cons _ List.Sublist.slnil)))))
              refine WpA.tF 0 rfl (V.mv) ?_
              refine WpA.tF 1 rfl (V.nc) ?_
              refine WpA.tF 2 rfl (V.fa tb) ?_
              refine WpA.tF 3 rfl (V.fa tb) ?_
              refine WpA.tF 4 rfl (V.ld1 tb) ?_
              refine WpA.tF 5 rfl (V.cmp) ?_
              refine WpA.tF 6 rfl (V.mv) ?_
              refine WpA.pt 62 (fun hr11 => ?_) (fun hr11 => ?_)
              (try simp only [decide_eq_true_eq, decide_eq_false_iff_not, Bool.not_eq_true', Bool.not_eq_false', Bool.not_eq_true, Bool.not_eq_false, not_true_eq_false, not_false_eq_true, reduceCtorEq] at hr11)
              refine WpA.tF 7 rfl (V.mv) ?_
              refine WpA.tF 8 rfl (V.nc) ?_
              refine WpA.tF 9 rfl (V.fa tb) ?_
              refine WpA.tF 10 rfl (V.fa tb) ?_
              refine WpA.tF 11 rfl (V.ld1 tb) ?_
              refine WpA.tF 12 rfl (V.mv) ?_
              refine WpA.tF 13 rfl (V.nc) ?_
              refine WpA.tF 14 rfl (V.fa tb) ?_
              refine WpA.tF 15 rfl (V.fa tb) ?_
              refine WpA.tF 16 rfl (V.ld1 tb) ?_
              refine WpA.tF 17 rfl (V.cmp) ?_
              refine WpA.tF 18 rfl (V.pT) ?_
              refine WpA.tF 19 rfl (V.as) ?_
              refine WpA.ou ?_
              apply Out.seqN
              apply Wp.seq
              apply Wp.seq
              apply Wp.region
              refine WpL.v (V.mv) ?_
              refine WpL.v (V.mv) ?_
              refine WpL.pt (fun hr12 => ?_) (fun hr12 => ?_)
              (try simp only [decide_eq_true_eq, decide_eq_false_iff_not, Bool.not_eq_true', Bool.not_eq_false', Bool.not_eq_true, Bool.not_eq_false, not_true_eq_false, not_false_eq_true, reduceCtorEq] at hr12)
              refine WpL.v (V.mv) ?_
              refine WpL.v (V.mv) ?_
              refine WpL.v (V.mul) ?_
              refine WpL.v (V.cmp) ?_
              refine WpL.v (V.pT) ?_
              apply WpL.nil
              apply Out.seqN
              refine Wp.c (fun hr13 => ?_) (fun hr13 => ?_)
              (try simp only [decide_eq_true_eq, decide_eq_false_iff_not, Bool.not_eq_true', Bool.not_eq_false', Bool.not_eq_true, Bool.not_eq_false, not_true_eq_false, not_false_eq_true, reduceCtorEq] at hr13)
              apply Wp.seq
              apply Wp.region
              refine WpL.v (V.mv) ?_
              refine WpL.v (V.nc) ?_
              refine WpL.v (V.fa tb) ?_
              refine WpL.o (O.st1 tb ?_)
              apply WpL.nil
              apply Out.seqN
              apply Wp.seq
              apply Wp.region
              refine WpL.v (V.as) ?_
              apply WpL.nil
              apply Out.seqN
              apply Wp.ret
              apply Out.seqR
              refine Out.e1 rfl ResIs.t ?_
              exact ⟨_, _, ⟨_, rfl, rfl⟩, (by (repeat (first | exact Sel.nil | exact Rem.here | apply Sel.cons | apply Rem.there)))⟩
              (try simp only [decide_eq_true_eq, decide_eq_false_iff_not, Bool.not_eq_true', Bool.not_eq_false', Bool.not_eq_true, Bool.not_eq_false, not_true_eq_false, not_false_eq_true, reduceCtorEq] at hr13)
              (exfalso; omega)
              (try simp only [decide_eq_true_eq, decide_eq_false_iff_not, Bool.not_eq_true', Bool.not_eq_false', Bool.not_eq_true, Bool.not_eq_false, not_true_eq_false, not_false_eq_true, reduceCtorEq] at hr12)
              contradiction
              (try simp only [decide_eq_true_eq, decide_eq_false_iff_not, Bool.not_eq_true', Bool.not_eq_false', Bool.not_eq_true, Bool.not_eq_false, not_true_eq_false, not_false_eq_true, reduceCtorEq] at hr11)
              contradiction
            · rw [if_neg (fun h => h1 h.2)]
              by_cases h2 : faults x.n + 1 ≤ ((x.pres ++ [m]).length : Int)
              · by_cases h3 : x.n - 2 * faults x.n < ((x.pres ++ [m]).length : Int) - (s : Int)
                · rw [if_pos ⟨h2, .inr h3⟩]
                  apply Wp.seq
                  apply Wp.region
                  refine WpL.v (V.cmp) ?_
                  apply WpL.nil
                  apply Out.seqN
                  apply Wp.seq
                  refine Wp.c (fun hr20 => ?_) (fun hr20 => ?_)
                  (try simp only [decide_eq_true_eq, decide_eq_false_iff_not, Bool.not_eq_true', Bool.not_eq_false', Bool.not_eq_true, Bool.not_eq_false, not_true_eq_false, not_false_eq_true, reduceCtorEq] at hr20)
                  (exfalso; omega)
                  (try simp only [decide_eq_true_eq, decide_eq_false_iff_not, Bool.not_eq_true', Bool.not_eq_false', Bool.not_eq_true, Bool.not_eq_false, not_true_eq_false, not_false_eq_true, reduceCtorEq] at hr20)
                  apply Wp.exit
                  apply Out.seqE
                  apply Out.seqE
                  apply Out.blockE
                  apply Out.seqN
                  apply Wp.seq
                  apply Wp.region
                  refine WpL.v (V.mv) ?_
                  refine WpL.v (V.nc) ?_
                  refine WpL.v (V.fa tb) ?_
                  refine WpL.v (V.ld1 tb) ?_
                  refine WpL.o (Op1.fn rfl (hF) ?_)
                  refine WpL.v (V.as) ?_
                  apply WpL.nil
                  apply Out.seqN
                  apply Wp.seq
                  refine Wp.dG [] ?_ (List.Sublist.cons _ (List.Sublist.cons _ (List.Sublist.cons_cons _ (List.Sublist.cons _ (List.Sublist.cons _ List.Sublist.slnil))))) (List.Sublist.cons _ (List.Sublist.cons _ (List.Sublist.cons_cons _ (List.Sublist.cons _ (List.Sublist.cons _ List.Sublist.slnil)))))
                  refine WpA.tF 0 rfl (V.mv) ?_
                  refine WpA.tF 1 rfl (V.nc) ?_
                  refine WpA.tF 2 rfl (V.fa tb) ?_
                  refine WpA.tF 3 rfl (V.fa tb) ?_
                  refine WpA.tF 4 rfl (V.ld1 tb) ?_
                  refine WpA.tF 5 rfl (V.cmp) ?_
                  refine WpA.tF 6 rfl (V.mv) ?_
                  refine WpA.pt 62 (fun hr21 => ?_) (fun hr21 => ?_)
                  (try simp only [decide_eq_true_eq, decide_eq_false_iff_not, Bool.not_eq_true', Bool.not_eq_false', Bool.not_eq_true, Bool.not_eq_false, not_true_eq_false, not_false_eq_true, reduceCtorEq] at hr21)
                  refine WpA.tF 7 rfl (V.mv) ?_
                  refine WpA.tF 8 rfl (V.nc) ?_
                  refine WpA.tF 9 rfl (V.fa tb) ?_
                  refine WpA.tF 10 rfl (V.fa tb) ?_
                  refine WpA.tF 11 rfl (V.ld1 tb) ?_
                  refine WpA.tF 12 rfl (V.mv) ?_
                  refine WpA.tF 13 rfl (V.nc) ?_
                  refine WpA.tF 14 rfl (V.fa tb) ?_
                  refine WpA.tF 15 rfl (V.fa tb) ?_
                  refine WpA.tF 16 rfl (V.ld1 tb) ?_
                  refine WpA.tF 17 rfl (V.cmp) ?_
                  refine WpA.tF 18 rfl (V.pT) ?_
                  refine WpA.tF 19 rfl (V.as) ?_
                  refine WpA.ou ?_
                  apply Out.seqN
                  apply Wp.seq
                  apply Wp.seq
                  apply Wp.region
                  refine WpL.v (V.mv) ?_
                  refine WpL.v (V.mv) ?_
                  refine WpL.pt (fun hr22 => ?_) (fun hr22 => ?_)
                  (try simp only [decide_eq_true_eq, decide_eq_false_iff_not, Bool.not_eq_true', Bool.not_eq_false', Bool.not_eq_true, Bool.not_eq_false, not_true_eq_false, not_false_eq_true, reduceCtorEq] at hr22)
                  refine WpL.v (V.mv) ?_
                  refine WpL.v (V.mv) ?_
                  refine WpL.v (V.mul) ?_
                  refine WpL.v (V.cmp) ?_
                  refine WpL.v (V.pT) ?_
                  apply WpL.nil
                  apply Out.seqN
                  refine Wp.c (fun hr23 => ?_) (fun hr23 => ?_)
                  (try simp only [decide_eq_true_eq, decide_eq_false_iff_not, Bool.not_eq_true', Bool.not_eq_false', Bool.not_eq_true, Bool.not_eq_false, not_true_eq_false, not_false_eq_true, reduceCtorEq] at hr23)
                  (exfalso; omega)
                  (try simp only [decide_eq_true_eq, decide_eq_false_iff_not, Bool.not_eq_true', Bool.not_eq_false', Bool.not_eq_true, Bool.not_eq_false, not_true_eq_false, not_false_eq_true, reduceCtorEq] at hr23)
                  apply Wp.skip
                  apply Out.seqN
                  apply Wp.seq
                  apply Wp.seq
                  refine Wp.dG [] ?_ (List.Sublist.cons_cons _ (List.Sublist.cons _ (List.Sublist.cons_cons _ (List.Sublist.cons_cons _ (List.Sublist.cons_cons _ List.Sublist.slnil))))) (List.Sublist.cons_cons _ (List.Sublist.cons _ (List.Sublist.cons_cons _ (List.Sublist.cons_cons _ (List.Sublist.cons_cons _ List.Sublist.slnil)))))
                  refine WpA.tF 0 rfl (V.mv) ?_
                  refine WpA.tF 1 rfl (V.nc) ?_
                  refine WpA.tF 2 rfl (V.fa tb) ?_
                  refine WpA.tF 3 rfl (V.ld1 tb) ?_
                  refine WpA.tF 4 rfl (V.lenL tb) ?_
                  refine WpA.tF 5 rfl (V.mv) ?_
                  refine WpA.tF 6 rfl (V.add) ?_
                  refine WpA.tF 7 rfl (V.cmp) ?_
                  refine WpA.tF 8 rfl (V.mv) ?_
                  refine WpA.pt 93 (fun hr24 => ?_) (fun hr24 => ?_)
                  (try simp only [decide_eq_true_eq, decide_eq_false_iff_not, Bool.not_eq_true', Bool.not_eq_false', Bool.not_eq_true, Bool.not_eq_false, not_true_eq_false, not_false_eq_true, reduceCtorEq] at hr24)
                  refine WpA.tF 9 rfl (V.mv) ?_
                  refine WpA.tF 10 rfl (V.not) ?_
                  refine WpA.tF 11 rfl (V.mv) ?_
                  refine WpA.pt 96 (fun hr25 => ?_) (fun hr25 => ?_)
                  (try simp only [decide_eq_true_eq, decide_eq_false_iff_not, Bool.not_eq_true', Bool.not_eq_false', Bool.not_eq_true, Bool.not_eq_false, not_true_eq_false, not_false_eq_true, reduceCtorEq] at hr25)
                  (exfalso; omega)
                  (try simp only [decide_eq_true_eq, decide_eq_false_iff_not, Bool.not_eq_true', Bool.not_eq_false', Bool.not_eq_true, Bool.not_eq_false, not_true_eq_false, not_false_eq_true, reduceCtorEq] at hr25)
                  refine WpA.tF 12 rfl (V.mv) ?_
                  refine WpA.tF 13 rfl (V.nc) ?_
                  refine WpA.tF 14 rfl (V.fa tb) ?_
                  refine WpA.tF 15 rfl (V.ld1 tb) ?_
                  refine WpA.tF 16 rfl (V.lenL tb) ?_
                  refine WpA.tF 17 rfl (V.mv) ?_
                  refine WpA.tF 18 rfl (V.sub) ?_
                  refine WpA.tF 19 rfl (V.mv) ?_
                  refine WpA.tF 20 rfl (V.nc) ?_
                  refine WpA.tF 21 rfl (V.fa tb) ?_
                  refine WpA.tF 22 rfl (V.ld1 tb) ?_
                  refine WpA.tF 23 rfl (V.mv) ?_
                  refine WpA.tF 24 rfl (V.mul) ?_
                  refine WpA.tF 25 rfl (V.sub) ?_
                  refine WpA.tF 26 rfl (V.cmp) ?_
                  refine WpA.tF 27 rfl (V.pF) ?_
                  refine WpA.tF 28 rfl (V.pT) ?_
                  refine WpA.ou ?_
                  apply Out.seqN
                  refine Wp.c (fun hr26 => ?_) (fun hr26 => ?_)
                  (try simp only [decide_eq_true_eq, decide_eq_false_iff_not, Bool.not_eq_true', Bool.not_eq_false', Bool.not_eq_true, Bool.not_eq_false, not_true_eq_false, not_false_eq_true, reduceCtorEq] at hr26)
                  apply Wp.seq
                  apply Wp.region
                  refine WpL.v (V.mv) ?_
                  refine WpL.o (Op1.callT rfl (hSl) (by (repeat (first | exact Sel.nil | exact Rem.here | apply Sel.cons | apply Rem.there))) ?_)
                  rintro v7 s8 ⟨rfl, rfl⟩
                  refine incat ?_
                  refine WpL.v (V.as) ?_
                  apply WpL.nil
                  apply Out.seqN
                  apply Wp.ret
                  apply Out.seqR
                  refine Out.e1 rfl ResIs.t ?_
                  exact ⟨_, _, ⟨_, rfl, rfl⟩, (by (repeat (first | exact Sel.nil | exact Rem.here | apply Sel.cons | apply Rem.there)))⟩
                  (try simp only [decide_eq_true_eq, decide_eq_false_iff_not, Bool.not_eq_true', Bool.not_eq_false', Bool.not_eq_true, Bool.not_eq_false, not_true_eq_false, not_false_eq_true, reduceCtorEq] at hr26)
                  (exfalso; omega)
                  (try simp only [decide_eq_true_eq, decide_eq_false_iff_not, Bool.not_eq_true', Bool.not_eq_false', Bool.not_eq_true, Bool.not_eq_false, not_true_eq_false, not_false_eq_true, reduceCtorEq] at hr24)
                  (exfalso; omega)
                  (try simp only [decide_eq_true_eq, decide_eq_false_iff_not, Bool.not_eq_true', Bool.not_eq_false', Bool.not_eq_true, Bool.not_eq_false, not_true_eq_false, not_false_eq_true, reduceCtorEq] at hr22)
                  contradiction
                  (try simp only [decide_eq_true_eq, decide_eq_false_iff_not, Bool.not_eq_true', Bool.not_eq_false', Bool.not_eq_true, Bool.not_eq_false, not_true_eq_false, not_false_eq_true, reduceCtorEq] at hr21)
                  contradiction
                · rw [if_neg (by rintro ⟨_, h | h⟩; cases h; exact h3 h)]
                  apply Wp.seq
                  apply Wp.region
                  refine WpL.v (V.cmp) ?_
                  apply WpL.nil
                  apply Out.seqN
                  apply Wp.seq
                  refine Wp.c (fun hr30 => ?_) (fun hr30 => ?_)
                  (try simp only [decide_eq_true_eq, decide_eq_false_iff_not, Bool.not_eq_true', Bool.not_eq_false', Bool.not_eq_true, Bool.not_eq_false, not_true_eq_false, not_false_eq_true, reduceCtorEq] at hr30)
                  (exfalso; omega)
                  (try simp only [decide_eq_true_eq, decide_eq_false_iff_not, Bool.not_eq_true', Bool.not_eq_false', Bool.not_eq_true, Bool.not_eq_false, not_true_eq_false, not_false_eq_true, reduceCtorEq] at hr30)
                  apply Wp.exit
                  apply Out.seqE
                  apply Out.seqE
                  apply Out.blockE
                  apply Out.seqN
                  apply Wp.seq
                  apply Wp.region
                  refine WpL.v (V.mv) ?_
                  refine WpL.v (V.nc) ?_
                  refine WpL.v (V.fa tb) ?_
                  refine WpL.v (V.ld1 tb) ?_
                  refine WpL.o (Op1.fn rfl (hF) ?_)
                  refine WpL.v (V.as) ?_
                  apply WpL.nil
                  apply Out.seqN
                  apply Wp.seq
                  refine Wp.dG [] ?_ (List.Sublist.cons _ (List.Sublist.cons _ (List.Sublist.cons_cons _ (List.Sublist.cons _ (List.Sublist.cons _ List.Sublist.slnil))))) (List.Sublist.cons _ (List.Sublist.cons _ (List.Sublist.cons_cons _ (List.Sublist.cons _ (List.Sublist.cons _ List.Sublist.slnil)))))
                  refine WpA.tF 0 rfl (V.mv) ?_
                  refine WpA.tF 1 rfl (V.nc) ?_
                  refine WpA.tF 2 rfl (V.fa tb) ?_
                  refine WpA.tF 3 rfl (V.fa tb) ?_
                  refine WpA.tF 4 rfl (V.ld1 tb) ?_
                  refine WpA.tF 5 rfl (V.cmp) ?_
                  refine WpA.tF 6 rfl (V.mv) ?_
                  refine WpA.pt 62 (fun hr31 => ?_) (fun hr31 => ?_)
                  (try simp only [decide_eq_true_eq, decide_eq_false_iff_not, Bool.not_eq_true', Bool.not_eq_false', Bool.not_eq_true, Bool.not_eq_false, not_true_eq_false, not_false_eq_true, reduceCtorEq] at hr31)
                  refine WpA.tF 7 rfl (V.mv) ?_
                  refine WpA.tF 8 rfl (V.nc) ?_
                  refine WpA.tF 9 rfl (V.fa tb) ?_
                  refine WpA.tF 10 rfl (V.fa tb) ?_
                  refine WpA.tF 11 rfl (V.ld1 tb) ?_
                  refine WpA.tF 12 rfl (V.mv) ?_
                  refine WpA.tF 13 rfl (V.nc) ?_
                  refine WpA.tF 14 rfl (V.fa tb) ?_
                  refine WpA.tF 15 rfl (V.fa tb) ?_
                  refine WpA.tF 16 rfl (V.ld1 tb) ?_
                  refine WpA.tF 17 rfl (V.cmp) ?_
                  refine WpA.tF 18 rfl (V.pT) ?_
                  refine WpA.tF 19 rfl (V.as) ?_
                  refine WpA.ou ?_
                  apply Out.seqN
                  apply Wp.seq
                  apply Wp.seq
                  apply Wp.region
                  refine WpL.v (V.mv) ?_
                  refine WpL.v (V.mv) ?_
                  refine WpL.pt (fun hr32 => ?_) (fun hr32 => ?_)
                  (try simp only [decide_eq_true_eq, decide_eq_false_iff_not, Bool.not_eq_true', Bool.not_eq_false', Bool.not_eq_true, Bool.not_eq_false, not_true_eq_false, not_false_eq_true, reduceCtorEq] at hr32)
                  refine WpL.v (V.mv) ?_
                  refine WpL.v (V.mv) ?_
                  refine WpL.v (V.mul) ?_
                  refine WpL.v (V.cmp) ?_
                  refine WpL.v (V.pT) ?_
                  apply WpL.nil
                  apply Out.seqN
                  refine Wp.c (fun hr33 => ?_) (fun hr33 => ?_)
                  (try simp only [decide_eq_true_eq, decide_eq_false_iff_not, Bool.not_eq_true', Bool.not_eq_false', Bool.not_eq_true, Bool.not_eq_false, not_true_eq_false, not_false_eq_true, reduceCtorEq] at hr33)
                  (exfalso; omega)
                  (try simp only [decide_eq_true_eq, decide_eq_false_iff_not, Bool.not_eq_true', Bool.not_eq_false', Bool.not_eq_true, Bool.not_eq_false, not_true_eq_false, not_false_eq_true, reduceCtorEq] at hr33)
                  apply Wp.skip
                  apply Out.seqN
                  apply Wp.seq
                  apply Wp.seq
                  refine Wp.dG [] ?_ (List.Sublist.cons_cons _ (List.Sublist.cons _ (List.Sublist.cons_cons _ (List.Sublist.cons_cons _ (List.Sublist.cons_cons _ List.Sublist.slnil))))) (List.Sublist.cons_cons _ (List.Sublist.cons _ (List.Sublist.cons_cons _ (List.Sublist.cons_cons _ (List.Sublist.cons_cons _ List.Sublist.slnil)))))
                  refine WpA.tF 0 rfl (V.mv) ?_
                  refine WpA.tF 1 rfl (V.nc) ?_
                  refine WpA.tF 2 rfl (V.fa tb) ?_
                  refine WpA.tF 3 rfl (V.ld1 tb) ?_
                  refine WpA.tF 4 rfl (V.lenL tb) ?_
                  refine WpA.tF 5 rfl (V.mv) ?_
                  refine WpA.tF 6 rfl (V.add) ?_
                  refine WpA.tF 7 rfl (V.cmp) ?_
                  refine WpA.tF 8 rfl (V.mv) ?_
                  refine WpA.pt 93 (fun hr34 => ?_) (fun hr34 => ?_)
                  (try simp only [decide_eq_true_eq, decide_eq_false_iff_not, Bool.not_eq_true', Bool.not_eq_false', Bool.not_eq_true, Bool.not_eq_false, not_true_eq_false, not_false_eq_true, reduceCtorEq] at hr34)
                  refine WpA.tF 9 rfl (V.mv) ?_
                  refine WpA.tF 10 rfl (V.not) ?_
                  refine WpA.tF 11 rfl (V.mv) ?_
                  refine WpA.pt 96 (fun hr35 => ?_) (fun hr35 => ?_)
                  (try simp only [decide_eq_true_eq, decide_eq_false_iff_not, Bool.not_eq_true', Bool.not_eq_false', Bool.not_eq_true, Bool.not_eq_false, not_true_eq_false, not_false_eq_true, reduceCtorEq] at hr35)
                  (exfalso; omega)
                  (try simp only [decide_eq_true_eq, decide_eq_false_iff_not, Bool.not_eq_true', Bool.not_eq_false', Bool.not_eq_true, Bool.not_eq_false, not_true_eq_false, not_false_eq_true, reduceCtorEq] at hr35)
                  refine WpA.tF 12 rfl (V.mv) ?_
                  refine WpA.tF 13 rfl (V.nc) ?_
                  refine WpA.tF 14 rfl (V.fa tb) ?_
                  refine WpA.tF 15 rfl (V.ld1 tb) ?_
                  refine WpA.tF 16 rfl (V.lenL tb) ?_
                  refine WpA.tF 17 rfl (V.mv) ?_
                  refine WpA.tF 18 rfl (V.sub) ?_
                  refine WpA.tF 19 rfl (V.mv) ?_
                  refine WpA.tF 20 rfl (V.nc) ?_
                  refine WpA.tF 21 rfl (V.fa tb) ?_
                  refine WpA.tF 22 rfl (V.ld1 tb) ?_
                  refine WpA.tF 23 rfl (V.mv) ?_
                  refine WpA.tF 24 rfl (V.mul) ?_
                  refine WpA.tF 25 rfl (V.sub) ?_
                  refine WpA.tF 26 rfl (V.cmp) ?_
                  refine WpA.tF 27 rfl (V.pF) ?_
                  refine WpA.tF 28 rfl (V.pT) ?_
                  refine WpA.ou ?_
                  apply Out.seqN
                  refine Wp.c (fun hr36 => ?_) (fun hr36 => ?_)
                  (try simp only [decide_eq_true_eq, decide_eq_false_iff_not, Bool.not_eq_true', Bool.not_eq_false', Bool.not_eq_true, Bool.not_eq_false, not_true_eq_false, not_false_eq_true, reduceCtorEq] at hr36)
                  (exfalso; omega)
                  (try simp only [decide_eq_true_eq, decide_eq_false_iff_not, Bool.not_eq_true', Bool.not_eq_false', Bool.not_eq_true, Bool.not_eq_false, not_true_eq_false, not_false_eq_true, reduceCtorEq] at hr36)
                  apply Wp.skip
                  apply Out.seqN
                  apply Wp.seq
                  apply Wp.region
                  refine WpL.v (V.as) ?_
                  apply WpL.nil
                  apply Out.seqN
                  apply Wp.ret
                  refine Out.e1 rfl ResIs.t ?_
                  exact ⟨_, _, ⟨_, rfl, rfl⟩, (by (repeat (first | exact Sel.nil | exact Rem.here | apply Sel.cons | apply Rem.there)))⟩
                  (try simp only [decide_eq_true_eq, decide_eq_false_iff_not, Bool.not_eq_true', Bool.not_eq_false', Bool.not_eq_true, Bool.not_eq_false, not_true_eq_false, not_false_eq_true, reduceCtorEq] at hr34)
                  (exfalso; omega)
                  (try simp only [decide_eq_true_eq, decide_eq_false_iff_not, Bool.not_eq_true', Bool.not_eq_false', Bool.not_eq_true, Bool.not_eq_false, not_true_eq_false, not_false_eq_true, reduceCtorEq] at hr32)
                  contradiction
                  (try simp only [decide_eq_true_eq, decide_eq_false_iff_not, Bool.not_eq_true', Bool.not_eq_false', Bool.not_eq_true, Bool.not_eq_false, not_true_eq_false, not_false_eq_true, reduceCtorEq] at hr31)
                  contradiction
              · rw [if_neg (fun h => h2 h.1)]
                apply Wp.seq
                apply Wp.region
                refine WpL.v (V.cmp) ?_
                apply WpL.nil
                apply Out.seqN
                apply Wp.seq
                refine Wp.c (fun hr40 => ?_) (fun hr40 => ?_)
                (try simp only [decide_eq_true_eq, decide_eq_false_iff_not, Bool.not_eq_true', Bool.not_eq_false', Bool.not_eq_true, Bool.not_eq_false, not_true_eq_false, not_false_eq_true, reduceCtorEq] at hr40)
                (exfalso; omega)
                (try simp only [decide_eq_true_eq, decide_eq_false_iff_not, Bool.not_eq_true', Bool.not_eq_false', Bool.not_eq_true, Bool.not_eq_false, not_true_eq_false, not_false_eq_true, reduceCtorEq] at hr40)
                apply Wp.exit
                apply Out.seqE
                apply Out.seqE
                apply Out.blockE
                apply Out.seqN
                apply Wp.seq
                apply Wp.region
                refine WpL.v (V.mv) ?_
                refine WpL.v (V.nc) ?_
                refine WpL.v (V.fa tb) ?_
                refine WpL.v (V.ld1 tb) ?_
                refine WpL.o (Op1.fn rfl (hF) ?_)
                refine WpL.v (V.as) ?_
                apply WpL.nil
                apply Out.seqN
                apply Wp.seq
                refine Wp.dG [] ?_ (List.Sublist.cons _ (List.Sublist.cons _ (List.Sublist.cons_cons _ (List.Sublist.cons _ (List.Sublist.cons _ List.Sublist.slnil))))) (List.Sublist.cons _ (List.Sublist.cons _ (List.Sublist.cons_cons _ (List.Sublist.cons _ (List.Sublist.cons _ List.Sublist.slnil)))))
                refine WpA.tF 0 rfl (V.mv) ?_
                refine WpA.tF 1 rfl (V.nc) ?_
                refine WpA.tF 2 rfl (V.fa tb) ?_
                refine WpA.tF 3 rfl (V.fa tb) ?_
                refine WpA.tF 4 rfl (V.ld1 tb) ?_
                refine WpA.tF 5 rfl (V.cmp) ?_
                refine WpA.tF 6 rfl (V.mv) ?_
                refine WpA.pt 62 (fun hr41 => ?_) (fun hr41 => ?_)
                (try simp only [decide_eq_true_eq, decide_eq_false_iff_not, Bool.not_eq_true', Bool.not_eq_false', Bool.not_eq_true, Bool.not_eq_false, not_true_eq_false, not_false_eq_true, reduceCtorEq] at hr41)
                refine WpA.tF 7 rfl (V.mv) ?_
                refine WpA.tF 8 rfl (V.nc) ?_
                refine WpA.tF 9 rfl (V.fa tb) ?_
                refine WpA.tF 10 rfl (V.fa tb) ?_
                refine WpA.tF 11 rfl (V.ld1 tb) ?_
                refine WpA.tF 12 rfl (V.mv) ?_
                refine WpA.tF 13 rfl (V.nc) ?_
                refine WpA.tF 14 rfl (V.fa tb) ?_
                refine WpA.tF 15 rfl (V.fa tb) ?_
                refine WpA.tF 16 rfl (V.ld1 tb) ?_
                refine WpA.tF 17 rfl (V.cmp) ?_
                refine WpA.tF 18 rfl (V.pT) ?_
                refine WpA.tF 19 rfl (V.as) ?_
                refine WpA.ou ?_
                apply Out.seqN
                apply Wp.seq
                apply Wp.seq
                apply Wp.region
                refine WpL.v (V.mv) ?_
                refine WpL.v (V.mv) ?_
                refine WpL.pt (fun hr42 => ?_) (fun hr42 => ?_)
                (try simp only [decide_eq_true_eq, decide_eq_false_iff_not, Bool.not_eq_true', Bool.not_eq_false', Bool.not_eq_true, Bool.not_eq_false, not_true_eq_false, not_false_eq_true, reduceCtorEq] at hr42)
                refine WpL.v (V.mv) ?_
                refine WpL.v (V.mv) ?_
                refine WpL.v (V.mul) ?_
                refine WpL.v (V.cmp) ?_
                refine WpL.v (V.pT) ?_
                apply WpL.nil
                apply Out.seqN
                refine Wp.c (fun hr43 => ?_) (fun hr43 => ?_)
                (try simp only [decide_eq_true_eq, decide_eq_false_iff_not, Bool.not_eq_true', Bool.not_eq_false', Bool.not_eq_true, Bool.not_eq_false, not_true_eq_false, not_false_eq_true, reduceCtorEq] at hr43)
                (exfalso; omega)
                (try simp only [decide_eq_true_eq, decide_eq_false_iff_not, Bool.not_eq_true', Bool.not_eq_false', Bool.not_eq_true, Bool.not_eq_false, not_true_eq_false, not_false_eq_true, reduceCtorEq] at hr43)
                apply Wp.skip
                apply Out.seqN
                apply Wp.seq
                apply Wp.seq
                refine Wp.dG [] ?_ (List.Sublist.cons_cons _ (List.Sublist.cons _ (List.Sublist.cons_cons _ (List.Sublist.cons_cons _ (List.Sublist.cons_cons _ List.Sublist.slnil))))) (List.Sublist.cons_cons _ (List.Sublist.cons _ (List.Sublist.cons_cons _ (List.Sublist.cons_cons _ (List.Sublist.cons_cons _ List.Sublist.slnil)))))
                refine WpA.tF 0 rfl (V.mv) ?_
                refine WpA.tF 1 rfl (V.nc) ?_
                refine WpA.tF 2 rfl (V.fa tb) ?_
                refine WpA.tF 3 rfl (V.ld1 tb) ?_
                refine WpA.tF 4 rfl (V.lenL tb) ?_
                refine WpA.tF 5 rfl (V.mv) ?_
                refine WpA.tF 6 rfl (V.add) ?_
                refine WpA.tF 7 rfl (V.cmp) ?_
                refine WpA.tF 8 rfl (V.mv) ?_
                refine WpA.pt 93 (fun hr44 => ?_) (fun hr44 => ?_)
                (try simp only [decide_eq_true_eq, decide_eq_false_iff_not, Bool.not_eq_true', Bool.not_eq_false', Bool.not_eq_true, Bool.not_eq_false, not_true_eq_false, not_false_eq_true, reduceCtorEq] at hr44)
                (exfalso; omega)
                (try simp only [decide_eq_true_eq, decide_eq_false_iff_not, Bool.not_eq_true', Bool.not_eq_false', Bool.not_eq_true, Bool.not_eq_false, not_true_eq_false, not_false_eq_true, reduceCtorEq] at hr44)
                refine WpA.s 9 rfl ?_
                refine WpA.s 10 rfl ?_
                refine WpA.s 11 rfl ?_
                refine WpA.s 12 rfl ?_
                refine WpA.s 13 rfl ?_
                refine WpA.s 14 rfl ?_
                refine WpA.s 15 rfl ?_
                refine WpA.s 16 rfl ?_
                refine WpA.s 17 rfl ?_
                refine WpA.s 18 rfl ?_
                refine WpA.s 19 rfl ?_
                refine WpA.s 20 rfl ?_
                refine WpA.s 21 rfl ?_
                refine WpA.s 22 rfl ?_
                refine WpA.s 23 rfl ?_
                refine WpA.s 24 rfl ?_
                refine WpA.s 25 rfl ?_
                refine WpA.s 26 rfl ?_
                refine WpA.s 27 rfl ?_
                refine WpA.tF 28 rfl (V.pF) ?_
                refine WpA.ou ?_
                apply Out.seqN
                refine Wp.cF ?_
                apply Wp.skip
                apply Out.seqN
                apply Wp.seq
                apply Wp.region
                refine WpL.v (V.as) ?_
                apply WpL.nil
                apply Out.seqN
                apply Wp.ret
                refine Out.e1 rfl ResIs.t ?_
                exact ⟨_, _, ⟨_, rfl, rfl⟩, (by (repeat (first | exact Sel.nil | exact Rem.here | apply Sel.cons | apply Rem.there)))⟩
                (try simp only [decide_eq_true_eq, decide_eq_false_iff_not, Bool.not_eq_true', Bool.not_eq_false', Bool.not_eq_true, Bool.not_eq_false, not_true_eq_false, not_false_eq_true, reduceCtorEq] at hr42)
                contradiction
                (try simp only [decide_eq_true_eq, decide_eq_false_iff_not, Bool.not_eq_true', Bool.not_eq_false', Bool.not_eq_true, Bool.not_eq_false, not_true_eq_false, not_false_eq_true, reduceCtorEq] at hr41)
                contradiction
          · have hf : x.isFast = false := by unfold RS.isFast; simp [hi2]
            rw [hf, if_neg (by rintro ⟨h, _⟩; cases h)]
            by_cases h2 : faults x.n + 1 ≤ ((x.pres ++ [m]).length : Int)
            · rw [if_pos ⟨h2, .inl rfl⟩]
              apply Wp.seq
              apply Wp.region
              refine WpL.v (V.cmp) ?_
              apply WpL.nil
              apply Out.seqN
              apply Wp.seq
              refine Wp.c (fun hr50 => ?_) (fun hr50 => ?_)
              (try simp only [decide_eq_true_eq, decide_eq_false_iff_not, Bool.not_eq_true', Bool.not_eq_false', Bool.not_eq_true, Bool.not_eq_false, not_true_eq_false, not_false_eq_true, reduceCtorEq] at hr50)
              (exfalso; omega)
              (try simp only [decide_eq_true_eq, decide_eq_false_iff_not, Bool.not_eq_true', Bool.not_eq_false', Bool.not_eq_true, Bool.not_eq_false, not_true_eq_false, not_false_eq_true, reduceCtorEq] at hr50)
              apply Wp.exit
              apply Out.seqE
              apply Out.seqE
              apply Out.blockE
              apply Out.seqN
              apply Wp.seq
              apply Wp.region
              refine WpL.v (V.mv) ?_
              refine WpL.v (V.nc) ?_
              refine WpL.v (V.fa tb) ?_
              refine WpL.v (V.ld1 tb) ?_
              refine WpL.o (Op1.fn rfl (hF) ?_)
              refine WpL.v (V.as) ?_
              apply WpL.nil
              apply Out.seqN
              apply Wp.seq
              refine Wp.dG [] ?_ (List.Sublist.cons _ (List.Sublist.cons _ (List.Sublist.cons_cons _ (List.Sublist.cons _ (List.Sublist.cons _ List.Sublist.slnil))))) (List.Sublist.cons _ (List.Sublist.cons _ (List.Sublist.cons_cons _ (List.Sublist.cons _ (List.Sublist.cons _ List.Sublist.slnil)))))
              refine WpA.tF 0 rfl (V.mv) ?_
              refine WpA.tF 1 rfl (V.nc) ?_
              refine WpA.tF 2 rfl (V.fa tb) ?_
              refine WpA.tF 3 rfl (V.fa tb) ?_
              refine WpA.tF 4 rfl (V.ld1 tb) ?_
              refine WpA.tF 5 rfl (V.cmp) ?_
              refine WpA.tF 6 rfl (V.mv) ?_
              refine WpA.pt 62 (fun hr51 => ?_) (fun hr51 => ?_)
              (try simp only [decide_eq_true_eq, decide_eq_false_iff_not, Bool.not_eq_true', Bool.not_eq_false', Bool.not_eq_true, Bool.not_eq_false, not_true_eq_false, not_false_eq_true, reduceCtorEq] at hr51)
              refine WpA.tF 7 rfl (V.mv) ?_
              refine WpA.tF 8 rfl (V.nc) ?_
              refine WpA.tF 9 rfl (V.fa tb) ?_
              refine WpA.tF 10 rfl (V.fa tb) ?_
              refine WpA.tF 11 rfl (V.ld1 tb) ?_
              refine WpA.tF 12 rfl (V.mv) ?_
              refine WpA.tF 13 rfl (V.nc) ?_
              refine WpA.tF 14 rfl (V.fa tb) ?_
              refine WpA.tF 15 rfl (V.fa tb) ?_
              refine WpA.tF 16 rfl (V.ld1 tb) ?_
              refine WpA.tF 17 rfl (V.cmp) ?_
              refine WpA.tF 18 rfl (V.pT) ?_
              refine WpA.tF 19 rfl (V.as) ?_
              refine WpA.ou ?_
              apply Out.seqN
              apply Wp.seq
              apply Wp.seq
              apply Wp.region
              refine WpL.v (V.mv) ?_
              refine WpL.v (V.mv) ?_
              refine WpL.pt (fun hr52 => ?_) (fun hr52 => ?_)
              (try simp only [decide_eq_true_eq, decide_eq_false_iff_not, Bool.not_eq_true', Bool.not_eq_false', Bool.not_eq_true, Bool.not_eq_false, not_true_eq_false, not_false_eq_true, reduceCtorEq] at hr52)
              contradiction
              (try simp only [decide_eq_true_eq, decide_eq_false_iff_not, Bool.not_eq_true', Bool.not_eq_false', Bool.not_eq_true, Bool.not_eq_false, not_true_eq_false, not_false_eq_true, reduceCtorEq] at hr52)
              refine WpL.sk ?_
              refine WpL.sk ?_
              refine WpL.sk ?_
              refine WpL.sk ?_
              refine WpL.v (V.pF) ?_
              apply WpL.nil
              apply Out.seqN
              refine Wp.cF ?_
              apply Wp.skip
              apply Out.seqN
              apply Wp.seq
              apply Wp.seq
              refine Wp.dG [] ?_ (List.Sublist.cons_cons _ (List.Sublist.cons _ (List.Sublist.cons_cons _ (List.Sublist.cons_cons _ (List.Sublist.cons_cons _ List.Sublist.slnil))))) (List.Sublist.cons_cons _ (List.Sublist.cons _ (List.Sublist.cons_cons _ (List.Sublist.cons_cons _ (List.Sublist.cons_cons _ List.Sublist.slnil)))))
              refine WpA.tF 0 rfl (V.mv) ?_
              refine WpA.tF 1 rfl (V.nc) ?_
              refine WpA.tF 2 rfl (V.fa tb) ?_
              refine WpA.tF 3 rfl (V.ld1 tb) ?_
              refine WpA.tF 4 rfl (V.lenL tb) ?_
              refine WpA.tF 5 rfl (V.mv) ?_
              refine WpA.tF 6 rfl (V.add) ?_
              refine WpA.tF 7 rfl (V.cmp) ?_
              refine WpA.tF 8 rfl (V.mv) ?_
              refine WpA.pt 93 (fun hr53 => ?_) (fun hr53 => ?_)
              (try simp only [decide_eq_true_eq, decide_eq_false_iff_not, Bool.not_eq_true', Bool.not_eq_false', Bool.not_eq_true, Bool.not_eq_false, not_true_eq_false, not_false_eq_true, reduceCtorEq] at hr53)
              refine WpA.tF 9 rfl (V.mv) ?_
              refine WpA.tF 10 rfl (V.not) ?_
              refine WpA.tF 11 rfl (V.mv) ?_
              refine WpA.pt 96 (fun hr54 => ?_) (fun hr54 => ?_)
              (try simp only [decide_eq_true_eq, decide_eq_false_iff_not, Bool.not_eq_true', Bool.not_eq_false', Bool.not_eq_true, Bool.not_eq_false, not_true_eq_false, not_false_eq_true, reduceCtorEq] at hr54)
              refine WpA.s 12 rfl ?_
              refine WpA.s 13 rfl ?_
              refine WpA.s 14 rfl ?_
              refine WpA.s 15 rfl ?_
              refine WpA.s 16 rfl ?_
              refine WpA.s 17 rfl ?_
              refine WpA.s 18 rfl ?_
              refine WpA.s 19 rfl ?_
              refine WpA.s 20 rfl ?_
              refine WpA.s 21 rfl ?_
              refine WpA.s 22 rfl ?_
              refine WpA.s 23 rfl ?_
              refine WpA.s 24 rfl ?_
              refine WpA.s 25 rfl ?_
              refine WpA.s 26 rfl ?_
              refine WpA.tF 27 rfl (V.pT) ?_
              refine WpA.tF 28 rfl (V.pT) ?_
              refine WpA.ou ?_
              apply Out.seqN
              refine Wp.cT ?_
              apply Wp.seq
              apply Wp.region
              refine WpL.v (V.mv) ?_
              refine WpL.o (Op1.callT rfl (hSl) (by (repeat (first | exact Sel.nil | exact Rem.here | apply Sel.cons | apply Rem.there))) ?_)
              rintro v5 s6 ⟨rfl, rfl⟩
              refine incat ?_
              refine WpL.v (V.as) ?_
              apply WpL.nil
              apply Out.seqN
              apply Wp.ret
              apply Out.seqR
              refine Out.e1 rfl ResIs.t ?_
              exact ⟨_, _, ⟨_, rfl, rfl⟩, (by (repeat (first | exact Sel.nil | exact Rem.here | apply Sel.cons | apply Rem.there)))⟩
              (try simp only [decide_eq_true_eq, decide_eq_false_iff_not, Bool.not_eq_true', Bool.not_eq_false', Bool.not_eq_true, Bool.not_eq_false, not_true_eq_false, not_false_eq_true, reduceCtorEq] at hr54)
              (exfalso; omega)
              (try simp only [decide_eq_true_eq, decide_eq_false_iff_not, Bool.not_eq_true', Bool.not_eq_false', Bool.not_eq_true, Bool.not_eq_false, not_true_eq_false, not_false_eq_true, reduceCtorEq] at hr53)
              (exfalso; omega)
              (try simp only [decide_eq_true_eq, decide_eq_false_iff_not, Bool.not_eq_true', Bool.not_eq_false', Bool.not_eq_true, Bool.not_eq_false, not_true_eq_false, not_false_eq_true, reduceCtorEq] at hr51)
              contradiction
            · rw [if_neg (fun h => h2 h.1)]
              apply Wp.seq
              apply Wp.region
              refine WpL.v (V.cmp) ?_
              apply WpL.nil
              apply Out.seqN
              apply Wp.seq
              refine Wp.c (fun hr60 => ?_) (fun hr60 => ?_)
              (try simp only [decide_eq_true_eq, decide_eq_false_iff_not, Bool.not_eq_true', Bool.not_eq_false', Bool.not_eq_true, Bool.not_eq_false, not_true_eq_false, not_false_eq_true, reduceCtorEq] at hr60)
              (exfalso; omega)
              (try simp only [decide_eq_true_eq, decide_eq_false_iff_not, Bool.not_eq_true', Bool.not_eq_false', Bool.not_eq_true, Bool.not_eq_false, not_true_eq_false, not_false_eq_true, reduceCtorEq] at hr60)
              apply Wp.exit
              apply Out.seqE
              apply Out.seqE
              apply Out.blockE
              apply Out.seqN
              apply Wp.seq
              apply Wp.region
              refine WpL.v (V.mv) ?_
              refine WpL.v (V.nc) ?_
              refine WpL.v (V.fa tb) ?_
              refine WpL.v (V.ld1 tb) ?_
              refine WpL.o (Op1.fn rfl (hF) ?_)
              refine WpL.v (V.as) ?_
              apply WpL.nil
              apply Out.seqN
              apply Wp.seq
              refine Wp.dG [] ?_ (List.Sublist.cons _ (List.Sublist.cons _ (List.Sublist.cons_cons _ (List.Sublist.cons _ (List.Sublist.cons _ List.Sublist.slnil))))) (List.Sublist.cons _ (List.Sublist.cons _ (List.Sublist.cons_cons _ (List.Sublist.cons _ (List.Sublist.cons _ List.Sublist.slnil)))))
              refine WpA.tF 0 rfl (V.mv) ?_
              refine WpA.tF 1 rfl (V.nc) ?_
              refine WpA.tF 2 rfl (V.fa tb) ?_
              refine WpA.tF 3 rfl (V.fa tb) ?_
              refine WpA.tF 4 rfl (V.ld1 tb) ?_
              refine WpA.tF 5 rfl (V.cmp) ?_
              refine WpA.tF 6 rfl (V.mv) ?_
              refine WpA.pt 62 (fun hr61 => ?_) (fun hr61 => ?_)
              (try simp only [decide_eq_true_eq, decide_eq_false_iff_not, Bool.not_eq_true', Bool.not_eq_false', Bool.not_eq_true, Bool.not_eq_false, not_true_eq_false, not_false_eq_true, reduceCtorEq] at hr61)
              refine WpA.tF 7 rfl (V.mv) ?_
              refine WpA.tF 8 rfl (V.nc) ?_
              refine WpA.tF 9 rfl (V.fa tb) ?_
              refine WpA.tF 10 rfl (V.fa tb) ?_
              refine WpA.tF 11 rfl (V.ld1 tb) ?_
              refine WpA.tF 12 rfl (V.mv) ?_
              refine WpA.tF 13 rfl (V.nc) ?_
              refine WpA.tF 14 rfl (V.fa tb) ?_
              refine WpA.tF 15 rfl (V.fa tb) ?_
              refine WpA.tF 16 rfl (V.ld1 tb) ?_
              refine WpA.tF 17 rfl (V.cmp) ?_
              refine WpA.tF 18 rfl (V.pT) ?_
              refine WpA.tF 19 rfl (V.as) ?_
              refine WpA.ou ?_
              apply Out.seqN
              apply Wp.seq
              apply Wp.seq
              apply Wp.region
              refine WpL.v (V.mv) ?_
              refine WpL.v (V.mv) ?_
              refine WpL.pt (fun hr62 => ?_) (fun hr62 => ?_)
              (try simp only [decide_eq_true_eq, decide_eq_false_iff_not, Bool.not_eq_true', Bool.not_eq_false', Bool.not_eq_true, Bool.not_eq_false, not_true_eq_false, not_false_eq_true, reduceCtorEq] at hr62)
              contradiction
              (try simp only [decide_eq_true_eq, decide_eq_false_iff_not, Bool.not_eq_true', Bool.not_eq_false', Bool.not_eq_true, Bool.not_eq_false, not_true_eq_false, not_false_eq_true, reduceCtorEq] at hr62)
              refine WpL.sk ?_
              refine WpL.sk ?_
              refine WpL.sk ?_
              refine WpL.sk ?_
              refine WpL.v (V.pF) ?_
              apply WpL.nil
              apply Out.seqN
              refine Wp.cF ?_
              apply Wp.skip
              apply Out.seqN
              apply Wp.seq
              apply Wp.seq
              refine Wp.dG [] ?_ (List.Sublist.cons_cons _ (List.Sublist.cons _ (List.Sublist.cons_cons _ (List.Sublist.cons_cons _ (List.Sublist.cons_cons _ List.Sublist.slnil))))) (List.Sublist.cons_cons _ (List.Sublist.cons _ (List.Sublist.cons_cons _ (List.Sublist.cons_cons _ (List.Sublist.cons_cons _ List.Sublist.slnil)))))
              refine WpA.tF 0 rfl (V.mv) ?_
              refine WpA.tF 1 rfl (V.nc) ?_
              refine WpA.tF 2 rfl (V.fa tb) ?_
              refine WpA.tF 3 rfl (V.ld1 tb) ?_
              refine WpA.tF 4 rfl (V.lenL tb) ?_
              refine WpA.tF 5 rfl (V.mv) ?_
              refine WpA.tF 6 rfl (V.add) ?_
              refine WpA.tF 7 rfl (V.cmp) ?_
              refine WpA.tF 8 rfl (V.mv) ?_
              refine WpA.pt 93 (fun hr63 => ?_) (fun hr63 => ?_)
              (try simp only [decide_eq_true_eq, decide_eq_false_iff_not, Bool.not_eq_true', Bool.not_eq_false', Bool.not_eq_true, Bool.not_eq_false, not_true_eq_false, not_false_eq_true, reduceCtorEq] at hr63)
              (exfalso; omega)
              (try simp only [decide_eq_true_eq, decide_eq_false_iff_not, Bool.not_eq_true', Bool.not_eq_false', Bool.not_eq_true, Bool.not_eq_false, not_true_eq_false, not_false_eq_true, reduceCtorEq] at hr63)
              refine WpA.s 9 rfl ?_
              refine WpA.s 10 rfl ?_
              refine WpA.s 11 rfl ?_
              refine WpA.s 12 rfl ?_
              refine WpA.s 13 rfl ?_
              refine WpA.s 14 rfl ?_
              refine WpA.s 15 rfl ?_
              refine WpA.s 16 rfl ?_
              refine WpA.s 17 rfl ?_
              refine WpA.s 18 rfl ?_
              refine WpA.s 19 rfl ?_
              refine WpA.s 20 rfl ?_
              refine WpA.s 21 rfl ?_
              refine WpA.s 22 rfl ?_
              refine WpA.s 23 rfl ?_
              refine WpA.s 24 rfl ?_
              refine WpA.s 25 rfl ?_
              refine WpA.s 26 rfl ?_
              refine WpA.s 27 rfl ?_
              refine WpA.tF 28 rfl (V.pF) ?_
              refine WpA.ou ?_
              apply Out.seqN
              refine Wp.cF ?_
              apply Wp.skip
              apply Out.seqN
              apply Wp.seq
              apply Wp.region
              refine WpL.v (V.as) ?_
              apply WpL.nil
              apply Out.seqN
              apply Wp.ret
              refine Out.e1 rfl ResIs.t ?_
              exact ⟨_, _, ⟨_, rfl, rfl⟩, (by (repeat (first | exact Sel.nil | exact Rem.here | apply Sel.cons | apply Rem.there)))⟩
              (try simp only [decide_eq_true_eq, decide_eq_false_iff_not, Bool.not_eq_true', Bool.not_eq_false', Bool.not_eq_true, Bool.not_eq_false, not_true_eq_false, not_false_eq_true, reduceCtorEq] at hr61)
              contradiction
        · have hf : x.isFast = false := by unfold RS.isFast; simp [hr]
          rw [hf, if_neg (by rintro ⟨h, _⟩; cases h)]
          by_cases h2 : faults x.n + 1 ≤ ((x.pres ++ [m]).length : Int)
          · rw [if_pos ⟨h2, .inl rfl⟩]
            apply Wp.seq
            apply Wp.region
            refine WpL.v (V.cmp) ?_
            apply WpL.nil
            apply Out.seqN
            apply Wp.seq
            refine Wp.c (fun hr70 => ?_) (fun hr70 => ?_)
            (try simp only [decide_eq_true_eq, decide_eq_false_iff_not, Bool.not_eq_true', Bool.not_eq_false', Bool.not_eq_true, Bool.not_eq_false, not_true_eq_false, not_false_eq_true, reduceCtorEq] at hr70)
            (exfalso; omega)
            (try simp only [decide_eq_true_eq, decide_eq_false_iff_not, Bool.not_eq_true', Bool.not_eq_false', Bool.not_eq_true, Bool.not_eq_false, not_true_eq_false, not_false_eq_true, reduceCtorEq] at hr70)
            apply Wp.exit
            apply Out.seqE
            apply Out.seqE
            apply Out.blockE
            apply Out.seqN
            apply Wp.seq
            apply Wp.region
            refine WpL.v (V.mv) ?_
            refine WpL.v (V.nc) ?_
            refine WpL.v (V.fa tb) ?_
            refine WpL.v (V.ld1 tb) ?_
            refine WpL.o (Op1.fn rfl (hF) ?_)
            refine WpL.v (V.as) ?_
            apply WpL.nil
            apply Out.seqN
            apply Wp.seq
            refine Wp.dG [] ?_ (List.Sublist.cons _ (List.Sublist.cons _ (List.Sublist.cons_cons _ (List.Sublist.cons _ (List.Sublist.cons _ List.Sublist.slnil))))) (List.Sublist.cons _ (List.Sublist.cons _ (List.Sublist.cons_cons _ (List.Sublist.cons _ (List.Sublist.cons _ List.Sublist.slnil)))))
            refine WpA.tF 0 rfl (V.mv) ?_
            refine WpA.tF 1 rfl (V.nc) ?_
            refine WpA.tF 2 rfl (V.fa tb) ?_
            refine WpA.tF 3 rfl (V.fa tb) ?_
            refine WpA.tF 4 rfl (V.ld1 tb) ?_
            refine WpA.tF 5 rfl (V.cmp) ?_
            refine WpA.tF 6 rfl (V.mv) ?_
            refine WpA.pt 62 (fun hr71 => ?_) (fun hr71 => ?_)
            (try simp only [decide_eq_true_eq, decide_eq_false_iff_not, Bool.not_eq_true', Bool.not_eq_false', Bool.not_eq_true, Bool.not_eq_false, not_true_eq_false, not_false_eq_true, reduceCtorEq] at hr71)
            contradiction
            (try simp only [decide_eq_true_eq, decide_eq_false_iff_not, Bool.not_eq_true', Bool.not_eq_false', Bool.not_eq_true, Bool.not_eq_false, not_true_eq_false, not_false_eq_true, reduceCtorEq] at hr71)
            refine WpA.s 7 rfl ?_
            refine WpA.s 8 rfl ?_
            refine WpA.s 9 rfl ?_
            refine WpA.s 10 rfl ?_
            refine WpA.s 11 rfl ?_
            refine WpA.s 12 rfl ?_
            refine WpA.s 13 rfl ?_
            refine WpA.s 14 rfl ?_
            refine WpA.s 15 rfl ?_
            refine WpA.s 16 rfl ?_
            refine WpA.s 17 rfl ?_
            refine WpA.tF 18 rfl (V.pF) ?_
            refine WpA.tF 19 rfl (V.as) ?_
            refine WpA.ou ?_
            apply Out.seqN
            apply Wp.seq
            apply Wp.seq
            apply Wp.region
            refine WpL.v (V.mv) ?_
            refine WpL.v (V.mv) ?_
            refine WpL.sk ?_
            refine WpL.sk ?_
            refine WpL.sk ?_
            refine WpL.sk ?_
            refine WpL.v (V.pF) ?_
            apply WpL.nil
            apply Out.seqN
            refine Wp.cF ?_
            apply Wp.skip
            apply Out.seqN
            apply Wp.seq
            apply Wp.seq
            refine Wp.dG [] ?_ (List.Sublist.cons_cons _ (List.Sublist.cons _ (List.Sublist.cons_cons _ (List.Sublist.cons_cons _ (List.Sublist.cons_cons _ List.Sublist.slnil))))) (List.Sublist.cons_cons _ (List.Sublist.cons _ (List.Sublist.cons_cons _ (List.Sublist.cons_cons _ (List.Sublist.cons_cons _ List.Sublist.slnil)))))
            refine WpA.tF 0 rfl (V.mv) ?_
            refine WpA.tF 1 rfl (V.nc) ?_
            refine WpA.tF 2 rfl (V.fa tb) ?_
            refine WpA.tF 3 rfl (V.ld1 tb) ?_
            refine WpA.tF 4 rfl (V.lenL tb) ?_
            refine WpA.tF 5 rfl (V.mv) ?_
            refine WpA.tF 6 rfl (V.add) ?_
            refine WpA.tF 7 rfl (V.cmp) ?_
            refine WpA.tF 8 rfl (V.mv) ?_
            refine WpA.pt 93 (fun hr72 => ?_) (fun hr72 => ?_)
            (try simp only [decide_eq_true_eq, decide_eq_false_iff_not, Bool.not_eq_true', Bool.not_eq_false', Bool.not_eq_true, Bool.not_eq_false, not_true_eq_false, not_false_eq_true, reduceCtorEq] at hr72)
            refine WpA.tF 9 rfl (V.mv) ?_
            refine WpA.tF 10 rfl (V.not) ?_
            refine WpA.tF 11 rfl (V.mv) ?_
            refine WpA.s 12 rfl ?_
            refine WpA.s 13 rfl ?_
            refine WpA.s 14 rfl ?_
            refine WpA.s 15 rfl ?_
            refine WpA.s 16 rfl ?_
            refine WpA.s 17 rfl ?_
            refine WpA.s 18 rfl ?_
            refine WpA.s 19 rfl ?_
            refine WpA.s 20 rfl ?_
            refine WpA.s 21 rfl ?_
            refine WpA.s 22 rfl ?_
            refine WpA.s 23 rfl ?_
            refine WpA.s 24 rfl ?_
            refine WpA.s 25 rfl ?_
            refine WpA.s 26 rfl ?_
            refine WpA.tF 27 rfl (V.pT) ?_
            refine WpA.tF 28 rfl (V.pT) ?_
            refine WpA.ou ?_
            apply Out.seqN
            refine Wp.cT ?_
            apply Wp.seq
            apply Wp.region
            refine WpL.v (V.mv) ?_
            refine WpL.o (Op1.callT rfl (hSl) (by (repeat (first | exact Sel.nil | exact Rem.here | apply Sel.cons | apply Rem.there))) ?_)
            rintro v3 s4 ⟨rfl, rfl⟩
            refine incat ?_
            refine WpL.v (V.as) ?_
            apply WpL.nil
            apply Out.seqN
            apply Wp.ret
            apply Out.seqR
            refine Out.e1 rfl ResIs.t ?_
            exact ⟨_, _, ⟨_, rfl, rfl⟩, (by (repeat (first | exact Sel.nil | exact Rem.here | apply Sel.cons | apply Rem.there)))⟩
            (try simp only [decide_eq_true_eq, decide_eq_false_iff_not, Bool.not_eq_true', Bool.not_eq_false', Bool.not_eq_true, Bool.not_eq_false, not_true_eq_false, not_false_eq_true, reduceCtorEq] at hr72)
            (exfalso; omega)
          · rw [if_neg (fun h => h2 h.1)]
            apply Wp.seq
            apply Wp.region
            refine WpL.v (V.cmp) ?_
            apply WpL.nil
            apply Out.seqN
            apply Wp.seq
            refine Wp.c (fun hr80 => ?_) (fun hr80 => ?_)
            (try simp only [decide_eq_true_eq, decide_eq_false_iff_not, Bool.not_eq_true', Bool.not_eq_false', Bool.not_eq_true, Bool.not_eq_false, not_true_eq_false, not_false_eq_true, reduceCtorEq] at hr80)
            (exfalso; omega)
            (try simp only [decide_eq_true_eq, decide_eq_false_iff_not, Bool.not_eq_true', Bool.not_eq_false', Bool.not_eq_true, Bool.not_eq_false, not_true_eq_false, not_false_eq_true, reduceCtorEq] at hr80)
            apply Wp.exit
            apply Out.seqE
            apply Out.seqE
            apply Out.blockE
            apply Out.seqN
            apply Wp.seq
            apply Wp.region
            refine WpL.v (V.mv) ?_
            refine WpL.v (V.nc) ?_
            refine WpL.v (V.fa tb) ?_
            refine WpL.v (V.ld1 tb) ?_
            refine WpL.o (Op1.fn rfl (hF) ?_)
            refine WpL.v (V.as) ?_
            apply WpL.nil
            apply Out.seqN
            apply Wp.seq
            refine Wp.dG [] ?_ (List.Sublist.cons _ (List.Sublist.cons _ (List.Sublist.cons_cons _ (List.Sublist.cons _ (List.Sublist.cons _ List.Sublist.slnil))))) (List.Sublist.cons _ (List.Sublist.cons _ (List.Sublist.cons_cons _ (List.Sublist.cons _ (List.Sublist.cons _ List.Sublist.slnil)))))
            refine WpA.tF 0 rfl (V.mv) ?_
            refine WpA.tF 1 rfl (V.nc) ?_
            refine WpA.tF 2 rfl (V.fa tb) ?_
            refine WpA.tF 3 rfl (V.fa tb) ?_
            refine WpA.tF 4 rfl (V.ld1 tb) ?_
            refine WpA.tF 5 rfl (V.cmp) ?_
            refine WpA.tF 6 rfl (V.mv) ?_
            refine WpA.pt 62 (fun hr81 => ?_) (fun hr81 => ?_)
            (try simp only [decide_eq_true_eq, decide_eq_false_iff_not, Bool.not_eq_true', Bool.not_eq_false', Bool.not_eq_true, Bool.not_eq_false, not_true_eq_false, not_false_eq_true, reduceCtorEq] at hr81)
            contradiction
            (try simp only [decide_eq_true_eq, decide_eq_false_iff_not, Bool.not_eq_true', Bool.not_eq_false', Bool.not_eq_true, Bool.not_eq_false, not_true_eq_false, not_false_eq_true, reduceCtorEq] at hr81)
            refine WpA.s 7 rfl ?_
            refine WpA.s 8 rfl ?_
            refine WpA.s 9 rfl ?_
            refine WpA.s 10 rfl ?_
            refine WpA.s 11 rfl ?_
            refine WpA.s 12 rfl ?_
            refine WpA.s 13 rfl ?_
            refine WpA.s 14 rfl ?_
            refine WpA.s 15 rfl ?_
            refine WpA.s 16 rfl ?_
            refine WpA.s 17 rfl ?_
            refine WpA.tF 18 rfl (V.pF) ?_
            refine WpA.tF 19 rfl (V.as) ?_
            refine WpA.ou ?_
            apply Out.seqN
            apply Wp.seq
            apply Wp.seq
            apply Wp.region
            refine WpL.v (V.mv) ?_
            refine WpL.v (V.mv) ?_
            refine WpL.sk ?_
            refine WpL.sk ?_
            refine WpL.sk ?_
            refine WpL.sk ?_
            refine WpL.v (V.pF) ?_
            apply WpL.nil
            apply Out.seqN
            refine Wp.cF ?_
            apply Wp.skip
            apply Out.seqN
            apply Wp.seq
            apply Wp.seq
            refine Wp.dG [] ?_ (List.Sublist.cons_cons _ (List.Sublist.cons _ (List.Sublist.cons_cons _ (List.Sublist.cons_cons _ (List.Sublist.cons_cons _ List.Sublist.slnil))))) (List.Sublist.cons_cons _ (List.Sublist.cons _ (List.Sublist.cons_cons _ (List.Sublist.cons_cons _ (List.Sublist.cons_cons _ List.Sublist.slnil)))))
            refine WpA.tF 0 rfl (V.mv) ?_
            refine WpA.tF 1 rfl (V.nc) ?_
            refine WpA.tF 2 rfl (V.fa tb) ?_
            refine WpA.tF 3 rfl (V.ld1 tb) ?_
            refine WpA.tF 4 rfl (V.lenL tb) ?_
            refine WpA.tF 5 rfl (V.mv) ?_
            refine WpA.tF 6 rfl (V.add) ?_
            refine WpA.tF 7 rfl (V.cmp) ?_
            refine WpA.tF 8 rfl (V.mv) ?_
            refine WpA.pt 93 (fun hr82 => ?_) (fun hr82 => ?_)
            (try simp only [decide_eq_true_eq, decide_eq_false_iff_not, Bool.not_eq_true', Bool.not_eq_false', Bool.not_eq_true, Bool.not_eq_false, not_true_eq_false, not_false_eq_true, reduceCtorEq] at hr82)
            (exfalso; omega)
            (try simp only [decide_eq_true_eq, decide_eq_false_iff_not, Bool.not_eq_true', Bool.not_eq_false', Bool.not_eq_true, Bool.not_eq_false, not_true_eq_false, not_false_eq_true, reduceCtorEq] at hr82)
            refine WpA.s 9 rfl ?_
            refine WpA.s 10 rfl ?_
            refine WpA.s 11 rfl ?_
            refine WpA.s 12 rfl ?_
            refine WpA.s 13 rfl ?_
            refine WpA.s 14 rfl ?_
            refine WpA.s 15 rfl ?_
            refine WpA.s 16 rfl ?_
            refine WpA.s 17 rfl ?_
            refine WpA.s 18 rfl ?_
            refine WpA.s 19 rfl ?_
            refine WpA.s 20 rfl ?_
            refine WpA.s 21 rfl ?_
            refine WpA.s 22 rfl ?_
            refine WpA.s 23 rfl ?_
            refine WpA.s 24 rfl ?_
            refine WpA.s 25 rfl ?_
            refine WpA.s 26 rfl ?_
            refine WpA.s 27 rfl ?_
            refine WpA.tF 28 rfl (V.pF) ?_
            refine WpA.ou ?_
            apply Out.seqN
            refine Wp.cF ?_
            apply Wp.skip
            apply Out.seqN
            apply Wp.seq
            apply Wp.region
            refine WpL.v (V.as) ?_
            apply WpL.nil
            apply Out.seqN
            apply Wp.ret
            refine Out.e1 rfl ResIs.t ?_
            exact ⟨_, _, ⟨_, rfl, rfl⟩, (by (repeat (first | exact Sel.nil | exact Rem.here | apply Sel.cons | apply Rem.there)))⟩
end Go.Proofs.Ythoepbbpmdmfeaa
