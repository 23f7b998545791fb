/-
  Layer 16: Choose, walked.
-/
import Derived.Test.YthoepbbpmdmfeaaHi
namespace Go.Proofs.Ythoepbbpmdmfeaa
open Go.HL
set_option linter.unusedSimpArgs false
set_option linter.unusedVariables false
set_option maxRecDepth 8000
theorem Ct.facts {P : Go.Program} {f : Go.FuncId} {args : List Go.Value} {σ : List Ent} {R R' : Go.Value → List Ent → Prop} (h : Ct P f args σ R) (hr : ∀ v σ' W D w, R v σ' → H W D σ' w → R' v σ') : Ct P f args σ R' :=
  Ct.of fun w h0 => (h.get w h0).mono fun e w' ⟨v, σ', he, hR, hH⟩ => ⟨v, σ', he, hr v σ' _ _ w' hR hH, hH⟩
theorem same_some {e : Ent} {ao : Option Go.Addr} {cap b off : Nat} {xs : List TMsg} {x : TItem} {m : TMsg} {t : List TMsg} (hx : xs.length ≤ 1000) (hR : Rd e ao xs.length b off 25 (xs.map TMsg.c)) (hs : sameL x xs = m :: t) :
    Ct Try.prog 78 [A x.c, .slice ao xs.length cap] [e] (fun r σ' => ∃ g cp, r = .slice (some ⟨g, 0, none⟩) (t.length + 1) cp ∧ σ' = [rows TMsg.c (.slice (some ⟨g, 0, none⟩) (t.length + 1) cp) 44 25 (m :: t), e]) := by
  refine Ct.facts (rescue_same e ao cap b off xs x hx hR) ?_
  rintro v σ' W D w ⟨v', rfl, rfl⟩ hH
  rw [hs] at hH ⊢
  rcases rowsForm (List.Mem.head _) w hH with ⟨_, h⟩ | ⟨g, cp, rfl, _⟩
  · cases h
  · exact ⟨g, cp, rfl, rfl⟩
def mrg (c d : TCall) : TCall := merges c [d]
def asks (c : TCall) (xs : List TMsg) : TCall := xs.foldl (fun c p => if p.Status = 1 then mrg c p.Call else c) c
theorem asks_snoc (c : TCall) (xs : List TMsg) (p : TMsg) : asks c (xs ++ [p]) = (if p.Status = 1 then mrg (asks c xs) p.Call else asks c xs) := by simp [asks]
/-- The accepted one that counts. -/
def accd (xs : List TMsg) : Option TMsg := match hi 2 xs with
  | some m => match hi 1 xs with
    | some a => if bLt m.Vote a.Vote then none else some m
    | none => some m
  | none => none
def choose (n : Int) (x : TItem) (xs : List TMsg) : Int × TCall :=
  if (xs.length : Int) < faults n + 1 then (0, TCall.z) else
  match hi 3 xs with
  | some m => (1, m.Call)
  | none => match accd xs with
    | some m => (2, m.Call)
    | none => match sameL x xs with
      | m :: t => if faults n ≤ ((t.length + 1 : Nat) : Int) then (2, m.Call) else match hi 1 xs with
        | none => (2, TCall.z)
        | some a => (3, asks a.Call xs)
      | [] => match hi 1 xs with
        | none => (2, TCall.z)
        | some a => (3, asks a.Call xs)
set_option maxHeartbeats 4000000 in
theorem rescue_choose (e : Ent) (ao : Option Go.Addr) (cap b off : Nat) (n : Int) (x : TItem) (xs : List TMsg) (hn : 3 ≤ n ∧ n ≤ 1000000) (hx : xs.length ≤ 1000) (hR : Rd e ao xs.length b off 25 (xs.map TMsg.c)) :
    Ct Try.prog 25 [I n, A x.c, .slice ao xs.length cap] [e] (fun r σ' => r = .tuple #[I (choose n x xs).1, A (choose n x xs).2.c] ∧ σ' = [e]) := by
  have hM := ballot_most n (by omega)
  have hF := ballot_faults n (by omega)
  have hfn : 1 ≤ faults n := by unfold faults; omega
  have hq0 : cmpI .geq ((([] : List TMsg).length : Nat) : Int) (faults n) = some false := by simp [cmpI]; omega
  have hH (st : Int) := rescue_highest e ao cap b off xs st hR
  have h3 := hH 3
  have h2 := hH 2
  have h1 := hH 1
  clear hH
  by_cases hlen : (xs.length : Int) < faults n + 1
  · rw [show choose n x xs = (0, TCall.z) by unfold choose; rw [if_pos hlen]]
    refine Ct.enter Try.func25 rfl rfl fun W => ?_
    apply Wp.seq
    apply Wp.region
    refine WpL.o (O.bxA (fun p4 => ?_))
    refine WpL.v (V.as) ?_
    refine WpL.o (O.al tb (fun p7 => ?_))
    apply WpL.nil
    apply Out.seqN
    apply Wp.seq
    apply Wp.seq
    apply Wp.region
    refine WpL.v (V.mv) ?_
    refine WpL.v (V.lenL tb) ?_
    refine WpL.v (V.mv) ?_
    refine WpL.o (Op1.fn rfl (hM) ?_)
    refine WpL.v (V.cmp) ?_
    apply WpL.nil
    apply Out.seqN
    refine Wp.c (fun ha0 => ?_) (fun ha0 => ?_)
    (try simp only [decide_eq_true_eq, decide_eq_false_iff_not, Bool.not_eq_true', Bool.not_eq_false', Bool.not_eq_true, Bool.not_eq_false, not_true_eq_false, not_false_eq_true, reduceCtorEq] at ha0)
    apply Wp.seq
    apply Wp.region
    refine WpL.v (V.bld tb) ?_
    refine WpL.v (V.as) ?_
    refine WpL.o (O.stA tb ?_)
    apply WpL.nil
    apply Out.seqN
    apply Wp.ret
    apply Out.seqR
    refine Out.f2 rfl ResIs.t (ResIs.ca tb) ⟨?_, rfl⟩
    exact rfl
    (try simp only [decide_eq_true_eq, decide_eq_false_iff_not, Bool.not_eq_true', Bool.not_eq_false', Bool.not_eq_true, Bool.not_eq_false, not_true_eq_false, not_false_eq_true, reduceCtorEq] at ha0)
    (exfalso; omega)
  · cases hc3 : hi 3 xs with
    | some m =>
      rw [show choose n x xs = (1, m.Call) by unfold choose; rw [if_neg hlen, hc3]]
      rw [hc3] at h3
      refine Ct.enter Try.func25 rfl rfl fun W => ?_
      apply Wp.seq
      apply Wp.region
      refine WpL.o (O.bxA (fun p4 => ?_))
      refine WpL.v (V.as) ?_
      refine WpL.o (O.al tb (fun p7 => ?_))
      apply WpL.nil
      apply Out.seqN
      apply Wp.seq
      apply Wp.seq
      apply Wp.region
      refine WpL.v (V.mv) ?_
      refine WpL.v (V.lenL tb) ?_
      refine WpL.v (V.mv) ?_
      refine WpL.o (Op1.fn rfl (hM) ?_)
      refine WpL.v (V.cmp) ?_
      apply WpL.nil
      apply Out.seqN
      refine Wp.c (fun hb0 => ?_) (fun hb0 => ?_)
      (try simp only [decide_eq_true_eq, decide_eq_false_iff_not, Bool.not_eq_true', Bool.not_eq_false', Bool.not_eq_true, Bool.not_eq_false, not_true_eq_false, not_false_eq_true, reduceCtorEq] at hb0)
      (exfalso; omega)
      (try simp only [decide_eq_true_eq, decide_eq_false_iff_not, Bool.not_eq_true', Bool.not_eq_false', Bool.not_eq_true, Bool.not_eq_false, not_true_eq_false, not_false_eq_true, reduceCtorEq] at hb0)
      apply Wp.skip
      apply Out.seqN
      apply Wp.seq
      apply Wp.seq
      apply Wp.region
      refine WpL.v (V.mv) ?_
      refine WpL.o (Op1.callT rfl (h3) (by (repeat (first | exact Sel.nil | exact Rem.here | apply Sel.cons | apply Rem.there))) ?_)
      rintro v1 s2 ⟨rfl, rfl⟩
      refine incat ?_
      refine WpL.v (V.mv) ?_
      refine WpL.v (V.ex) ?_
      refine WpL.v (V.ex) ?_
      refine WpL.o (O.al tb (fun p8 => ?_))
      refine WpL.o (O.stA tb ?_)
      refine WpL.v (V.as) ?_
      apply WpL.nil
      apply Out.seqN
      apply Wp.seq
      apply Wp.region
      refine WpL.v (V.mv) ?_
      apply WpL.nil
      apply Out.seqN
      refine Wp.c (fun hb3 => ?_) (fun hb3 => ?_)
      (try simp only [decide_eq_true_eq, decide_eq_false_iff_not, Bool.not_eq_true', Bool.not_eq_false', Bool.not_eq_true, Bool.not_eq_false, not_true_eq_false, not_false_eq_true, reduceCtorEq] at hb3)
      apply Wp.seq
      refine Wp.dG [] ?_ (List.Sublist.cons_cons _ (List.Sublist.cons _ (List.Sublist.cons _ (List.Sublist.cons _ List.Sublist.slnil)))) (List.Sublist.cons_cons _ (List.Sublist.cons _ (List.Sublist.cons _ (List.Sublist.cons _ List.Sublist.slnil))))
      refine WpA.tF 0 rfl (V.fa tb) ?_
      refine WpA.tF 1 rfl (V.ldA tb) ?_
      refine WpA.tF 2 rfl (V.as) ?_
      refine WpA.oS 3 rfl (O.stA tb ⟨?_, ?_, ?_⟩)
      exact holdT
      exact holdT
      refine WpA.ou ?_
      apply Out.seqN
      apply Wp.ret
      apply Out.seqR
      refine Out.f2 rfl ResIs.t (ResIs.ca tb) ⟨?_, rfl⟩
      exact rfl
      (try simp only [decide_eq_true_eq, decide_eq_false_iff_not, Bool.not_eq_true', Bool.not_eq_false', Bool.not_eq_true, Bool.not_eq_false, not_true_eq_false, not_false_eq_true, reduceCtorEq] at hb3)
      contradiction
    | none =>
      rw [hc3] at h3
      cases hc1 : hi 1 xs with
      | none =>
        rw [hc1] at h1
        cases hc2 : hi 2 xs with
        | none =>
          rw [hc2] at h2
          have hac : accd xs = none := by simp [accd, hc2]
          cases hsm : sameL x xs with
          | cons m0 t =>
            have hS := same_some (x := x) (cap := cap) hx hR hsm
            by_cases hft : faults n ≤ ((t.length + 1 : Nat) : Int)
            · rw [show choose n x xs = (2, m0.Call) by unfold choose; rw [if_neg hlen, hc3]; simp only [hac, hsm, hft, if_true]]
              refine Ct.enter Try.func25 rfl rfl fun W => ?_
              apply Wp.seq
              apply Wp.region
              refine WpL.o (O.bxA (fun p4 => ?_))
              refine WpL.v (V.as) ?_
              refine WpL.o (O.al tb (fun p7 => ?_))
              apply WpL.nil
              apply Out.seqN
              apply Wp.seq
              apply Wp.seq
              apply Wp.region
              refine WpL.v (V.mv) ?_
              refine WpL.v (V.lenL tb) ?_
              refine WpL.v (V.mv) ?_
              refine WpL.o (Op1.fn rfl (hM) ?_)
              refine WpL.v (V.cmp) ?_
              apply WpL.nil
              apply Out.seqN
              refine Wp.c (fun h0 => ?_) (fun h0 => ?_)
              (try simp only [decide_eq_true_eq, decide_eq_false_iff_not, Bool.not_eq_true', Bool.not_eq_false', Bool.not_eq_true, Bool.not_eq_false, not_true_eq_false, not_false_eq_true, reduceCtorEq] at h0)
              (exfalso; omega)
              (try simp only [decide_eq_true_eq, decide_eq_false_iff_not, Bool.not_eq_true', Bool.not_eq_false', Bool.not_eq_true, Bool.not_eq_false, not_true_eq_false, not_false_eq_true, reduceCtorEq] at h0)
              apply Wp.skip
              apply Out.seqN
              apply Wp.seq
              apply Wp.seq
              apply Wp.region
              refine WpL.v (V.mv) ?_
              refine WpL.o (Op1.callT rfl (h3) (by (repeat (first | exact Sel.nil | exact Rem.here | apply Sel.cons | apply Rem.there))) ?_)
              rintro v1 s2 ⟨rfl, rfl⟩
              refine incat ?_
              refine WpL.v (V.mv) ?_
              refine WpL.v (V.ex) ?_
              refine WpL.v (V.ex) ?_
              refine WpL.o (O.al tb (fun p8 => ?_))
              refine WpL.o (O.stA tb ?_)
              refine WpL.v (V.as) ?_
              apply WpL.nil
              apply Out.seqN
              apply Wp.seq
              apply Wp.region
              refine WpL.v (V.mv) ?_
              apply WpL.nil
              apply Out.seqN
              refine Wp.cF ?_
              apply Wp.skip
              apply Out.seqN
              apply Wp.seq
              apply Wp.region
              refine WpL.v (V.mv) ?_
              refine WpL.o (Op1.callT rfl (h1) (by (repeat (first | exact Sel.nil | exact Rem.here | apply Sel.cons | apply Rem.there))) ?_)
              rintro v3 s4 ⟨rfl, rfl⟩
              refine incat ?_
              refine WpL.v (V.mv) ?_
              refine WpL.v (V.ex) ?_
              refine WpL.v (V.ex) ?_
              refine WpL.o (O.al tb (fun p10 => ?_))
              refine WpL.o (O.stA tb ?_)
              refine WpL.v (V.as) ?_
              apply WpL.nil
              apply Out.seqN
              apply Wp.seq
              apply Wp.seq
              apply Wp.region
              refine WpL.v (V.mv) ?_
              refine WpL.o (Op1.callT rfl (h2) (by (repeat (first | exact Sel.nil | exact Rem.here | apply Sel.cons | apply Rem.there))) ?_)
              rintro v5 s6 ⟨rfl, rfl⟩
              refine incat ?_
              refine WpL.v (V.mv) ?_
              refine WpL.v (V.ex) ?_
              refine WpL.v (V.ex) ?_
              refine WpL.o (O.al tb (fun p12 => ?_))
              refine WpL.o (O.stA tb ?_)
              refine WpL.v (V.as) ?_
              apply WpL.nil
              apply Out.seqN
              apply Wp.seq
              apply Wp.region
              refine WpL.v (V.mv) ?_
              refine WpL.v (V.mv) ?_
              refine WpL.sk ?_
              refine WpL.sk ?_
              refine WpL.sk ?_
              refine WpL.sk ?_
              refine WpL.sk ?_
              refine WpL.sk ?_
              refine WpL.sk ?_
              refine WpL.sk ?_
              refine WpL.sk ?_
              refine WpL.sk ?_
              refine WpL.v (V.pF) ?_
              apply WpL.nil
              apply Out.seqN
              refine Wp.cF ?_
              apply Wp.skip
              apply Out.seqN
              apply Wp.seq
              apply Wp.seq
              apply Wp.region
              refine WpL.v (V.ldA tb) ?_
              refine WpL.v (V.mv) ?_
              refine WpL.o (Op1.callT rfl (hS) (by (repeat (first | exact Sel.nil | exact Rem.here | apply Sel.cons | apply Rem.there))) ?_)
              rintro v7 s8 ⟨g59, ⟨cp59, ⟨rfl, rfl⟩⟩⟩
              refine incat ?_
              refine WpL.v (V.as) ?_
              apply WpL.nil
              apply Out.seqN
              apply Wp.seq
              apply Wp.region
              refine WpL.v (V.mv) ?_
              refine WpL.v (V.lenL tb) ?_
              refine WpL.v (V.mv) ?_
              refine WpL.o (Op1.fn rfl (hF) ?_)
              refine WpL.v (V.cmp) ?_
              refine WpL.v (V.mv) ?_
              refine WpL.pt (fun h9 => ?_) (fun h9 => ?_)
              (try simp only [decide_eq_true_eq, decide_eq_false_iff_not, Bool.not_eq_true', Bool.not_eq_false', Bool.not_eq_true, Bool.not_eq_false, not_true_eq_false, not_false_eq_true, reduceCtorEq] at h9)
              refine WpL.v (V.mv) ?_
              refine WpL.v (V.lenL tb) ?_
              refine WpL.v (V.cmp) ?_
              refine WpL.v (V.pT) ?_
              apply WpL.nil
              apply Out.seqN
              refine Wp.c (fun h10 => ?_) (fun h10 => ?_)
              (try simp only [decide_eq_true_eq, decide_eq_false_iff_not, Bool.not_eq_true', Bool.not_eq_false', Bool.not_eq_true, Bool.not_eq_false, not_true_eq_false, not_false_eq_true, reduceCtorEq] at h10)
              apply Wp.seq
              refine Wp.dG [] ?_ (List.Sublist.cons_cons _ (List.Sublist.cons_cons _ (List.Sublist.cons _ (List.Sublist.cons _ (List.Sublist.cons _ (List.Sublist.cons _ (List.Sublist.cons _ List.Sublist.slnil))))))) (List.Sublist.cons_cons _ (List.Sublist.cons_cons _ (List.Sublist.cons _ (List.Sublist.cons _ (List.Sublist.cons _ (List.Sublist.cons _ (List.Sublist.cons _ List.Sublist.slnil)))))))
              refine WpA.tF 0 rfl (V.mv) ?_
              refine WpA.tF 1 rfl (V.ixk tb (k := 0) rfl rfl) ?_
              refine WpA.tF 2 rfl (V.fa tb) ?_
              refine WpA.tF 3 rfl (V.rowFA tb (k := 0) (o := 11) rfl (by (repeat first | exact List.Mem.head _ | apply List.Mem.tail)) TMsg.len rfl) ?_
              refine WpA.tF 4 rfl (V.as) ?_
              refine WpA.oS 5 rfl (O.stA tb ⟨?_, ?_, ?_⟩)
              exact holdT
              exact holdT
              refine WpA.ou ?_
              apply Out.seqN
              apply Wp.ret
              apply Out.seqR
              refine Out.f2 rfl ResIs.t (ResIs.ca tb) ⟨?_, rfl⟩
              exact rfl
              (try simp only [decide_eq_true_eq, decide_eq_false_iff_not, Bool.not_eq_true', Bool.not_eq_false', Bool.not_eq_true, Bool.not_eq_false, not_true_eq_false, not_false_eq_true, reduceCtorEq] at h10)
              (exfalso; omega)
              (try simp only [decide_eq_true_eq, decide_eq_false_iff_not, Bool.not_eq_true', Bool.not_eq_false', Bool.not_eq_true, Bool.not_eq_false, not_true_eq_false, not_false_eq_true, reduceCtorEq] at h9)
              (exfalso; omega)
            · rw [show choose n x xs = (2, TCall.z) by unfold choose; rw [if_neg hlen, hc3]; simp only [hac, hsm, hft, if_false, hc1]]
              refine Ct.enter Try.func25 rfl rfl fun W => ?_
              apply Wp.seq
              apply Wp.region
              refine WpL.o (O.bxA (fun p4 => ?_))
              refine WpL.v (V.as) ?_
              refine WpL.o (O.al tb (fun p7 => ?_))
              apply WpL.nil
              apply Out.seqN
              apply Wp.seq
              apply Wp.seq
              apply Wp.region
              refine WpL.v (V.mv) ?_
              refine WpL.v (V.lenL tb) ?_
              refine WpL.v (V.mv) ?_
              refine WpL.o (Op1.fn rfl (hM) ?_)
              refine WpL.v (V.cmp) ?_
              apply WpL.nil
              apply Out.seqN
              refine Wp.c (fun h0 => ?_) (fun h0 => ?_)
              (try simp only [decide_eq_true_eq, decide_eq_false_iff_not, Bool.not_eq_true', Bool.not_eq_false', Bool.not_eq_true, Bool.not_eq_false, not_true_eq_false, not_false_eq_true, reduceCtorEq] at h0)
              (exfalso; omega)
              (try simp only [decide_eq_true_eq, decide_eq_false_iff_not, Bool.not_eq_true', Bool.not_eq_false', Bool.not_eq_true, Bool.not_eq_false, not_true_eq_false, not_false_eq_true, reduceCtorEq] at h0)
              apply Wp.skip
              apply Out.seqN
              apply Wp.seq
              apply Wp.seq
              apply Wp.region
              refine WpL.v (V.mv) ?_
              refine WpL.o (Op1.callT rfl (h3) (by (repeat (first | exact Sel.nil | exact Rem.here | apply Sel.cons | apply Rem.there))) ?_)
              rintro v1 s2 ⟨rfl, rfl⟩
              refine incat ?_
              refine WpL.v (V.mv) ?_
              refine WpL.v (V.ex) ?_
              refine WpL.v (V.ex) ?_
              refine WpL.o (O.al tb (fun p8 => ?_))
              refine WpL.o (O.stA tb ?_)
              refine WpL.v (V.as) ?_
              apply WpL.nil
              apply Out.seqN
              apply Wp.seq
              apply Wp.region
              refine WpL.v (V.mv) ?_
              apply WpL.nil
              apply Out.seqN
              refine Wp.cF ?_
              apply Wp.skip
              apply Out.seqN
              apply Wp.seq
              apply Wp.region
              refine WpL.v (V.mv) ?_
              refine WpL.o (Op1.callT rfl (h1) (by (repeat (first | exact Sel.nil | exact Rem.here | apply Sel.cons | apply Rem.there))) ?_)
              rintro v3 s4 ⟨rfl, rfl⟩
              refine incat ?_
              refine WpL.v (V.mv) ?_
              refine WpL.v (V.ex) ?_
              refine WpL.v (V.ex) ?_
              refine WpL.o (O.al tb (fun p10 => ?_))
              refine WpL.o (O.stA tb ?_)
              refine WpL.v (V.as) ?_
              apply WpL.nil
              apply Out.seqN
              apply Wp.seq
              apply Wp.seq
              apply Wp.region
              refine WpL.v (V.mv) ?_
              refine WpL.o (Op1.callT rfl (h2) (by (repeat (first | exact Sel.nil | exact Rem.here | apply Sel.cons | apply Rem.there))) ?_)
              rintro v5 s6 ⟨rfl, rfl⟩
              refine incat ?_
              refine WpL.v (V.mv) ?_
              refine WpL.v (V.ex) ?_
              refine WpL.v (V.ex) ?_
              refine WpL.o (O.al tb (fun p12 => ?_))
              refine WpL.o (O.stA tb ?_)
              refine WpL.v (V.as) ?_
              apply WpL.nil
              apply Out.seqN
              apply Wp.seq
              apply Wp.region
              refine WpL.v (V.mv) ?_
              refine WpL.v (V.mv) ?_
              refine WpL.sk ?_
              refine WpL.sk ?_
              refine WpL.sk ?_
              refine WpL.sk ?_
              refine WpL.sk ?_
              refine WpL.sk ?_
              refine WpL.sk ?_
              refine WpL.sk ?_
              refine WpL.sk ?_
              refine WpL.sk ?_
              refine WpL.v (V.pF) ?_
              apply WpL.nil
              apply Out.seqN
              refine Wp.cF ?_
              apply Wp.skip
              apply Out.seqN
              apply Wp.seq
              apply Wp.seq
              apply Wp.region
              refine WpL.v (V.ldA tb) ?_
              refine WpL.v (V.mv) ?_
              refine WpL.o (Op1.callT rfl (hS) (by (repeat (first | exact Sel.nil | exact Rem.here | apply Sel.cons | apply Rem.there))) ?_)
              rintro v7 s8 ⟨g59, ⟨cp59, ⟨rfl, rfl⟩⟩⟩
              refine incat ?_
              refine WpL.v (V.as) ?_
              apply WpL.nil
              apply Out.seqN
              apply Wp.seq
              apply Wp.region
              refine WpL.v (V.mv) ?_
              refine WpL.v (V.lenL tb) ?_
              refine WpL.v (V.mv) ?_
              refine WpL.o (Op1.fn rfl (hF) ?_)
              refine WpL.v (V.cmp) ?_
              refine WpL.v (V.mv) ?_
              refine WpL.pt (fun h9 => ?_) (fun h9 => ?_)
              (try simp only [decide_eq_true_eq, decide_eq_false_iff_not, Bool.not_eq_true', Bool.not_eq_false', Bool.not_eq_true, Bool.not_eq_false, not_true_eq_false, not_false_eq_true, reduceCtorEq] at h9)
              (exfalso; omega)
              (try simp only [decide_eq_true_eq, decide_eq_false_iff_not, Bool.not_eq_true', Bool.not_eq_false', Bool.not_eq_true, Bool.not_eq_false, not_true_eq_false, not_false_eq_true, reduceCtorEq] at h9)
              refine WpL.sk ?_
              refine WpL.sk ?_
              refine WpL.sk ?_
              refine WpL.v (V.pF) ?_
              apply WpL.nil
              apply Out.seqN
              refine Wp.cF ?_
              apply Wp.skip
              apply Out.seqN
              apply Wp.seq
              apply Wp.seq
              apply Wp.region
              refine WpL.v (V.mv) ?_
              refine WpL.v (V.not) ?_
              apply WpL.nil
              apply Out.seqN
              refine Wp.cT ?_
              apply Wp.seq
              apply Wp.region
              refine WpL.v (V.bld tb) ?_
              refine WpL.v (V.as) ?_
              refine WpL.o (O.stA tb ?_)
              apply WpL.nil
              apply Out.seqN
              apply Wp.ret
              apply Out.seqR
              refine Out.f2 rfl ResIs.t (ResIs.ca tb) ⟨?_, rfl⟩
              exact rfl
          | nil =>
            have hS := rescue_same e ao cap b off xs x hx hR
            rw [hsm] at hS
            rw [show choose n x xs = (2, TCall.z) by unfold choose; rw [if_neg hlen, hc3]; simp only [hac, hsm, hc1]]
            refine Ct.enter Try.func25 rfl rfl fun W => ?_
            apply Wp.seq
            apply Wp.region
            refine WpL.o (O.bxA (fun p4 => ?_))
            refine WpL.v (V.as) ?_
            refine WpL.o (O.al tb (fun p7 => ?_))
            apply WpL.nil
            apply Out.seqN
            apply Wp.seq
            apply Wp.seq
            apply Wp.region
            refine WpL.v (V.mv) ?_
            refine WpL.v (V.lenL tb) ?_
            refine WpL.v (V.mv) ?_
            refine WpL.o (Op1.fn rfl (hM) ?_)
            refine WpL.v (V.cmp) ?_
            apply WpL.nil
            apply Out.seqN
            refine Wp.c (fun h0 => ?_) (fun h0 => ?_)
            (try simp only [decide_eq_true_eq, decide_eq_false_iff_not, Bool.not_eq_true', Bool.not_eq_false', Bool.not_eq_true, Bool.not_eq_false, not_true_eq_false, not_false_eq_true, reduceCtorEq] at h0)
            (exfalso; omega)
            (try simp only [decide_eq_true_eq, decide_eq_false_iff_not, Bool.not_eq_true', Bool.not_eq_false', Bool.not_eq_true, Bool.not_eq_false, not_true_eq_false, not_false_eq_true, reduceCtorEq] at h0)
            apply Wp.skip
            apply Out.seqN
            apply Wp.seq
            apply Wp.seq
            apply Wp.region
            refine WpL.v (V.mv) ?_
            refine WpL.o (Op1.callT rfl (h3) (by (repeat (first | exact Sel.nil | exact Rem.here | apply Sel.cons | apply Rem.there))) ?_)
            rintro v1 s2 ⟨rfl, rfl⟩
            refine incat ?_
            refine WpL.v (V.mv) ?_
            refine WpL.v (V.ex) ?_
            refine WpL.v (V.ex) ?_
            refine WpL.o (O.al tb (fun p8 => ?_))
            refine WpL.o (O.stA tb ?_)
            refine WpL.v (V.as) ?_
            apply WpL.nil
            apply Out.seqN
            apply Wp.seq
            apply Wp.region
            refine WpL.v (V.mv) ?_
            apply WpL.nil
            apply Out.seqN
            refine Wp.cF ?_
            apply Wp.skip
            apply Out.seqN
            apply Wp.seq
            apply Wp.region
            refine WpL.v (V.mv) ?_
            refine WpL.o (Op1.callT rfl (h1) (by (repeat (first | exact Sel.nil | exact Rem.here | apply Sel.cons | apply Rem.there))) ?_)
            rintro v3 s4 ⟨rfl, rfl⟩
            refine incat ?_
            refine WpL.v (V.mv) ?_
            refine WpL.v (V.ex) ?_
            refine WpL.v (V.ex) ?_
            refine WpL.o (O.al tb (fun p10 => ?_))
            refine WpL.o (O.stA tb ?_)
            refine WpL.v (V.as) ?_
            apply WpL.nil
            apply Out.seqN
            apply Wp.seq
            apply Wp.seq
            apply Wp.region
            refine WpL.v (V.mv) ?_
            refine WpL.o (Op1.callT rfl (h2) (by (repeat (first | exact Sel.nil | exact Rem.here | apply Sel.cons | apply Rem.there))) ?_)
            rintro v5 s6 ⟨rfl, rfl⟩
            refine incat ?_
            refine WpL.v (V.mv) ?_
            refine WpL.v (V.ex) ?_
            refine WpL.v (V.ex) ?_
            refine WpL.o (O.al tb (fun p12 => ?_))
            refine WpL.o (O.stA tb ?_)
            refine WpL.v (V.as) ?_
            apply WpL.nil
            apply Out.seqN
            apply Wp.seq
            apply Wp.region
            refine WpL.v (V.mv) ?_
            refine WpL.v (V.mv) ?_
            refine WpL.sk ?_
            refine WpL.sk ?_
            refine WpL.sk ?_
            refine WpL.sk ?_
            refine WpL.sk ?_
            refine WpL.sk ?_
            refine WpL.sk ?_
            refine WpL.sk ?_
            refine WpL.sk ?_
            refine WpL.sk ?_
            refine WpL.v (V.pF) ?_
            apply WpL.nil
            apply Out.seqN
            refine Wp.cF ?_
            apply Wp.skip
            apply Out.seqN
            apply Wp.seq
            apply Wp.seq
            apply Wp.region
            refine WpL.v (V.ldA tb) ?_
            refine WpL.v (V.mv) ?_
            refine WpL.o (Op1.callT rfl (hS) (by (repeat (first | exact Sel.nil | exact Rem.here | apply Sel.cons | apply Rem.there))) ?_)
            rintro v7 s8 ⟨v59, ⟨rfl, rfl⟩⟩
            refine incat ?_
            refine WpL.v (V.as) ?_
            apply WpL.nil
            apply Out.seqN
            apply Wp.seq
            apply Wp.region
            refine WpL.v (V.mv) ?_
            refine WpL.v (V.lenRows tb) ?_
            refine WpL.v (V.mv) ?_
            refine WpL.o (Op1.fn rfl (hF) ?_)
            refine WpL.v (V.cmp) ?_
            refine WpL.v (V.mv) ?_
            refine WpL.pt (fun h9 => ?_) (fun h9 => ?_)
            (try simp only [decide_eq_true_eq, decide_eq_false_iff_not, Bool.not_eq_true', Bool.not_eq_false', Bool.not_eq_true, Bool.not_eq_false, not_true_eq_false, not_false_eq_true, reduceCtorEq] at h9)
            refine WpL.v (V.mv) ?_
            refine WpL.v (V.lenRows tb) ?_
            refine WpL.v (V.cmp) ?_
            refine WpL.v (V.pT) ?_
            apply WpL.nil
            apply Out.seqN
            refine Wp.cF ?_
            apply Wp.skip
            apply Out.seqN
            apply Wp.seq
            apply Wp.seq
            apply Wp.region
            refine WpL.v (V.mv) ?_
            refine WpL.v (V.not) ?_
            apply WpL.nil
            apply Out.seqN
            refine Wp.cT ?_
            apply Wp.seq
            apply Wp.region
            refine WpL.v (V.bld tb) ?_
            refine WpL.v (V.as) ?_
            refine WpL.o (O.stA tb ?_)
            apply WpL.nil
            apply Out.seqN
            apply Wp.ret
            apply Out.seqR
            refine Out.f2 rfl ResIs.t (ResIs.ca tb) ⟨?_, rfl⟩
            exact rfl
            (try simp only [decide_eq_true_eq, decide_eq_false_iff_not, Bool.not_eq_true', Bool.not_eq_false', Bool.not_eq_true, Bool.not_eq_false, not_true_eq_false, not_false_eq_true, reduceCtorEq] at h9)
            refine WpL.sk ?_
            refine WpL.sk ?_
            refine WpL.sk ?_
            refine WpL.v (V.pF) ?_
            apply WpL.nil
            apply Out.seqN
            refine Wp.cF ?_
            apply Wp.skip
            apply Out.seqN
            apply Wp.seq
            apply Wp.seq
            apply Wp.region
            refine WpL.v (V.mv) ?_
            refine WpL.v (V.not) ?_
            apply WpL.nil
            apply Out.seqN
            refine Wp.cT ?_
            apply Wp.seq
            apply Wp.region
            refine WpL.v (V.bld tb) ?_
            refine WpL.v (V.as) ?_
            refine WpL.o (O.stA tb ?_)
            apply WpL.nil
            apply Out.seqN
            apply Wp.ret
            apply Out.seqR
            refine Out.f2 rfl ResIs.t (ResIs.ca tb) ⟨?_, rfl⟩
            exact rfl
        | some m =>
          rw [hc2] at h2
          have hac : accd xs = some m := by simp [accd, hc2, hc1]
          rw [show choose n x xs = (2, m.Call) by unfold choose; rw [if_neg hlen, hc3]; simp only [hac]]
          refine Ct.enter Try.func25 rfl rfl fun W => ?_
          apply Wp.seq
          apply Wp.region
          refine WpL.o (O.bxA (fun p4 => ?_))
          refine WpL.v (V.as) ?_
          refine WpL.o (O.al tb (fun p7 => ?_))
          apply WpL.nil
          apply Out.seqN
          apply Wp.seq
          apply Wp.seq
          apply Wp.region
          refine WpL.v (V.mv) ?_
          refine WpL.v (V.lenL tb) ?_
          refine WpL.v (V.mv) ?_
          refine WpL.o (Op1.fn rfl (hM) ?_)
          refine WpL.v (V.cmp) ?_
          apply WpL.nil
          apply Out.seqN
          refine Wp.c (fun hca0 => ?_) (fun hca0 => ?_)
          (try simp only [decide_eq_true_eq, decide_eq_false_iff_not, Bool.not_eq_true', Bool.not_eq_false', Bool.not_eq_true, Bool.not_eq_false, not_true_eq_false, not_false_eq_true, reduceCtorEq] at hca0)
          (exfalso; omega)
          (try simp only [decide_eq_true_eq, decide_eq_false_iff_not, Bool.not_eq_true', Bool.not_eq_false', Bool.not_eq_true, Bool.not_eq_false, not_true_eq_false, not_false_eq_true, reduceCtorEq] at hca0)
          apply Wp.skip
          apply Out.seqN
          apply Wp.seq
          apply Wp.seq
          apply Wp.region
          refine WpL.v (V.mv) ?_
          refine WpL.o (Op1.callT rfl (h3) (by (repeat (first | exact Sel.nil | exact Rem.here | apply Sel.cons | apply Rem.there))) ?_)
          rintro v1 s2 ⟨rfl, rfl⟩
          refine incat ?_
          refine WpL.v (V.mv) ?_
          refine WpL.v (V.ex) ?_
          refine WpL.v (V.ex) ?_
          refine WpL.o (O.al tb (fun p8 => ?_))
          refine WpL.o (O.stA tb ?_)
          refine WpL.v (V.as) ?_
          apply WpL.nil
          apply Out.seqN
          apply Wp.seq
          apply Wp.region
          refine WpL.v (V.mv) ?_
          apply WpL.nil
          apply Out.seqN
          refine Wp.cF ?_
          apply Wp.skip
          apply Out.seqN
          apply Wp.seq
          apply Wp.region
          refine WpL.v (V.mv) ?_
          refine WpL.o (Op1.callT rfl (h1) (by (repeat (first | exact Sel.nil | exact Rem.here | apply Sel.cons | apply Rem.there))) ?_)
          rintro v3 s4 ⟨rfl, rfl⟩
          refine incat ?_
          refine WpL.v (V.mv) ?_
          refine WpL.v (V.ex) ?_
          refine WpL.v (V.ex) ?_
          refine WpL.o (O.al tb (fun p10 => ?_))
          refine WpL.o (O.stA tb ?_)
          refine WpL.v (V.as) ?_
          apply WpL.nil
          apply Out.seqN
          apply Wp.seq
          apply Wp.seq
          apply Wp.region
          refine WpL.v (V.mv) ?_
          refine WpL.o (Op1.callT rfl (h2) (by (repeat (first | exact Sel.nil | exact Rem.here | apply Sel.cons | apply Rem.there))) ?_)
          rintro v5 s6 ⟨rfl, rfl⟩
          refine incat ?_
          refine WpL.v (V.mv) ?_
          refine WpL.v (V.ex) ?_
          refine WpL.v (V.ex) ?_
          refine WpL.o (O.al tb (fun p12 => ?_))
          refine WpL.o (O.stA tb ?_)
          refine WpL.v (V.as) ?_
          apply WpL.nil
          apply Out.seqN
          apply Wp.seq
          apply Wp.region
          refine WpL.v (V.mv) ?_
          refine WpL.v (V.mv) ?_
          refine WpL.pt (fun hca7 => ?_) (fun hca7 => ?_)
          (try simp only [decide_eq_true_eq, decide_eq_false_iff_not, Bool.not_eq_true', Bool.not_eq_false', Bool.not_eq_true, Bool.not_eq_false, not_true_eq_false, not_false_eq_true, reduceCtorEq] at hca7)
          refine WpL.v (V.mv) ?_
          refine WpL.v (V.not) ?_
          refine WpL.v (V.mv) ?_
          refine WpL.sk ?_
          refine WpL.sk ?_
          refine WpL.sk ?_
          refine WpL.sk ?_
          refine WpL.sk ?_
          refine WpL.sk ?_
          refine WpL.v (V.pT) ?_
          refine WpL.v (V.pT) ?_
          apply WpL.nil
          apply Out.seqN
          refine Wp.cT ?_
          apply Wp.seq
          refine Wp.dG [] ?_ (List.Sublist.cons_cons _ (List.Sublist.cons _ (List.Sublist.cons _ (List.Sublist.cons _ (List.Sublist.cons _ (List.Sublist.cons _ List.Sublist.slnil)))))) (List.Sublist.cons_cons _ (List.Sublist.cons _ (List.Sublist.cons _ (List.Sublist.cons _ (List.Sublist.cons _ (List.Sublist.cons _ List.Sublist.slnil))))))
          refine WpA.tF 0 rfl (V.fa tb) ?_
          refine WpA.tF 1 rfl (V.ldA tb) ?_
          refine WpA.tF 2 rfl (V.as) ?_
          refine WpA.oS 3 rfl (O.stA tb ⟨?_, ?_, ?_⟩)
          exact holdT
          exact holdT
          refine WpA.ou ?_
          apply Out.seqN
          apply Wp.ret
          apply Out.seqR
          refine Out.f2 rfl ResIs.t (ResIs.ca tb) ⟨?_, rfl⟩
          exact rfl
          (try simp only [decide_eq_true_eq, decide_eq_false_iff_not, Bool.not_eq_true', Bool.not_eq_false', Bool.not_eq_true, Bool.not_eq_false, not_true_eq_false, not_false_eq_true, reduceCtorEq] at hca7)
          contradiction
      | some a =>
        rw [hc1] at h1
        cases hc2 : hi 2 xs with
        | none =>
          rw [hc2] at h2
          have hac : accd xs = none := by simp [accd, hc2]
          cases hsm : sameL x xs with
          | cons m0 t =>
            have hS := same_some (x := x) (cap := cap) hx hR hsm
            by_cases hft : faults n ≤ ((t.length + 1 : Nat) : Int)
            · rw [show choose n x xs = (2, m0.Call) by unfold choose; rw [if_neg hlen, hc3]; simp only [hac, hsm, hft, if_true]]
              refine Ct.enter Try.func25 rfl rfl fun W => ?_
              apply Wp.seq
              apply Wp.region
              refine WpL.o (O.bxA (fun p4 => ?_))
              refine WpL.v (V.as) ?_
              refine WpL.o (O.al tb (fun p7 => ?_))
              apply WpL.nil
              apply Out.seqN
              apply Wp.seq
              apply Wp.seq
              apply Wp.region
              refine WpL.v (V.mv) ?_
              refine WpL.v (V.lenL tb) ?_
              refine WpL.v (V.mv) ?_
              refine WpL.o (Op1.fn rfl (hM) ?_)
              refine WpL.v (V.cmp) ?_
              apply WpL.nil
              apply Out.seqN
              refine Wp.c (fun h0 => ?_) (fun h0 => ?_)
              (try simp only [decide_eq_true_eq, decide_eq_false_iff_not, Bool.not_eq_true', Bool.not_eq_false', Bool.not_eq_true, Bool.not_eq_false, not_true_eq_false, not_false_eq_true, reduceCtorEq] at h0)
              (exfalso; omega)
              (try simp only [decide_eq_true_eq, decide_eq_false_iff_not, Bool.not_eq_true', Bool.not_eq_false', Bool.not_eq_true, Bool.not_eq_false, not_true_eq_false, not_false_eq_true, reduceCtorEq] at h0)
              apply Wp.skip
              apply Out.seqN
              apply Wp.seq
              apply Wp.seq
              apply Wp.region
              refine WpL.v (V.mv) ?_
              refine WpL.o (Op1.callT rfl (h3) (by (repeat (first | exact Sel.nil | exact Rem.here | apply Sel.cons | apply Rem.there))) ?_)
              rintro v1 s2 ⟨rfl, rfl⟩
              refine incat ?_
              refine WpL.v (V.mv) ?_
              refine WpL.v (V.ex) ?_
              refine WpL.v (V.ex) ?_
              refine WpL.o (O.al tb (fun p8 => ?_))
              refine WpL.o (O.stA tb ?_)
              refine WpL.v (V.as) ?_
              apply WpL.nil
              apply Out.seqN
              apply Wp.seq
              apply Wp.region
              refine WpL.v (V.mv) ?_
              apply WpL.nil
              apply Out.seqN
              refine Wp.cF ?_
              apply Wp.skip
              apply Out.seqN
              apply Wp.seq
              apply Wp.region
              refine WpL.v (V.mv) ?_
              refine WpL.o (Op1.callT rfl (h1) (by (repeat (first | exact Sel.nil | exact Rem.here | apply Sel.cons | apply Rem.there))) ?_)
              rintro v3 s4 ⟨rfl, rfl⟩
              refine incat ?_
              refine WpL.v (V.mv) ?_
              refine WpL.v (V.ex) ?_
              refine WpL.v (V.ex) ?_
              refine WpL.o (O.al tb (fun p10 => ?_))
              refine WpL.o (O.stA tb ?_)
              refine WpL.v (V.as) ?_
              apply WpL.nil
              apply Out.seqN
              apply Wp.seq
              apply Wp.seq
              apply Wp.region
              refine WpL.v (V.mv) ?_
              refine WpL.o (Op1.callT rfl (h2) (by (repeat (first | exact Sel.nil | exact Rem.here | apply Sel.cons | apply Rem.there))) ?_)
              rintro v5 s6 ⟨rfl, rfl⟩
              refine incat ?_
              refine WpL.v (V.mv) ?_
              refine WpL.v (V.ex) ?_
              refine WpL.v (V.ex) ?_
              refine WpL.o (O.al tb (fun p12 => ?_))
              refine WpL.o (O.stA tb ?_)
              refine WpL.v (V.as) ?_
              apply WpL.nil
              apply Out.seqN
              apply Wp.seq
              apply Wp.region
              refine WpL.v (V.mv) ?_
              refine WpL.v (V.mv) ?_
              refine WpL.sk ?_
              refine WpL.sk ?_
              refine WpL.sk ?_
              refine WpL.sk ?_
              refine WpL.sk ?_
              refine WpL.sk ?_
              refine WpL.sk ?_
              refine WpL.sk ?_
              refine WpL.sk ?_
              refine WpL.sk ?_
              refine WpL.v (V.pF) ?_
              apply WpL.nil
              apply Out.seqN
              refine Wp.cF ?_
              apply Wp.skip
              apply Out.seqN
              apply Wp.seq
              apply Wp.seq
              apply Wp.region
              refine WpL.v (V.ldA tb) ?_
              refine WpL.v (V.mv) ?_
              refine WpL.o (Op1.callT rfl (hS) (by (repeat (first | exact Sel.nil | exact Rem.here | apply Sel.cons | apply Rem.there))) ?_)
              rintro v7 s8 ⟨g59, ⟨cp59, ⟨rfl, rfl⟩⟩⟩
              refine incat ?_
              refine WpL.v (V.as) ?_
              apply WpL.nil
              apply Out.seqN
              apply Wp.seq
              apply Wp.region
              refine WpL.v (V.mv) ?_
              refine WpL.v (V.lenL tb) ?_
              refine WpL.v (V.mv) ?_
              refine WpL.o (Op1.fn rfl (hF) ?_)
              refine WpL.v (V.cmp) ?_
              refine WpL.v (V.mv) ?_
              refine WpL.pt (fun h9 => ?_) (fun h9 => ?_)
              (try simp only [decide_eq_true_eq, decide_eq_false_iff_not, Bool.not_eq_true', Bool.not_eq_false', Bool.not_eq_true, Bool.not_eq_false, not_true_eq_false, not_false_eq_true, reduceCtorEq] at h9)
              refine WpL.v (V.mv) ?_
              refine WpL.v (V.lenL tb) ?_
              refine WpL.v (V.cmp) ?_
              refine WpL.v (V.pT) ?_
              apply WpL.nil
              apply Out.seqN
              refine Wp.c (fun h10 => ?_) (fun h10 => ?_)
              (try simp only [decide_eq_true_eq, decide_eq_false_iff_not, Bool.not_eq_true', Bool.not_eq_false', Bool.not_eq_true, Bool.not_eq_false, not_true_eq_false, not_false_eq_true, reduceCtorEq] at h10)
              apply Wp.seq
              refine Wp.dG [] ?_ (List.Sublist.cons_cons _ (List.Sublist.cons_cons _ (List.Sublist.cons _ (List.Sublist.cons _ (List.Sublist.cons _ (List.Sublist.cons _ (List.Sublist.cons _ List.Sublist.slnil))))))) (List.Sublist.cons_cons _ (List.Sublist.cons_cons _ (List.Sublist.cons _ (List.Sublist.cons _ (List.Sublist.cons _ (List.Sublist.cons _ (List.Sublist.cons _ List.Sublist.slnil)))))))
              refine WpA.tF 0 rfl (V.mv) ?_
              refine WpA.tF 1 rfl (V.ixk tb (k := 0) rfl rfl) ?_
              refine WpA.tF 2 rfl (V.fa tb) ?_
              refine WpA.tF 3 rfl (V.rowFA tb (k := 0) (o := 11) rfl (by (repeat first | exact List.Mem.head _ | apply List.Mem.tail)) TMsg.len rfl) ?_
              refine WpA.tF 4 rfl (V.as) ?_
              refine WpA.oS 5 rfl (O.stA tb ⟨?_, ?_, ?_⟩)
              exact holdT
              exact holdT
              refine WpA.ou ?_
              apply Out.seqN
              apply Wp.ret
              apply Out.seqR
              refine Out.f2 rfl ResIs.t (ResIs.ca tb) ⟨?_, rfl⟩
              exact rfl
              (try simp only [decide_eq_true_eq, decide_eq_false_iff_not, Bool.not_eq_true', Bool.not_eq_false', Bool.not_eq_true, Bool.not_eq_false, not_true_eq_false, not_false_eq_true, reduceCtorEq] at h10)
              (exfalso; omega)
              (try simp only [decide_eq_true_eq, decide_eq_false_iff_not, Bool.not_eq_true', Bool.not_eq_false', Bool.not_eq_true, Bool.not_eq_false, not_true_eq_false, not_false_eq_true, reduceCtorEq] at h9)
              (exfalso; omega)
            · rw [show choose n x xs = (3, asks a.Call xs) by unfold choose; rw [if_neg hlen, hc3]; simp only [hac, hsm, hft, if_false, hc1]]
              refine Ct.enter Try.func25 rfl rfl fun W => ?_
              apply Wp.seq
              apply Wp.region
              refine WpL.o (O.bxA (fun p4 => ?_))
              refine WpL.v (V.as) ?_
              refine WpL.o (O.al tb (fun p7 => ?_))
              apply WpL.nil
              apply Out.seqN
              apply Wp.seq
              apply Wp.seq
              apply Wp.region
              refine WpL.v (V.mv) ?_
              refine WpL.v (V.lenL tb) ?_
              refine WpL.v (V.mv) ?_
              refine WpL.o (Op1.fn rfl (hM) ?_)
              refine WpL.v (V.cmp) ?_
              apply WpL.nil
              apply Out.seqN
              refine Wp.c (fun h0 => ?_) (fun h0 => ?_)
              (try simp only [decide_eq_true_eq, decide_eq_false_iff_not, Bool.not_eq_true', Bool.not_eq_false', Bool.not_eq_true, Bool.not_eq_false, not_true_eq_false, not_false_eq_true, reduceCtorEq] at h0)
              (exfalso; omega)
              (try simp only [decide_eq_true_eq, decide_eq_false_iff_not, Bool.not_eq_true', Bool.not_eq_false', Bool.not_eq_true, Bool.not_eq_false, not_true_eq_false, not_false_eq_true, reduceCtorEq] at h0)
              apply Wp.skip
              apply Out.seqN
              apply Wp.seq
              apply Wp.seq
              apply Wp.region
              refine WpL.v (V.mv) ?_
              refine WpL.o (Op1.callT rfl (h3) (by (repeat (first | exact Sel.nil | exact Rem.here | apply Sel.cons | apply Rem.there))) ?_)
              rintro v1 s2 ⟨rfl, rfl⟩
              refine incat ?_
              refine WpL.v (V.mv) ?_
              refine WpL.v (V.ex) ?_
              refine WpL.v (V.ex) ?_
              refine WpL.o (O.al tb (fun p8 => ?_))
              refine WpL.o (O.stA tb ?_)
              refine WpL.v (V.as) ?_
              apply WpL.nil
              apply Out.seqN
              apply Wp.seq
              apply Wp.region
              refine WpL.v (V.mv) ?_
              apply WpL.nil
              apply Out.seqN
              refine Wp.cF ?_
              apply Wp.skip
              apply Out.seqN
              apply Wp.seq
              apply Wp.region
              refine WpL.v (V.mv) ?_
              refine WpL.o (Op1.callT rfl (h1) (by (repeat (first | exact Sel.nil | exact Rem.here | apply Sel.cons | apply Rem.there))) ?_)
              rintro v3 s4 ⟨rfl, rfl⟩
              refine incat ?_
              refine WpL.v (V.mv) ?_
              refine WpL.v (V.ex) ?_
              refine WpL.v (V.ex) ?_
              refine WpL.o (O.al tb (fun p10 => ?_))
              refine WpL.o (O.stA tb ?_)
              refine WpL.v (V.as) ?_
              apply WpL.nil
              apply Out.seqN
              apply Wp.seq
              apply Wp.seq
              apply Wp.region
              refine WpL.v (V.mv) ?_
              refine WpL.o (Op1.callT rfl (h2) (by (repeat (first | exact Sel.nil | exact Rem.here | apply Sel.cons | apply Rem.there))) ?_)
              rintro v5 s6 ⟨rfl, rfl⟩
              refine incat ?_
              refine WpL.v (V.mv) ?_
              refine WpL.v (V.ex) ?_
              refine WpL.v (V.ex) ?_
              refine WpL.o (O.al tb (fun p12 => ?_))
              refine WpL.o (O.stA tb ?_)
              refine WpL.v (V.as) ?_
              apply WpL.nil
              apply Out.seqN
              apply Wp.seq
              apply Wp.region
              refine WpL.v (V.mv) ?_
              refine WpL.v (V.mv) ?_
              refine WpL.sk ?_
              refine WpL.sk ?_
              refine WpL.sk ?_
              refine WpL.sk ?_
              refine WpL.sk ?_
              refine WpL.sk ?_
              refine WpL.sk ?_
              refine WpL.sk ?_
              refine WpL.sk ?_
              refine WpL.sk ?_
              refine WpL.v (V.pF) ?_
              apply WpL.nil
              apply Out.seqN
              refine Wp.cF ?_
              apply Wp.skip
              apply Out.seqN
              apply Wp.seq
              apply Wp.seq
              apply Wp.region
              refine WpL.v (V.ldA tb) ?_
              refine WpL.v (V.mv) ?_
              refine WpL.o (Op1.callT rfl (hS) (by (repeat (first | exact Sel.nil | exact Rem.here | apply Sel.cons | apply Rem.there))) ?_)
              rintro v7 s8 ⟨g59, ⟨cp59, ⟨rfl, rfl⟩⟩⟩
              refine incat ?_
              refine WpL.v (V.as) ?_
              apply WpL.nil
              apply Out.seqN
              apply Wp.seq
              apply Wp.region
              refine WpL.v (V.mv) ?_
              refine WpL.v (V.lenL tb) ?_
              refine WpL.v (V.mv) ?_
              refine WpL.o (Op1.fn rfl (hF) ?_)
              refine WpL.v (V.cmp) ?_
              refine WpL.v (V.mv) ?_
              refine WpL.pt (fun h9 => ?_) (fun h9 => ?_)
              (try simp only [decide_eq_true_eq, decide_eq_false_iff_not, Bool.not_eq_true', Bool.not_eq_false', Bool.not_eq_true, Bool.not_eq_false, not_true_eq_false, not_false_eq_true, reduceCtorEq] at h9)
              (exfalso; omega)
              (try simp only [decide_eq_true_eq, decide_eq_false_iff_not, Bool.not_eq_true', Bool.not_eq_false', Bool.not_eq_true, Bool.not_eq_false, not_true_eq_false, not_false_eq_true, reduceCtorEq] at h9)
              refine WpL.sk ?_
              refine WpL.sk ?_
              refine WpL.sk ?_
              refine WpL.v (V.pF) ?_
              apply WpL.nil
              apply Out.seqN
              refine Wp.cF ?_
              apply Wp.skip
              apply Out.seqN
              apply Wp.seq
              apply Wp.seq
              apply Wp.region
              refine WpL.v (V.mv) ?_
              refine WpL.v (V.not) ?_
              apply WpL.nil
              apply Out.seqN
              refine Wp.c (fun h10 => ?_) (fun h10 => ?_)
              (try simp only [decide_eq_true_eq, decide_eq_false_iff_not, Bool.not_eq_true', Bool.not_eq_false', Bool.not_eq_true, Bool.not_eq_false, not_true_eq_false, not_false_eq_true, reduceCtorEq] at h10)
              contradiction
              (try simp only [decide_eq_true_eq, decide_eq_false_iff_not, Bool.not_eq_true', Bool.not_eq_false', Bool.not_eq_true, Bool.not_eq_false, not_true_eq_false, not_false_eq_true, reduceCtorEq] at h10)
              apply Wp.skip
              apply Out.seqN
              apply Wp.seq
              apply Wp.region
              refine WpL.v (V.fa tb) ?_
              refine WpL.v (V.ldA tb) ?_
              refine WpL.o (O.al tb (fun p15 => ?_))
              refine WpL.o (O.stA tb ?_)
              apply WpL.nil
              apply Out.seqN
              apply Wp.seq
              apply Wp.seq
              apply Wp.region
              refine WpL.v (V.mv) ?_
              refine WpL.v (V.lenL tb) ?_
              refine WpL.v (V.mv) ?_
              apply WpL.nil
              apply Out.seqN
              apply Wp.block
              refine Wp.lp [80, 79, 15, 7] (fun i : Nat => i ≤ xs.length) (fun i => [(81, I (i : Int))]) (fun i => [cells p15 33 (asks a.Call (xs.take i)).c]) (fun i => xs.length - i) 0 (Nat.zero_le _) ?_
              rintro i hi0 K hK
              dsimp only [List.cons_append, List.nil_append]
              by_cases hlt : i < xs.length
              · obtain ⟨p, hp⟩ := getS hlt
                have q1 := take_snocS hp
                have q2 : asks a.Call (xs.take (i + 1)) = (if p.Status = 1 then mrg (asks a.Call (xs.take i)) p.Call else asks a.Call (xs.take i)) := by rw [q1, asks_snoc]
                generalize asks a.Call (xs.take i) = c at *
                have hG (g : Nat) : Ct Try.prog 80 [A c.c, .slice (some ⟨g, 0, none⟩) 1 1] [rows TCall.c (.slice (some ⟨g, 0, none⟩) 1 1) 33 14 [p.Call]] (fun r σ' => r = A (mrg c p.Call).c ∧ σ' = [rows TCall.c (.slice (some ⟨g, 0, none⟩) 1 1) 33 14 [p.Call]]) :=
                  deps_merge _ _ 1 _ _ c [p.Call] (Rd.rows (l := [p.Call]) TCall.len (by simp))
                by_cases hs : p.Status = 1
                · rw [if_pos hs] at q2
                  apply Wp.seq
                  apply Wp.region
                  refine WpL.v (V.cmp) ?_
                  apply WpL.nil
                  apply Out.seqN
                  apply Wp.seq
                  refine Wp.c (fun h0 => ?_) (fun h0 => ?_)
                  (try simp only [decide_eq_true_eq, decide_eq_false_iff_not, Bool.not_eq_true', Bool.not_eq_false', Bool.not_eq_true, Bool.not_eq_false, not_true_eq_false, not_false_eq_true, reduceCtorEq] at h0)
                  apply Wp.skip
                  apply Out.seqN
                  apply Wp.seq
                  apply Wp.block
                  apply Wp.seq
                  apply Wp.region
                  refine WpL.v (V.ixR tb rfl rfl (by assumption)) ?_
                  refine WpL.v (V.ldRA tb rfl (by assumption) (getMapS (by assumption))) ?_
                  refine WpL.o (O.al tb (fun p17 => ?_))
                  refine WpL.o (O.stA tb ?_)
                  apply WpL.nil
                  apply Out.seqN
                  apply Wp.seq
                  apply Wp.region
                  refine WpL.v (V.fa tb) ?_
                  refine WpL.v (V.ld1 tb) ?_
                  refine WpL.v (V.cmp) ?_
                  apply WpL.nil
                  apply Out.seqN
                  refine Wp.c (fun h1 => ?_) (fun h1 => ?_)
                  (try simp only [decide_eq_true_eq, decide_eq_false_iff_not, Bool.not_eq_true', Bool.not_eq_false', Bool.not_eq_true, Bool.not_eq_false, not_true_eq_false, not_false_eq_true, reduceCtorEq] at h1)
                  apply Wp.region
                  refine WpL.v (V.ldA tb) ?_
                  refine WpL.v (V.fa tb) ?_
                  refine WpL.v (V.ldA tb) ?_
                  refine WpL.o (O.litL tb TCall.c [p.Call] rfl (PartsFrom.agg rfl PartsFrom.nil) rfl rfl (fun p91 => ?_))
                  refine WpL.o (Op1.callT rfl (hG _) (by (repeat (first | exact Sel.nil | exact Rem.here | apply Sel.cons | apply Rem.there))) ?_)
                  rintro v2 s3 ⟨rfl, rfl⟩
                  refine incat ?_
                  refine WpL.o (O.stA tb ?_)
                  apply WpL.nil
                  apply Out.blockN
                  apply Out.seqN
                  apply Wp.region
                  refine WpL.v (V.add) ?_
                  refine WpL.v (V.mv) ?_
                  apply WpL.nil
                  rotate_left
                  (try simp only [decide_eq_true_eq, decide_eq_false_iff_not, Bool.not_eq_true', Bool.not_eq_false', Bool.not_eq_true, Bool.not_eq_false, not_true_eq_false, not_false_eq_true, reduceCtorEq] at h1)
                  (exfalso; omega)
                  (try simp only [decide_eq_true_eq, decide_eq_false_iff_not, Bool.not_eq_true', Bool.not_eq_false', Bool.not_eq_true, Bool.not_eq_false, not_true_eq_false, not_false_eq_true, reduceCtorEq] at h0)
                  (exfalso; omega)
                  all_goals exact Out.ag hK (i + 1) (by show i + 1 ≤ _; omega) (by show xs.length - (i + 1) < xs.length - i; omega) (hs := by rw [q2]; (repeat (first | exact Sel.nil | exact Rem.here | apply Sel.cons | apply Rem.there)))
                · rw [if_neg hs] at q2
                  apply Wp.seq
                  apply Wp.region
                  refine WpL.v (V.cmp) ?_
                  apply WpL.nil
                  apply Out.seqN
                  apply Wp.seq
                  refine Wp.c (fun h0 => ?_) (fun h0 => ?_)
                  (try simp only [decide_eq_true_eq, decide_eq_false_iff_not, Bool.not_eq_true', Bool.not_eq_false', Bool.not_eq_true, Bool.not_eq_false, not_true_eq_false, not_false_eq_true, reduceCtorEq] at h0)
                  apply Wp.skip
                  apply Out.seqN
                  apply Wp.seq
                  apply Wp.block
                  apply Wp.seq
                  apply Wp.region
                  refine WpL.v (V.ixR tb rfl rfl (by assumption)) ?_
                  refine WpL.v (V.ldRA tb rfl (by assumption) (getMapS (by assumption))) ?_
                  refine WpL.o (O.al tb (fun p17 => ?_))
                  refine WpL.o (O.stA tb ?_)
                  apply WpL.nil
                  apply Out.seqN
                  apply Wp.seq
                  apply Wp.region
                  refine WpL.v (V.fa tb) ?_
                  refine WpL.v (V.ld1 tb) ?_
                  refine WpL.v (V.cmp) ?_
                  apply WpL.nil
                  apply Out.seqN
                  refine Wp.c (fun h1 => ?_) (fun h1 => ?_)
                  (try simp only [decide_eq_true_eq, decide_eq_false_iff_not, Bool.not_eq_true', Bool.not_eq_false', Bool.not_eq_true, Bool.not_eq_false, not_true_eq_false, not_false_eq_true, reduceCtorEq] at h1)
                  (exfalso; omega)
                  (try simp only [decide_eq_true_eq, decide_eq_false_iff_not, Bool.not_eq_true', Bool.not_eq_false', Bool.not_eq_true, Bool.not_eq_false, not_true_eq_false, not_false_eq_true, reduceCtorEq] at h1)
                  apply Wp.skip
                  apply Out.blockN
                  apply Out.seqN
                  apply Wp.region
                  refine WpL.v (V.add) ?_
                  refine WpL.v (V.mv) ?_
                  apply WpL.nil
                  rotate_left
                  (try simp only [decide_eq_true_eq, decide_eq_false_iff_not, Bool.not_eq_true', Bool.not_eq_false', Bool.not_eq_true, Bool.not_eq_false, not_true_eq_false, not_false_eq_true, reduceCtorEq] at h0)
                  (exfalso; omega)
                  all_goals exact Out.ag hK (i + 1) (by show i + 1 ≤ _; omega) (by show xs.length - (i + 1) < xs.length - i; omega) (hs := by rw [q2]; (repeat (first | exact Sel.nil | exact Rem.here | apply Sel.cons | apply Rem.there)))
              · obtain rfl : i = xs.length := by omega
                rw [List.take_length]
                clear hK
                apply Wp.seq
                apply Wp.region
                refine WpL.v (V.cmp) ?_
                apply WpL.nil
                apply Out.seqN
                apply Wp.seq
                refine Wp.c (fun h0 => ?_) (fun h0 => ?_)
                (try simp only [decide_eq_true_eq, decide_eq_false_iff_not, Bool.not_eq_true', Bool.not_eq_false', Bool.not_eq_true, Bool.not_eq_false, not_true_eq_false, not_false_eq_true, reduceCtorEq] at h0)
                (exfalso; omega)
                (try simp only [decide_eq_true_eq, decide_eq_false_iff_not, Bool.not_eq_true', Bool.not_eq_false', Bool.not_eq_true, Bool.not_eq_false, not_true_eq_false, not_false_eq_true, reduceCtorEq] at h0)
                apply Wp.exit
                apply Out.seqE
                apply Out.seqE
                apply Out.blockE
                apply Out.seqN
                apply Wp.seq
                refine Wp.dG [] ?_ (List.Sublist.cons_cons _ (List.Sublist.cons _ (List.Sublist.cons _ (List.Sublist.cons _ (List.Sublist.cons _ (List.Sublist.cons _ (List.Sublist.cons _ (List.Sublist.cons _ List.Sublist.slnil)))))))) (List.Sublist.cons_cons _ (List.Sublist.cons _ (List.Sublist.cons _ (List.Sublist.cons _ (List.Sublist.cons _ (List.Sublist.cons _ (List.Sublist.cons _ (List.Sublist.cons _ List.Sublist.slnil))))))))
                refine WpA.tF 0 rfl (V.ldA tb) ?_
                refine WpA.tF 1 rfl (V.as) ?_
                refine WpA.oS 2 rfl (O.stA tb ⟨?_, ?_, ?_⟩)
                exact holdT
                exact holdT
                refine WpA.ou ?_
                apply Out.seqN
                apply Wp.ret
                refine Out.f2 rfl ResIs.t (ResIs.ca tb) ⟨?_, rfl⟩
                exact rfl
          | nil =>
            have hS := rescue_same e ao cap b off xs x hx hR
            rw [hsm] at hS
            rw [show choose n x xs = (3, asks a.Call xs) by unfold choose; rw [if_neg hlen, hc3]; simp only [hac, hsm, hc1]]
            refine Ct.enter Try.func25 rfl rfl fun W => ?_
            apply Wp.seq
            apply Wp.region
            refine WpL.o (O.bxA (fun p4 => ?_))
            refine WpL.v (V.as) ?_
            refine WpL.o (O.al tb (fun p7 => ?_))
            apply WpL.nil
            apply Out.seqN
            apply Wp.seq
            apply Wp.seq
            apply Wp.region
            refine WpL.v (V.mv) ?_
            refine WpL.v (V.lenL tb) ?_
            refine WpL.v (V.mv) ?_
            refine WpL.o (Op1.fn rfl (hM) ?_)
            refine WpL.v (V.cmp) ?_
            apply WpL.nil
            apply Out.seqN
            refine Wp.c (fun h0 => ?_) (fun h0 => ?_)
            (try simp only [decide_eq_true_eq, decide_eq_false_iff_not, Bool.not_eq_true', Bool.not_eq_false', Bool.not_eq_true, Bool.not_eq_false, not_true_eq_false, not_false_eq_true, reduceCtorEq] at h0)
            (exfalso; omega)
            (try simp only [decide_eq_true_eq, decide_eq_false_iff_not, Bool.not_eq_true', Bool.not_eq_false', Bool.not_eq_true, Bool.not_eq_false, not_true_eq_false, not_false_eq_true, reduceCtorEq] at h0)
            apply Wp.skip
            apply Out.seqN
            apply Wp.seq
            apply Wp.seq
            apply Wp.region
            refine WpL.v (V.mv) ?_
            refine WpL.o (Op1.callT rfl (h3) (by (repeat (first | exact Sel.nil | exact Rem.here | apply Sel.cons | apply Rem.there))) ?_)
            rintro v1 s2 ⟨rfl, rfl⟩
            refine incat ?_
            refine WpL.v (V.mv) ?_
            refine WpL.v (V.ex) ?_
            refine WpL.v (V.ex) ?_
            refine WpL.o (O.al tb (fun p8 => ?_))
            refine WpL.o (O.stA tb ?_)
            refine WpL.v (V.as) ?_
            apply WpL.nil
            apply Out.seqN
            apply Wp.seq
            apply Wp.region
            refine WpL.v (V.mv) ?_
            apply WpL.nil
            apply Out.seqN
            refine Wp.cF ?_
            apply Wp.skip
            apply Out.seqN
            apply Wp.seq
            apply Wp.region
            refine WpL.v (V.mv) ?_
            refine WpL.o (Op1.callT rfl (h1) (by (repeat (first | exact Sel.nil | exact Rem.here | apply Sel.cons | apply Rem.there))) ?_)
            rintro v3 s4 ⟨rfl, rfl⟩
            refine incat ?_
            refine WpL.v (V.mv) ?_
            refine WpL.v (V.ex) ?_
            refine WpL.v (V.ex) ?_
            refine WpL.o (O.al tb (fun p10 => ?_))
            refine WpL.o (O.stA tb ?_)
            refine WpL.v (V.as) ?_
            apply WpL.nil
            apply Out.seqN
            apply Wp.seq
            apply Wp.seq
            apply Wp.region
            refine WpL.v (V.mv) ?_
            refine WpL.o (Op1.callT rfl (h2) (by (repeat (first | exact Sel.nil | exact Rem.here | apply Sel.cons | apply Rem.there))) ?_)
            rintro v5 s6 ⟨rfl, rfl⟩
            refine incat ?_
            refine WpL.v (V.mv) ?_
            refine WpL.v (V.ex) ?_
            refine WpL.v (V.ex) ?_
            refine WpL.o (O.al tb (fun p12 => ?_))
            refine WpL.o (O.stA tb ?_)
            refine WpL.v (V.as) ?_
            apply WpL.nil
            apply Out.seqN
            apply Wp.seq
            apply Wp.region
            refine WpL.v (V.mv) ?_
            refine WpL.v (V.mv) ?_
            refine WpL.sk ?_
            refine WpL.sk ?_
            refine WpL.sk ?_
            refine WpL.sk ?_
            refine WpL.sk ?_
            refine WpL.sk ?_
            refine WpL.sk ?_
            refine WpL.sk ?_
            refine WpL.sk ?_
            refine WpL.sk ?_
            refine WpL.v (V.pF) ?_
            apply WpL.nil
            apply Out.seqN
            refine Wp.cF ?_
            apply Wp.skip
            apply Out.seqN
            apply Wp.seq
            apply Wp.seq
            apply Wp.region
            refine WpL.v (V.ldA tb) ?_
            refine WpL.v (V.mv) ?_
            refine WpL.o (Op1.callT rfl (hS) (by (repeat (first | exact Sel.nil | exact Rem.here | apply Sel.cons | apply Rem.there))) ?_)
            rintro v7 s8 ⟨v59, ⟨rfl, rfl⟩⟩
            refine incat ?_
            refine WpL.v (V.as) ?_
            apply WpL.nil
            apply Out.seqN
            apply Wp.seq
            apply Wp.region
            refine WpL.v (V.mv) ?_
            refine WpL.v (V.lenRows tb) ?_
            refine WpL.v (V.mv) ?_
            refine WpL.o (Op1.fn rfl (hF) ?_)
            refine WpL.v (V.cmp rfl rfl hq0) ?_
            refine WpL.v (V.mv) ?_
            refine WpL.sk ?_
            refine WpL.sk ?_
            refine WpL.sk ?_
            refine WpL.v (V.pF) ?_
            apply WpL.nil
            apply Out.seqN
            refine Wp.cF ?_
            apply Wp.skip
            apply Out.seqN
            apply Wp.seq
            apply Wp.seq
            apply Wp.region
            refine WpL.v (V.mv) ?_
            refine WpL.v (V.not) ?_
            apply WpL.nil
            apply Out.seqN
            refine Wp.c (fun h9 => ?_) (fun h9 => ?_)
            (try simp only [decide_eq_true_eq, decide_eq_false_iff_not, Bool.not_eq_true', Bool.not_eq_false', Bool.not_eq_true, Bool.not_eq_false, not_true_eq_false, not_false_eq_true, reduceCtorEq] at h9)
            contradiction
            (try simp only [decide_eq_true_eq, decide_eq_false_iff_not, Bool.not_eq_true', Bool.not_eq_false', Bool.not_eq_true, Bool.not_eq_false, not_true_eq_false, not_false_eq_true, reduceCtorEq] at h9)
            apply Wp.skip
            apply Out.seqN
            apply Wp.seq
            apply Wp.region
            refine WpL.v (V.fa tb) ?_
            refine WpL.v (V.ldA tb) ?_
            refine WpL.o (O.al tb (fun p15 => ?_))
            refine WpL.o (O.stA tb ?_)
            apply WpL.nil
            apply Out.seqN
            apply Wp.seq
            apply Wp.seq
            apply Wp.region
            refine WpL.v (V.mv) ?_
            refine WpL.v (V.lenL tb) ?_
            refine WpL.v (V.mv) ?_
            apply WpL.nil
            apply Out.seqN
            apply Wp.block
            refine Wp.lp [80, 79, 15, 7] (fun i : Nat => i ≤ xs.length) (fun i => [(81, I (i : Int))]) (fun i => [cells p15 33 (asks a.Call (xs.take i)).c]) (fun i => xs.length - i) 0 (Nat.zero_le _) ?_
            rintro i hi0 K hK
            dsimp only [List.cons_append, List.nil_append]
            by_cases hlt : i < xs.length
            · obtain ⟨p, hp⟩ := getS hlt
              have q1 := take_snocS hp
              have q2 : asks a.Call (xs.take (i + 1)) = (if p.Status = 1 then mrg (asks a.Call (xs.take i)) p.Call else asks a.Call (xs.take i)) := by rw [q1, asks_snoc]
              generalize asks a.Call (xs.take i) = c at *
              have hG (g : Nat) : Ct Try.prog 80 [A c.c, .slice (some ⟨g, 0, none⟩) 1 1] [rows TCall.c (.slice (some ⟨g, 0, none⟩) 1 1) 33 14 [p.Call]] (fun r σ' => r = A (mrg c p.Call).c ∧ σ' = [rows TCall.c (.slice (some ⟨g, 0, none⟩) 1 1) 33 14 [p.Call]]) :=
                deps_merge _ _ 1 _ _ c [p.Call] (Rd.rows (l := [p.Call]) TCall.len (by simp))
              by_cases hs : p.Status = 1
              · rw [if_pos hs] at q2
                apply Wp.seq
                apply Wp.region
                refine WpL.v (V.cmp) ?_
                apply WpL.nil
                apply Out.seqN
                apply Wp.seq
                refine Wp.c (fun h0 => ?_) (fun h0 => ?_)
                (try simp only [decide_eq_true_eq, decide_eq_false_iff_not, Bool.not_eq_true', Bool.not_eq_false', Bool.not_eq_true, Bool.not_eq_false, not_true_eq_false, not_false_eq_true, reduceCtorEq] at h0)
                apply Wp.skip
                apply Out.seqN
                apply Wp.seq
                apply Wp.block
                apply Wp.seq
                apply Wp.region
                refine WpL.v (V.ixR tb rfl rfl (by assumption)) ?_
                refine WpL.v (V.ldRA tb rfl (by assumption) (getMapS (by assumption))) ?_
                refine WpL.o (O.al tb (fun p17 => ?_))
                refine WpL.o (O.stA tb ?_)
                apply WpL.nil
                apply Out.seqN
                apply Wp.seq
                apply Wp.region
                refine WpL.v (V.fa tb) ?_
                refine WpL.v (V.ld1 tb) ?_
                refine WpL.v (V.cmp) ?_
                apply WpL.nil
                apply Out.seqN
                refine Wp.c (fun h1 => ?_) (fun h1 => ?_)
                (try simp only [decide_eq_true_eq, decide_eq_false_iff_not, Bool.not_eq_true', Bool.not_eq_false', Bool.not_eq_true, Bool.not_eq_false, not_true_eq_false, not_false_eq_true, reduceCtorEq] at h1)
                apply Wp.region
                refine WpL.v (V.ldA tb) ?_
                refine WpL.v (V.fa tb) ?_
                refine WpL.v (V.ldA tb) ?_
                refine WpL.o (O.litL tb TCall.c [p.Call] rfl (PartsFrom.agg rfl PartsFrom.nil) rfl rfl (fun p91 => ?_))
                refine WpL.o (Op1.callT rfl (hG _) (by (repeat (first | exact Sel.nil | exact Rem.here | apply Sel.cons | apply Rem.there))) ?_)
                rintro v2 s3 ⟨rfl, rfl⟩
                refine incat ?_
                refine WpL.o (O.stA tb ?_)
                apply WpL.nil
                apply Out.blockN
                apply Out.seqN
                apply Wp.region
                refine WpL.v (V.add) ?_
                refine WpL.v (V.mv) ?_
                apply WpL.nil
                rotate_left
                (try simp only [decide_eq_true_eq, decide_eq_false_iff_not, Bool.not_eq_true', Bool.not_eq_false', Bool.not_eq_true, Bool.not_eq_false, not_true_eq_false, not_false_eq_true, reduceCtorEq] at h1)
                (exfalso; omega)
                (try simp only [decide_eq_true_eq, decide_eq_false_iff_not, Bool.not_eq_true', Bool.not_eq_false', Bool.not_eq_true, Bool.not_eq_false, not_true_eq_false, not_false_eq_true, reduceCtorEq] at h0)
                (exfalso; omega)
                all_goals exact Out.ag hK (i + 1) (by show i + 1 ≤ _; omega) (by show xs.length - (i + 1) < xs.length - i; omega) (hs := by rw [q2]; (repeat (first | exact Sel.nil | exact Rem.here | apply Sel.cons | apply Rem.there)))
              · rw [if_neg hs] at q2
                apply Wp.seq
                apply Wp.region
                refine WpL.v (V.cmp) ?_
                apply WpL.nil
                apply Out.seqN
                apply Wp.seq
                refine Wp.c (fun h0 => ?_) (fun h0 => ?_)
                (try simp only [decide_eq_true_eq, decide_eq_false_iff_not, Bool.not_eq_true', Bool.not_eq_false', Bool.not_eq_true, Bool.not_eq_false, not_true_eq_false, not_false_eq_true, reduceCtorEq] at h0)
                apply Wp.skip
                apply Out.seqN
                apply Wp.seq
                apply Wp.block
                apply Wp.seq
                apply Wp.region
                refine WpL.v (V.ixR tb rfl rfl (by assumption)) ?_
                refine WpL.v (V.ldRA tb rfl (by assumption) (getMapS (by assumption))) ?_
                refine WpL.o (O.al tb (fun p17 => ?_))
                refine WpL.o (O.stA tb ?_)
                apply WpL.nil
                apply Out.seqN
                apply Wp.seq
                apply Wp.region
                refine WpL.v (V.fa tb) ?_
                refine WpL.v (V.ld1 tb) ?_
                refine WpL.v (V.cmp) ?_
                apply WpL.nil
                apply Out.seqN
                refine Wp.c (fun h1 => ?_) (fun h1 => ?_)
                (try simp only [decide_eq_true_eq, decide_eq_false_iff_not, Bool.not_eq_true', Bool.not_eq_false', Bool.not_eq_true, Bool.not_eq_false, not_true_eq_false, not_false_eq_true, reduceCtorEq] at h1)
                (exfalso; omega)
                (try simp only [decide_eq_true_eq, decide_eq_false_iff_not, Bool.not_eq_true', Bool.not_eq_false', Bool.not_eq_true, Bool.not_eq_false, not_true_eq_false, not_false_eq_true, reduceCtorEq] at h1)
                apply Wp.skip
                apply Out.blockN
                apply Out.seqN
                apply Wp.region
                refine WpL.v (V.add) ?_
                refine WpL.v (V.mv) ?_
                apply WpL.nil
                rotate_left
                (try simp only [decide_eq_true_eq, decide_eq_false_iff_not, Bool.not_eq_true', Bool.not_eq_false', Bool.not_eq_true, Bool.not_eq_false, not_true_eq_false, not_false_eq_true, reduceCtorEq] at h0)
                (exfalso; omega)
                all_goals exact Out.ag hK (i + 1) (by show i + 1 ≤ _; omega) (by show xs.length - (i + 1) < xs.length - i; omega) (hs := by rw [q2]; (repeat (first | exact Sel.nil | exact Rem.here | apply Sel.cons | apply Rem.there)))
            · obtain rfl : i = xs.length := by omega
              rw [List.take_length]
              clear hK
              apply Wp.seq
              apply Wp.region
              refine WpL.v (V.cmp) ?_
              apply WpL.nil
              apply Out.seqN
              apply Wp.seq
              refine Wp.c (fun h0 => ?_) (fun h0 => ?_)
              (try simp only [decide_eq_true_eq, decide_eq_false_iff_not, Bool.not_eq_true', Bool.not_eq_false', Bool.not_eq_true, Bool.not_eq_false, not_true_eq_false, not_false_eq_true, reduceCtorEq] at h0)
              (exfalso; omega)
              (try simp only [decide_eq_true_eq, decide_eq_false_iff_not, Bool.not_eq_true', Bool.not_eq_false', Bool.not_eq_true, Bool.not_eq_false, not_true_eq_false, not_false_eq_true, reduceCtorEq] at h0)
              apply Wp.exit
              apply Out.seqE
              apply Out.seqE
              apply Out.blockE
              apply Out.seqN
              apply Wp.seq
              refine Wp.dG [] ?_ (List.Sublist.cons_cons _ (List.Sublist.cons _ (List.Sublist.cons _ (List.Sublist.cons _ (List.Sublist.cons _ (List.Sublist.cons _ (List.Sublist.cons _ (List.Sublist.cons _ List.Sublist.slnil)))))))) (List.Sublist.cons_cons _ (List.Sublist.cons _ (List.Sublist.cons _ (List.Sublist.cons _ (List.Sublist.cons _ (List.Sublist.cons _ (List.Sublist.cons _ (List.Sublist.cons _ List.Sublist.slnil))))))))
              refine WpA.tF 0 rfl (V.ldA tb) ?_
              refine WpA.tF 1 rfl (V.as) ?_
              refine WpA.oS 2 rfl (O.stA tb ⟨?_, ?_, ?_⟩)
              exact holdT
              exact holdT
              refine WpA.ou ?_
              apply Out.seqN
              apply Wp.ret
              refine Out.f2 rfl ResIs.t (ResIs.ca tb) ⟨?_, rfl⟩
              exact rfl
        | some m =>
          rw [hc2] at h2
          have hL := ballot_less m.Vote a.Vote
          cases hb : bLt m.Vote a.Vote with
          | false =>
            rw [hb] at hL
            have hac : accd xs = some m := by simp [accd, hc2, hc1, hb]
            rw [show choose n x xs = (2, m.Call) by unfold choose; rw [if_neg hlen, hc3]; simp only [hac]]
            refine Ct.enter Try.func25 rfl rfl fun W => ?_
            apply Wp.seq
            apply Wp.region
            refine WpL.o (O.bxA (fun p4 => ?_))
            refine WpL.v (V.as) ?_
            refine WpL.o (O.al tb (fun p7 => ?_))
            apply WpL.nil
            apply Out.seqN
            apply Wp.seq
            apply Wp.seq
            apply Wp.region
            refine WpL.v (V.mv) ?_
            refine WpL.v (V.lenL tb) ?_
            refine WpL.v (V.mv) ?_
            refine WpL.o (Op1.fn rfl (hM) ?_)
            refine WpL.v (V.cmp) ?_
            apply WpL.nil
            apply Out.seqN
            refine Wp.c (fun hcb0 => ?_) (fun hcb0 => ?_)
            (try simp only [decide_eq_true_eq, decide_eq_false_iff_not, Bool.not_eq_true', Bool.not_eq_false', Bool.not_eq_true, Bool.not_eq_false, not_true_eq_false, not_false_eq_true, reduceCtorEq] at hcb0)
            (exfalso; omega)
            (try simp only [decide_eq_true_eq, decide_eq_false_iff_not, Bool.not_eq_true', Bool.not_eq_false', Bool.not_eq_true, Bool.not_eq_false, not_true_eq_false, not_false_eq_true, reduceCtorEq] at hcb0)
            apply Wp.skip
            apply Out.seqN
            apply Wp.seq
            apply Wp.seq
            apply Wp.region
            refine WpL.v (V.mv) ?_
            refine WpL.o (Op1.callT rfl (h3) (by (repeat (first | exact Sel.nil | exact Rem.here | apply Sel.cons | apply Rem.there))) ?_)
            rintro v1 s2 ⟨rfl, rfl⟩
            refine incat ?_
            refine WpL.v (V.mv) ?_
            refine WpL.v (V.ex) ?_
            refine WpL.v (V.ex) ?_
            refine WpL.o (O.al tb (fun p8 => ?_))
            refine WpL.o (O.stA tb ?_)
            refine WpL.v (V.as) ?_
            apply WpL.nil
            apply Out.seqN
            apply Wp.seq
            apply Wp.region
            refine WpL.v (V.mv) ?_
            apply WpL.nil
            apply Out.seqN
            refine Wp.cF ?_
            apply Wp.skip
            apply Out.seqN
            apply Wp.seq
            apply Wp.region
            refine WpL.v (V.mv) ?_
            refine WpL.o (Op1.callT rfl (h1) (by (repeat (first | exact Sel.nil | exact Rem.here | apply Sel.cons | apply Rem.there))) ?_)
            rintro v3 s4 ⟨rfl, rfl⟩
            refine incat ?_
            refine WpL.v (V.mv) ?_
            refine WpL.v (V.ex) ?_
            refine WpL.v (V.ex) ?_
            refine WpL.o (O.al tb (fun p10 => ?_))
            refine WpL.o (O.stA tb ?_)
            refine WpL.v (V.as) ?_
            apply WpL.nil
            apply Out.seqN
            apply Wp.seq
            apply Wp.seq
            apply Wp.region
            refine WpL.v (V.mv) ?_
            refine WpL.o (Op1.callT rfl (h2) (by (repeat (first | exact Sel.nil | exact Rem.here | apply Sel.cons | apply Rem.there))) ?_)
            rintro v5 s6 ⟨rfl, rfl⟩
            refine incat ?_
            refine WpL.v (V.mv) ?_
            refine WpL.v (V.ex) ?_
            refine WpL.v (V.ex) ?_
            refine WpL.o (O.al tb (fun p12 => ?_))
            refine WpL.o (O.stA tb ?_)
            refine WpL.v (V.as) ?_
            apply WpL.nil
            apply Out.seqN
            apply Wp.seq
            apply Wp.region
            refine WpL.v (V.mv) ?_
            refine WpL.v (V.mv) ?_
            refine WpL.pt (fun hcb7 => ?_) (fun hcb7 => ?_)
            (try simp only [decide_eq_true_eq, decide_eq_false_iff_not, Bool.not_eq_true', Bool.not_eq_false', Bool.not_eq_true, Bool.not_eq_false, not_true_eq_false, not_false_eq_true, reduceCtorEq] at hcb7)
            refine WpL.v (V.mv) ?_
            refine WpL.v (V.not) ?_
            refine WpL.v (V.mv) ?_
            refine WpL.pt (fun hcb8 => ?_) (fun hcb8 => ?_)
            (try simp only [decide_eq_true_eq, decide_eq_false_iff_not, Bool.not_eq_true', Bool.not_eq_false', Bool.not_eq_true, Bool.not_eq_false, not_true_eq_false, not_false_eq_true, reduceCtorEq] at hcb8)
            contradiction
            (try simp only [decide_eq_true_eq, decide_eq_false_iff_not, Bool.not_eq_true', Bool.not_eq_false', Bool.not_eq_true, Bool.not_eq_false, not_true_eq_false, not_false_eq_true, reduceCtorEq] at hcb8)
            refine WpL.v (V.fa tb) ?_
            refine WpL.v (V.ldA tb) ?_
            refine WpL.v (V.fa tb) ?_
            refine WpL.v (V.ldA tb) ?_
            refine WpL.o (Op1.fn rfl (hL) ?_)
            refine WpL.v (V.not) ?_
            refine WpL.v (V.pF) ?_
            refine WpL.v (V.pT) ?_
            apply WpL.nil
            apply Out.seqN
            refine Wp.cT ?_
            apply Wp.seq
            refine Wp.dG [] ?_ (List.Sublist.cons_cons _ (List.Sublist.cons _ (List.Sublist.cons _ (List.Sublist.cons _ (List.Sublist.cons _ (List.Sublist.cons _ List.Sublist.slnil)))))) (List.Sublist.cons_cons _ (List.Sublist.cons _ (List.Sublist.cons _ (List.Sublist.cons _ (List.Sublist.cons _ (List.Sublist.cons _ List.Sublist.slnil))))))
            refine WpA.tF 0 rfl (V.fa tb) ?_
            refine WpA.tF 1 rfl (V.ldA tb) ?_
            refine WpA.tF 2 rfl (V.as) ?_
            refine WpA.oS 3 rfl (O.stA tb ⟨?_, ?_, ?_⟩)
            exact holdT
            exact holdT
            refine WpA.ou ?_
            apply Out.seqN
            apply Wp.ret
            apply Out.seqR
            refine Out.f2 rfl ResIs.t (ResIs.ca tb) ⟨?_, rfl⟩
            exact rfl
            (try simp only [decide_eq_true_eq, decide_eq_false_iff_not, Bool.not_eq_true', Bool.not_eq_false', Bool.not_eq_true, Bool.not_eq_false, not_true_eq_false, not_false_eq_true, reduceCtorEq] at hcb7)
            contradiction
          | true =>
            rw [hb] at hL
            have hac : accd xs = none := by simp [accd, hc2, hc1, hb]
            cases hsm : sameL x xs with
            | cons m0 t =>
              have hS := same_some (x := x) (cap := cap) hx hR hsm
              by_cases hft : faults n ≤ ((t.length + 1 : Nat) : Int)
              · rw [show choose n x xs = (2, m0.Call) by unfold choose; rw [if_neg hlen, hc3]; simp only [hac, hsm, hft, if_true]]
                refine Ct.enter Try.func25 rfl rfl fun W => ?_
                apply Wp.seq
                apply Wp.region
                refine WpL.o (O.bxA (fun p4 => ?_))
                refine WpL.v (V.as) ?_
                refine WpL.o (O.al tb (fun p7 => ?_))
                apply WpL.nil
                apply Out.seqN
                apply Wp.seq
                apply Wp.seq
                apply Wp.region
                refine WpL.v (V.mv) ?_
                refine WpL.v (V.lenL tb) ?_
                refine WpL.v (V.mv) ?_
                refine WpL.o (Op1.fn rfl (hM) ?_)
                refine WpL.v (V.cmp) ?_
                apply WpL.nil
                apply Out.seqN
                refine Wp.c (fun h0 => ?_) (fun h0 => ?_)
                (try simp only [decide_eq_true_eq, decide_eq_false_iff_not, Bool.not_eq_true', Bool.not_eq_false', Bool.not_eq_true, Bool.not_eq_false, not_true_eq_false, not_false_eq_true, reduceCtorEq] at h0)
                (exfalso; omega)
                (try simp only [decide_eq_true_eq, decide_eq_false_iff_not, Bool.not_eq_true', Bool.not_eq_false', Bool.not_eq_true, Bool.not_eq_false, not_true_eq_false, not_false_eq_true, reduceCtorEq] at h0)
                apply Wp.skip
                apply Out.seqN
                apply Wp.seq
                apply Wp.seq
                apply Wp.region
                refine WpL.v (V.mv) ?_
                refine WpL.o (Op1.callT rfl (h3) (by (repeat (first | exact Sel.nil | exact Rem.here | apply Sel.cons | apply Rem.there))) ?_)
                rintro v1 s2 ⟨rfl, rfl⟩
                refine incat ?_
                refine WpL.v (V.mv) ?_
                refine WpL.v (V.ex) ?_
                refine WpL.v (V.ex) ?_
                refine WpL.o (O.al tb (fun p8 => ?_))
                refine WpL.o (O.stA tb ?_)
                refine WpL.v (V.as) ?_
                apply WpL.nil
                apply Out.seqN
                apply Wp.seq
                apply Wp.region
                refine WpL.v (V.mv) ?_
                apply WpL.nil
                apply Out.seqN
                refine Wp.cF ?_
                apply Wp.skip
                apply Out.seqN
                apply Wp.seq
                apply Wp.region
                refine WpL.v (V.mv) ?_
                refine WpL.o (Op1.callT rfl (h1) (by (repeat (first | exact Sel.nil | exact Rem.here | apply Sel.cons | apply Rem.there))) ?_)
                rintro v3 s4 ⟨rfl, rfl⟩
                refine incat ?_
                refine WpL.v (V.mv) ?_
                refine WpL.v (V.ex) ?_
                refine WpL.v (V.ex) ?_
                refine WpL.o (O.al tb (fun p10 => ?_))
                refine WpL.o (O.stA tb ?_)
                refine WpL.v (V.as) ?_
                apply WpL.nil
                apply Out.seqN
                apply Wp.seq
                apply Wp.seq
                apply Wp.region
                refine WpL.v (V.mv) ?_
                refine WpL.o (Op1.callT rfl (h2) (by (repeat (first | exact Sel.nil | exact Rem.here | apply Sel.cons | apply Rem.there))) ?_)
                rintro v5 s6 ⟨rfl, rfl⟩
                refine incat ?_
                refine WpL.v (V.mv) ?_
                refine WpL.v (V.ex) ?_
                refine WpL.v (V.ex) ?_
                refine WpL.o (O.al tb (fun p12 => ?_))
                refine WpL.o (O.stA tb ?_)
                refine WpL.v (V.as) ?_
                apply WpL.nil
                apply Out.seqN
                apply Wp.seq
                apply Wp.region
                refine WpL.v (V.mv) ?_
                refine WpL.v (V.mv) ?_
                refine WpL.pt (fun h7 => ?_) (fun h7 => ?_)
                (try simp only [decide_eq_true_eq, decide_eq_false_iff_not, Bool.not_eq_true', Bool.not_eq_false', Bool.not_eq_true, Bool.not_eq_false, not_true_eq_false, not_false_eq_true, reduceCtorEq] at h7)
                refine WpL.v (V.mv) ?_
                refine WpL.v (V.not) ?_
                refine WpL.v (V.mv) ?_
                refine WpL.pt (fun h8 => ?_) (fun h8 => ?_)
                (try simp only [decide_eq_true_eq, decide_eq_false_iff_not, Bool.not_eq_true', Bool.not_eq_false', Bool.not_eq_true, Bool.not_eq_false, not_true_eq_false, not_false_eq_true, reduceCtorEq] at h8)
                contradiction
                (try simp only [decide_eq_true_eq, decide_eq_false_iff_not, Bool.not_eq_true', Bool.not_eq_false', Bool.not_eq_true, Bool.not_eq_false, not_true_eq_false, not_false_eq_true, reduceCtorEq] at h8)
                refine WpL.v (V.fa tb) ?_
                refine WpL.v (V.ldA tb) ?_
                refine WpL.v (V.fa tb) ?_
                refine WpL.v (V.ldA tb) ?_
                refine WpL.o (Op1.fn rfl (hL) ?_)
                refine WpL.v (V.not) ?_
                refine WpL.v (V.pF) ?_
                refine WpL.v (V.pT) ?_
                apply WpL.nil
                apply Out.seqN
                refine Wp.cF ?_
                apply Wp.skip
                apply Out.seqN
                apply Wp.seq
                apply Wp.seq
                apply Wp.region
                refine WpL.v (V.ldA tb) ?_
                refine WpL.v (V.mv) ?_
                refine WpL.o (Op1.callT rfl (hS) (by (repeat (first | exact Sel.nil | exact Rem.here | apply Sel.cons | apply Rem.there))) ?_)
                rintro v9 s10 ⟨g59, ⟨cp59, ⟨rfl, rfl⟩⟩⟩
                refine incat ?_
                refine WpL.v (V.as) ?_
                apply WpL.nil
                apply Out.seqN
                apply Wp.seq
                apply Wp.region
                refine WpL.v (V.mv) ?_
                refine WpL.v (V.lenL tb) ?_
                refine WpL.v (V.mv) ?_
                refine WpL.o (Op1.fn rfl (hF) ?_)
                refine WpL.v (V.cmp) ?_
                refine WpL.v (V.mv) ?_
                refine WpL.pt (fun h11 => ?_) (fun h11 => ?_)
                (try simp only [decide_eq_true_eq, decide_eq_false_iff_not, Bool.not_eq_true', Bool.not_eq_false', Bool.not_eq_true, Bool.not_eq_false, not_true_eq_false, not_false_eq_true, reduceCtorEq] at h11)
                refine WpL.v (V.mv) ?_
                refine WpL.v (V.lenL tb) ?_
                refine WpL.v (V.cmp) ?_
                refine WpL.v (V.pT) ?_
                apply WpL.nil
                apply Out.seqN
                refine Wp.c (fun h12 => ?_) (fun h12 => ?_)
                (try simp only [decide_eq_true_eq, decide_eq_false_iff_not, Bool.not_eq_true', Bool.not_eq_false', Bool.not_eq_true, Bool.not_eq_false, not_true_eq_false, not_false_eq_true, reduceCtorEq] at h12)
                apply Wp.seq
                refine Wp.dG [] ?_ (List.Sublist.cons_cons _ (List.Sublist.cons_cons _ (List.Sublist.cons _ (List.Sublist.cons _ (List.Sublist.cons _ (List.Sublist.cons _ (List.Sublist.cons _ List.Sublist.slnil))))))) (List.Sublist.cons_cons _ (List.Sublist.cons_cons _ (List.Sublist.cons _ (List.Sublist.cons _ (List.Sublist.cons _ (List.Sublist.cons _ (List.Sublist.cons _ List.Sublist.slnil)))))))
                refine WpA.tF 0 rfl (V.mv) ?_
                refine WpA.tF 1 rfl (V.ixk tb (k := 0) rfl rfl) ?_
                refine WpA.tF 2 rfl (V.fa tb) ?_
                refine WpA.tF 3 rfl (V.rowFA tb (k := 0) (o := 11) rfl (by (repeat first | exact List.Mem.head _ | apply List.Mem.tail)) TMsg.len rfl) ?_
                refine WpA.tF 4 rfl (V.as) ?_
                refine WpA.oS 5 rfl (O.stA tb ⟨?_, ?_, ?_⟩)
                exact holdT
                exact holdT
                refine WpA.ou ?_
                apply Out.seqN
                apply Wp.ret
                apply Out.seqR
                refine Out.f2 rfl ResIs.t (ResIs.ca tb) ⟨?_, rfl⟩
                exact rfl
                (try simp only [decide_eq_true_eq, decide_eq_false_iff_not, Bool.not_eq_true', Bool.not_eq_false', Bool.not_eq_true, Bool.not_eq_false, not_true_eq_false, not_false_eq_true, reduceCtorEq] at h12)
                (exfalso; omega)
                (try simp only [decide_eq_true_eq, decide_eq_false_iff_not, Bool.not_eq_true', Bool.not_eq_false', Bool.not_eq_true, Bool.not_eq_false, not_true_eq_false, not_false_eq_true, reduceCtorEq] at h11)
                (exfalso; omega)
                (try simp only [decide_eq_true_eq, decide_eq_false_iff_not, Bool.not_eq_true', Bool.not_eq_false', Bool.not_eq_true, Bool.not_eq_false, not_true_eq_false, not_false_eq_true, reduceCtorEq] at h7)
                contradiction
              · rw [show choose n x xs = (3, asks a.Call xs) by unfold choose; rw [if_neg hlen, hc3]; simp only [hac, hsm, hft, if_false, hc1]]
                refine Ct.enter Try.func25 rfl rfl fun W => ?_
                apply Wp.seq
                apply Wp.region
                refine WpL.o (O.bxA (fun p4 => ?_))
                refine WpL.v (V.as) ?_
                refine WpL.o (O.al tb (fun p7 => ?_))
                apply WpL.nil
                apply Out.seqN
                apply Wp.seq
                apply Wp.seq
                apply Wp.region
                refine WpL.v (V.mv) ?_
                refine WpL.v (V.lenL tb) ?_
                refine WpL.v (V.mv) ?_
                refine WpL.o (Op1.fn rfl (hM) ?_)
                refine WpL.v (V.cmp) ?_
                apply WpL.nil
                apply Out.seqN
                refine Wp.c (fun h0 => ?_) (fun h0 => ?_)
                (try simp only [decide_eq_true_eq, decide_eq_false_iff_not, Bool.not_eq_true', Bool.not_eq_false', Bool.not_eq_true, Bool.not_eq_false, not_true_eq_false, not_false_eq_true, reduceCtorEq] at h0)
                (exfalso; omega)
                (try simp only [decide_eq_true_eq, decide_eq_false_iff_not, Bool.not_eq_true', Bool.not_eq_false', Bool.not_eq_true, Bool.not_eq_false, not_true_eq_false, not_false_eq_true, reduceCtorEq] at h0)
                apply Wp.skip
                apply Out.seqN
                apply Wp.seq
                apply Wp.seq
                apply Wp.region
                refine WpL.v (V.mv) ?_
                refine WpL.o (Op1.callT rfl (h3) (by (repeat (first | exact Sel.nil | exact Rem.here | apply Sel.cons | apply Rem.there))) ?_)
                rintro v1 s2 ⟨rfl, rfl⟩
                refine incat ?_
                refine WpL.v (V.mv) ?_
                refine WpL.v (V.ex) ?_
                refine WpL.v (V.ex) ?_
                refine WpL.o (O.al tb (fun p8 => ?_))
                refine WpL.o (O.stA tb ?_)
                refine WpL.v (V.as) ?_
                apply WpL.nil
                apply Out.seqN
                apply Wp.seq
                apply Wp.region
                refine WpL.v (V.mv) ?_
                apply WpL.nil
                apply Out.seqN
                refine Wp.cF ?_
                apply Wp.skip
                apply Out.seqN
                apply Wp.seq
                apply Wp.region
                refine WpL.v (V.mv) ?_
                refine WpL.o (Op1.callT rfl (h1) (by (repeat (first | exact Sel.nil | exact Rem.here | apply Sel.cons | apply Rem.there))) ?_)
                rintro v3 s4 ⟨rfl, rfl⟩
                refine incat ?_
                refine WpL.v (V.mv) ?_
                refine WpL.v (V.ex) ?_
                refine WpL.v (V.ex) ?_
                refine WpL.o (O.al tb (fun p10 => ?_))
                refine WpL.o (O.stA tb ?_)
                refine WpL.v (V.as) ?_
                apply WpL.nil
                apply Out.seqN
                apply Wp.seq
                apply Wp.seq
                apply Wp.region
                refine WpL.v (V.mv) ?_
                refine WpL.o (Op1.callT rfl (h2) (by (repeat (first | exact Sel.nil | exact Rem.here | apply Sel.cons | apply Rem.there))) ?_)
                rintro v5 s6 ⟨rfl, rfl⟩
                refine incat ?_
                refine WpL.v (V.mv) ?_
                refine WpL.v (V.ex) ?_
                refine WpL.v (V.ex) ?_
                refine WpL.o (O.al tb (fun p12 => ?_))
                refine WpL.o (O.stA tb ?_)
                refine WpL.v (V.as) ?_
                apply WpL.nil
                apply Out.seqN
                apply Wp.seq
                apply Wp.region
                refine WpL.v (V.mv) ?_
                refine WpL.v (V.mv) ?_
                refine WpL.pt (fun h7 => ?_) (fun h7 => ?_)
                (try simp only [decide_eq_true_eq, decide_eq_false_iff_not, Bool.not_eq_true', Bool.not_eq_false', Bool.not_eq_true, Bool.not_eq_false, not_true_eq_false, not_false_eq_true, reduceCtorEq] at h7)
                refine WpL.v (V.mv) ?_
                refine WpL.v (V.not) ?_
                refine WpL.v (V.mv) ?_
                refine WpL.pt (fun h8 => ?_) (fun h8 => ?_)
                (try simp only [decide_eq_true_eq, decide_eq_false_iff_not, Bool.not_eq_true', Bool.not_eq_false', Bool.not_eq_true, Bool.not_eq_false, not_true_eq_false, not_false_eq_true, reduceCtorEq] at h8)
                contradiction
                (try simp only [decide_eq_true_eq, decide_eq_false_iff_not, Bool.not_eq_true', Bool.not_eq_false', Bool.not_eq_true, Bool.not_eq_false, not_true_eq_false, not_false_eq_true, reduceCtorEq] at h8)
                refine WpL.v (V.fa tb) ?_
                refine WpL.v (V.ldA tb) ?_
                refine WpL.v (V.fa tb) ?_
                refine WpL.v (V.ldA tb) ?_
                refine WpL.o (Op1.fn rfl (hL) ?_)
                refine WpL.v (V.not) ?_
                refine WpL.v (V.pF) ?_
                refine WpL.v (V.pT) ?_
                apply WpL.nil
                apply Out.seqN
                refine Wp.cF ?_
                apply Wp.skip
                apply Out.seqN
                apply Wp.seq
                apply Wp.seq
                apply Wp.region
                refine WpL.v (V.ldA tb) ?_
                refine WpL.v (V.mv) ?_
                refine WpL.o (Op1.callT rfl (hS) (by (repeat (first | exact Sel.nil | exact Rem.here | apply Sel.cons | apply Rem.there))) ?_)
                rintro v9 s10 ⟨g59, ⟨cp59, ⟨rfl, rfl⟩⟩⟩
                refine incat ?_
                refine WpL.v (V.as) ?_
                apply WpL.nil
                apply Out.seqN
                apply Wp.seq
                apply Wp.region
                refine WpL.v (V.mv) ?_
                refine WpL.v (V.lenL tb) ?_
                refine WpL.v (V.mv) ?_
                refine WpL.o (Op1.fn rfl (hF) ?_)
                refine WpL.v (V.cmp) ?_
                refine WpL.v (V.mv) ?_
                refine WpL.pt (fun h11 => ?_) (fun h11 => ?_)
                (try simp only [decide_eq_true_eq, decide_eq_false_iff_not, Bool.not_eq_true', Bool.not_eq_false', Bool.not_eq_true, Bool.not_eq_false, not_true_eq_false, not_false_eq_true, reduceCtorEq] at h11)
                (exfalso; omega)
                (try simp only [decide_eq_true_eq, decide_eq_false_iff_not, Bool.not_eq_true', Bool.not_eq_false', Bool.not_eq_true, Bool.not_eq_false, not_true_eq_false, not_false_eq_true, reduceCtorEq] at h11)
                refine WpL.sk ?_
                refine WpL.sk ?_
                refine WpL.sk ?_
                refine WpL.v (V.pF) ?_
                apply WpL.nil
                apply Out.seqN
                refine Wp.cF ?_
                apply Wp.skip
                apply Out.seqN
                apply Wp.seq
                apply Wp.seq
                apply Wp.region
                refine WpL.v (V.mv) ?_
                refine WpL.v (V.not) ?_
                apply WpL.nil
                apply Out.seqN
                refine Wp.c (fun h12 => ?_) (fun h12 => ?_)
                (try simp only [decide_eq_true_eq, decide_eq_false_iff_not, Bool.not_eq_true', Bool.not_eq_false', Bool.not_eq_true, Bool.not_eq_false, not_true_eq_false, not_false_eq_true, reduceCtorEq] at h12)
                contradiction
                (try simp only [decide_eq_true_eq, decide_eq_false_iff_not, Bool.not_eq_true', Bool.not_eq_false', Bool.not_eq_true, Bool.not_eq_false, not_true_eq_false, not_false_eq_true, reduceCtorEq] at h12)
                apply Wp.skip
                apply Out.seqN
                apply Wp.seq
                apply Wp.region
                refine WpL.v (V.fa tb) ?_
                refine WpL.v (V.ldA tb) ?_
                refine WpL.o (O.al tb (fun p15 => ?_))
                refine WpL.o (O.stA tb ?_)
                apply WpL.nil
                apply Out.seqN
                apply Wp.seq
                apply Wp.seq
                apply Wp.region
                refine WpL.v (V.mv) ?_
                refine WpL.v (V.lenL tb) ?_
                refine WpL.v (V.mv) ?_
                apply WpL.nil
                apply Out.seqN
                apply Wp.block
                rotate_left
                (try simp only [decide_eq_true_eq, decide_eq_false_iff_not, Bool.not_eq_true', Bool.not_eq_false', Bool.not_eq_true, Bool.not_eq_false, not_true_eq_false, not_false_eq_true, reduceCtorEq] at h7)
                contradiction
                refine Wp.lp [80, 79, 15, 7] (fun i : Nat => i ≤ xs.length) (fun i => [(81, I (i : Int))]) (fun i => [cells p15 33 (asks a.Call (xs.take i)).c]) (fun i => xs.length - i) 0 (Nat.zero_le _) ?_
                rintro i hi0 K hK
                dsimp only [List.cons_append, List.nil_append]
                by_cases hlt : i < xs.length
                · obtain ⟨p, hp⟩ := getS hlt
                  have q1 := take_snocS hp
                  have q2 : asks a.Call (xs.take (i + 1)) = (if p.Status = 1 then mrg (asks a.Call (xs.take i)) p.Call else asks a.Call (xs.take i)) := by rw [q1, asks_snoc]
                  generalize asks a.Call (xs.take i) = c at *
                  have hG (g : Nat) : Ct Try.prog 80 [A c.c, .slice (some ⟨g, 0, none⟩) 1 1] [rows TCall.c (.slice (some ⟨g, 0, none⟩) 1 1) 33 14 [p.Call]] (fun r σ' => r = A (mrg c p.Call).c ∧ σ' = [rows TCall.c (.slice (some ⟨g, 0, none⟩) 1 1) 33 14 [p.Call]]) :=
                    deps_merge _ _ 1 _ _ c [p.Call] (Rd.rows (l := [p.Call]) TCall.len (by simp))
                  by_cases hs : p.Status = 1
                  · rw [if_pos hs] at q2
                    apply Wp.seq
                    apply Wp.region
                    refine WpL.v (V.cmp) ?_
                    apply WpL.nil
                    apply Out.seqN
                    apply Wp.seq
                    refine Wp.c (fun h0 => ?_) (fun h0 => ?_)
                    (try simp only [decide_eq_true_eq, decide_eq_false_iff_not, Bool.not_eq_true', Bool.not_eq_false', Bool.not_eq_true, Bool.not_eq_false, not_true_eq_false, not_false_eq_true, reduceCtorEq] at h0)
                    apply Wp.skip
                    apply Out.seqN
                    apply Wp.seq
                    apply Wp.block
                    apply Wp.seq
                    apply Wp.region
                    refine WpL.v (V.ixR tb rfl rfl (by assumption)) ?_
                    refine WpL.v (V.ldRA tb rfl (by assumption) (getMapS (by assumption))) ?_
                    refine WpL.o (O.al tb (fun p17 => ?_))
                    refine WpL.o (O.stA tb ?_)
                    apply WpL.nil
                    apply Out.seqN
                    apply Wp.seq
                    apply Wp.region
                    refine WpL.v (V.fa tb) ?_
                    refine WpL.v (V.ld1 tb) ?_
                    refine WpL.v (V.cmp) ?_
                    apply WpL.nil
                    apply Out.seqN
                    refine Wp.c (fun h1 => ?_) (fun h1 => ?_)
                    (try simp only [decide_eq_true_eq, decide_eq_false_iff_not, Bool.not_eq_true', Bool.not_eq_false', Bool.not_eq_true, Bool.not_eq_false, not_true_eq_false, not_false_eq_true, reduceCtorEq] at h1)
                    apply Wp.region
                    refine WpL.v (V.ldA tb) ?_
                    refine WpL.v (V.fa tb) ?_
                    refine WpL.v (V.ldA tb) ?_
                    refine WpL.o (O.litL tb TCall.c [p.Call] rfl (PartsFrom.agg rfl PartsFrom.nil) rfl rfl (fun p91 => ?_))
                    refine WpL.o (Op1.callT rfl (hG _) (by (repeat (first | exact Sel.nil | exact Rem.here | apply Sel.cons | apply Rem.there))) ?_)
                    rintro v2 s3 ⟨rfl, rfl⟩
                    refine incat ?_
                    refine WpL.o (O.stA tb ?_)
                    apply WpL.nil
                    apply Out.blockN
                    apply Out.seqN
                    apply Wp.region
                    refine WpL.v (V.add) ?_
                    refine WpL.v (V.mv) ?_
                    apply WpL.nil
                    rotate_left
                    (try simp only [decide_eq_true_eq, decide_eq_false_iff_not, Bool.not_eq_true', Bool.not_eq_false', Bool.not_eq_true, Bool.not_eq_false, not_true_eq_false, not_false_eq_true, reduceCtorEq] at h1)
                    (exfalso; omega)
                    (try simp only [decide_eq_true_eq, decide_eq_false_iff_not, Bool.not_eq_true', Bool.not_eq_false', Bool.not_eq_true, Bool.not_eq_false, not_true_eq_false, not_false_eq_true, reduceCtorEq] at h0)
                    (exfalso; omega)
                    all_goals exact Out.ag hK (i + 1) (by show i + 1 ≤ _; omega) (by show xs.length - (i + 1) < xs.length - i; omega) (hs := by rw [q2]; (repeat (first | exact Sel.nil | exact Rem.here | apply Sel.cons | apply Rem.there)))
                  · rw [if_neg hs] at q2
                    apply Wp.seq
                    apply Wp.region
                    refine WpL.v (V.cmp) ?_
                    apply WpL.nil
                    apply Out.seqN
                    apply Wp.seq
                    refine Wp.c (fun h0 => ?_) (fun h0 => ?_)
                    (try simp only [decide_eq_true_eq, decide_eq_false_iff_not, Bool.not_eq_true', Bool.not_eq_false', Bool.not_eq_true, Bool.not_eq_false, not_true_eq_false, not_false_eq_true, reduceCtorEq] at h0)
                    apply Wp.skip
                    apply Out.seqN
                    apply Wp.seq
                    apply Wp.block
                    apply Wp.seq
                    apply Wp.region
                    refine WpL.v (V.ixR tb rfl rfl (by assumption)) ?_
                    refine WpL.v (V.ldRA tb rfl (by assumption) (getMapS (by assumption))) ?_
                    refine WpL.o (O.al tb (fun p17 => ?_))
                    refine WpL.o (O.stA tb ?_)
                    apply WpL.nil
                    apply Out.seqN
                    apply Wp.seq
                    apply Wp.region
                    refine WpL.v (V.fa tb) ?_
                    refine WpL.v (V.ld1 tb) ?_
                    refine WpL.v (V.cmp) ?_
                    apply WpL.nil
                    apply Out.seqN
                    refine Wp.c (fun h1 => ?_) (fun h1 => ?_)
                    (try simp only [decide_eq_true_eq, decide_eq_false_iff_not, Bool.not_eq_true', Bool.not_eq_false', Bool.not_eq_true, Bool.not_eq_false, not_true_eq_false, not_false_eq_true, reduceCtorEq] at h1)
                    (exfalso; omega)
                    (try simp only [decide_eq_true_eq, decide_eq_false_iff_not, Bool.not_eq_true', Bool.not_eq_false', Bool.not_eq_true, Bool.not_eq_false, not_true_eq_false, not_false_eq_true, reduceCtorEq] at h1)
                    apply Wp.skip
                    apply Out.blockN
                    apply Out.seqN
                    apply Wp.region
                    refine WpL.v (V.add) ?_
                    refine WpL.v (V.mv) ?_
                    apply WpL.nil
                    rotate_left
                    (try simp only [decide_eq_true_eq, decide_eq_false_iff_not, Bool.not_eq_true', Bool.not_eq_false', Bool.not_eq_true, Bool.not_eq_false, not_true_eq_false, not_false_eq_true, reduceCtorEq] at h0)
                    (exfalso; omega)
                    all_goals exact Out.ag hK (i + 1) (by show i + 1 ≤ _; omega) (by show xs.length - (i + 1) < xs.length - i; omega) (hs := by rw [q2]; (repeat (first | exact Sel.nil | exact Rem.here | apply Sel.cons | apply Rem.there)))
                · obtain rfl : i = xs.length := by omega
                  rw [List.take_length]
                  clear hK
                  apply Wp.seq
                  apply Wp.region
                  refine WpL.v (V.cmp) ?_
                  apply WpL.nil
                  apply Out.seqN
                  apply Wp.seq
                  refine Wp.c (fun h0 => ?_) (fun h0 => ?_)
                  (try simp only [decide_eq_true_eq, decide_eq_false_iff_not, Bool.not_eq_true', Bool.not_eq_false', Bool.not_eq_true, Bool.not_eq_false, not_true_eq_false, not_false_eq_true, reduceCtorEq] at h0)
                  (exfalso; omega)
                  (try simp only [decide_eq_true_eq, decide_eq_false_iff_not, Bool.not_eq_true', Bool.not_eq_false', Bool.not_eq_true, Bool.not_eq_false, not_true_eq_false, not_false_eq_true, reduceCtorEq] at h0)
                  apply Wp.exit
                  apply Out.seqE
                  apply Out.seqE
                  apply Out.blockE
                  apply Out.seqN
                  apply Wp.seq
                  refine Wp.dG [] ?_ (List.Sublist.cons_cons _ (List.Sublist.cons _ (List.Sublist.cons _ (List.Sublist.cons _ (List.Sublist.cons _ (List.Sublist.cons _ (List.Sublist.cons _ (List.Sublist.cons _ List.Sublist.slnil)))))))) (List.Sublist.cons_cons _ (List.Sublist.cons _ (List.Sublist.cons _ (List.Sublist.cons _ (List.Sublist.cons _ (List.Sublist.cons _ (List.Sublist.cons _ (List.Sublist.cons _ List.Sublist.slnil))))))))
                  refine WpA.tF 0 rfl (V.ldA tb) ?_
                  refine WpA.tF 1 rfl (V.as) ?_
                  refine WpA.oS 2 rfl (O.stA tb ⟨?_, ?_, ?_⟩)
                  exact holdT
                  exact holdT
                  refine WpA.ou ?_
                  apply Out.seqN
                  apply Wp.ret
                  refine Out.f2 rfl ResIs.t (ResIs.ca tb) ⟨?_, rfl⟩
                  exact rfl
            | nil =>
              have hS := rescue_same e ao cap b off xs x hx hR
              rw [hsm] at hS
              rw [show choose n x xs = (3, asks a.Call xs) by unfold choose; rw [if_neg hlen, hc3]; simp only [hac, hsm, hc1]]
              refine Ct.enter Try.func25 rfl rfl fun W => ?_
              apply Wp.seq
              apply Wp.region
              refine WpL.o (O.bxA (fun p4 => ?_))
              refine WpL.v (V.as) ?_
              refine WpL.o (O.al tb (fun p7 => ?_))
              apply WpL.nil
              apply Out.seqN
              apply Wp.seq
              apply Wp.seq
              apply Wp.region
              refine WpL.v (V.mv) ?_
              refine WpL.v (V.lenL tb) ?_
              refine WpL.v (V.mv) ?_
              refine WpL.o (Op1.fn rfl (hM) ?_)
              refine WpL.v (V.cmp) ?_
              apply WpL.nil
              apply Out.seqN
              refine Wp.c (fun h0 => ?_) (fun h0 => ?_)
              (try simp only [decide_eq_true_eq, decide_eq_false_iff_not, Bool.not_eq_true', Bool.not_eq_false', Bool.not_eq_true, Bool.not_eq_false, not_true_eq_false, not_false_eq_true, reduceCtorEq] at h0)
              (exfalso; omega)
              (try simp only [decide_eq_true_eq, decide_eq_false_iff_not, Bool.not_eq_true', Bool.not_eq_false', Bool.not_eq_true, Bool.not_eq_false, not_true_eq_false, not_false_eq_true, reduceCtorEq] at h0)
              apply Wp.skip
              apply Out.seqN
              apply Wp.seq
              apply Wp.seq
              apply Wp.region
              refine WpL.v (V.mv) ?_
              refine WpL.o (Op1.callT rfl (h3) (by (repeat (first | exact Sel.nil | exact Rem.here | apply Sel.cons | apply Rem.there))) ?_)
              rintro v1 s2 ⟨rfl, rfl⟩
              refine incat ?_
              refine WpL.v (V.mv) ?_
              refine WpL.v (V.ex) ?_
              refine WpL.v (V.ex) ?_
              refine WpL.o (O.al tb (fun p8 => ?_))
              refine WpL.o (O.stA tb ?_)
              refine WpL.v (V.as) ?_
              apply WpL.nil
              apply Out.seqN
              apply Wp.seq
              apply Wp.region
              refine WpL.v (V.mv) ?_
              apply WpL.nil
              apply Out.seqN
              refine Wp.cF ?_
              apply Wp.skip
              apply Out.seqN
              apply Wp.seq
              apply Wp.region
              refine WpL.v (V.mv) ?_
              refine WpL.o (Op1.callT rfl (h1) (by (repeat (first | exact Sel.nil | exact Rem.here | apply Sel.cons | apply Rem.there))) ?_)
              rintro v3 s4 ⟨rfl, rfl⟩
              refine incat ?_
              refine WpL.v (V.mv) ?_
              refine WpL.v (V.ex) ?_
              refine WpL.v (V.ex) ?_
              refine WpL.o (O.al tb (fun p10 => ?_))
              refine WpL.o (O.stA tb ?_)
              refine WpL.v (V.as) ?_
              apply WpL.nil
              apply Out.seqN
              apply Wp.seq
              apply Wp.seq
              apply Wp.region
              refine WpL.v (V.mv) ?_
              refine WpL.o (Op1.callT rfl (h2) (by (repeat (first | exact Sel.nil | exact Rem.here | apply Sel.cons | apply Rem.there))) ?_)
              rintro v5 s6 ⟨rfl, rfl⟩
              refine incat ?_
              refine WpL.v (V.mv) ?_
              refine WpL.v (V.ex) ?_
              refine WpL.v (V.ex) ?_
              refine WpL.o (O.al tb (fun p12 => ?_))
              refine WpL.o (O.stA tb ?_)
              refine WpL.v (V.as) ?_
              apply WpL.nil
              apply Out.seqN
              apply Wp.seq
              apply Wp.region
              refine WpL.v (V.mv) ?_
              refine WpL.v (V.mv) ?_
              refine WpL.pt (fun h7 => ?_) (fun h7 => ?_)
              (try simp only [decide_eq_true_eq, decide_eq_false_iff_not, Bool.not_eq_true', Bool.not_eq_false', Bool.not_eq_true, Bool.not_eq_false, not_true_eq_false, not_false_eq_true, reduceCtorEq] at h7)
              refine WpL.v (V.mv) ?_
              refine WpL.v (V.not) ?_
              refine WpL.v (V.mv) ?_
              refine WpL.pt (fun h8 => ?_) (fun h8 => ?_)
              (try simp only [decide_eq_true_eq, decide_eq_false_iff_not, Bool.not_eq_true', Bool.not_eq_false', Bool.not_eq_true, Bool.not_eq_false, not_true_eq_false, not_false_eq_true, reduceCtorEq] at h8)
              contradiction
              (try simp only [decide_eq_true_eq, decide_eq_false_iff_not, Bool.not_eq_true', Bool.not_eq_false', Bool.not_eq_true, Bool.not_eq_false, not_true_eq_false, not_false_eq_true, reduceCtorEq] at h8)
              refine WpL.v (V.fa tb) ?_
              refine WpL.v (V.ldA tb) ?_
              refine WpL.v (V.fa tb) ?_
              refine WpL.v (V.ldA tb) ?_
              refine WpL.o (Op1.fn rfl (hL) ?_)
              refine WpL.v (V.not) ?_
              refine WpL.v (V.pF) ?_
              refine WpL.v (V.pT) ?_
              apply WpL.nil
              apply Out.seqN
              refine Wp.cF ?_
              apply Wp.skip
              apply Out.seqN
              apply Wp.seq
              apply Wp.seq
              apply Wp.region
              refine WpL.v (V.ldA tb) ?_
              refine WpL.v (V.mv) ?_
              refine WpL.o (Op1.callT rfl (hS) (by (repeat (first | exact Sel.nil | exact Rem.here | apply Sel.cons | apply Rem.there))) ?_)
              rintro v9 s10 ⟨v59, ⟨rfl, rfl⟩⟩
              refine incat ?_
              refine WpL.v (V.as) ?_
              apply WpL.nil
              apply Out.seqN
              apply Wp.seq
              apply Wp.region
              refine WpL.v (V.mv) ?_
              refine WpL.v (V.lenRows tb) ?_
              refine WpL.v (V.mv) ?_
              refine WpL.o (Op1.fn rfl (hF) ?_)
              refine WpL.v (V.cmp rfl rfl hq0) ?_
              refine WpL.v (V.mv) ?_
              refine WpL.sk ?_
              refine WpL.sk ?_
              refine WpL.sk ?_
              refine WpL.v (V.pF) ?_
              apply WpL.nil
              apply Out.seqN
              refine Wp.cF ?_
              apply Wp.skip
              apply Out.seqN
              apply Wp.seq
              apply Wp.seq
              apply Wp.region
              refine WpL.v (V.mv) ?_
              refine WpL.v (V.not) ?_
              apply WpL.nil
              apply Out.seqN
              refine Wp.c (fun h11 => ?_) (fun h11 => ?_)
              (try simp only [decide_eq_true_eq, decide_eq_false_iff_not, Bool.not_eq_true', Bool.not_eq_false', Bool.not_eq_true, Bool.not_eq_false, not_true_eq_false, not_false_eq_true, reduceCtorEq] at h11)
              contradiction
              (try simp only [decide_eq_true_eq, decide_eq_false_iff_not, Bool.not_eq_true', Bool.not_eq_false', Bool.not_eq_true, Bool.not_eq_false, not_true_eq_false, not_false_eq_true, reduceCtorEq] at h11)
              apply Wp.skip
              apply Out.seqN
              apply Wp.seq
              apply Wp.region
              refine WpL.v (V.fa tb) ?_
              refine WpL.v (V.ldA tb) ?_
              refine WpL.o (O.al tb (fun p15 => ?_))
              refine WpL.o (O.stA tb ?_)
              apply WpL.nil
              apply Out.seqN
              apply Wp.seq
              apply Wp.seq
              apply Wp.region
              refine WpL.v (V.mv) ?_
              refine WpL.v (V.lenL tb) ?_
              refine WpL.v (V.mv) ?_
              apply WpL.nil
              apply Out.seqN
              apply Wp.block
              rotate_left
              (try simp only [decide_eq_true_eq, decide_eq_false_iff_not, Bool.not_eq_true', Bool.not_eq_false', Bool.not_eq_true, Bool.not_eq_false, not_true_eq_false, not_false_eq_true, reduceCtorEq] at h7)
              contradiction
              refine Wp.lp [80, 79, 15, 7] (fun i : Nat => i ≤ xs.length) (fun i => [(81, I (i : Int))]) (fun i => [cells p15 33 (asks a.Call (xs.take i)).c]) (fun i => xs.length - i) 0 (Nat.zero_le _) ?_
              rintro i hi0 K hK
              dsimp only [List.cons_append, List.nil_append]
              by_cases hlt : i < xs.length
              · obtain ⟨p, hp⟩ := getS hlt
                have q1 := take_snocS hp
                have q2 : asks a.Call (xs.take (i + 1)) = (if p.Status = 1 then mrg (asks a.Call (xs.take i)) p.Call else asks a.Call (xs.take i)) := by rw [q1, asks_snoc]
                generalize asks a.Call (xs.take i) = c at *
                have hG (g : Nat) : Ct Try.prog 80 [A c.c, .slice (some ⟨g, 0, none⟩) 1 1] [rows TCall.c (.slice (some ⟨g, 0, none⟩) 1 1) 33 14 [p.Call]] (fun r σ' => r = A (mrg c p.Call).c ∧ σ' = [rows TCall.c (.slice (some ⟨g, 0, none⟩) 1 1) 33 14 [p.Call]]) :=
                  deps_merge _ _ 1 _ _ c [p.Call] (Rd.rows (l := [p.Call]) TCall.len (by simp))
                by_cases hs : p.Status = 1
                · rw [if_pos hs] at q2
                  apply Wp.seq
                  apply Wp.region
                  refine WpL.v (V.cmp) ?_
                  apply WpL.nil
                  apply Out.seqN
                  apply Wp.seq
                  refine Wp.c (fun h0 => ?_) (fun h0 => ?_)
                  (try simp only [decide_eq_true_eq, decide_eq_false_iff_not, Bool.not_eq_true', Bool.not_eq_false', Bool.not_eq_true, Bool.not_eq_false, not_true_eq_false, not_false_eq_true, reduceCtorEq] at h0)
                  apply Wp.skip
                  apply Out.seqN
                  apply Wp.seq
                  apply Wp.block
                  apply Wp.seq
                  apply Wp.region
                  refine WpL.v (V.ixR tb rfl rfl (by assumption)) ?_
                  refine WpL.v (V.ldRA tb rfl (by assumption) (getMapS (by assumption))) ?_
                  refine WpL.o (O.al tb (fun p17 => ?_))
                  refine WpL.o (O.stA tb ?_)
                  apply WpL.nil
                  apply Out.seqN
                  apply Wp.seq
                  apply Wp.region
                  refine WpL.v (V.fa tb) ?_
                  refine WpL.v (V.ld1 tb) ?_
                  refine WpL.v (V.cmp) ?_
                  apply WpL.nil
                  apply Out.seqN
                  refine Wp.c (fun h1 => ?_) (fun h1 => ?_)
                  (try simp only [decide_eq_true_eq, decide_eq_false_iff_not, Bool.not_eq_true', Bool.not_eq_false', Bool.not_eq_true, Bool.not_eq_false, not_true_eq_false, not_false_eq_true, reduceCtorEq] at h1)
                  apply Wp.region
                  refine WpL.v (V.ldA tb) ?_
                  refine WpL.v (V.fa tb) ?_
                  refine WpL.v (V.ldA tb) ?_
                  refine WpL.o (O.litL tb TCall.c [p.Call] rfl (PartsFrom.agg rfl PartsFrom.nil) rfl rfl (fun p91 => ?_))
                  refine WpL.o (Op1.callT rfl (hG _) (by (repeat (first | exact Sel.nil | exact Rem.here | apply Sel.cons | apply Rem.there))) ?_)
                  rintro v2 s3 ⟨rfl, rfl⟩
                  refine incat ?_
                  refine WpL.o (O.stA tb ?_)
                  apply WpL.nil
                  apply Out.blockN
                  apply Out.seqN
                  apply Wp.region
                  refine WpL.v (V.add) ?_
                  refine WpL.v (V.mv) ?_
                  apply WpL.nil
                  rotate_left
                  (try simp only [decide_eq_true_eq, decide_eq_false_iff_not, Bool.not_eq_true', Bool.not_eq_false', Bool.not_eq_true, Bool.not_eq_false, not_true_eq_false, not_false_eq_true, reduceCtorEq] at h1)
                  (exfalso; omega)
                  (try simp only [decide_eq_true_eq, decide_eq_false_iff_not, Bool.not_eq_true', Bool.not_eq_false', Bool.not_eq_true, Bool.not_eq_false, not_true_eq_false, not_false_eq_true, reduceCtorEq] at h0)
                  (exfalso; omega)
                  all_goals exact Out.ag hK (i + 1) (by show i + 1 ≤ _; omega) (by show xs.length - (i + 1) < xs.length - i; omega) (hs := by rw [q2]; (repeat (first | exact Sel.nil | exact Rem.here | apply Sel.cons | apply Rem.there)))
                · rw [if_neg hs] at q2
                  apply Wp.seq
                  apply Wp.region
                  refine WpL.v (V.cmp) ?_
                  apply WpL.nil
                  apply Out.seqN
                  apply Wp.seq
                  refine Wp.c (fun h0 => ?_) (fun h0 => ?_)
                  (try simp only [decide_eq_true_eq, decide_eq_false_iff_not, Bool.not_eq_true', Bool.not_eq_false', Bool.not_eq_true, Bool.not_eq_false, not_true_eq_false, not_false_eq_true, reduceCtorEq] at h0)
                  apply Wp.skip
                  apply Out.seqN
                  apply Wp.seq
                  apply Wp.block
                  apply Wp.seq
                  apply Wp.region
                  refine WpL.v (V.ixR tb rfl rfl (by assumption)) ?_
                  refine WpL.v (V.ldRA tb rfl (by assumption) (getMapS (by assumption))) ?_
                  refine WpL.o (O.al tb (fun p17 => ?_))
                  refine WpL.o (O.stA tb ?_)
                  apply WpL.nil
                  apply Out.seqN
                  apply Wp.seq
                  apply Wp.region
                  refine WpL.v (V.fa tb) ?_
                  refine WpL.v (V.ld1 tb) ?_
                  refine WpL.v (V.cmp) ?_
                  apply WpL.nil
                  apply Out.seqN
                  refine Wp.c (fun h1 => ?_) (fun h1 => ?_)
                  (try simp only [decide_eq_true_eq, decide_eq_false_iff_not, Bool.not_eq_true', Bool.not_eq_false', Bool.not_eq_true, Bool.not_eq_false, not_true_eq_false, not_false_eq_true, reduceCtorEq] at h1)
                  (exfalso; omega)
                  (try simp only [decide_eq_true_eq, decide_eq_false_iff_not, Bool.not_eq_true', Bool.not_eq_false', Bool.not_eq_true, Bool.not_eq_false, not_true_eq_false, not_false_eq_true, reduceCtorEq] at h1)
                  apply Wp.skip
                  apply Out.blockN
                  apply Out.seqN
                  apply Wp.region
                  refine WpL.v (V.add) ?_
                  refine WpL.v (V.mv) ?_
                  apply WpL.nil
                  rotate_left
                  (try simp only [decide_eq_true_eq, decide_eq_false_iff_not, Bool.not_eq_true', Bool.not_eq_false', Bool.not_eq_true, Bool.not_eq_false, not_true_eq_false, not_false_eq_true, reduceCtorEq] at h0)
                  (exfalso; omega)
                  all_goals exact Out.ag hK (i + 1) (by show i + 1 ≤ _; omega) (by show xs.length - (i + 1) < xs.length - i; omega) (hs := by rw [q2]; (repeat (first | exact Sel.nil | exact Rem.here | apply Sel.cons | apply Rem.there)))
              · obtain rfl : i = xs.length := by omega
                rw [List.take_length]
                clear hK
                apply Wp.seq
                apply Wp.region
                refine WpL.v (V.cmp) ?_
                apply WpL.nil
                apply Out.seqN
                apply Wp.seq
                refine Wp.c (fun h0 => ?_) (fun h0 => ?_)
                (try simp only [decide_eq_true_eq, decide_eq_false_iff_not, Bool.not_eq_true', Bool.not_eq_false', Bool.not_eq_true, Bool.not_eq_false, not_true_eq_false, not_false_eq_true, reduceCtorEq] at h0)
                (exfalso; omega)
                (try simp only [decide_eq_true_eq, decide_eq_false_iff_not, Bool.not_eq_true', Bool.not_eq_false', Bool.not_eq_true, Bool.not_eq_false, not_true_eq_false, not_false_eq_true, reduceCtorEq] at h0)
                apply Wp.exit
                apply Out.seqE
                apply Out.seqE
                apply Out.blockE
                apply Out.seqN
                apply Wp.seq
                refine Wp.dG [] ?_ (List.Sublist.cons_cons _ (List.Sublist.cons _ (List.Sublist.cons _ (List.Sublist.cons _ (List.Sublist.cons _ (List.Sublist.cons _ (List.Sublist.cons _ (List.Sublist.cons _ List.Sublist.slnil)))))))) (List.Sublist.cons_cons _ (List.Sublist.cons _ (List.Sublist.cons _ (List.Sublist.cons _ (List.Sublist.cons _ (List.Sublist.cons _ (List.Sublist.cons _ (List.Sublist.cons _ List.Sublist.slnil))))))))
                refine WpA.tF 0 rfl (V.ldA tb) ?_
                refine WpA.tF 1 rfl (V.as) ?_
                refine WpA.oS 2 rfl (O.stA tb ⟨?_, ?_, ?_⟩)
                exact holdT
                exact holdT
                refine WpA.ou ?_
                apply Out.seqN
                apply Wp.ret
                refine Out.f2 rfl ResIs.t (ResIs.ca tb) ⟨?_, rfl⟩
                exact rfl

end Go.Proofs.Ythoepbbpmdmfeaa
