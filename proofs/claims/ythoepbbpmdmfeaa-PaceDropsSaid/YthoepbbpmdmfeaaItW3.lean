/-
  Layer 17: a wheel of items: its methods.
-/
import Derived.Test.YthoepbbpmdmfeaaItW2
namespace Go.Proofs.Ythoepbbpmdmfeaa
open Go.HL
set_option linter.unusedSimpArgs false
set_option linter.unusedVariables false
set_option maxRecDepth 8000
theorem Iwheel_new : Ct Try.prog 100 [] [] (fun r σ' => ∃ p, r = Ptr p 0 ∧ σ' = IwhE p (.slice none 0 0) 0 []) := by
  refine Ct.enter Try.func100 rfl rfl fun W => ?_
  refine Wp.nilRows WheelSpokeOfItem.c 183 4 ?_
  apply Wp.seq
  apply Wp.region
  refine WpL.v (V.as) ?_
  apply WpL.nil
  apply Out.seqN
  apply Wp.seq
  apply Wp.region
  refine WpL.v (V.bld tb) ?_
  refine WpL.o (O.bxA (fun p2 => ?_))
  refine WpL.v (V.as) ?_
  apply WpL.nil
  apply Out.seqN
  apply Wp.ret
  refine Out.e1 rfl ResIs.t ?_
  exact ⟨_, _, ⟨_, rfl, rfl⟩, (by (repeat (first | exact Sel.nil | exact Rem.here | apply Sel.cons | apply Rem.there)))⟩
theorem Iwheel_len (p : Nat) (v : Go.Value) (t : Int) (l : List WheelSpokeOfItem) : Ct Try.prog 105 [Ptr p 0] (IwhE p v t l) (fun r σ' => r = I (l.length : Int) ∧ σ' = IwhE p v t l) := by
  unfold IwhE
  refine Ct.enter Try.func105 rfl rfl fun W => ?_
  apply Wp.seq
  apply Wp.region
  refine WpL.v (V.as) ?_
  apply WpL.nil
  apply Out.seqN
  apply Wp.seq
  apply Wp.seq
  apply Wp.region
  refine WpL.v (V.mv) ?_
  refine WpL.v (V.eqP) ?_
  apply WpL.nil
  apply Out.seqN
  refine Wp.cF ?_
  apply Wp.skip
  apply Out.seqN
  apply Wp.seq
  apply Wp.region
  refine WpL.v (V.mv) ?_
  refine WpL.v (V.nc) ?_
  refine WpL.v (V.fa tb) ?_
  refine WpL.v (V.ld1 tb) ?_
  refine WpL.v (V.lenRows tb) ?_
  refine WpL.v (V.as) ?_
  apply WpL.nil
  apply Out.seqN
  apply Wp.ret
  refine Out.f1 rfl ResIs.t ⟨?_, rfl⟩
  exact rfl
theorem Iwheel_len0 : Ct Try.prog 105 [.pointer none] [] (fun r σ' => r = I 0 ∧ σ' = []) := by
  refine Ct.enter Try.func105 rfl rfl fun W => ?_
  apply Wp.seq
  apply Wp.region
  refine WpL.v (V.as) ?_
  apply WpL.nil
  apply Out.seqN
  apply Wp.seq
  apply Wp.seq
  apply Wp.region
  refine WpL.v (V.mv) ?_
  refine WpL.v (V.eqN) ?_
  apply WpL.nil
  apply Out.seqN
  refine Wp.cT ?_
  apply Wp.seq
  apply Wp.region
  refine WpL.v (V.as) ?_
  apply WpL.nil
  apply Out.seqN
  apply Wp.ret
  apply Out.seqR
  refine Out.f1 rfl ResIs.t ⟨?_, rfl⟩
  exact rfl
def IdueL (key : TItem) (l : List WheelSpokeOfItem) : Int × Bool := match Ifix key l with | some i => ((l[i]?.getD WheelSpokeOfItem.z).due, true) | none => (0, false)
theorem Iwheel_due (p : Nat) (v : Go.Value) (t : Int) (l : List WheelSpokeOfItem) (key : TItem) (hm : l.length ≤ 100000) : Ct Try.prog 101 [Ptr p 0, A key.c] (IwhE p v t l) (fun r σ' => r = .tuple #[I (IdueL key l).1, B (IdueL key l).2] ∧ σ' = IwhE p v t l) := by
  have hF := Iwheel_find p v t l key hm
  unfold Iidx at hF
  cases hx : Ifix key l with
  | none =>
    rw [hx] at hF
    rw [show IdueL key l = (0, false) by unfold IdueL; rw [hx]]
    unfold IwhE at hF ⊢
    refine Ct.enter Try.func101 rfl rfl fun W => ?_
    apply Wp.seq
    apply Wp.region
    refine WpL.o (O.bxA (fun p3 => ?_))
    refine WpL.v (V.as) ?_
    refine WpL.v (V.as) ?_
    apply WpL.nil
    apply Out.seqN
    apply Wp.seq
    apply Wp.region
    refine WpL.v (V.mv) ?_
    refine WpL.v (V.ldA tb) ?_
    refine WpL.o (Op1.callT rfl (hF) (by (repeat (first | exact Sel.nil | exact Rem.here | apply Sel.cons | apply Rem.there))) ?_)
    rintro v0 s1 ⟨rfl, rfl⟩
    refine incat ?_
    refine WpL.v (V.as) ?_
    apply WpL.nil
    apply Out.seqN
    apply Wp.seq
    apply Wp.seq
    apply Wp.region
    refine WpL.v (V.mv) ?_
    refine WpL.v (V.cmp) ?_
    apply WpL.nil
    apply Out.seqN
    refine Wp.cT ?_
    apply Wp.seq
    apply Wp.region
    refine WpL.v (V.as) ?_
    refine WpL.v (V.as) ?_
    apply WpL.nil
    apply Out.seqN
    apply Wp.ret
    apply Out.seqR
    refine Out.f2 rfl ResIs.t ResIs.t ⟨?_, rfl⟩
    exact rfl
  | some i =>
    rw [hx] at hF
    obtain ⟨x, h1, h2, _⟩ := Ifix_some hx
    have hil := (List.getElem?_eq_some_iff.1 h1).1
    rw [show IdueL key l = (x.due, true) by unfold IdueL; rw [hx]; simp [h1]]
    unfold IwhE at hF ⊢
    refine Ct.enter Try.func101 rfl rfl fun W => ?_
    refine Wp.fact (rowsForm (List.Mem.tail _ (List.Mem.head _))) fun hform => ?_
    rcases hform with ⟨rfl, rfl⟩ | ⟨g, cap, rfl, hc1, hc2⟩
    · simp at hil
    apply Wp.seq
    apply Wp.region
    refine WpL.o (O.bxA (fun p3 => ?_))
    refine WpL.v (V.as) ?_
    refine WpL.v (V.as) ?_
    apply WpL.nil
    apply Out.seqN
    apply Wp.seq
    apply Wp.region
    refine WpL.v (V.mv) ?_
    refine WpL.v (V.ldA tb) ?_
    refine WpL.o (Op1.callT rfl (hF) (by (repeat (first | exact Sel.nil | exact Rem.here | apply Sel.cons | apply Rem.there))) ?_)
    rintro v0 s1 ⟨rfl, rfl⟩
    refine incat ?_
    refine WpL.v (V.as) ?_
    apply WpL.nil
    apply Out.seqN
    apply Wp.seq
    apply Wp.seq
    apply Wp.region
    refine WpL.v (V.mv) ?_
    refine WpL.v (V.cmp) ?_
    apply WpL.nil
    apply Out.seqN
    refine Wp.c (fun h2 => ?_) (fun h2 => ?_)
    (try simp only [decide_eq_true_eq, decide_eq_false_iff_not, Bool.not_eq_true', Bool.not_eq_false', Bool.not_eq_true, Bool.not_eq_false, not_true_eq_false, not_false_eq_true, reduceCtorEq] at h2)
    (exfalso; omega)
    (try simp only [decide_eq_true_eq, decide_eq_false_iff_not, Bool.not_eq_true', Bool.not_eq_false', Bool.not_eq_true, Bool.not_eq_false, not_true_eq_false, not_false_eq_true, reduceCtorEq] at h2)
    apply Wp.skip
    apply Out.seqN
    apply Wp.seq
    apply Wp.region
    refine WpL.v (V.mv) ?_
    refine WpL.v (V.nc) ?_
    refine WpL.v (V.fa tb) ?_
    refine WpL.v (V.ld1 tb) ?_
    refine WpL.v (V.mv) ?_
    refine WpL.v (V.ixk tb (k := i) rfl rfl rfl rfl (by omega)) ?_
    refine WpL.v (V.fa tb) ?_
    refine WpL.v (V.rowF1 tb (o := 2) rfl (by (repeat first | exact List.Mem.head _ | apply List.Mem.tail)) WheelSpokeOfItem.len h1) ?_
    refine WpL.v (V.as) ?_
    refine WpL.v (V.as) ?_
    apply WpL.nil
    apply Out.seqN
    apply Wp.ret
    refine Out.f2 rfl ResIs.t ResIs.t ⟨?_, rfl⟩
    exact rfl
theorem Iwheel_due0 (key : TItem) : Ct Try.prog 101 [.pointer none, A key.c] [] (fun r σ' => r = .tuple #[I 0, B false] ∧ σ' = []) := by
  refine Ct.enter Try.func101 rfl rfl fun W => ?_
  apply Wp.seq
  apply Wp.region
  refine WpL.o (O.bxA (fun p3 => ?_))
  refine WpL.v (V.as) ?_
  refine WpL.v (V.as) ?_
  apply WpL.nil
  apply Out.seqN
  apply Wp.seq
  apply Wp.region
  refine WpL.v (V.mv) ?_
  refine WpL.v (V.ldA tb) ?_
  refine WpL.o (Op1.callT rfl (Iwheel_find0 _) (by (repeat (first | exact Sel.nil | exact Rem.here | apply Sel.cons | apply Rem.there))) ?_)
  rintro v0 s1 ⟨rfl, rfl⟩
  refine incat ?_
  refine WpL.v (V.as) ?_
  apply WpL.nil
  apply Out.seqN
  apply Wp.seq
  apply Wp.seq
  apply Wp.region
  refine WpL.v (V.mv) ?_
  refine WpL.v (V.cmp) ?_
  apply WpL.nil
  apply Out.seqN
  refine Wp.cT ?_
  apply Wp.seq
  apply Wp.region
  refine WpL.v (V.as) ?_
  refine WpL.v (V.as) ?_
  apply WpL.nil
  apply Out.seqN
  apply Wp.ret
  apply Out.seqR
  refine Out.f2 rfl ResIs.t ResIs.t ⟨?_, rfl⟩
  exact rfl
theorem Iwheel_pop0 (now : Int) : Ct Try.prog 122 [.pointer none, I now] [] (fun r σ' => r = .tuple #[A TItem.z.c, B false] ∧ σ' = []) := by
  refine Ct.enter Try.func122 rfl rfl fun W => ?_
  apply Wp.seq
  apply Wp.region
  refine WpL.o (O.al tb (fun p4 => ?_))
  refine WpL.v (V.as) ?_
  apply WpL.nil
  apply Out.seqN
  apply Wp.seq
  apply Wp.region
  refine WpL.o (O.al tb (fun p6 => ?_))
  apply WpL.nil
  apply Out.seqN
  apply Wp.seq
  apply Wp.seq
  apply Wp.region
  refine WpL.v (V.mv) ?_
  refine WpL.o (Op1.callT rfl (Iwheel_len0) (by (repeat (first | exact Sel.nil | exact Rem.here | apply Sel.cons | apply Rem.there))) ?_)
  rintro v0 s1 ⟨rfl, rfl⟩
  refine incat ?_
  refine WpL.v (V.cmp) ?_
  refine WpL.v (V.mv) ?_
  refine WpL.sk ?_
  refine WpL.sk ?_
  refine WpL.sk ?_
  refine WpL.sk ?_
  refine WpL.sk ?_
  refine WpL.sk ?_
  refine WpL.sk ?_
  refine WpL.sk ?_
  refine WpL.sk ?_
  refine WpL.v (V.pT) ?_
  apply WpL.nil
  apply Out.seqN
  refine Wp.cT ?_
  apply Wp.seq
  apply Wp.region
  refine WpL.v (V.ldA tb) ?_
  refine WpL.o (O.stA tb ?_)
  refine WpL.v (V.as) ?_
  apply WpL.nil
  apply Out.seqN
  apply Wp.ret
  apply Out.seqR
  refine Out.f2 rfl (ResIs.ca tb) ResIs.t ⟨?_, rfl⟩
  exact rfl
theorem Iwheel_pop_none (p : Nat) (v : Go.Value) (t : Int) (l : List WheelSpokeOfItem) (now : Int) (h : ∀ s, l.head? = some s → now < s.due) : Ct Try.prog 122 [Ptr p 0, I now] (IwhE p v t l) (fun r σ' => r = .tuple #[A TItem.z.c, B false] ∧ σ' = IwhE p v t l) := by
  have hL := Iwheel_len p v t l
  unfold IwhE at hL ⊢
  cases l with
  | nil =>
    refine Ct.enter Try.func122 rfl rfl fun W => ?_
    apply Wp.seq
    apply Wp.region
    refine WpL.o (O.al tb (fun p4 => ?_))
    refine WpL.v (V.as) ?_
    apply WpL.nil
    apply Out.seqN
    apply Wp.seq
    apply Wp.region
    refine WpL.o (O.al tb (fun p6 => ?_))
    apply WpL.nil
    apply Out.seqN
    apply Wp.seq
    apply Wp.seq
    apply Wp.region
    refine WpL.v (V.mv) ?_
    refine WpL.o (Op1.callT rfl (hL) (by (repeat (first | exact Sel.nil | exact Rem.here | apply Sel.cons | apply Rem.there))) ?_)
    rintro v0 s1 ⟨rfl, rfl⟩
    refine incat ?_
    refine WpL.v (V.cmp) ?_
    refine WpL.v (V.mv) ?_
    refine WpL.sk ?_
    refine WpL.sk ?_
    refine WpL.sk ?_
    refine WpL.sk ?_
    refine WpL.sk ?_
    refine WpL.sk ?_
    refine WpL.sk ?_
    refine WpL.sk ?_
    refine WpL.sk ?_
    refine WpL.v (V.pT) ?_
    apply WpL.nil
    apply Out.seqN
    refine Wp.cT ?_
    apply Wp.seq
    apply Wp.region
    refine WpL.v (V.ldA tb) ?_
    refine WpL.o (O.stA tb ?_)
    refine WpL.v (V.as) ?_
    apply WpL.nil
    apply Out.seqN
    apply Wp.ret
    apply Out.seqR
    refine Out.f2 rfl (ResIs.ca tb) ResIs.t ⟨?_, rfl⟩
    exact rfl
  | cons s l =>
    have hs := h s rfl
    have h1 : (s :: l)[0]? = some s := rfl
    refine Ct.enter Try.func122 rfl rfl fun W => ?_
    refine Wp.fact (rowsForm (List.Mem.tail _ (List.Mem.head _))) fun hform => ?_
    rcases hform with ⟨rfl, h0⟩ | ⟨g, cap, rfl, hc1, hc2⟩
    · cases h0
    have e1 : cmpI .eql (((s :: l).length : Nat) : Int) 0 = some false := by simp [cmpI]; omega
    have e2 : cmpI .gtr s.due now = some true := by simp [cmpI]; omega
    apply Wp.seq
    apply Wp.region
    refine WpL.o (O.al tb (fun p4 => ?_))
    refine WpL.v (V.as) ?_
    apply WpL.nil
    apply Out.seqN
    apply Wp.seq
    apply Wp.region
    refine WpL.o (O.al tb (fun p6 => ?_))
    apply WpL.nil
    apply Out.seqN
    apply Wp.seq
    apply Wp.seq
    apply Wp.region
    refine WpL.v (V.mv) ?_
    refine WpL.o (Op1.callT rfl (hL) (by (repeat (first | exact Sel.nil | exact Rem.here | apply Sel.cons | apply Rem.there))) ?_)
    rintro v0 s1 ⟨rfl, rfl⟩
    refine incat ?_
    refine WpL.v (V.cmp rfl rfl e1) ?_
    refine WpL.v (V.mv) ?_
    refine WpL.v (V.mv) ?_
    refine WpL.v (V.nc) ?_
    refine WpL.v (V.fa tb) ?_
    refine WpL.v (V.ld1 tb) ?_
    refine WpL.v (V.ixk tb (k := 0) rfl rfl rfl rfl (by simp)) ?_
    refine WpL.v (V.fa tb) ?_
    refine WpL.v (V.rowF1 tb (k := 0) (o := 2) rfl (by (repeat first | exact List.Mem.head _ | apply List.Mem.tail)) WheelSpokeOfItem.len h1) ?_
    refine WpL.v (V.mv) ?_
    refine WpL.v (V.cmp rfl rfl e2) ?_
    refine WpL.v (V.pF) ?_
    apply WpL.nil
    apply Out.seqN
    refine Wp.cT ?_
    apply Wp.seq
    apply Wp.region
    refine WpL.v (V.ldA tb) ?_
    refine WpL.o (O.stA tb ?_)
    refine WpL.v (V.as) ?_
    apply WpL.nil
    apply Out.seqN
    apply Wp.ret
    apply Out.seqR
    refine Out.f2 rfl (ResIs.ca tb) ResIs.t ⟨?_, rfl⟩
    exact rfl
theorem Iwheel_pop_some (p : Nat) (g cap : Nat) (t : Int) (s : WheelSpokeOfItem) (l : List WheelSpokeOfItem) (now : Int) (h : s.due ≤ now) : Ct Try.prog 122 [Ptr p 0, I now] (IwhE p (.slice (some ⟨g, 0, none⟩) (s :: l).length cap) t (s :: l)) (fun r σ' => r = .tuple #[A s.key.c, B true] ∧ σ' = IwhE p (.slice (some ⟨g, 0, none⟩) l.length cap) t l) := by
  have hL := Iwheel_len p (.slice (some ⟨g, 0, none⟩) (s :: l).length cap) t (s :: l)
  unfold IwhE at hL ⊢
  have h1 : (s :: l)[0]? = some s := rfl
  refine Ct.enter Try.func122 rfl rfl fun W => ?_
  refine Wp.fact (rowsForm (List.Mem.tail _ (List.Mem.head _))) fun hform => ?_
  have hc : (s :: l).length ≤ cap ∧ cap ≤ 9223372036854775807 := by
    rcases hform with ⟨h, _⟩ | ⟨g', cap', h, h1, h2⟩
    · cases h
    · cases h; exact ⟨h1, by simp only [Go.maxLen] at h2; omega⟩
  have hD := Islices_delete g cap (s :: l) 0 (by simp) hc.1 hc.2
  rw [show (s :: l).eraseIdx 0 = l from rfl] at hD
  have e1 : cmpI .eql (((s :: l).length : Nat) : Int) 0 = some false := by simp [cmpI]; omega
  have e2 : cmpI .gtr s.due now = some false := by simp [cmpI]; omega
  apply Wp.seq
  apply Wp.region
  refine WpL.o (O.al tb (fun p4 => ?_))
  refine WpL.v (V.as) ?_
  apply WpL.nil
  apply Out.seqN
  apply Wp.seq
  apply Wp.region
  refine WpL.o (O.al tb (fun p6 => ?_))
  apply WpL.nil
  apply Out.seqN
  apply Wp.seq
  apply Wp.seq
  apply Wp.region
  refine WpL.v (V.mv) ?_
  refine WpL.o (Op1.callT rfl (hL) (by (repeat (first | exact Sel.nil | exact Rem.here | apply Sel.cons | apply Rem.there))) ?_)
  rintro v0 s1 ⟨rfl, rfl⟩
  refine incat ?_
  refine WpL.v (V.cmp rfl rfl e1) ?_
  refine WpL.v (V.mv) ?_
  refine WpL.v (V.mv) ?_
  refine WpL.v (V.nc) ?_
  refine WpL.v (V.fa tb) ?_
  refine WpL.v (V.ld1 tb) ?_
  refine WpL.v (V.ixk tb (k := 0) rfl rfl rfl rfl (by simp)) ?_
  refine WpL.v (V.fa tb) ?_
  refine WpL.v (V.rowF1 tb (k := 0) (o := 2) rfl (by (repeat first | exact List.Mem.head _ | apply List.Mem.tail)) WheelSpokeOfItem.len h1) ?_
  refine WpL.v (V.mv) ?_
  refine WpL.v (V.cmp rfl rfl e2) ?_
  refine WpL.v (V.pF) ?_
  apply WpL.nil
  apply Out.seqN
  refine Wp.cF ?_
  apply Wp.skip
  apply Out.seqN
  apply Wp.seq
  apply Wp.region
  refine WpL.v (V.mv) ?_
  refine WpL.v (V.nc) ?_
  refine WpL.v (V.fa tb) ?_
  refine WpL.v (V.ld1 tb) ?_
  refine WpL.v (V.ixk tb (k := 0) rfl rfl rfl rfl (by simp)) ?_
  refine WpL.v (V.ldRow tb (k := 0) rfl (by (repeat first | exact List.Mem.head _ | apply List.Mem.tail)) WheelSpokeOfItem.len h1) ?_
  refine WpL.o (O.al tb (fun p7 => ?_))
  refine WpL.o (O.stA tb ?_)
  apply WpL.nil
  apply Out.seqN
  apply Wp.seq
  apply Wp.region
  refine WpL.v (V.mv) ?_
  refine WpL.v (V.mv) ?_
  refine WpL.v (V.nc) ?_
  refine WpL.v (V.fa tb) ?_
  refine WpL.v (V.ld1 tb) ?_
  refine WpL.o (Op1.callT rfl (hD) (by (repeat (first | exact Sel.nil | exact Rem.here | apply Sel.cons | apply Rem.there))) ?_)
  rintro v2 s3 ⟨rfl, rfl⟩
  refine incat ?_
  refine WpL.v (V.nc) ?_
  refine WpL.v (V.fa tb) ?_
  refine WpL.o (O.st1 tb ?_)
  apply WpL.nil
  apply Out.seqN
  apply Wp.seq
  apply Wp.region
  refine WpL.v (V.fa tb) ?_
  refine WpL.v (V.ldA tb) ?_
  refine WpL.o (O.stA tb ?_)
  refine WpL.v (V.as) ?_
  apply WpL.nil
  apply Out.seqN
  apply Wp.ret
  refine Out.f2 rfl (ResIs.ca tb) ResIs.t ⟨?_, rfl⟩
  exact rfl
def IdropN (keys : List TItem) (st : Nat × List WheelSpokeOfItem) : Nat × List WheelSpokeOfItem := keys.foldl (fun st k => match Ifix k st.2 with | some i => (st.1 + 1, st.2.eraseIdx i) | none => st) st
theorem IdropN_snoc (keys : List TItem) (k : TItem) (st : Nat × List WheelSpokeOfItem) : IdropN (keys ++ [k]) st = (match Ifix k (IdropN keys st).2 with | some i => ((IdropN keys st).1 + 1, (IdropN keys st).2.eraseIdx i) | none => IdropN keys st) := by simp [IdropN]
theorem IdropN_le : ∀ (keys : List TItem) (st : Nat × List WheelSpokeOfItem), (IdropN keys st).1 ≤ st.1 + keys.length ∧ (IdropN keys st).2.length ≤ st.2.length
  | [], st => ⟨Nat.le_refl _, Nat.le_refl _⟩
  | k :: keys, st => by
    have ih := IdropN_le keys (match Ifix k st.2 with | some i => (st.1 + 1, st.2.eraseIdx i) | none => st)
    have e : IdropN (k :: keys) st = IdropN keys (match Ifix k st.2 with | some i => (st.1 + 1, st.2.eraseIdx i) | none => st) := rfl
    rw [e]
    cases hx : Ifix k st.2 with
    | none => rw [hx] at ih; dsimp only at ih; simp only [List.length_cons]; exact ⟨by have := ih.1; omega, ih.2⟩
    | some i =>
      rw [hx] at ih
      have := List.length_eraseIdx_le st.2 i
      simp only [List.length_cons]
      exact ⟨by have := ih.1; dsimp only at this ⊢; omega, Nat.le_trans ih.2 this⟩
theorem Iwheel_drop (p : Nat) (v : Go.Value) (t : Int) (l : List WheelSpokeOfItem) (e : Ent) (ao : Option Go.Addr) (cap b off : Nat) (keys : List TItem) (hR : Rd e ao keys.length b off 2 (keys.map TItem.c)) (hm : l.length ≤ 100000) (hk : keys.length ≤ 100000) :
    Ct Try.prog 104 [Ptr p 0, .slice ao keys.length cap] (IwhE p v t l ++ [e]) (fun r σ' => ∃ v', r = I ((IdropN keys (0, l)).1 : Int) ∧ σ' = IwhE p v' t (IdropN keys (0, l)).2 ++ [e]) := by
  unfold IwhE
  dsimp only [List.cons_append, List.nil_append]
  refine Ct.enter Try.func104 rfl rfl fun W => ?_
  apply Wp.seq
  apply Wp.region
  refine WpL.v (V.as) ?_
  apply WpL.nil
  apply Out.seqN
  apply Wp.seq
  apply Wp.region
  refine WpL.v (V.as) ?_
  apply WpL.nil
  apply Out.seqN
  apply Wp.seq
  apply Wp.seq
  apply Wp.region
  refine WpL.v (V.mv) ?_
  refine WpL.v (V.lenL tb) ?_
  refine WpL.v (V.mv) ?_
  apply WpL.nil
  apply Out.seqN
  apply Wp.block
  refine Wp.lp [10, 9, 0] (fun y : Nat × Go.Value => y.1 ≤ keys.length) (fun y => [(11, I (y.1 : Int)), (5, I ((IdropN (keys.take y.1) (0, l)).1 : Int))]) (fun y => [cells p 181 (WheelWheelOfItem.c ⟨y.2, t⟩), rows WheelSpokeOfItem.c y.2 183 4 (IdropN (keys.take y.1) (0, l)).2]) (fun y => keys.length - y.1) (0, v) (Nat.zero_le _) ?_
  rintro ⟨i, v⟩ hi K hK
  dsimp only at hi
  dsimp only [List.cons_append, List.nil_append]
  by_cases hlt : i < keys.length
  · obtain ⟨k, hkk⟩ := getS hlt
    have e1 : IdropN (keys.take (i + 1)) (0, l) = (match Ifix k (IdropN (keys.take i) (0, l)).2 with | some j => ((IdropN (keys.take i) (0, l)).1 + 1, (IdropN (keys.take i) (0, l)).2.eraseIdx j) | none => IdropN (keys.take i) (0, l)) := by rw [take_snocS hkk, IdropN_snoc]
    have hle := IdropN_le (keys.take i) (0, l)
    simp only [List.length_take] at hle
    generalize IdropN (keys.take i) (0, l) = st at *
    obtain ⟨c, L⟩ := st
    dsimp only at e1 hle ⊢
    have hF := Iwheel_find p v t L k (by omega)
    unfold IwhE Iidx at hF
    cases hx : Ifix k L with
    | none =>
      rw [hx] at e1 hF
      dsimp only at e1 hF
      apply Wp.seq
      apply Wp.region
      refine WpL.v (V.cmp) ?_
      apply WpL.nil
      apply Out.seqN
      apply Wp.seq
      refine Wp.c (fun h0 => ?_) (fun h0 => ?_)
      (try simp only [decide_eq_true_eq, decide_eq_false_iff_not, Bool.not_eq_true', Bool.not_eq_false', Bool.not_eq_true, Bool.not_eq_false, not_true_eq_false, not_false_eq_true, reduceCtorEq] at h0)
      apply Wp.skip
      apply Out.seqN
      apply Wp.seq
      apply Wp.block
      apply Wp.seq
      apply Wp.region
      refine WpL.v (V.ixR tb rfl rfl (by assumption)) ?_
      refine WpL.v (V.ldRA tb rfl hR (getMapS hkk)) ?_
      refine WpL.o (O.al tb (fun p7 => ?_))
      refine WpL.o (O.stA tb ?_)
      apply WpL.nil
      apply Out.seqN
      apply Wp.seq
      apply Wp.region
      refine WpL.v (V.mv) ?_
      refine WpL.v (V.ldA tb) ?_
      refine WpL.o (Op1.callT rfl (hF) (by (repeat (first | exact Sel.nil | exact Rem.here | apply Sel.cons | apply Rem.there))) ?_)
      rintro v1 s2 ⟨rfl, rfl⟩
      refine incat ?_
      refine WpL.v (V.as) ?_
      apply WpL.nil
      apply Out.seqN
      apply Wp.seq
      apply Wp.region
      refine WpL.v (V.mv) ?_
      refine WpL.v (V.cmp) ?_
      apply WpL.nil
      apply Out.seqN
      refine Wp.cF ?_
      apply Wp.skip
      apply Out.blockN
      apply Out.seqN
      apply Wp.region
      refine WpL.v (V.add) ?_
      refine WpL.v (V.mv) ?_
      apply WpL.nil
      rotate_left
      (try simp only [decide_eq_true_eq, decide_eq_false_iff_not, Bool.not_eq_true', Bool.not_eq_false', Bool.not_eq_true, Bool.not_eq_false, not_true_eq_false, not_false_eq_true, reduceCtorEq] at h0)
      (exfalso; omega)
      exact Out.ag hK (i + 1, v) (by show i + 1 ≤ _; omega) (by show keys.length - (i + 1) < keys.length - i; omega) (he := by rw [e1]; (repeat (first | exact subEnv.nil | refine subEnv.cons rfl rfl ?_))) (hs := by rw [e1]; (repeat (first | exact Sel.nil | exact Rem.here | apply Sel.cons | apply Rem.there)))
    | some j =>
      rw [hx] at e1 hF
      dsimp only at e1 hF
      obtain ⟨x, h1, _, _⟩ := Ifix_some hx
      have hjl := (List.getElem?_eq_some_iff.1 h1).1
      refine Wp.fact (rowsForm (List.Mem.tail _ (List.Mem.head _))) fun hform => ?_
      rcases hform with ⟨rfl, rfl⟩ | ⟨g, cp, rfl, hc1, hc2⟩
      · simp at hjl
      have hD := Islices_delete g cp L j hjl hc1 (by simp only [Go.maxLen] at hc2; omega)
      apply Wp.seq
      apply Wp.region
      refine WpL.v (V.cmp) ?_
      apply WpL.nil
      apply Out.seqN
      apply Wp.seq
      refine Wp.c (fun h0 => ?_) (fun h0 => ?_)
      (try simp only [decide_eq_true_eq, decide_eq_false_iff_not, Bool.not_eq_true', Bool.not_eq_false', Bool.not_eq_true, Bool.not_eq_false, not_true_eq_false, not_false_eq_true, reduceCtorEq] at h0)
      apply Wp.skip
      apply Out.seqN
      apply Wp.seq
      apply Wp.block
      apply Wp.seq
      apply Wp.region
      refine WpL.v (V.ixR tb rfl rfl (by assumption)) ?_
      refine WpL.v (V.ldRA tb rfl hR (getMapS hkk)) ?_
      refine WpL.o (O.al tb (fun p7 => ?_))
      refine WpL.o (O.stA tb ?_)
      apply WpL.nil
      apply Out.seqN
      apply Wp.seq
      apply Wp.region
      refine WpL.v (V.mv) ?_
      refine WpL.v (V.ldA tb) ?_
      refine WpL.o (Op1.callT rfl (hF) (by (repeat (first | exact Sel.nil | exact Rem.here | apply Sel.cons | apply Rem.there))) ?_)
      rintro v1 s2 ⟨rfl, rfl⟩
      refine incat ?_
      refine WpL.v (V.as) ?_
      apply WpL.nil
      apply Out.seqN
      apply Wp.seq
      apply Wp.region
      refine WpL.v (V.mv) ?_
      refine WpL.v (V.cmp) ?_
      apply WpL.nil
      apply Out.seqN
      refine Wp.c (fun h3 => ?_) (fun h3 => ?_)
      (try simp only [decide_eq_true_eq, decide_eq_false_iff_not, Bool.not_eq_true', Bool.not_eq_false', Bool.not_eq_true, Bool.not_eq_false, not_true_eq_false, not_false_eq_true, reduceCtorEq] at h3)
      apply Wp.seq
      apply Wp.region
      refine WpL.v (V.mv) ?_
      refine WpL.v (V.mv) ?_
      refine WpL.v (V.nc) ?_
      refine WpL.v (V.fa tb) ?_
      refine WpL.v (V.ld1 tb) ?_
      refine WpL.v (V.mv) ?_
      refine WpL.v (V.mv) ?_
      refine WpL.v (V.add) ?_
      refine WpL.o (Op1.callT rfl (hD) (by (repeat (first | exact Sel.nil | exact Rem.here | apply Sel.cons | apply Rem.there))) ?_)
      rintro v4 s5 ⟨rfl, rfl⟩
      refine incat ?_
      refine WpL.v (V.nc) ?_
      refine WpL.v (V.fa tb) ?_
      refine WpL.o (O.st1 tb ?_)
      apply WpL.nil
      apply Out.seqN
      apply Wp.region
      refine WpL.v (V.mv) ?_
      refine WpL.v (V.add) ?_
      refine WpL.v (V.as) ?_
      apply WpL.nil
      apply Out.blockN
      apply Out.seqN
      apply Wp.region
      refine WpL.v (V.add) ?_
      refine WpL.v (V.mv) ?_
      apply WpL.nil
      rotate_left
      (try simp only [decide_eq_true_eq, decide_eq_false_iff_not, Bool.not_eq_true', Bool.not_eq_false', Bool.not_eq_true, Bool.not_eq_false, not_true_eq_false, not_false_eq_true, reduceCtorEq] at h3)
      (exfalso; omega)
      (try simp only [decide_eq_true_eq, decide_eq_false_iff_not, Bool.not_eq_true', Bool.not_eq_false', Bool.not_eq_true, Bool.not_eq_false, not_true_eq_false, not_false_eq_true, reduceCtorEq] at h0)
      (exfalso; omega)
      exact Out.ag hK (i + 1, _) (by show i + 1 ≤ _; omega) (by show keys.length - (i + 1) < keys.length - i; omega) (he := by rw [e1]; (repeat (first | exact subEnv.nil | refine subEnv.cons rfl rfl ?_))) (hs := by rw [e1]; (repeat (first | exact Sel.nil | exact Rem.here | apply Sel.cons | apply Rem.there)))
  · obtain rfl : i = keys.length := by omega
    rw [List.take_length]
    clear hK
    apply Wp.seq
    apply Wp.region
    refine WpL.v (V.cmp) ?_
    apply WpL.nil
    apply Out.seqN
    apply Wp.seq
    refine Wp.c (fun h0 => ?_) (fun h0 => ?_)
    (try simp only [decide_eq_true_eq, decide_eq_false_iff_not, Bool.not_eq_true', Bool.not_eq_false', Bool.not_eq_true, Bool.not_eq_false, not_true_eq_false, not_false_eq_true, reduceCtorEq] at h0)
    (exfalso; omega)
    (try simp only [decide_eq_true_eq, decide_eq_false_iff_not, Bool.not_eq_true', Bool.not_eq_false', Bool.not_eq_true, Bool.not_eq_false, not_true_eq_false, not_false_eq_true, reduceCtorEq] at h0)
    apply Wp.exit
    apply Out.seqE
    apply Out.seqE
    apply Out.blockE
    apply Out.seqN
    apply Wp.seq
    apply Wp.region
    refine WpL.v (V.mv) ?_
    refine WpL.v (V.as) ?_
    apply WpL.nil
    apply Out.seqN
    apply Wp.ret
    refine Out.e1 rfl ResIs.t ?_
    exact ⟨_, _, ⟨_, rfl, rfl⟩, (by (repeat (first | exact Sel.nil | exact Rem.here | apply Sel.cons | apply Rem.there)))⟩
end Go.Proofs.Ythoepbbpmdmfeaa
