/-
  Layer 10: a wheel of numbers: its methods.
-/
import Derived.Test.YthoepbbpmdmfeaaWheel2
namespace Go.Proofs.Ythoepbbpmdmfeaa
open Go.HL
set_option linter.unusedSimpArgs false
set_option linter.unusedVariables false
set_option maxRecDepth 8000
theorem wheel_new : Ct Try.prog 48 [] [] (fun r σ' => ∃ p, r = Ptr p 0 ∧ σ' = whE p (.slice none 0 0) 0 []) := by
  refine Ct.enter Try.func48 rfl rfl fun W => ?_
  refine Wp.nilRows WheelSpokeOfInt.c 148 3 ?_
  apply Wp.seq
  apply Wp.region
  refine WpL.v (V.as) ?_
  apply WpL.nil
  apply Out.seqN
  apply Wp.seq
  apply Wp.region
  refine WpL.v (V.bld tb) ?_
  refine WpL.o (O.bxA (fun p2 => ?_))
  refine WpL.v (V.as) ?_
  apply WpL.nil
  apply Out.seqN
  apply Wp.ret
  refine Out.e1 rfl ResIs.t ?_
  exact ⟨_, _, ⟨_, rfl, rfl⟩, (by (repeat (first | exact Sel.nil | exact Rem.here | apply Sel.cons | apply Rem.there)))⟩
theorem wheel_len (p : Nat) (v : Go.Value) (t : Int) (l : List WheelSpokeOfInt) : Ct Try.prog 53 [Ptr p 0] (whE p v t l) (fun r σ' => r = I (l.length : Int) ∧ σ' = whE p v t l) := by
  unfold whE
  refine Ct.enter Try.func53 rfl rfl fun W => ?_
  apply Wp.seq
  apply Wp.region
  refine WpL.v (V.as) ?_
  apply WpL.nil
  apply Out.seqN
  apply Wp.seq
  apply Wp.seq
  apply Wp.region
  refine WpL.v (V.mv) ?_
  refine WpL.v (V.eqP) ?_
  apply WpL.nil
  apply Out.seqN
  refine Wp.cF ?_
  apply Wp.skip
  apply Out.seqN
  apply Wp.seq
  apply Wp.region
  refine WpL.v (V.mv) ?_
  refine WpL.v (V.nc) ?_
  refine WpL.v (V.fa tb) ?_
  refine WpL.v (V.ld1 tb) ?_
  refine WpL.v (V.lenRows tb) ?_
  refine WpL.v (V.as) ?_
  apply WpL.nil
  apply Out.seqN
  apply Wp.ret
  refine Out.f1 rfl ResIs.t ⟨?_, rfl⟩
  exact rfl
theorem wheel_len0 : Ct Try.prog 53 [.pointer none] [] (fun r σ' => r = I 0 ∧ σ' = []) := by
  refine Ct.enter Try.func53 rfl rfl fun W => ?_
  apply Wp.seq
  apply Wp.region
  refine WpL.v (V.as) ?_
  apply WpL.nil
  apply Out.seqN
  apply Wp.seq
  apply Wp.seq
  apply Wp.region
  refine WpL.v (V.mv) ?_
  refine WpL.v (V.eqN) ?_
  apply WpL.nil
  apply Out.seqN
  refine Wp.cT ?_
  apply Wp.seq
  apply Wp.region
  refine WpL.v (V.as) ?_
  apply WpL.nil
  apply Out.seqN
  apply Wp.ret
  apply Out.seqR
  refine Out.f1 rfl ResIs.t ⟨?_, rfl⟩
  exact rfl
def dueL (key : Int) (l : List WheelSpokeOfInt) : Int × Bool := match fix key l with | some i => ((l[i]?.getD WheelSpokeOfInt.z).due, true) | none => (0, false)
theorem wheel_due (p : Nat) (v : Go.Value) (t : Int) (l : List WheelSpokeOfInt) (key : Int) (hm : l.length ≤ 100000) : Ct Try.prog 57 [Ptr p 0, I key] (whE p v t l) (fun r σ' => r = .tuple #[I (dueL key l).1, B (dueL key l).2] ∧ σ' = whE p v t l) := by
  have hF := wheel_find p v t l key hm
  unfold idx at hF
  cases hx : fix key l with
  | none =>
    rw [hx] at hF
    rw [show dueL key l = (0, false) by unfold dueL; rw [hx]]
    unfold whE at hF ⊢
    refine Ct.enter Try.func57 rfl rfl fun W => ?_
    apply Wp.seq
    apply Wp.region
    refine WpL.v (V.as) ?_
    refine WpL.v (V.as) ?_
    apply WpL.nil
    apply Out.seqN
    apply Wp.seq
    apply Wp.region
    refine WpL.v (V.mv) ?_
    refine WpL.v (V.mv) ?_
    refine WpL.o (Op1.callT rfl (hF) (by (repeat (first | exact Sel.nil | exact Rem.here | apply Sel.cons | apply Rem.there))) ?_)
    rintro v0 s1 ⟨rfl, rfl⟩
    refine incat ?_
    refine WpL.v (V.as) ?_
    apply WpL.nil
    apply Out.seqN
    apply Wp.seq
    apply Wp.seq
    apply Wp.region
    refine WpL.v (V.mv) ?_
    refine WpL.v (V.cmp) ?_
    apply WpL.nil
    apply Out.seqN
    refine Wp.cT ?_
    apply Wp.seq
    apply Wp.region
    refine WpL.v (V.as) ?_
    refine WpL.v (V.as) ?_
    apply WpL.nil
    apply Out.seqN
    apply Wp.ret
    apply Out.seqR
    refine Out.f2 rfl ResIs.t ResIs.t ⟨?_, rfl⟩
    exact rfl
  | some i =>
    rw [hx] at hF
    obtain ⟨x, h1, h2, _⟩ := fix_some hx
    have hil := (List.getElem?_eq_some_iff.1 h1).1
    rw [show dueL key l = (x.due, true) by unfold dueL; rw [hx]; simp [h1]]
    unfold whE at hF ⊢
    refine Ct.enter Try.func57 rfl rfl fun W => ?_
    refine Wp.fact (rowsForm (List.Mem.tail _ (List.Mem.head _))) fun hform => ?_
    rcases hform with ⟨rfl, rfl⟩ | ⟨g, cap, rfl, hc1, hc2⟩
    · simp at hil
    apply Wp.seq
    apply Wp.region
    refine WpL.v (V.as) ?_
    refine WpL.v (V.as) ?_
    apply WpL.nil
    apply Out.seqN
    apply Wp.seq
    apply Wp.region
    refine WpL.v (V.mv) ?_
    refine WpL.v (V.mv) ?_
    refine WpL.o (Op1.callT rfl (hF) (by (repeat (first | exact Sel.nil | exact Rem.here | apply Sel.cons | apply Rem.there))) ?_)
    rintro v0 s1 ⟨rfl, rfl⟩
    refine incat ?_
    refine WpL.v (V.as) ?_
    apply WpL.nil
    apply Out.seqN
    apply Wp.seq
    apply Wp.seq
    apply Wp.region
    refine WpL.v (V.mv) ?_
    refine WpL.v (V.cmp) ?_
    apply WpL.nil
    apply Out.seqN
    refine Wp.c (fun h2 => ?_) (fun h2 => ?_)
    (try simp only [decide_eq_true_eq, decide_eq_false_iff_not, Bool.not_eq_true', Bool.not_eq_false', Bool.not_eq_true, Bool.not_eq_false, not_true_eq_false, not_false_eq_true, reduceCtorEq] at h2)
    (exfalso; omega)
    (try simp only [decide_eq_true_eq, decide_eq_false_iff_not, Bool.not_eq_true', Bool.not_eq_false', Bool.not_eq_true, Bool.not_eq_false, not_true_eq_false, not_false_eq_true, reduceCtorEq] at h2)
    apply Wp.skip
    apply Out.seqN
    apply Wp.seq
    apply Wp.region
    refine WpL.v (V.mv) ?_
    refine WpL.v (V.nc) ?_
    refine WpL.v (V.fa tb) ?_
    refine WpL.v (V.ld1 tb) ?_
    refine WpL.v (V.mv) ?_
    refine WpL.v (V.ixk tb (k := i) rfl rfl rfl rfl (by omega)) ?_
    refine WpL.v (V.fa tb) ?_
    refine WpL.v (V.rowF1 tb (o := 1) rfl (by (repeat first | exact List.Mem.head _ | apply List.Mem.tail)) WheelSpokeOfInt.len h1) ?_
    refine WpL.v (V.as) ?_
    refine WpL.v (V.as) ?_
    apply WpL.nil
    apply Out.seqN
    apply Wp.ret
    refine Out.f2 rfl ResIs.t ResIs.t ⟨?_, rfl⟩
    exact rfl
theorem wheel_due0 (key : Int) : Ct Try.prog 57 [.pointer none, I key] [] (fun r σ' => r = .tuple #[I 0, B false] ∧ σ' = []) := by
  refine Ct.enter Try.func57 rfl rfl fun W => ?_
  apply Wp.seq
  apply Wp.region
  refine WpL.v (V.as) ?_
  refine WpL.v (V.as) ?_
  apply WpL.nil
  apply Out.seqN
  apply Wp.seq
  apply Wp.region
  refine WpL.v (V.mv) ?_
  refine WpL.v (V.mv) ?_
  refine WpL.o (Op1.callT rfl (wheel_find0 _) (by (repeat (first | exact Sel.nil | exact Rem.here | apply Sel.cons | apply Rem.there))) ?_)
  rintro v0 s1 ⟨rfl, rfl⟩
  refine incat ?_
  refine WpL.v (V.as) ?_
  apply WpL.nil
  apply Out.seqN
  apply Wp.seq
  apply Wp.seq
  apply Wp.region
  refine WpL.v (V.mv) ?_
  refine WpL.v (V.cmp) ?_
  apply WpL.nil
  apply Out.seqN
  refine Wp.cT ?_
  apply Wp.seq
  apply Wp.region
  refine WpL.v (V.as) ?_
  refine WpL.v (V.as) ?_
  apply WpL.nil
  apply Out.seqN
  apply Wp.ret
  apply Out.seqR
  refine Out.f2 rfl ResIs.t ResIs.t ⟨?_, rfl⟩
  exact rfl
theorem wheel_pop0 (now : Int) : Ct Try.prog 54 [.pointer none, I now] [] (fun r σ' => r = .tuple #[I 0, B false] ∧ σ' = []) := by
  refine Ct.enter Try.func54 rfl rfl fun W => ?_
  apply Wp.seq
  apply Wp.region
  refine WpL.v (V.as) ?_
  refine WpL.v (V.as) ?_
  apply WpL.nil
  apply Out.seqN
  apply Wp.seq
  apply Wp.region
  refine WpL.v (V.as) ?_
  apply WpL.nil
  apply Out.seqN
  apply Wp.seq
  apply Wp.seq
  apply Wp.region
  refine WpL.v (V.mv) ?_
  refine WpL.o (Op1.callT rfl (wheel_len0) (by (repeat (first | exact Sel.nil | exact Rem.here | apply Sel.cons | apply Rem.there))) ?_)
  rintro v0 s1 ⟨rfl, rfl⟩
  refine incat ?_
  refine WpL.v (V.cmp) ?_
  refine WpL.v (V.mv) ?_
  refine WpL.sk ?_
  refine WpL.sk ?_
  refine WpL.sk ?_
  refine WpL.sk ?_
  refine WpL.sk ?_
  refine WpL.sk ?_
  refine WpL.sk ?_
  refine WpL.sk ?_
  refine WpL.sk ?_
  refine WpL.v (V.pT) ?_
  apply WpL.nil
  apply Out.seqN
  refine Wp.cT ?_
  apply Wp.seq
  apply Wp.region
  refine WpL.v (V.mv) ?_
  refine WpL.v (V.as) ?_
  refine WpL.v (V.as) ?_
  apply WpL.nil
  apply Out.seqN
  apply Wp.ret
  apply Out.seqR
  refine Out.f2 rfl ResIs.t ResIs.t ⟨?_, rfl⟩
  exact rfl
theorem wheel_pop_none (p : Nat) (v : Go.Value) (t : Int) (l : List WheelSpokeOfInt) (now : Int) (h : ∀ s, l.head? = some s → now < s.due) : Ct Try.prog 54 [Ptr p 0, I now] (whE p v t l) (fun r σ' => r = .tuple #[I 0, B false] ∧ σ' = whE p v t l) := by
  have hL := wheel_len p v t l
  unfold whE at hL ⊢
  cases l with
  | nil =>
    refine Ct.enter Try.func54 rfl rfl fun W => ?_
    apply Wp.seq
    apply Wp.region
    refine WpL.v (V.as) ?_
    refine WpL.v (V.as) ?_
    apply WpL.nil
    apply Out.seqN
    apply Wp.seq
    apply Wp.region
    refine WpL.v (V.as) ?_
    apply WpL.nil
    apply Out.seqN
    apply Wp.seq
    apply Wp.seq
    apply Wp.region
    refine WpL.v (V.mv) ?_
    refine WpL.o (Op1.callT rfl (hL) (by (repeat (first | exact Sel.nil | exact Rem.here | apply Sel.cons | apply Rem.there))) ?_)
    rintro v0 s1 ⟨rfl, rfl⟩
    refine incat ?_
    refine WpL.v (V.cmp) ?_
    refine WpL.v (V.mv) ?_
    refine WpL.sk ?_
    refine WpL.sk ?_
    refine WpL.sk ?_
    refine WpL.sk ?_
    refine WpL.sk ?_
    refine WpL.sk ?_
    refine WpL.sk ?_
    refine WpL.sk ?_
    refine WpL.sk ?_
    refine WpL.v (V.pT) ?_
    apply WpL.nil
    apply Out.seqN
    refine Wp.cT ?_
    apply Wp.seq
    apply Wp.region
    refine WpL.v (V.mv) ?_
    refine WpL.v (V.as) ?_
    refine WpL.v (V.as) ?_
    apply WpL.nil
    apply Out.seqN
    apply Wp.ret
    apply Out.seqR
    refine Out.f2 rfl ResIs.t ResIs.t ⟨?_, rfl⟩
    exact rfl
  | cons s l =>
    have hs := h s rfl
    have h1 : (s :: l)[0]? = some s := rfl
    refine Ct.enter Try.func54 rfl rfl fun W => ?_
    refine Wp.fact (rowsForm (List.Mem.tail _ (List.Mem.head _))) fun hform => ?_
    rcases hform with ⟨rfl, h0⟩ | ⟨g, cap, rfl, hc1, hc2⟩
    · cases h0
    have e1 : cmpI .eql (((s :: l).length : Nat) : Int) 0 = some false := by simp [cmpI]; omega
    have e2 : cmpI .gtr s.due now = some true := by simp [cmpI]; omega
    apply Wp.seq
    apply Wp.region
    refine WpL.v (V.as) ?_
    refine WpL.v (V.as) ?_
    apply WpL.nil
    apply Out.seqN
    apply Wp.seq
    apply Wp.region
    refine WpL.v (V.as) ?_
    apply WpL.nil
    apply Out.seqN
    apply Wp.seq
    apply Wp.seq
    apply Wp.region
    refine WpL.v (V.mv) ?_
    refine WpL.o (Op1.callT rfl (hL) (by (repeat (first | exact Sel.nil | exact Rem.here | apply Sel.cons | apply Rem.there))) ?_)
    rintro v0 s1 ⟨rfl, rfl⟩
    refine incat ?_
    refine WpL.v (V.cmp rfl rfl e1) ?_
    refine WpL.v (V.mv) ?_
    refine WpL.v (V.mv) ?_
    refine WpL.v (V.nc) ?_
    refine WpL.v (V.fa tb) ?_
    refine WpL.v (V.ld1 tb) ?_
    refine WpL.v (V.ixk tb (k := 0) rfl rfl rfl rfl (by simp)) ?_
    refine WpL.v (V.fa tb) ?_
    refine WpL.v (V.rowF1 tb (k := 0) (o := 1) rfl (by (repeat first | exact List.Mem.head _ | apply List.Mem.tail)) WheelSpokeOfInt.len h1) ?_
    refine WpL.v (V.mv) ?_
    refine WpL.v (V.cmp rfl rfl e2) ?_
    refine WpL.v (V.pF) ?_
    apply WpL.nil
    apply Out.seqN
    refine Wp.cT ?_
    apply Wp.seq
    apply Wp.region
    refine WpL.v (V.mv) ?_
    refine WpL.v (V.as) ?_
    refine WpL.v (V.as) ?_
    apply WpL.nil
    apply Out.seqN
    apply Wp.ret
    apply Out.seqR
    refine Out.f2 rfl ResIs.t ResIs.t ⟨?_, rfl⟩
    exact rfl
theorem wheel_pop_some (p : Nat) (g cap : Nat) (t : Int) (s : WheelSpokeOfInt) (l : List WheelSpokeOfInt) (now : Int) (h : s.due ≤ now) : Ct Try.prog 54 [Ptr p 0, I now] (whE p (.slice (some ⟨g, 0, none⟩) (s :: l).length cap) t (s :: l)) (fun r σ' => r = .tuple #[I s.key, B true] ∧ σ' = whE p (.slice (some ⟨g, 0, none⟩) l.length cap) t l) := by
  have hL := wheel_len p (.slice (some ⟨g, 0, none⟩) (s :: l).length cap) t (s :: l)
  unfold whE at hL ⊢
  have h1 : (s :: l)[0]? = some s := rfl
  refine Ct.enter Try.func54 rfl rfl fun W => ?_
  refine Wp.fact (rowsForm (List.Mem.tail _ (List.Mem.head _))) fun hform => ?_
  have hc : (s :: l).length ≤ cap ∧ cap ≤ 9223372036854775807 := by
    rcases hform with ⟨h, _⟩ | ⟨g', cap', h, h1, h2⟩
    · cases h
    · cases h; exact ⟨h1, by simp only [Go.maxLen] at h2; omega⟩
  have hD := slices_delete g cap (s :: l) 0 (by simp) hc.1 hc.2
  rw [show (s :: l).eraseIdx 0 = l from rfl] at hD
  have e1 : cmpI .eql (((s :: l).length : Nat) : Int) 0 = some false := by simp [cmpI]; omega
  have e2 : cmpI .gtr s.due now = some false := by simp [cmpI]; omega
  apply Wp.seq
  apply Wp.region
  refine WpL.v (V.as) ?_
  refine WpL.v (V.as) ?_
  apply WpL.nil
  apply Out.seqN
  apply Wp.seq
  apply Wp.region
  refine WpL.v (V.as) ?_
  apply WpL.nil
  apply Out.seqN
  apply Wp.seq
  apply Wp.seq
  apply Wp.region
  refine WpL.v (V.mv) ?_
  refine WpL.o (Op1.callT rfl (hL) (by (repeat (first | exact Sel.nil | exact Rem.here | apply Sel.cons | apply Rem.there))) ?_)
  rintro v0 s1 ⟨rfl, rfl⟩
  refine incat ?_
  refine WpL.v (V.cmp rfl rfl e1) ?_
  refine WpL.v (V.mv) ?_
  refine WpL.v (V.mv) ?_
  refine WpL.v (V.nc) ?_
  refine WpL.v (V.fa tb) ?_
  refine WpL.v (V.ld1 tb) ?_
  refine WpL.v (V.ixk tb (k := 0) rfl rfl rfl rfl (by simp)) ?_
  refine WpL.v (V.fa tb) ?_
  refine WpL.v (V.rowF1 tb (k := 0) (o := 1) rfl (by (repeat first | exact List.Mem.head _ | apply List.Mem.tail)) WheelSpokeOfInt.len h1) ?_
  refine WpL.v (V.mv) ?_
  refine WpL.v (V.cmp rfl rfl e2) ?_
  refine WpL.v (V.pF) ?_
  apply WpL.nil
  apply Out.seqN
  refine Wp.cF ?_
  apply Wp.skip
  apply Out.seqN
  apply Wp.seq
  apply Wp.region
  refine WpL.v (V.mv) ?_
  refine WpL.v (V.nc) ?_
  refine WpL.v (V.fa tb) ?_
  refine WpL.v (V.ld1 tb) ?_
  refine WpL.v (V.ixk tb (k := 0) rfl rfl rfl rfl (by simp)) ?_
  refine WpL.v (V.ldRow tb (k := 0) rfl (by (repeat first | exact List.Mem.head _ | apply List.Mem.tail)) WheelSpokeOfInt.len h1) ?_
  refine WpL.o (O.al tb (fun p7 => ?_))
  refine WpL.o (O.stA tb ?_)
  apply WpL.nil
  apply Out.seqN
  apply Wp.seq
  apply Wp.region
  refine WpL.v (V.mv) ?_
  refine WpL.v (V.mv) ?_
  refine WpL.v (V.nc) ?_
  refine WpL.v (V.fa tb) ?_
  refine WpL.v (V.ld1 tb) ?_
  refine WpL.o (Op1.callT rfl (hD) (by (repeat (first | exact Sel.nil | exact Rem.here | apply Sel.cons | apply Rem.there))) ?_)
  rintro v2 s3 ⟨rfl, rfl⟩
  refine incat ?_
  refine WpL.v (V.nc) ?_
  refine WpL.v (V.fa tb) ?_
  refine WpL.o (O.st1 tb ?_)
  apply WpL.nil
  apply Out.seqN
  apply Wp.seq
  apply Wp.region
  refine WpL.v (V.fa tb) ?_
  refine WpL.v (V.ld1 tb) ?_
  refine WpL.v (V.as) ?_
  refine WpL.v (V.as) ?_
  apply WpL.nil
  apply Out.seqN
  apply Wp.ret
  refine Out.f2 rfl ResIs.t ResIs.t ⟨?_, rfl⟩
  exact rfl
def dropN (keys : List Int) (st : Nat × List WheelSpokeOfInt) : Nat × List WheelSpokeOfInt := keys.foldl (fun st k => match fix k st.2 with | some i => (st.1 + 1, st.2.eraseIdx i) | none => st) st
theorem dropN_snoc (keys : List Int) (k : Int) (st : Nat × List WheelSpokeOfInt) : dropN (keys ++ [k]) st = (match fix k (dropN keys st).2 with | some i => ((dropN keys st).1 + 1, (dropN keys st).2.eraseIdx i) | none => dropN keys st) := by simp [dropN]
theorem dropN_le : ∀ (keys : List Int) (st : Nat × List WheelSpokeOfInt), (dropN keys st).1 ≤ st.1 + keys.length ∧ (dropN keys st).2.length ≤ st.2.length
  | [], st => ⟨Nat.le_refl _, Nat.le_refl _⟩
  | k :: keys, st => by
    have ih := dropN_le keys (match fix k st.2 with | some i => (st.1 + 1, st.2.eraseIdx i) | none => st)
    have e : dropN (k :: keys) st = dropN keys (match fix k st.2 with | some i => (st.1 + 1, st.2.eraseIdx i) | none => st) := rfl
    rw [e]
    cases hx : fix k st.2 with
    | none => rw [hx] at ih; dsimp only at ih; simp only [List.length_cons]; exact ⟨by have := ih.1; omega, ih.2⟩
    | some i =>
      rw [hx] at ih
      have := List.length_eraseIdx_le st.2 i
      simp only [List.length_cons]
      exact ⟨by have := ih.1; dsimp only at this ⊢; omega, Nat.le_trans ih.2 this⟩
theorem wheel_drop (p : Nat) (v : Go.Value) (t : Int) (l : List WheelSpokeOfInt) (e : Ent) (ao : Option Go.Addr) (cap b off : Nat) (keys : List Int) (hR : Rd e ao keys.length b off 1 (keys.map i64c)) (hm : l.length ≤ 100000) (hk : keys.length ≤ 100000) :
    Ct Try.prog 56 [Ptr p 0, .slice ao keys.length cap] (whE p v t l ++ [e]) (fun r σ' => ∃ v', r = I ((dropN keys (0, l)).1 : Int) ∧ σ' = whE p v' t (dropN keys (0, l)).2 ++ [e]) := by
  unfold whE
  dsimp only [List.cons_append, List.nil_append]
  refine Ct.enter Try.func56 rfl rfl fun W => ?_
  apply Wp.seq
  apply Wp.region
  refine WpL.v (V.as) ?_
  apply WpL.nil
  apply Out.seqN
  apply Wp.seq
  apply Wp.region
  refine WpL.v (V.as) ?_
  apply WpL.nil
  apply Out.seqN
  apply Wp.seq
  apply Wp.seq
  apply Wp.region
  refine WpL.v (V.mv) ?_
  refine WpL.v (V.lenL tb) ?_
  refine WpL.v (V.mv) ?_
  apply WpL.nil
  apply Out.seqN
  apply Wp.block
  refine Wp.lp [10, 9, 0] (fun y : Nat × Go.Value => y.1 ≤ keys.length) (fun y => [(11, I (y.1 : Int)), (5, I ((dropN (keys.take y.1) (0, l)).1 : Int))]) (fun y => [cells p 146 (WheelWheelOfInt.c ⟨y.2, t⟩), rows WheelSpokeOfInt.c y.2 148 3 (dropN (keys.take y.1) (0, l)).2]) (fun y => keys.length - y.1) (0, v) (Nat.zero_le _) ?_
  rintro ⟨i, v⟩ hi K hK
  dsimp only at hi
  dsimp only [List.cons_append, List.nil_append]
  by_cases hlt : i < keys.length
  · obtain ⟨k, hkk⟩ := getS hlt
    have e1 : dropN (keys.take (i + 1)) (0, l) = (match fix k (dropN (keys.take i) (0, l)).2 with | some j => ((dropN (keys.take i) (0, l)).1 + 1, (dropN (keys.take i) (0, l)).2.eraseIdx j) | none => dropN (keys.take i) (0, l)) := by rw [take_snocS hkk, dropN_snoc]
    have hle := dropN_le (keys.take i) (0, l)
    simp only [List.length_take] at hle
    generalize dropN (keys.take i) (0, l) = st at *
    obtain ⟨c, L⟩ := st
    dsimp only at e1 hle ⊢
    have hF := wheel_find p v t L k (by omega)
    unfold whE idx at hF
    cases hx : fix k L with
    | none =>
      rw [hx] at e1 hF
      dsimp only at e1 hF
      apply Wp.seq
      apply Wp.region
      refine WpL.v (V.cmp) ?_
      apply WpL.nil
      apply Out.seqN
      apply Wp.seq
      refine Wp.c (fun h0 => ?_) (fun h0 => ?_)
      (try simp only [decide_eq_true_eq, decide_eq_false_iff_not, Bool.not_eq_true', Bool.not_eq_false', Bool.not_eq_true, Bool.not_eq_false, not_true_eq_false, not_false_eq_true, reduceCtorEq] at h0)
      apply Wp.skip
      apply Out.seqN
      apply Wp.seq
      apply Wp.block
      apply Wp.seq
      apply Wp.region
      refine WpL.v (V.ixR tb rfl rfl (by assumption)) ?_
      refine WpL.v (V.rdF1 tb (o := 0) rfl hR (getMapS hkk)) ?_
      refine WpL.v (V.as) ?_
      apply WpL.nil
      apply Out.seqN
      apply Wp.seq
      apply Wp.region
      refine WpL.v (V.mv) ?_
      refine WpL.v (V.mv) ?_
      refine WpL.o (Op1.callT rfl (hF) (by (repeat (first | exact Sel.nil | exact Rem.here | apply Sel.cons | apply Rem.there))) ?_)
      rintro v1 s2 ⟨rfl, rfl⟩
      refine incat ?_
      refine WpL.v (V.as) ?_
      apply WpL.nil
      apply Out.seqN
      apply Wp.seq
      apply Wp.region
      refine WpL.v (V.mv) ?_
      refine WpL.v (V.cmp) ?_
      apply WpL.nil
      apply Out.seqN
      refine Wp.cF ?_
      apply Wp.skip
      apply Out.blockN
      apply Out.seqN
      apply Wp.region
      refine WpL.v (V.add) ?_
      refine WpL.v (V.mv) ?_
      apply WpL.nil
      rotate_left
      (try simp only [decide_eq_true_eq, decide_eq_false_iff_not, Bool.not_eq_true', Bool.not_eq_false', Bool.not_eq_true, Bool.not_eq_false, not_true_eq_false, not_false_eq_true, reduceCtorEq] at h0)
      (exfalso; omega)
      exact Out.ag hK (i + 1, v) (by show i + 1 ≤ _; omega) (by show keys.length - (i + 1) < keys.length - i; omega) (he := by rw [e1]; (repeat (first | exact subEnv.nil | refine subEnv.cons rfl rfl ?_))) (hs := by rw [e1]; (repeat (first | exact Sel.nil | exact Rem.here | apply Sel.cons | apply Rem.there)))
    | some j =>
      rw [hx] at e1 hF
      dsimp only at e1 hF
      obtain ⟨x, h1, _, _⟩ := fix_some hx
      have hjl := (List.getElem?_eq_some_iff.1 h1).1
      refine Wp.fact (rowsForm (List.Mem.tail _ (List.Mem.head _))) fun hform => ?_
      rcases hform with ⟨rfl, rfl⟩ | ⟨g, cp, rfl, hc1, hc2⟩
      · simp at hjl
      have hD := slices_delete g cp L j hjl hc1 (by simp only [Go.maxLen] at hc2; omega)
      apply Wp.seq
      apply Wp.region
      refine WpL.v (V.cmp) ?_
      apply WpL.nil
      apply Out.seqN
      apply Wp.seq
      refine Wp.c (fun h0 => ?_) (fun h0 => ?_)
      (try simp only [decide_eq_true_eq, decide_eq_false_iff_not, Bool.not_eq_true', Bool.not_eq_false', Bool.not_eq_true, Bool.not_eq_false, not_true_eq_false, not_false_eq_true, reduceCtorEq] at h0)
      apply Wp.skip
      apply Out.seqN
      apply Wp.seq
      apply Wp.block
      apply Wp.seq
      apply Wp.region
      refine WpL.v (V.ixR tb rfl rfl (by assumption)) ?_
      refine WpL.v (V.rdF1 tb (o := 0) rfl hR (getMapS hkk)) ?_
      refine WpL.v (V.as) ?_
      apply WpL.nil
      apply Out.seqN
      apply Wp.seq
      apply Wp.region
      refine WpL.v (V.mv) ?_
      refine WpL.v (V.mv) ?_
      refine WpL.o (Op1.callT rfl (hF) (by (repeat (first | exact Sel.nil | exact Rem.here | apply Sel.cons | apply Rem.there))) ?_)
      rintro v1 s2 ⟨rfl, rfl⟩
      refine incat ?_
      refine WpL.v (V.as) ?_
      apply WpL.nil
      apply Out.seqN
      apply Wp.seq
      apply Wp.region
      refine WpL.v (V.mv) ?_
      refine WpL.v (V.cmp) ?_
      apply WpL.nil
      apply Out.seqN
      refine Wp.c (fun h3 => ?_) (fun h3 => ?_)
      (try simp only [decide_eq_true_eq, decide_eq_false_iff_not, Bool.not_eq_true', Bool.not_eq_false', Bool.not_eq_true, Bool.not_eq_false, not_true_eq_false, not_false_eq_true, reduceCtorEq] at h3)
      apply Wp.seq
      apply Wp.region
      refine WpL.v (V.mv) ?_
      refine WpL.v (V.mv) ?_
      refine WpL.v (V.nc) ?_
      refine WpL.v (V.fa tb) ?_
      refine WpL.v (V.ld1 tb) ?_
      refine WpL.v (V.mv) ?_
      refine WpL.v (V.mv) ?_
      refine WpL.v (V.add) ?_
      refine WpL.o (Op1.callT rfl (hD) (by (repeat (first | exact Sel.nil | exact Rem.here | apply Sel.cons | apply Rem.there))) ?_)
      rintro v4 s5 ⟨rfl, rfl⟩
      refine incat ?_
      refine WpL.v (V.nc) ?_
      refine WpL.v (V.fa tb) ?_
      refine WpL.o (O.st1 tb ?_)
      apply WpL.nil
      apply Out.seqN
      apply Wp.region
      refine WpL.v (V.mv) ?_
      refine WpL.v (V.add) ?_
      refine WpL.v (V.as) ?_
      apply WpL.nil
      apply Out.blockN
      apply Out.seqN
      apply Wp.region
      refine WpL.v (V.add) ?_
      refine WpL.v (V.mv) ?_
      apply WpL.nil
      rotate_left
      (try simp only [decide_eq_true_eq, decide_eq_false_iff_not, Bool.not_eq_true', Bool.not_eq_false', Bool.not_eq_true, Bool.not_eq_false, not_true_eq_false, not_false_eq_true, reduceCtorEq] at h3)
      (exfalso; omega)
      (try simp only [decide_eq_true_eq, decide_eq_false_iff_not, Bool.not_eq_true', Bool.not_eq_false', Bool.not_eq_true, Bool.not_eq_false, not_true_eq_false, not_false_eq_true, reduceCtorEq] at h0)
      (exfalso; omega)
      exact Out.ag hK (i + 1, _) (by show i + 1 ≤ _; omega) (by show keys.length - (i + 1) < keys.length - i; omega) (he := by rw [e1]; (repeat (first | exact subEnv.nil | refine subEnv.cons rfl rfl ?_))) (hs := by rw [e1]; (repeat (first | exact Sel.nil | exact Rem.here | apply Sel.cons | apply Rem.there)))
  · obtain rfl : i = keys.length := by omega
    rw [List.take_length]
    clear hK
    apply Wp.seq
    apply Wp.region
    refine WpL.v (V.cmp) ?_
    apply WpL.nil
    apply Out.seqN
    apply Wp.seq
    refine Wp.c (fun h0 => ?_) (fun h0 => ?_)
    (try simp only [decide_eq_true_eq, decide_eq_false_iff_not, Bool.not_eq_true', Bool.not_eq_false', Bool.not_eq_true, Bool.not_eq_false, not_true_eq_false, not_false_eq_true, reduceCtorEq] at h0)
    (exfalso; omega)
    (try simp only [decide_eq_true_eq, decide_eq_false_iff_not, Bool.not_eq_true', Bool.not_eq_false', Bool.not_eq_true, Bool.not_eq_false, not_true_eq_false, not_false_eq_true, reduceCtorEq] at h0)
    apply Wp.exit
    apply Out.seqE
    apply Out.seqE
    apply Out.blockE
    apply Out.seqN
    apply Wp.seq
    apply Wp.region
    refine WpL.v (V.mv) ?_
    refine WpL.v (V.as) ?_
    apply WpL.nil
    apply Out.seqN
    apply Wp.ret
    refine Out.e1 rfl ResIs.t ?_
    exact ⟨_, _, ⟨_, rfl, rfl⟩, (by (repeat (first | exact Sel.nil | exact Rem.here | apply Sel.cons | apply Rem.there)))⟩
end Go.Proofs.Ythoepbbpmdmfeaa
