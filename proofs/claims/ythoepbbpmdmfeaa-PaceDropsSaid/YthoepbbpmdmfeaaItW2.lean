/-
  Layer 17: a wheel of items: what it does.
-/
import Derived.Test.YthoepbbpmdmfeaaItW
namespace Go.Proofs.Ythoepbbpmdmfeaa
open Go.HL
set_option linter.unusedSimpArgs false
set_option linter.unusedVariables false
set_option maxRecDepth 8000
def IwhE (p : Nat) (v : Go.Value) (t : Int) (l : List WheelSpokeOfItem) : List Ent := [cells p 181 (WheelWheelOfItem.c ⟨v, t⟩), rows WheelSpokeOfItem.c v 183 4 l]
def Ifix (key : TItem) (l : List WheelSpokeOfItem) : Option Nat := l.findIdx? fun s => decide (s.key = key)
def Iidx (key : TItem) (l : List WheelSpokeOfItem) : Int := match Ifix key l with | some i => (i : Int) | none => -1
theorem Ifix_at {key : TItem} {l : List WheelSpokeOfItem} {i : Nat} {x : WheelSpokeOfItem} (hx : l[i]? = some x) (hk : x.key = key) (h : ∀ (j : Nat) (y : WheelSpokeOfItem), j < i → l[j]? = some y → y.key ≠ key) : Ifix key l = some i := by
  obtain ⟨h1, rfl⟩ := List.getElem?_eq_some_iff.1 hx
  exact List.findIdx?_eq_some_iff_getElem.2 ⟨h1, by simpa using hk, fun j hj => by simpa using h j _ hj (List.getElem?_eq_getElem (by omega))⟩
theorem Ifix_no {key : TItem} {l : List WheelSpokeOfItem} (h : ∀ (j : Nat) (y : WheelSpokeOfItem), l[j]? = some y → y.key ≠ key) : Ifix key l = none := by
  rw [Ifix, List.findIdx?_eq_none_iff]
  intro y hy
  obtain ⟨j, hj⟩ := List.getElem?_of_mem hy
  simpa using h j y hj
theorem Ifix_some {key : TItem} {l : List WheelSpokeOfItem} {i : Nat} (h : Ifix key l = some i) : ∃ x, l[i]? = some x ∧ x.key = key ∧ ∀ (j : Nat) (y : WheelSpokeOfItem), j < i → l[j]? = some y → y.key ≠ key := by
  obtain ⟨h1, h2, h3⟩ := List.findIdx?_eq_some_iff_getElem.1 h
  refine ⟨l[i], List.getElem?_eq_getElem h1, by simpa using h2, fun j y hj hy => ?_⟩
  obtain ⟨h4, rfl⟩ := List.getElem?_eq_some_iff.1 hy
  simpa using h3 j hj
theorem Ifix_none {key : TItem} {l : List WheelSpokeOfItem} (h : Ifix key l = none) : ∀ y, y ∈ l → y.key ≠ key := fun y hy => by
  have := (List.findIdx?_eq_none_iff.1 h) y hy
  simpa using this
theorem Iwheel_is (s : WheelSpokeOfItem) (b : Nat) (key : TItem) : Ct Try.prog 128 [A s.c, Ptr b 0] [cells b 23 key.c] (fun r σ' => r = B (decide (s.key = key)) ∧ σ' = [cells b 23 key.c]) := by
  refine Ct.enter Try.func128 rfl rfl fun W => ?_
  apply Wp.seq
  apply Wp.region
  refine WpL.o (O.bxA (fun p2 => ?_))
  refine WpL.v (V.as) ?_
  apply WpL.nil
  apply Out.seqN
  apply Wp.seq
  apply Wp.region
  refine WpL.v (V.fa tb) ?_
  refine WpL.v (V.ldA tb) ?_
  refine WpL.v (V.ldA tb) ?_
  refine WpL.v (V.eq (TItem.eqT _ _ _)) ?_
  refine WpL.v (V.as) ?_
  apply WpL.nil
  apply Out.seqN
  apply Wp.ret
  refine Out.f1 rfl ResIs.t ⟨?_, rfl⟩
  exact rfl
theorem Islices_index (v : Go.Value) (l : List WheelSpokeOfItem) (b : Nat) (key : TItem) (hm : l.length ≤ 100000) :
    Ct Try.prog 127 [v, .func (.func 128) #[] #[Ptr b 0]] [rows WheelSpokeOfItem.c v 183 4 l, cells b 23 key.c] (fun r σ' => r = I (Iidx key l) ∧ σ' = [rows WheelSpokeOfItem.c v 183 4 l, cells b 23 key.c]) := by
  refine Ct.enter Try.func127 rfl rfl fun W => ?_
  refine Wp.fact (rowsForm (List.Mem.head _)) fun hform => ?_
  apply Wp.seq
  apply Wp.region
  refine WpL.v (V.as) ?_
  apply WpL.nil
  apply Out.seqN
  apply Wp.seq
  apply Wp.seq
  apply Wp.region
  refine WpL.v (V.mv) ?_
  refine WpL.v (V.lenRows tb) ?_
  refine WpL.v (V.mv) ?_
  apply WpL.nil
  apply Out.seqN
  apply Wp.block
  refine Wp.lp [7, 1, 0] (fun i : Nat => i ≤ l.length ∧ ∀ (j : Nat) (y : WheelSpokeOfItem), j < i → l[j]? = some y → y.key ≠ key) (fun i => [(8, I (i : Int))]) (fun _ => []) (fun i => l.length - i) 0 ⟨Nat.zero_le _, fun j y h => absurd h (Nat.not_lt_zero _)⟩ ?_
  rintro i ⟨hi, hno⟩ K hK
  dsimp only [List.cons_append, List.nil_append]
  by_cases hlt : i < l.length
  · obtain ⟨x, hx⟩ := getS hlt
    have hW := Iwheel_is x b key
    have hv : ∃ g cap, v = .slice (some ⟨g, 0, none⟩) l.length cap := by
      rcases hform with ⟨rfl, rfl⟩ | ⟨g, cap, rfl, _⟩
      · simp at hlt
      · exact ⟨g, cap, rfl⟩
    obtain ⟨g, cap, rfl⟩ := hv
    by_cases hk : x.key = key
    · have hfi : Iidx key l = (i : Int) := by unfold Iidx; rw [Ifix_at hx hk hno]
      rw [hfi]
      rw [decide_eq_true hk] at hW
      apply Wp.seq
      apply Wp.region
      refine WpL.v (V.cmp) ?_
      apply WpL.nil
      apply Out.seqN
      apply Wp.seq
      refine Wp.c (fun h0 => ?_) (fun h0 => ?_)
      (try simp only [decide_eq_true_eq, decide_eq_false_iff_not, Bool.not_eq_true', Bool.not_eq_false', Bool.not_eq_true, Bool.not_eq_false, not_true_eq_false, not_false_eq_true, reduceCtorEq] at h0)
      apply Wp.skip
      apply Out.seqN
      apply Wp.seq
      apply Wp.block
      apply Wp.seq
      apply Wp.region
      refine WpL.v (V.mv) ?_
      refine WpL.v (V.as) ?_
      apply WpL.nil
      apply Out.seqN
      apply Wp.seq
      apply Wp.region
      refine WpL.v (V.mv) ?_
      refine WpL.v (V.mv) ?_
      refine WpL.v (V.mv) ?_
      refine WpL.v (V.ixk tb (k := i) rfl rfl rfl rfl (by omega)) ?_
      refine WpL.v (V.ldRow tb rfl (by (repeat first | exact List.Mem.head _ | apply List.Mem.tail)) WheelSpokeOfItem.len hx) ?_
      refine WpL.o (Op1.callC rfl rfl (hW) (by (repeat (first | exact Sel.nil | exact Rem.here | apply Sel.cons | apply Rem.there))) ?_)
      rintro v1 s2 ⟨rfl, rfl⟩
      refine incat ?_
      apply WpL.nil
      apply Out.seqN
      refine Wp.cT ?_
      apply Wp.seq
      apply Wp.region
      refine WpL.v (V.mv) ?_
      refine WpL.v (V.as) ?_
      apply WpL.nil
      apply Out.seqN
      apply Wp.ret
      apply Out.blockR
      apply Out.seqR
      apply Out.seqR
      apply Out.blockR
      apply Out.seqR
      refine Out.f1 rfl ResIs.t ⟨?_, rfl⟩
      exact rfl
      (try simp only [decide_eq_true_eq, decide_eq_false_iff_not, Bool.not_eq_true', Bool.not_eq_false', Bool.not_eq_true, Bool.not_eq_false, not_true_eq_false, not_false_eq_true, reduceCtorEq] at h0)
      (exfalso; omega)
    · rw [decide_eq_false hk] at hW
      apply Wp.seq
      apply Wp.region
      refine WpL.v (V.cmp) ?_
      apply WpL.nil
      apply Out.seqN
      apply Wp.seq
      refine Wp.c (fun h0 => ?_) (fun h0 => ?_)
      (try simp only [decide_eq_true_eq, decide_eq_false_iff_not, Bool.not_eq_true', Bool.not_eq_false', Bool.not_eq_true, Bool.not_eq_false, not_true_eq_false, not_false_eq_true, reduceCtorEq] at h0)
      apply Wp.skip
      apply Out.seqN
      apply Wp.seq
      apply Wp.block
      apply Wp.seq
      apply Wp.region
      refine WpL.v (V.mv) ?_
      refine WpL.v (V.as) ?_
      apply WpL.nil
      apply Out.seqN
      apply Wp.seq
      apply Wp.region
      refine WpL.v (V.mv) ?_
      refine WpL.v (V.mv) ?_
      refine WpL.v (V.mv) ?_
      refine WpL.v (V.ixk tb (k := i) rfl rfl rfl rfl (by omega)) ?_
      refine WpL.v (V.ldRow tb rfl (by (repeat first | exact List.Mem.head _ | apply List.Mem.tail)) WheelSpokeOfItem.len hx) ?_
      refine WpL.o (Op1.callC rfl rfl (hW) (by (repeat (first | exact Sel.nil | exact Rem.here | apply Sel.cons | apply Rem.there))) ?_)
      rintro v1 s2 ⟨rfl, rfl⟩
      refine incat ?_
      apply WpL.nil
      apply Out.seqN
      refine Wp.cF ?_
      apply Wp.skip
      apply Out.blockN
      apply Out.seqN
      apply Wp.region
      refine WpL.v (V.add) ?_
      refine WpL.v (V.mv) ?_
      apply WpL.nil
      rotate_left
      (try simp only [decide_eq_true_eq, decide_eq_false_iff_not, Bool.not_eq_true', Bool.not_eq_false', Bool.not_eq_true, Bool.not_eq_false, not_true_eq_false, not_false_eq_true, reduceCtorEq] at h0)
      (exfalso; omega)
      exact Out.ag hK (i + 1) ⟨by omega, fun j y hj hy => by
        by_cases hji : j = i
        · subst hji; rw [hx] at hy; rw [← Option.some.inj hy]; exact hk
        · exact hno j y (by omega) hy⟩ (by show l.length - (i + 1) < l.length - i; omega)
  · have hfi : Iidx key l = -1 := by
      unfold Iidx
      rw [Ifix_no fun j y hy => hno j y (by have := (List.getElem?_eq_some_iff.1 hy).1; omega) hy]
    rw [hfi]
    apply Wp.seq
    apply Wp.region
    refine WpL.v (V.cmp) ?_
    apply WpL.nil
    apply Out.seqN
    apply Wp.seq
    refine Wp.c (fun h0 => ?_) (fun h0 => ?_)
    (try simp only [decide_eq_true_eq, decide_eq_false_iff_not, Bool.not_eq_true', Bool.not_eq_false', Bool.not_eq_true, Bool.not_eq_false, not_true_eq_false, not_false_eq_true, reduceCtorEq] at h0)
    (exfalso; omega)
    (try simp only [decide_eq_true_eq, decide_eq_false_iff_not, Bool.not_eq_true', Bool.not_eq_false', Bool.not_eq_true, Bool.not_eq_false, not_true_eq_false, not_false_eq_true, reduceCtorEq] at h0)
    apply Wp.exit
    apply Out.seqE
    apply Out.seqE
    apply Out.blockE
    apply Out.seqN
    apply Wp.seq
    apply Wp.region
    refine WpL.v (V.as) ?_
    apply WpL.nil
    apply Out.seqN
    apply Wp.ret
    refine Out.f1 rfl ResIs.t ⟨?_, rfl⟩
    exact rfl
theorem Iwheel_find (p : Nat) (v : Go.Value) (t : Int) (l : List WheelSpokeOfItem) (key : TItem) (hm : l.length ≤ 100000) :
    Ct Try.prog 117 [Ptr p 0, A key.c] (IwhE p v t l) (fun r σ' => r = I (Iidx key l) ∧ σ' = IwhE p v t l) := by
  have hI (b : Nat) := Islices_index v l b key hm
  unfold IwhE
  refine Ct.enter Try.func117 rfl rfl fun W => ?_
  apply Wp.seq
  apply Wp.region
  refine WpL.o (O.bxA (fun p3 => ?_))
  refine WpL.v (V.as) ?_
  apply WpL.nil
  apply Out.seqN
  apply Wp.seq
  apply Wp.seq
  apply Wp.region
  refine WpL.v (V.mv) ?_
  refine WpL.v (V.eqP) ?_
  apply WpL.nil
  apply Out.seqN
  refine Wp.cF ?_
  apply Wp.skip
  apply Out.seqN
  apply Wp.seq
  apply Wp.region
  refine WpL.v (V.mv) ?_
  refine WpL.v (V.nc) ?_
  refine WpL.v (V.fa tb) ?_
  refine WpL.v (V.ld1 tb) ?_
  refine WpL.v (V.mf) ?_
  refine WpL.o (Op1.callT rfl (hI _) (by (repeat (first | exact Sel.nil | exact Rem.here | apply Sel.cons | apply Rem.there))) ?_)
  rintro v0 s1 ⟨rfl, rfl⟩
  refine incat ?_
  refine WpL.v (V.as) ?_
  apply WpL.nil
  apply Out.seqN
  apply Wp.ret
  refine Out.f1 rfl ResIs.t ⟨?_, rfl⟩
  exact rfl
theorem Iwheel_find0 (key : TItem) : Ct Try.prog 117 [.pointer none, A key.c] [] (fun r σ' => r = I (-1) ∧ σ' = []) := by
  refine Ct.enter Try.func117 rfl rfl fun W => ?_
  apply Wp.seq
  apply Wp.region
  refine WpL.o (O.bxA (fun p3 => ?_))
  refine WpL.v (V.as) ?_
  apply WpL.nil
  apply Out.seqN
  apply Wp.seq
  apply Wp.seq
  apply Wp.region
  refine WpL.v (V.mv) ?_
  refine WpL.v (V.eqN) ?_
  apply WpL.nil
  apply Out.seqN
  refine Wp.cT ?_
  apply Wp.seq
  apply Wp.region
  refine WpL.v (V.as) ?_
  apply WpL.nil
  apply Out.seqN
  apply Wp.ret
  apply Out.seqR
  refine Out.f1 rfl ResIs.t ⟨?_, rfl⟩
  exact rfl
theorem Islices_delete (g cap : Nat) (l : List WheelSpokeOfItem) (i : Nat) (hi : i < l.length) (hm : l.length ≤ cap) (hc : cap ≤ 9223372036854775807) :
    Ct Try.prog 123 [.slice (some ⟨g, 0, none⟩) l.length cap, I (i : Int), I ((i : Int) + 1)] [rows WheelSpokeOfItem.c (.slice (some ⟨g, 0, none⟩) l.length cap) 183 4 l] (fun v σ' => v = .slice (some ⟨g, 0, none⟩) (l.eraseIdx i).length cap ∧ σ' = [rows WheelSpokeOfItem.c (.slice (some ⟨g, 0, none⟩) (l.eraseIdx i).length cap) 183 4 (l.eraseIdx i)]) := by
  have e1 : l.eraseIdx i = l.take i ++ l.drop (i + 1) := by rw [List.eraseIdx_eq_take_drop_succ]
  have e2 : (l.eraseIdx i).length = i + (l.length - (i + 1)) := by rw [List.length_eraseIdx, if_pos hi]; omega
  rw [e2, e1]
  refine Ct.enter Try.func123 rfl rfl fun W => ?_
  apply Wp.seq
  apply Wp.region
  refine WpL.v (V.as) ?_
  apply WpL.nil
  apply Out.seqN
  apply Wp.seq
  apply Wp.region
  refine WpL.v (V.mv) ?_
  refine WpL.v (V.mv) ?_
  refine WpL.v (V.mv) ?_
  refine WpL.v (V.mv) ?_
  refine WpL.v (V.lenL tb) ?_
  refine WpL.v (V.slPart3 tb (i := i) (j := i + 1) (m := l.length) rfl rfl rfl rfl (by omega) (by omega) (by omega)) ?_
  apply WpL.nil
  apply Out.seqN
  apply Wp.seq
  apply Wp.seq
  apply Wp.region
  refine WpL.v (V.mv) ?_
  refine WpL.v (V.mv) ?_
  refine WpL.v (V.cmp) ?_
  apply WpL.nil
  apply Out.seqN
  refine Wp.c (fun h0 => ?_) (fun h0 => ?_)
  (try simp only [decide_eq_true_eq, decide_eq_false_iff_not, Bool.not_eq_true', Bool.not_eq_false', Bool.not_eq_true, Bool.not_eq_false, not_true_eq_false, not_false_eq_true, reduceCtorEq] at h0)
  (exfalso; omega)
  (try simp only [decide_eq_true_eq, decide_eq_false_iff_not, Bool.not_eq_true', Bool.not_eq_false', Bool.not_eq_true, Bool.not_eq_false, not_true_eq_false, not_false_eq_true, reduceCtorEq] at h0)
  apply Wp.skip
  apply Out.seqN
  apply Wp.seq
  apply Wp.region
  refine WpL.v (V.mv) ?_
  refine WpL.v (V.lenL tb) ?_
  refine WpL.v (V.as) ?_
  apply WpL.nil
  apply Out.seqN
  apply Wp.seq
  refine Wp.dG [] ?_ (List.Sublist.cons _ List.Sublist.slnil) (List.Sublist.cons _ List.Sublist.slnil)
  refine WpA.tF 0 rfl (V.mv) ?_
  refine WpA.tF 1 rfl (V.mv) ?_
  refine WpA.tF 2 rfl (V.slTo tb (j := i) rfl rfl (by omega)) ?_
  refine WpA.tF 3 rfl (V.mv) ?_
  refine WpA.tF 4 rfl (V.mv) ?_
  refine WpA.tF 5 rfl (V.slFrom tb (i := i + 1) rfl rfl (by omega)) ?_
  refine WpA.oS 6 rfl (O.apIn tb (i := i) (j := i + 1) rfl rfl (by (repeat first | exact Upd.here _ _ _ | apply Upd.there)) rfl (by omega) (by omega) WheelSpokeOfItem.len WheelSpokeOfItem.ones ⟨?_, ?_, ?_⟩)
  exact holdT
  exact holdT
  refine WpA.tF 7 rfl (V.as) ?_
  refine WpA.ou ?_
  apply Out.seqN
  apply Wp.seq
  apply Wp.region
  refine WpL.v (V.mv) ?_
  refine WpL.v (V.mv) ?_
  refine WpL.v (V.lenL tb) ?_
  refine WpL.v (V.mv) ?_
  refine WpL.v (V.slPart tb (i := i + (l.length - (i + 1))) (j := l.length) rfl rfl rfl (by omega) (by omega)) ?_
  refine WpL.o (O.clrIn tb rfl (by (repeat first | exact Upd.here _ _ _ | apply Upd.there)) (by simp; omega) (by omega) (by omega) ?_)
  apply WpL.nil
  apply Out.seqN
  apply Wp.seq
  apply Wp.region
  refine WpL.v (V.mv) ?_
  refine WpL.v (V.as) ?_
  apply WpL.nil
  apply Out.seqN
  apply Wp.ret
  refine Out.f1 rfl ResIs.t ⟨?_, rfl⟩
  exact rfl
end Go.Proofs.Ythoepbbpmdmfeaa
