/-
  Layer 14: votes of one cell each, inside of a greater block.
-/
import Derived.Test.YthoepbbpmdmfeaaVotes
namespace Go.Proofs.Ythoepbbpmdmfeaa
open Go.HL
set_option linter.unusedSimpArgs false
set_option linter.unusedVariables false
set_option maxRecDepth 8000
/-- A block with votes of one cell each at a place. -/
def VS {α : Type} (vf : α → Go.Value) (pre : List Go.Value) (l : List α) (h : List Bool) (n : Int) (post : List Go.Value) : List Go.Value := pre ++ ((l.map vf ++ (h.map (fun b => B b) ++ [I n])) ++ post)
structure WOk {α : Type} (pre : List Go.Value) (o : Nat) (l : List α) (h : List Bool) : Prop where
  pre : pre.length = o
  l : l.length = 7
  h : h.length = 7
variable {α : Type} {vf : α → Go.Value} {pre post : List Go.Value} {o : Nat} {l : List α} {h : List Bool} {n : Int}
theorem VS.parts : VS vf pre l h n post = pre ++ (l.map vf ++ (h.map (fun b => B b) ++ ([I n] ++ post))) := by
  unfold VS; simp only [List.append_assoc]
theorem mapV (hl : l.length = 7) : (l.map vf).length = 7 := by rw [List.length_map, hl]
theorem VS.len (w : WOk pre o l h) : (VS vf pre l h n post).length = o + 15 + post.length := by
  rw [VS.parts]; simp only [List.length_append, mapV w.l, List.length_map, w.h, w.pre, List.length_cons, List.length_nil]; omega
theorem VS.has (w : WOk pre o l h) {k : Nat} {v : Bool} (hk : h[k]? = some v) : (VS vf pre l h n post)[o + 7 + k * 1]? = some (B v) := by
  have hl := (List.getElem?_eq_some_iff.1 hk).1
  have := w.h
  rw [VS.parts, List.getElem?_append_right (by rw [w.pre]; omega), w.pre, List.getElem?_append_right (by rw [mapV w.l]; omega), mapV w.l, List.getElem?_append_left (by rw [List.length_map]; omega), List.getElem?_map,
    show o + 7 + k * 1 - o - 7 = k by omega, hk]
  rfl
theorem VS.cnt (w : WOk pre o l h) : (VS vf pre l h n post)[o + 14]? = some (I n) := by
  have := w.h
  rw [VS.parts, List.getElem?_append_right (by rw [w.pre]; omega), w.pre, List.getElem?_append_right (by rw [mapV w.l]; omega), mapV w.l, List.getElem?_append_right (by rw [List.length_map]; omega), List.length_map,
    show o + 14 - o - 7 - h.length = 0 by omega]
  rfl
theorem VS.setC (w : WOk pre o l h) (m : Int) : SplOf (o + 14) [I m] (VS vf pre l h n post) (VS vf pre l h m post) := ⟨by
  have e : ∀ z : Int, VS vf pre l h z post = (pre ++ (l.map vf ++ h.map (fun b => B b))) ++ ([I z] ++ post) := fun z => by rw [VS.parts]; simp only [List.append_assoc]
  rw [e, e]
  exact splice_mid (by simp only [List.length_append, w.pre, mapV w.l, List.length_map, w.h]) rfl⟩
theorem VS.setH (w : WOk pre o l h) {k : Nat} (hk : k < 7) (x : Bool) : SplOf (o + 7 + k * 1) [B x] (VS vf pre l h n post) (VS vf pre l (h.set k x) n post) := ⟨by
  have hkl : k < h.length := by rw [w.h]; exact hk
  obtain ⟨e1, e2, e3⟩ := set_parts (List.getElem?_eq_getElem hkl)
  have e : ∀ z : Bool, VS vf pre l (h.take k ++ ([z] ++ h.drop (k + 1))) n post = (pre ++ (l.map vf ++ (h.take k).map (fun b => B b))) ++ ([B z] ++ ((h.drop (k + 1)).map (fun b => B b) ++ ([I n] ++ post))) := fun z => by
    rw [VS.parts]; simp only [List.append_assoc, List.map_append, List.map_cons, List.map_nil]
  rw [e3, e]
  conv => lhs; rw [show VS vf pre l h n post = VS vf pre l (h.take k ++ ([h[k]] ++ h.drop (k + 1))) n post by rw [← e1], e]
  exact splice_mid (by simp only [List.length_append, w.pre, mapV w.l, List.length_map, e2]; omega) rfl⟩
theorem VS.setL (w : WOk pre o l h) {k : Nat} (hk : k < 7) (x : α) : SplOf (o + 0 + k * 1) [vf x] (VS vf pre l h n post) (VS vf pre (l.set k x) h n post) := ⟨by
  have hkl : k < l.length := by rw [w.l]; exact hk
  obtain ⟨e1, e2, e3⟩ := set_parts (List.getElem?_eq_getElem hkl)
  have e : ∀ z : α, VS vf pre (l.take k ++ ([z] ++ l.drop (k + 1))) h n post = (pre ++ (l.take k).map vf) ++ ([vf z] ++ ((l.drop (k + 1)).map vf ++ (h.map (fun b => B b) ++ ([I n] ++ post)))) := fun z => by
    rw [VS.parts]; simp only [List.append_assoc, List.map_append, List.map_cons, List.map_nil, List.append_nil, List.singleton_append, List.cons_append]
  rw [e3, e]
  conv => lhs; rw [show VS vf pre l h n post = VS vf pre (l.take k ++ ([l[k]] ++ l.drop (k + 1))) h n post by rw [← e1], e]
  exact splice_mid (by rw [List.length_append, w.pre, List.length_map, e2]; omega) rfl⟩
theorem VS.get (w : WOk pre o l h) {k : Nat} {x : α} (hk : l[k]? = some x) : SegOf (o + 0 + k * 1) 1 (VS vf pre l h n post) [vf x] := ⟨by
  obtain ⟨e1, e2, e3⟩ := set_parts hk
  have e : VS vf pre l h n post = (pre ++ (l.take k).map vf) ++ ([vf x] ++ ((l.drop (k + 1)).map vf ++ (h.map (fun b => B b) ++ ([I n] ++ post)))) := by
    conv => lhs; rw [VS.parts, e1]
    simp only [List.append_assoc, List.map_append, List.map_cons, List.map_nil, List.append_nil, List.singleton_append, List.cons_append]
  have hp : (pre ++ (l.take k).map vf).length = o + 0 + k * 1 := by rw [List.length_append, w.pre, List.length_map, e2]; omega
  rw [e, seg, ← hp, List.drop_left]
  exact List.take_left' rfl⟩
theorem VS.bC (w : WOk pre o l h) : Nat.blt (o + 14) (VS vf pre l h n post).length = true := by rw [Nat.blt_eq, VS.len w]; omega
theorem VS.bH (w : WOk pre o l h) {k : Nat} (hk : k < 7) : Nat.blt (o + 7 + k * 1) (VS vf pre l h n post).length = true := by rw [Nat.blt_eq, VS.len w]; omega
theorem VS.bL (w : WOk pre o l h) {k : Nat} (hk : k < 7) : Nat.ble (o + 0 + k * 1 + 1) (VS vf pre l h n post).length = true := by rw [Nat.ble_eq, VS.len w]; omega
theorem WOk.setL (w : WOk pre o l h) (k : Nat) (x : α) : WOk pre o (l.set k x) h := ⟨w.pre, by rw [List.length_set, w.l], w.h⟩
theorem WOk.setH (w : WOk pre o l h) (k : Nat) (x : Bool) : WOk pre o l (h.set k x) := ⟨w.pre, w.l, by rw [List.length_set, w.h]⟩
theorem VS.bL1 (w : WOk pre o l h) {k : Nat} (hk : k < 7) : Nat.blt (o + 0 + k * 1) (VS vf pre l h n post).length = true := by rw [Nat.blt_eq, VS.len w]; omega
theorem votes_putB {l : List Bool} (b E : Nat) (w : WOk pre o l h) (rep : Int) (m : Bool) (hn : -100 ≤ n ∧ n ≤ 100) :
    Ct Try.prog 85 [Ptr b o, I rep, B m] [cells b E (VS (fun b : Bool => B b) pre l h n post)] (fun r σ' => r = B (decide (0 ≤ rep ∧ rep < 7) && !(h.getD rep.toNat true)) ∧ σ' = [cells b E (if 0 ≤ rep ∧ rep < 7 ∧ h.getD rep.toNat true = false then VS (fun b : Bool => B b) pre (l.set rep.toNat m) (h.set rep.toNat true) (n + 1) post else VS (fun b : Bool => B b) pre l h n post)]) := by
  by_cases hr : 0 ≤ rep ∧ rep < 7
  · obtain ⟨k, rfl⟩ : ∃ k : Nat, rep = (k : Int) := ⟨rep.toNat, by omega⟩
    have hk : k < 7 := by omega
    obtain ⟨v, hv⟩ := getS (xs := h) (k := k) (by rw [w.h]; exact hk)
    have e : h.getD ((k : Int)).toNat true = v := by rw [show ((k : Int)).toNat = k by omega, List.getD, hv]; rfl
    rw [e, show ((k : Int)).toNat = k by omega]
    have hH := VS.has (vf := (fun b : Bool => B b)) (post := post) (n := n) w hv
    cases v with
    | true =>
      rw [if_neg (by simp), show (decide (0 ≤ (k : Int) ∧ (k : Int) < 7) && !true) = false by simp]
      refine Ct.enter Try.func85 rfl rfl fun W => ?_
      apply Wp.seq
      apply Wp.region
      refine WpL.v (V.as) ?_
      apply WpL.nil
      apply Out.seqN
      apply Wp.seq
      apply Wp.seq
      apply Wp.region
      refine WpL.v (V.mv) ?_
      refine WpL.v (V.eqP) ?_
      refine WpL.v (V.mv) ?_
      refine WpL.v (V.mv) ?_
      refine WpL.v (V.cmp) ?_
      refine WpL.v (V.pF) ?_
      refine WpL.v (V.mv) ?_
      refine WpL.pt (fun hq10 => ?_) (fun hq10 => ?_)
      (try simp only [decide_eq_true_eq, decide_eq_false_iff_not, Bool.not_eq_true', Bool.not_eq_false', Bool.not_eq_true, Bool.not_eq_false, not_true_eq_false, not_false_eq_true, reduceCtorEq] at hq10)
      (exfalso; omega)
      (try simp only [decide_eq_true_eq, decide_eq_false_iff_not, Bool.not_eq_true', Bool.not_eq_false', Bool.not_eq_true, Bool.not_eq_false, not_true_eq_false, not_false_eq_true, reduceCtorEq] at hq10)
      refine WpL.v (V.mv) ?_
      refine WpL.v (V.cmp) ?_
      refine WpL.v (V.pF) ?_
      refine WpL.v (V.mv) ?_
      refine WpL.pt (fun hq11 => ?_) (fun hq11 => ?_)
      (try simp only [decide_eq_true_eq, decide_eq_false_iff_not, Bool.not_eq_true', Bool.not_eq_false', Bool.not_eq_true, Bool.not_eq_false, not_true_eq_false, not_false_eq_true, reduceCtorEq] at hq11)
      (exfalso; omega)
      (try simp only [decide_eq_true_eq, decide_eq_false_iff_not, Bool.not_eq_true', Bool.not_eq_false', Bool.not_eq_true, Bool.not_eq_false, not_true_eq_false, not_false_eq_true, reduceCtorEq] at hq11)
      refine WpL.v (V.mv) ?_
      refine WpL.v (V.mv) ?_
      refine WpL.v (V.nc) ?_
      refine WpL.v (V.fa tb) ?_
      refine WpL.v (V.ixA2 tb (k := k) rfl rfl rfl) ?_
      refine WpL.v (V.ld1 tb (hr := hH)) ?_
      refine WpL.v (V.pF) ?_
      apply WpL.nil
      apply Out.seqN
      refine Wp.cT ?_
      apply Wp.seq
      apply Wp.region
      refine WpL.v (V.as) ?_
      apply WpL.nil
      apply Out.seqN
      apply Wp.ret
      apply Out.seqR
      refine Out.f1 rfl ResIs.t ⟨?_, rfl⟩
      exact rfl
    | false =>
      rw [if_pos ⟨hr.1, hr.2, rfl⟩, show (decide (0 ≤ (k : Int) ∧ (k : Int) < 7) && !false) = true by simp; omega]
      refine Ct.enter Try.func85 rfl rfl fun W => ?_
      have w1 := w.setL k m
      have w2 := w1.setH k true
      have hC := VS.cnt (vf := (fun b : Bool => B b)) (post := post) (n := n) w2
      apply Wp.seq
      apply Wp.region
      refine WpL.v (V.as) ?_
      apply WpL.nil
      apply Out.seqN
      apply Wp.seq
      apply Wp.seq
      apply Wp.region
      refine WpL.v (V.mv) ?_
      refine WpL.v (V.eqP) ?_
      refine WpL.v (V.mv) ?_
      refine WpL.v (V.mv) ?_
      refine WpL.v (V.cmp) ?_
      refine WpL.v (V.pF) ?_
      refine WpL.v (V.mv) ?_
      refine WpL.pt (fun hq20 => ?_) (fun hq20 => ?_)
      (try simp only [decide_eq_true_eq, decide_eq_false_iff_not, Bool.not_eq_true', Bool.not_eq_false', Bool.not_eq_true, Bool.not_eq_false, not_true_eq_false, not_false_eq_true, reduceCtorEq] at hq20)
      (exfalso; omega)
      (try simp only [decide_eq_true_eq, decide_eq_false_iff_not, Bool.not_eq_true', Bool.not_eq_false', Bool.not_eq_true, Bool.not_eq_false, not_true_eq_false, not_false_eq_true, reduceCtorEq] at hq20)
      refine WpL.v (V.mv) ?_
      refine WpL.v (V.cmp) ?_
      refine WpL.v (V.pF) ?_
      refine WpL.v (V.mv) ?_
      refine WpL.pt (fun hq21 => ?_) (fun hq21 => ?_)
      (try simp only [decide_eq_true_eq, decide_eq_false_iff_not, Bool.not_eq_true', Bool.not_eq_false', Bool.not_eq_true, Bool.not_eq_false, not_true_eq_false, not_false_eq_true, reduceCtorEq] at hq21)
      (exfalso; omega)
      (try simp only [decide_eq_true_eq, decide_eq_false_iff_not, Bool.not_eq_true', Bool.not_eq_false', Bool.not_eq_true, Bool.not_eq_false, not_true_eq_false, not_false_eq_true, reduceCtorEq] at hq21)
      refine WpL.v (V.mv) ?_
      refine WpL.v (V.mv) ?_
      refine WpL.v (V.nc) ?_
      refine WpL.v (V.fa tb) ?_
      refine WpL.v (V.ixA2 tb (k := k) rfl rfl rfl) ?_
      refine WpL.v (V.ld1 tb (hr := hH)) ?_
      refine WpL.v (V.pF) ?_
      apply WpL.nil
      apply Out.seqN
      refine Wp.cF ?_
      apply Wp.skip
      apply Out.seqN
      apply Wp.seq
      refine Wp.dG [] ?_ (List.Sublist.cons _ List.Sublist.slnil) (List.Sublist.cons _ List.Sublist.slnil)
      refine WpA.tF 0 rfl (V.mv) ?_
      refine WpA.tF 1 rfl (V.mv) ?_
      refine WpA.tF 2 rfl (V.mv) ?_
      refine WpA.tF 3 rfl (V.mv) ?_
      refine WpA.tF 4 rfl (V.mv) ?_
      refine WpA.tF 5 rfl (V.nc) ?_
      refine WpA.tF 6 rfl (V.fa tb) ?_
      refine WpA.tF 7 rfl (V.ixA2 tb (k := k) rfl rfl rfl) ?_
      refine WpA.tF 9 rfl (V.nc) ?_
      refine WpA.tF 10 rfl (V.fa tb) ?_
      refine WpA.oS 8 rfl (O.st1 tb ⟨?_, ?_, ?_⟩ (hl := VS.bL1 w hk) (hs := VS.setL (vf := (fun b : Bool => B b)) w hk m))
      exact holdT
      exact holdT
      refine WpA.tF 11 rfl (V.ixA2 tb (k := k) rfl rfl rfl) ?_
      refine WpA.oS 12 rfl (O.st1 tb ⟨?_, ?_, ?_⟩ (hl := VS.bH w1 hk) (hs := VS.setH w1 hk true))
      exact holdT
      exact holdT
      refine WpA.ou ?_
      apply Out.seqN
      apply Wp.seq
      apply Wp.region
      refine WpL.v (V.mv) ?_
      refine WpL.v (V.nc) ?_
      refine WpL.v (V.fa tb) ?_
      refine WpL.v (V.ld1 tb (hr := hC)) ?_
      refine WpL.v (V.add) ?_
      refine WpL.v (V.nc) ?_
      refine WpL.v (V.fa tb) ?_
      refine WpL.o (O.st1 tb ?_ (hl := VS.bC w2) (hs := VS.setC w2 (n + 1)))
      apply WpL.nil
      apply Out.seqN
      apply Wp.seq
      apply Wp.region
      refine WpL.v (V.as) ?_
      apply WpL.nil
      apply Out.seqN
      apply Wp.ret
      refine Out.f1 rfl ResIs.t ⟨?_, rfl⟩
      exact rfl
  · rw [if_neg (by omega), show (decide (0 ≤ rep ∧ rep < 7) && !(h.getD rep.toNat true)) = false by simp; omega]
    refine Ct.enter Try.func85 rfl rfl fun W => ?_
    apply Wp.seq
    apply Wp.region
    refine WpL.v (V.as) ?_
    apply WpL.nil
    apply Out.seqN
    apply Wp.seq
    apply Wp.seq
    apply Wp.region
    refine WpL.v (V.mv) ?_
    refine WpL.v (V.eqP) ?_
    refine WpL.v (V.mv) ?_
    refine WpL.v (V.mv) ?_
    refine WpL.v (V.cmp) ?_
    refine WpL.v (V.pF) ?_
    refine WpL.v (V.mv) ?_
    refine WpL.pt (fun hq30 => ?_) (fun hq30 => ?_)
    (try simp only [decide_eq_true_eq, decide_eq_false_iff_not, Bool.not_eq_true', Bool.not_eq_false', Bool.not_eq_true, Bool.not_eq_false, not_true_eq_false, not_false_eq_true, reduceCtorEq] at hq30)
    refine WpL.sk ?_
    refine WpL.sk ?_
    refine WpL.v (V.pT) ?_
    refine WpL.v (V.mv) ?_
    refine WpL.sk ?_
    refine WpL.sk ?_
    refine WpL.sk ?_
    refine WpL.sk ?_
    refine WpL.sk ?_
    refine WpL.sk ?_
    refine WpL.v (V.pT) ?_
    apply WpL.nil
    apply Out.seqN
    refine Wp.cT ?_
    apply Wp.seq
    apply Wp.region
    refine WpL.v (V.as) ?_
    apply WpL.nil
    apply Out.seqN
    apply Wp.ret
    apply Out.seqR
    refine Out.f1 rfl ResIs.t ⟨?_, rfl⟩
    exact rfl
    (try simp only [decide_eq_true_eq, decide_eq_false_iff_not, Bool.not_eq_true', Bool.not_eq_false', Bool.not_eq_true, Bool.not_eq_false, not_true_eq_false, not_false_eq_true, reduceCtorEq] at hq30)
    refine WpL.v (V.mv) ?_
    refine WpL.v (V.cmp) ?_
    refine WpL.v (V.pF) ?_
    refine WpL.v (V.mv) ?_
    refine WpL.pt (fun hq31 => ?_) (fun hq31 => ?_)
    (try simp only [decide_eq_true_eq, decide_eq_false_iff_not, Bool.not_eq_true', Bool.not_eq_false', Bool.not_eq_true, Bool.not_eq_false, not_true_eq_false, not_false_eq_true, reduceCtorEq] at hq31)
    refine WpL.sk ?_
    refine WpL.sk ?_
    refine WpL.sk ?_
    refine WpL.sk ?_
    refine WpL.sk ?_
    refine WpL.sk ?_
    refine WpL.v (V.pT) ?_
    apply WpL.nil
    apply Out.seqN
    refine Wp.cT ?_
    apply Wp.seq
    apply Wp.region
    refine WpL.v (V.as) ?_
    apply WpL.nil
    apply Out.seqN
    apply Wp.ret
    apply Out.seqR
    refine Out.f1 rfl ResIs.t ⟨?_, rfl⟩
    exact rfl
    (try simp only [decide_eq_true_eq, decide_eq_false_iff_not, Bool.not_eq_true', Bool.not_eq_false', Bool.not_eq_true, Bool.not_eq_false, not_true_eq_false, not_false_eq_true, reduceCtorEq] at hq31)
    (exfalso; omega)
theorem votes_putI {l : List Int} (b E : Nat) (w : WOk pre o l h) (rep : Int) (m : Int) (hn : -100 ≤ n ∧ n ≤ 100) :
    Ct Try.prog 31 [Ptr b o, I rep, I m] [cells b E (VS (fun z : Int => I z) pre l h n post)] (fun r σ' => r = B (decide (0 ≤ rep ∧ rep < 7) && !(h.getD rep.toNat true)) ∧ σ' = [cells b E (if 0 ≤ rep ∧ rep < 7 ∧ h.getD rep.toNat true = false then VS (fun z : Int => I z) pre (l.set rep.toNat m) (h.set rep.toNat true) (n + 1) post else VS (fun z : Int => I z) pre l h n post)]) := by
  by_cases hr : 0 ≤ rep ∧ rep < 7
  · obtain ⟨k, rfl⟩ : ∃ k : Nat, rep = (k : Int) := ⟨rep.toNat, by omega⟩
    have hk : k < 7 := by omega
    obtain ⟨v, hv⟩ := getS (xs := h) (k := k) (by rw [w.h]; exact hk)
    have e : h.getD ((k : Int)).toNat true = v := by rw [show ((k : Int)).toNat = k by omega, List.getD, hv]; rfl
    rw [e, show ((k : Int)).toNat = k by omega]
    have hH := VS.has (vf := (fun z : Int => I z)) (post := post) (n := n) w hv
    cases v with
    | true =>
      rw [if_neg (by simp), show (decide (0 ≤ (k : Int) ∧ (k : Int) < 7) && !true) = false by simp]
      refine Ct.enter Try.func31 rfl rfl fun W => ?_
      apply Wp.seq
      apply Wp.region
      refine WpL.v (V.as) ?_
      apply WpL.nil
      apply Out.seqN
      apply Wp.seq
      apply Wp.seq
      apply Wp.region
      refine WpL.v (V.mv) ?_
      refine WpL.v (V.eqP) ?_
      refine WpL.v (V.mv) ?_
      refine WpL.v (V.mv) ?_
      refine WpL.v (V.cmp) ?_
      refine WpL.v (V.pF) ?_
      refine WpL.v (V.mv) ?_
      refine WpL.pt (fun hr10 => ?_) (fun hr10 => ?_)
      (try simp only [decide_eq_true_eq, decide_eq_false_iff_not, Bool.not_eq_true', Bool.not_eq_false', Bool.not_eq_true, Bool.not_eq_false, not_true_eq_false, not_false_eq_true, reduceCtorEq] at hr10)
      (exfalso; omega)
      (try simp only [decide_eq_true_eq, decide_eq_false_iff_not, Bool.not_eq_true', Bool.not_eq_false', Bool.not_eq_true, Bool.not_eq_false, not_true_eq_false, not_false_eq_true, reduceCtorEq] at hr10)
      refine WpL.v (V.mv) ?_
      refine WpL.v (V.cmp) ?_
      refine WpL.v (V.pF) ?_
      refine WpL.v (V.mv) ?_
      refine WpL.pt (fun hr11 => ?_) (fun hr11 => ?_)
      (try simp only [decide_eq_true_eq, decide_eq_false_iff_not, Bool.not_eq_true', Bool.not_eq_false', Bool.not_eq_true, Bool.not_eq_false, not_true_eq_false, not_false_eq_true, reduceCtorEq] at hr11)
      (exfalso; omega)
      (try simp only [decide_eq_true_eq, decide_eq_false_iff_not, Bool.not_eq_true', Bool.not_eq_false', Bool.not_eq_true, Bool.not_eq_false, not_true_eq_false, not_false_eq_true, reduceCtorEq] at hr11)
      refine WpL.v (V.mv) ?_
      refine WpL.v (V.mv) ?_
      refine WpL.v (V.nc) ?_
      refine WpL.v (V.fa tb) ?_
      refine WpL.v (V.ixA2 tb (k := k) rfl rfl rfl) ?_
      refine WpL.v (V.ld1 tb (hr := hH)) ?_
      refine WpL.v (V.pF) ?_
      apply WpL.nil
      apply Out.seqN
      refine Wp.cT ?_
      apply Wp.seq
      apply Wp.region
      refine WpL.v (V.as) ?_
      apply WpL.nil
      apply Out.seqN
      apply Wp.ret
      apply Out.seqR
      refine Out.f1 rfl ResIs.t ⟨?_, rfl⟩
      exact rfl
    | false =>
      rw [if_pos ⟨hr.1, hr.2, rfl⟩, show (decide (0 ≤ (k : Int) ∧ (k : Int) < 7) && !false) = true by simp; omega]
      refine Ct.enter Try.func31 rfl rfl fun W => ?_
      have w1 := w.setL k m
      have w2 := w1.setH k true
      have hC := VS.cnt (vf := (fun z : Int => I z)) (post := post) (n := n) w2
      apply Wp.seq
      apply Wp.region
      refine WpL.v (V.as) ?_
      apply WpL.nil
      apply Out.seqN
      apply Wp.seq
      apply Wp.seq
      apply Wp.region
      refine WpL.v (V.mv) ?_
      refine WpL.v (V.eqP) ?_
      refine WpL.v (V.mv) ?_
      refine WpL.v (V.mv) ?_
      refine WpL.v (V.cmp) ?_
      refine WpL.v (V.pF) ?_
      refine WpL.v (V.mv) ?_
      refine WpL.pt (fun hr20 => ?_) (fun hr20 => ?_)
      (try simp only [decide_eq_true_eq, decide_eq_false_iff_not, Bool.not_eq_true', Bool.not_eq_false', Bool.not_eq_true, Bool.not_eq_false, not_true_eq_false, not_false_eq_true, reduceCtorEq] at hr20)
      (exfalso; omega)
      (try simp only [decide_eq_true_eq, decide_eq_false_iff_not, Bool.not_eq_true', Bool.not_eq_false', Bool.not_eq_true, Bool.not_eq_false, not_true_eq_false, not_false_eq_true, reduceCtorEq] at hr20)
      refine WpL.v (V.mv) ?_
      refine WpL.v (V.cmp) ?_
      refine WpL.v (V.pF) ?_
      refine WpL.v (V.mv) ?_
      refine WpL.pt (fun hr21 => ?_) (fun hr21 => ?_)
      (try simp only [decide_eq_true_eq, decide_eq_false_iff_not, Bool.not_eq_true', Bool.not_eq_false', Bool.not_eq_true, Bool.not_eq_false, not_true_eq_false, not_false_eq_true, reduceCtorEq] at hr21)
      (exfalso; omega)
      (try simp only [decide_eq_true_eq, decide_eq_false_iff_not, Bool.not_eq_true', Bool.not_eq_false', Bool.not_eq_true, Bool.not_eq_false, not_true_eq_false, not_false_eq_true, reduceCtorEq] at hr21)
      refine WpL.v (V.mv) ?_
      refine WpL.v (V.mv) ?_
      refine WpL.v (V.nc) ?_
      refine WpL.v (V.fa tb) ?_
      refine WpL.v (V.ixA2 tb (k := k) rfl rfl rfl) ?_
      refine WpL.v (V.ld1 tb (hr := hH)) ?_
      refine WpL.v (V.pF) ?_
      apply WpL.nil
      apply Out.seqN
      refine Wp.cF ?_
      apply Wp.skip
      apply Out.seqN
      apply Wp.seq
      refine Wp.dG [] ?_ (List.Sublist.cons _ List.Sublist.slnil) (List.Sublist.cons _ List.Sublist.slnil)
      refine WpA.tF 0 rfl (V.mv) ?_
      refine WpA.tF 1 rfl (V.mv) ?_
      refine WpA.tF 2 rfl (V.mv) ?_
      refine WpA.tF 3 rfl (V.mv) ?_
      refine WpA.tF 4 rfl (V.mv) ?_
      refine WpA.tF 5 rfl (V.nc) ?_
      refine WpA.tF 6 rfl (V.fa tb) ?_
      refine WpA.tF 7 rfl (V.ixA2 tb (k := k) rfl rfl rfl) ?_
      refine WpA.tF 9 rfl (V.nc) ?_
      refine WpA.tF 10 rfl (V.fa tb) ?_
      refine WpA.oS 8 rfl (O.st1 tb ⟨?_, ?_, ?_⟩ (hl := VS.bL1 w hk) (hs := VS.setL (vf := (fun z : Int => I z)) w hk m))
      exact holdT
      exact holdT
      refine WpA.tF 11 rfl (V.ixA2 tb (k := k) rfl rfl rfl) ?_
      refine WpA.oS 12 rfl (O.st1 tb ⟨?_, ?_, ?_⟩ (hl := VS.bH w1 hk) (hs := VS.setH w1 hk true))
      exact holdT
      exact holdT
      refine WpA.ou ?_
      apply Out.seqN
      apply Wp.seq
      apply Wp.region
      refine WpL.v (V.mv) ?_
      refine WpL.v (V.nc) ?_
      refine WpL.v (V.fa tb) ?_
      refine WpL.v (V.ld1 tb (hr := hC)) ?_
      refine WpL.v (V.add) ?_
      refine WpL.v (V.nc) ?_
      refine WpL.v (V.fa tb) ?_
      refine WpL.o (O.st1 tb ?_ (hl := VS.bC w2) (hs := VS.setC w2 (n + 1)))
      apply WpL.nil
      apply Out.seqN
      apply Wp.seq
      apply Wp.region
      refine WpL.v (V.as) ?_
      apply WpL.nil
      apply Out.seqN
      apply Wp.ret
      refine Out.f1 rfl ResIs.t ⟨?_, rfl⟩
      exact rfl
  · rw [if_neg (by omega), show (decide (0 ≤ rep ∧ rep < 7) && !(h.getD rep.toNat true)) = false by simp; omega]
    refine Ct.enter Try.func31 rfl rfl fun W => ?_
    apply Wp.seq
    apply Wp.region
    refine WpL.v (V.as) ?_
    apply WpL.nil
    apply Out.seqN
    apply Wp.seq
    apply Wp.seq
    apply Wp.region
    refine WpL.v (V.mv) ?_
    refine WpL.v (V.eqP) ?_
    refine WpL.v (V.mv) ?_
    refine WpL.v (V.mv) ?_
    refine WpL.v (V.cmp) ?_
    refine WpL.v (V.pF) ?_
    refine WpL.v (V.mv) ?_
    refine WpL.pt (fun hr30 => ?_) (fun hr30 => ?_)
    (try simp only [decide_eq_true_eq, decide_eq_false_iff_not, Bool.not_eq_true', Bool.not_eq_false', Bool.not_eq_true, Bool.not_eq_false, not_true_eq_false, not_false_eq_true, reduceCtorEq] at hr30)
    refine WpL.sk ?_
    refine WpL.sk ?_
    refine WpL.v (V.pT) ?_
    refine WpL.v (V.mv) ?_
    refine WpL.sk ?_
    refine WpL.sk ?_
    refine WpL.sk ?_
    refine WpL.sk ?_
    refine WpL.sk ?_
    refine WpL.sk ?_
    refine WpL.v (V.pT) ?_
    apply WpL.nil
    apply Out.seqN
    refine Wp.cT ?_
    apply Wp.seq
    apply Wp.region
    refine WpL.v (V.as) ?_
    apply WpL.nil
    apply Out.seqN
    apply Wp.ret
    apply Out.seqR
    refine Out.f1 rfl ResIs.t ⟨?_, rfl⟩
    exact rfl
    (try simp only [decide_eq_true_eq, decide_eq_false_iff_not, Bool.not_eq_true', Bool.not_eq_false', Bool.not_eq_true, Bool.not_eq_false, not_true_eq_false, not_false_eq_true, reduceCtorEq] at hr30)
    refine WpL.v (V.mv) ?_
    refine WpL.v (V.cmp) ?_
    refine WpL.v (V.pF) ?_
    refine WpL.v (V.mv) ?_
    refine WpL.pt (fun hr31 => ?_) (fun hr31 => ?_)
    (try simp only [decide_eq_true_eq, decide_eq_false_iff_not, Bool.not_eq_true', Bool.not_eq_false', Bool.not_eq_true, Bool.not_eq_false, not_true_eq_false, not_false_eq_true, reduceCtorEq] at hr31)
    refine WpL.sk ?_
    refine WpL.sk ?_
    refine WpL.sk ?_
    refine WpL.sk ?_
    refine WpL.sk ?_
    refine WpL.sk ?_
    refine WpL.v (V.pT) ?_
    apply WpL.nil
    apply Out.seqN
    refine Wp.cT ?_
    apply Wp.seq
    apply Wp.region
    refine WpL.v (V.as) ?_
    apply WpL.nil
    apply Out.seqN
    apply Wp.ret
    apply Out.seqR
    refine Out.f1 rfl ResIs.t ⟨?_, rfl⟩
    exact rfl
    (try simp only [decide_eq_true_eq, decide_eq_false_iff_not, Bool.not_eq_true', Bool.not_eq_false', Bool.not_eq_true, Bool.not_eq_false, not_true_eq_false, not_false_eq_true, reduceCtorEq] at hr31)
    (exfalso; omega)
end Go.Proofs.Ythoepbbpmdmfeaa
