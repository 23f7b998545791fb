/-
  Layer 14: votes that are messages, inside of a greater block.
-/
import Derived.Test.YthoepbbpmdmfeaaTypes
import Derived.Test.YthoepbbpmdmfeaaHeapG
namespace Go.Proofs.Ythoepbbpmdmfeaa
open Go.HL
set_option linter.unusedSimpArgs false
set_option linter.unusedVariables false
set_option maxRecDepth 8000
/-- A block with votes at a place. -/
def VM (pre : List Go.Value) (l : List TMsg) (h : List Bool) (n : Int) (post : List Go.Value) : List Go.Value := pre ++ (votesC l h n ++ post)
structure VOk (pre : List Go.Value) (o : Nat) (l : List TMsg) (h : List Bool) : Prop where
  pre : pre.length = o
  l : l.length = 7
  h : h.length = 7
variable {pre post : List Go.Value} {o : Nat} {l : List TMsg} {h : List Bool} {n : Int}
theorem VM.parts : VM pre l h n post = pre ++ (l.flatMap TMsg.c ++ (h.map (fun b => B b) ++ ([I n] ++ post))) := by
  unfold VM votesC; simp only [List.append_assoc]
theorem flatM (hl : l.length = 7) : (l.flatMap TMsg.c).length = 175 := by rw [Go.HL.flatMap_len TMsg.len, hl]
theorem VM.len (w : VOk pre o l h) : (VM pre l h n post).length = o + 183 + post.length := by
  rw [VM.parts]; simp only [List.length_append, flatM w.l, List.length_map, w.h, w.pre, List.length_cons, List.length_nil]; omega
theorem VM.has (w : VOk pre o l h) {k : Nat} {v : Bool} (hk : h[k]? = some v) : (VM pre l h n post)[o + 175 + k * 1]? = some (B v) := by
  have hl := (List.getElem?_eq_some_iff.1 hk).1
  have := w.h
  rw [VM.parts, List.getElem?_append_right (by rw [w.pre]; omega), w.pre, List.getElem?_append_right (by rw [flatM w.l]; omega), flatM w.l, List.getElem?_append_left (by rw [List.length_map]; omega), List.getElem?_map,
    show o + 175 + k * 1 - o - 175 = k by omega, hk]
  rfl
theorem VM.cnt (w : VOk pre o l h) : (VM pre l h n post)[o + 182]? = some (I n) := by
  have := w.h
  rw [VM.parts, List.getElem?_append_right (by rw [w.pre]; omega), w.pre, List.getElem?_append_right (by rw [flatM w.l]; omega), flatM w.l, List.getElem?_append_right (by rw [List.length_map]; omega), List.length_map,
    show o + 182 - o - 175 - h.length = 0 by omega]
  rfl
theorem splice_mid {o : Nat} {p x y q : List Go.Value} (hp : p.length = o) (hx : x.length = y.length) : splice o x (p ++ (y ++ q)) = p ++ (x ++ q) := by
  subst hp
  rw [splice, List.take_left, hx, List.append_assoc]
  congr 2
  rw [List.drop_append, List.drop_of_length_le (by omega), List.nil_append, show p.length + y.length - p.length = y.length by omega, List.drop_left]
theorem set_parts {α : Type} {l : List α} {k : Nat} {a : α} (h : l[k]? = some a) : l = l.take k ++ ([a] ++ l.drop (k + 1)) ∧ (l.take k).length = k ∧ ∀ b, l.set k b = l.take k ++ ([b] ++ l.drop (k + 1)) := by
  have hl := (List.getElem?_eq_some_iff.1 h).1
  refine ⟨?_, by rw [List.length_take]; omega, fun b => ?_⟩
  · have hd : l.drop k = a :: l.drop (k + 1) := by
      rw [List.drop_eq_getElem_cons hl]
      rw [List.getElem?_eq_getElem hl] at h
      rw [Option.some.inj h]
    have := List.take_append_drop k l
    rw [hd] at this
    exact this.symm
  · rw [List.set_eq_take_append_cons_drop, if_pos hl]; rfl
theorem VM.setC (w : VOk pre o l h) (m : Int) : SplOf (o + 182) [I m] (VM pre l h n post) (VM pre l h m post) := ⟨by
  have e : ∀ z : Int, VM pre l h z post = (pre ++ (l.flatMap TMsg.c ++ h.map (fun b => B b))) ++ ([I z] ++ post) := fun z => by rw [VM.parts]; simp only [List.append_assoc]
  rw [e, e]
  exact splice_mid (by simp only [List.length_append, w.pre, flatM w.l, List.length_map, w.h]) rfl⟩
theorem VM.setH (w : VOk pre o l h) {k : Nat} (hk : k < 7) (x : Bool) : SplOf (o + 175 + k * 1) [B x] (VM pre l h n post) (VM pre l (h.set k x) n post) := ⟨by
  have hkl : k < h.length := by rw [w.h]; exact hk
  obtain ⟨e1, e2, e3⟩ := set_parts (List.getElem?_eq_getElem hkl)
  have e : ∀ z : Bool, VM pre l (h.take k ++ ([z] ++ h.drop (k + 1))) n post = (pre ++ (l.flatMap TMsg.c ++ (h.take k).map (fun b => B b))) ++ ([B z] ++ ((h.drop (k + 1)).map (fun b => B b) ++ ([I n] ++ post))) := fun z => by
    rw [VM.parts]; simp only [List.append_assoc, List.map_append, List.map_cons, List.map_nil]
  rw [e3, e]
  conv => lhs; rw [show VM pre l h n post = VM pre l (h.take k ++ ([h[k]] ++ h.drop (k + 1))) n post by rw [← e1], e]
  exact splice_mid (by simp only [List.length_append, w.pre, flatM w.l, List.length_map, e2]; omega) rfl⟩
theorem VM.setL (w : VOk pre o l h) {k : Nat} (hk : k < 7) (x : TMsg) : SplOf (o + 0 + k * 25) x.c (VM pre l h n post) (VM pre (l.set k x) h n post) := ⟨by
  have hkl : k < l.length := by rw [w.l]; exact hk
  obtain ⟨e1, e2, e3⟩ := set_parts (List.getElem?_eq_getElem hkl)
  have e : ∀ z : TMsg, VM pre (l.take k ++ ([z] ++ l.drop (k + 1))) h n post = (pre ++ (l.take k).flatMap TMsg.c) ++ (z.c ++ ((l.drop (k + 1)).flatMap TMsg.c ++ (h.map (fun b => B b) ++ ([I n] ++ post)))) := fun z => by
    rw [VM.parts]; simp only [List.append_assoc, List.flatMap_append, List.flatMap_cons, List.flatMap_nil, List.append_nil, List.singleton_append]
  rw [e3, e]
  conv => lhs; rw [show VM pre l h n post = VM pre (l.take k ++ ([l[k]] ++ l.drop (k + 1))) h n post by rw [← e1], e]
  exact splice_mid (by rw [List.length_append, w.pre, Go.HL.flatMap_len TMsg.len, e2]; omega) rfl⟩
theorem VM.get (w : VOk pre o l h) {k : Nat} {x : TMsg} (hk : l[k]? = some x) : SegOf (o + 0 + k * 25) 25 (VM pre l h n post) x.c := ⟨by
  obtain ⟨e1, e2, e3⟩ := set_parts hk
  have e : VM pre l h n post = (pre ++ (l.take k).flatMap TMsg.c) ++ (x.c ++ ((l.drop (k + 1)).flatMap TMsg.c ++ (h.map (fun b => B b) ++ ([I n] ++ post)))) := by
    conv => lhs; rw [VM.parts, e1]
    simp only [List.append_assoc, List.flatMap_append, List.flatMap_cons, List.flatMap_nil, List.append_nil, List.singleton_append]
  have hp : (pre ++ (l.take k).flatMap TMsg.c).length = o + 0 + k * 25 := by rw [List.length_append, w.pre, Go.HL.flatMap_len TMsg.len, e2]; omega
  rw [e, seg, ← hp, List.drop_left]
  exact List.take_left' (TMsg.len x)⟩
theorem VM.bC (w : VOk pre o l h) : Nat.blt (o + 182) (VM pre l h n post).length = true := by rw [Nat.blt_eq, VM.len w]; omega
theorem VM.bH (w : VOk pre o l h) {k : Nat} (hk : k < 7) : Nat.blt (o + 175 + k * 1) (VM pre l h n post).length = true := by rw [Nat.blt_eq, VM.len w]; omega
theorem VM.bL (w : VOk pre o l h) {k : Nat} (hk : k < 7) : Nat.ble (o + 0 + k * 25 + 25) (VM pre l h n post).length = true := by rw [Nat.ble_eq, VM.len w]; omega
theorem VOk.setL (w : VOk pre o l h) (k : Nat) (x : TMsg) : VOk pre o (l.set k x) h := ⟨w.pre, by rw [List.length_set, w.l], w.h⟩
theorem VOk.setH (w : VOk pre o l h) (k : Nat) (x : Bool) : VOk pre o l (h.set k x) := ⟨w.pre, w.l, by rw [List.length_set, w.h]⟩
theorem votes_put (b E : Nat) (w : VOk pre o l h) (rep : Int) (m : TMsg) (hn : -100 ≤ n ∧ n ≤ 100) :
    Ct Try.prog 98 [Ptr b o, I rep, A m.c] [cells b E (VM pre l h n post)] (fun r σ' => r = B (decide (0 ≤ rep ∧ rep < 7) && !(h.getD rep.toNat true)) ∧ σ' = [cells b E (if 0 ≤ rep ∧ rep < 7 ∧ h.getD rep.toNat true = false then VM pre (l.set rep.toNat m) (h.set rep.toNat true) (n + 1) post else VM pre l h n post)]) := by
  by_cases hr : 0 ≤ rep ∧ rep < 7
  · obtain ⟨k, rfl⟩ : ∃ k : Nat, rep = (k : Int) := ⟨rep.toNat, by omega⟩
    have hk : k < 7 := by omega
    obtain ⟨v, hv⟩ := getS (xs := h) (k := k) (by rw [w.h]; exact hk)
    have e : h.getD ((k : Int)).toNat true = v := by rw [show ((k : Int)).toNat = k by omega, List.getD, hv]; rfl
    rw [e, show ((k : Int)).toNat = k by omega]
    have hH := VM.has (post := post) (n := n) w hv
    cases v with
    | true =>
      rw [if_neg (by simp), show (decide (0 ≤ (k : Int) ∧ (k : Int) < 7) && !true) = false by simp]
      refine Ct.enter Try.func98 rfl rfl fun W => ?_
      apply Wp.seq
      apply Wp.region
      refine WpL.o (O.bxA (fun p5 => ?_))
      refine WpL.v (V.as) ?_
      apply WpL.nil
      apply Out.seqN
      apply Wp.seq
      apply Wp.seq
      apply Wp.region
      refine WpL.v (V.mv) ?_
      refine WpL.v (V.eqP) ?_
      refine WpL.v (V.mv) ?_
      refine WpL.v (V.mv) ?_
      refine WpL.v (V.cmp) ?_
      refine WpL.v (V.pF) ?_
      refine WpL.v (V.mv) ?_
      refine WpL.pt (fun hp10 => ?_) (fun hp10 => ?_)
      (try simp only [decide_eq_true_eq, decide_eq_false_iff_not, Bool.not_eq_true', Bool.not_eq_false', Bool.not_eq_true, Bool.not_eq_false, not_true_eq_false, not_false_eq_true, reduceCtorEq] at hp10)
      (exfalso; omega)
      (try simp only [decide_eq_true_eq, decide_eq_false_iff_not, Bool.not_eq_true', Bool.not_eq_false', Bool.not_eq_true, Bool.not_eq_false, not_true_eq_false, not_false_eq_true, reduceCtorEq] at hp10)
      refine WpL.v (V.mv) ?_
      refine WpL.v (V.cmp) ?_
      refine WpL.v (V.pF) ?_
      refine WpL.v (V.mv) ?_
      refine WpL.pt (fun hp11 => ?_) (fun hp11 => ?_)
      (try simp only [decide_eq_true_eq, decide_eq_false_iff_not, Bool.not_eq_true', Bool.not_eq_false', Bool.not_eq_true, Bool.not_eq_false, not_true_eq_false, not_false_eq_true, reduceCtorEq] at hp11)
      (exfalso; omega)
      (try simp only [decide_eq_true_eq, decide_eq_false_iff_not, Bool.not_eq_true', Bool.not_eq_false', Bool.not_eq_true, Bool.not_eq_false, not_true_eq_false, not_false_eq_true, reduceCtorEq] at hp11)
      refine WpL.v (V.mv) ?_
      refine WpL.v (V.mv) ?_
      refine WpL.v (V.nc) ?_
      refine WpL.v (V.fa tb) ?_
      refine WpL.v (V.ixA2 tb (k := k) rfl rfl rfl) ?_
      refine WpL.v (V.ld1 tb (hr := hH)) ?_
      refine WpL.v (V.pF) ?_
      apply WpL.nil
      apply Out.seqN
      refine Wp.cT ?_
      apply Wp.seq
      apply Wp.region
      refine WpL.v (V.as) ?_
      apply WpL.nil
      apply Out.seqN
      apply Wp.ret
      apply Out.seqR
      refine Out.f1 rfl ResIs.t ⟨?_, rfl⟩
      exact rfl
    | false =>
      rw [if_pos ⟨hr.1, hr.2, rfl⟩, show (decide (0 ≤ (k : Int) ∧ (k : Int) < 7) && !false) = true by simp; omega]
      refine Ct.enter Try.func98 rfl rfl fun W => ?_
      have w1 := w.setL k m
      have w2 := w1.setH k true
      have hC := VM.cnt (post := post) (n := n) w2
      apply Wp.seq
      apply Wp.region
      refine WpL.o (O.bxA (fun p5 => ?_))
      refine WpL.v (V.as) ?_
      apply WpL.nil
      apply Out.seqN
      apply Wp.seq
      apply Wp.seq
      apply Wp.region
      refine WpL.v (V.mv) ?_
      refine WpL.v (V.eqP) ?_
      refine WpL.v (V.mv) ?_
      refine WpL.v (V.mv) ?_
      refine WpL.v (V.cmp) ?_
      refine WpL.v (V.pF) ?_
      refine WpL.v (V.mv) ?_
      refine WpL.pt (fun hp20 => ?_) (fun hp20 => ?_)
      (try simp only [decide_eq_true_eq, decide_eq_false_iff_not, Bool.not_eq_true', Bool.not_eq_false', Bool.not_eq_true, Bool.not_eq_false, not_true_eq_false, not_false_eq_true, reduceCtorEq] at hp20)
      (exfalso; omega)
      (try simp only [decide_eq_true_eq, decide_eq_false_iff_not, Bool.not_eq_true', Bool.not_eq_false', Bool.not_eq_true, Bool.not_eq_false, not_true_eq_false, not_false_eq_true, reduceCtorEq] at hp20)
      refine WpL.v (V.mv) ?_
      refine WpL.v (V.cmp) ?_
      refine WpL.v (V.pF) ?_
      refine WpL.v (V.mv) ?_
      refine WpL.pt (fun hp21 => ?_) (fun hp21 => ?_)
      (try simp only [decide_eq_true_eq, decide_eq_false_iff_not, Bool.not_eq_true', Bool.not_eq_false', Bool.not_eq_true, Bool.not_eq_false, not_true_eq_false, not_false_eq_true, reduceCtorEq] at hp21)
      (exfalso; omega)
      (try simp only [decide_eq_true_eq, decide_eq_false_iff_not, Bool.not_eq_true', Bool.not_eq_false', Bool.not_eq_true, Bool.not_eq_false, not_true_eq_false, not_false_eq_true, reduceCtorEq] at hp21)
      refine WpL.v (V.mv) ?_
      refine WpL.v (V.mv) ?_
      refine WpL.v (V.nc) ?_
      refine WpL.v (V.fa tb) ?_
      refine WpL.v (V.ixA2 tb (k := k) rfl rfl rfl) ?_
      refine WpL.v (V.ld1 tb (hr := hH)) ?_
      refine WpL.v (V.pF) ?_
      apply WpL.nil
      apply Out.seqN
      refine Wp.cF ?_
      apply Wp.skip
      apply Out.seqN
      apply Wp.seq
      refine Wp.dG [] ?_ (List.Sublist.cons_cons _ (List.Sublist.cons _ List.Sublist.slnil)) (List.Sublist.cons_cons _ (List.Sublist.cons _ List.Sublist.slnil))
      refine WpA.tF 0 rfl (V.mv) ?_
      refine WpA.tF 1 rfl (V.mv) ?_
      refine WpA.tF 2 rfl (V.mv) ?_
      refine WpA.tF 3 rfl (V.mv) ?_
      refine WpA.tF 4 rfl (V.ldA tb) ?_
      refine WpA.tF 5 rfl (V.nc) ?_
      refine WpA.tF 6 rfl (V.fa tb) ?_
      refine WpA.tF 7 rfl (V.ixA2 tb (k := k) rfl rfl rfl) ?_
      refine WpA.tF 9 rfl (V.nc) ?_
      refine WpA.tF 10 rfl (V.fa tb) ?_
      refine WpA.oS 8 rfl (O.stA tb ⟨?_, ?_, ?_⟩ (hl := VM.bL w hk) (hs := VM.setL w hk m))
      exact holdT
      exact holdT
      refine WpA.tF 11 rfl (V.ixA2 tb (k := k) rfl rfl rfl) ?_
      refine WpA.oS 12 rfl (O.st1 tb ⟨?_, ?_, ?_⟩ (hl := VM.bH w1 hk) (hs := VM.setH w1 hk true))
      exact holdT
      exact holdT
      refine WpA.ou ?_
      apply Out.seqN
      apply Wp.seq
      apply Wp.region
      refine WpL.v (V.mv) ?_
      refine WpL.v (V.nc) ?_
      refine WpL.v (V.fa tb) ?_
      refine WpL.v (V.ld1 tb (hr := hC)) ?_
      refine WpL.v (V.add) ?_
      refine WpL.v (V.nc) ?_
      refine WpL.v (V.fa tb) ?_
      refine WpL.o (O.st1 tb ?_ (hl := VM.bC w2) (hs := VM.setC w2 (n + 1)))
      apply WpL.nil
      apply Out.seqN
      apply Wp.seq
      apply Wp.region
      refine WpL.v (V.as) ?_
      apply WpL.nil
      apply Out.seqN
      apply Wp.ret
      refine Out.f1 rfl ResIs.t ⟨?_, rfl⟩
      exact rfl
  · rw [if_neg (by omega), show (decide (0 ≤ rep ∧ rep < 7) && !(h.getD rep.toNat true)) = false by simp; omega]
    refine Ct.enter Try.func98 rfl rfl fun W => ?_
    apply Wp.seq
    apply Wp.region
    refine WpL.o (O.bxA (fun p5 => ?_))
    refine WpL.v (V.as) ?_
    apply WpL.nil
    apply Out.seqN
    apply Wp.seq
    apply Wp.seq
    apply Wp.region
    refine WpL.v (V.mv) ?_
    refine WpL.v (V.eqP) ?_
    refine WpL.v (V.mv) ?_
    refine WpL.v (V.mv) ?_
    refine WpL.v (V.cmp) ?_
    refine WpL.v (V.pF) ?_
    refine WpL.v (V.mv) ?_
    refine WpL.pt (fun hp30 => ?_) (fun hp30 => ?_)
    (try simp only [decide_eq_true_eq, decide_eq_false_iff_not, Bool.not_eq_true', Bool.not_eq_false', Bool.not_eq_true, Bool.not_eq_false, not_true_eq_false, not_false_eq_true, reduceCtorEq] at hp30)
    refine WpL.sk ?_
    refine WpL.sk ?_
    refine WpL.v (V.pT) ?_
    refine WpL.v (V.mv) ?_
    refine WpL.sk ?_
    refine WpL.sk ?_
    refine WpL.sk ?_
    refine WpL.sk ?_
    refine WpL.sk ?_
    refine WpL.sk ?_
    refine WpL.v (V.pT) ?_
    apply WpL.nil
    apply Out.seqN
    refine Wp.cT ?_
    apply Wp.seq
    apply Wp.region
    refine WpL.v (V.as) ?_
    apply WpL.nil
    apply Out.seqN
    apply Wp.ret
    apply Out.seqR
    refine Out.f1 rfl ResIs.t ⟨?_, rfl⟩
    exact rfl
    (try simp only [decide_eq_true_eq, decide_eq_false_iff_not, Bool.not_eq_true', Bool.not_eq_false', Bool.not_eq_true, Bool.not_eq_false, not_true_eq_false, not_false_eq_true, reduceCtorEq] at hp30)
    refine WpL.v (V.mv) ?_
    refine WpL.v (V.cmp) ?_
    refine WpL.v (V.pF) ?_
    refine WpL.v (V.mv) ?_
    refine WpL.pt (fun hp31 => ?_) (fun hp31 => ?_)
    (try simp only [decide_eq_true_eq, decide_eq_false_iff_not, Bool.not_eq_true', Bool.not_eq_false', Bool.not_eq_true, Bool.not_eq_false, not_true_eq_false, not_false_eq_true, reduceCtorEq] at hp31)
    refine WpL.sk ?_
    refine WpL.sk ?_
    refine WpL.sk ?_
    refine WpL.sk ?_
    refine WpL.sk ?_
    refine WpL.sk ?_
    refine WpL.v (V.pT) ?_
    apply WpL.nil
    apply Out.seqN
    refine Wp.cT ?_
    apply Wp.seq
    apply Wp.region
    refine WpL.v (V.as) ?_
    apply WpL.nil
    apply Out.seqN
    apply Wp.ret
    apply Out.seqR
    refine Out.f1 rfl ResIs.t ⟨?_, rfl⟩
    exact rfl
    (try simp only [decide_eq_true_eq, decide_eq_false_iff_not, Bool.not_eq_true', Bool.not_eq_false', Bool.not_eq_true, Bool.not_eq_false, not_true_eq_false, not_false_eq_true, reduceCtorEq] at hp31)
    (exfalso; omega)
end Go.Proofs.Ythoepbbpmdmfeaa
