/-
  Layer 14: votes: who has, how many, all.
-/
import Derived.Test.YthoepbbpmdmfeaaVotesS
namespace Go.Proofs.Ythoepbbpmdmfeaa
open Go.HL
set_option linter.unusedSimpArgs false
set_option linter.unusedVariables false
set_option maxRecDepth 8000
theorem VS.getV {α : Type} {vf : α → Go.Value} {pre post : List Go.Value} {o : Nat} {l : List α} {h : List Bool} {n : Int} (w : WOk pre o l h) {k : Nat} {x : α} (hk : l[k]? = some x) : (VS vf pre l h n post)[o + 0 + k * 1]? = some (vf x) := by
  have hl := (List.getElem?_eq_some_iff.1 hk).1
  have := w.l
  rw [VS.parts, List.getElem?_append_right (by rw [w.pre]; omega), w.pre, List.getElem?_append_left (by rw [List.length_map]; omega), List.getElem?_map, show o + 0 + k * 1 - o = k by omega, hk]
  rfl
def vAt {α : Type} (l : List α) (h : List Bool) (k : Nat) : Option (Nat × α) := if h.getD k false = true then l[k]?.map fun x => (k, x) else none
def vUpto {α : Type} (l : List α) (h : List Bool) (k : Nat) : List (Nat × α) := (List.range k).filterMap (vAt l h)
def vAll {α : Type} (l : List α) (h : List Bool) : List (Nat × α) := vUpto l h 7
theorem vUpto_succ {α : Type} (l : List α) (h : List Bool) (k : Nat) : vUpto l h (k + 1) = vUpto l h k ++ (vAt l h k).toList := by
  unfold vUpto; rw [List.range_succ, List.filterMap_append]
  cases ha : vAt l h k <;> simp [ha]
theorem vUpto_pre {α : Type} (l : List α) (h : List Bool) (k : Nat) : ∀ d : Nat, ∃ t, vUpto l h (k + d) = vUpto l h k ++ t
  | 0 => ⟨[], by simp⟩
  | d + 1 => by
    obtain ⟨t, ht⟩ := vUpto_pre l h k d
    exact ⟨t ++ (vAt l h (k + d)).toList, by rw [show k + (d + 1) = (k + d) + 1 by omega, vUpto_succ, ht, List.append_assoc]⟩
theorem vAll_split {α : Type} {l : List α} {h : List Bool} {k : Nat} {p : Nat × α} (hk : k < 7) (ha : vAt l h k = some p) : ∃ post, vAll l h = vUpto l h k ++ p :: post := by
  obtain ⟨t, ht⟩ := vUpto_pre l h (k + 1) (7 - (k + 1))
  rw [show k + 1 + (7 - (k + 1)) = 7 by omega] at ht
  refine ⟨t, ?_⟩
  rw [vAll, ht, vUpto_succ, ha, List.append_assoc]; rfl
def encVM (x : Nat × TMsg) : List Go.Value := [I (x.1 : Int), A x.2.c]
theorem votes_hasM {pre post : List Go.Value} {o : Nat} {l : List TMsg} {h : List Bool} {n : Int} (b E : Nat) (w : VOk pre o l h) (rep : Int) :
    Ct Try.prog 125 [Ptr b o, I rep] [cells b E (VM pre l h n post)] (fun r σ' => r = B (decide (0 ≤ rep ∧ rep < 7) && h.getD rep.toNat false) ∧ σ' = [cells b E (VM pre l h n post)]) := by
  by_cases hr : 0 ≤ rep ∧ rep < 7
  · obtain ⟨k, rfl⟩ : ∃ k : Nat, rep = (k : Int) := ⟨rep.toNat, by omega⟩
    have hk : k < 7 := by omega
    obtain ⟨v, hv⟩ := getS (xs := h) (k := k) (by rw [w.h]; exact hk)
    have e : h.getD ((k : Int)).toNat false = v := by rw [show ((k : Int)).toNat = k by omega, List.getD, hv]; rfl
    rw [e, show (decide (0 ≤ (k : Int) ∧ (k : Int) < 7) && v) = v by simp [hr]]
    have hH := VM.has (post := post) (n := n) w hv
    refine Ct.enter Try.func125 rfl rfl fun W => ?_
    apply Wp.seq
    apply Wp.region
    refine WpL.v (V.as) ?_
    apply WpL.nil
    apply Out.seqN
    apply Wp.seq
    apply Wp.region
    refine WpL.v (V.mv) ?_
    refine WpL.v (V.neP) ?_
    refine WpL.v (V.mv) ?_
    refine WpL.v (V.mv) ?_
    refine WpL.v (V.cmp) ?_
    refine WpL.v (V.pT) ?_
    refine WpL.v (V.mv) ?_
    refine WpL.pt (fun h0 => ?_) (fun h0 => ?_)
    (try simp only [decide_eq_true_eq, decide_eq_false_iff_not, Bool.not_eq_true', Bool.not_eq_false', Bool.not_eq_true, Bool.not_eq_false, not_true_eq_false, not_false_eq_true, reduceCtorEq] at h0)
    refine WpL.v (V.mv) ?_
    refine WpL.v (V.cmp) ?_
    refine WpL.v (V.pT) ?_
    refine WpL.v (V.mv) ?_
    refine WpL.pt (fun h1 => ?_) (fun h1 => ?_)
    (try simp only [decide_eq_true_eq, decide_eq_false_iff_not, Bool.not_eq_true', Bool.not_eq_false', Bool.not_eq_true, Bool.not_eq_false, not_true_eq_false, not_false_eq_true, reduceCtorEq] at h1)
    refine WpL.v (V.mv) ?_
    refine WpL.v (V.mv) ?_
    refine WpL.v (V.nc) ?_
    refine WpL.v (V.fa tb) ?_
    refine WpL.v (V.ixA2 tb (k := k) rfl rfl rfl) ?_
    refine WpL.v (V.ld1 tb (hr := hH)) ?_
    refine WpL.v (V.pT) ?_
    refine WpL.v (V.as) ?_
    apply WpL.nil
    apply Out.seqN
    apply Wp.ret
    refine Out.f1 rfl ResIs.t ⟨?_, rfl⟩
    exact rfl
    (try simp only [decide_eq_true_eq, decide_eq_false_iff_not, Bool.not_eq_true', Bool.not_eq_false', Bool.not_eq_true, Bool.not_eq_false, not_true_eq_false, not_false_eq_true, reduceCtorEq] at h1)
    (exfalso; omega)
    (try simp only [decide_eq_true_eq, decide_eq_false_iff_not, Bool.not_eq_true', Bool.not_eq_false', Bool.not_eq_true, Bool.not_eq_false, not_true_eq_false, not_false_eq_true, reduceCtorEq] at h0)
    (exfalso; omega)
  · rw [show (decide (0 ≤ rep ∧ rep < 7) && (h.getD rep.toNat false)) = false by simp [hr]]
    refine Ct.enter Try.func125 rfl rfl fun W => ?_
    apply Wp.seq
    apply Wp.region
    refine WpL.v (V.as) ?_
    apply WpL.nil
    apply Out.seqN
    apply Wp.seq
    apply Wp.region
    refine WpL.v (V.mv) ?_
    refine WpL.v (V.neP) ?_
    refine WpL.v (V.mv) ?_
    refine WpL.v (V.mv) ?_
    refine WpL.v (V.cmp) ?_
    refine WpL.v (V.pT) ?_
    refine WpL.v (V.mv) ?_
    refine WpL.pt (fun h0 => ?_) (fun h0 => ?_)
    (try simp only [decide_eq_true_eq, decide_eq_false_iff_not, Bool.not_eq_true', Bool.not_eq_false', Bool.not_eq_true, Bool.not_eq_false, not_true_eq_false, not_false_eq_true, reduceCtorEq] at h0)
    refine WpL.v (V.mv) ?_
    refine WpL.v (V.cmp) ?_
    refine WpL.v (V.pT) ?_
    refine WpL.v (V.mv) ?_
    refine WpL.pt (fun h1 => ?_) (fun h1 => ?_)
    (try simp only [decide_eq_true_eq, decide_eq_false_iff_not, Bool.not_eq_true', Bool.not_eq_false', Bool.not_eq_true, Bool.not_eq_false, not_true_eq_false, not_false_eq_true, reduceCtorEq] at h1)
    (exfalso; omega)
    (try simp only [decide_eq_true_eq, decide_eq_false_iff_not, Bool.not_eq_true', Bool.not_eq_false', Bool.not_eq_true, Bool.not_eq_false, not_true_eq_false, not_false_eq_true, reduceCtorEq] at h1)
    refine WpL.sk ?_
    refine WpL.sk ?_
    refine WpL.sk ?_
    refine WpL.sk ?_
    refine WpL.sk ?_
    refine WpL.sk ?_
    refine WpL.v (V.pF) ?_
    refine WpL.v (V.as) ?_
    apply WpL.nil
    apply Out.seqN
    apply Wp.ret
    refine Out.f1 rfl ResIs.t ⟨?_, rfl⟩
    exact rfl
    (try simp only [decide_eq_true_eq, decide_eq_false_iff_not, Bool.not_eq_true', Bool.not_eq_false', Bool.not_eq_true, Bool.not_eq_false, not_true_eq_false, not_false_eq_true, reduceCtorEq] at h0)
    refine WpL.sk ?_
    refine WpL.sk ?_
    refine WpL.v (V.pF) ?_
    refine WpL.v (V.mv) ?_
    refine WpL.sk ?_
    refine WpL.sk ?_
    refine WpL.sk ?_
    refine WpL.sk ?_
    refine WpL.sk ?_
    refine WpL.sk ?_
    refine WpL.v (V.pF) ?_
    refine WpL.v (V.as) ?_
    apply WpL.nil
    apply Out.seqN
    apply Wp.ret
    refine Out.f1 rfl ResIs.t ⟨?_, rfl⟩
    exact rfl
theorem votes_lenM {pre post : List Go.Value} {o : Nat} {l : List TMsg} {h : List Bool} {n : Int} (b E : Nat) (w : VOk pre o l h) :
    Ct Try.prog 87 [Ptr b o] [cells b E (VM pre l h n post)] (fun r σ' => r = I n ∧ σ' = [cells b E (VM pre l h n post)]) := by
  have hC := VM.cnt (post := post) (n := n) w
  refine Ct.enter Try.func87 rfl rfl fun W => ?_
  apply Wp.seq
  apply Wp.region
  refine WpL.v (V.as) ?_
  apply WpL.nil
  apply Out.seqN
  apply Wp.seq
  apply Wp.seq
  apply Wp.region
  refine WpL.v (V.mv) ?_
  refine WpL.v (V.eqP) ?_
  apply WpL.nil
  apply Out.seqN
  refine Wp.cF ?_
  apply Wp.skip
  apply Out.seqN
  apply Wp.seq
  apply Wp.region
  refine WpL.v (V.mv) ?_
  refine WpL.v (V.nc) ?_
  refine WpL.v (V.fa tb) ?_
  refine WpL.v (V.ld1 tb (hr := hC)) ?_
  refine WpL.v (V.as) ?_
  apply WpL.nil
  apply Out.seqN
  apply Wp.ret
  refine Out.f1 rfl ResIs.t ⟨?_, rfl⟩
  exact rfl
theorem votes_allM (r : Go.Value) (hr : r.oneCell' = true) : Ct Try.prog 109 [r] [] (fun v σ' => ∃ q, v = .func (.func 124) #[] #[Ptr q 0] ∧ σ' = [cells q 173 [r]]) := by
  refine Ct.enter Try.func109 rfl rfl fun W => ?_
  apply Wp.seq
  apply Wp.region
  refine WpL.o (O.bx1 (fun p1 => ?_))
  refine WpL.v (V.as) ?_
  apply WpL.nil
  apply Out.seqN
  apply Wp.seq
  apply Wp.region
  refine WpL.v (V.mf) ?_
  refine WpL.v (V.as) ?_
  apply WpL.nil
  apply Out.seqN
  apply Wp.ret
  refine Out.e1 rfl ResIs.t ?_
  exact ⟨_, _, ⟨_, rfl, rfl⟩, (by (repeat (first | exact Sel.nil | exact Rem.here | apply Sel.cons | apply Rem.there)))⟩
theorem votes_iterM {pre post : List Go.Value} {o : Nat} {l : List TMsg} {h : List Bool} {n : Int} (q b E : Nat) (w : VOk pre o l h) :
    Iter Try.prog 124 [Ptr q 0] [cells q 173 [Ptr b o], cells b E (VM pre l h n post)] encVM (vAll l h) [cells q 173 [Ptr b o], cells b E (VM pre l h n post)] := by
  intro y β G X S b0 hG0 hY
  refine Ct.enter Try.func124 rfl rfl fun W => ?_
  apply Wp.seq
  apply Wp.region
  refine WpL.v (V.mv) ?_
  apply WpL.nil
  apply Out.seqN
  apply Wp.block
  refine Wp.lp [0, 1] (fun y : Nat × β => y.1 ≤ 7 ∧ G (vUpto l h y.1) y.2) (fun y => [(4, I (y.1 : Int))]) (fun y => [S y.2]) (fun y => 7 - y.1) (0, b0) ⟨by omega, hG0⟩ ?_
  rintro ⟨k, b1⟩ ⟨hk, hG1⟩ K hK
  dsimp only at hk hG1
  dsimp only [List.cons_append, List.nil_append]
  have hsu := vUpto_succ l h k
  by_cases hk7 : k < 7
  · have hT := votes_hasM (n := n) (post := post) b E w (k : Int)
    rw [show decide (0 ≤ (k : Int) ∧ (k : Int) < 7) = true by simp; omega, Bool.true_and, show ((k : Int)).toNat = k by omega] at hT
    cases hv : h.getD k false with
    | false =>
      rw [hv] at hT
      rw [show vAt l h k = none by unfold vAt; rw [hv]; simp] at hsu
      simp only [Option.toList_none, List.append_nil] at hsu
      apply Wp.seq
      apply Wp.region
      refine WpL.v (V.cmp) ?_
      apply WpL.nil
      apply Out.seqN
      apply Wp.seq
      refine Wp.c (fun h0 => ?_) (fun h0 => ?_)
      (try simp only [decide_eq_true_eq, decide_eq_false_iff_not, Bool.not_eq_true', Bool.not_eq_false', Bool.not_eq_true, Bool.not_eq_false, not_true_eq_false, not_false_eq_true, reduceCtorEq] at h0)
      apply Wp.skip
      apply Out.seqN
      apply Wp.seq
      apply Wp.block
      apply Wp.seq
      apply Wp.region
      refine WpL.v (V.mv) ?_
      refine WpL.v (V.as) ?_
      apply WpL.nil
      apply Out.seqN
      apply Wp.seq
      apply Wp.region
      refine WpL.v (V.ld1 tb) ?_
      refine WpL.v (V.mv) ?_
      refine WpL.o (Op1.callT rfl (hT) (by (repeat (first | exact Sel.nil | exact Rem.here | apply Sel.cons | apply Rem.there))) ?_)
      rintro v1 s2 ⟨rfl, rfl⟩
      refine incat ?_
      refine WpL.v (V.mv) ?_
      refine WpL.sk ?_
      refine WpL.sk ?_
      refine WpL.sk ?_
      refine WpL.sk ?_
      refine WpL.sk ?_
      refine WpL.sk ?_
      refine WpL.sk ?_
      refine WpL.sk ?_
      refine WpL.sk ?_
      refine WpL.sk ?_
      refine WpL.v (V.pF) ?_
      apply WpL.nil
      apply Out.seqN
      refine Wp.cF ?_
      apply Wp.skip
      apply Out.blockN
      apply Out.seqN
      apply Wp.region
      refine WpL.v (V.add) ?_
      refine WpL.v (V.mv) ?_
      apply WpL.nil
      rotate_left
      (try simp only [decide_eq_true_eq, decide_eq_false_iff_not, Bool.not_eq_true', Bool.not_eq_false', Bool.not_eq_true, Bool.not_eq_false, not_true_eq_false, not_false_eq_true, reduceCtorEq] at h0)
      (exfalso; omega)
      exact Out.ag hK (k + 1, b1) ⟨by show k + 1 ≤ 7; omega, by rw [hsu]; exact hG1⟩ (by show 7 - (k + 1) < 7 - k; omega)
    | true =>
      rw [hv] at hT
      obtain ⟨x, hx⟩ := getS (xs := l) (k := k) (by rw [w.l]; exact hk7)
      have ha : vAt l h k = some (k, x) := by unfold vAt; rw [hv, if_pos rfl, hx]; rfl
      rw [ha] at hsu
      simp only [Option.toList_some] at hsu
      obtain ⟨post', hsp⟩ := vAll_split hk7 ha
      have hYy := hY _ _ post' b1 hsp hG1
      have hL := VM.get (post := post) (n := n) w hx
      apply Wp.seq
      apply Wp.region
      refine WpL.v (V.cmp) ?_
      apply WpL.nil
      apply Out.seqN
      apply Wp.seq
      refine Wp.c (fun h0 => ?_) (fun h0 => ?_)
      (try simp only [decide_eq_true_eq, decide_eq_false_iff_not, Bool.not_eq_true', Bool.not_eq_false', Bool.not_eq_true, Bool.not_eq_false, not_true_eq_false, not_false_eq_true, reduceCtorEq] at h0)
      apply Wp.skip
      apply Out.seqN
      apply Wp.seq
      apply Wp.block
      apply Wp.seq
      apply Wp.region
      refine WpL.v (V.mv) ?_
      refine WpL.v (V.as) ?_
      apply WpL.nil
      apply Out.seqN
      apply Wp.seq
      apply Wp.region
      refine WpL.v (V.ld1 tb) ?_
      refine WpL.v (V.mv) ?_
      refine WpL.o (Op1.callT rfl (hT) (by (repeat (first | exact Sel.nil | exact Rem.here | apply Sel.cons | apply Rem.there))) ?_)
      rintro v1 s2 ⟨rfl, rfl⟩
      refine incat ?_
      refine WpL.v (V.mv) ?_
      refine WpL.v (V.mv) ?_
      refine WpL.v (V.mv) ?_
      refine WpL.v (V.ld1 tb) ?_
      refine WpL.v (V.mv) ?_
      refine WpL.v (V.nc) ?_
      refine WpL.v (V.fa tb) ?_
      refine WpL.v (V.ixA2 tb (k := k) rfl rfl rfl) ?_
      refine WpL.v (V.ldA tb (hl := VM.bL w hk7) (hs := hL)) ?_
      refine WpL.o (Op1.callY rfl rfl (hYy) (by (repeat (first | exact Sel.nil | exact Rem.here | apply Sel.cons | apply Rem.there))) ?_)
      rintro v5 s6 ⟨b'19, ⟨t19, ⟨rfl, ⟨hx3, ⟨hx4, rfl⟩⟩⟩⟩⟩
      refine incat ?_
      refine WpL.v (V.not) ?_
      refine WpL.v (V.pT) ?_
      apply WpL.nil
      apply Out.seqN
      refine Wp.c (fun h7 => ?_) (fun h7 => ?_)
      (try simp only [decide_eq_true_eq, decide_eq_false_iff_not, Bool.not_eq_true', Bool.not_eq_false', Bool.not_eq_true, Bool.not_eq_false, not_true_eq_false, not_false_eq_true, reduceCtorEq] at h7)
      apply Wp.ret
      apply Out.blockR
      apply Out.seqR
      apply Out.seqR
      apply Out.blockR
      refine Out.e0 rfl  ?_
      focus (exact ⟨_, _, ⟨_, .inr ⟨vUpto l h k ++ [(k, x)], ⟨post', by rw [hsp]; simp⟩, hx4 (by assumption)⟩, rfl⟩, (by (repeat (first | exact Sel.nil | exact Rem.here | apply Sel.cons | apply Rem.there)))⟩; done)
      (try simp only [decide_eq_true_eq, decide_eq_false_iff_not, Bool.not_eq_true', Bool.not_eq_false', Bool.not_eq_true, Bool.not_eq_false, not_true_eq_false, not_false_eq_true, reduceCtorEq] at h7)
      apply Wp.skip
      apply Out.blockN
      apply Out.seqN
      apply Wp.region
      refine WpL.v (V.add) ?_
      refine WpL.v (V.mv) ?_
      apply WpL.nil
      rotate_left
      (try simp only [decide_eq_true_eq, decide_eq_false_iff_not, Bool.not_eq_true', Bool.not_eq_false', Bool.not_eq_true, Bool.not_eq_false, not_true_eq_false, not_false_eq_true, reduceCtorEq] at h0)
      (exfalso; omega)
      exact Out.ag hK (k + 1, _) ⟨by show k + 1 ≤ 7; omega, by rw [hsu]; exact hx3 (by assumption)⟩ (by show 7 - (k + 1) < 7 - k; omega)
  · obtain rfl : k = 7 := by omega
    apply Wp.seq
    apply Wp.region
    refine WpL.v (V.cmp) ?_
    apply WpL.nil
    apply Out.seqN
    apply Wp.seq
    refine Wp.cF ?_
    apply Wp.exit
    apply Out.seqE
    apply Out.seqE
    apply Out.blockE
    refine Out.e0 rfl  ?_
    focus (exact ⟨_, _, ⟨b1, .inl hG1, rfl⟩, (by (repeat (first | exact Sel.nil | exact Rem.here | apply Sel.cons | apply Rem.there)))⟩; done)
def encVI (x : Nat × Int) : List Go.Value := [I (x.1 : Int), I x.2]
theorem votes_hasI {pre post : List Go.Value} {o : Nat} {l : List Int} {h : List Bool} {n : Int} (b E : Nat) (w : WOk pre o l h) (rep : Int) :
    Ct Try.prog 34 [Ptr b o, I rep] [cells b E (VS (fun z : Int => I z) pre l h n post)] (fun r σ' => r = B (decide (0 ≤ rep ∧ rep < 7) && h.getD rep.toNat false) ∧ σ' = [cells b E (VS (fun z : Int => I z) pre l h n post)]) := by
  by_cases hr : 0 ≤ rep ∧ rep < 7
  · obtain ⟨k, rfl⟩ : ∃ k : Nat, rep = (k : Int) := ⟨rep.toNat, by omega⟩
    have hk : k < 7 := by omega
    obtain ⟨v, hv⟩ := getS (xs := h) (k := k) (by rw [w.h]; exact hk)
    have e : h.getD ((k : Int)).toNat false = v := by rw [show ((k : Int)).toNat = k by omega, List.getD, hv]; rfl
    rw [e, show (decide (0 ≤ (k : Int) ∧ (k : Int) < 7) && v) = v by simp [hr]]
    have hH := VS.has (vf := (fun z : Int => I z)) (post := post) (n := n) w hv
    refine Ct.enter Try.func34 rfl rfl fun W => ?_
    apply Wp.seq
    apply Wp.region
    refine WpL.v (V.as) ?_
    apply WpL.nil
    apply Out.seqN
    apply Wp.seq
    apply Wp.region
    refine WpL.v (V.mv) ?_
    refine WpL.v (V.neP) ?_
    refine WpL.v (V.mv) ?_
    refine WpL.v (V.mv) ?_
    refine WpL.v (V.cmp) ?_
    refine WpL.v (V.pT) ?_
    refine WpL.v (V.mv) ?_
    refine WpL.pt (fun h0 => ?_) (fun h0 => ?_)
    (try simp only [decide_eq_true_eq, decide_eq_false_iff_not, Bool.not_eq_true', Bool.not_eq_false', Bool.not_eq_true, Bool.not_eq_false, not_true_eq_false, not_false_eq_true, reduceCtorEq] at h0)
    refine WpL.v (V.mv) ?_
    refine WpL.v (V.cmp) ?_
    refine WpL.v (V.pT) ?_
    refine WpL.v (V.mv) ?_
    refine WpL.pt (fun h1 => ?_) (fun h1 => ?_)
    (try simp only [decide_eq_true_eq, decide_eq_false_iff_not, Bool.not_eq_true', Bool.not_eq_false', Bool.not_eq_true, Bool.not_eq_false, not_true_eq_false, not_false_eq_true, reduceCtorEq] at h1)
    refine WpL.v (V.mv) ?_
    refine WpL.v (V.mv) ?_
    refine WpL.v (V.nc) ?_
    refine WpL.v (V.fa tb) ?_
    refine WpL.v (V.ixA2 tb (k := k) rfl rfl rfl) ?_
    refine WpL.v (V.ld1 tb (hr := hH)) ?_
    refine WpL.v (V.pT) ?_
    refine WpL.v (V.as) ?_
    apply WpL.nil
    apply Out.seqN
    apply Wp.ret
    refine Out.f1 rfl ResIs.t ⟨?_, rfl⟩
    exact rfl
    (try simp only [decide_eq_true_eq, decide_eq_false_iff_not, Bool.not_eq_true', Bool.not_eq_false', Bool.not_eq_true, Bool.not_eq_false, not_true_eq_false, not_false_eq_true, reduceCtorEq] at h1)
    (exfalso; omega)
    (try simp only [decide_eq_true_eq, decide_eq_false_iff_not, Bool.not_eq_true', Bool.not_eq_false', Bool.not_eq_true, Bool.not_eq_false, not_true_eq_false, not_false_eq_true, reduceCtorEq] at h0)
    (exfalso; omega)
  · rw [show (decide (0 ≤ rep ∧ rep < 7) && (h.getD rep.toNat false)) = false by simp [hr]]
    refine Ct.enter Try.func34 rfl rfl fun W => ?_
    apply Wp.seq
    apply Wp.region
    refine WpL.v (V.as) ?_
    apply WpL.nil
    apply Out.seqN
    apply Wp.seq
    apply Wp.region
    refine WpL.v (V.mv) ?_
    refine WpL.v (V.neP) ?_
    refine WpL.v (V.mv) ?_
    refine WpL.v (V.mv) ?_
    refine WpL.v (V.cmp) ?_
    refine WpL.v (V.pT) ?_
    refine WpL.v (V.mv) ?_
    refine WpL.pt (fun h0 => ?_) (fun h0 => ?_)
    (try simp only [decide_eq_true_eq, decide_eq_false_iff_not, Bool.not_eq_true', Bool.not_eq_false', Bool.not_eq_true, Bool.not_eq_false, not_true_eq_false, not_false_eq_true, reduceCtorEq] at h0)
    refine WpL.v (V.mv) ?_
    refine WpL.v (V.cmp) ?_
    refine WpL.v (V.pT) ?_
    refine WpL.v (V.mv) ?_
    refine WpL.pt (fun h1 => ?_) (fun h1 => ?_)
    (try simp only [decide_eq_true_eq, decide_eq_false_iff_not, Bool.not_eq_true', Bool.not_eq_false', Bool.not_eq_true, Bool.not_eq_false, not_true_eq_false, not_false_eq_true, reduceCtorEq] at h1)
    (exfalso; omega)
    (try simp only [decide_eq_true_eq, decide_eq_false_iff_not, Bool.not_eq_true', Bool.not_eq_false', Bool.not_eq_true, Bool.not_eq_false, not_true_eq_false, not_false_eq_true, reduceCtorEq] at h1)
    refine WpL.sk ?_
    refine WpL.sk ?_
    refine WpL.sk ?_
    refine WpL.sk ?_
    refine WpL.sk ?_
    refine WpL.sk ?_
    refine WpL.v (V.pF) ?_
    refine WpL.v (V.as) ?_
    apply WpL.nil
    apply Out.seqN
    apply Wp.ret
    refine Out.f1 rfl ResIs.t ⟨?_, rfl⟩
    exact rfl
    (try simp only [decide_eq_true_eq, decide_eq_false_iff_not, Bool.not_eq_true', Bool.not_eq_false', Bool.not_eq_true, Bool.not_eq_false, not_true_eq_false, not_false_eq_true, reduceCtorEq] at h0)
    refine WpL.sk ?_
    refine WpL.sk ?_
    refine WpL.v (V.pF) ?_
    refine WpL.v (V.mv) ?_
    refine WpL.sk ?_
    refine WpL.sk ?_
    refine WpL.sk ?_
    refine WpL.sk ?_
    refine WpL.sk ?_
    refine WpL.sk ?_
    refine WpL.v (V.pF) ?_
    refine WpL.v (V.as) ?_
    apply WpL.nil
    apply Out.seqN
    apply Wp.ret
    refine Out.f1 rfl ResIs.t ⟨?_, rfl⟩
    exact rfl
theorem votes_lenI {pre post : List Go.Value} {o : Nat} {l : List Int} {h : List Bool} {n : Int} (b E : Nat) (w : WOk pre o l h) :
    Ct Try.prog 33 [Ptr b o] [cells b E (VS (fun z : Int => I z) pre l h n post)] (fun r σ' => r = I n ∧ σ' = [cells b E (VS (fun z : Int => I z) pre l h n post)]) := by
  have hC := VS.cnt (vf := (fun z : Int => I z)) (post := post) (n := n) w
  refine Ct.enter Try.func33 rfl rfl fun W => ?_
  apply Wp.seq
  apply Wp.region
  refine WpL.v (V.as) ?_
  apply WpL.nil
  apply Out.seqN
  apply Wp.seq
  apply Wp.seq
  apply Wp.region
  refine WpL.v (V.mv) ?_
  refine WpL.v (V.eqP) ?_
  apply WpL.nil
  apply Out.seqN
  refine Wp.cF ?_
  apply Wp.skip
  apply Out.seqN
  apply Wp.seq
  apply Wp.region
  refine WpL.v (V.mv) ?_
  refine WpL.v (V.nc) ?_
  refine WpL.v (V.fa tb) ?_
  refine WpL.v (V.ld1 tb (hr := hC)) ?_
  refine WpL.v (V.as) ?_
  apply WpL.nil
  apply Out.seqN
  apply Wp.ret
  refine Out.f1 rfl ResIs.t ⟨?_, rfl⟩
  exact rfl
theorem votes_allI (r : Go.Value) (hr : r.oneCell' = true) : Ct Try.prog 32 [r] [] (fun v σ' => ∃ q, v = .func (.func 83) #[] #[Ptr q 0] ∧ σ' = [cells q 54 [r]]) := by
  refine Ct.enter Try.func32 rfl rfl fun W => ?_
  apply Wp.seq
  apply Wp.region
  refine WpL.o (O.bx1 (fun p1 => ?_))
  refine WpL.v (V.as) ?_
  apply WpL.nil
  apply Out.seqN
  apply Wp.seq
  apply Wp.region
  refine WpL.v (V.mf) ?_
  refine WpL.v (V.as) ?_
  apply WpL.nil
  apply Out.seqN
  apply Wp.ret
  refine Out.e1 rfl ResIs.t ?_
  exact ⟨_, _, ⟨_, rfl, rfl⟩, (by (repeat (first | exact Sel.nil | exact Rem.here | apply Sel.cons | apply Rem.there)))⟩
theorem votes_iterI {pre post : List Go.Value} {o : Nat} {l : List Int} {h : List Bool} {n : Int} (q b E : Nat) (w : WOk pre o l h) :
    Iter Try.prog 83 [Ptr q 0] [cells q 54 [Ptr b o], cells b E (VS (fun z : Int => I z) pre l h n post)] encVI (vAll l h) [cells q 54 [Ptr b o], cells b E (VS (fun z : Int => I z) pre l h n post)] := by
  intro y β G X S b0 hG0 hY
  refine Ct.enter Try.func83 rfl rfl fun W => ?_
  apply Wp.seq
  apply Wp.region
  refine WpL.v (V.mv) ?_
  apply WpL.nil
  apply Out.seqN
  apply Wp.block
  refine Wp.lp [0, 1] (fun y : Nat × β => y.1 ≤ 7 ∧ G (vUpto l h y.1) y.2) (fun y => [(4, I (y.1 : Int))]) (fun y => [S y.2]) (fun y => 7 - y.1) (0, b0) ⟨by omega, hG0⟩ ?_
  rintro ⟨k, b1⟩ ⟨hk, hG1⟩ K hK
  dsimp only at hk hG1
  dsimp only [List.cons_append, List.nil_append]
  have hsu := vUpto_succ l h k
  by_cases hk7 : k < 7
  · have hT := votes_hasI (n := n) (post := post) b E w (k : Int)
    rw [show decide (0 ≤ (k : Int) ∧ (k : Int) < 7) = true by simp; omega, Bool.true_and, show ((k : Int)).toNat = k by omega] at hT
    cases hv : h.getD k false with
    | false =>
      rw [hv] at hT
      rw [show vAt l h k = none by unfold vAt; rw [hv]; simp] at hsu
      simp only [Option.toList_none, List.append_nil] at hsu
      apply Wp.seq
      apply Wp.region
      refine WpL.v (V.cmp) ?_
      apply WpL.nil
      apply Out.seqN
      apply Wp.seq
      refine Wp.c (fun h0 => ?_) (fun h0 => ?_)
      (try simp only [decide_eq_true_eq, decide_eq_false_iff_not, Bool.not_eq_true', Bool.not_eq_false', Bool.not_eq_true, Bool.not_eq_false, not_true_eq_false, not_false_eq_true, reduceCtorEq] at h0)
      apply Wp.skip
      apply Out.seqN
      apply Wp.seq
      apply Wp.block
      apply Wp.seq
      apply Wp.region
      refine WpL.v (V.mv) ?_
      refine WpL.v (V.as) ?_
      apply WpL.nil
      apply Out.seqN
      apply Wp.seq
      apply Wp.region
      refine WpL.v (V.ld1 tb) ?_
      refine WpL.v (V.mv) ?_
      refine WpL.o (Op1.callT rfl (hT) (by (repeat (first | exact Sel.nil | exact Rem.here | apply Sel.cons | apply Rem.there))) ?_)
      rintro v1 s2 ⟨rfl, rfl⟩
      refine incat ?_
      refine WpL.v (V.mv) ?_
      refine WpL.sk ?_
      refine WpL.sk ?_
      refine WpL.sk ?_
      refine WpL.sk ?_
      refine WpL.sk ?_
      refine WpL.sk ?_
      refine WpL.sk ?_
      refine WpL.sk ?_
      refine WpL.sk ?_
      refine WpL.sk ?_
      refine WpL.v (V.pF) ?_
      apply WpL.nil
      apply Out.seqN
      refine Wp.cF ?_
      apply Wp.skip
      apply Out.blockN
      apply Out.seqN
      apply Wp.region
      refine WpL.v (V.add) ?_
      refine WpL.v (V.mv) ?_
      apply WpL.nil
      rotate_left
      (try simp only [decide_eq_true_eq, decide_eq_false_iff_not, Bool.not_eq_true', Bool.not_eq_false', Bool.not_eq_true, Bool.not_eq_false, not_true_eq_false, not_false_eq_true, reduceCtorEq] at h0)
      (exfalso; omega)
      exact Out.ag hK (k + 1, b1) ⟨by show k + 1 ≤ 7; omega, by rw [hsu]; exact hG1⟩ (by show 7 - (k + 1) < 7 - k; omega)
    | true =>
      rw [hv] at hT
      obtain ⟨x, hx⟩ := getS (xs := l) (k := k) (by rw [w.l]; exact hk7)
      have ha : vAt l h k = some (k, x) := by unfold vAt; rw [hv, if_pos rfl, hx]; rfl
      rw [ha] at hsu
      simp only [Option.toList_some] at hsu
      obtain ⟨post', hsp⟩ := vAll_split hk7 ha
      have hYy := hY _ _ post' b1 hsp hG1
      have hL := VS.getV (vf := (fun z : Int => I z)) (post := post) (n := n) w hx
      apply Wp.seq
      apply Wp.region
      refine WpL.v (V.cmp) ?_
      apply WpL.nil
      apply Out.seqN
      apply Wp.seq
      refine Wp.c (fun h0 => ?_) (fun h0 => ?_)
      (try simp only [decide_eq_true_eq, decide_eq_false_iff_not, Bool.not_eq_true', Bool.not_eq_false', Bool.not_eq_true, Bool.not_eq_false, not_true_eq_false, not_false_eq_true, reduceCtorEq] at h0)
      apply Wp.skip
      apply Out.seqN
      apply Wp.seq
      apply Wp.block
      apply Wp.seq
      apply Wp.region
      refine WpL.v (V.mv) ?_
      refine WpL.v (V.as) ?_
      apply WpL.nil
      apply Out.seqN
      apply Wp.seq
      apply Wp.region
      refine WpL.v (V.ld1 tb) ?_
      refine WpL.v (V.mv) ?_
      refine WpL.o (Op1.callT rfl (hT) (by (repeat (first | exact Sel.nil | exact Rem.here | apply Sel.cons | apply Rem.there))) ?_)
      rintro v1 s2 ⟨rfl, rfl⟩
      refine incat ?_
      refine WpL.v (V.mv) ?_
      refine WpL.v (V.mv) ?_
      refine WpL.v (V.mv) ?_
      refine WpL.v (V.ld1 tb) ?_
      refine WpL.v (V.mv) ?_
      refine WpL.v (V.nc) ?_
      refine WpL.v (V.fa tb) ?_
      refine WpL.v (V.ixA2 tb (k := k) rfl rfl rfl) ?_
      refine WpL.v (V.ld1 tb (hr := hL)) ?_
      refine WpL.o (Op1.callY rfl rfl (hYy) (by (repeat (first | exact Sel.nil | exact Rem.here | apply Sel.cons | apply Rem.there))) ?_)
      rintro v5 s6 ⟨b'19, ⟨t19, ⟨rfl, ⟨hx3, ⟨hx4, rfl⟩⟩⟩⟩⟩
      refine incat ?_
      refine WpL.v (V.not) ?_
      refine WpL.v (V.pT) ?_
      apply WpL.nil
      apply Out.seqN
      refine Wp.c (fun h7 => ?_) (fun h7 => ?_)
      (try simp only [decide_eq_true_eq, decide_eq_false_iff_not, Bool.not_eq_true', Bool.not_eq_false', Bool.not_eq_true, Bool.not_eq_false, not_true_eq_false, not_false_eq_true, reduceCtorEq] at h7)
      apply Wp.ret
      apply Out.blockR
      apply Out.seqR
      apply Out.seqR
      apply Out.blockR
      refine Out.e0 rfl  ?_
      focus (exact ⟨_, _, ⟨_, .inr ⟨vUpto l h k ++ [(k, x)], ⟨post', by rw [hsp]; simp⟩, hx4 (by assumption)⟩, rfl⟩, (by (repeat (first | exact Sel.nil | exact Rem.here | apply Sel.cons | apply Rem.there)))⟩; done)
      (try simp only [decide_eq_true_eq, decide_eq_false_iff_not, Bool.not_eq_true', Bool.not_eq_false', Bool.not_eq_true, Bool.not_eq_false, not_true_eq_false, not_false_eq_true, reduceCtorEq] at h7)
      apply Wp.skip
      apply Out.blockN
      apply Out.seqN
      apply Wp.region
      refine WpL.v (V.add) ?_
      refine WpL.v (V.mv) ?_
      apply WpL.nil
      rotate_left
      (try simp only [decide_eq_true_eq, decide_eq_false_iff_not, Bool.not_eq_true', Bool.not_eq_false', Bool.not_eq_true, Bool.not_eq_false, not_true_eq_false, not_false_eq_true, reduceCtorEq] at h0)
      (exfalso; omega)
      exact Out.ag hK (k + 1, _) ⟨by show k + 1 ≤ 7; omega, by rw [hsu]; exact hx3 (by assumption)⟩ (by show 7 - (k + 1) < 7 - k; omega)
  · obtain rfl : k = 7 := by omega
    apply Wp.seq
    apply Wp.region
    refine WpL.v (V.cmp) ?_
    apply WpL.nil
    apply Out.seqN
    apply Wp.seq
    refine Wp.cF ?_
    apply Wp.exit
    apply Out.seqE
    apply Out.seqE
    apply Out.blockE
    refine Out.e0 rfl  ?_
    focus (exact ⟨_, _, ⟨b1, .inl hG1, rfl⟩, (by (repeat (first | exact Sel.nil | exact Rem.here | apply Sel.cons | apply Rem.there)))⟩; done)
theorem votes_lenB {pre post : List Go.Value} {o : Nat} {l : List Bool} {h : List Bool} {n : Int} (b E : Nat) (w : WOk pre o l h) :
    Ct Try.prog 86 [Ptr b o] [cells b E (VS (fun z : Bool => B z) pre l h n post)] (fun r σ' => r = I n ∧ σ' = [cells b E (VS (fun z : Bool => B z) pre l h n post)]) := by
  have hC := VS.cnt (vf := (fun z : Bool => B z)) (post := post) (n := n) w
  refine Ct.enter Try.func86 rfl rfl fun W => ?_
  apply Wp.seq
  apply Wp.region
  refine WpL.v (V.as) ?_
  apply WpL.nil
  apply Out.seqN
  apply Wp.seq
  apply Wp.seq
  apply Wp.region
  refine WpL.v (V.mv) ?_
  refine WpL.v (V.eqP) ?_
  apply WpL.nil
  apply Out.seqN
  refine Wp.cF ?_
  apply Wp.skip
  apply Out.seqN
  apply Wp.seq
  apply Wp.region
  refine WpL.v (V.mv) ?_
  refine WpL.v (V.nc) ?_
  refine WpL.v (V.fa tb) ?_
  refine WpL.v (V.ld1 tb (hr := hC)) ?_
  refine WpL.v (V.as) ?_
  apply WpL.nil
  apply Out.seqN
  apply Wp.ret
  refine Out.f1 rfl ResIs.t ⟨?_, rfl⟩
  exact rfl
end Go.Proofs.Ythoepbbpmdmfeaa
