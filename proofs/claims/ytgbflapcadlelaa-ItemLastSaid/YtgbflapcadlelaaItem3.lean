/-
  Layer 3: All and Len.
-/
import Derived.Test.YtgbflapcadlelaaItem2
namespace Go.Proofs.Ytgbflapcadlelaa
open Go.HL
set_option linter.unusedSimpArgs false
set_option linter.unusedVariables false
set_option maxRecDepth 8000
/-- What stands in a replica's row, up to a number. -/
def IP.row (p : IP) (k m : Nat) : List (TItem × Int) := (List.range m).filterMap fun j : Nat => (p.at ⟨(k : Int), (j : Int) + 1⟩).map fun t => (⟨(k : Int), (j : Int) + 1⟩, t)
def IP.upto (p : IP) (k : Nat) : List (TItem × Int) := (List.range k).flatMap fun k => p.row k (p.top k)
def IP.all (p : IP) : List (TItem × Int) := p.upto 7
theorem IP.row_succ (p : IP) (k m : Nat) : p.row k (m + 1) = p.row k m ++ ((p.at ⟨(k : Int), (m : Int) + 1⟩).map fun t => ((⟨(k : Int), (m : Int) + 1⟩ : TItem), t)).toList := by
  unfold IP.row
  rw [List.range_succ, List.filterMap_append]
  cases h : p.at ⟨(k : Int), (m : Int) + 1⟩ <;> simp [h]
theorem IP.upto_succ (p : IP) (k : Nat) : p.upto (k + 1) = p.upto k ++ p.row k (p.top k) := by
  unfold IP.upto
  rw [List.range_succ, List.flatMap_append]
  simp
theorem IP.row_pre (p : IP) (k : Nat) : ∀ d m : Nat, ∃ post, p.row k (m + d) = p.row k m ++ post
  | 0, m => ⟨[], by simp⟩
  | d + 1, m => by
    obtain ⟨post, h⟩ := IP.row_pre p k d m
    exact ⟨_, by rw [← Nat.add_assoc, IP.row_succ, h, List.append_assoc]⟩
theorem IP.upto_pre (p : IP) : ∀ d k : Nat, ∃ post, p.upto (k + d) = p.upto k ++ post
  | 0, k => ⟨[], by simp⟩
  | d + 1, k => by
    obtain ⟨post, h⟩ := IP.upto_pre p d k
    exact ⟨_, by rw [← Nat.add_assoc, IP.upto_succ, h, List.append_assoc]⟩
theorem IP.all_split (p : IP) {k m : Nat} {t : Int} (hk : k < 7) (hm : m < p.top k) (ht : p.at ⟨(k : Int), (m : Int) + 1⟩ = some t) :
    ∃ post, p.all = (p.upto k ++ p.row k m) ++ (⟨(k : Int), (m : Int) + 1⟩, t) :: post := by
  obtain ⟨p1, h1⟩ := IP.upto_pre p (7 - (k + 1)) (k + 1)
  obtain ⟨p2, h2⟩ := IP.row_pre p k (p.top k - (m + 1)) (m + 1)
  rw [show k + 1 + (7 - (k + 1)) = 7 by omega] at h1
  rw [show m + 1 + (p.top k - (m + 1)) = p.top k by omega] at h2
  refine ⟨p2 ++ p1, ?_⟩
  rw [IP.all, h1, IP.upto_succ, h2, IP.row_succ, ht]
  simp
theorem item_all (r : Go.Value) (hr : r.oneCell' = true) : Ct Try.prog 34 [r] [] (fun v σ' => ∃ q, v = .func (.func 74) #[] #[Ptr q 0] ∧ σ' = [cells q 31 [r]]) := by
  refine Ct.enter Try.func34 rfl rfl fun W => ?_
  apply Wp.seq
  apply Wp.region
  refine WpL.o (O.bx1 (fun p1 => ?_))
  refine WpL.v (V.as) ?_
  apply WpL.nil
  apply Out.seqN
  apply Wp.seq
  apply Wp.region
  refine WpL.v (V.mf) ?_
  refine WpL.v (V.as) ?_
  apply WpL.nil
  apply Out.seqN
  apply Wp.ret
  refine Out.e1 rfl ResIs.t ?_
  exact ⟨_, _, ⟨_, rfl, rfl⟩, (by (repeat (first | exact Sel.nil | exact Rem.here | apply Sel.cons | apply Rem.there)))⟩
def encA (x : TItem × Int) : List Go.Value := [A x.1.c, I x.2]
theorem item_iter (q b : Nat) (vs us : List Go.Value) (p : IP) (hw : p.wf) (hv : vs.length = 7) (hu : us.length = 7) :
    Iter Try.prog 74 [Ptr q 0] [cells q 31 [Ptr b 0], itemE b vs us p] encA p.all [cells q 31 [Ptr b 0], itemE b vs us p] := by
  intro l β G X S b0 hG0 hY
  refine Ct.enter Try.func74 rfl rfl fun W => ?_
  apply Wp.seq
  apply Wp.region
  refine WpL.v (V.mv) ?_
  apply WpL.nil
  apply Out.seqN
  apply Wp.block
  refine Wp.lp [0, 1] (fun y : Nat × β => y.1 ≤ 7 ∧ G (p.upto y.1) y.2) (fun y => [(8, I (y.1 : Int))]) (fun y => [S y.2]) (fun y => 7 - y.1) (0, b0) ⟨by omega, hG0⟩ ?_
  rintro ⟨k, b1⟩ ⟨hk, hG1⟩ K hK
  dsimp only at hk hG1
  dsimp only [List.cons_append, List.nil_append]
  by_cases hk7 : k < 7
  · have hT := item_top b vs us p (k : Int) hw hv hu
    apply Wp.seq
    apply Wp.region
    refine WpL.v (V.cmp) ?_
    apply WpL.nil
    apply Out.seqN
    apply Wp.seq
    refine Wp.c (fun hi10 => ?_) (fun hi10 => ?_)
    (try simp only [decide_eq_true_eq, decide_eq_false_iff_not, Bool.not_eq_true', Bool.not_eq_false', Bool.not_eq_true, Bool.not_eq_false, not_true_eq_false, not_false_eq_true, reduceCtorEq] at hi10)
    apply Wp.skip
    apply Out.seqN
    apply Wp.seq
    apply Wp.block
    apply Wp.seq
    apply Wp.region
    refine WpL.v (V.mv) ?_
    refine WpL.v (V.as) ?_
    apply WpL.nil
    apply Out.seqN
    apply Wp.seq
    apply Wp.region
    refine WpL.v (V.as) ?_
    apply WpL.nil
    apply Out.seqN
    apply Wp.block
    rotate_left
    (try simp only [decide_eq_true_eq, decide_eq_false_iff_not, Bool.not_eq_true', Bool.not_eq_false', Bool.not_eq_true, Bool.not_eq_false, not_true_eq_false, not_false_eq_true, reduceCtorEq] at hi10)
    (exfalso; omega)
    refine Wp.lp [3, 8, 0, 1] (fun y : Nat × β => y.1 ≤ p.top k ∧ G (p.upto k ++ p.row k y.1) y.2) (fun y => [(4, I ((y.1 : Int) + 1))]) (fun y => [S y.2]) (fun y => p.top k - y.1) (0, b1) ⟨by omega, by simpa [IP.row] using hG1⟩ ?_
    rintro ⟨m, b2⟩ ⟨hm, hG2⟩ K2 hK2
    dsimp only at hm hG2
    dsimp only [List.cons_append, List.nil_append]
    by_cases hlt : m < p.top k
    · have hA := item_at b vs us p ⟨(k : Int), (m : Int) + 1⟩ hw hv hu
      have hrow := IP.row_succ p k m
      have htop : p.top k ≤ 64 := by
        unfold IP.top; split
        · exact hw.most _
        · omega
      cases hat : p.at ⟨(k : Int), (m : Int) + 1⟩ with
      | none =>
        rw [hat] at hA hrow
        simp only [Option.map_none, Option.toList_none, List.append_nil] at hrow
        apply Wp.seq
        apply Wp.seq
        apply Wp.region
        refine WpL.v (V.mv) ?_
        refine WpL.v (V.ld1 tb) ?_
        refine WpL.v (V.mv) ?_
        refine WpL.o (Op1.callT rfl (hT) (by (repeat (first | exact Sel.nil | exact Rem.here | apply Sel.cons | apply Rem.there))) ?_)
        rintro v0 s1 ⟨rfl, rfl⟩
        refine incat ?_
        refine WpL.v (V.cmp) ?_
        apply WpL.nil
        apply Out.seqN
        refine Wp.c (fun hi32 => ?_) (fun hi32 => ?_)
        (try simp only [decide_eq_true_eq, decide_eq_false_iff_not, Bool.not_eq_true', Bool.not_eq_false', Bool.not_eq_true, Bool.not_eq_false, not_true_eq_false, not_false_eq_true, reduceCtorEq] at hi32)
        apply Wp.skip
        apply Out.seqN
        apply Wp.seq
        apply Wp.block
        apply Wp.seq
        apply Wp.region
        refine WpL.v (V.mv) ?_
        refine WpL.v (V.mv) ?_
        refine WpL.v (V.bld tb) ?_
        refine WpL.o (O.al tb (fun p5 => ?_))
        refine WpL.o (O.stA tb ?_)
        apply WpL.nil
        apply Out.seqN
        apply Wp.seq
        apply Wp.region
        refine WpL.v (V.ld1 tb) ?_
        refine WpL.v (V.ldA tb) ?_
        refine WpL.o (Op1.callT rfl (hA) (by (repeat (first | exact Sel.nil | exact Rem.here | apply Sel.cons | apply Rem.there))) ?_)
        rintro v3 s4 ⟨rfl, rfl⟩
        refine incat ?_
        refine WpL.v (V.mv) ?_
        refine WpL.v (V.ex) ?_
        refine WpL.v (V.ex) ?_
        refine WpL.v (V.as) ?_
        refine WpL.v (V.as) ?_
        apply WpL.nil
        apply Out.seqN
        apply Wp.seq
        apply Wp.region
        refine WpL.v (V.mv) ?_
        refine WpL.v (V.mv) ?_
        refine WpL.sk ?_
        refine WpL.sk ?_
        refine WpL.sk ?_
        refine WpL.sk ?_
        refine WpL.sk ?_
        refine WpL.v (V.pF) ?_
        apply WpL.nil
        apply Out.seqN
        refine Wp.cF ?_
        apply Wp.skip
        apply Out.blockN
        apply Out.seqN
        apply Wp.region
        refine WpL.v (V.mv) ?_
        refine WpL.v (V.add) ?_
        refine WpL.v (V.as) ?_
        apply WpL.nil
        rotate_left
        (try simp only [decide_eq_true_eq, decide_eq_false_iff_not, Bool.not_eq_true', Bool.not_eq_false', Bool.not_eq_true, Bool.not_eq_false, not_true_eq_false, not_false_eq_true, reduceCtorEq] at hi32)
        (exfalso; omega)
        exact Out.ag hK2 (m + 1, b2) ⟨by show m + 1 ≤ _; omega, by rw [hrow]; exact hG2⟩ (by show p.top k - (m + 1) < p.top k - m; omega)
      | some t =>
        obtain ⟨post, hsp⟩ := IP.all_split p hk7 hlt hat
        rw [hat] at hA hrow
        simp only [Option.map_some, Option.toList_some] at hrow
        have hYy := hY _ _ post b2 hsp hG2
        apply Wp.seq
        apply Wp.seq
        apply Wp.region
        refine WpL.v (V.mv) ?_
        refine WpL.v (V.ld1 tb) ?_
        refine WpL.v (V.mv) ?_
        refine WpL.o (Op1.callT rfl (hT) (by (repeat (first | exact Sel.nil | exact Rem.here | apply Sel.cons | apply Rem.there))) ?_)
        rintro v0 s1 ⟨rfl, rfl⟩
        refine incat ?_
        refine WpL.v (V.cmp) ?_
        apply WpL.nil
        apply Out.seqN
        refine Wp.c (fun hi42 => ?_) (fun hi42 => ?_)
        (try simp only [decide_eq_true_eq, decide_eq_false_iff_not, Bool.not_eq_true', Bool.not_eq_false', Bool.not_eq_true, Bool.not_eq_false, not_true_eq_false, not_false_eq_true, reduceCtorEq] at hi42)
        apply Wp.skip
        apply Out.seqN
        apply Wp.seq
        apply Wp.block
        apply Wp.seq
        apply Wp.region
        refine WpL.v (V.mv) ?_
        refine WpL.v (V.mv) ?_
        refine WpL.v (V.bld tb) ?_
        refine WpL.o (O.al tb (fun p5 => ?_))
        refine WpL.o (O.stA tb ?_)
        apply WpL.nil
        apply Out.seqN
        apply Wp.seq
        apply Wp.region
        refine WpL.v (V.ld1 tb) ?_
        refine WpL.v (V.ldA tb) ?_
        refine WpL.o (Op1.callT rfl (hA) (by (repeat (first | exact Sel.nil | exact Rem.here | apply Sel.cons | apply Rem.there))) ?_)
        rintro v3 s4 ⟨rfl, rfl⟩
        refine incat ?_
        refine WpL.v (V.mv) ?_
        refine WpL.v (V.ex) ?_
        refine WpL.v (V.ex) ?_
        refine WpL.v (V.as) ?_
        refine WpL.v (V.as) ?_
        apply WpL.nil
        apply Out.seqN
        apply Wp.seq
        apply Wp.region
        refine WpL.v (V.mv) ?_
        refine WpL.v (V.mv) ?_
        refine WpL.v (V.mv) ?_
        refine WpL.v (V.ldA tb) ?_
        refine WpL.v (V.mv) ?_
        refine WpL.o (Op1.callY rfl rfl (hYy) (by (repeat (first | exact Sel.nil | exact Rem.here | apply Sel.cons | apply Rem.there))) ?_)
        rintro v7 s8 ⟨b'32, ⟨t32, ⟨rfl, ⟨hx5, ⟨hx6, rfl⟩⟩⟩⟩⟩
        refine incat ?_
        refine WpL.v (V.not) ?_
        refine WpL.v (V.pT) ?_
        apply WpL.nil
        apply Out.seqN
        refine Wp.c (fun hi49 => ?_) (fun hi49 => ?_)
        (try simp only [decide_eq_true_eq, decide_eq_false_iff_not, Bool.not_eq_true', Bool.not_eq_false', Bool.not_eq_true, Bool.not_eq_false, not_true_eq_false, not_false_eq_true, reduceCtorEq] at hi49)
        apply Wp.ret
        apply Out.blockR
        apply Out.seqR
        apply Out.seqR
        apply Out.blockR
        apply Out.blockR
        apply Out.seqR
        apply Out.seqR
        apply Out.blockR
        refine Out.e0 rfl  ?_
        focus (exact ⟨_, _, ⟨_, .inr ⟨p.upto k ++ p.row k m ++ [(⟨(k : Int), (m : Int) + 1⟩, t)], ⟨post, by rw [hsp]; simp⟩, hx6 (by assumption)⟩, rfl⟩, (by (repeat (first | exact Sel.nil | exact Rem.here | apply Sel.cons | apply Rem.there)))⟩; done)
        (try simp only [decide_eq_true_eq, decide_eq_false_iff_not, Bool.not_eq_true', Bool.not_eq_false', Bool.not_eq_true, Bool.not_eq_false, not_true_eq_false, not_false_eq_true, reduceCtorEq] at hi49)
        apply Wp.skip
        apply Out.blockN
        apply Out.seqN
        apply Wp.region
        refine WpL.v (V.mv) ?_
        refine WpL.v (V.add) ?_
        refine WpL.v (V.as) ?_
        apply WpL.nil
        rotate_left
        (try simp only [decide_eq_true_eq, decide_eq_false_iff_not, Bool.not_eq_true', Bool.not_eq_false', Bool.not_eq_true, Bool.not_eq_false, not_true_eq_false, not_false_eq_true, reduceCtorEq] at hi42)
        (exfalso; omega)
        exact Out.ag hK2 (m + 1, _) ⟨by show m + 1 ≤ _; omega, by rw [hrow, ← List.append_assoc]; exact hx5 (by assumption)⟩ (by show p.top k - (m + 1) < p.top k - m; omega)
    · obtain rfl : m = p.top k := by omega
      apply Wp.seq
      apply Wp.seq
      apply Wp.region
      refine WpL.v (V.mv) ?_
      refine WpL.v (V.ld1 tb) ?_
      refine WpL.v (V.mv) ?_
      refine WpL.o (Op1.callT rfl (hT) (by (repeat (first | exact Sel.nil | exact Rem.here | apply Sel.cons | apply Rem.there))) ?_)
      rintro v0 s1 ⟨rfl, rfl⟩
      refine incat ?_
      refine WpL.v (V.cmp) ?_
      apply WpL.nil
      apply Out.seqN
      refine Wp.c (fun hi52 => ?_) (fun hi52 => ?_)
      (try simp only [decide_eq_true_eq, decide_eq_false_iff_not, Bool.not_eq_true', Bool.not_eq_false', Bool.not_eq_true, Bool.not_eq_false, not_true_eq_false, not_false_eq_true, reduceCtorEq] at hi52)
      (exfalso; omega)
      (try simp only [decide_eq_true_eq, decide_eq_false_iff_not, Bool.not_eq_true', Bool.not_eq_false', Bool.not_eq_true, Bool.not_eq_false, not_true_eq_false, not_false_eq_true, reduceCtorEq] at hi52)
      apply Wp.exit
      apply Out.seqE
      apply Out.seqE
      apply Out.blockE
      apply Out.blockN
      apply Out.seqN
      apply Wp.region
      refine WpL.v (V.add) ?_
      refine WpL.v (V.mv) ?_
      apply WpL.nil
      exact Out.ag hK (k + 1, b2) ⟨by show k + 1 ≤ 7; omega, by rw [IP.upto_succ]; exact hG2⟩ (by show 7 - (k + 1) < 7 - k; omega)
  · obtain rfl : k = 7 := by omega
    apply Wp.seq
    apply Wp.region
    refine WpL.v (V.cmp) ?_
    apply WpL.nil
    apply Out.seqN
    apply Wp.seq
    refine Wp.cF ?_
    apply Wp.exit
    apply Out.seqE
    apply Out.seqE
    apply Out.blockE
    refine Out.e0 rfl  ?_
    focus (exact ⟨_, _, ⟨b1, .inl hG1, rfl⟩, (by (repeat (first | exact Sel.nil | exact Rem.here | apply Sel.cons | apply Rem.there)))⟩; done)
theorem IP.top_le {p : IP} (hw : p.wf) (r : Int) : p.top r ≤ 64 := by
  unfold IP.top; split
  · exact hw.most _
  · omega
theorem IP.upto_len {p : IP} (hw : p.wf) : ∀ k : Nat, (p.upto k).length ≤ 64 * k
  | 0 => by simp [IP.upto]
  | k + 1 => by
    rw [IP.upto_succ, List.length_append]
    have h1 := IP.upto_len hw k
    have h2 : (p.row k (p.top k)).length ≤ p.top k := by
      have := List.length_filterMap_le (fun j : Nat => (p.at ⟨(k : Int), (j : Int) + 1⟩).map fun t => ((⟨(k : Int), (j : Int) + 1⟩ : TItem), t)) (List.range (p.top k))
      simpa [IP.row] using this
    have h3 := IP.top_le hw (k : Int)
    omega
theorem IP.all_len {p : IP} (hw : p.wf) : p.all.length ≤ 448 := IP.upto_len hw 7
/-- The iterator over nothing. -/
theorem item_iter0 (q : Nat) : Iter Try.prog 74 [Ptr q 0] [cells q 31 [.pointer none]] encA [] [cells q 31 [.pointer none]] := by
  intro l β G X S b0 hG0 hY
  refine Ct.enter Try.func74 rfl rfl fun W => ?_
  apply Wp.seq
  apply Wp.region
  refine WpL.v (V.mv) ?_
  apply WpL.nil
  apply Out.seqN
  apply Wp.block
  refine Wp.lp [0, 1] (fun y : Nat => y ≤ 7) (fun y => [(8, I (y : Int))]) (fun y => []) (fun y => 7 - y) 0 (by omega) ?_
  rintro k hk K hK
  dsimp only [List.cons_append, List.nil_append]
  by_cases hk7 : k < 7
  · apply Wp.seq
    apply Wp.region
    refine WpL.v (V.cmp) ?_
    apply WpL.nil
    apply Out.seqN
    apply Wp.seq
    refine Wp.c (fun hj10 => ?_) (fun hj10 => ?_)
    (try simp only [decide_eq_true_eq, decide_eq_false_iff_not, Bool.not_eq_true', Bool.not_eq_false', Bool.not_eq_true, Bool.not_eq_false, not_true_eq_false, not_false_eq_true, reduceCtorEq] at hj10)
    apply Wp.skip
    apply Out.seqN
    apply Wp.seq
    apply Wp.block
    apply Wp.seq
    apply Wp.region
    refine WpL.v (V.mv) ?_
    refine WpL.v (V.as) ?_
    apply WpL.nil
    apply Out.seqN
    apply Wp.seq
    apply Wp.region
    refine WpL.v (V.as) ?_
    apply WpL.nil
    apply Out.seqN
    apply Wp.block
    rotate_left
    (try simp only [decide_eq_true_eq, decide_eq_false_iff_not, Bool.not_eq_true', Bool.not_eq_false', Bool.not_eq_true, Bool.not_eq_false, not_true_eq_false, not_false_eq_true, reduceCtorEq] at hj10)
    (exfalso; omega)
    refine Wp.lp [3, 8, 0, 1] (fun y : Unit => True) (fun y => [(4, I 1)]) (fun y => []) (fun y => 0) () trivial ?_
    rintro y _ K2 hK2
    dsimp only [List.cons_append, List.nil_append]
    apply Wp.seq
    apply Wp.seq
    apply Wp.region
    refine WpL.v (V.mv) ?_
    refine WpL.v (V.ld1 tb) ?_
    refine WpL.v (V.mv) ?_
    refine WpL.o (Op1.fn rfl (item_top0 _) ?_)
    refine WpL.v (V.cmp) ?_
    apply WpL.nil
    apply Out.seqN
    refine Wp.cF ?_
    apply Wp.exit
    apply Out.seqE
    apply Out.seqE
    apply Out.blockE
    apply Out.blockN
    apply Out.seqN
    apply Wp.region
    refine WpL.v (V.add) ?_
    refine WpL.v (V.mv) ?_
    apply WpL.nil
    exact Out.ag hK (k + 1) (by show k + 1 ≤ 7; omega) (by show 7 - (k + 1) < 7 - k; omega)
  · obtain rfl : k = 7 := by omega
    apply Wp.seq
    apply Wp.region
    refine WpL.v (V.cmp) ?_
    apply WpL.nil
    apply Out.seqN
    apply Wp.seq
    refine Wp.cF ?_
    apply Wp.exit
    apply Out.seqE
    apply Out.seqE
    apply Out.blockE
    refine Out.e0 rfl  ?_
    focus (exact ⟨_, _, ⟨b0, .inl hG0, rfl⟩, (by (repeat (first | exact Sel.nil | exact Rem.here | apply Sel.cons | apply Rem.there)))⟩; done)
theorem item_len0 : Fun Try.prog 29 [.pointer none] (I 0) := by
  refine Ct.enter Try.func29 rfl rfl fun W => ?_
  apply Wp.seq
  apply Wp.region
  refine WpL.v (V.as) ?_
  apply WpL.nil
  apply Out.seqN
  apply Wp.seq
  apply Wp.region
  refine WpL.o (O.al tb (fun p3 => ?_))
  refine WpL.o (O.st1 tb ?_)
  apply WpL.nil
  apply Out.seqN
  apply Wp.seq
  apply Wp.seq
  apply Wp.region
  refine WpL.v (V.mv) ?_
  refine WpL.o (Op1.callT rfl (item_all _ rfl) (by (repeat (first | exact Sel.nil | exact Rem.here | apply Sel.cons | apply Rem.there))) ?_)
  rintro v0 s1 ⟨q5, ⟨rfl, rfl⟩⟩
  refine incat ?_
  apply WpL.nil
  apply Out.seqN
  apply Wp.block
  refine Wp.rg (item_iter0 _) (fun n : Nat => [cells p3 3 [I (n : Int)]]) (fun pre n => n = pre.length) (fun _ _ _ => False) 0 rfl ?_ ?_ ?_
  · rintro pre x post n l rec hx
    simp at hx
  · rintro n c rfl
    apply Out.blockN
    apply Out.seqN
    apply Wp.seq
    apply Wp.region
    refine WpL.v (V.ld1 tb) ?_
    refine WpL.v (V.as) ?_
    apply WpL.nil
    apply Out.seqN
    apply Wp.ret
    refine Out.f1 rfl ResIs.t ⟨?_, rfl⟩
    exact rfl
  · rintro _ _ _ _ _ _ _ h
    exact h.elim
theorem item_len (b : Nat) (vs us : List Go.Value) (p : IP) (hw : p.wf) (hv : vs.length = 7) (hu : us.length = 7) :
    Ct Try.prog 29 [Ptr b 0] [itemE b vs us p] (fun r σ' => r = I (p.all.length : Int) ∧ σ' = [itemE b vs us p]) := by
  have hl := IP.all_len hw
  refine Ct.enter Try.func29 rfl rfl fun W => ?_
  apply Wp.seq
  apply Wp.region
  refine WpL.v (V.as) ?_
  apply WpL.nil
  apply Out.seqN
  apply Wp.seq
  apply Wp.region
  refine WpL.o (O.al tb (fun p3 => ?_))
  refine WpL.o (O.st1 tb ?_)
  apply WpL.nil
  apply Out.seqN
  apply Wp.seq
  apply Wp.seq
  apply Wp.region
  refine WpL.v (V.mv) ?_
  refine WpL.o (Op1.callT rfl (item_all _ rfl) (by (repeat (first | exact Sel.nil | exact Rem.here | apply Sel.cons | apply Rem.there))) ?_)
  rintro v0 s1 ⟨q5, ⟨rfl, rfl⟩⟩
  refine incat ?_
  apply WpL.nil
  apply Out.seqN
  apply Wp.block
  refine Wp.rg (item_iter _ b vs us p hw hv hu) (fun n : Nat => [cells p3 3 [I (n : Int)]]) (fun pre n => n = pre.length) (fun _ _ _ => False) 0 rfl ?_ ?_ ?_
  · rintro pre x post n l rec hx rfl hr W' D' K hK
    have hp : pre.length < 448 := by rw [hx] at hl; simp at hl; omega
    apply Wp.skip
    refine Out.bg (by assumption) ?_
    apply Wp.block
    apply Wp.region
    refine WpL.v (V.ld1 tb) ?_
    refine WpL.v (V.add) ?_
    refine WpL.o (O.st1 tb ?_)
    apply WpL.nil
    apply Out.blockN
    exact Out.rd hK (pre.length + 1) (by show _ = _; simp)
  · rintro n c rfl
    apply Out.blockN
    apply Out.seqN
    apply Wp.seq
    apply Wp.region
    refine WpL.v (V.ld1 tb) ?_
    refine WpL.v (V.as) ?_
    apply WpL.nil
    apply Out.seqN
    apply Wp.ret
    refine Out.f1 rfl ResIs.t ⟨?_, rfl⟩
    exact rfl
  · rintro _ _ _ _ _ _ _ h
    exact h.elim
end Go.Proofs.Ytgbflapcadlelaa
