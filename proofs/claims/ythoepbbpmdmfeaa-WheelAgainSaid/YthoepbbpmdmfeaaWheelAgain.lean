/-
  The statement WheelAgain of layer 10: what is set again is due as it was set last, once; what isn't due stays. Proved for every input.
-/
import Derived.Test.YthoepbbpmdmfeaaHead
import Derived.Test.YthoepbbpmdmfeaaWheelL
namespace Go.Proofs.Ythoepbbpmdmfeaa
open Go.HL
set_option linter.unusedSimpArgs false
set_option linter.unusedVariables false
set_option maxRecDepth 8000
theorem dueL_cons (key : Int) (a : Sp) (l : List Sp) : dueL key (a :: l) = if a.key = key then (a.due, true) else dueL key l := by
  unfold dueL
  rw [fix_cons]
  by_cases h : a.key = key
  · simp [h]
  · rw [if_neg h, if_neg h]
    cases fix key l <;> simp
theorem dueL_no {key : Int} : ∀ {l : List Sp}, (∀ s ∈ l, s.key ≠ key) → dueL key l = (0, false)
  | [], _ => rfl
  | a :: l, h => by rw [dueL_cons, if_neg (h a (List.mem_cons_self ..)), dueL_no fun s hs => h s (List.mem_cons_of_mem _ hs)]
theorem dueL_mem {x : Sp} : ∀ {l : List Sp}, (l.map (·.key)).Nodup → x ∈ l → dueL x.key l = (x.due, true)
  | [], _, h => by cases h
  | a :: l, hn, h => by
    rw [List.map_cons, List.nodup_cons] at hn
    rw [dueL_cons]
    rcases List.mem_cons.1 h with rfl | h
    · rw [if_pos rfl]
    · rw [if_neg, dueL_mem hn.2 h]
      exact fun e => hn.1 (List.mem_map.2 ⟨x, h, e.symm⟩)
theorem set_mem (t key due : Int) (l : List Sp) : (⟨key, due, t⟩ : Sp) ∈ insS ⟨key, due, t⟩ (delK key l) := (insS_perm _ _).mem_iff.2 (List.mem_cons_self ..)
theorem set_alen (t key due : Int) (l : List Sp) : (insS ⟨key, due, t⟩ (delK key l)).length + (if (dueL key l).2 = true then 1 else 0) = l.length + 1 := by
  rw [(insS_perm _ _).length_eq, List.length_cons, delK_eq]
  unfold dueL
  cases hx : fix key l with
  | none => simp
  | some i =>
    obtain ⟨x, h1, _⟩ := fix_some hx
    have hl := (List.getElem?_eq_some_iff.1 h1).1
    simp only [List.length_eraseIdx, if_pos hl, if_true]
    omega
structure AS where
  k : Nat
  t : Int
  v : Go.Value
  l : List Sp
/-- The one thing set again: still to come (n = 0), or gone (n = 1). -/
def AI (key due t : Int) (n : Nat) (l : List Sp) : Prop := W1 t l ∧ ((n = 0 ∧ ∃ s ∈ l, s.key = key ∧ s.due = due) ∨ (n = 1 ∧ ∀ s ∈ l, s.key ≠ key))
theorem AI.hit {key due t : Int} {n : Nat} {s : Sp} {l : List Sp} (h : AI key due t n (s :: l)) (hk : s.key = key) : n = 0 ∧ AI key due t 1 l := by
  obtain ⟨w, h | h⟩ := h
  · refine ⟨h.1, w.tail, .inr ⟨rfl, fun x hx e => ?_⟩⟩
    exact (List.nodup_cons.1 w.nod).1 (List.mem_map.2 ⟨x, hx, e.trans hk.symm⟩)
  · exact absurd hk (h.2 s (List.mem_cons_self ..))
theorem AI.miss {key due t : Int} {n : Nat} {s : Sp} {l : List Sp} (h : AI key due t n (s :: l)) (hk : s.key ≠ key) : AI key due t n l := by
  obtain ⟨w, h | h⟩ := h
  · obtain ⟨h0, x, hx, h1, h2⟩ := h
    refine ⟨w.tail, .inl ⟨h0, x, ?_, h1, h2⟩⟩
    rcases List.mem_cons.1 hx with rfl | hx
    · exact absurd h1 hk
    · exact hx
  · exact ⟨w.tail, .inr ⟨h.1, fun x hx => h.2 x (List.mem_cons_of_mem _ hx)⟩⟩
theorem W1.head_le {t : Int} {l : List Sp} (w : W1 t l) {x : Sp} (hx : x ∈ l) : ∃ s, l.head? = some s ∧ s.due ≤ x.due := by
  cases l with
  | nil => cases hx
  | cons s l =>
    refine ⟨s, rfl, ?_⟩
    rcases List.mem_cons.1 hx with rfl | hx
    · exact Int.le_refl _
    · have := (List.pairwise_cons.1 w.sorted).1 x hx
      rw [sp_lt_iff] at this
      omega
theorem AI.fin {key due t : Int} {n : Nat} {l : List Sp} (h : AI key due t n l) (hs : ∀ s, l.head? = some s → due < s.due) : n = 1 ∧ dueL key l = (0, false) := by
  obtain ⟨w, h | h⟩ := h
  · obtain ⟨h0, x, hx, h1, h2⟩ := h
    obtain ⟨s, h3, h4⟩ := w.head_le hx
    have := hs s h3
    omega
  · exact ⟨h.1, dueL_no h.2⟩
set_option maxHeartbeats 2000000 in
theorem wheelAgain_walk (e : Ent) (ao : Option Go.Addr) (cap b off : Nat) (key due : Int) (xs : List Caucuslaw10Call) (hR : Rd e ao xs.length b off 3 (xs.map Caucuslaw10Call.c)) :
    Ct Try.prog 18 [.slice ao xs.length cap, I key, I due] [e] (fun r σ' => r = B true ∧ σ' = [e]) := by
  have hm := hR.small
  simp only [Go.maxLen] at hm
  have hN := wheel_new
  unfold whE at hN
  by_cases hs : xs.length ≤ 100
  · refine Ct.enter Try.func18 rfl rfl fun W => ?_
    apply Wp.seq
    apply Wp.region
    refine WpL.o (O.bx1 (fun p4 => ?_))
    refine WpL.v (V.as) ?_
    apply WpL.nil
    apply Out.seqN
    apply Wp.seq
    apply Wp.seq
    apply Wp.region
    refine WpL.o (Op1.fn rfl (alive10) ?_)
    refine WpL.v (V.not) ?_
    apply WpL.nil
    apply Out.seqN
    refine Wp.cF ?_
    apply Wp.skip
    apply Out.seqN
    apply Wp.seq
    apply Wp.seq
    apply Wp.region
    refine WpL.v (V.mv) ?_
    refine WpL.v (V.lenL tb) ?_
    refine WpL.v (V.cmp) ?_
    apply WpL.nil
    apply Out.seqN
    refine Wp.c (fun ha0 => ?_) (fun ha0 => ?_)
    (try simp only [decide_eq_true_eq, decide_eq_false_iff_not, Bool.not_eq_true', Bool.not_eq_false', Bool.not_eq_true, Bool.not_eq_false, not_true_eq_false, not_false_eq_true, reduceCtorEq] at ha0)
    (exfalso; omega)
    (try simp only [decide_eq_true_eq, decide_eq_false_iff_not, Bool.not_eq_true', Bool.not_eq_false', Bool.not_eq_true, Bool.not_eq_false, not_true_eq_false, not_false_eq_true, reduceCtorEq] at ha0)
    apply Wp.skip
    apply Out.seqN
    apply Wp.seq
    apply Wp.region
    refine WpL.o (Op1.callT rfl (hN) (by (repeat (first | exact Sel.nil | exact Rem.here | apply Sel.cons | apply Rem.there))) ?_)
    rintro v1 s2 ⟨p24, ⟨rfl, rfl⟩⟩
    refine incat ?_
    refine WpL.v (V.as) ?_
    apply WpL.nil
    apply Out.seqN
    apply Wp.seq
    apply Wp.seq
    apply Wp.region
    refine WpL.v (V.mv) ?_
    refine WpL.v (V.lenL tb) ?_
    refine WpL.v (V.mv) ?_
    apply WpL.nil
    apply Out.seqN
    apply Wp.block
    refine Wp.lp [26, 25, 7, 4, 2] (fun y : AS => y.k ≤ xs.length ∧ W1 y.t y.l ∧ y.l.length ≤ y.k ∧ y.t = y.k) (fun y => [(27, I (y.k : Int))]) (fun y => [cells p24 146 (WheelWheelOfInt.c ⟨y.v, y.t⟩), rows WheelSpokeOfInt.c y.v 148 3 y.l]) (fun y => xs.length - y.k) ⟨0, 0, .slice none 0 0, []⟩ ⟨Nat.zero_le _, W1.zero, Nat.le_refl _, rfl⟩ ?_
    rintro ⟨k, t, v, l⟩ ⟨hk, hw1, hlk, htk⟩ K hK
    dsimp only at hk hw1 hlk htk
    dsimp only [List.cons_append, List.nil_append]
    by_cases hlt : k < xs.length
    · obtain ⟨s, hsx⟩ := getS hlt
      have hS := wheel_set p24 v t l s.Key s.N (hw1.del s.Key).sorted (by omega) (by omega)
      unfold whE at hS
      apply Wp.seq
      apply Wp.region
      refine WpL.v (V.cmp) ?_
      apply WpL.nil
      apply Out.seqN
      apply Wp.seq
      refine Wp.c (fun hb0 => ?_) (fun hb0 => ?_)
      (try simp only [decide_eq_true_eq, decide_eq_false_iff_not, Bool.not_eq_true', Bool.not_eq_false', Bool.not_eq_true, Bool.not_eq_false, not_true_eq_false, not_false_eq_true, reduceCtorEq] at hb0)
      apply Wp.skip
      apply Out.seqN
      apply Wp.seq
      apply Wp.block
      apply Wp.seq
      apply Wp.region
      refine WpL.v (V.ixR tb rfl rfl (by assumption)) ?_
      refine WpL.v (V.ldRA tb rfl (by assumption) (getMapS (by assumption))) ?_
      refine WpL.o (O.al tb (fun p9 => ?_))
      refine WpL.o (O.stA tb ?_)
      apply WpL.nil
      apply Out.seqN
      apply Wp.region
      refine WpL.v (V.mv) ?_
      refine WpL.v (V.fa tb) ?_
      refine WpL.v (V.ld1 tb) ?_
      refine WpL.v (V.fa tb) ?_
      refine WpL.v (V.ld1 tb) ?_
      refine WpL.o (Op1.callT rfl (hS) (by (repeat (first | exact Sel.nil | exact Rem.here | apply Sel.cons | apply Rem.there))) ?_)
      rintro v1 s2 ⟨g36, ⟨cap36, ⟨rfl, rfl⟩⟩⟩
      refine incat ?_
      apply WpL.nil
      apply Out.blockN
      apply Out.seqN
      apply Wp.region
      refine WpL.v (V.add) ?_
      refine WpL.v (V.mv) ?_
      apply WpL.nil
      rotate_left
      (try simp only [decide_eq_true_eq, decide_eq_false_iff_not, Bool.not_eq_true', Bool.not_eq_false', Bool.not_eq_true, Bool.not_eq_false, not_true_eq_false, not_false_eq_true, reduceCtorEq] at hb0)
      (exfalso; omega)
      have hsl : (insS ⟨s.Key, s.N, t⟩ (delK s.Key l)).length ≤ k + 1 := Nat.le_trans (set_len (t := t) (l := l) s.Key s.N) (by omega)
      exact Out.ag hK ⟨k + 1, t + 1, .slice (some ⟨g36, 0, none⟩) (insS ⟨s.Key, s.N, t⟩ (delK s.Key l)).length cap36, insS ⟨s.Key, s.N, t⟩ (delK s.Key l)⟩ ⟨by show k + 1 ≤ _; omega, hw1.set s.Key s.N, hsl, by show t + 1 = ((k + 1 : Nat) : Int); omega⟩ (by show xs.length - (k + 1) < xs.length - k; omega)
    · obtain rfl : k = xs.length := by omega
      clear hK
      have hL := wheel_len p24 v t l
      have hD := wheel_due p24 v t l key (by omega)
      have hS := wheel_set p24 v t l key due (hw1.del key).sorted (by omega) (by omega)
      have hw2 := hw1.set key due
      have hll := set_len (t := t) (l := l) key due
      have hal := set_alen t key due l
      have hmem := set_mem t key due l
      have hdm := dueL_mem hw2.nod hmem
      dsimp only at hdm
      generalize insS ⟨key, due, t⟩ (delK key l) = m at *
      have hL2 (v : Go.Value) := wheel_len p24 v (t + 1) m
      have hD2 (v : Go.Value) := wheel_due p24 v (t + 1) m key (by omega)
      rw [hdm] at hD2
      have hU := wheel_until p24 (Ptr p24 0) rfl due
      unfold whE at hL hD hS hL2 hD2
      have hA0 : AI key due (t + 1) 0 m := ⟨hw2, .inl ⟨rfl, _, hmem, rfl, rfl⟩⟩
      cases hx : (dueL key l).2 with
      | true =>
        rw [hx] at hD hal
        simp only [if_true] at hal
        have hl1 : m.length = l.length := by omega
        rw [hl1] at hL2
        apply Wp.seq
        apply Wp.region
        refine WpL.v (V.cmp) ?_
        apply WpL.nil
        apply Out.seqN
        apply Wp.seq
        refine Wp.c (fun hc0 => ?_) (fun hc0 => ?_)
        (try simp only [decide_eq_true_eq, decide_eq_false_iff_not, Bool.not_eq_true', Bool.not_eq_false', Bool.not_eq_true, Bool.not_eq_false, not_true_eq_false, not_false_eq_true, reduceCtorEq] at hc0)
        (exfalso; omega)
        (try simp only [decide_eq_true_eq, decide_eq_false_iff_not, Bool.not_eq_true', Bool.not_eq_false', Bool.not_eq_true, Bool.not_eq_false, not_true_eq_false, not_false_eq_true, reduceCtorEq] at hc0)
        apply Wp.exit
        apply Out.seqE
        apply Out.seqE
        apply Out.blockE
        apply Out.seqN
        apply Wp.seq
        apply Wp.region
        refine WpL.v (V.mv) ?_
        refine WpL.o (Op1.callT rfl (hL) (by (repeat (first | exact Sel.nil | exact Rem.here | apply Sel.cons | apply Rem.there))) ?_)
        rintro v1 s2 ⟨rfl, rfl⟩
        refine incat ?_
        refine WpL.v (V.as) ?_
        apply WpL.nil
        apply Out.seqN
        apply Wp.seq
        apply Wp.region
        refine WpL.v (V.mv) ?_
        refine WpL.v (V.ld1 tb) ?_
        refine WpL.o (Op1.callT rfl (hD) (by (repeat (first | exact Sel.nil | exact Rem.here | apply Sel.cons | apply Rem.there))) ?_)
        rintro v3 s4 ⟨rfl, rfl⟩
        refine incat ?_
        refine WpL.v (V.mv) ?_
        refine WpL.v (V.ex) ?_
        refine WpL.v (V.ex) ?_
        refine WpL.v (V.as) ?_
        refine WpL.v (V.as) ?_
        apply WpL.nil
        apply Out.seqN
        apply Wp.seq
        apply Wp.region
        refine WpL.v (V.mv) ?_
        refine WpL.v (V.ld1 tb) ?_
        refine WpL.v (V.mv) ?_
        refine WpL.o (Op1.callT rfl (hS) (by (repeat (first | exact Sel.nil | exact Rem.here | apply Sel.cons | apply Rem.there))) ?_)
        rintro v5 s6 ⟨g49, ⟨cap49, ⟨rfl, rfl⟩⟩⟩
        refine incat ?_
        apply WpL.nil
        apply Out.seqN
        apply Wp.seq
        apply Wp.region
        refine WpL.v (V.mv) ?_
        refine WpL.v (V.ld1 tb) ?_
        refine WpL.o (Op1.callT rfl (hD2 _) (by (repeat (first | exact Sel.nil | exact Rem.here | apply Sel.cons | apply Rem.there))) ?_)
        rintro v7 s8 ⟨rfl, rfl⟩
        refine incat ?_
        refine WpL.v (V.mv) ?_
        refine WpL.v (V.ex) ?_
        refine WpL.v (V.ex) ?_
        refine WpL.v (V.as) ?_
        refine WpL.v (V.as) ?_
        apply WpL.nil
        apply Out.seqN
        apply Wp.seq
        apply Wp.seq
        apply Wp.region
        refine WpL.v (V.mv) ?_
        refine WpL.v (V.not) ?_
        refine WpL.v (V.mv) ?_
        refine WpL.pt (fun hc9 => ?_) (fun hc9 => ?_)
        (try simp only [decide_eq_true_eq, decide_eq_false_iff_not, Bool.not_eq_true', Bool.not_eq_false', Bool.not_eq_true, Bool.not_eq_false, not_true_eq_false, not_false_eq_true, reduceCtorEq] at hc9)
        (try simp only [decide_eq_true_eq, decide_eq_false_iff_not, Bool.not_eq_true', Bool.not_eq_false', Bool.not_eq_true, Bool.not_eq_false, not_true_eq_false, not_false_eq_true, reduceCtorEq] at hc9)
        refine WpL.v (V.mv) ?_
        refine WpL.v (V.mv) ?_
        refine WpL.v (V.cmp) ?_
        refine WpL.v (V.pF) ?_
        refine WpL.v (V.mv) ?_
        refine WpL.pt (fun hc10 => ?_) (fun hc10 => ?_)
        (try simp only [decide_eq_true_eq, decide_eq_false_iff_not, Bool.not_eq_true', Bool.not_eq_false', Bool.not_eq_true, Bool.not_eq_false, not_true_eq_false, not_false_eq_true, reduceCtorEq] at hc10)
        (try simp only [decide_eq_true_eq, decide_eq_false_iff_not, Bool.not_eq_true', Bool.not_eq_false', Bool.not_eq_true, Bool.not_eq_false, not_true_eq_false, not_false_eq_true, reduceCtorEq] at hc10)
        refine WpL.v (V.mv) ?_
        refine WpL.v (V.not) ?_
        refine WpL.v (V.mv) ?_
        refine WpL.sk ?_
        refine WpL.sk ?_
        refine WpL.sk ?_
        refine WpL.sk ?_
        refine WpL.sk ?_
        refine WpL.v (V.pF) ?_
        refine WpL.v (V.pF) ?_
        refine WpL.v (V.mv) ?_
        refine WpL.v (V.mv) ?_
        refine WpL.v (V.mv) ?_
        refine WpL.v (V.mv) ?_
        refine WpL.o (Op1.callT rfl (hL2 _) (by (repeat (first | exact Sel.nil | exact Rem.here | apply Sel.cons | apply Rem.there))) ?_)
        rintro v11 s12 ⟨rfl, rfl⟩
        refine incat ?_
        refine WpL.v (V.mv) ?_
        refine WpL.v (V.cmp) ?_
        refine WpL.v (V.pT) ?_
        refine WpL.v (V.pF) ?_
        apply WpL.nil
        apply Out.seqN
        refine Wp.c (fun hc13 => ?_) (fun hc13 => ?_)
        (try simp only [decide_eq_true_eq, decide_eq_false_iff_not, Bool.not_eq_true', Bool.not_eq_false', Bool.not_eq_true, Bool.not_eq_false, not_true_eq_false, not_false_eq_true, reduceCtorEq] at hc13)
        (try simp only [decide_eq_true_eq, decide_eq_false_iff_not, Bool.not_eq_true', Bool.not_eq_false', Bool.not_eq_true, Bool.not_eq_false, not_true_eq_false, not_false_eq_true, reduceCtorEq] at hc13)
        apply Wp.skip
        apply Out.seqN
        apply Wp.seq
        apply Wp.region
        refine WpL.o (O.al tb (fun p15 => ?_))
        refine WpL.o (O.st1 tb ?_)
        apply WpL.nil
        apply Out.seqN
        apply Wp.seq
        apply Wp.seq
        apply Wp.region
        refine WpL.v (V.mv) ?_
        refine WpL.v (V.mv) ?_
        refine WpL.o (Op1.callT rfl (hU) (by (repeat (first | exact Sel.nil | exact Rem.here | apply Sel.cons | apply Rem.there))) ?_)
        rintro v14 s15 ⟨a85, ⟨c85, ⟨rfl, rfl⟩⟩⟩
        refine incat ?_
        apply WpL.nil
        apply Out.seqN
        apply Wp.block
        refine Wp.rgB (wheel_iter p24 a85 c85 due ⟨.slice (some ⟨g49, 0, none⟩) m.length cap49, t + 1, m⟩) (fun y : Nat × WB => y.2) (fun y => [cells p15 3 [I (y.1 : Int)], cells p4 3 [I key]]) (fun j y => AI key due (t + 1) y.1 y.2.l ∧ j + y.2.l.length ≤ 101 ∧ y.2.t = t + 1) (fun _ _ _ => False) (0, ⟨.slice (some ⟨g49, 0, none⟩) m.length cap49, t + 1, m⟩) 101 (fun j y h => by have := h.2.1; omega) rfl ⟨hA0, by show 0 + m.length ≤ 101; omega, rfl⟩ ?_ ?_ ?_
        · rintro j i ⟨n, bv, bt, bl⟩ b' lp rec ⟨hA, hj, ht⟩ ⟨s, rest, g, cp, h1, h2, rfl, h3, rfl⟩ hr W' D' K hK
          dsimp only at hA hj h1 h3 ht
          subst h1 ht
          dsimp only [WB.E, whE, List.cons_append, List.nil_append]
          rw [List.length_cons] at hj
          by_cases hk : s.key = key
          · obtain ⟨rfl, hA2⟩ := hA.hit hk
            apply Wp.region
            refine WpL.v (V.as) ?_
            apply WpL.nil
            refine Out.bg (by assumption) ?_
            apply Wp.block
            apply Wp.seq
            apply Wp.region
            refine WpL.v (V.mv) ?_
            refine WpL.v (V.ld1 tb) ?_
            refine WpL.v (V.cmp) ?_
            apply WpL.nil
            apply Out.seqN
            refine Wp.c (fun hce0 => ?_) (fun hce0 => ?_)
            (try simp only [decide_eq_true_eq, decide_eq_false_iff_not, Bool.not_eq_true', Bool.not_eq_false', Bool.not_eq_true, Bool.not_eq_false, not_true_eq_false, not_false_eq_true, reduceCtorEq] at hce0)
            apply Wp.region
            refine WpL.v (V.ld1 tb) ?_
            refine WpL.v (V.add) ?_
            refine WpL.o (O.st1 tb ?_)
            apply WpL.nil
            apply Out.blockN
            rotate_left
            (try simp only [decide_eq_true_eq, decide_eq_false_iff_not, Bool.not_eq_true', Bool.not_eq_false', Bool.not_eq_true, Bool.not_eq_false, not_true_eq_false, not_false_eq_true, reduceCtorEq] at hce0)
            (exfalso; omega)
            exact Out.rdZ hK (1, ⟨.slice (some ⟨g, 0, none⟩) rest.length cp, t + 1, rest⟩) ⟨hA2, by show j + 1 + rest.length ≤ 101; omega, rfl⟩
          · have hA2 := hA.miss hk
            apply Wp.region
            refine WpL.v (V.as) ?_
            apply WpL.nil
            refine Out.bg (by assumption) ?_
            apply Wp.block
            apply Wp.seq
            apply Wp.region
            refine WpL.v (V.mv) ?_
            refine WpL.v (V.ld1 tb) ?_
            refine WpL.v (V.cmp) ?_
            apply WpL.nil
            apply Out.seqN
            refine Wp.c (fun hcf0 => ?_) (fun hcf0 => ?_)
            (try simp only [decide_eq_true_eq, decide_eq_false_iff_not, Bool.not_eq_true', Bool.not_eq_false', Bool.not_eq_true, Bool.not_eq_false, not_true_eq_false, not_false_eq_true, reduceCtorEq] at hcf0)
            (exfalso; omega)
            (try simp only [decide_eq_true_eq, decide_eq_false_iff_not, Bool.not_eq_true', Bool.not_eq_false', Bool.not_eq_true, Bool.not_eq_false, not_true_eq_false, not_false_eq_true, reduceCtorEq] at hcf0)
            apply Wp.skip
            apply Out.blockN
            exact Out.rdZ hK (n, ⟨.slice (some ⟨g, 0, none⟩) rest.length cp, t + 1, rest⟩) ⟨hA2, by show j + 1 + rest.length ≤ 101; omega, rfl⟩
        · rintro j ⟨n, bv, bt, bl⟩ b' ⟨hA, hj, ht⟩ hstop
          dsimp only at hA hj ht
          obtain ⟨rfl, hdl⟩ := hA.fin hstop
          have hD3 := wheel_due p24 bv bt bl key (by omega)
          rw [hdl] at hD3
          unfold whE at hD3
          dsimp only [WB.E, whE, List.cons_append, List.nil_append]
          apply Out.blockN
          apply Out.seqN
          apply Wp.seq
          apply Wp.region
          refine WpL.v (V.mv) ?_
          refine WpL.v (V.ld1 tb) ?_
          refine WpL.o (Op1.callT rfl (hD3) (by (repeat (first | exact Sel.nil | exact Rem.here | apply Sel.cons | apply Rem.there))) ?_)
          rintro v0 s1 ⟨rfl, rfl⟩
          refine incat ?_
          refine WpL.v (V.mv) ?_
          refine WpL.v (V.ex) ?_
          refine WpL.v (V.ex) ?_
          refine WpL.v (V.as) ?_
          refine WpL.v (V.as) ?_
          apply WpL.nil
          apply Out.seqN
          apply Wp.seq
          apply Wp.region
          refine WpL.v (V.ld1 tb) ?_
          refine WpL.v (V.cmp) ?_
          refine WpL.v (V.mv) ?_
          refine WpL.v (V.mv) ?_
          refine WpL.v (V.not) ?_
          refine WpL.v (V.pT) ?_
          refine WpL.v (V.as) ?_
          apply WpL.nil
          apply Out.seqN
          apply Wp.ret
          refine Out.f1 rfl ResIs.t ⟨?_, rfl⟩
          exact rfl
        · intro _ _ _ _ _ _ h
          exact h.elim
      | false =>
        rw [hx] at hD hal
        simp only [Bool.false_eq_true, if_false] at hal
        have hl1 : m.length = l.length + 1 := by omega
        rw [hl1] at hL2
        apply Wp.seq
        apply Wp.region
        refine WpL.v (V.cmp) ?_
        apply WpL.nil
        apply Out.seqN
        apply Wp.seq
        refine Wp.c (fun hd0 => ?_) (fun hd0 => ?_)
        (try simp only [decide_eq_true_eq, decide_eq_false_iff_not, Bool.not_eq_true', Bool.not_eq_false', Bool.not_eq_true, Bool.not_eq_false, not_true_eq_false, not_false_eq_true, reduceCtorEq] at hd0)
        (exfalso; omega)
        (try simp only [decide_eq_true_eq, decide_eq_false_iff_not, Bool.not_eq_true', Bool.not_eq_false', Bool.not_eq_true, Bool.not_eq_false, not_true_eq_false, not_false_eq_true, reduceCtorEq] at hd0)
        apply Wp.exit
        apply Out.seqE
        apply Out.seqE
        apply Out.blockE
        apply Out.seqN
        apply Wp.seq
        apply Wp.region
        refine WpL.v (V.mv) ?_
        refine WpL.o (Op1.callT rfl (hL) (by (repeat (first | exact Sel.nil | exact Rem.here | apply Sel.cons | apply Rem.there))) ?_)
        rintro v1 s2 ⟨rfl, rfl⟩
        refine incat ?_
        refine WpL.v (V.as) ?_
        apply WpL.nil
        apply Out.seqN
        apply Wp.seq
        apply Wp.region
        refine WpL.v (V.mv) ?_
        refine WpL.v (V.ld1 tb) ?_
        refine WpL.o (Op1.callT rfl (hD) (by (repeat (first | exact Sel.nil | exact Rem.here | apply Sel.cons | apply Rem.there))) ?_)
        rintro v3 s4 ⟨rfl, rfl⟩
        refine incat ?_
        refine WpL.v (V.mv) ?_
        refine WpL.v (V.ex) ?_
        refine WpL.v (V.ex) ?_
        refine WpL.v (V.as) ?_
        refine WpL.v (V.as) ?_
        apply WpL.nil
        apply Out.seqN
        apply Wp.seq
        apply Wp.region
        refine WpL.v (V.mv) ?_
        refine WpL.v (V.ld1 tb) ?_
        refine WpL.v (V.mv) ?_
        refine WpL.o (Op1.callT rfl (hS) (by (repeat (first | exact Sel.nil | exact Rem.here | apply Sel.cons | apply Rem.there))) ?_)
        rintro v5 s6 ⟨g49, ⟨cap49, ⟨rfl, rfl⟩⟩⟩
        refine incat ?_
        apply WpL.nil
        apply Out.seqN
        apply Wp.seq
        apply Wp.region
        refine WpL.v (V.mv) ?_
        refine WpL.v (V.ld1 tb) ?_
        refine WpL.o (Op1.callT rfl (hD2 _) (by (repeat (first | exact Sel.nil | exact Rem.here | apply Sel.cons | apply Rem.there))) ?_)
        rintro v7 s8 ⟨rfl, rfl⟩
        refine incat ?_
        refine WpL.v (V.mv) ?_
        refine WpL.v (V.ex) ?_
        refine WpL.v (V.ex) ?_
        refine WpL.v (V.as) ?_
        refine WpL.v (V.as) ?_
        apply WpL.nil
        apply Out.seqN
        apply Wp.seq
        apply Wp.seq
        apply Wp.region
        refine WpL.v (V.mv) ?_
        refine WpL.v (V.not) ?_
        refine WpL.v (V.mv) ?_
        refine WpL.pt (fun hd9 => ?_) (fun hd9 => ?_)
        (try simp only [decide_eq_true_eq, decide_eq_false_iff_not, Bool.not_eq_true', Bool.not_eq_false', Bool.not_eq_true, Bool.not_eq_false, not_true_eq_false, not_false_eq_true, reduceCtorEq] at hd9)
        (try simp only [decide_eq_true_eq, decide_eq_false_iff_not, Bool.not_eq_true', Bool.not_eq_false', Bool.not_eq_true, Bool.not_eq_false, not_true_eq_false, not_false_eq_true, reduceCtorEq] at hd9)
        refine WpL.v (V.mv) ?_
        refine WpL.v (V.mv) ?_
        refine WpL.v (V.cmp) ?_
        refine WpL.v (V.pF) ?_
        refine WpL.v (V.mv) ?_
        refine WpL.pt (fun hd10 => ?_) (fun hd10 => ?_)
        (try simp only [decide_eq_true_eq, decide_eq_false_iff_not, Bool.not_eq_true', Bool.not_eq_false', Bool.not_eq_true, Bool.not_eq_false, not_true_eq_false, not_false_eq_true, reduceCtorEq] at hd10)
        (try simp only [decide_eq_true_eq, decide_eq_false_iff_not, Bool.not_eq_true', Bool.not_eq_false', Bool.not_eq_true, Bool.not_eq_false, not_true_eq_false, not_false_eq_true, reduceCtorEq] at hd10)
        refine WpL.v (V.mv) ?_
        refine WpL.v (V.not) ?_
        refine WpL.v (V.mv) ?_
        refine WpL.v (V.mv) ?_
        refine WpL.o (Op1.callT rfl (hL2 _) (by (repeat (first | exact Sel.nil | exact Rem.here | apply Sel.cons | apply Rem.there))) ?_)
        rintro v11 s12 ⟨rfl, rfl⟩
        refine incat ?_
        refine WpL.v (V.mv) ?_
        refine WpL.v (V.add) ?_
        refine WpL.v (V.cmp) ?_
        refine WpL.v (V.pT) ?_
        refine WpL.v (V.pF) ?_
        refine WpL.v (V.mv) ?_
        refine WpL.pt (fun hd13 => ?_) (fun hd13 => ?_)
        (try simp only [decide_eq_true_eq, decide_eq_false_iff_not, Bool.not_eq_true', Bool.not_eq_false', Bool.not_eq_true, Bool.not_eq_false, not_true_eq_false, not_false_eq_true, reduceCtorEq] at hd13)
        (exfalso; omega)
        (try simp only [decide_eq_true_eq, decide_eq_false_iff_not, Bool.not_eq_true', Bool.not_eq_false', Bool.not_eq_true, Bool.not_eq_false, not_true_eq_false, not_false_eq_true, reduceCtorEq] at hd13)
        refine WpL.v (V.mv) ?_
        refine WpL.v (V.mv) ?_
        refine WpL.sk ?_
        refine WpL.sk ?_
        refine WpL.sk ?_
        refine WpL.sk ?_
        refine WpL.v (V.pF) ?_
        refine WpL.v (V.pF) ?_
        apply WpL.nil
        apply Out.seqN
        refine Wp.cF ?_
        apply Wp.skip
        apply Out.seqN
        apply Wp.seq
        apply Wp.region
        refine WpL.o (O.al tb (fun p15 => ?_))
        refine WpL.o (O.st1 tb ?_)
        apply WpL.nil
        apply Out.seqN
        apply Wp.seq
        apply Wp.seq
        apply Wp.region
        refine WpL.v (V.mv) ?_
        refine WpL.v (V.mv) ?_
        refine WpL.o (Op1.callT rfl (hU) (by (repeat (first | exact Sel.nil | exact Rem.here | apply Sel.cons | apply Rem.there))) ?_)
        rintro v14 s15 ⟨a85, ⟨c85, ⟨rfl, rfl⟩⟩⟩
        refine incat ?_
        apply WpL.nil
        apply Out.seqN
        apply Wp.block
        refine Wp.rgB (wheel_iter p24 a85 c85 due ⟨.slice (some ⟨g49, 0, none⟩) m.length cap49, t + 1, m⟩) (fun y : Nat × WB => y.2) (fun y => [cells p15 3 [I (y.1 : Int)], cells p4 3 [I key]]) (fun j y => AI key due (t + 1) y.1 y.2.l ∧ j + y.2.l.length ≤ 101 ∧ y.2.t = t + 1) (fun _ _ _ => False) (0, ⟨.slice (some ⟨g49, 0, none⟩) m.length cap49, t + 1, m⟩) 101 (fun j y h => by have := h.2.1; omega) rfl ⟨hA0, by show 0 + m.length ≤ 101; omega, rfl⟩ ?_ ?_ ?_
        · rintro j i ⟨n, bv, bt, bl⟩ b' lp rec ⟨hA, hj, ht⟩ ⟨s, rest, g, cp, h1, h2, rfl, h3, rfl⟩ hr W' D' K hK
          dsimp only at hA hj h1 h3 ht
          subst h1 ht
          dsimp only [WB.E, whE, List.cons_append, List.nil_append]
          rw [List.length_cons] at hj
          by_cases hk : s.key = key
          · obtain ⟨rfl, hA2⟩ := hA.hit hk
            apply Wp.region
            refine WpL.v (V.as) ?_
            apply WpL.nil
            refine Out.bg (by assumption) ?_
            apply Wp.block
            apply Wp.seq
            apply Wp.region
            refine WpL.v (V.mv) ?_
            refine WpL.v (V.ld1 tb) ?_
            refine WpL.v (V.cmp) ?_
            apply WpL.nil
            apply Out.seqN
            refine Wp.c (fun hde0 => ?_) (fun hde0 => ?_)
            (try simp only [decide_eq_true_eq, decide_eq_false_iff_not, Bool.not_eq_true', Bool.not_eq_false', Bool.not_eq_true, Bool.not_eq_false, not_true_eq_false, not_false_eq_true, reduceCtorEq] at hde0)
            apply Wp.region
            refine WpL.v (V.ld1 tb) ?_
            refine WpL.v (V.add) ?_
            refine WpL.o (O.st1 tb ?_)
            apply WpL.nil
            apply Out.blockN
            rotate_left
            (try simp only [decide_eq_true_eq, decide_eq_false_iff_not, Bool.not_eq_true', Bool.not_eq_false', Bool.not_eq_true, Bool.not_eq_false, not_true_eq_false, not_false_eq_true, reduceCtorEq] at hde0)
            (exfalso; omega)
            exact Out.rdZ hK (1, ⟨.slice (some ⟨g, 0, none⟩) rest.length cp, t + 1, rest⟩) ⟨hA2, by show j + 1 + rest.length ≤ 101; omega, rfl⟩
          · have hA2 := hA.miss hk
            apply Wp.region
            refine WpL.v (V.as) ?_
            apply WpL.nil
            refine Out.bg (by assumption) ?_
            apply Wp.block
            apply Wp.seq
            apply Wp.region
            refine WpL.v (V.mv) ?_
            refine WpL.v (V.ld1 tb) ?_
            refine WpL.v (V.cmp) ?_
            apply WpL.nil
            apply Out.seqN
            refine Wp.c (fun hdf0 => ?_) (fun hdf0 => ?_)
            (try simp only [decide_eq_true_eq, decide_eq_false_iff_not, Bool.not_eq_true', Bool.not_eq_false', Bool.not_eq_true, Bool.not_eq_false, not_true_eq_false, not_false_eq_true, reduceCtorEq] at hdf0)
            (exfalso; omega)
            (try simp only [decide_eq_true_eq, decide_eq_false_iff_not, Bool.not_eq_true', Bool.not_eq_false', Bool.not_eq_true, Bool.not_eq_false, not_true_eq_false, not_false_eq_true, reduceCtorEq] at hdf0)
            apply Wp.skip
            apply Out.blockN
            exact Out.rdZ hK (n, ⟨.slice (some ⟨g, 0, none⟩) rest.length cp, t + 1, rest⟩) ⟨hA2, by show j + 1 + rest.length ≤ 101; omega, rfl⟩
        · rintro j ⟨n, bv, bt, bl⟩ b' ⟨hA, hj, ht⟩ hstop
          dsimp only at hA hj ht
          obtain ⟨rfl, hdl⟩ := hA.fin hstop
          have hD3 := wheel_due p24 bv bt bl key (by omega)
          rw [hdl] at hD3
          unfold whE at hD3
          dsimp only [WB.E, whE, List.cons_append, List.nil_append]
          apply Out.blockN
          apply Out.seqN
          apply Wp.seq
          apply Wp.region
          refine WpL.v (V.mv) ?_
          refine WpL.v (V.ld1 tb) ?_
          refine WpL.o (Op1.callT rfl (hD3) (by (repeat (first | exact Sel.nil | exact Rem.here | apply Sel.cons | apply Rem.there))) ?_)
          rintro v0 s1 ⟨rfl, rfl⟩
          refine incat ?_
          refine WpL.v (V.mv) ?_
          refine WpL.v (V.ex) ?_
          refine WpL.v (V.ex) ?_
          refine WpL.v (V.as) ?_
          refine WpL.v (V.as) ?_
          apply WpL.nil
          apply Out.seqN
          apply Wp.seq
          apply Wp.region
          refine WpL.v (V.ld1 tb) ?_
          refine WpL.v (V.cmp) ?_
          refine WpL.v (V.mv) ?_
          refine WpL.v (V.mv) ?_
          refine WpL.v (V.not) ?_
          refine WpL.v (V.pT) ?_
          refine WpL.v (V.as) ?_
          apply WpL.nil
          apply Out.seqN
          apply Wp.ret
          refine Out.f1 rfl ResIs.t ⟨?_, rfl⟩
          exact rfl
        · intro _ _ _ _ _ _ h
          exact h.elim
  · refine Ct.enter Try.func18 rfl rfl fun W => ?_
    apply Wp.seq
    apply Wp.region
    refine WpL.o (O.bx1 (fun p4 => ?_))
    refine WpL.v (V.as) ?_
    apply WpL.nil
    apply Out.seqN
    apply Wp.seq
    apply Wp.seq
    apply Wp.region
    refine WpL.o (Op1.fn rfl (alive10) ?_)
    refine WpL.v (V.not) ?_
    apply WpL.nil
    apply Out.seqN
    refine Wp.cF ?_
    apply Wp.skip
    apply Out.seqN
    apply Wp.seq
    apply Wp.seq
    apply Wp.region
    refine WpL.v (V.mv) ?_
    refine WpL.v (V.lenL tb) ?_
    refine WpL.v (V.cmp) ?_
    apply WpL.nil
    apply Out.seqN
    refine Wp.c (fun hz0 => ?_) (fun hz0 => ?_)
    (try simp only [decide_eq_true_eq, decide_eq_false_iff_not, Bool.not_eq_true', Bool.not_eq_false', Bool.not_eq_true, Bool.not_eq_false, not_true_eq_false, not_false_eq_true, reduceCtorEq] at hz0)
    apply Wp.seq
    apply Wp.region
    refine WpL.v (V.as) ?_
    apply WpL.nil
    apply Out.seqN
    apply Wp.ret
    apply Out.seqR
    refine Out.f1 rfl ResIs.t ⟨?_, rfl⟩
    exact rfl
    (try simp only [decide_eq_true_eq, decide_eq_false_iff_not, Bool.not_eq_true', Bool.not_eq_false', Bool.not_eq_true, Bool.not_eq_false, not_true_eq_false, not_false_eq_true, reduceCtorEq] at hz0)
    (exfalso; omega)
open Go Go.ChangeShapes Go.WideShapes Go.ChangeAt Go.RowKit
theorem wheelAgain_read : (Try.f18.params.toList.all fun t => Try.prog.readableRec t && decide (t < Try.prog.types.size)) = true := by kernel_rfl
theorem wheelAgain_lifted (os : Go.Os) (started : os.Started) (H : Type) (enc : Go.TypeId × Go.Value → H) :
    ReturnsInHanded {} Try.checked os 18 .any (Rows.wheelAgainSpec.pre6 enc Try.prog Try.f18 Rows.wheelAgainRow.domain false) (Rows.wheelAgainSpec.post enc Try.prog Try.f18 false true false false) := by
  refine returnsInHanded_of_change_sized (C := Try.checked) own started (by kernel_rfl) Try.func18
    (ChangeSpec.witness6 (enc := enc) (C := Try.checked) false ⟨#[], #[.slice none 0 0, I 0, I 0], []⟩ 8 (by kernel_rfl) (by kernel_rfl) (by kernel_rfl) (by kernel_rfl)) ?_
  intro W base args ds gs before hval0 hW hcnd hsz0 _
  have hsz : (DataW.weightsEach Try.prog (Try.f18.params.toList ++ Rows.wheelAgainSpec.plain.varTypes Try.prog) (ds ++ gs)).all (· ≤ reachBytes) = true := hsz0
  have hval : ∀ (j : Nat) t v, Try.f18.params[j]? = some t → args[j]? = some v → Value.okWide Try.prog W .any base t v := hval0
  have hW' := hW
  obtain ⟨p, q, hA0, hV, rfl, hfz, hnd⟩ := hW
  have hA1 : DataW.TrodAll enc Try.prog W 0 (fun _ => true) true Try.f18.params.toList args.toList ds p := hA0
  have hA := hA1
  rw [Try.params18] at hA hval hsz
  obtain ⟨v0, vs0, d0, ds0, p0, q0, hargs, rfl, rfl, h0, r0⟩ := trodAll_cons hA
  obtain ⟨v1, vs1, d1, ds1, p1, q1, rfl, rfl, rfl, h1, r1⟩ := trodAll_cons r0
  obtain ⟨v2, vs2, d2, ds2, p2, q2, rfl, rfl, rfl, h2, r2⟩ := trodAll_cons r1
  obtain ⟨rfl, rfl, rfl⟩ := trodAll_nil r2
  obtain rfl : args = #[v0, v1, v2] := by cases args; simp_all
  obtain ⟨rfl, rfl⟩ := trodVars_none hV
  obtain ⟨ao0, b0, off0, len0, cap0, xs0, rfl, hl0, hlc0, hcm0, ha0, hs0, hf0, hby0⟩ := open_slice_plain Try.underlying92 Caucuslaw10Call.leaves (by kernel_rfl) (by decide) (hval 0 92 v0 rfl rfl) h0 (sizedAll hsz 0 rfl rfl)
  obtain ⟨x0, rfl, w0⟩ := fits_map Caucuslaw10Call.c Caucuslaw10Call.wf hf0 Caucuslaw10Call.fit
  obtain rfl : len0 = x0.length := by simpa using hl0.symm
  obtain ⟨x1, rfl, rfl, rfl, w1⟩ := open_int Try.underlying3 (hval 1 3 v1 rfl rfl) h1
  obtain ⟨x2, rfl, rfl, rfl, w2⟩ := open_int Try.underlying3 (hval 2 3 v2 rfl rfl) h2
  simp only [List.append_nil] at hW' hA1
  have hbl : ∀ p : Nat × Nat, p ∈ [(x0.length, b0)] → 0 < p.1 → p.2 < W.heap.size := by
    intro p hp h0
    simp only [List.mem_cons, List.mem_nil_iff, or_false] at hp
    rcases hp with rfl
    · exact (ha0 h0).2
  have hR0 : Rd (snap W (blocksOf [(x0.length, b0)])) ao0 x0.length b0 off0 3 (x0.map Caucuslaw10Call.c) := Rd.snap (by simp) (Nat.le_trans hlc0 hcm0) ha0 hs0 (fun h => blocksOf_mem (len := x0.length) (by simp) h)
  refine (Ct.runSnap (blocksOf_nodup _) (blocksOf_lt hbl) (wheelAgain_walk _ _ _ _ _ x1 x2 x0 hR0)).mono fun e W' hh => ?_
  obtain ⟨rfl, hS⟩ := hh
  exact ⟨_, rfl, post_law (P := Try.prog) (f := Try.f18) (tbool := 4) hW' hA1 rfl rfl hS laid wheelAgain_read rfl Try.underlying4⟩
theorem wheelAgain_joined : joinedFacts Try.prog 18 Try.f18 Rows.wheelAgainSpec Rows.wheelAgainRow = true := by
  unfold joinedFacts
  rewrite [head_enter, head_lift, head_make]
  kernel_rfl
theorem wheelAgain_over : Rows.wheelAgainRow.holds Try.pinned (OpenSpec.ofChange Rows.wheelAgainSpec) :=
  OpenClaim.holds_of_wide 18 Try.f18 rfl rfl rfl rfl rfl rfl rfl ⟨rfl, rfl, rfl, rfl, rfl⟩ rfl rfl rfl rfl rfl (by kernel_rfl) Try.func18 wheelAgain_joined
    (of_decide_eq_true (by kernel_rfl)) (by unfold Func.isWrapper; first | (rw [if_pos (by decide +kernel)]; kernel_rfl) | (rw [if_neg (by decide +kernel)]; exact ⟨rfl, rfl⟩))
    (fun os started H enc _ => wheelAgain_lifted os started H enc)
/-- THE STATEMENT. -/
theorem wheelAgain_proved : Rows.WheelAgainSaid := wheelAgain_over
#print axioms wheelAgain_proved

end Go.Proofs.Ythoepbbpmdmfeaa
