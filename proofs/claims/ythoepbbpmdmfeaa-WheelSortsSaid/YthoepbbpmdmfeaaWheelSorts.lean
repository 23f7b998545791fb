/-
  The statement WheelSorts of layer 10: what is popped by and by comes as it is due, each once. Proved for every input.
-/
import Derived.Test.YthoepbbpmdmfeaaHead
import Derived.Test.YthoepbbpmdmfeaaWheelM
import Derived.Test.YthoepbbpmdmfeaaPick
namespace Go.Proofs.Ythoepbbpmdmfeaa
open Go.HL
set_option linter.unusedSimpArgs false
set_option linter.unusedVariables false
set_option maxRecDepth 8000
theorem mput_len_new {m : Seen} {x : Int} (h : mget m x = none) : (mput m x true).length = m.length + 1 := by
  induction m with
  | nil => rfl
  | cons p m ih =>
    rw [mget_cons] at h
    rw [mput_cons]
    by_cases hk : x = p.1
    · rw [if_pos hk] at h; cases h
    · rw [if_neg hk] at h ⊢
      rw [List.length_cons, ih h, List.length_cons]
theorem fix_none_of {key : Int} {l : List Sp} (h : ∀ s ∈ l, s.key ≠ key) : fix key l = none := by
  unfold fix
  rw [List.findIdx?_eq_none_iff]
  intro s hs
  simpa using h s hs
/-- The wheel of the first k dues. -/
structure SI (xs : List Int) (k : Nat) (t : Int) (l : List Sp) : Prop extends W1 t l where
  tk : t = k
  of : ∀ s ∈ l, ∃ i : Nat, i < k ∧ s.key = (i : Int) ∧ s.turn = (i : Int) ∧ xs[i]? = some s.due
theorem SI.put {xs : List Int} {k : Nat} {t : Int} {l : List Sp} (h : SI xs k t l) {d : Int} (hd : xs[k]? = some d) : SI xs (k + 1) (t + 1) (insS ⟨(k : Int), d, t⟩ (delK (k : Int) l)) ∧ (insS ⟨(k : Int), d, t⟩ (delK (k : Int) l)).length = l.length + 1 := by
  have hn : fix (k : Int) l = none := fix_none_of fun s hs e => by
    obtain ⟨i, h1, h2, _⟩ := h.of s hs
    omega
  have hdel : delK (k : Int) l = l := by rw [delK_eq, hn]
  refine ⟨⟨h.toW1.set (k : Int) d, by have := h.tk; omega, fun s hs => ?_⟩, by rw [(insS_perm _ _).length_eq, List.length_cons, hdel]⟩
  rcases List.mem_cons.1 ((insS_perm _ _).mem_iff.1 hs) with rfl | hs
  · exact ⟨k, by omega, rfl, h.tk, hd⟩
  · rw [hdel] at hs
    obtain ⟨i, h1, h2⟩ := h.of s hs
    exact ⟨i, by omega, h2⟩
/-- What is left of it while it is told. -/
structure SJ (xs : List Int) (k : Nat) (t : Int) (l : List Sp) (m : Seen) (last : Int) : Prop extends SI xs k t l where
  new : ∀ s ∈ l, mget m s.key = none
  len : m.length + l.length = k
  la : last = -1 ∨ ∃ (i : Nat) (d : Int), last = (i : Int) ∧ xs[i]? = some d ∧ ∀ s ∈ l, d < s.due ∨ d = s.due ∧ (i : Int) < s.turn
theorem SJ.step {xs : List Int} {k : Nat} {t : Int} {s : Sp} {l : List Sp} {m : Seen} {last : Int} (h : SJ xs k t (s :: l) m last) : SJ xs k t l (mput m s.key true) s.key := by
  obtain ⟨i, h1, h2, h3, h4⟩ := h.of s (List.mem_cons_self ..)
  refine ⟨⟨h.toW1.tail, h.tk, fun x hx => h.of x (List.mem_cons_of_mem _ hx)⟩, fun x hx => ?_, ?_, .inr ⟨i, s.due, h2, h4, fun x hx => ?_⟩⟩
  · rw [mget_mput, if_neg, h.new x (List.mem_cons_of_mem _ hx)]
    exact fun e => (List.nodup_cons.1 h.nod).1 (List.mem_map.2 ⟨x, hx, e⟩)
  · have := h.len
    rw [mput_len_new (h.new s (List.mem_cons_self ..))]
    rw [List.length_cons] at this
    omega
  · have := (List.pairwise_cons.1 h.sorted).1 x hx
    rw [sp_lt_iff] at this
    omega
structure SK where
  k : Nat
  t : Int
  v : Go.Value
  l : List Sp
structure SQ where
  w : WB
  m : Seen
  last : Int
set_option maxHeartbeats 4000000 in
theorem wheelSorts_walk (e : Ent) (ao : Option Go.Addr) (cap b off : Nat) (xs : List Int) (hR : Rd e ao xs.length b off 1 (xs.map i64c)) (hi : ∀ x ∈ xs, x ≤ 9223372036854775807) :
    Ct Try.prog 15 [.slice ao xs.length cap] [e] (fun r σ' => r = B true ∧ σ' = [e]) := by
  have hm := hR.small
  simp only [Go.maxLen] at hm
  have hN := wheel_new
  unfold whE at hN
  by_cases hs : xs.length ≤ 100
  · refine Ct.enter Try.func15 rfl rfl fun W => ?_
    apply Wp.seq
    apply Wp.region
    refine WpL.o (O.bx1 (fun p1 => ?_))
    refine WpL.o (O.al tb (fun p2 => ?_))
    apply WpL.nil
    apply Out.seqN
    apply Wp.seq
    apply Wp.seq
    apply Wp.region
    refine WpL.o (Op1.fn rfl (alive10) ?_)
    refine WpL.v (V.not) ?_
    apply WpL.nil
    apply Out.seqN
    refine Wp.cF ?_
    apply Wp.skip
    apply Out.seqN
    apply Wp.seq
    apply Wp.seq
    apply Wp.region
    refine WpL.v (V.ld1 tb) ?_
    refine WpL.v (V.lenL tb) ?_
    refine WpL.v (V.cmp) ?_
    apply WpL.nil
    apply Out.seqN
    refine Wp.c (fun ha0 => ?_) (fun ha0 => ?_)
    (try simp only [decide_eq_true_eq, decide_eq_false_iff_not, Bool.not_eq_true', Bool.not_eq_false', Bool.not_eq_true, Bool.not_eq_false, not_true_eq_false, not_false_eq_true, reduceCtorEq] at ha0)
    (exfalso; omega)
    (try simp only [decide_eq_true_eq, decide_eq_false_iff_not, Bool.not_eq_true', Bool.not_eq_false', Bool.not_eq_true, Bool.not_eq_false, not_true_eq_false, not_false_eq_true, reduceCtorEq] at ha0)
    apply Wp.skip
    apply Out.seqN
    apply Wp.seq
    apply Wp.region
    refine WpL.o (Op1.callT rfl (hN) (by (repeat (first | exact Sel.nil | exact Rem.here | apply Sel.cons | apply Rem.there))) ?_)
    rintro v1 s2 ⟨p14, ⟨rfl, rfl⟩⟩
    refine incat ?_
    refine WpL.v (V.as) ?_
    apply WpL.nil
    apply Out.seqN
    apply Wp.seq
    apply Wp.seq
    apply Wp.region
    refine WpL.v (V.ld1 tb) ?_
    refine WpL.v (V.lenL tb) ?_
    refine WpL.v (V.mv) ?_
    apply WpL.nil
    apply Out.seqN
    apply Wp.block
    refine Wp.lp [16, 15, 3, 2, 1] (fun y : SK => y.k ≤ xs.length ∧ SI xs y.k y.t y.l ∧ y.l.length = y.k) (fun y => [(17, I (y.k : Int))]) (fun y => [cells p14 146 (WheelWheelOfInt.c ⟨y.v, y.t⟩), rows WheelSpokeOfInt.c y.v 148 3 y.l]) (fun y => xs.length - y.k) ⟨0, 0, .slice none 0 0, []⟩ ⟨Nat.zero_le _, ⟨W1.zero, rfl, by simp⟩, rfl⟩ ?_
    rintro ⟨k, t, v, l⟩ ⟨hk, hw1, hlk⟩ K hK
    dsimp only at hk hw1 hlk
    dsimp only [List.cons_append, List.nil_append]
    have htk := hw1.tk
    by_cases hlt : k < xs.length
    · obtain ⟨d, hsx⟩ := getS hlt
      have hS := wheel_set p14 v t l (k : Int) d (hw1.toW1.del (k : Int)).sorted (by omega) (by omega)
      unfold whE at hS
      obtain ⟨h1, h2⟩ := hw1.put hsx
      apply Wp.seq
      apply Wp.region
      refine WpL.v (V.cmp) ?_
      apply WpL.nil
      apply Out.seqN
      apply Wp.seq
      refine Wp.c (fun hb0 => ?_) (fun hb0 => ?_)
      (try simp only [decide_eq_true_eq, decide_eq_false_iff_not, Bool.not_eq_true', Bool.not_eq_false', Bool.not_eq_true, Bool.not_eq_false, not_true_eq_false, not_false_eq_true, reduceCtorEq] at hb0)
      apply Wp.skip
      apply Out.seqN
      apply Wp.seq
      apply Wp.block
      apply Wp.seq
      apply Wp.region
      refine WpL.v (V.mv) ?_
      refine WpL.v (V.ixR tb rfl rfl (by assumption)) ?_
      refine WpL.v (V.rdF1 tb (o := 0) rfl hR (getMapS hsx)) ?_
      refine WpL.v (V.as) ?_
      refine WpL.v (V.as) ?_
      apply WpL.nil
      apply Out.seqN
      apply Wp.region
      refine WpL.v (V.mv) ?_
      refine WpL.v (V.mv) ?_
      refine WpL.v (V.mv) ?_
      refine WpL.o (Op1.callT rfl (hS) (by (repeat (first | exact Sel.nil | exact Rem.here | apply Sel.cons | apply Rem.there))) ?_)
      rintro v1 s2 ⟨g25, ⟨cap25, ⟨rfl, rfl⟩⟩⟩
      refine incat ?_
      apply WpL.nil
      apply Out.blockN
      apply Out.seqN
      apply Wp.region
      refine WpL.v (V.add) ?_
      refine WpL.v (V.mv) ?_
      apply WpL.nil
      rotate_left
      (try simp only [decide_eq_true_eq, decide_eq_false_iff_not, Bool.not_eq_true', Bool.not_eq_false', Bool.not_eq_true, Bool.not_eq_false, not_true_eq_false, not_false_eq_true, reduceCtorEq] at hb0)
      (exfalso; omega)
      exact Out.ag hK ⟨k + 1, t + 1, .slice (some ⟨g25, 0, none⟩) (insS ⟨(k : Int), d, t⟩ (delK (k : Int) l)).length cap25, insS ⟨(k : Int), d, t⟩ (delK (k : Int) l)⟩ ⟨by show k + 1 ≤ _; omega, h1, h2.trans (by rw [hlk])⟩ (by show xs.length - (k + 1) < xs.length - k; omega)
    · obtain rfl : k = xs.length := by omega
      clear hK
      have hU := wheel_until p14 (Ptr p14 0) rfl 9223372036854775807
      apply Wp.seq
      apply Wp.region
      refine WpL.v (V.cmp) ?_
      apply WpL.nil
      apply Out.seqN
      apply Wp.seq
      refine Wp.c (fun hc0 => ?_) (fun hc0 => ?_)
      (try simp only [decide_eq_true_eq, decide_eq_false_iff_not, Bool.not_eq_true', Bool.not_eq_false', Bool.not_eq_true, Bool.not_eq_false, not_true_eq_false, not_false_eq_true, reduceCtorEq] at hc0)
      (exfalso; omega)
      (try simp only [decide_eq_true_eq, decide_eq_false_iff_not, Bool.not_eq_true', Bool.not_eq_false', Bool.not_eq_true, Bool.not_eq_false, not_true_eq_false, not_false_eq_true, reduceCtorEq] at hc0)
      apply Wp.exit
      apply Out.seqE
      apply Out.seqE
      apply Out.blockE
      apply Out.seqN
      apply Wp.seq
      apply Wp.region
      refine WpL.o (Op1.mkMap (fun n : Int => I n) (fun b : Bool => B b) rfl (fun p27 => ?_))
      refine WpL.o (O.al tb (fun p6 => ?_))
      refine WpL.o (O.st1 tb ?_)
      apply WpL.nil
      apply Out.seqN
      apply Wp.seq
      apply Wp.region
      refine WpL.o (O.al tb (fun p7 => ?_))
      refine WpL.o (O.st1 tb ?_)
      apply WpL.nil
      apply Out.seqN
      apply Wp.seq
      apply Wp.seq
      apply Wp.region
      refine WpL.v (V.mv) ?_
      refine WpL.o (Op1.callT rfl (hU) (by (repeat (first | exact Sel.nil | exact Rem.here | apply Sel.cons | apply Rem.there))) ?_)
      rintro v1 s2 ⟨a29, ⟨c29, ⟨rfl, rfl⟩⟩⟩
      refine incat ?_
      apply WpL.nil
      apply Out.seqN
      apply Wp.block
      refine Wp.rgB (wheel_iter p14 a29 c29 9223372036854775807 ⟨v, t, l⟩) (fun y : SQ => y.w) (fun y => [e, cells p1 41 [.slice ao xs.length cap], cells p2 4 [B false], cells p6 46 [.map (some p27)], mapK (fun n : Int => I n) (fun b : Bool => B b) p27 y.m, cells p7 3 [I y.last]]) (fun j y => SJ xs xs.length t y.w.l y.m y.last ∧ j + y.w.l.length ≤ 100) (fun _ _ _ => False) ⟨⟨v, t, l⟩, [], -1⟩ 100 (fun j y h => by have := h.2; omega) rfl ⟨⟨hw1, fun _ _ => rfl, by show 0 + l.length = _; omega, .inl rfl⟩, by show 0 + l.length ≤ 100; omega⟩ ?_ ?_ ?_
      · rintro j i ⟨⟨bv, bt, bl⟩, m, last⟩ b' lp rec ⟨hsj, hj⟩ ⟨s, rest, g, cp, h1, h2, rfl, h3, rfl⟩ hr W' D' K hK
        dsimp only at hsj hj h1 h3
        subst h1
        rw [List.length_cons] at hj
        have hst := hsj.step
        obtain ⟨x, hx1, hx2, hx3, hx4⟩ := hsj.of s (List.mem_cons_self ..)
        have hnew := hsj.new s (List.mem_cons_self ..)
        rw [hx2] at hnew hst
        have hnf : (mget m (x : Int)).getD false = false := by rw [hnew]; rfl
        rw [hx2]
        dsimp only [WB.E, whE, List.cons_append, List.nil_append]
        rcases hsj.la with rfl | ⟨q, d, rfl, hq, hqs⟩
        · apply Wp.region
          refine WpL.v (V.as) ?_
          apply WpL.nil
          refine Out.bg (by assumption) ?_
          apply Wp.block
          apply Wp.seq
          apply Wp.seq
          apply Wp.region
          refine WpL.v (V.mv) ?_
          refine WpL.v (V.cmp) ?_
          refine WpL.v (V.mv) ?_
          refine WpL.pt (fun hd0 => ?_) (fun hd0 => ?_)
          (try simp only [decide_eq_true_eq, decide_eq_false_iff_not, Bool.not_eq_true', Bool.not_eq_false', Bool.not_eq_true, Bool.not_eq_false, not_true_eq_false, not_false_eq_true, reduceCtorEq] at hd0)
          (exfalso; omega)
          (try simp only [decide_eq_true_eq, decide_eq_false_iff_not, Bool.not_eq_true', Bool.not_eq_false', Bool.not_eq_true, Bool.not_eq_false, not_true_eq_false, not_false_eq_true, reduceCtorEq] at hd0)
          refine WpL.v (V.mv) ?_
          refine WpL.v (V.ld1 tb) ?_
          refine WpL.v (V.lenL tb) ?_
          refine WpL.v (V.cmp) ?_
          refine WpL.v (V.pF) ?_
          refine WpL.v (V.mv) ?_
          refine WpL.pt (fun hd1 => ?_) (fun hd1 => ?_)
          (try simp only [decide_eq_true_eq, decide_eq_false_iff_not, Bool.not_eq_true', Bool.not_eq_false', Bool.not_eq_true, Bool.not_eq_false, not_true_eq_false, not_false_eq_true, reduceCtorEq] at hd1)
          (exfalso; omega)
          (try simp only [decide_eq_true_eq, decide_eq_false_iff_not, Bool.not_eq_true', Bool.not_eq_false', Bool.not_eq_true, Bool.not_eq_false, not_true_eq_false, not_false_eq_true, reduceCtorEq] at hd1)
          refine WpL.v (V.ld1 tb) ?_
          refine WpL.v (V.mv) ?_
          refine WpL.v (Val.lookD (l := m) (k := (x : Int)) (vf := fun b : Bool => B b) false (KeyOk.int und3) map46 zero4 rfl rfl (by (repeat first | exact List.Mem.head _ | apply List.Mem.tail))) ?_
          refine WpL.v (V.pF) ?_
          apply WpL.nil
          apply Out.seqN
          refine Wp.c (fun hd2 => ?_) (fun hd2 => ?_)
          (try simp only [decide_eq_true_eq, decide_eq_false_iff_not, Bool.not_eq_true', Bool.not_eq_false', Bool.not_eq_true, Bool.not_eq_false, not_true_eq_false, not_false_eq_true, reduceCtorEq] at hd2)
          exact absurd (Eq.trans (Eq.symm hd2) (by assumption) : true = false) (by decide)
          (try simp only [decide_eq_true_eq, decide_eq_false_iff_not, Bool.not_eq_true', Bool.not_eq_false', Bool.not_eq_true, Bool.not_eq_false, not_true_eq_false, not_false_eq_true, reduceCtorEq] at hd2)
          apply Wp.skip
          apply Out.seqN
          apply Wp.seq
          apply Wp.seq
          refine Wp.dG [] ?_ (List.Sublist.cons _ (List.Sublist.cons _ (List.Sublist.cons_cons _ (List.Sublist.cons _ (List.Sublist.cons _ (List.Sublist.cons _ (List.Sublist.cons_cons _ (List.Sublist.cons _ (List.Sublist.cons _ List.Sublist.slnil))))))))) (List.Sublist.cons _ (List.Sublist.cons _ (List.Sublist.cons_cons _ (List.Sublist.cons _ (List.Sublist.cons _ (List.Sublist.cons _ (List.Sublist.cons_cons _ (List.Sublist.cons _ (List.Sublist.cons _ List.Sublist.slnil)))))))))
          refine WpA.tF 0 rfl (V.ld1 tb) ?_
          refine WpA.tF 1 rfl (V.cmp) ?_
          refine WpA.tF 2 rfl (V.mv) ?_
          refine WpA.s 3 rfl ?_
          refine WpA.s 4 rfl ?_
          refine WpA.s 5 rfl ?_
          refine WpA.s 6 rfl ?_
          refine WpA.s 7 rfl ?_
          refine WpA.s 8 rfl ?_
          refine WpA.s 9 rfl ?_
          refine WpA.s 10 rfl ?_
          refine WpA.s 11 rfl ?_
          refine WpA.s 12 rfl ?_
          refine WpA.s 13 rfl ?_
          refine WpA.s 14 rfl ?_
          refine WpA.s 15 rfl ?_
          refine WpA.s 16 rfl ?_
          refine WpA.s 17 rfl ?_
          refine WpA.s 18 rfl ?_
          refine WpA.s 19 rfl ?_
          refine WpA.s 20 rfl ?_
          refine WpA.s 21 rfl ?_
          refine WpA.s 22 rfl ?_
          refine WpA.s 23 rfl ?_
          refine WpA.s 24 rfl ?_
          refine WpA.s 25 rfl ?_
          refine WpA.s 26 rfl ?_
          refine WpA.s 27 rfl ?_
          refine WpA.tF 28 rfl (V.pF) ?_
          refine WpA.ou ?_
          apply Out.seqN
          refine Wp.cF ?_
          apply Wp.skip
          apply Out.seqN
          apply Wp.seq
          apply Wp.region
          refine WpL.v (V.ld1 tb) ?_
          refine WpL.v (V.mv) ?_
          refine WpL.o (Op1.updM (k := (x : Int)) (v := true) (vf := fun b : Bool => B b) (KeyOk.int und3) map46 rfl rfl rfl (by (repeat first | exact Upd.here _ _ _ | apply Upd.there)) ?_)
          apply WpL.nil
          apply Out.seqN
          apply Wp.region
          refine WpL.v (V.mv) ?_
          refine WpL.o (O.st1 tb ?_)
          apply WpL.nil
          apply Out.blockN
          all_goals exact Out.rdZ hK ⟨⟨.slice (some ⟨g, 0, none⟩) rest.length cp, bt, rest⟩, mput m (x : Int) true, (x : Int)⟩ ⟨hst, by show j + 1 + rest.length ≤ 100; omega⟩
        · have hqd := hqs s (List.mem_cons_self ..)
          rw [hx3] at hqd
          have hql := (List.getElem?_eq_some_iff.1 hq).1
          apply Wp.region
          refine WpL.v (V.as) ?_
          apply WpL.nil
          refine Out.bg (by assumption) ?_
          apply Wp.block
          apply Wp.seq
          apply Wp.seq
          apply Wp.region
          refine WpL.v (V.mv) ?_
          refine WpL.v (V.cmp) ?_
          refine WpL.v (V.mv) ?_
          refine WpL.pt (fun he0 => ?_) (fun he0 => ?_)
          (try simp only [decide_eq_true_eq, decide_eq_false_iff_not, Bool.not_eq_true', Bool.not_eq_false', Bool.not_eq_true, Bool.not_eq_false, not_true_eq_false, not_false_eq_true, reduceCtorEq] at he0)
          (exfalso; omega)
          (try simp only [decide_eq_true_eq, decide_eq_false_iff_not, Bool.not_eq_true', Bool.not_eq_false', Bool.not_eq_true, Bool.not_eq_false, not_true_eq_false, not_false_eq_true, reduceCtorEq] at he0)
          refine WpL.v (V.mv) ?_
          refine WpL.v (V.ld1 tb) ?_
          refine WpL.v (V.lenL tb) ?_
          refine WpL.v (V.cmp) ?_
          refine WpL.v (V.pF) ?_
          refine WpL.v (V.mv) ?_
          refine WpL.pt (fun he1 => ?_) (fun he1 => ?_)
          (try simp only [decide_eq_true_eq, decide_eq_false_iff_not, Bool.not_eq_true', Bool.not_eq_false', Bool.not_eq_true, Bool.not_eq_false, not_true_eq_false, not_false_eq_true, reduceCtorEq] at he1)
          (exfalso; omega)
          (try simp only [decide_eq_true_eq, decide_eq_false_iff_not, Bool.not_eq_true', Bool.not_eq_false', Bool.not_eq_true, Bool.not_eq_false, not_true_eq_false, not_false_eq_true, reduceCtorEq] at he1)
          refine WpL.v (V.ld1 tb) ?_
          refine WpL.v (V.mv) ?_
          refine WpL.v (Val.lookD (l := m) (k := (x : Int)) (vf := fun b : Bool => B b) false (KeyOk.int und3) map46 zero4 rfl rfl (by (repeat first | exact List.Mem.head _ | apply List.Mem.tail))) ?_
          refine WpL.v (V.pF) ?_
          apply WpL.nil
          apply Out.seqN
          refine Wp.c (fun he2 => ?_) (fun he2 => ?_)
          (try simp only [decide_eq_true_eq, decide_eq_false_iff_not, Bool.not_eq_true', Bool.not_eq_false', Bool.not_eq_true, Bool.not_eq_false, not_true_eq_false, not_false_eq_true, reduceCtorEq] at he2)
          exact absurd (Eq.trans (Eq.symm he2) (by assumption) : true = false) (by decide)
          (try simp only [decide_eq_true_eq, decide_eq_false_iff_not, Bool.not_eq_true', Bool.not_eq_false', Bool.not_eq_true, Bool.not_eq_false, not_true_eq_false, not_false_eq_true, reduceCtorEq] at he2)
          apply Wp.skip
          apply Out.seqN
          apply Wp.seq
          apply Wp.seq
          refine Wp.dG [] ?_ (List.Sublist.cons _ (List.Sublist.cons _ (List.Sublist.cons_cons _ (List.Sublist.cons _ (List.Sublist.cons _ (List.Sublist.cons _ (List.Sublist.cons_cons _ (List.Sublist.cons _ (List.Sublist.cons _ List.Sublist.slnil))))))))) (List.Sublist.cons _ (List.Sublist.cons _ (List.Sublist.cons_cons _ (List.Sublist.cons _ (List.Sublist.cons _ (List.Sublist.cons _ (List.Sublist.cons_cons _ (List.Sublist.cons _ (List.Sublist.cons _ List.Sublist.slnil)))))))))
          refine WpA.tF 0 rfl (V.ld1 tb) ?_
          refine WpA.tF 1 rfl (V.cmp) ?_
          refine WpA.tF 2 rfl (V.mv) ?_
          refine WpA.pt 46 (fun he3 => ?_) (fun he3 => ?_)
          (try simp only [decide_eq_true_eq, decide_eq_false_iff_not, Bool.not_eq_true', Bool.not_eq_false', Bool.not_eq_true, Bool.not_eq_false, not_true_eq_false, not_false_eq_true, reduceCtorEq] at he3)
          refine WpA.tF 3 rfl (V.ld1 tb) ?_
          refine WpA.tF 4 rfl (V.ld1 tb) ?_
          refine WpA.tF 5 rfl (V.ixR tb rfl rfl (by assumption)) ?_
          refine WpA.tF 7 rfl (V.ld1 tb) ?_
          refine WpA.tF 8 rfl (V.mv) ?_
          refine WpA.tF 9 rfl (V.ixR tb rfl rfl (by assumption)) ?_
          refine WpA.e2 6 10 rfl rfl ?_ ?_
          refine Op1.vv (V.rdF1 tb (o := 0) rfl hR (getMapS hq)) ⟨?_, ?_, ?_⟩
          exact holdT
          exact holdT
          refine WpA.oS 10 rfl (Op1.vv (V.rdF1 tb (o := 0) rfl hR (getMapS hx4)) ⟨?_, ?_, ?_⟩)
          exact holdT
          exact holdT
          refine WpA.tF 11 rfl (V.cmp) ?_
          refine WpA.tF 12 rfl (V.mv) ?_
          refine WpA.pt 56 (fun he4 => ?_) (fun he4 => ?_)
          (try simp only [decide_eq_true_eq, decide_eq_false_iff_not, Bool.not_eq_true', Bool.not_eq_false', Bool.not_eq_true, Bool.not_eq_false, not_true_eq_false, not_false_eq_true, reduceCtorEq] at he4)
          (exfalso; omega)
          (try simp only [decide_eq_true_eq, decide_eq_false_iff_not, Bool.not_eq_true', Bool.not_eq_false', Bool.not_eq_true, Bool.not_eq_false, not_true_eq_false, not_false_eq_true, reduceCtorEq] at he4)
          refine WpA.tF 13 rfl (V.ld1 tb) ?_
          refine WpA.tF 14 rfl (V.ld1 tb) ?_
          refine WpA.tF 15 rfl (V.ixR tb rfl rfl (by assumption)) ?_
          refine WpA.tF 17 rfl (V.ld1 tb) ?_
          refine WpA.tF 18 rfl (V.mv) ?_
          refine WpA.tF 19 rfl (V.ixR tb rfl rfl (by assumption)) ?_
          refine WpA.e2 16 20 rfl rfl ?_ ?_
          refine Op1.vv (V.rdF1 tb (o := 0) rfl hR (getMapS hq)) ⟨?_, ?_, ?_⟩
          exact holdT
          exact holdT
          refine WpA.oS 20 rfl (Op1.vv (V.rdF1 tb (o := 0) rfl hR (getMapS hx4)) ⟨?_, ?_, ?_⟩)
          exact holdT
          exact holdT
          refine WpA.tF 21 rfl (V.cmp) ?_
          refine WpA.tF 22 rfl (V.mv) ?_
          refine WpA.pt 66 (fun he5 => ?_) (fun he5 => ?_)
          (try simp only [decide_eq_true_eq, decide_eq_false_iff_not, Bool.not_eq_true', Bool.not_eq_false', Bool.not_eq_true, Bool.not_eq_false, not_true_eq_false, not_false_eq_true, reduceCtorEq] at he5)
          refine WpA.tF 23 rfl (V.ld1 tb) ?_
          refine WpA.tF 24 rfl (V.mv) ?_
          refine WpA.tF 25 rfl (V.cmp) ?_
          refine WpA.tF 26 rfl (V.pT) ?_
          refine WpA.tF 27 rfl (V.pF) ?_
          refine WpA.tF 28 rfl (V.pT) ?_
          refine WpA.ou ?_
          apply Out.seqN
          refine Wp.c (fun he6 => ?_) (fun he6 => ?_)
          (try simp only [decide_eq_true_eq, decide_eq_false_iff_not, Bool.not_eq_true', Bool.not_eq_false', Bool.not_eq_true, Bool.not_eq_false, not_true_eq_false, not_false_eq_true, reduceCtorEq] at he6)
          (exfalso; omega)
          (try simp only [decide_eq_true_eq, decide_eq_false_iff_not, Bool.not_eq_true', Bool.not_eq_false', Bool.not_eq_true, Bool.not_eq_false, not_true_eq_false, not_false_eq_true, reduceCtorEq] at he6)
          apply Wp.skip
          apply Out.seqN
          apply Wp.seq
          apply Wp.region
          refine WpL.v (V.ld1 tb) ?_
          refine WpL.v (V.mv) ?_
          refine WpL.o (Op1.updM (k := (x : Int)) (v := true) (vf := fun b : Bool => B b) (KeyOk.int und3) map46 rfl rfl rfl (by (repeat first | exact Upd.here _ _ _ | apply Upd.there)) ?_)
          apply WpL.nil
          apply Out.seqN
          apply Wp.region
          refine WpL.v (V.mv) ?_
          refine WpL.o (O.st1 tb ?_)
          apply WpL.nil
          apply Out.blockN
          rotate_left
          (try simp only [decide_eq_true_eq, decide_eq_false_iff_not, Bool.not_eq_true', Bool.not_eq_false', Bool.not_eq_true, Bool.not_eq_false, not_true_eq_false, not_false_eq_true, reduceCtorEq] at he5)
          refine WpA.s 23 rfl ?_
          refine WpA.s 24 rfl ?_
          refine WpA.s 25 rfl ?_
          refine WpA.tF 26 rfl (V.pF) ?_
          refine WpA.tF 27 rfl (V.pF) ?_
          refine WpA.tF 28 rfl (V.pT) ?_
          refine WpA.ou ?_
          apply Out.seqN
          refine Wp.cF ?_
          apply Wp.skip
          apply Out.seqN
          apply Wp.seq
          apply Wp.region
          refine WpL.v (V.ld1 tb) ?_
          refine WpL.v (V.mv) ?_
          refine WpL.o (Op1.updM (k := (x : Int)) (v := true) (vf := fun b : Bool => B b) (KeyOk.int und3) map46 rfl rfl rfl (by (repeat first | exact Upd.here _ _ _ | apply Upd.there)) ?_)
          apply WpL.nil
          apply Out.seqN
          apply Wp.region
          refine WpL.v (V.mv) ?_
          refine WpL.o (O.st1 tb ?_)
          apply WpL.nil
          apply Out.blockN
          rotate_left
          refine Op1.vv (V.rdF1 tb (o := 0) rfl hR (getMapS hx4)) ⟨?_, ?_, ?_⟩
          exact holdT
          exact holdT
          refine WpA.oS 16 rfl (Op1.vv (V.rdF1 tb (o := 0) rfl hR (getMapS hq)) ⟨?_, ?_, ?_⟩)
          exact holdT
          exact holdT
          refine WpA.tF 21 rfl (V.cmp) ?_
          refine WpA.tF 22 rfl (V.mv) ?_
          refine WpA.pt 66 (fun he7 => ?_) (fun he7 => ?_)
          (try simp only [decide_eq_true_eq, decide_eq_false_iff_not, Bool.not_eq_true', Bool.not_eq_false', Bool.not_eq_true, Bool.not_eq_false, not_true_eq_false, not_false_eq_true, reduceCtorEq] at he7)
          refine WpA.tF 23 rfl (V.ld1 tb) ?_
          refine WpA.tF 24 rfl (V.mv) ?_
          refine WpA.tF 25 rfl (V.cmp) ?_
          refine WpA.tF 26 rfl (V.pT) ?_
          refine WpA.tF 27 rfl (V.pF) ?_
          refine WpA.tF 28 rfl (V.pT) ?_
          refine WpA.ou ?_
          apply Out.seqN
          refine Wp.c (fun he8 => ?_) (fun he8 => ?_)
          (try simp only [decide_eq_true_eq, decide_eq_false_iff_not, Bool.not_eq_true', Bool.not_eq_false', Bool.not_eq_true, Bool.not_eq_false, not_true_eq_false, not_false_eq_true, reduceCtorEq] at he8)
          (exfalso; omega)
          (try simp only [decide_eq_true_eq, decide_eq_false_iff_not, Bool.not_eq_true', Bool.not_eq_false', Bool.not_eq_true, Bool.not_eq_false, not_true_eq_false, not_false_eq_true, reduceCtorEq] at he8)
          apply Wp.skip
          apply Out.seqN
          apply Wp.seq
          apply Wp.region
          refine WpL.v (V.ld1 tb) ?_
          refine WpL.v (V.mv) ?_
          refine WpL.o (Op1.updM (k := (x : Int)) (v := true) (vf := fun b : Bool => B b) (KeyOk.int und3) map46 rfl rfl rfl (by (repeat first | exact Upd.here _ _ _ | apply Upd.there)) ?_)
          apply WpL.nil
          apply Out.seqN
          apply Wp.region
          refine WpL.v (V.mv) ?_
          refine WpL.o (O.st1 tb ?_)
          apply WpL.nil
          apply Out.blockN
          rotate_left
          (try simp only [decide_eq_true_eq, decide_eq_false_iff_not, Bool.not_eq_true', Bool.not_eq_false', Bool.not_eq_true, Bool.not_eq_false, not_true_eq_false, not_false_eq_true, reduceCtorEq] at he7)
          refine WpA.s 23 rfl ?_
          refine WpA.s 24 rfl ?_
          refine WpA.s 25 rfl ?_
          refine WpA.tF 26 rfl (V.pF) ?_
          refine WpA.tF 27 rfl (V.pF) ?_
          refine WpA.tF 28 rfl (V.pT) ?_
          refine WpA.ou ?_
          apply Out.seqN
          refine Wp.cF ?_
          apply Wp.skip
          apply Out.seqN
          apply Wp.seq
          apply Wp.region
          refine WpL.v (V.ld1 tb) ?_
          refine WpL.v (V.mv) ?_
          refine WpL.o (Op1.updM (k := (x : Int)) (v := true) (vf := fun b : Bool => B b) (KeyOk.int und3) map46 rfl rfl rfl (by (repeat first | exact Upd.here _ _ _ | apply Upd.there)) ?_)
          apply WpL.nil
          apply Out.seqN
          apply Wp.region
          refine WpL.v (V.mv) ?_
          refine WpL.o (O.st1 tb ?_)
          apply WpL.nil
          apply Out.blockN
          rotate_left
          refine Op1.vv (V.rdF1 tb (o := 0) rfl hR (getMapS hx4)) ⟨?_, ?_, ?_⟩
          exact holdT
          exact holdT
          refine WpA.oS 6 rfl (Op1.vv (V.rdF1 tb (o := 0) rfl hR (getMapS hq)) ⟨?_, ?_, ?_⟩)
          exact holdT
          exact holdT
          refine WpA.tF 11 rfl (V.cmp) ?_
          refine WpA.tF 12 rfl (V.mv) ?_
          refine WpA.pt 56 (fun he9 => ?_) (fun he9 => ?_)
          (try simp only [decide_eq_true_eq, decide_eq_false_iff_not, Bool.not_eq_true', Bool.not_eq_false', Bool.not_eq_true, Bool.not_eq_false, not_true_eq_false, not_false_eq_true, reduceCtorEq] at he9)
          (exfalso; omega)
          (try simp only [decide_eq_true_eq, decide_eq_false_iff_not, Bool.not_eq_true', Bool.not_eq_false', Bool.not_eq_true, Bool.not_eq_false, not_true_eq_false, not_false_eq_true, reduceCtorEq] at he9)
          refine WpA.tF 13 rfl (V.ld1 tb) ?_
          refine WpA.tF 14 rfl (V.ld1 tb) ?_
          refine WpA.tF 15 rfl (V.ixR tb rfl rfl (by assumption)) ?_
          refine WpA.tF 17 rfl (V.ld1 tb) ?_
          refine WpA.tF 18 rfl (V.mv) ?_
          refine WpA.tF 19 rfl (V.ixR tb rfl rfl (by assumption)) ?_
          refine WpA.e2 16 20 rfl rfl ?_ ?_
          refine Op1.vv (V.rdF1 tb (o := 0) rfl hR (getMapS hq)) ⟨?_, ?_, ?_⟩
          exact holdT
          exact holdT
          refine WpA.oS 20 rfl (Op1.vv (V.rdF1 tb (o := 0) rfl hR (getMapS hx4)) ⟨?_, ?_, ?_⟩)
          exact holdT
          exact holdT
          refine WpA.tF 21 rfl (V.cmp) ?_
          refine WpA.tF 22 rfl (V.mv) ?_
          refine WpA.pt 66 (fun he10 => ?_) (fun he10 => ?_)
          (try simp only [decide_eq_true_eq, decide_eq_false_iff_not, Bool.not_eq_true', Bool.not_eq_false', Bool.not_eq_true, Bool.not_eq_false, not_true_eq_false, not_false_eq_true, reduceCtorEq] at he10)
          refine WpA.tF 23 rfl (V.ld1 tb) ?_
          refine WpA.tF 24 rfl (V.mv) ?_
          refine WpA.tF 25 rfl (V.cmp) ?_
          refine WpA.tF 26 rfl (V.pT) ?_
          refine WpA.tF 27 rfl (V.pF) ?_
          refine WpA.tF 28 rfl (V.pT) ?_
          refine WpA.ou ?_
          apply Out.seqN
          refine Wp.c (fun he11 => ?_) (fun he11 => ?_)
          (try simp only [decide_eq_true_eq, decide_eq_false_iff_not, Bool.not_eq_true', Bool.not_eq_false', Bool.not_eq_true, Bool.not_eq_false, not_true_eq_false, not_false_eq_true, reduceCtorEq] at he11)
          (exfalso; omega)
          (try simp only [decide_eq_true_eq, decide_eq_false_iff_not, Bool.not_eq_true', Bool.not_eq_false', Bool.not_eq_true, Bool.not_eq_false, not_true_eq_false, not_false_eq_true, reduceCtorEq] at he11)
          apply Wp.skip
          apply Out.seqN
          apply Wp.seq
          apply Wp.region
          refine WpL.v (V.ld1 tb) ?_
          refine WpL.v (V.mv) ?_
          refine WpL.o (Op1.updM (k := (x : Int)) (v := true) (vf := fun b : Bool => B b) (KeyOk.int und3) map46 rfl rfl rfl (by (repeat first | exact Upd.here _ _ _ | apply Upd.there)) ?_)
          apply WpL.nil
          apply Out.seqN
          apply Wp.region
          refine WpL.v (V.mv) ?_
          refine WpL.o (O.st1 tb ?_)
          apply WpL.nil
          apply Out.blockN
          rotate_left
          (try simp only [decide_eq_true_eq, decide_eq_false_iff_not, Bool.not_eq_true', Bool.not_eq_false', Bool.not_eq_true, Bool.not_eq_false, not_true_eq_false, not_false_eq_true, reduceCtorEq] at he10)
          refine WpA.s 23 rfl ?_
          refine WpA.s 24 rfl ?_
          refine WpA.s 25 rfl ?_
          refine WpA.tF 26 rfl (V.pF) ?_
          refine WpA.tF 27 rfl (V.pF) ?_
          refine WpA.tF 28 rfl (V.pT) ?_
          refine WpA.ou ?_
          apply Out.seqN
          refine Wp.cF ?_
          apply Wp.skip
          apply Out.seqN
          apply Wp.seq
          apply Wp.region
          refine WpL.v (V.ld1 tb) ?_
          refine WpL.v (V.mv) ?_
          refine WpL.o (Op1.updM (k := (x : Int)) (v := true) (vf := fun b : Bool => B b) (KeyOk.int und3) map46 rfl rfl rfl (by (repeat first | exact Upd.here _ _ _ | apply Upd.there)) ?_)
          apply WpL.nil
          apply Out.seqN
          apply Wp.region
          refine WpL.v (V.mv) ?_
          refine WpL.o (O.st1 tb ?_)
          apply WpL.nil
          apply Out.blockN
          rotate_left
          refine Op1.vv (V.rdF1 tb (o := 0) rfl hR (getMapS hx4)) ⟨?_, ?_, ?_⟩
          exact holdT
          exact holdT
          refine WpA.oS 16 rfl (Op1.vv (V.rdF1 tb (o := 0) rfl hR (getMapS hq)) ⟨?_, ?_, ?_⟩)
          exact holdT
          exact holdT
          refine WpA.tF 21 rfl (V.cmp) ?_
          refine WpA.tF 22 rfl (V.mv) ?_
          refine WpA.pt 66 (fun he12 => ?_) (fun he12 => ?_)
          (try simp only [decide_eq_true_eq, decide_eq_false_iff_not, Bool.not_eq_true', Bool.not_eq_false', Bool.not_eq_true, Bool.not_eq_false, not_true_eq_false, not_false_eq_true, reduceCtorEq] at he12)
          refine WpA.tF 23 rfl (V.ld1 tb) ?_
          refine WpA.tF 24 rfl (V.mv) ?_
          refine WpA.tF 25 rfl (V.cmp) ?_
          refine WpA.tF 26 rfl (V.pT) ?_
          refine WpA.tF 27 rfl (V.pF) ?_
          refine WpA.tF 28 rfl (V.pT) ?_
          refine WpA.ou ?_
          apply Out.seqN
          refine Wp.c (fun he13 => ?_) (fun he13 => ?_)
          (try simp only [decide_eq_true_eq, decide_eq_false_iff_not, Bool.not_eq_true', Bool.not_eq_false', Bool.not_eq_true, Bool.not_eq_false, not_true_eq_false, not_false_eq_true, reduceCtorEq] at he13)
          (exfalso; omega)
          (try simp only [decide_eq_true_eq, decide_eq_false_iff_not, Bool.not_eq_true', Bool.not_eq_false', Bool.not_eq_true, Bool.not_eq_false, not_true_eq_false, not_false_eq_true, reduceCtorEq] at he13)
          apply Wp.skip
          apply Out.seqN
          apply Wp.seq
          apply Wp.region
          refine WpL.v (V.ld1 tb) ?_
          refine WpL.v (V.mv) ?_
          refine WpL.o (Op1.updM (k := (x : Int)) (v := true) (vf := fun b : Bool => B b) (KeyOk.int und3) map46 rfl rfl rfl (by (repeat first | exact Upd.here _ _ _ | apply Upd.there)) ?_)
          apply WpL.nil
          apply Out.seqN
          apply Wp.region
          refine WpL.v (V.mv) ?_
          refine WpL.o (O.st1 tb ?_)
          apply WpL.nil
          apply Out.blockN
          rotate_left
          (try simp only [decide_eq_true_eq, decide_eq_false_iff_not, Bool.not_eq_true', Bool.not_eq_false', Bool.not_eq_true, Bool.not_eq_false, not_true_eq_false, not_false_eq_true, reduceCtorEq] at he12)
          refine WpA.s 23 rfl ?_
          refine WpA.s 24 rfl ?_
          refine WpA.s 25 rfl ?_
          refine WpA.tF 26 rfl (V.pF) ?_
          refine WpA.tF 27 rfl (V.pF) ?_
          refine WpA.tF 28 rfl (V.pT) ?_
          refine WpA.ou ?_
          apply Out.seqN
          refine Wp.cF ?_
          apply Wp.skip
          apply Out.seqN
          apply Wp.seq
          apply Wp.region
          refine WpL.v (V.ld1 tb) ?_
          refine WpL.v (V.mv) ?_
          refine WpL.o (Op1.updM (k := (x : Int)) (v := true) (vf := fun b : Bool => B b) (KeyOk.int und3) map46 rfl rfl rfl (by (repeat first | exact Upd.here _ _ _ | apply Upd.there)) ?_)
          apply WpL.nil
          apply Out.seqN
          apply Wp.region
          refine WpL.v (V.mv) ?_
          refine WpL.o (O.st1 tb ?_)
          apply WpL.nil
          apply Out.blockN
          rotate_left
          (try simp only [decide_eq_true_eq, decide_eq_false_iff_not, Bool.not_eq_true', Bool.not_eq_false', Bool.not_eq_true, Bool.not_eq_false, not_true_eq_false, not_false_eq_true, reduceCtorEq] at he3)
          (exfalso; omega)
          all_goals exact Out.rdZ hK ⟨⟨.slice (some ⟨g, 0, none⟩) rest.length cp, bt, rest⟩, mput m (x : Int) true, (x : Int)⟩ ⟨hst, by show j + 1 + rest.length ≤ 100; omega⟩
      · rintro j ⟨⟨bv, bt, bl⟩, m, last⟩ b' ⟨hsj, hj⟩ hstop
        dsimp only at hsj hj
        have hl0 : bl = [] := by
          cases bl with
          | nil => rfl
          | cons s rest =>
            have := hstop s rfl
            obtain ⟨x, hx1, hx2, hx3, hx4⟩ := hsj.of s (List.mem_cons_self ..)
            have := hi s.due (List.mem_of_getElem? hx4)
            omega
        subst hl0
        have hml := hsj.len
        have hL := wheel_len p14 bv bt []
        unfold whE at hL
        dsimp only [List.length_nil] at hL hml
        dsimp only [WB.E, whE, List.cons_append, List.nil_append]
        apply Out.blockN
        apply Out.seqN
        apply Wp.seq
        apply Wp.region
        refine WpL.v (V.ld1 tb) ?_
        refine WpL.v (Val.lenM map46 rfl (by (repeat first | exact List.Mem.head _ | apply List.Mem.tail))) ?_
        refine WpL.v (V.ld1 tb) ?_
        refine WpL.v (V.lenL tb) ?_
        refine WpL.v (V.cmp) ?_
        refine WpL.v (V.mv) ?_
        refine WpL.pt (fun hf0 => ?_) (fun hf0 => ?_)
        (try simp only [decide_eq_true_eq, decide_eq_false_iff_not, Bool.not_eq_true', Bool.not_eq_false', Bool.not_eq_true, Bool.not_eq_false, not_true_eq_false, not_false_eq_true, reduceCtorEq] at hf0)
        refine WpL.v (V.mv) ?_
        refine WpL.o (Op1.callT rfl (hL) (by (repeat (first | exact Sel.nil | exact Rem.here | apply Sel.cons | apply Rem.there))) ?_)
        rintro v1 s2 ⟨rfl, rfl⟩
        refine incat ?_
        refine WpL.v (V.cmp) ?_
        refine WpL.v (V.pT) ?_
        refine WpL.o (O.st1 tb ?_)
        apply WpL.nil
        apply Out.seqN
        apply Wp.ret
        refine Out.f1 rfl (ResIs.c1 tb) ⟨?_, rfl⟩
        exact rfl
        (try simp only [decide_eq_true_eq, decide_eq_false_iff_not, Bool.not_eq_true', Bool.not_eq_false', Bool.not_eq_true, Bool.not_eq_false, not_true_eq_false, not_false_eq_true, reduceCtorEq] at hf0)
        (exfalso; omega)
      · intro _ _ _ _ _ _ h
        exact h.elim
  · refine Ct.enter Try.func15 rfl rfl fun W => ?_
    apply Wp.seq
    apply Wp.region
    refine WpL.o (O.bx1 (fun p1 => ?_))
    refine WpL.o (O.al tb (fun p2 => ?_))
    apply WpL.nil
    apply Out.seqN
    apply Wp.seq
    apply Wp.seq
    apply Wp.region
    refine WpL.o (Op1.fn rfl (alive10) ?_)
    refine WpL.v (V.not) ?_
    apply WpL.nil
    apply Out.seqN
    refine Wp.cF ?_
    apply Wp.skip
    apply Out.seqN
    apply Wp.seq
    apply Wp.seq
    apply Wp.region
    refine WpL.v (V.ld1 tb) ?_
    refine WpL.v (V.lenL tb) ?_
    refine WpL.v (V.cmp) ?_
    apply WpL.nil
    apply Out.seqN
    refine Wp.c (fun hz0 => ?_) (fun hz0 => ?_)
    (try simp only [decide_eq_true_eq, decide_eq_false_iff_not, Bool.not_eq_true', Bool.not_eq_false', Bool.not_eq_true, Bool.not_eq_false, not_true_eq_false, not_false_eq_true, reduceCtorEq] at hz0)
    apply Wp.seq
    apply Wp.region
    refine WpL.o (O.st1 tb ?_)
    apply WpL.nil
    apply Out.seqN
    apply Wp.ret
    apply Out.seqR
    refine Out.f1 rfl (ResIs.c1 tb) ⟨?_, rfl⟩
    exact rfl
    (try simp only [decide_eq_true_eq, decide_eq_false_iff_not, Bool.not_eq_true', Bool.not_eq_false', Bool.not_eq_true, Bool.not_eq_false, not_true_eq_false, not_false_eq_true, reduceCtorEq] at hz0)
    (exfalso; omega)
open Go Go.ChangeShapes Go.WideShapes Go.ChangeAt Go.RowKit
theorem wheelSorts_read : (Try.f15.params.toList.all fun t => Try.prog.readableRec t && decide (t < Try.prog.types.size)) = true := by kernel_rfl
theorem wheelSorts_lifted (os : Go.Os) (started : os.Started) (H : Type) (enc : Go.TypeId × Go.Value → H) :
    ReturnsInHanded {} Try.checked os 15 .any (Rows.wheelSortsSpec.pre6 enc Try.prog Try.f15 Rows.wheelSortsRow.domain false) (Rows.wheelSortsSpec.post enc Try.prog Try.f15 false true false false) := by
  refine returnsInHanded_of_change_sized (C := Try.checked) own started (by kernel_rfl) Try.func15
    (ChangeSpec.witness6 (enc := enc) (C := Try.checked) false ⟨#[], #[.slice none 0 0], []⟩ 8 (by kernel_rfl) (by kernel_rfl) (by kernel_rfl) (by kernel_rfl)) ?_
  intro W base args ds gs before hval0 hW hcnd hsz0 _
  have hsz : (DataW.weightsEach Try.prog (Try.f15.params.toList ++ Rows.wheelSortsSpec.plain.varTypes Try.prog) (ds ++ gs)).all (· ≤ reachBytes) = true := hsz0
  have hval : ∀ (j : Nat) t v, Try.f15.params[j]? = some t → args[j]? = some v → Value.okWide Try.prog W .any base t v := hval0
  have hW' := hW
  obtain ⟨p, q, hA0, hV, rfl, hfz, hnd⟩ := hW
  have hA1 : DataW.TrodAll enc Try.prog W 0 (fun _ => true) true Try.f15.params.toList args.toList ds p := hA0
  have hA := hA1
  rw [Try.params15] at hA hval hsz
  obtain ⟨v0, vs0, d0, ds0, p0, q0, hargs, rfl, rfl, h0, r0⟩ := trodAll_cons hA
  obtain ⟨rfl, rfl, rfl⟩ := trodAll_nil r0
  obtain rfl : args = #[v0] := by cases args; simp_all
  obtain ⟨rfl, rfl⟩ := trodVars_none hV
  obtain ⟨ao0, b0, off0, len0, cap0, xs0, rfl, hl0, hlc0, hcm0, ha0, hs0, hf0, hby0⟩ := open_slice_plain Try.underlying41 IntT.leaves (by kernel_rfl) (by decide) (hval 0 41 v0 rfl rfl) h0 (sizedAll hsz 0 rfl rfl)
  obtain ⟨x0, rfl, w0⟩ := fits_map IntT.c IntT.wf hf0 IntT.fit
  obtain rfl : len0 = x0.length := by simpa using hl0.symm
  simp only [List.append_nil] at hW' hA1
  have hbl : ∀ p : Nat × Nat, p ∈ [(x0.length, b0)] → 0 < p.1 → p.2 < W.heap.size := by
    intro p hp h0
    simp only [List.mem_cons, List.mem_nil_iff, or_false] at hp
    rcases hp with rfl
    · exact (ha0 h0).2
  have hR0 : Rd (snap W (blocksOf [(x0.length, b0)])) ao0 x0.length b0 off0 1 (x0.map IntT.c) := Rd.snap (by simp) (Nat.le_trans hlc0 hcm0) ha0 hs0 (fun h => blocksOf_mem (len := x0.length) (by simp) h)
  refine (Ct.runSnap (blocksOf_nodup _) (blocksOf_lt hbl) (wheelSorts_walk _ _ _ _ _ x0 hR0 (fun x hx => (In.i64 (w0 x hx)).2))).mono fun e W' hh => ?_
  obtain ⟨rfl, hS⟩ := hh
  exact ⟨_, rfl, post_law (P := Try.prog) (f := Try.f15) (tbool := 4) hW' hA1 rfl rfl hS laid wheelSorts_read rfl Try.underlying4⟩
theorem wheelSorts_joined : joinedFacts Try.prog 15 Try.f15 Rows.wheelSortsSpec Rows.wheelSortsRow = true := by
  unfold joinedFacts
  rewrite [head_enter, head_lift, head_make]
  kernel_rfl
theorem wheelSorts_over : Rows.wheelSortsRow.holds Try.pinned (OpenSpec.ofChange Rows.wheelSortsSpec) :=
  OpenClaim.holds_of_wide 15 Try.f15 rfl rfl rfl rfl rfl rfl rfl ⟨rfl, rfl, rfl, rfl, rfl⟩ rfl rfl rfl rfl rfl (by kernel_rfl) Try.func15 wheelSorts_joined
    (of_decide_eq_true (by kernel_rfl)) (by unfold Func.isWrapper; first | (rw [if_pos (by decide +kernel)]; kernel_rfl) | (rw [if_neg (by decide +kernel)]; exact ⟨rfl, rfl⟩))
    (fun os started H enc _ => wheelSorts_lifted os started H enc)
/-- THE STATEMENT. -/
theorem wheelSorts_proved : Rows.WheelSortsSaid := wheelSorts_over
#print axioms wheelSorts_proved

end Go.Proofs.Ythoepbbpmdmfeaa
