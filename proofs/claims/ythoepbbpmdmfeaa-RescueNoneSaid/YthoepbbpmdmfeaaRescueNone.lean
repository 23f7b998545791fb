/-
  The statement RescueNone of layer 16: where nothing is known an empty call is to be accepted; what is committed is told. Proved for every input.
-/
import Derived.Test.YthoepbbpmdmfeaaHead
import Derived.Test.YthoepbbpmdmfeaaRef
namespace Go.Proofs.Ythoepbbpmdmfeaa
open Go.HL
set_option linter.unusedSimpArgs false
set_option linter.unusedVariables false
set_option maxRecDepth 8000
def nM (x : TItem) (k : Nat) : TMsg := { TMsg.z with Kind := 7, From := (k : Int), Item := x }
def nMs (x : TItem) (m k : Nat) : List TMsg := (List.range k).map (nM x) ++ List.replicate (m - k) TMsg.z
theorem nMs_set (x : TItem) {m k : Nat} (h : k < m) : (nMs x m k).set k (nM x k) = nMs x m (k + 1) := by
  unfold nMs
  rw [List.set_append, if_neg (by simp), List.range_succ, List.map_append]
  simp only [List.length_map, List.length_range, Nat.sub_self]
  rw [show m - k = (m - (k + 1)) + 1 by omega, List.replicate_succ, List.set_cons_zero]
  simp
theorem nMs_len (x : TItem) {m k : Nat} (h : k ≤ m) : (nMs x m k).length = m := by simp [nMs]; omega
theorem nMs_all (x : TItem) (m : Nat) : nMs x m m = (List.range m).map (nM x) := by simp [nMs]
theorem nM_status (x : TItem) (m : Nat) : ∀ y ∈ (List.range m).map (nM x), y.Status = 0 := by
  intro y hy
  obtain ⟨k, _, rfl⟩ := List.mem_map.1 hy
  rfl
theorem hi_no {st : Int} {xs : List TMsg} (h : ∀ y ∈ xs, y.Status ≠ st) : hi st xs = none := by
  have h1 := hi_spec st xs
  cases hh : hi st xs with
  | none => rfl
  | some a =>
    rw [hh] at h1
    obtain ⟨i, h2, h3, _⟩ := h1
    exact absurd h3 (h a (List.mem_of_getElem? h2))
theorem choose_none (n : Int) (x : TItem) (m : Nat) (hm : faults n + 1 ≤ (m : Int)) : choose n x ((List.range m).map (nM x)) = (2, TCall.z) := by
  have hst := nM_status x m
  have h0 : ∀ st : Int, st ≠ 0 → hi st ((List.range m).map (nM x)) = none := fun st hs => hi_no fun y hy => by rw [hst y hy]; exact fun h => hs h.symm
  have h1 : sameL x ((List.range m).map (nM x)) = [] := by
    unfold sameL
    split
    · rfl
    · rw [List.filter_eq_nil_iff]
      intro y hy
      unfold sameP
      rw [hst y hy]; simp
  unfold choose
  rw [if_neg (by simp; omega), h0 3 (by decide)]
  simp only [accd, h0 2 (by decide), h1, h0 1 (by decide)]
theorem choose_few (n : Int) (x : TItem) (xs : List TMsg) (hm : (xs.length : Int) < faults n + 1) : choose n x xs = (0, TCall.z) := by
  unfold choose; rw [if_pos hm]
def no3 (m : TMsg) : TMsg := if m.Status = 3 then { m with Status := 2 } else m
theorem choose_tell (n : Int) (x : TItem) (ys : List TMsg) (c : TCall) {k : Nat} {y : TMsg} (hk : ys[k]? = some y) (hys : ∀ y ∈ ys, y.Status ≠ 3) (hm : faults n + 1 ≤ (ys.length : Int)) :
    choose n x (ys.set k { y with Status := 3, Call := c }) = (1, c) := by
  have hkl := (List.getElem?_eq_some_iff.1 hk).1
  have h : hi 3 (ys.set k { y with Status := 3, Call := c }) = some { y with Status := 3, Call := c } := by
    have h1 := hi_spec 3 (ys.set k { y with Status := 3, Call := c })
    cases hh : hi 3 (ys.set k { y with Status := 3, Call := c }) with
    | none =>
      rw [hh] at h1
      exact absurd rfl (h1 { y with Status := 3, Call := c } (List.mem_of_getElem? (i := k) (by rw [List.getElem?_set]; simp [hkl])))
    | some a =>
      rw [hh] at h1
      obtain ⟨i, h2, h3, _⟩ := h1
      rw [List.getElem?_set] at h2
      by_cases hik : k = i
      · rw [if_pos hik, if_pos (by omega)] at h2
        exact h2.symm ▸ rfl
      · rw [if_neg hik] at h2
        exact absurd h3 (hys a (List.mem_of_getElem? h2))
  unfold choose
  rw [if_neg (by rw [List.length_set]; omega), h]
theorem u64wrap (m : Nat) (h : m < 2 ^ 64) : Go.IntKind.u64.wrap (m : Int) = (m : Int) := by
  simp only [Go.IntKind.wrap, Go.IntKind.signed, Go.IntKind.bits]
  simp
  omega
theorem u64wrap' (c : Int) : ∃ m : Nat, Go.IntKind.u64.wrap c = (m : Int) := by
  refine ⟨(Go.IntKind.u64.wrap c).toNat, ?_⟩
  simp only [Go.IntKind.wrap, Go.IntKind.signed, Go.IntKind.bits]
  have := Int.emod_nonneg c (show (2 ^ 64 : Int) ≠ 0 by decide)
  simp
  omega
theorem i64wrap (m : Nat) (h : m < 2 ^ 63) : Go.IntKind.i64.wrap (m : Int) = (m : Int) := wrap_in (In.mk64 (by omega))
def no3s (xs : List TMsg) (k : Nat) : List TMsg := (xs.take k).map no3 ++ xs.drop k
theorem no3s_len (xs : List TMsg) (k : Nat) : (no3s xs k).length = xs.length := by simp [no3s]; omega
theorem no3s_at {xs : List TMsg} {k : Nat} {y : TMsg} (h : xs[k]? = some y) : (no3s xs k)[k]? = some y := by
  have hl := (List.getElem?_eq_some_iff.1 h).1
  unfold no3s
  rw [List.getElem?_append_right (by simp only [List.length_map, List.length_take]; omega), List.getElem?_drop]
  simp only [List.length_map, List.length_take]
  rw [show k + (k - min k xs.length) = k by omega, h]
theorem no3s_next {xs : List TMsg} {k : Nat} {y : TMsg} (h : xs[k]? = some y) : no3s xs (k + 1) = (no3s xs k).set k (no3 y) := by
  have hl := (List.getElem?_eq_some_iff.1 h).1
  have hd : xs.drop k = y :: xs.drop (k + 1) := by
    rw [List.drop_eq_getElem_cons hl]
    rw [List.getElem?_eq_getElem hl] at h
    rw [Option.some.inj h]
  unfold no3s
  rw [List.set_append, if_neg (by simp only [List.length_map, List.length_take]; omega), List.take_add_one, h]
  simp only [List.length_map, List.length_take, Option.toList_some, List.map_append, List.map_cons, List.map_nil]
  rw [show k - min k xs.length = 0 by omega, hd, List.set_cons_zero, List.append_assoc]
  rfl
theorem no3s_same {xs : List TMsg} {k : Nat} {y : TMsg} (h : xs[k]? = some y) (h3 : ¬y.Status = 3) : no3s xs (k + 1) = no3s xs k := by
  rw [no3s_next h, no3, if_neg h3]
  have := no3s_at h
  apply List.ext_getElem?
  intro i
  rw [List.getElem?_set]
  split
  · rename_i hi; subst hi
    rw [this]; split
    · rfl
    · rename_i h2; exact absurd (List.getElem?_eq_some_iff.1 this).1 h2
  · rfl
theorem no3s_all (xs : List TMsg) : no3s xs xs.length = xs.map no3 := by simp [no3s]
theorem no3_status (xs : List TMsg) : ∀ y ∈ xs.map no3, y.Status ≠ 3 := by
  intro y hy
  obtain ⟨z, _, rfl⟩ := List.mem_map.1 hy
  unfold no3; split
  · simp
  · assumption
set_option maxHeartbeats 4000000 in
theorem rescueNone_walk (e : Ent) (ao : Option Go.Addr) (cap b off : Nat) (n : Int) (x : TItem) (xs : List TMsg) (at_ : Int) (c : TCall) (hn : n ≤ 9223372036854775807) (hR : Rd e ao xs.length b off 25 (xs.map TMsg.c)) :
    Ct Try.prog 7 [I n, A x.c, .slice ao xs.length cap, I at_, A c.c] [e] (fun r σ' => r = B true ∧ σ' = [e]) := by
  have hm := hR.small
  simp only [Go.maxLen] at hm
  have hF := ref_faults n hn
  by_cases hs : (n = 3 ∨ n = 5 ∨ n = 7) ∧ xs.length ≤ 7
  · have hS : Fun Try.prog 24 [I n] (B true) := by
      have h := r16_size n
      rwa [show (decide (n = 3) || (decide (n = 5) || decide (n = 7))) = true by simp; exact hs.1] at h
    refine Ct.enter Try.func7 rfl rfl fun W => ?_
    apply Wp.seq
    apply Wp.region
    refine WpL.o (O.bxA (fun p6 => ?_))
    refine WpL.o (O.bxA (fun p9 => ?_))
    refine WpL.v (V.as) ?_
    apply WpL.nil
    apply Out.seqN
    apply Wp.seq
    apply Wp.seq
    apply Wp.region
    refine WpL.o (Op1.fn rfl (alive16) ?_)
    refine WpL.v (V.not) ?_
    apply WpL.nil
    apply Out.seqN
    refine Wp.cF ?_
    apply Wp.skip
    apply Out.seqN
    apply Wp.seq
    apply Wp.region
    refine WpL.v (V.mv) ?_
    refine WpL.o (Op1.fn rfl (hF) ?_)
    refine WpL.v (V.as) ?_
    apply WpL.nil
    apply Out.seqN
    apply Wp.seq
    apply Wp.seq
    apply Wp.region
    refine WpL.v (V.mv) ?_
    refine WpL.o (Op1.fn rfl (hS) ?_)
    refine WpL.v (V.not) ?_
    refine WpL.v (V.mv) ?_
    refine WpL.v (V.mv) ?_
    refine WpL.v (V.lenL tb) ?_
    refine WpL.v (V.cmp) ?_
    refine WpL.v (V.pF) ?_
    apply WpL.nil
    apply Out.seqN
    refine Wp.c (fun ha0 => ?_) (fun ha0 => ?_)
    (try simp only [decide_eq_true_eq, decide_eq_false_iff_not, Bool.not_eq_true', Bool.not_eq_false', Bool.not_eq_true, Bool.not_eq_false, not_true_eq_false, not_false_eq_true, reduceCtorEq] at ha0)
    (exfalso; omega)
    (try simp only [decide_eq_true_eq, decide_eq_false_iff_not, Bool.not_eq_true', Bool.not_eq_false', Bool.not_eq_true, Bool.not_eq_false, not_true_eq_false, not_false_eq_true, reduceCtorEq] at ha0)
    apply Wp.skip
    apply Out.seqN
    apply Wp.seq
    apply Wp.region
    refine WpL.v (V.mv) ?_
    refine WpL.v (V.lenL tb) ?_
    refine WpL.o (Op1.mkRow tb (m := xs.length) TMsg.c TMsg.z rfl rfl (by omega) (fun p33 => ?_))
    refine WpL.v (V.as) ?_
    apply WpL.nil
    apply Out.seqN
    apply Wp.seq
    apply Wp.seq
    apply Wp.region
    refine WpL.v (V.mv) ?_
    refine WpL.v (V.lenL tb) ?_
    refine WpL.v (V.mv) ?_
    apply WpL.nil
    apply Out.seqN
    apply Wp.block
    obtain ⟨hs1, hs2⟩ := hs
    obtain ⟨m, hmx⟩ : ∃ m, m = xs.length := ⟨_, rfl⟩
    rw [show List.replicate xs.length TMsg.z = nMs x xs.length 0 by simp [nMs]]
    refine Wp.lp [35, 12, 11, 9, 6, 0, 2, 3] (fun k : Nat => k ≤ xs.length) (fun k => [(36, I (k : Int))]) (fun k => [rows TMsg.c (.slice (some ⟨p33, 0, none⟩) xs.length xs.length) 44 25 (nMs x xs.length k)]) (fun k => xs.length - k) 0 (Nat.zero_le _) ?_
    intro k hk K hK
    dsimp only [List.cons_append, List.nil_append]
    have hnl := nMs_len x hk
    by_cases hlt : k < xs.length
    · apply Wp.seq
      apply Wp.region
      refine WpL.v (V.cmp) ?_
      apply WpL.nil
      apply Out.seqN
      apply Wp.seq
      refine Wp.c (fun ha10 => ?_) (fun ha10 => ?_)
      (try simp only [decide_eq_true_eq, decide_eq_false_iff_not, Bool.not_eq_true', Bool.not_eq_false', Bool.not_eq_true, Bool.not_eq_false, not_true_eq_false, not_false_eq_true, reduceCtorEq] at ha10)
      apply Wp.skip
      apply Out.seqN
      apply Wp.seq
      apply Wp.block
      apply Wp.seq
      apply Wp.region
      refine WpL.v (V.mv) ?_
      refine WpL.v (V.as) ?_
      apply WpL.nil
      apply Out.seqN
      apply Wp.region
      refine WpL.v (V.mv) ?_
      refine WpL.v (V.mv) ?_
      refine WpL.v (V.mv) ?_
      refine WpL.v (V.ldA tb) ?_
      refine WpL.v (V.bld tb (c' := (nM x k).c)) ?_
      refine WpL.v (V.ixk tb rfl rfl) ?_
      refine WpL.o (O.stRowA tb (f := TMsg.c) (a := nM x k) rfl rfl (by (repeat first | exact Upd.here _ _ _ | apply Upd.there)) hnl (by omega) TMsg.len TMsg.ones ?_)
      apply WpL.nil
      apply Out.blockN
      apply Out.seqN
      apply Wp.region
      refine WpL.v (V.add) ?_
      refine WpL.v (V.mv) ?_
      apply WpL.nil
      rotate_left
      (try simp only [decide_eq_true_eq, decide_eq_false_iff_not, Bool.not_eq_true', Bool.not_eq_false', Bool.not_eq_true, Bool.not_eq_false, not_true_eq_false, not_false_eq_true, reduceCtorEq] at ha10)
      (exfalso; omega)
      all_goals exact Out.ag hK (k + 1) (by omega) (by show xs.length - (k + 1) < xs.length - k; omega) (hs := by rw [← nMs_set x hlt]; (repeat (first | exact Sel.nil | exact Rem.here | apply Sel.cons | apply Rem.there)))
    · obtain rfl : k = xs.length := by omega
      clear hK
      rw [nMs_all]
      have hrl : ((List.range xs.length).map (nM x)).length = xs.length := by simp
      by_cases hfew : (xs.length : Int) ≤ faults n
      · have hC : Ct Try.prog 25 [I n, A x.c, .slice (some ⟨p33, 0, none⟩) xs.length xs.length] [rows TMsg.c (.slice (some ⟨p33, 0, none⟩) xs.length xs.length) 44 25 ((List.range xs.length).map (nM x))] (fun r σ' => r = .tuple #[I 0, A TCall.z.c] ∧ σ' = [rows TMsg.c (.slice (some ⟨p33, 0, none⟩) xs.length xs.length) 44 25 ((List.range xs.length).map (nM x))]) := by
          have h := rescue_choose (rows TMsg.c (.slice (some ⟨p33, 0, none⟩) xs.length xs.length) 44 25 ((List.range xs.length).map (nM x))) (some ⟨p33, 0, none⟩) xs.length p33 0 n x ((List.range xs.length).map (nM x)) (by omega) (by omega) (by have h := Rd.rows (f := TMsg.c) (g := p33) (E := 44) (sz := 25) (cap := xs.length) (l := (List.range xs.length).map (nM x)) TMsg.len (by omega); rw [hrl] at h ⊢; exact h)
          rw [choose_few n x _ (by omega), hrl] at h
          exact h
        apply Wp.seq
        apply Wp.region
        refine WpL.v (V.cmp) ?_
        apply WpL.nil
        apply Out.seqN
        apply Wp.seq
        refine Wp.c (fun ha20 => ?_) (fun ha20 => ?_)
        (try simp only [decide_eq_true_eq, decide_eq_false_iff_not, Bool.not_eq_true', Bool.not_eq_false', Bool.not_eq_true, Bool.not_eq_false, not_true_eq_false, not_false_eq_true, reduceCtorEq] at ha20)
        (exfalso; omega)
        (try simp only [decide_eq_true_eq, decide_eq_false_iff_not, Bool.not_eq_true', Bool.not_eq_false', Bool.not_eq_true, Bool.not_eq_false, not_true_eq_false, not_false_eq_true, reduceCtorEq] at ha20)
        apply Wp.exit
        apply Out.seqE
        apply Out.seqE
        apply Out.blockE
        apply Out.seqN
        apply Wp.seq
        apply Wp.region
        refine WpL.v (V.mv) ?_
        refine WpL.v (V.ldA tb) ?_
        refine WpL.v (V.mv) ?_
        refine WpL.o (Op1.callT rfl (hC) (by (repeat (first | exact Sel.nil | exact Rem.here | apply Sel.cons | apply Rem.there))) ?_)
        rintro v1 s2 ⟨rfl, rfl⟩
        refine incat ?_
        refine WpL.v (V.mv) ?_
        refine WpL.v (V.ex) ?_
        refine WpL.v (V.ex) ?_
        refine WpL.o (O.al tb (fun p15 => ?_))
        refine WpL.v (V.as) ?_
        refine WpL.o (O.stA tb ?_)
        apply WpL.nil
        apply Out.seqN
        apply Wp.seq
        apply Wp.seq
        apply Wp.region
        refine WpL.v (V.mv) ?_
        refine WpL.v (V.lenL tb) ?_
        refine WpL.v (V.mv) ?_
        refine WpL.v (V.cmp) ?_
        apply WpL.nil
        apply Out.seqN
        refine Wp.c (fun ha23 => ?_) (fun ha23 => ?_)
        (try simp only [decide_eq_true_eq, decide_eq_false_iff_not, Bool.not_eq_true', Bool.not_eq_false', Bool.not_eq_true, Bool.not_eq_false, not_true_eq_false, not_false_eq_true, reduceCtorEq] at ha23)
        apply Wp.seq
        apply Wp.region
        refine WpL.v (V.mv) ?_
        refine WpL.v (V.cmp) ?_
        refine WpL.v (V.mv) ?_
        refine WpL.v (V.ldA tb) ?_
        refine WpL.v (V.bld tb) ?_
        refine WpL.v (V.eq (TCall.eqT _ _ _)) ?_
        refine WpL.v (V.pT) ?_
        refine WpL.v (V.as) ?_
        apply WpL.nil
        apply Out.seqN
        apply Wp.ret
        apply Out.seqR
        refine Out.f1 rfl ResIs.t ⟨?_, rfl⟩
        exact rfl
        (try simp only [decide_eq_true_eq, decide_eq_false_iff_not, Bool.not_eq_true', Bool.not_eq_false', Bool.not_eq_true, Bool.not_eq_false, not_true_eq_false, not_false_eq_true, reduceCtorEq] at ha23)
        (exfalso; omega)
      · have hC : Ct Try.prog 25 [I n, A x.c, .slice (some ⟨p33, 0, none⟩) xs.length xs.length] [rows TMsg.c (.slice (some ⟨p33, 0, none⟩) xs.length xs.length) 44 25 ((List.range xs.length).map (nM x))] (fun r σ' => r = .tuple #[I 2, A TCall.z.c] ∧ σ' = [rows TMsg.c (.slice (some ⟨p33, 0, none⟩) xs.length xs.length) 44 25 ((List.range xs.length).map (nM x))]) := by
          have h := rescue_choose (rows TMsg.c (.slice (some ⟨p33, 0, none⟩) xs.length xs.length) 44 25 ((List.range xs.length).map (nM x))) (some ⟨p33, 0, none⟩) xs.length p33 0 n x ((List.range xs.length).map (nM x)) (by omega) (by omega) (by have h := Rd.rows (f := TMsg.c) (g := p33) (E := 44) (sz := 25) (cap := xs.length) (l := (List.range xs.length).map (nM x)) TMsg.len (by omega); rw [hrl] at h ⊢; exact h)
          rw [choose_none n x _ (by omega), hrl] at h
          exact h
        have hpos : 0 < xs.length := by have : 1 ≤ faults n := by unfold faults; omega
                                        omega
        have hne : xs ≠ [] := by intro h; rw [h] at hpos; simp at hpos
        apply Wp.seq
        apply Wp.region
        refine WpL.v (V.cmp) ?_
        apply WpL.nil
        apply Out.seqN
        apply Wp.seq
        refine Wp.c (fun ha30 => ?_) (fun ha30 => ?_)
        (try simp only [decide_eq_true_eq, decide_eq_false_iff_not, Bool.not_eq_true', Bool.not_eq_false', Bool.not_eq_true, Bool.not_eq_false, not_true_eq_false, not_false_eq_true, reduceCtorEq] at ha30)
        (exfalso; omega)
        (try simp only [decide_eq_true_eq, decide_eq_false_iff_not, Bool.not_eq_true', Bool.not_eq_false', Bool.not_eq_true, Bool.not_eq_false, not_true_eq_false, not_false_eq_true, reduceCtorEq] at ha30)
        apply Wp.exit
        apply Out.seqE
        apply Out.seqE
        apply Out.blockE
        apply Out.seqN
        apply Wp.seq
        apply Wp.region
        refine WpL.v (V.mv) ?_
        refine WpL.v (V.ldA tb) ?_
        refine WpL.v (V.mv) ?_
        refine WpL.o (Op1.callT rfl (hC) (by (repeat (first | exact Sel.nil | exact Rem.here | apply Sel.cons | apply Rem.there))) ?_)
        rintro v1 s2 ⟨rfl, rfl⟩
        refine incat ?_
        refine WpL.v (V.mv) ?_
        refine WpL.v (V.ex) ?_
        refine WpL.v (V.ex) ?_
        refine WpL.o (O.al tb (fun p15 => ?_))
        refine WpL.v (V.as) ?_
        refine WpL.o (O.stA tb ?_)
        apply WpL.nil
        apply Out.seqN
        apply Wp.seq
        apply Wp.seq
        apply Wp.region
        refine WpL.v (V.mv) ?_
        refine WpL.v (V.lenL tb) ?_
        refine WpL.v (V.mv) ?_
        refine WpL.v (V.cmp) ?_
        apply WpL.nil
        apply Out.seqN
        refine Wp.c (fun ha33 => ?_) (fun ha33 => ?_)
        (try simp only [decide_eq_true_eq, decide_eq_false_iff_not, Bool.not_eq_true', Bool.not_eq_false', Bool.not_eq_true, Bool.not_eq_false, not_true_eq_false, not_false_eq_true, reduceCtorEq] at ha33)
        (exfalso; omega)
        (try simp only [decide_eq_true_eq, decide_eq_false_iff_not, Bool.not_eq_true', Bool.not_eq_false', Bool.not_eq_true, Bool.not_eq_false, not_true_eq_false, not_false_eq_true, reduceCtorEq] at ha33)
        apply Wp.skip
        apply Out.seqN
        apply Wp.seq
        apply Wp.seq
        apply Wp.region
        refine WpL.v (V.mv) ?_
        refine WpL.v (V.cmp) ?_
        refine WpL.v (V.mv) ?_
        refine WpL.v (V.ldA tb) ?_
        refine WpL.v (V.bld tb) ?_
        refine WpL.v (V.ne (TCall.eqT _ _ _)) ?_
        refine WpL.v (V.pF) ?_
        apply WpL.nil
        apply Out.seqN
        refine Wp.cF ?_
        apply Wp.skip
        apply Out.seqN
        apply Wp.seq
        apply Wp.region
        refine WpL.o (O.litL tb TMsg.c ([] : List TMsg) rfl PartsFrom.nil rfl rfl (fun p71 => ?_))
        refine WpL.v (V.mv) ?_
        refine WpL.o (O.apNew tb rfl rfl (SrcL.rd tb hR (by (repeat first | exact List.Mem.head _ | apply List.Mem.tail)) TMsg.ones TMsg.len hpos) hne TMsg.len (fun g73 cap73 => ?_))
        refine WpL.v (V.as) ?_
        apply WpL.nil
        apply Out.seqN
        apply Wp.seq
        apply Wp.seq
        apply Wp.region
        refine WpL.v (V.mv) ?_
        refine WpL.v (V.lenL tb) ?_
        refine WpL.v (V.mv) ?_
        apply WpL.nil
        apply Out.seqN
        apply Wp.block
        
        rw [show rows TMsg.c (.slice (some ⟨g73, 0, none⟩) xs.length cap73) 44 25 xs = rows TMsg.c (.slice (some ⟨g73, 0, none⟩) xs.length cap73) 44 25 (no3s xs 0) from rfl]
        refine Wp.lp [75, 16, 15, 9, 6, 0, 3] (fun k : Nat => k ≤ xs.length) (fun k => [(76, I (k : Int))]) (fun k => [rows TMsg.c (.slice (some ⟨g73, 0, none⟩) xs.length cap73) 44 25 (no3s xs k)]) (fun k => xs.length - k) 0 (Nat.zero_le _) ?_
        intro k hk K hK
        dsimp only [List.cons_append, List.nil_append]
        have hnl := no3s_len xs k
        by_cases hlt : k < xs.length
        · obtain ⟨y, hy⟩ := getS hlt
          have hy2 := no3s_at hy
          apply Wp.seq
          apply Wp.region
          refine WpL.v (V.cmp) ?_
          apply WpL.nil
          apply Out.seqN
          apply Wp.seq
          refine Wp.c (fun ha50 => ?_) (fun ha50 => ?_)
          (try simp only [decide_eq_true_eq, decide_eq_false_iff_not, Bool.not_eq_true', Bool.not_eq_false', Bool.not_eq_true, Bool.not_eq_false, not_true_eq_false, not_false_eq_true, reduceCtorEq] at ha50)
          apply Wp.skip
          apply Out.seqN
          apply Wp.seq
          apply Wp.block
          apply Wp.seq
          apply Wp.region
          refine WpL.v (V.mv) ?_
          refine WpL.v (V.as) ?_
          apply WpL.nil
          apply Out.seqN
          apply Wp.seq
          apply Wp.region
          refine WpL.v (V.mv) ?_
          refine WpL.v (V.mv) ?_
          refine WpL.v (V.ixk tb rfl rfl) ?_
          refine WpL.v (V.fa tb) ?_
          refine WpL.v (V.rowF1 tb (o := 9) rfl (by (repeat first | exact List.Mem.head _ | apply List.Mem.tail)) TMsg.len hy2) ?_
          refine WpL.v (V.cmp) ?_
          apply WpL.nil
          apply Out.seqN
          refine Wp.c (fun ha51 => ?_) (fun ha51 => ?_)
          (try simp only [decide_eq_true_eq, decide_eq_false_iff_not, Bool.not_eq_true', Bool.not_eq_false', Bool.not_eq_true, Bool.not_eq_false, not_true_eq_false, not_false_eq_true, reduceCtorEq] at ha51)
          apply Wp.region
          refine WpL.v (V.mv) ?_
          refine WpL.v (V.mv) ?_
          refine WpL.v (V.ixk tb rfl rfl) ?_
          refine WpL.v (V.fa tb) ?_
          refine WpL.o (O.stRowF1 tb (o := 9) rfl rfl rfl hy2 inferInstance (by (repeat first | exact Upd.here _ _ _ | apply Upd.there)) hnl TMsg.len rfl ?_)
          apply WpL.nil
          apply Out.blockN
          apply Out.seqN
          apply Wp.region
          refine WpL.v (V.add) ?_
          refine WpL.v (V.mv) ?_
          apply WpL.nil
          rotate_left
          (try simp only [decide_eq_true_eq, decide_eq_false_iff_not, Bool.not_eq_true', Bool.not_eq_false', Bool.not_eq_true, Bool.not_eq_false, not_true_eq_false, not_false_eq_true, reduceCtorEq] at ha51)
          apply Wp.skip
          apply Out.blockN
          apply Out.seqN
          apply Wp.region
          refine WpL.v (V.add) ?_
          refine WpL.v (V.mv) ?_
          apply WpL.nil
          rotate_left
          (try simp only [decide_eq_true_eq, decide_eq_false_iff_not, Bool.not_eq_true', Bool.not_eq_false', Bool.not_eq_true, Bool.not_eq_false, not_true_eq_false, not_false_eq_true, reduceCtorEq] at ha50)
          (exfalso; omega)
          · exact Out.ag hK (k + 1) (by omega) (by show xs.length - (k + 1) < xs.length - k; omega) (hs := by rw [no3s_next hy, no3, if_pos ha51]; (repeat (first | exact Sel.nil | exact Rem.here | apply Sel.cons | apply Rem.there)))
          · exact Out.ag hK (k + 1) (by omega) (by show xs.length - (k + 1) < xs.length - k; omega) (hs := by rw [no3s_same hy ha51]; (repeat (first | exact Sel.nil | exact Rem.here | apply Sel.cons | apply Rem.there)))
        · obtain rfl : k = xs.length := by omega
          clear hK
          rw [no3s_all]
          obtain ⟨u, hu⟩ := u64wrap' at_
          have hL := u64wrap xs.length (by omega)
          obtain ⟨kk, hkk⟩ : ∃ kk, kk = u % xs.length := ⟨_, rfl⟩
          have hkl : kk < xs.length := hkk ▸ Nat.mod_lt _ hpos
          have hK2 : Go.IntKind.i64.wrap ((u : Int) % (xs.length : Int)) = (kk : Int) := by
            rw [hkk, ← Int.natCast_emod]; exact i64wrap _ (by have := Nat.mod_lt u hpos; omega)
          have hml : (xs.map no3).length = xs.length := by simp
          obtain ⟨y, hy⟩ := getS (xs := xs.map no3) (k := kk) (by omega)
          have hy3 : ((xs.map no3).set kk { y with Status := 3 })[kk]? = some { y with Status := 3 } := by
            rw [List.getElem?_set, if_pos rfl, if_pos (by omega)]
          have hml2 : ((xs.map no3).set kk { y with Status := 3 }).length = xs.length := by simp
          have hch : choose n x (((xs.map no3).set kk { y with Status := 3 }).set kk { y with Status := 3, Call := c }) = (1, c) := by
            rw [List.set_set]; exact choose_tell n x _ c hy (no3_status xs) (by omega)
          have hml3 : (((xs.map no3).set kk { y with Status := 3 }).set kk { y with Status := 3, Call := c }).length = xs.length := by simp
          have hC2 : Ct Try.prog 25 [I n, A x.c, .slice (some ⟨g73, 0, none⟩) xs.length cap73] [rows TMsg.c (.slice (some ⟨g73, 0, none⟩) xs.length cap73) 44 25 (((xs.map no3).set kk { y with Status := 3 }).set kk { y with Status := 3, Call := c })] (fun r σ' => r = .tuple #[I 1, A c.c] ∧ σ' = [rows TMsg.c (.slice (some ⟨g73, 0, none⟩) xs.length cap73) 44 25 (((xs.map no3).set kk { y with Status := 3 }).set kk { y with Status := 3, Call := c })]) := by
            have h := rescue_choose (rows TMsg.c (.slice (some ⟨g73, 0, none⟩) xs.length cap73) 44 25 (((xs.map no3).set kk { y with Status := 3 }).set kk { y with Status := 3, Call := c })) (some ⟨g73, 0, none⟩) cap73 g73 0 n x (((xs.map no3).set kk { y with Status := 3 }).set kk { y with Status := 3, Call := c }) (by omega) (by omega) (by have h := Rd.rows (f := TMsg.c) (g := g73) (E := 44) (sz := 25) (cap := cap73) (l := ((xs.map no3).set kk { y with Status := 3 }).set kk { y with Status := 3, Call := c }) TMsg.len (by omega); rw [hml3] at h ⊢; exact h)
            rw [hch, hml3] at h
            exact h
          apply Wp.seq
          apply Wp.region
          refine WpL.v (V.cmp) ?_
          apply WpL.nil
          apply Out.seqN
          apply Wp.seq
          refine Wp.c (fun ha60 => ?_) (fun ha60 => ?_)
          (try simp only [decide_eq_true_eq, decide_eq_false_iff_not, Bool.not_eq_true', Bool.not_eq_false', Bool.not_eq_true, Bool.not_eq_false, not_true_eq_false, not_false_eq_true, reduceCtorEq] at ha60)
          (exfalso; omega)
          (try simp only [decide_eq_true_eq, decide_eq_false_iff_not, Bool.not_eq_true', Bool.not_eq_false', Bool.not_eq_true, Bool.not_eq_false, not_true_eq_false, not_false_eq_true, reduceCtorEq] at ha60)
          apply Wp.exit
          apply Out.seqE
          apply Out.seqE
          apply Out.blockE
          apply Out.seqN
          apply Wp.seq
          apply Wp.region
          refine WpL.v (V.mv) ?_
          refine WpL.v (V.cvE tb rfl rfl hu) ?_
          refine WpL.v (V.mv) ?_
          refine WpL.v (V.lenL tb) ?_
          refine WpL.v (V.cvE tb rfl rfl hL) ?_
          refine WpL.v (V.rem) ?_
          refine WpL.v (V.cvE tb rfl rfl hK2) ?_
          refine WpL.v (V.as) ?_
          apply WpL.nil
          apply Out.seqN
          apply Wp.seq
          apply Wp.region
          refine WpL.v (V.mv) ?_
          refine WpL.v (V.mv) ?_
          refine WpL.v (V.ixk tb rfl rfl) ?_
          refine WpL.v (V.fa tb) ?_
          refine WpL.o (O.stRowF1 tb (o := 9) rfl rfl rfl hy inferInstance (by (repeat first | exact Upd.here _ _ _ | apply Upd.there)) hml TMsg.len rfl ?_)
          apply WpL.nil
          apply Out.seqN
          apply Wp.seq
          apply Wp.region
          refine WpL.v (V.mv) ?_
          refine WpL.v (V.mv) ?_
          refine WpL.v (V.ldA tb) ?_
          refine WpL.v (V.ixk tb rfl rfl) ?_
          refine WpL.v (V.fa tb) ?_
          refine WpL.o (O.stRowFA tb (o := 11) rfl rfl hy3 inferInstance rfl (TCall.ones c) (by (repeat first | exact Upd.here _ _ _ | apply Upd.there)) hml2 TMsg.len rfl ?_)
          apply WpL.nil
          apply Out.seqN
          apply Wp.seq
          apply Wp.region
          refine WpL.v (V.mv) ?_
          refine WpL.v (V.ldA tb) ?_
          refine WpL.v (V.mv) ?_
          refine WpL.o (Op1.callT rfl (hC2) (by (repeat (first | exact Sel.nil | exact Rem.here | apply Sel.cons | apply Rem.there))) ?_)
          rintro v1 s2 ⟨rfl, rfl⟩
          refine incat ?_
          refine WpL.v (V.mv) ?_
          refine WpL.v (V.ex) ?_
          refine WpL.v (V.ex) ?_
          refine WpL.v (V.as) ?_
          refine WpL.o (O.stA tb ?_)
          apply WpL.nil
          apply Out.seqN
          apply Wp.seq
          apply Wp.region
          refine WpL.v (V.mv) ?_
          refine WpL.v (V.cmp) ?_
          refine WpL.v (V.mv) ?_
          refine WpL.v (V.ldA tb) ?_
          refine WpL.v (V.ldA tb) ?_
          refine WpL.v (V.eq (TCall.eqT _ _ _)) ?_
          refine WpL.v (V.pT) ?_
          refine WpL.v (V.as) ?_
          apply WpL.nil
          apply Out.seqN
          apply Wp.ret
          refine Out.f1 rfl ResIs.t ⟨?_, rfl⟩
          simp
  · by_cases hn : n = 3 ∨ n = 5 ∨ n = 7
    · have hS : Fun Try.prog 24 [I n] (B true) := by
        have h := r16_size n
        rwa [show (decide (n = 3) || (decide (n = 5) || decide (n = 7))) = true by simp; exact hn] at h
      refine Ct.enter Try.func7 rfl rfl fun W => ?_
      apply Wp.seq
      apply Wp.region
      refine WpL.o (O.bxA (fun p6 => ?_))
      refine WpL.o (O.bxA (fun p9 => ?_))
      refine WpL.v (V.as) ?_
      apply WpL.nil
      apply Out.seqN
      apply Wp.seq
      apply Wp.seq
      apply Wp.region
      refine WpL.o (Op1.fn rfl (alive16) ?_)
      refine WpL.v (V.not) ?_
      apply WpL.nil
      apply Out.seqN
      refine Wp.cF ?_
      apply Wp.skip
      apply Out.seqN
      apply Wp.seq
      apply Wp.region
      refine WpL.v (V.mv) ?_
      refine WpL.o (Op1.fn rfl (hF) ?_)
      refine WpL.v (V.as) ?_
      apply WpL.nil
      apply Out.seqN
      apply Wp.seq
      apply Wp.seq
      apply Wp.region
      refine WpL.v (V.mv) ?_
      refine WpL.o (Op1.fn rfl (hS) ?_)
      refine WpL.v (V.not) ?_
      refine WpL.v (V.mv) ?_
      refine WpL.v (V.mv) ?_
      refine WpL.v (V.lenL tb) ?_
      refine WpL.v (V.cmp) ?_
      refine WpL.v (V.pF) ?_
      apply WpL.nil
      apply Out.seqN
      refine Wp.c (fun hb0 => ?_) (fun hb0 => ?_)
      (try simp only [decide_eq_true_eq, decide_eq_false_iff_not, Bool.not_eq_true', Bool.not_eq_false', Bool.not_eq_true, Bool.not_eq_false, not_true_eq_false, not_false_eq_true, reduceCtorEq] at hb0)
      apply Wp.seq
      apply Wp.region
      refine WpL.v (V.as) ?_
      apply WpL.nil
      apply Out.seqN
      apply Wp.ret
      apply Out.seqR
      refine Out.f1 rfl ResIs.t ⟨?_, rfl⟩
      exact rfl
      (try simp only [decide_eq_true_eq, decide_eq_false_iff_not, Bool.not_eq_true', Bool.not_eq_false', Bool.not_eq_true, Bool.not_eq_false, not_true_eq_false, not_false_eq_true, reduceCtorEq] at hb0)
      (exfalso; omega)
    · have hS : Fun Try.prog 24 [I n] (B false) := by
        have h := r16_size n
        rwa [show (decide (n = 3) || (decide (n = 5) || decide (n = 7))) = false by simp; omega] at h
      refine Ct.enter Try.func7 rfl rfl fun W => ?_
      apply Wp.seq
      apply Wp.region
      refine WpL.o (O.bxA (fun p6 => ?_))
      refine WpL.o (O.bxA (fun p9 => ?_))
      refine WpL.v (V.as) ?_
      apply WpL.nil
      apply Out.seqN
      apply Wp.seq
      apply Wp.seq
      apply Wp.region
      refine WpL.o (Op1.fn rfl (alive16) ?_)
      refine WpL.v (V.not) ?_
      apply WpL.nil
      apply Out.seqN
      refine Wp.cF ?_
      apply Wp.skip
      apply Out.seqN
      apply Wp.seq
      apply Wp.region
      refine WpL.v (V.mv) ?_
      refine WpL.o (Op1.fn rfl (hF) ?_)
      refine WpL.v (V.as) ?_
      apply WpL.nil
      apply Out.seqN
      apply Wp.seq
      apply Wp.seq
      apply Wp.region
      refine WpL.v (V.mv) ?_
      refine WpL.o (Op1.fn rfl (hS) ?_)
      refine WpL.v (V.not) ?_
      refine WpL.v (V.mv) ?_
      refine WpL.sk ?_
      refine WpL.sk ?_
      refine WpL.sk ?_
      refine WpL.v (V.pT) ?_
      apply WpL.nil
      apply Out.seqN
      refine Wp.cT ?_
      apply Wp.seq
      apply Wp.region
      refine WpL.v (V.as) ?_
      apply WpL.nil
      apply Out.seqN
      apply Wp.ret
      apply Out.seqR
      refine Out.f1 rfl ResIs.t ⟨?_, rfl⟩
      exact rfl
open Go Go.ChangeShapes Go.WideShapes Go.ChangeAt Go.RowKit
theorem rescueNone_read : (Try.f7.params.toList.all fun t => Try.prog.readableRec t && decide (t < Try.prog.types.size)) = true := by kernel_rfl
theorem rescueNone_lifted (os : Go.Os) (started : os.Started) (H : Type) (enc : Go.TypeId × Go.Value → H) :
    ReturnsInHanded {} Try.checked os 7 .any (Rows.rescueNoneSpec.pre6 enc Try.prog Try.f7 Rows.rescueNoneRow.domain false) (Rows.rescueNoneSpec.post enc Try.prog Try.f7 false true false false) := by
  refine returnsInHanded_of_change_sized (C := Try.checked) own started (by kernel_rfl) Try.func7
    (ChangeSpec.witness6 (enc := enc) (C := Try.checked) false ⟨#[], #[I 0, A TItem.z.c, .slice none 0 0, I 0, A TCall.z.c], []⟩ 8 (by kernel_rfl) (by kernel_rfl) (by kernel_rfl) (by kernel_rfl)) ?_
  intro W base args ds gs before hval0 hW hcnd hsz0 _
  have hsz : (DataW.weightsEach Try.prog (Try.f7.params.toList ++ Rows.rescueNoneSpec.plain.varTypes Try.prog) (ds ++ gs)).all (· ≤ reachBytes) = true := hsz0
  have hval : ∀ (j : Nat) t v, Try.f7.params[j]? = some t → args[j]? = some v → Value.okWide Try.prog W .any base t v := hval0
  have hW' := hW
  obtain ⟨p, q, hA0, hV, rfl, hfz, hnd⟩ := hW
  have hA1 : DataW.TrodAll enc Try.prog W 0 (fun _ => true) true Try.f7.params.toList args.toList ds p := hA0
  have hA := hA1
  rw [Try.params7] at hA hval hsz
  obtain ⟨v0, vs0, d0, ds0, p0, q0, hargs, rfl, rfl, h0, r0⟩ := trodAll_cons hA
  obtain ⟨v1, vs1, d1, ds1, p1, q1, rfl, rfl, rfl, h1, r1⟩ := trodAll_cons r0
  obtain ⟨v2, vs2, d2, ds2, p2, q2, rfl, rfl, rfl, h2, r2⟩ := trodAll_cons r1
  obtain ⟨v3, vs3, d3, ds3, p3, q3, rfl, rfl, rfl, h3, r3⟩ := trodAll_cons r2
  obtain ⟨v4, vs4, d4, ds4, p4, q4, rfl, rfl, rfl, h4, r4⟩ := trodAll_cons r3
  obtain ⟨rfl, rfl, rfl⟩ := trodAll_nil r4
  obtain rfl : args = #[v0, v1, v2, v3, v4] := by cases args; simp_all
  obtain ⟨rfl, rfl⟩ := trodVars_none hV
  obtain ⟨x0, rfl, rfl, rfl, w0⟩ := open_int Try.underlying3 (hval 0 3 v0 rfl rfl) h0
  obtain ⟨c1, rfl, f1⟩ := open_plain TItem.leaves ⟨_, Try.underlying23⟩ (hval 1 23 v1 rfl rfl) h1 (sizedAll hsz 1 rfl rfl)
  obtain ⟨x1, rfl, w1⟩ := TItem.fit f1
  obtain ⟨ao2, b2, off2, len2, cap2, xs2, rfl, hl2, hlc2, hcm2, ha2, hs2, hf2, hby2⟩ := open_slice_plain Try.underlying24 TMsg.leaves (by kernel_rfl) (by decide) (hval 2 24 v2 rfl rfl) h2 (sizedAll hsz 2 rfl rfl)
  obtain ⟨x2, rfl, w2⟩ := fits_map TMsg.c TMsg.wf hf2 TMsg.fit
  obtain rfl : len2 = x2.length := by simpa using hl2.symm
  obtain ⟨x3, rfl, rfl, rfl, w3⟩ := open_int Try.underlying3 (hval 3 3 v3 rfl rfl) h3
  obtain ⟨c4, rfl, f4⟩ := open_plain TCall.leaves ⟨_, Try.underlying33⟩ (hval 4 33 v4 rfl rfl) h4 (sizedAll hsz 4 rfl rfl)
  obtain ⟨x4, rfl, w4⟩ := TCall.fit f4
  simp only [List.append_nil] at hW' hA1
  have hbl : ∀ p : Nat × Nat, p ∈ [(x2.length, b2)] → 0 < p.1 → p.2 < W.heap.size := by
    intro p hp h0
    simp only [List.mem_cons, List.mem_nil_iff, or_false] at hp
    rcases hp with rfl
    · exact (ha2 h0).2
  have hR2 : Rd (snap W (blocksOf [(x2.length, b2)])) ao2 x2.length b2 off2 25 (x2.map TMsg.c) := Rd.snap (by simp) (Nat.le_trans hlc2 hcm2) ha2 hs2 (fun h => blocksOf_mem (len := x2.length) (by simp) h)
  refine (Ct.runSnap (blocksOf_nodup _) (blocksOf_lt hbl) (rescueNone_walk _ _ _ _ _ x0 x1 x2 x3 x4 (In.i64 w0).2 hR2)).mono fun e W' hh => ?_
  obtain ⟨rfl, hS⟩ := hh
  exact ⟨_, rfl, post_law (P := Try.prog) (f := Try.f7) (tbool := 4) hW' hA1 rfl rfl hS laid rescueNone_read rfl Try.underlying4⟩
theorem rescueNone_joined : joinedFacts Try.prog 7 Try.f7 Rows.rescueNoneSpec Rows.rescueNoneRow = true := by
  unfold joinedFacts
  rewrite [head_enter, head_lift, head_make]
  kernel_rfl
theorem rescueNone_over : Rows.rescueNoneRow.holds Try.pinned (OpenSpec.ofChange Rows.rescueNoneSpec) :=
  OpenClaim.holds_of_wide 7 Try.f7 rfl rfl rfl rfl rfl rfl rfl ⟨rfl, rfl, rfl, rfl, rfl⟩ rfl rfl rfl rfl rfl (by kernel_rfl) Try.func7 rescueNone_joined
    (of_decide_eq_true (by kernel_rfl)) (by unfold Func.isWrapper; first | (rw [if_pos (by decide +kernel)]; kernel_rfl) | (rw [if_neg (by decide +kernel)]; exact ⟨rfl, rfl⟩))
    (fun os started H enc _ => rescueNone_lifted os started H enc)
/-- THE STATEMENT. -/
theorem rescueNone_proved : Rows.RescueNoneSaid := rescueNone_over
#print axioms rescueNone_proved

end Go.Proofs.Ythoepbbpmdmfeaa
