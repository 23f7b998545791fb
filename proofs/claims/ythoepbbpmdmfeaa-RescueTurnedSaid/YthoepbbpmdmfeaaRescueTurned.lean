/-
  The statement RescueTurned of layer 16: in whatever order promises come it goes on the same way, with the same deed. Proved for every input.
-/
import Derived.Test.YthoepbbpmdmfeaaHead
import Derived.Test.YthoepbbpmdmfeaaRef
import Derived.Test.YthoepbbpmdmfeaaHeapF
namespace Go.Proofs.Ythoepbbpmdmfeaa
open Go.HL
set_option linter.unusedSimpArgs false
set_option linter.unusedVariables false
set_option maxRecDepth 8000
def Tame (xs : List TMsg) : Prop := ∀ a ∈ xs, ∀ b ∈ xs, a.Vote = b.Vote → a.Call.Deed = b.Call.Deed
theorem hi_mem {st : Int} {xs : List TMsg} {a : TMsg} (h : hi st xs = some a) : a ∈ xs ∧ a.Status = st ∧ ∀ o ∈ xs, o.Status = st → bLt a.Vote o.Vote = false := by
  have h1 := hi_spec st xs
  rw [h] at h1
  obtain ⟨i, h2, h3, h4⟩ := h1
  refine ⟨List.mem_of_getElem? h2, h3, fun o ho hs => ?_⟩
  obtain ⟨k, hk⟩ := List.mem_iff_getElem?.1 ho
  exact (h4 k o hk hs).1
theorem hi_non {st : Int} {xs : List TMsg} (h : hi st xs = none) : ∀ o ∈ xs, o.Status ≠ st := by
  have h1 := hi_spec st xs
  rw [h] at h1
  exact h1
inductive Alike : Option TMsg → Option TMsg → Prop
  | none : Alike none none
  | some {a b : TMsg} (h : a.Vote = b.Vote) (h2 : a.Call.Deed = b.Call.Deed) : Alike (some a) (some b)
theorem hi_alike {xs ys : List TMsg} (hp : xs.Perm ys) (ht : Tame xs) (st : Int) : Alike (hi st xs) (hi st ys) := by
  cases h1 : hi st xs with
  | none =>
    cases h2 : hi st ys with
    | none => exact .none
    | some b => exact absurd (hi_mem h2).2.1 (hi_non h1 b (hp.mem_iff.2 (hi_mem h2).1))
  | some a =>
    cases h2 : hi st ys with
    | none => exact absurd (hi_mem h1).2.1 (hi_non h2 a (hp.mem_iff.1 (hi_mem h1).1))
    | some b =>
      obtain ⟨a1, a2, a3⟩ := hi_mem h1
      obtain ⟨b1, b2, b3⟩ := hi_mem h2
      have hv : a.Vote = b.Vote := bLt_total (a3 b (hp.mem_iff.2 b1) b2) (b3 a (hp.mem_iff.1 a1) a2)
      exact .some hv (ht a a1 b (hp.mem_iff.2 b1) hv)
theorem accd_alike {xs ys : List TMsg} (hp : xs.Perm ys) (ht : Tame xs) : Alike (accd xs) (accd ys) := by
  unfold accd
  have h2 := hi_alike hp ht 2
  have h1 := hi_alike hp ht 1
  revert h2 h1
  generalize hi 2 xs = p2; generalize hi 2 ys = q2; generalize hi 1 xs = p1; generalize hi 1 ys = q1
  intro h2 h1
  cases h2 with
  | none => exact .none
  | some v2 d2 =>
    cases h1 with
    | none => exact .some v2 d2
    | some v1 d1 =>
      dsimp only
      rw [v2, v1]
      split
      · exact .none
      · exact .some v2 d2
theorem sameL_perm {xs ys : List TMsg} (hp : xs.Perm ys) (x : TItem) : (sameL x xs).Perm (sameL x ys) := by
  unfold sameL
  have : xs.any (fun m => decide (m.From = x.Rep)) = ys.any (fun m => decide (m.From = x.Rep)) := by
    rw [Bool.eq_iff_iff, List.any_eq_true, List.any_eq_true]
    exact ⟨fun ⟨a, h, h2⟩ => ⟨a, hp.mem_iff.1 h, h2⟩, fun ⟨a, h, h2⟩ => ⟨a, hp.mem_iff.2 h, h2⟩⟩
  rw [this]
  split
  · exact .refl _
  · exact hp.filter _
theorem sameL_mem {x : TItem} {xs : List TMsg} {m : TMsg} (h : m ∈ sameL x xs) : m ∈ xs ∧ m.Vote = ⟨0, x.Rep⟩ := by
  unfold sameL at h
  split at h
  · cases h
  · have := List.mem_filter.1 h
    refine ⟨this.1, ?_⟩
    have h2 := this.2
    unfold sameP at h2
    simp only [Bool.and_eq_true, decide_eq_true_eq] at h2
    exact h2.2.2
theorem asks_deed (c : TCall) (xs : List TMsg) : (asks c xs).Deed = c.Deed := by
  induction xs generalizing c with
  | nil => rfl
  | cons p xs ih =>
    show (asks (if p.Status = 1 then mrg c p.Call else c) xs).Deed = c.Deed
    rw [ih]
    split
    · rfl
    · rfl
theorem choose_alike {xs ys : List TMsg} (hp : xs.Perm ys) (ht : Tame xs) (n : Int) (x : TItem) : (choose n x xs).1 = (choose n x ys).1 ∧ (choose n x xs).2.Deed = (choose n x ys).2.Deed := by
  unfold choose
  rw [hp.length_eq]
  by_cases hl : (ys.length : Int) < faults n + 1
  · rw [if_pos hl, if_pos hl]; exact ⟨rfl, rfl⟩
  rw [if_neg hl, if_neg hl]
  have h3 := hi_alike hp ht 3
  have h1 := hi_alike hp ht 1
  have h2 := accd_alike hp ht
  have hs := sameL_perm hp x
  have hd : ∀ a b, a ∈ sameL x xs → b ∈ sameL x ys → a.Call.Deed = b.Call.Deed := fun a b ha hb => by
    obtain ⟨a1, a2⟩ := sameL_mem ha
    obtain ⟨b1, b2⟩ := sameL_mem hb
    exact ht a a1 b (hp.mem_iff.2 b1) (a2.trans b2.symm)
  revert h1 h2 h3 hs hd
  generalize hi 3 xs = p3; generalize hi 3 ys = q3; generalize hi 1 xs = p1; generalize hi 1 ys = q1; generalize accd xs = p2; generalize accd ys = q2; generalize sameL x xs = s1; generalize sameL x ys = s2
  intro h3 h1 h2 hs hd
  cases h3 with
  | some v d => exact ⟨rfl, d⟩
  | none =>
    cases h2 with
    | some v d => exact ⟨rfl, d⟩
    | none =>
      have hend : (match p1 with | none => ((2, TCall.z) : Int × TCall) | some a => (3, asks a.Call xs)).1 = (match q1 with | none => ((2, TCall.z) : Int × TCall) | some a => (3, asks a.Call ys)).1 ∧ (match p1 with | none => ((2, TCall.z) : Int × TCall) | some a => (3, asks a.Call xs)).2.Deed = (match q1 with | none => ((2, TCall.z) : Int × TCall) | some a => (3, asks a.Call ys)).2.Deed := by
        cases h1 with
        | none => exact ⟨rfl, rfl⟩
        | some v d => exact ⟨rfl, by rw [asks_deed, asks_deed]; exact d⟩
      cases s1 with
      | nil =>
        obtain rfl := hs.nil_eq
        exact hend
      | cons m t =>
        cases s2 with
        | nil => exact absurd hs.length_eq (by simp)
        | cons m2 t2 =>
          have hl2 := hs.length_eq
          simp only [List.length_cons] at hl2
          have : t.length = t2.length := by omega
          dsimp only
          rw [this]
          split
          · exact ⟨rfl, hd m m2 (by simp) (by simp)⟩
          · exact hend
theorem turn_perm (xs : List TMsg) (k : Nat) : xs.Perm (xs.drop k ++ xs.take k) := by
  have h : (xs.take k ++ xs.drop k).Perm (xs.drop k ++ xs.take k) := List.perm_append_comm
  rwa [List.take_append_drop] at h
theorem Rd.suffix {e : Ent} {ao : Option Go.Addr} {len b off sz i cap : Nat} {xs : List (List Go.Value)} (h : Rd e ao len b off sz xs) (hi : i ≤ len) (hc : len ≤ cap) : Rd e (Go.HL.partAt ao cap i sz) (len - i) b (off + i * sz) sz (xs.drop i) := by
  refine ⟨by rw [List.length_drop, h.length], Nat.le_trans (Nat.sub_le _ _) h.small, fun hp => ?_, fun w hw j x hx => ?_⟩
  · rw [h.addr (by omega)]
    unfold Go.HL.partAt
    rw [if_neg (by omega)]
    simp [Go.Addr.add_mid]
  · rw [List.getElem?_drop] at hx
    obtain ⟨h1, h2⟩ := h.reads w hw (i + j) x hx
    refine ⟨h1, fun k u hu => ?_⟩
    have := h2 k u hu
    rw [Nat.add_mul] at this
    rwa [show off + i * sz + j * sz + k = off + (i * sz + j * sz) + k by omega]
theorem Rd.prefix {e : Ent} {ao : Option Go.Addr} {len b off sz j : Nat} {xs : List (List Go.Value)} (h : Rd e ao len b off sz xs) (hj : j ≤ len) : Rd e ao j b off sz (xs.take j) := by
  refine ⟨by rw [List.length_take, h.length]; omega, Nat.le_trans hj h.small, fun hp => h.addr (by omega), fun w hw k x hx => ?_⟩
  rw [List.getElem?_take] at hx
  split at hx
  · exact h.reads w hw k x hx
  · cases hx
theorem rowsRd {α : Type} {f : α → List Go.Value} {W : Go.World} {D : List Nat} {σ : List Ent} {v : Go.Value} {E sz : Nat} {l : List α} (hz : ∀ x, (f x).length = sz) (hm : rows f v E sz l ∈ σ) :
    ∀ w, H W D σ w → ∃ ao cap b, v = .slice ao l.length cap ∧ Rd (rows f (.slice ao l.length cap) E sz l) ao l.length b 0 sz (l.map f) := fun w hw => by
  rcases rowsForm hm w hw with ⟨rfl, rfl⟩ | ⟨g, cap, rfl, h1, h2⟩
  · exact ⟨none, 0, 0, rfl, Rd.nil⟩
  · exact ⟨some ⟨g, 0, none⟩, cap, g, rfl, Rd.rows hz (by simp only [Go.maxLen] at h2; omega)⟩
theorem Ct.known {P : Go.Program} {f : Go.FuncId} {args : List Go.Value} {σ : List Ent} {R : Go.Value → List Ent → Prop} {p : Prop} (hp : ∀ w, H w (doms σ) σ w → p) (h : p → Ct P f args σ R) : Ct P f args σ R :=
  Ct.of fun w h0 => (h (hp w h0.start)).get w h0
theorem choose_rows (n : Int) (x : TItem) (L : List TMsg) (v : Go.Value) (hn : 3 ≤ n ∧ n ≤ 1000000) (hx : L.length ≤ 1000) :
    Ct Try.prog 25 [I n, A x.c, v] [rows TMsg.c v 44 25 L] (fun r σ' => r = .tuple #[I (choose n x L).1, A (choose n x L).2.c] ∧ σ' = [rows TMsg.c v 44 25 L]) := by
  refine Ct.known (p := ∃ ao cap b, v = .slice ao L.length cap ∧ Rd (rows TMsg.c (.slice ao L.length cap) 44 25 L) ao L.length b 0 25 (L.map TMsg.c)) (fun w hw => rowsRd (f := TMsg.c) (v := v) (l := L) (E := 44) (sz := 25) (σ := [rows TMsg.c v 44 25 L]) TMsg.len (by exact List.Mem.head _) w hw) fun hv => ?_
  obtain ⟨ao, cap, b, rfl, hR⟩ := hv
  exact rescue_choose _ ao cap b 0 n x L hn hx hR
def Fine (xs : List TMsg) (i : Nat) : Prop := ∀ j a b, j < i → ∀ k, k < j → xs[j]? = some a → xs[k]? = some b → a.Vote = b.Vote → a.Call.Deed = b.Call.Deed
theorem fine_all {xs : List TMsg} (h : Fine xs xs.length) : Tame xs := by
  intro a ha b hb hv
  obtain ⟨j, hj⟩ := List.mem_iff_getElem?.1 ha
  obtain ⟨k, hk⟩ := List.mem_iff_getElem?.1 hb
  have hjl := (List.getElem?_eq_some_iff.1 hj).1
  have hkl := (List.getElem?_eq_some_iff.1 hk).1
  rcases Nat.lt_trichotomy k j with hh | hh | hh
  · exact h j a b hjl k hh hj hk hv
  · subst hh; rw [hj] at hk; rw [Option.some.inj hk]
  · exact (h k b a hkl j hh hk hj hv.symm).symm
theorem fine_step {xs : List TMsg} {y z : TMsg} {k : Nat} (hG : ∀ j b, j < k → xs[j]? = some b → y.Vote = b.Vote → y.Call.Deed = b.Call.Deed) (hz : xs[k]? = some z) (h : y.Vote = z.Vote → y.Call.Deed = z.Call.Deed) : ∀ j b, j < k + 1 → xs[j]? = some b → y.Vote = b.Vote → y.Call.Deed = b.Call.Deed := by
  intro j b hj hb hv
  by_cases hjk : j = k
  · subst hjk; rw [hz] at hb; cases hb; exact h hv
  · exact hG j b (by omega) hb hv
theorem fine_next {xs : List TMsg} {y : TMsg} {k : Nat} (hF : Fine xs k) (hy : xs[k]? = some y) (hG : ∀ j b, j < k → xs[j]? = some b → y.Vote = b.Vote → y.Call.Deed = b.Call.Deed) : Fine xs (k + 1) := by
  intro j a b hj m hm ha hb hv
  by_cases hjk : j = k
  · subst hjk; rw [hy] at ha; cases ha; exact hG m b hm hb hv
  · exact hF j a b (by omega) m hm ha hb hv
theorem rescueTurned_walk (e : Ent) (ao : Option Go.Addr) (cap b off : Nat) (n : Int) (x : TItem) (xs : List TMsg) (at_ : Int) (hcap : xs.length ≤ cap) (hR : Rd e ao xs.length b off 25 (xs.map TMsg.c)) :
    Ct Try.prog 6 [I n, A x.c, .slice ao xs.length cap, I at_] [e] (fun r σ' => r = B true ∧ σ' = [e]) := by
  have hm := hR.small
  simp only [Go.maxLen] at hm
  by_cases hs : (n = 3 ∨ n = 5 ∨ n = 7)
  · have hS : Fun Try.prog 24 [I n] (B true) := by
      have h := r16_size n
      rwa [show (decide (n = 3) || (decide (n = 5) || decide (n = 7))) = true by simp; exact hs] at h
    by_cases hs2 : xs.length ≤ 7 ∧ 0 ≤ at_ ∧ at_ ≤ xs.length
    · obtain ⟨hs1, hs2, hs3⟩ := hs2
      obtain ⟨t, rfl⟩ : ∃ t : Nat, at_ = (t : Int) := ⟨at_.toNat, by omega⟩
      have htl : t ≤ xs.length := by omega
      have hRs := Rd.suffix hR htl hcap
      have hRp := Rd.prefix hR htl
      rw [← List.map_drop] at hRs
      rw [← List.map_take] at hRp
      have hsl : (xs.drop t).length = xs.length - t := List.length_drop
      have hpl : (xs.take t).length = t := by rw [List.length_take]; omega
      rw [← hsl] at hRs
      have hRp : Rd e ao (xs.take t).length b off 25 ((xs.take t).map TMsg.c) := by rw [hpl]; exact hRp
      have hS1 : ∀ σ : List Ent, e ∈ σ → SrcL Try.prog σ TMsg.c 25 24 (.slice (Go.HL.partAt ao cap t 25) (xs.length - t) (cap - t)) (xs.drop t) := fun σ h => by
        have := SrcL.rdz (tx := 24) (cap := cap - t) tb hRs h TMsg.ones TMsg.len
        rwa [hsl] at this
      have hS2 : ∀ σ : List Ent, e ∈ σ → SrcL Try.prog σ TMsg.c 25 24 (.slice ao t cap) (xs.take t) := fun σ h => by
        have := SrcL.rdz (tx := 24) (cap := cap) tb hRp h TMsg.ones TMsg.len
        rwa [hpl] at this
      have hC := rescue_choose e ao cap b off n x xs (by omega) (by omega) hR
      refine Ct.enter Try.func6 rfl rfl fun W => ?_
      apply Wp.seq
      apply Wp.region
      refine WpL.o (O.bxA (fun p5 => ?_))
      refine WpL.v (V.as) ?_
      apply WpL.nil
      apply Out.seqN
      apply Wp.seq
      apply Wp.seq
      apply Wp.region
      refine WpL.o (Op1.fn rfl (alive16) ?_)
      refine WpL.v (V.not) ?_
      apply WpL.nil
      apply Out.seqN
      refine Wp.cF ?_
      apply Wp.skip
      apply Out.seqN
      apply Wp.seq
      apply Wp.seq
      apply Wp.region
      refine WpL.v (V.mv) ?_
      refine WpL.o (Op1.fn rfl (hS) ?_)
      refine WpL.v (V.not) ?_
      refine WpL.v (V.mv) ?_
      refine WpL.v (V.mv) ?_
      refine WpL.v (V.lenL tb) ?_
      refine WpL.v (V.cmp) ?_
      refine WpL.v (V.pF) ?_
      refine WpL.v (V.mv) ?_
      refine WpL.pt (fun ha0 => ?_) (fun ha0 => ?_)
      (try simp only [decide_eq_true_eq, decide_eq_false_iff_not, Bool.not_eq_true', Bool.not_eq_false', Bool.not_eq_true, Bool.not_eq_false, not_true_eq_false, not_false_eq_true, reduceCtorEq] at ha0)
      (exfalso; omega)
      (try simp only [decide_eq_true_eq, decide_eq_false_iff_not, Bool.not_eq_true', Bool.not_eq_false', Bool.not_eq_true, Bool.not_eq_false, not_true_eq_false, not_false_eq_true, reduceCtorEq] at ha0)
      refine WpL.v (V.mv) ?_
      refine WpL.v (V.cmp) ?_
      refine WpL.v (V.pF) ?_
      refine WpL.v (V.mv) ?_
      refine WpL.pt (fun ha1 => ?_) (fun ha1 => ?_)
      (try simp only [decide_eq_true_eq, decide_eq_false_iff_not, Bool.not_eq_true', Bool.not_eq_false', Bool.not_eq_true, Bool.not_eq_false, not_true_eq_false, not_false_eq_true, reduceCtorEq] at ha1)
      (exfalso; omega)
      (try simp only [decide_eq_true_eq, decide_eq_false_iff_not, Bool.not_eq_true', Bool.not_eq_false', Bool.not_eq_true, Bool.not_eq_false, not_true_eq_false, not_false_eq_true, reduceCtorEq] at ha1)
      refine WpL.v (V.mv) ?_
      refine WpL.v (V.mv) ?_
      refine WpL.v (V.lenL tb) ?_
      refine WpL.v (V.cmp) ?_
      refine WpL.v (V.pF) ?_
      apply WpL.nil
      apply Out.seqN
      refine Wp.c (fun ha2 => ?_) (fun ha2 => ?_)
      (try simp only [decide_eq_true_eq, decide_eq_false_iff_not, Bool.not_eq_true', Bool.not_eq_false', Bool.not_eq_true, Bool.not_eq_false, not_true_eq_false, not_false_eq_true, reduceCtorEq] at ha2)
      (exfalso; omega)
      (try simp only [decide_eq_true_eq, decide_eq_false_iff_not, Bool.not_eq_true', Bool.not_eq_false', Bool.not_eq_true, Bool.not_eq_false, not_true_eq_false, not_false_eq_true, reduceCtorEq] at ha2)
      apply Wp.skip
      apply Out.seqN
      apply Wp.seq
      apply Wp.seq
      apply Wp.region
      refine WpL.v (V.mv) ?_
      refine WpL.v (V.lenL tb) ?_
      refine WpL.v (V.mv) ?_
      apply WpL.nil
      apply Out.seqN
      apply Wp.block
      have hF0 : Fine xs 0 := fun j a b hj => absurd hj (by omega)
      refine Wp.lp [37, 5, 0, 2, 3] (fun i : Nat => i ≤ xs.length ∧ Fine xs i) (fun i => [(38, I (i : Int))]) (fun _ => []) (fun i => xs.length - i) 0 ⟨Nat.zero_le _, hF0⟩ ?_
      rintro i ⟨hi, hF⟩ K hK
      dsimp only [List.cons_append, List.nil_append]
      by_cases hlt : i < xs.length
      · obtain ⟨y, hy⟩ := getS hlt
        apply Wp.seq
        apply Wp.region
        refine WpL.v (V.cmp) ?_
        apply WpL.nil
        apply Out.seqN
        apply Wp.seq
        refine Wp.c (fun ha10 => ?_) (fun ha10 => ?_)
        (try simp only [decide_eq_true_eq, decide_eq_false_iff_not, Bool.not_eq_true', Bool.not_eq_false', Bool.not_eq_true, Bool.not_eq_false, not_true_eq_false, not_false_eq_true, reduceCtorEq] at ha10)
        apply Wp.skip
        apply Out.seqN
        apply Wp.seq
        apply Wp.block
        apply Wp.seq
        apply Wp.region
        refine WpL.v (V.mv) ?_
        refine WpL.v (V.as) ?_
        apply WpL.nil
        apply Out.seqN
        apply Wp.seq
        apply Wp.region
        refine WpL.v (V.as) ?_
        apply WpL.nil
        apply Out.seqN
        apply Wp.block
        rotate_left
        (try simp only [decide_eq_true_eq, decide_eq_false_iff_not, Bool.not_eq_true', Bool.not_eq_false', Bool.not_eq_true, Bool.not_eq_false, not_true_eq_false, not_false_eq_true, reduceCtorEq] at ha10)
        (exfalso; omega)
        refine Wp.lp [9, 38, 37, 5, 0, 2, 3] (fun k : Nat => k ≤ i ∧ ∀ j b, j < k → xs[j]? = some b → y.Vote = b.Vote → y.Call.Deed = b.Call.Deed) (fun k => [(10, I (k : Int))]) (fun _ => []) (fun k => i - k) 0 ⟨Nat.zero_le _, fun j b hj => absurd hj (by omega)⟩ ?_
        rintro k ⟨hk, hG⟩ K2 hK2
        dsimp only [List.cons_append, List.nil_append]
        by_cases hlk : k < i
        · obtain ⟨z, hz⟩ := getS (xs := xs) (k := k) (by omega)
          apply Wp.seq
          apply Wp.seq
          apply Wp.region
          refine WpL.v (V.mv) ?_
          refine WpL.v (V.mv) ?_
          refine WpL.v (V.cmp) ?_
          apply WpL.nil
          apply Out.seqN
          refine Wp.c (fun ha30 => ?_) (fun ha30 => ?_)
          (try simp only [decide_eq_true_eq, decide_eq_false_iff_not, Bool.not_eq_true', Bool.not_eq_false', Bool.not_eq_true, Bool.not_eq_false, not_true_eq_false, not_false_eq_true, reduceCtorEq] at ha30)
          apply Wp.skip
          apply Out.seqN
          apply Wp.seq
          apply Wp.block
          apply Wp.seq
          refine Wp.dG [] ?_ (List.Sublist.cons _ (List.Sublist.cons_cons _ List.Sublist.slnil)) (List.Sublist.cons _ (List.Sublist.cons_cons _ List.Sublist.slnil))
          refine WpA.tF 0 rfl (V.mv) ?_
          refine WpA.tF 1 rfl (V.mv) ?_
          refine WpA.tF 2 rfl (V.ixR tb rfl rfl (by assumption)) ?_
          refine WpA.tF 3 rfl (V.fa tb) ?_
          refine WpA.tF 4 rfl (V.rdFA tb (o := 7) rfl hR (getMapS hy)) ?_
          refine WpA.tF 5 rfl (V.mv) ?_
          refine WpA.tF 6 rfl (V.mv) ?_
          refine WpA.tF 7 rfl (V.ixR tb rfl rfl (by assumption)) ?_
          refine WpA.tF 8 rfl (V.fa tb) ?_
          refine WpA.tF 9 rfl (V.rdFA tb (o := 7) rfl hR (getMapS hz)) ?_
          refine WpA.tF 10 rfl (V.eq (TBallot.eqT _ _ _)) ?_
          refine WpA.tF 11 rfl (V.mv) ?_
          refine WpA.pt 57 (fun ha31 => ?_) (fun ha31 => ?_)
          (try simp only [decide_eq_true_eq, decide_eq_false_iff_not, Bool.not_eq_true', Bool.not_eq_false', Bool.not_eq_true, Bool.not_eq_false, not_true_eq_false, not_false_eq_true, reduceCtorEq] at ha31)
          refine WpA.tF 12 rfl (V.mv) ?_
          refine WpA.tF 13 rfl (V.mv) ?_
          refine WpA.tF 14 rfl (V.ixR tb rfl rfl (by assumption)) ?_
          refine WpA.tF 15 rfl (V.fa tb) ?_
          refine WpA.tF 16 rfl (V.fa tb) ?_
          refine WpA.tF 17 rfl (V.rdFA tb (o := 11) rfl hR (getMapS hy)) ?_
          refine WpA.tF 18 rfl (V.mv) ?_
          refine WpA.tF 19 rfl (V.mv) ?_
          refine WpA.tF 20 rfl (V.ixR tb rfl rfl (by assumption)) ?_
          refine WpA.tF 21 rfl (V.fa tb) ?_
          refine WpA.tF 22 rfl (V.fa tb) ?_
          refine WpA.tF 23 rfl (V.rdFA tb (o := 11) rfl hR (getMapS hz)) ?_
          refine WpA.tF 24 rfl (V.ne (TDeed.eqT _ _ _)) ?_
          refine WpA.tF 25 rfl (V.pT) ?_
          refine WpA.ou ?_
          apply Out.seqN
          refine Wp.c (fun ha32 => ?_) (fun ha32 => ?_)
          (try simp only [decide_eq_true_eq, decide_eq_false_iff_not, Bool.not_eq_true', Bool.not_eq_false', Bool.not_eq_true, Bool.not_eq_false, not_true_eq_false, not_false_eq_true, reduceCtorEq] at ha32)
          apply Wp.seq
          apply Wp.region
          refine WpL.v (V.as) ?_
          apply WpL.nil
          apply Out.seqN
          apply Wp.ret
          apply Out.blockR
          apply Out.seqR
          apply Out.seqR
          apply Out.blockR
          apply Out.blockR
          apply Out.seqR
          apply Out.seqR
          apply Out.blockR
          apply Out.seqR
          refine Out.f1 rfl ResIs.t ⟨?_, rfl⟩
          exact rfl
          (try simp only [decide_eq_true_eq, decide_eq_false_iff_not, Bool.not_eq_true', Bool.not_eq_false', Bool.not_eq_true, Bool.not_eq_false, not_true_eq_false, not_false_eq_true, reduceCtorEq] at ha32)
          apply Wp.skip
          apply Out.blockN
          apply Out.seqN
          apply Wp.region
          refine WpL.v (V.mv) ?_
          refine WpL.v (V.add) ?_
          refine WpL.v (V.as) ?_
          apply WpL.nil
          rotate_left
          (try simp only [decide_eq_true_eq, decide_eq_false_iff_not, Bool.not_eq_true', Bool.not_eq_false', Bool.not_eq_true, Bool.not_eq_false, not_true_eq_false, not_false_eq_true, reduceCtorEq] at ha31)
          refine WpA.s 12 rfl ?_
          refine WpA.s 13 rfl ?_
          refine WpA.s 14 rfl ?_
          refine WpA.s 15 rfl ?_
          refine WpA.s 16 rfl ?_
          refine WpA.s 17 rfl ?_
          refine WpA.s 18 rfl ?_
          refine WpA.s 19 rfl ?_
          refine WpA.s 20 rfl ?_
          refine WpA.s 21 rfl ?_
          refine WpA.s 22 rfl ?_
          refine WpA.s 23 rfl ?_
          refine WpA.s 24 rfl ?_
          refine WpA.tF 25 rfl (V.pF) ?_
          refine WpA.ou ?_
          apply Out.seqN
          refine Wp.cF ?_
          apply Wp.skip
          apply Out.blockN
          apply Out.seqN
          apply Wp.region
          refine WpL.v (V.mv) ?_
          refine WpL.v (V.add) ?_
          refine WpL.v (V.as) ?_
          apply WpL.nil
          rotate_left
          (try simp only [decide_eq_true_eq, decide_eq_false_iff_not, Bool.not_eq_true', Bool.not_eq_false', Bool.not_eq_true, Bool.not_eq_false, not_true_eq_false, not_false_eq_true, reduceCtorEq] at ha30)
          (exfalso; omega)
          · exact Out.ag hK2 (k + 1) ⟨by omega, fine_step hG hz fun _ => ha32⟩ (by show i - (k + 1) < i - k; omega)
          · exact Out.ag hK2 (k + 1) ⟨by omega, fine_step hG hz fun h => absurd h ha31⟩ (by show i - (k + 1) < i - k; omega)
        · obtain rfl : k = i := by omega
          apply Wp.seq
          apply Wp.seq
          apply Wp.region
          refine WpL.v (V.mv) ?_
          refine WpL.v (V.mv) ?_
          refine WpL.v (V.cmp) ?_
          apply WpL.nil
          apply Out.seqN
          refine Wp.c (fun ha40 => ?_) (fun ha40 => ?_)
          (try simp only [decide_eq_true_eq, decide_eq_false_iff_not, Bool.not_eq_true', Bool.not_eq_false', Bool.not_eq_true, Bool.not_eq_false, not_true_eq_false, not_false_eq_true, reduceCtorEq] at ha40)
          (exfalso; omega)
          (try simp only [decide_eq_true_eq, decide_eq_false_iff_not, Bool.not_eq_true', Bool.not_eq_false', Bool.not_eq_true, Bool.not_eq_false, not_true_eq_false, not_false_eq_true, reduceCtorEq] at ha40)
          apply Wp.exit
          apply Out.seqE
          apply Out.seqE
          apply Out.blockE
          apply Out.blockN
          apply Out.seqN
          apply Wp.region
          refine WpL.v (V.add) ?_
          refine WpL.v (V.mv) ?_
          apply WpL.nil
          exact Out.ag hK (k + 1) ⟨by omega, fine_next hF hy hG⟩ (by show xs.length - (k + 1) < xs.length - k; omega)
      · obtain rfl : i = xs.length := by omega
        have ht := fine_all hF
        have hA := choose_alike (turn_perm xs t) ht n x
        have hD : ∀ v : Go.Value, Ct Try.prog 25 [I n, A x.c, v] [rows TMsg.c v 44 25 ([] ++ xs.drop t ++ xs.take t)] (fun r σ' => r = .tuple #[I (choose n x xs).1, A (choose n x (xs.drop t ++ xs.take t)).2.c] ∧ σ' = [rows TMsg.c v 44 25 ([] ++ xs.drop t ++ xs.take t)]) := fun v => by
          have h := choose_rows n x (xs.drop t ++ xs.take t) v (by omega) (by simp only [List.length_append, hsl, hpl]; omega)
          rw [← hA.1] at h
          exact h
        have hA2 := hA.2
        apply Wp.seq
        apply Wp.region
        refine WpL.v (V.cmp) ?_
        apply WpL.nil
        apply Out.seqN
        apply Wp.seq
        refine Wp.c (fun ha20 => ?_) (fun ha20 => ?_)
        (try simp only [decide_eq_true_eq, decide_eq_false_iff_not, Bool.not_eq_true', Bool.not_eq_false', Bool.not_eq_true, Bool.not_eq_false, not_true_eq_false, not_false_eq_true, reduceCtorEq] at ha20)
        (exfalso; omega)
        (try simp only [decide_eq_true_eq, decide_eq_false_iff_not, Bool.not_eq_true', Bool.not_eq_false', Bool.not_eq_true, Bool.not_eq_false, not_true_eq_false, not_false_eq_true, reduceCtorEq] at ha20)
        apply Wp.exit
        apply Out.seqE
        apply Out.seqE
        apply Out.blockE
        apply Out.seqN
        apply Wp.seq
        refine Wp.dG [] ?_ (List.Sublist.cons _ (List.Sublist.cons _ List.Sublist.slnil)) (List.Sublist.cons _ (List.Sublist.cons _ List.Sublist.slnil))
        refine WpA.tF 1 rfl (V.mv) ?_
        refine WpA.tF 2 rfl (V.mv) ?_
        refine WpA.tF 3 rfl (V.slFrom tb (i := t) rfl rfl (by omega)) ?_
        refine WpA.tF 5 rfl (V.mv) ?_
        refine WpA.tF 6 rfl (V.mv) ?_
        refine WpA.tF 7 rfl (V.slTo tb (j := t) rfl rfl (by omega)) ?_
        refine WpA.oS 0 rfl (O.litL (E := 44) tb TMsg.c ([] : List TMsg) rfl PartsFrom.nil rfl rfl (fun p73 => ⟨?_, ?_, ?_⟩))
        exact holdT
        exact holdT
        refine WpA.oS 4 rfl (O.apLV (l := []) (m := xs.drop t) tb rfl rfl (by (intro _; repeat first | exact Upd.here _ _ _ | apply Upd.there)) (hS1 _ (by (repeat first | exact List.Mem.head _ | apply List.Mem.tail))) (fun v77 h177 hv77 => ⟨?_, ?_, ?_⟩) (hbb := by simp only [List.length_append, List.length_nil, hsl, hpl]; omega) (h63 := by simp only [List.length_append, List.length_nil, hsl, hpl]; omega))
        exact holdT
        exact holdT
        refine WpA.oS 8 rfl (O.apLV (l := ([] ++ xs.drop t)) (m := xs.take t) tb rfl rfl (by (intro _; repeat first | exact Upd.here _ _ _ | apply Upd.there)) (hS2 _ (by (repeat first | exact List.Mem.head _ | apply List.Mem.tail))) (fun v81 h181 hv81 => ⟨?_, ?_, ?_⟩) (hbb := by simp only [List.length_append, List.length_nil, hsl, hpl]; omega) (h63 := by simp only [List.length_append, List.length_nil, hsl, hpl]; omega))
        exact holdT
        exact holdT
        refine WpA.tF 9 rfl (V.as) ?_
        refine WpA.ou ?_
        apply Out.seqN
        apply Wp.seq
        apply Wp.region
        refine WpL.v (V.mv) ?_
        refine WpL.v (V.ldA tb) ?_
        refine WpL.v (V.mv) ?_
        refine WpL.o (Op1.callT rfl (hC) (by (repeat (first | exact Sel.nil | exact Rem.here | apply Sel.cons | apply Rem.there))) ?_)
        rintro v1 s2 ⟨rfl, rfl⟩
        refine incat ?_
        refine WpL.v (V.mv) ?_
        refine WpL.v (V.ex) ?_
        refine WpL.v (V.ex) ?_
        refine WpL.o (O.al tb (fun p13 => ?_))
        refine WpL.v (V.as) ?_
        refine WpL.o (O.stA tb ?_)
        apply WpL.nil
        apply Out.seqN
        apply Wp.seq
        apply Wp.region
        refine WpL.v (V.mv) ?_
        refine WpL.v (V.ldA tb) ?_
        refine WpL.v (V.mv) ?_
        refine WpL.o (Op1.callT rfl (hD _) (by (repeat (first | exact Sel.nil | exact Rem.here | apply Sel.cons | apply Rem.there))) ?_)
        rintro v3 s4 ⟨rfl, rfl⟩
        refine incat ?_
        refine WpL.v (V.mv) ?_
        refine WpL.v (V.ex) ?_
        refine WpL.v (V.ex) ?_
        refine WpL.o (O.al tb (fun p15 => ?_))
        refine WpL.v (V.as) ?_
        refine WpL.o (O.stA tb ?_)
        apply WpL.nil
        apply Out.seqN
        apply Wp.seq
        apply Wp.region
        refine WpL.v (V.mv) ?_
        refine WpL.v (V.mv) ?_
        refine WpL.v (V.cmp) ?_
        refine WpL.v (V.mv) ?_
        refine WpL.pt (fun ha25 => ?_) (fun ha25 => ?_)
        (try simp only [decide_eq_true_eq, decide_eq_false_iff_not, Bool.not_eq_true', Bool.not_eq_false', Bool.not_eq_true, Bool.not_eq_false, not_true_eq_false, not_false_eq_true, reduceCtorEq] at ha25)
        refine WpL.v (V.fa tb) ?_
        refine WpL.v (V.ldA tb) ?_
        refine WpL.v (V.fa tb) ?_
        refine WpL.v (V.ldA tb) ?_
        refine WpL.v (V.eq (TDeed.eqT _ _ _)) ?_
        refine WpL.v (V.pT) ?_
        refine WpL.v (V.as) ?_
        apply WpL.nil
        apply Out.seqN
        apply Wp.ret
        refine Out.f1 rfl ResIs.t ⟨?_, rfl⟩
        rotate_left
        (try simp only [decide_eq_true_eq, decide_eq_false_iff_not, Bool.not_eq_true', Bool.not_eq_false', Bool.not_eq_true, Bool.not_eq_false, not_true_eq_false, not_false_eq_true, reduceCtorEq] at ha25)
        rw [hA2]; simp
    · refine Ct.enter Try.func6 rfl rfl fun W => ?_
      apply Wp.seq
      apply Wp.region
      refine WpL.o (O.bxA (fun p5 => ?_))
      refine WpL.v (V.as) ?_
      apply WpL.nil
      apply Out.seqN
      apply Wp.seq
      apply Wp.seq
      apply Wp.region
      refine WpL.o (Op1.fn rfl (alive16) ?_)
      refine WpL.v (V.not) ?_
      apply WpL.nil
      apply Out.seqN
      refine Wp.cF ?_
      apply Wp.skip
      apply Out.seqN
      apply Wp.seq
      apply Wp.seq
      apply Wp.region
      refine WpL.v (V.mv) ?_
      refine WpL.o (Op1.fn rfl (hS) ?_)
      refine WpL.v (V.not) ?_
      refine WpL.v (V.mv) ?_
      refine WpL.v (V.mv) ?_
      refine WpL.v (V.lenL tb) ?_
      refine WpL.v (V.cmp) ?_
      refine WpL.v (V.pF) ?_
      refine WpL.v (V.mv) ?_
      refine WpL.pt (fun hb0 => ?_) (fun hb0 => ?_)
      (try simp only [decide_eq_true_eq, decide_eq_false_iff_not, Bool.not_eq_true', Bool.not_eq_false', Bool.not_eq_true, Bool.not_eq_false, not_true_eq_false, not_false_eq_true, reduceCtorEq] at hb0)
      refine WpL.sk ?_
      refine WpL.sk ?_
      refine WpL.v (V.pT) ?_
      refine WpL.v (V.mv) ?_
      refine WpL.sk ?_
      refine WpL.sk ?_
      refine WpL.sk ?_
      refine WpL.sk ?_
      refine WpL.v (V.pT) ?_
      apply WpL.nil
      apply Out.seqN
      refine Wp.cT ?_
      apply Wp.seq
      apply Wp.region
      refine WpL.v (V.as) ?_
      apply WpL.nil
      apply Out.seqN
      apply Wp.ret
      apply Out.seqR
      refine Out.f1 rfl ResIs.t ⟨?_, rfl⟩
      exact rfl
      (try simp only [decide_eq_true_eq, decide_eq_false_iff_not, Bool.not_eq_true', Bool.not_eq_false', Bool.not_eq_true, Bool.not_eq_false, not_true_eq_false, not_false_eq_true, reduceCtorEq] at hb0)
      refine WpL.v (V.mv) ?_
      refine WpL.v (V.cmp) ?_
      refine WpL.v (V.pF) ?_
      refine WpL.v (V.mv) ?_
      refine WpL.pt (fun hb1 => ?_) (fun hb1 => ?_)
      (try simp only [decide_eq_true_eq, decide_eq_false_iff_not, Bool.not_eq_true', Bool.not_eq_false', Bool.not_eq_true, Bool.not_eq_false, not_true_eq_false, not_false_eq_true, reduceCtorEq] at hb1)
      refine WpL.sk ?_
      refine WpL.sk ?_
      refine WpL.sk ?_
      refine WpL.sk ?_
      refine WpL.v (V.pT) ?_
      apply WpL.nil
      apply Out.seqN
      refine Wp.cT ?_
      apply Wp.seq
      apply Wp.region
      refine WpL.v (V.as) ?_
      apply WpL.nil
      apply Out.seqN
      apply Wp.ret
      apply Out.seqR
      refine Out.f1 rfl ResIs.t ⟨?_, rfl⟩
      exact rfl
      (try simp only [decide_eq_true_eq, decide_eq_false_iff_not, Bool.not_eq_true', Bool.not_eq_false', Bool.not_eq_true, Bool.not_eq_false, not_true_eq_false, not_false_eq_true, reduceCtorEq] at hb1)
      refine WpL.v (V.mv) ?_
      refine WpL.v (V.mv) ?_
      refine WpL.v (V.lenL tb) ?_
      refine WpL.v (V.cmp) ?_
      refine WpL.v (V.pF) ?_
      apply WpL.nil
      apply Out.seqN
      refine Wp.c (fun hb2 => ?_) (fun hb2 => ?_)
      (try simp only [decide_eq_true_eq, decide_eq_false_iff_not, Bool.not_eq_true', Bool.not_eq_false', Bool.not_eq_true, Bool.not_eq_false, not_true_eq_false, not_false_eq_true, reduceCtorEq] at hb2)
      apply Wp.seq
      apply Wp.region
      refine WpL.v (V.as) ?_
      apply WpL.nil
      apply Out.seqN
      apply Wp.ret
      apply Out.seqR
      refine Out.f1 rfl ResIs.t ⟨?_, rfl⟩
      exact rfl
      (try simp only [decide_eq_true_eq, decide_eq_false_iff_not, Bool.not_eq_true', Bool.not_eq_false', Bool.not_eq_true, Bool.not_eq_false, not_true_eq_false, not_false_eq_true, reduceCtorEq] at hb2)
      (exfalso; omega)
  · have hS : Fun Try.prog 24 [I n] (B false) := by
      have h := r16_size n
      rwa [show (decide (n = 3) || (decide (n = 5) || decide (n = 7))) = false by simp; omega] at h
    refine Ct.enter Try.func6 rfl rfl fun W => ?_
    apply Wp.seq
    apply Wp.region
    refine WpL.o (O.bxA (fun p5 => ?_))
    refine WpL.v (V.as) ?_
    apply WpL.nil
    apply Out.seqN
    apply Wp.seq
    apply Wp.seq
    apply Wp.region
    refine WpL.o (Op1.fn rfl (alive16) ?_)
    refine WpL.v (V.not) ?_
    apply WpL.nil
    apply Out.seqN
    refine Wp.cF ?_
    apply Wp.skip
    apply Out.seqN
    apply Wp.seq
    apply Wp.seq
    apply Wp.region
    refine WpL.v (V.mv) ?_
    refine WpL.o (Op1.fn rfl (hS) ?_)
    refine WpL.v (V.not) ?_
    refine WpL.v (V.mv) ?_
    refine WpL.sk ?_
    refine WpL.sk ?_
    refine WpL.sk ?_
    refine WpL.v (V.pT) ?_
    refine WpL.v (V.mv) ?_
    refine WpL.sk ?_
    refine WpL.sk ?_
    refine WpL.v (V.pT) ?_
    refine WpL.v (V.mv) ?_
    refine WpL.sk ?_
    refine WpL.sk ?_
    refine WpL.sk ?_
    refine WpL.sk ?_
    refine WpL.v (V.pT) ?_
    apply WpL.nil
    apply Out.seqN
    refine Wp.cT ?_
    apply Wp.seq
    apply Wp.region
    refine WpL.v (V.as) ?_
    apply WpL.nil
    apply Out.seqN
    apply Wp.ret
    apply Out.seqR
    refine Out.f1 rfl ResIs.t ⟨?_, rfl⟩
    exact rfl
open Go Go.ChangeShapes Go.WideShapes Go.ChangeAt Go.RowKit
theorem rescueTurned_read : (Try.f6.params.toList.all fun t => Try.prog.readableRec t && decide (t < Try.prog.types.size)) = true := by kernel_rfl
theorem rescueTurned_lifted (os : Go.Os) (started : os.Started) (H : Type) (enc : Go.TypeId × Go.Value → H) :
    ReturnsInHanded {} Try.checked os 6 .any (Rows.rescueTurnedSpec.pre6 enc Try.prog Try.f6 Rows.rescueTurnedRow.domain false) (Rows.rescueTurnedSpec.post enc Try.prog Try.f6 false true false false) := by
  refine returnsInHanded_of_change_sized (C := Try.checked) own started (by kernel_rfl) Try.func6
    (ChangeSpec.witness6 (enc := enc) (C := Try.checked) false ⟨#[], #[I 0, A TItem.z.c, .slice none 0 0, I 0], []⟩ 8 (by kernel_rfl) (by kernel_rfl) (by kernel_rfl) (by kernel_rfl)) ?_
  intro W base args ds gs before hval0 hW hcnd hsz0 _
  have hsz : (DataW.weightsEach Try.prog (Try.f6.params.toList ++ Rows.rescueTurnedSpec.plain.varTypes Try.prog) (ds ++ gs)).all (· ≤ reachBytes) = true := hsz0
  have hval : ∀ (j : Nat) t v, Try.f6.params[j]? = some t → args[j]? = some v → Value.okWide Try.prog W .any base t v := hval0
  have hW' := hW
  obtain ⟨p, q, hA0, hV, rfl, hfz, hnd⟩ := hW
  have hA1 : DataW.TrodAll enc Try.prog W 0 (fun _ => true) true Try.f6.params.toList args.toList ds p := hA0
  have hA := hA1
  rw [Try.params6] at hA hval hsz
  obtain ⟨v0, vs0, d0, ds0, p0, q0, hargs, rfl, rfl, h0, r0⟩ := trodAll_cons hA
  obtain ⟨v1, vs1, d1, ds1, p1, q1, rfl, rfl, rfl, h1, r1⟩ := trodAll_cons r0
  obtain ⟨v2, vs2, d2, ds2, p2, q2, rfl, rfl, rfl, h2, r2⟩ := trodAll_cons r1
  obtain ⟨v3, vs3, d3, ds3, p3, q3, rfl, rfl, rfl, h3, r3⟩ := trodAll_cons r2
  obtain ⟨rfl, rfl, rfl⟩ := trodAll_nil r3
  obtain rfl : args = #[v0, v1, v2, v3] := by cases args; simp_all
  obtain ⟨rfl, rfl⟩ := trodVars_none hV
  obtain ⟨x0, rfl, rfl, rfl, w0⟩ := open_int Try.underlying3 (hval 0 3 v0 rfl rfl) h0
  obtain ⟨c1, rfl, f1⟩ := open_plain TItem.leaves ⟨_, Try.underlying23⟩ (hval 1 23 v1 rfl rfl) h1 (sizedAll hsz 1 rfl rfl)
  obtain ⟨x1, rfl, w1⟩ := TItem.fit f1
  obtain ⟨ao2, b2, off2, len2, cap2, xs2, rfl, hl2, hlc2, hcm2, ha2, hs2, hf2, hby2⟩ := open_slice_plain Try.underlying24 TMsg.leaves (by kernel_rfl) (by decide) (hval 2 24 v2 rfl rfl) h2 (sizedAll hsz 2 rfl rfl)
  obtain ⟨x2, rfl, w2⟩ := fits_map TMsg.c TMsg.wf hf2 TMsg.fit
  obtain rfl : len2 = x2.length := by simpa using hl2.symm
  obtain ⟨x3, rfl, rfl, rfl, w3⟩ := open_int Try.underlying3 (hval 3 3 v3 rfl rfl) h3
  simp only [List.append_nil] at hW' hA1
  have hbl : ∀ p : Nat × Nat, p ∈ [(x2.length, b2)] → 0 < p.1 → p.2 < W.heap.size := by
    intro p hp h0
    simp only [List.mem_cons, List.mem_nil_iff, or_false] at hp
    rcases hp with rfl
    · exact (ha2 h0).2
  have hR2 : Rd (snap W (blocksOf [(x2.length, b2)])) ao2 x2.length b2 off2 25 (x2.map TMsg.c) := Rd.snap (by simp) (Nat.le_trans hlc2 hcm2) ha2 hs2 (fun h => blocksOf_mem (len := x2.length) (by simp) h)
  refine (Ct.runSnap (blocksOf_nodup _) (blocksOf_lt hbl) (rescueTurned_walk _ _ _ _ _ x0 x1 x2 x3 hlc2 hR2)).mono fun e W' hh => ?_
  obtain ⟨rfl, hS⟩ := hh
  exact ⟨_, rfl, post_law (P := Try.prog) (f := Try.f6) (tbool := 4) hW' hA1 rfl rfl hS laid rescueTurned_read rfl Try.underlying4⟩
theorem rescueTurned_joined : joinedFacts Try.prog 6 Try.f6 Rows.rescueTurnedSpec Rows.rescueTurnedRow = true := by
  unfold joinedFacts
  rewrite [head_enter, head_lift, head_make]
  kernel_rfl
theorem rescueTurned_over : Rows.rescueTurnedRow.holds Try.pinned (OpenSpec.ofChange Rows.rescueTurnedSpec) :=
  OpenClaim.holds_of_wide 6 Try.f6 rfl rfl rfl rfl rfl rfl rfl ⟨rfl, rfl, rfl, rfl, rfl⟩ rfl rfl rfl rfl rfl (by kernel_rfl) Try.func6 rescueTurned_joined
    (of_decide_eq_true (by kernel_rfl)) (by unfold Func.isWrapper; first | (rw [if_pos (by decide +kernel)]; kernel_rfl) | (rw [if_neg (by decide +kernel)]; exact ⟨rfl, rfl⟩))
    (fun os started H enc _ => rescueTurned_lifted os started H enc)
/-- THE STATEMENT. -/
theorem rescueTurned_proved : Rows.RescueTurnedSaid := rescueTurned_over
#print axioms rescueTurned_proved

end Go.Proofs.Ythoepbbpmdmfeaa
