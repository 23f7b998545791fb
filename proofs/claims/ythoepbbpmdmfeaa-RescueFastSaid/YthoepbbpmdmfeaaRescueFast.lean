/-
  The statement RescueFast of layer 16: what 2 F pre-accepted as it was asked for is chosen by every majority without its leader. Proved for every input.
-/
import Derived.Test.YthoepbbpmdmfeaaHead
import Derived.Test.YthoepbbpmdmfeaaRef
import Derived.Test.YthoepbbpmdmfeaaPick
namespace Go.Proofs.Ythoepbbpmdmfeaa
open Go.HL
set_option linter.unusedSimpArgs false
set_option linter.unusedVariables false
set_option maxRecDepth 8000
def fP (x : TItem) (c : TCall) (i : Nat) : TMsg := { TMsg.z with Kind := 7, From := (i : Int), Item := x, Vote := ⟨0, x.Rep⟩, Status := 1, Same := true, Call := c }
def fM (x : TItem) (c : TCall) (out : Int) (o : TMsg) (i : Nat) : TMsg :=
  if (i : Int) = out then { o with From := (i : Int) } else fP x c i
theorem fM_from (x c out o i) : (fM x c out o i).From = (i : Int) := by unfold fM; split <;> rfl
def fL (x : TItem) (c : TCall) (out : Int) (o : TMsg) (n : Nat) : List TMsg := (List.range n).map (fM x c out o)
theorem fL_snoc (x c out o n) : fL x c out o (n + 1) = fL x c out o n ++ [fM x c out o n] := by simp [fL, List.range_succ]
theorem fL_len (x c out o n) : (fL x c out o n).length = n := by simp [fL]
def nots (r : Int) (l : List TMsg) : List TMsg := l.filter fun m => decide (m.From ≠ r)
theorem nots_snoc (r : Int) (l : List TMsg) (m : TMsg) : nots r (l ++ [m]) = nots r l ++ (if m.From = r then [] else [m]) := by
  unfold nots; rw [List.filter_append]
  by_cases h : m.From = r <;> simp [h]
theorem hi_no {st : Int} {xs : List TMsg} (h : ∀ y ∈ xs, y.Status ≠ st) : hi st xs = none := by
  have h1 := hi_spec st xs
  cases hh : hi st xs with
  | none => rfl
  | some a =>
    rw [hh] at h1
    obtain ⟨i, h2, h3, _⟩ := h1
    exact absurd h3 (h a (List.mem_of_getElem? h2))
theorem fast_law (n : Int) (hn : 3 ≤ n ∧ n ≤ 7) (x : TItem) (c : TCall) (out : Int) (o : TMsg) (ho : 0 ≤ out) (h1 : o.Status ≤ 1) (h2 : o.Same = false) (qs : List Int) (hl : faults n + 1 ≤ ((nots x.Rep (picks (fL x c out o n.toNat) qs).1).length : Int)) :
    choose n x (nots x.Rep (picks (fL x c out o n.toNat) qs).1) = (2, c) := by
  obtain ⟨ids, hp⟩ := picks_ids (fL x c out o n.toNat) qs
  have hP : (picks (fL x c out o n.toNat) qs).1 = ids.map (fM x c out o) := by
    rw [hp.out]
    apply List.map_congr_left
    intro i hi
    have := hp.lt i hi
    rw [fL_len] at this
    simp [fL, List.getElem?_map, List.getElem?_range this]
  have hN : nots x.Rep (ids.map (fM x c out o)) = (ids.filter fun i : Nat => decide ((i : Int) ≠ x.Rep)).map (fM x c out o) := by
    unfold nots
    rw [List.filter_map]
    congr 1
    apply List.filter_congr
    intro i _
    simp only [Function.comp_apply, fM_from]
  rw [hP, hN] at hl ⊢
  rw [List.length_map] at hl
  have hnd : (ids.filter fun i : Nat => decide ((i : Int) ≠ x.Rep)).Nodup := hp.nodup.filter _
  have hne : ∀ i ∈ ids.filter (fun i : Nat => decide ((i : Int) ≠ x.Rep)), (i : Int) ≠ x.Rep := fun i hi => by
    have := (List.mem_filter.1 hi).2
    simpa using this
  generalize ids.filter (fun i : Nat => decide ((i : Int) ≠ x.Rep)) = js at *
  have hst : ∀ y ∈ js.map (fM x c out o), y.Status ≤ 1 := by
    intro y hy
    obtain ⟨i, _, rfl⟩ := List.mem_map.1 hy
    unfold fM; split
    · exact h1
    · exact Int.le_refl 1
  have h3 : hi 3 (js.map (fM x c out o)) = none := hi_no fun y hy he => by have := hst y hy; omega
  have h2' : hi 2 (js.map (fM x c out o)) = none := hi_no fun y hy he => by have := hst y hy; omega
  have hS : sameL x (js.map (fM x c out o)) = (js.erase out.toNat).map (fM x c out o) := by
    unfold sameL
    rw [if_neg (by
      rw [List.any_eq_true]
      rintro ⟨y, hy, hz⟩
      obtain ⟨i, hi, rfl⟩ := List.mem_map.1 hy
      rw [fM_from, decide_eq_true_eq] at hz
      exact hne i hi hz), hnd.erase_eq_filter, List.filter_map]
    congr 1
    apply List.filter_congr
    intro i _
    simp only [Function.comp_apply]
    unfold fM fP sameP
    by_cases hi : (i : Int) = out
    · rw [if_pos hi]
      have : i = out.toNat := by omega
      simp [h2, this]
    · rw [if_neg hi]
      have : i ≠ out.toNat := by omega
      simp [this]
  have hle := List.length_erase (a := out.toNat) (l := js)
  have hlen : faults n ≤ ((js.erase out.toNat).length : Int) := by
    rw [hle]; split <;> omega
  have hf1 : 1 ≤ faults n := by unfold faults; omega
  have hcall : ∀ m ∈ (js.erase out.toNat).map (fM x c out o), m.Call = c := by
    intro m hm
    obtain ⟨i, hi, rfl⟩ := List.mem_map.1 hm
    have := ((hnd.mem_erase_iff).1 hi).1
    unfold fM
    rw [if_neg (by omega)]
    rfl
  unfold choose
  rw [if_neg (by rw [List.length_map]; omega), h3]
  simp only [accd, h2', hS]
  cases he : js.erase out.toNat with
  | nil => rw [he] at hlen; simp at hlen; omega
  | cons a t =>
    rw [he] at hlen hcall
    simp only [List.map_cons]
    rw [if_pos (by simpa using hlen), hcall _ (by simp)]
theorem rowsRd {α : Type} {f : α → List Go.Value} {W : Go.World} {D : List Nat} {σ : List Ent} {v : Go.Value} {E sz : Nat} {l : List α} (hz : ∀ x, (f x).length = sz) (hm : rows f v E sz l ∈ σ) :
    ∀ w, H W D σ w → ∃ ao cap b, v = .slice ao l.length cap ∧ Rd (rows f (.slice ao l.length cap) E sz l) ao l.length b 0 sz (l.map f) := fun w hw => by
  rcases rowsForm hm w hw with ⟨rfl, rfl⟩ | ⟨g, cap, rfl, h1, h2⟩
  · exact ⟨none, 0, 0, rfl, Rd.nil⟩
  · exact ⟨some ⟨g, 0, none⟩, cap, g, rfl, Rd.rows hz (by simp only [Go.maxLen] at h2; omega)⟩
theorem Ct.known {P : Go.Program} {f : Go.FuncId} {args : List Go.Value} {σ : List Ent} {R : Go.Value → List Ent → Prop} {p : Prop} (hp : ∀ w, H w (doms σ) σ w → p) (h : p → Ct P f args σ R) : Ct P f args σ R :=
  Ct.of fun w h0 => (h (hp w h0.start)).get w h0
theorem choose_rows (n : Int) (x : TItem) (L : List TMsg) (v : Go.Value) (hn : 3 ≤ n ∧ n ≤ 1000000) (hx : L.length ≤ 1000) :
    Ct Try.prog 25 [I n, A x.c, v] [rows TMsg.c v 44 25 L] (fun r σ' => r = .tuple #[I (choose n x L).1, A (choose n x L).2.c] ∧ σ' = [rows TMsg.c v 44 25 L]) := by
  refine Ct.known (p := ∃ ao cap b, v = .slice ao L.length cap ∧ Rd (rows TMsg.c (.slice ao L.length cap) 44 25 L) ao L.length b 0 25 (L.map TMsg.c)) (fun w hw => rowsRd (f := TMsg.c) (v := v) (l := L) (E := 44) (sz := 25) (σ := [rows TMsg.c v 44 25 L]) TMsg.len (by exact List.Mem.head _) w hw) fun hv => ?_
  obtain ⟨ao, cap, b, rfl, hR⟩ := hv
  exact rescue_choose _ ao cap b 0 n x L hn hx hR
theorem pick_rd (e e2 : Ent) (ao ao2 : Option Go.Addr) (cap b off cap2 b2 off2 : Nat) (L : List TMsg) (qs : List Int) (hR : Rd e ao L.length b off 25 (L.map TMsg.c)) (hR2 : Rd e2 ao2 qs.length b2 off2 1 (qs.map i64c)) (hL : L.length ≤ 1000) :
    Ct Try.prog 29 [.slice ao L.length cap, .slice ao2 qs.length cap2] [e, e2] (fun r σ' => ∃ ap cp g, Rd (rows TMsg.c (.slice ap (picks L qs).1.length cp) 44 25 (picks L qs).1) ap (picks L qs).1.length g 0 25 ((picks L qs).1.map TMsg.c) ∧ r = .slice ap (picks L qs).1.length cp ∧ σ' = [rows TMsg.c (.slice ap (picks L qs).1.length cp) 44 25 (picks L qs).1, e, e2]) := by
  refine Ct.facts (law16_pick e e2 ao ao2 cap b off cap2 b2 off2 L qs hR hR2 hL) ?_
  rintro v σ' W D w ⟨v', rfl, rfl⟩ hH
  obtain ⟨ap, cp, g, rfl, h⟩ := rowsRd (f := TMsg.c) (v := v) (l := (picks L qs).1) (E := 44) (sz := 25) TMsg.len (by exact List.Mem.head _) w hH
  exact ⟨ap, cp, g, h, rfl, rfl⟩
theorem rescueFast_walk (e : Ent) (ao : Option Go.Addr) (cap b off : Nat) (n : Int) (x : TItem) (c : TCall) (out : Int) (o : TMsg) (qs : List Int) (hR : Rd e ao qs.length b off 1 (qs.map i64c)) (hn0 : n ≤ 9223372036854775807) :
    Ct Try.prog 5 [I n, A x.c, A c.c, I out, A o.c, .slice ao qs.length cap] [e] (fun r σ' => r = B true ∧ σ' = [e]) := by
  have hm := hR.small
  simp only [Go.maxLen] at hm
  have hF := ref_faults n hn0
  by_cases hs : (n = 3 ∨ n = 5 ∨ n = 7)
  · have hS : Fun Try.prog 24 [I n] (B true) := by
      have h := r16_size n
      rwa [show (decide (n = 3) || (decide (n = 5) || decide (n = 7))) = true by simp; exact hs] at h
    by_cases hs2 : 0 ≤ x.Rep ∧ x.Rep < n ∧ 0 ≤ out ∧ out < n ∧ out ≠ x.Rep ∧ o.Status ≤ 1 ∧ o.Same = false
    · obtain ⟨hx1, hx2, ho1, ho2, hox, hst, hsm⟩ := hs2
      refine Ct.enter Try.func5 rfl rfl fun W => ?_
      refine Wp.nilRows TMsg.c 44 25 ?_
      refine Wp.nilRows TMsg.c 44 25 ?_
      obtain ⟨nn, rfl⟩ : ∃ k : Nat, n = (k : Int) := ⟨n.toNat, by omega⟩
      apply Wp.seq
      apply Wp.region
      refine WpL.o (O.bxA (fun p7 => ?_))
      refine WpL.o (O.bxA (fun p8 => ?_))
      refine WpL.o (O.bxA (fun p10 => ?_))
      refine WpL.v (V.as) ?_
      apply WpL.nil
      apply Out.seqN
      apply Wp.seq
      apply Wp.seq
      apply Wp.region
      refine WpL.o (Op1.fn rfl (alive16) ?_)
      refine WpL.v (V.not) ?_
      apply WpL.nil
      apply Out.seqN
      refine Wp.cF ?_
      apply Wp.skip
      apply Out.seqN
      apply Wp.seq
      apply Wp.seq
      apply Wp.region
      refine WpL.v (V.mv) ?_
      refine WpL.o (Op1.fn rfl (hS) ?_)
      refine WpL.v (V.not) ?_
      refine WpL.v (V.mv) ?_
      refine WpL.v (V.fa tb) ?_
      refine WpL.v (V.ld1 tb) ?_
      refine WpL.v (V.cmp) ?_
      refine WpL.v (V.pF) ?_
      refine WpL.v (V.mv) ?_
      refine WpL.pt (fun ha0 => ?_) (fun ha0 => ?_)
      (try simp only [decide_eq_true_eq, decide_eq_false_iff_not, Bool.not_eq_true', Bool.not_eq_false', Bool.not_eq_true, Bool.not_eq_false, not_true_eq_false, not_false_eq_true, reduceCtorEq] at ha0)
      (exfalso; omega)
      (try simp only [decide_eq_true_eq, decide_eq_false_iff_not, Bool.not_eq_true', Bool.not_eq_false', Bool.not_eq_true, Bool.not_eq_false, not_true_eq_false, not_false_eq_true, reduceCtorEq] at ha0)
      refine WpL.v (V.fa tb) ?_
      refine WpL.v (V.ld1 tb) ?_
      refine WpL.v (V.mv) ?_
      refine WpL.v (V.cmp) ?_
      refine WpL.v (V.pF) ?_
      refine WpL.v (V.mv) ?_
      refine WpL.pt (fun ha1 => ?_) (fun ha1 => ?_)
      (try simp only [decide_eq_true_eq, decide_eq_false_iff_not, Bool.not_eq_true', Bool.not_eq_false', Bool.not_eq_true, Bool.not_eq_false, not_true_eq_false, not_false_eq_true, reduceCtorEq] at ha1)
      (exfalso; omega)
      (try simp only [decide_eq_true_eq, decide_eq_false_iff_not, Bool.not_eq_true', Bool.not_eq_false', Bool.not_eq_true, Bool.not_eq_false, not_true_eq_false, not_false_eq_true, reduceCtorEq] at ha1)
      refine WpL.v (V.mv) ?_
      refine WpL.v (V.cmp) ?_
      refine WpL.v (V.pF) ?_
      refine WpL.v (V.mv) ?_
      refine WpL.pt (fun ha2 => ?_) (fun ha2 => ?_)
      (try simp only [decide_eq_true_eq, decide_eq_false_iff_not, Bool.not_eq_true', Bool.not_eq_false', Bool.not_eq_true, Bool.not_eq_false, not_true_eq_false, not_false_eq_true, reduceCtorEq] at ha2)
      (exfalso; omega)
      (try simp only [decide_eq_true_eq, decide_eq_false_iff_not, Bool.not_eq_true', Bool.not_eq_false', Bool.not_eq_true, Bool.not_eq_false, not_true_eq_false, not_false_eq_true, reduceCtorEq] at ha2)
      refine WpL.v (V.mv) ?_
      refine WpL.v (V.mv) ?_
      refine WpL.v (V.cmp) ?_
      refine WpL.v (V.pF) ?_
      refine WpL.v (V.mv) ?_
      refine WpL.pt (fun ha3 => ?_) (fun ha3 => ?_)
      (try simp only [decide_eq_true_eq, decide_eq_false_iff_not, Bool.not_eq_true', Bool.not_eq_false', Bool.not_eq_true, Bool.not_eq_false, not_true_eq_false, not_false_eq_true, reduceCtorEq] at ha3)
      (exfalso; omega)
      (try simp only [decide_eq_true_eq, decide_eq_false_iff_not, Bool.not_eq_true', Bool.not_eq_false', Bool.not_eq_true, Bool.not_eq_false, not_true_eq_false, not_false_eq_true, reduceCtorEq] at ha3)
      refine WpL.v (V.mv) ?_
      refine WpL.v (V.fa tb) ?_
      refine WpL.v (V.ld1 tb) ?_
      refine WpL.v (V.cmp) ?_
      refine WpL.v (V.pF) ?_
      refine WpL.v (V.mv) ?_
      refine WpL.pt (fun ha4 => ?_) (fun ha4 => ?_)
      (try simp only [decide_eq_true_eq, decide_eq_false_iff_not, Bool.not_eq_true', Bool.not_eq_false', Bool.not_eq_true, Bool.not_eq_false, not_true_eq_false, not_false_eq_true, reduceCtorEq] at ha4)
      (exfalso; omega)
      (try simp only [decide_eq_true_eq, decide_eq_false_iff_not, Bool.not_eq_true', Bool.not_eq_false', Bool.not_eq_true, Bool.not_eq_false, not_true_eq_false, not_false_eq_true, reduceCtorEq] at ha4)
      refine WpL.v (V.fa tb) ?_
      refine WpL.v (V.ld1 tb) ?_
      refine WpL.v (V.cmp) ?_
      refine WpL.v (V.pF) ?_
      refine WpL.v (V.mv) ?_
      refine WpL.pt (fun ha5 => ?_) (fun ha5 => ?_)
      (try simp only [decide_eq_true_eq, decide_eq_false_iff_not, Bool.not_eq_true', Bool.not_eq_false', Bool.not_eq_true, Bool.not_eq_false, not_true_eq_false, not_false_eq_true, reduceCtorEq] at ha5)
      (exfalso; omega)
      (try simp only [decide_eq_true_eq, decide_eq_false_iff_not, Bool.not_eq_true', Bool.not_eq_false', Bool.not_eq_true, Bool.not_eq_false, not_true_eq_false, not_false_eq_true, reduceCtorEq] at ha5)
      refine WpL.v (V.fa tb) ?_
      refine WpL.v (V.ld1 tb) ?_
      refine WpL.v (V.pF) ?_
      apply WpL.nil
      apply Out.seqN
      refine Wp.c (fun ha6 => ?_) (fun ha6 => ?_)
      (try simp only [decide_eq_true_eq, decide_eq_false_iff_not, Bool.not_eq_true', Bool.not_eq_false', Bool.not_eq_true, Bool.not_eq_false, not_true_eq_false, not_false_eq_true, reduceCtorEq] at ha6)
      exact absurd (Eq.trans (Eq.symm ha6) (by assumption) : true = false) (by decide)
      (try simp only [decide_eq_true_eq, decide_eq_false_iff_not, Bool.not_eq_true', Bool.not_eq_false', Bool.not_eq_true, Bool.not_eq_false, not_true_eq_false, not_false_eq_true, reduceCtorEq] at ha6)
      apply Wp.skip
      apply Out.seqN
      apply Wp.seq
      apply Wp.region
      refine WpL.v (V.mv) ?_
      refine WpL.o (Op1.fn rfl (hF) ?_)
      refine WpL.v (V.as) ?_
      apply WpL.nil
      apply Out.seqN
      apply Wp.seq
      apply Wp.region
      refine WpL.v (V.as) ?_
      apply WpL.nil
      apply Out.seqN
      apply Wp.seq
      apply Wp.seq
      apply Wp.region
      refine WpL.v (V.as) ?_
      apply WpL.nil
      apply Out.seqN
      apply Wp.block
      refine Wp.lp [13, 10, 8, 7, 0, 3, 5] (fun y : Nat × Go.Value => y.1 ≤ nn) (fun y => [(15, I (y.1 : Int)), (14, y.2)]) (fun y => [rows TMsg.c y.2 44 25 (fL x c out o y.1)]) (fun y => nn - y.1) (0, .slice none 0 0) (Nat.zero_le _) ?_
      rintro ⟨i, v⟩ hi K hK
      dsimp only at hi
      dsimp only [List.cons_append, List.nil_append]
      have hll := fL_len x c out o i
      by_cases hlt : i < nn
      · have e3 := fL_snoc x c out o i
        by_cases hio : (i : Int) = out
        · rw [fM, if_pos hio] at e3
          apply Wp.seq
          apply Wp.seq
          apply Wp.region
          refine WpL.v (V.mv) ?_
          refine WpL.v (V.mv) ?_
          refine WpL.v (V.cmp) ?_
          apply WpL.nil
          apply Out.seqN
          refine Wp.c (fun ha10 => ?_) (fun ha10 => ?_)
          (try simp only [decide_eq_true_eq, decide_eq_false_iff_not, Bool.not_eq_true', Bool.not_eq_false', Bool.not_eq_true, Bool.not_eq_false, not_true_eq_false, not_false_eq_true, reduceCtorEq] at ha10)
          apply Wp.skip
          apply Out.seqN
          apply Wp.seq
          apply Wp.block
          apply Wp.seq
          apply Wp.region
          refine WpL.v (V.mv) ?_
          refine WpL.v (V.ldA tb) ?_
          refine WpL.v (V.fa tb) ?_
          refine WpL.v (V.ld1 tb) ?_
          refine WpL.v (V.bld tb) ?_
          refine WpL.v (V.ldA tb) ?_
          refine WpL.v (V.bld tb) ?_
          refine WpL.o (O.al tb (fun p16 => ?_))
          refine WpL.o (O.stA tb ?_)
          apply WpL.nil
          apply Out.seqN
          apply Wp.seq
          apply Wp.seq
          apply Wp.region
          refine WpL.v (V.mv) ?_
          refine WpL.v (V.mv) ?_
          refine WpL.v (V.cmp) ?_
          apply WpL.nil
          apply Out.seqN
          refine Wp.c (fun ha11 => ?_) (fun ha11 => ?_)
          (try simp only [decide_eq_true_eq, decide_eq_false_iff_not, Bool.not_eq_true', Bool.not_eq_false', Bool.not_eq_true, Bool.not_eq_false, not_true_eq_false, not_false_eq_true, reduceCtorEq] at ha11)
          apply Wp.seq
          apply Wp.region
          refine WpL.v (V.ldA tb) ?_
          refine WpL.o (O.stA tb ?_)
          apply WpL.nil
          apply Out.seqN
          apply Wp.region
          refine WpL.v (V.mv) ?_
          refine WpL.v (V.fa tb) ?_
          refine WpL.o (O.st1 tb ?_)
          apply WpL.nil
          apply Out.seqN
          apply Wp.region
          refine WpL.v (V.mv) ?_
          refine WpL.v (V.ldA tb) ?_
          refine WpL.o (O.lit tb (fun p84 => ?_))
          refine WpL.o (O.apL (m := [{ o with From := (i : Int) }]) tb rfl rfl (by (intro _; repeat first | exact Upd.here _ _ _ | apply Upd.there)) (SrcL.one (f := TMsg.c) (a := { o with From := (i : Int) }) tb (by (repeat first | exact List.Mem.head _ | apply List.Mem.tail)) TMsg.ones) (fun g85 cap85 => ?_))
          refine WpL.v (V.as) ?_
          apply WpL.nil
          apply Out.blockN
          apply Out.seqN
          apply Wp.region
          refine WpL.v (V.mv) ?_
          refine WpL.v (V.add) ?_
          refine WpL.v (V.as) ?_
          apply WpL.nil
          rotate_left
          (try simp only [decide_eq_true_eq, decide_eq_false_iff_not, Bool.not_eq_true', Bool.not_eq_false', Bool.not_eq_true, Bool.not_eq_false, not_true_eq_false, not_false_eq_true, reduceCtorEq] at ha11)
          (exfalso; omega)
          (try simp only [decide_eq_true_eq, decide_eq_false_iff_not, Bool.not_eq_true', Bool.not_eq_false', Bool.not_eq_true, Bool.not_eq_false, not_true_eq_false, not_false_eq_true, reduceCtorEq] at ha10)
          (exfalso; omega)
          exact Out.ag hK (i + 1, .slice (some ⟨g85, 0, none⟩) (fL x c out o i ++ [{ o with From := (i : Int) }]).length cap85) (by show i + 1 ≤ _; omega) (by show nn - (i + 1) < nn - i; omega) (he := by (repeat (first | exact subEnv.nil | refine subEnv.cons rfl rfl ?_))) (hs := by rw [e3]; (repeat (first | exact Sel.nil | exact Rem.here | apply Sel.cons | apply Rem.there)))
        · rw [fM, if_neg hio] at e3
          apply Wp.seq
          apply Wp.seq
          apply Wp.region
          refine WpL.v (V.mv) ?_
          refine WpL.v (V.mv) ?_
          refine WpL.v (V.cmp) ?_
          apply WpL.nil
          apply Out.seqN
          refine Wp.c (fun ha20 => ?_) (fun ha20 => ?_)
          (try simp only [decide_eq_true_eq, decide_eq_false_iff_not, Bool.not_eq_true', Bool.not_eq_false', Bool.not_eq_true, Bool.not_eq_false, not_true_eq_false, not_false_eq_true, reduceCtorEq] at ha20)
          apply Wp.skip
          apply Out.seqN
          apply Wp.seq
          apply Wp.block
          apply Wp.seq
          apply Wp.region
          refine WpL.v (V.mv) ?_
          refine WpL.v (V.ldA tb) ?_
          refine WpL.v (V.fa tb) ?_
          refine WpL.v (V.ld1 tb) ?_
          refine WpL.v (V.bld tb) ?_
          refine WpL.v (V.ldA tb) ?_
          refine WpL.v (V.bld tb (c' := (fP x c i).c)) ?_
          refine WpL.o (O.al tb (fun p16 => ?_))
          refine WpL.o (O.stA tb ?_)
          apply WpL.nil
          apply Out.seqN
          apply Wp.seq
          apply Wp.seq
          apply Wp.region
          refine WpL.v (V.mv) ?_
          refine WpL.v (V.mv) ?_
          refine WpL.v (V.cmp) ?_
          apply WpL.nil
          apply Out.seqN
          refine Wp.c (fun ha21 => ?_) (fun ha21 => ?_)
          (try simp only [decide_eq_true_eq, decide_eq_false_iff_not, Bool.not_eq_true', Bool.not_eq_false', Bool.not_eq_true, Bool.not_eq_false, not_true_eq_false, not_false_eq_true, reduceCtorEq] at ha21)
          (exfalso; omega)
          (try simp only [decide_eq_true_eq, decide_eq_false_iff_not, Bool.not_eq_true', Bool.not_eq_false', Bool.not_eq_true, Bool.not_eq_false, not_true_eq_false, not_false_eq_true, reduceCtorEq] at ha21)
          apply Wp.skip
          apply Out.seqN
          apply Wp.region
          refine WpL.v (V.mv) ?_
          refine WpL.v (V.ldA tb) ?_
          refine WpL.o (O.lit tb (fun p84 => ?_))
          refine WpL.o (O.apL (m := [fP x c i]) tb rfl rfl (by (intro _; repeat first | exact Upd.here _ _ _ | apply Upd.there)) (SrcL.one (f := TMsg.c) (a := fP x c i) tb (by (repeat first | exact List.Mem.head _ | apply List.Mem.tail)) TMsg.ones) (fun g85 cap85 => ?_))
          refine WpL.v (V.as) ?_
          apply WpL.nil
          apply Out.blockN
          apply Out.seqN
          apply Wp.region
          refine WpL.v (V.mv) ?_
          refine WpL.v (V.add) ?_
          refine WpL.v (V.as) ?_
          apply WpL.nil
          rotate_left
          (try simp only [decide_eq_true_eq, decide_eq_false_iff_not, Bool.not_eq_true', Bool.not_eq_false', Bool.not_eq_true, Bool.not_eq_false, not_true_eq_false, not_false_eq_true, reduceCtorEq] at ha20)
          (exfalso; omega)
          exact Out.ag hK (i + 1, .slice (some ⟨g85, 0, none⟩) (fL x c out o i ++ [fP x c i]).length cap85) (by show i + 1 ≤ _; omega) (by show nn - (i + 1) < nn - i; omega) (he := by (repeat (first | exact subEnv.nil | refine subEnv.cons rfl rfl ?_))) (hs := by rw [e3]; (repeat (first | exact Sel.nil | exact Rem.here | apply Sel.cons | apply Rem.there)))
      · obtain rfl : i = nn := by omega
        clear hK
        refine Wp.fact (rowsForm (f := TMsg.c) (v := v) (l := fL x c out o i) (E := 44) (sz := 25) (by (repeat first | exact List.Mem.head _ | apply List.Mem.tail))) fun hv => ?_
        rcases hv with ⟨rfl, hv⟩ | ⟨g, cp, rfl, hc1, hc2⟩
        · rw [hv] at hll; simp at hll; omega
        have hP := pick_rd (rows TMsg.c (.slice (some ⟨g, 0, none⟩) (fL x c out o i).length cp) 44 25 (fL x c out o i)) e (some ⟨g, 0, none⟩) ao cp g 0 cap b off (fL x c out o i) qs (Rd.rows TMsg.len (by omega)) hR (by omega)
        have hlaw := fast_law (i : Int) (by omega) x c out o ho1 hst hsm qs
        rw [show ((i : Int)).toNat = i by simp] at hlaw
        have hsm2 := picks_small (fL x c out o i) qs
        generalize (picks (fL x c out o i) qs).1 = Q at *
        apply Wp.seq
        apply Wp.seq
        apply Wp.region
        refine WpL.v (V.mv) ?_
        refine WpL.v (V.mv) ?_
        refine WpL.v (V.cmp) ?_
        apply WpL.nil
        apply Out.seqN
        refine Wp.c (fun ha30 => ?_) (fun ha30 => ?_)
        (try simp only [decide_eq_true_eq, decide_eq_false_iff_not, Bool.not_eq_true', Bool.not_eq_false', Bool.not_eq_true, Bool.not_eq_false, not_true_eq_false, not_false_eq_true, reduceCtorEq] at ha30)
        (exfalso; omega)
        (try simp only [decide_eq_true_eq, decide_eq_false_iff_not, Bool.not_eq_true', Bool.not_eq_false', Bool.not_eq_true, Bool.not_eq_false, not_true_eq_false, not_false_eq_true, reduceCtorEq] at ha30)
        apply Wp.exit
        apply Out.seqE
        apply Out.seqE
        apply Out.blockE
        apply Out.seqN
        apply Wp.seq
        apply Wp.region
        refine WpL.v (V.as) ?_
        apply WpL.nil
        apply Out.seqN
        apply Wp.seq
        apply Wp.seq
        apply Wp.region
        refine WpL.v (V.mv) ?_
        refine WpL.v (V.mv) ?_
        refine WpL.o (Op1.callT rfl (hP) (by (repeat (first | exact Sel.nil | exact Rem.here | apply Sel.cons | apply Rem.there))) ?_)
        rintro v2 s3 ⟨ap88, ⟨cp88, ⟨g88, ⟨hx1, ⟨rfl, rfl⟩⟩⟩⟩⟩
        refine incat ?_
        refine WpL.v (V.lenL tb) ?_
        refine WpL.v (V.mv) ?_
        apply WpL.nil
        apply Out.seqN
        apply Wp.block
        clear hP
        refine Wp.lp [89, 88, 13, 8, 7, 0] (fun y : Nat × Go.Value => y.1 ≤ Q.length) (fun y => [(90, I (y.1 : Int)), (17, y.2)]) (fun y => [rows TMsg.c y.2 44 25 (nots x.Rep (Q.take y.1))]) (fun y => Q.length - y.1) (0, .slice none 0 0) (Nat.zero_le _) ?_
        rintro ⟨k, v⟩ hk K hK
        dsimp only at hk
        dsimp only [List.cons_append, List.nil_append]
        by_cases hlk : k < Q.length
        · obtain ⟨m, hm2⟩ := getS hlk
          have e1 := take_snocS hm2
          have e3 : nots x.Rep (Q.take (k + 1)) = nots x.Rep (Q.take k) ++ (if m.From = x.Rep then [] else [m]) := by rw [e1, nots_snoc]
          have hle : (nots x.Rep (Q.take k)).length ≤ Q.length := by
            unfold nots; refine Nat.le_trans (List.length_filter_le _ _) ?_; rw [List.length_take]; omega
          generalize nots x.Rep (Q.take k) = o1 at *
          by_cases hmr : m.From = x.Rep
          · rw [if_pos hmr, List.append_nil] at e3
            apply Wp.seq
            apply Wp.region
            refine WpL.v (V.cmp) ?_
            apply WpL.nil
            apply Out.seqN
            apply Wp.seq
            refine Wp.c (fun ha40 => ?_) (fun ha40 => ?_)
            (try simp only [decide_eq_true_eq, decide_eq_false_iff_not, Bool.not_eq_true', Bool.not_eq_false', Bool.not_eq_true, Bool.not_eq_false, not_true_eq_false, not_false_eq_true, reduceCtorEq] at ha40)
            apply Wp.skip
            apply Out.seqN
            apply Wp.seq
            apply Wp.block
            apply Wp.seq
            apply Wp.region
            refine WpL.v (V.ixR tb rfl rfl (by assumption)) ?_
            refine WpL.v (V.ldRA tb rfl (by assumption) (getMapS (by assumption))) ?_
            refine WpL.o (O.al tb (fun p19 => ?_))
            refine WpL.o (O.stA tb ?_)
            apply WpL.nil
            apply Out.seqN
            apply Wp.seq
            apply Wp.region
            refine WpL.v (V.fa tb) ?_
            refine WpL.v (V.ld1 tb) ?_
            refine WpL.v (V.fa tb) ?_
            refine WpL.v (V.ld1 tb) ?_
            refine WpL.v (V.cmp) ?_
            apply WpL.nil
            apply Out.seqN
            refine Wp.c (fun ha41 => ?_) (fun ha41 => ?_)
            (try simp only [decide_eq_true_eq, decide_eq_false_iff_not, Bool.not_eq_true', Bool.not_eq_false', Bool.not_eq_true, Bool.not_eq_false, not_true_eq_false, not_false_eq_true, reduceCtorEq] at ha41)
            (exfalso; omega)
            (try simp only [decide_eq_true_eq, decide_eq_false_iff_not, Bool.not_eq_true', Bool.not_eq_false', Bool.not_eq_true, Bool.not_eq_false, not_true_eq_false, not_false_eq_true, reduceCtorEq] at ha41)
            apply Wp.skip
            apply Out.blockN
            apply Out.seqN
            apply Wp.region
            refine WpL.v (V.add) ?_
            refine WpL.v (V.mv) ?_
            apply WpL.nil
            rotate_left
            (try simp only [decide_eq_true_eq, decide_eq_false_iff_not, Bool.not_eq_true', Bool.not_eq_false', Bool.not_eq_true, Bool.not_eq_false, not_true_eq_false, not_false_eq_true, reduceCtorEq] at ha40)
            (exfalso; omega)
            exact Out.ag hK (k + 1, v) (by show k + 1 ≤ _; omega) (by show Q.length - (k + 1) < Q.length - k; omega) (he := by (repeat (first | exact subEnv.nil | refine subEnv.cons rfl rfl ?_))) (hs := by rw [e3]; (repeat (first | exact Sel.nil | exact Rem.here | apply Sel.cons | apply Rem.there)))
          · rw [if_neg hmr] at e3
            apply Wp.seq
            apply Wp.region
            refine WpL.v (V.cmp) ?_
            apply WpL.nil
            apply Out.seqN
            apply Wp.seq
            refine Wp.c (fun ha50 => ?_) (fun ha50 => ?_)
            (try simp only [decide_eq_true_eq, decide_eq_false_iff_not, Bool.not_eq_true', Bool.not_eq_false', Bool.not_eq_true, Bool.not_eq_false, not_true_eq_false, not_false_eq_true, reduceCtorEq] at ha50)
            apply Wp.skip
            apply Out.seqN
            apply Wp.seq
            apply Wp.block
            apply Wp.seq
            apply Wp.region
            refine WpL.v (V.ixR tb rfl rfl (by assumption)) ?_
            refine WpL.v (V.ldRA tb rfl (by assumption) (getMapS (by assumption))) ?_
            refine WpL.o (O.al tb (fun p19 => ?_))
            refine WpL.o (O.stA tb ?_)
            apply WpL.nil
            apply Out.seqN
            apply Wp.seq
            apply Wp.region
            refine WpL.v (V.fa tb) ?_
            refine WpL.v (V.ld1 tb) ?_
            refine WpL.v (V.fa tb) ?_
            refine WpL.v (V.ld1 tb) ?_
            refine WpL.v (V.cmp) ?_
            apply WpL.nil
            apply Out.seqN
            refine Wp.c (fun ha51 => ?_) (fun ha51 => ?_)
            (try simp only [decide_eq_true_eq, decide_eq_false_iff_not, Bool.not_eq_true', Bool.not_eq_false', Bool.not_eq_true, Bool.not_eq_false, not_true_eq_false, not_false_eq_true, reduceCtorEq] at ha51)
            apply Wp.region
            refine WpL.v (V.mv) ?_
            refine WpL.v (V.ldA tb) ?_
            refine WpL.o (O.lit tb (fun p101 => ?_))
            refine WpL.o (O.apL (m := [m]) tb rfl rfl (by (intro _; repeat first | exact Upd.here _ _ _ | apply Upd.there)) (SrcL.one (f := TMsg.c) (a := m) tb (by (repeat first | exact List.Mem.head _ | apply List.Mem.tail)) TMsg.ones) (fun g102 cap102 => ?_))
            refine WpL.v (V.as) ?_
            apply WpL.nil
            apply Out.blockN
            apply Out.seqN
            apply Wp.region
            refine WpL.v (V.add) ?_
            refine WpL.v (V.mv) ?_
            apply WpL.nil
            rotate_left
            (try simp only [decide_eq_true_eq, decide_eq_false_iff_not, Bool.not_eq_true', Bool.not_eq_false', Bool.not_eq_true, Bool.not_eq_false, not_true_eq_false, not_false_eq_true, reduceCtorEq] at ha51)
            (exfalso; omega)
            (try simp only [decide_eq_true_eq, decide_eq_false_iff_not, Bool.not_eq_true', Bool.not_eq_false', Bool.not_eq_true, Bool.not_eq_false, not_true_eq_false, not_false_eq_true, reduceCtorEq] at ha50)
            (exfalso; omega)
            exact Out.ag hK (k + 1, .slice (some ⟨g102, 0, none⟩) (o1 ++ [m]).length cap102) (by show k + 1 ≤ _; omega) (by show Q.length - (k + 1) < Q.length - k; omega) (he := by (repeat (first | exact subEnv.nil | refine subEnv.cons rfl rfl ?_))) (hs := by rw [e3]; (repeat (first | exact Sel.nil | exact Rem.here | apply Sel.cons | apply Rem.there)))
        · obtain rfl : k = Q.length := by omega
          clear hK
          rw [List.take_length]
          have hfb : 0 ≤ faults (i : Int) ∧ faults (i : Int) ≤ 10 := by unfold faults; omega
          by_cases hbig : faults i + 1 ≤ ((nots x.Rep Q).length : Int)
          · have hln := hlaw hbig
            have hle : (nots x.Rep Q).length ≤ Q.length := List.length_filter_le _ _
            have hD : ∀ v : Go.Value, Ct Try.prog 25 [I i, A x.c, v] [rows TMsg.c v 44 25 (nots x.Rep Q)] (fun r σ' => r = .tuple #[I 2, A c.c] ∧ σ' = [rows TMsg.c v 44 25 (nots x.Rep Q)]) := fun v => by
              have h := choose_rows i x (nots x.Rep Q) v (by omega) (by omega)
              rw [hln] at h
              exact h
            apply Wp.seq
            apply Wp.region
            refine WpL.v (V.cmp) ?_
            apply WpL.nil
            apply Out.seqN
            apply Wp.seq
            refine Wp.c (fun ha60 => ?_) (fun ha60 => ?_)
            (try simp only [decide_eq_true_eq, decide_eq_false_iff_not, Bool.not_eq_true', Bool.not_eq_false', Bool.not_eq_true, Bool.not_eq_false, not_true_eq_false, not_false_eq_true, reduceCtorEq] at ha60)
            (exfalso; omega)
            (try simp only [decide_eq_true_eq, decide_eq_false_iff_not, Bool.not_eq_true', Bool.not_eq_false', Bool.not_eq_true, Bool.not_eq_false, not_true_eq_false, not_false_eq_true, reduceCtorEq] at ha60)
            apply Wp.exit
            apply Out.seqE
            apply Out.seqE
            apply Out.blockE
            apply Out.seqN
            apply Wp.seq
            apply Wp.seq
            apply Wp.region
            refine WpL.v (V.mv) ?_
            refine WpL.v (V.lenRows tb) ?_
            refine WpL.v (V.mv) ?_
            refine WpL.v (V.add) ?_
            refine WpL.v (V.cmp) ?_
            apply WpL.nil
            apply Out.seqN
            refine Wp.c (fun ha61 => ?_) (fun ha61 => ?_)
            (try simp only [decide_eq_true_eq, decide_eq_false_iff_not, Bool.not_eq_true', Bool.not_eq_false', Bool.not_eq_true, Bool.not_eq_false, not_true_eq_false, not_false_eq_true, reduceCtorEq] at ha61)
            (exfalso; omega)
            (try simp only [decide_eq_true_eq, decide_eq_false_iff_not, Bool.not_eq_true', Bool.not_eq_false', Bool.not_eq_true, Bool.not_eq_false, not_true_eq_false, not_false_eq_true, reduceCtorEq] at ha61)
            apply Wp.skip
            apply Out.seqN
            apply Wp.seq
            apply Wp.region
            refine WpL.v (V.mv) ?_
            refine WpL.v (V.ldA tb) ?_
            refine WpL.v (V.mv) ?_
            refine WpL.o (Op1.callT rfl (hD _) (by (repeat (first | exact Sel.nil | exact Rem.here | apply Sel.cons | apply Rem.there))) ?_)
            rintro v2 s3 ⟨rfl, rfl⟩
            refine incat ?_
            refine WpL.v (V.mv) ?_
            refine WpL.v (V.ex) ?_
            refine WpL.v (V.ex) ?_
            refine WpL.o (O.al tb (fun p21 => ?_))
            refine WpL.v (V.as) ?_
            refine WpL.o (O.stA tb ?_)
            apply WpL.nil
            apply Out.seqN
            apply Wp.seq
            apply Wp.region
            refine WpL.v (V.mv) ?_
            refine WpL.v (V.cmp) ?_
            refine WpL.v (V.mv) ?_
            refine WpL.v (V.ldA tb) ?_
            refine WpL.v (V.ldA tb) ?_
            refine WpL.v (V.eq (TCall.eqT _ _ _)) ?_
            refine WpL.v (V.pT) ?_
            refine WpL.v (V.as) ?_
            apply WpL.nil
            apply Out.seqN
            apply Wp.ret
            refine Out.f1 rfl ResIs.t ⟨?_, rfl⟩
            simp
          · apply Wp.seq
            apply Wp.region
            refine WpL.v (V.cmp) ?_
            apply WpL.nil
            apply Out.seqN
            apply Wp.seq
            refine Wp.c (fun ha70 => ?_) (fun ha70 => ?_)
            (try simp only [decide_eq_true_eq, decide_eq_false_iff_not, Bool.not_eq_true', Bool.not_eq_false', Bool.not_eq_true, Bool.not_eq_false, not_true_eq_false, not_false_eq_true, reduceCtorEq] at ha70)
            (exfalso; omega)
            (try simp only [decide_eq_true_eq, decide_eq_false_iff_not, Bool.not_eq_true', Bool.not_eq_false', Bool.not_eq_true, Bool.not_eq_false, not_true_eq_false, not_false_eq_true, reduceCtorEq] at ha70)
            apply Wp.exit
            apply Out.seqE
            apply Out.seqE
            apply Out.blockE
            apply Out.seqN
            apply Wp.seq
            apply Wp.seq
            apply Wp.region
            refine WpL.v (V.mv) ?_
            refine WpL.v (V.lenRows tb) ?_
            refine WpL.v (V.mv) ?_
            refine WpL.v (V.add) ?_
            refine WpL.v (V.cmp) ?_
            apply WpL.nil
            apply Out.seqN
            refine Wp.c (fun ha71 => ?_) (fun ha71 => ?_)
            (try simp only [decide_eq_true_eq, decide_eq_false_iff_not, Bool.not_eq_true', Bool.not_eq_false', Bool.not_eq_true, Bool.not_eq_false, not_true_eq_false, not_false_eq_true, reduceCtorEq] at ha71)
            apply Wp.seq
            apply Wp.region
            refine WpL.v (V.as) ?_
            apply WpL.nil
            apply Out.seqN
            apply Wp.ret
            apply Out.seqR
            refine Out.f1 rfl ResIs.t ⟨?_, rfl⟩
            exact rfl
            (try simp only [decide_eq_true_eq, decide_eq_false_iff_not, Bool.not_eq_true', Bool.not_eq_false', Bool.not_eq_true, Bool.not_eq_false, not_true_eq_false, not_false_eq_true, reduceCtorEq] at ha71)
            (exfalso; omega)
    · refine Ct.enter Try.func5 rfl rfl fun W => ?_
      apply Wp.seq
      apply Wp.region
      refine WpL.o (O.bxA (fun p7 => ?_))
      refine WpL.o (O.bxA (fun p8 => ?_))
      refine WpL.o (O.bxA (fun p10 => ?_))
      refine WpL.v (V.as) ?_
      apply WpL.nil
      apply Out.seqN
      apply Wp.seq
      apply Wp.seq
      apply Wp.region
      refine WpL.o (Op1.fn rfl (alive16) ?_)
      refine WpL.v (V.not) ?_
      apply WpL.nil
      apply Out.seqN
      refine Wp.cF ?_
      apply Wp.skip
      apply Out.seqN
      apply Wp.seq
      apply Wp.seq
      apply Wp.region
      refine WpL.v (V.mv) ?_
      refine WpL.o (Op1.fn rfl (hS) ?_)
      refine WpL.v (V.not) ?_
      refine WpL.v (V.mv) ?_
      refine WpL.v (V.fa tb) ?_
      refine WpL.v (V.ld1 tb) ?_
      refine WpL.v (V.cmp) ?_
      refine WpL.v (V.pF) ?_
      refine WpL.v (V.mv) ?_
      refine WpL.pt (fun hb0 => ?_) (fun hb0 => ?_)
      (try simp only [decide_eq_true_eq, decide_eq_false_iff_not, Bool.not_eq_true', Bool.not_eq_false', Bool.not_eq_true, Bool.not_eq_false, not_true_eq_false, not_false_eq_true, reduceCtorEq] at hb0)
      refine WpL.sk ?_
      refine WpL.sk ?_
      refine WpL.sk ?_
      refine WpL.sk ?_
      refine WpL.v (V.pT) ?_
      refine WpL.v (V.mv) ?_
      refine WpL.sk ?_
      refine WpL.sk ?_
      refine WpL.v (V.pT) ?_
      refine WpL.v (V.mv) ?_
      refine WpL.sk ?_
      refine WpL.sk ?_
      refine WpL.sk ?_
      refine WpL.v (V.pT) ?_
      refine WpL.v (V.mv) ?_
      refine WpL.sk ?_
      refine WpL.sk ?_
      refine WpL.sk ?_
      refine WpL.sk ?_
      refine WpL.v (V.pT) ?_
      refine WpL.v (V.mv) ?_
      refine WpL.sk ?_
      refine WpL.sk ?_
      refine WpL.sk ?_
      refine WpL.v (V.pT) ?_
      refine WpL.v (V.mv) ?_
      refine WpL.sk ?_
      refine WpL.sk ?_
      refine WpL.v (V.pT) ?_
      apply WpL.nil
      apply Out.seqN
      refine Wp.cT ?_
      apply Wp.seq
      apply Wp.region
      refine WpL.v (V.as) ?_
      apply WpL.nil
      apply Out.seqN
      apply Wp.ret
      apply Out.seqR
      refine Out.f1 rfl ResIs.t ⟨?_, rfl⟩
      exact rfl
      (try simp only [decide_eq_true_eq, decide_eq_false_iff_not, Bool.not_eq_true', Bool.not_eq_false', Bool.not_eq_true, Bool.not_eq_false, not_true_eq_false, not_false_eq_true, reduceCtorEq] at hb0)
      refine WpL.v (V.fa tb) ?_
      refine WpL.v (V.ld1 tb) ?_
      refine WpL.v (V.mv) ?_
      refine WpL.v (V.cmp) ?_
      refine WpL.v (V.pF) ?_
      refine WpL.v (V.mv) ?_
      refine WpL.pt (fun hb1 => ?_) (fun hb1 => ?_)
      (try simp only [decide_eq_true_eq, decide_eq_false_iff_not, Bool.not_eq_true', Bool.not_eq_false', Bool.not_eq_true, Bool.not_eq_false, not_true_eq_false, not_false_eq_true, reduceCtorEq] at hb1)
      refine WpL.sk ?_
      refine WpL.sk ?_
      refine WpL.v (V.pT) ?_
      refine WpL.v (V.mv) ?_
      refine WpL.sk ?_
      refine WpL.sk ?_
      refine WpL.sk ?_
      refine WpL.v (V.pT) ?_
      refine WpL.v (V.mv) ?_
      refine WpL.sk ?_
      refine WpL.sk ?_
      refine WpL.sk ?_
      refine WpL.sk ?_
      refine WpL.v (V.pT) ?_
      refine WpL.v (V.mv) ?_
      refine WpL.sk ?_
      refine WpL.sk ?_
      refine WpL.sk ?_
      refine WpL.v (V.pT) ?_
      refine WpL.v (V.mv) ?_
      refine WpL.sk ?_
      refine WpL.sk ?_
      refine WpL.v (V.pT) ?_
      apply WpL.nil
      apply Out.seqN
      refine Wp.cT ?_
      apply Wp.seq
      apply Wp.region
      refine WpL.v (V.as) ?_
      apply WpL.nil
      apply Out.seqN
      apply Wp.ret
      apply Out.seqR
      refine Out.f1 rfl ResIs.t ⟨?_, rfl⟩
      exact rfl
      (try simp only [decide_eq_true_eq, decide_eq_false_iff_not, Bool.not_eq_true', Bool.not_eq_false', Bool.not_eq_true, Bool.not_eq_false, not_true_eq_false, not_false_eq_true, reduceCtorEq] at hb1)
      refine WpL.v (V.mv) ?_
      refine WpL.v (V.cmp) ?_
      refine WpL.v (V.pF) ?_
      refine WpL.v (V.mv) ?_
      refine WpL.pt (fun hb2 => ?_) (fun hb2 => ?_)
      (try simp only [decide_eq_true_eq, decide_eq_false_iff_not, Bool.not_eq_true', Bool.not_eq_false', Bool.not_eq_true, Bool.not_eq_false, not_true_eq_false, not_false_eq_true, reduceCtorEq] at hb2)
      refine WpL.sk ?_
      refine WpL.sk ?_
      refine WpL.sk ?_
      refine WpL.v (V.pT) ?_
      refine WpL.v (V.mv) ?_
      refine WpL.sk ?_
      refine WpL.sk ?_
      refine WpL.sk ?_
      refine WpL.sk ?_
      refine WpL.v (V.pT) ?_
      refine WpL.v (V.mv) ?_
      refine WpL.sk ?_
      refine WpL.sk ?_
      refine WpL.sk ?_
      refine WpL.v (V.pT) ?_
      refine WpL.v (V.mv) ?_
      refine WpL.sk ?_
      refine WpL.sk ?_
      refine WpL.v (V.pT) ?_
      apply WpL.nil
      apply Out.seqN
      refine Wp.cT ?_
      apply Wp.seq
      apply Wp.region
      refine WpL.v (V.as) ?_
      apply WpL.nil
      apply Out.seqN
      apply Wp.ret
      apply Out.seqR
      refine Out.f1 rfl ResIs.t ⟨?_, rfl⟩
      exact rfl
      (try simp only [decide_eq_true_eq, decide_eq_false_iff_not, Bool.not_eq_true', Bool.not_eq_false', Bool.not_eq_true, Bool.not_eq_false, not_true_eq_false, not_false_eq_true, reduceCtorEq] at hb2)
      refine WpL.v (V.mv) ?_
      refine WpL.v (V.mv) ?_
      refine WpL.v (V.cmp) ?_
      refine WpL.v (V.pF) ?_
      refine WpL.v (V.mv) ?_
      refine WpL.pt (fun hb3 => ?_) (fun hb3 => ?_)
      (try simp only [decide_eq_true_eq, decide_eq_false_iff_not, Bool.not_eq_true', Bool.not_eq_false', Bool.not_eq_true, Bool.not_eq_false, not_true_eq_false, not_false_eq_true, reduceCtorEq] at hb3)
      refine WpL.sk ?_
      refine WpL.sk ?_
      refine WpL.sk ?_
      refine WpL.sk ?_
      refine WpL.v (V.pT) ?_
      refine WpL.v (V.mv) ?_
      refine WpL.sk ?_
      refine WpL.sk ?_
      refine WpL.sk ?_
      refine WpL.v (V.pT) ?_
      refine WpL.v (V.mv) ?_
      refine WpL.sk ?_
      refine WpL.sk ?_
      refine WpL.v (V.pT) ?_
      apply WpL.nil
      apply Out.seqN
      refine Wp.cT ?_
      apply Wp.seq
      apply Wp.region
      refine WpL.v (V.as) ?_
      apply WpL.nil
      apply Out.seqN
      apply Wp.ret
      apply Out.seqR
      refine Out.f1 rfl ResIs.t ⟨?_, rfl⟩
      exact rfl
      (try simp only [decide_eq_true_eq, decide_eq_false_iff_not, Bool.not_eq_true', Bool.not_eq_false', Bool.not_eq_true, Bool.not_eq_false, not_true_eq_false, not_false_eq_true, reduceCtorEq] at hb3)
      refine WpL.v (V.mv) ?_
      refine WpL.v (V.fa tb) ?_
      refine WpL.v (V.ld1 tb) ?_
      refine WpL.v (V.cmp) ?_
      refine WpL.v (V.pF) ?_
      refine WpL.v (V.mv) ?_
      refine WpL.pt (fun hb4 => ?_) (fun hb4 => ?_)
      (try simp only [decide_eq_true_eq, decide_eq_false_iff_not, Bool.not_eq_true', Bool.not_eq_false', Bool.not_eq_true, Bool.not_eq_false, not_true_eq_false, not_false_eq_true, reduceCtorEq] at hb4)
      refine WpL.sk ?_
      refine WpL.sk ?_
      refine WpL.sk ?_
      refine WpL.v (V.pT) ?_
      refine WpL.v (V.mv) ?_
      refine WpL.sk ?_
      refine WpL.sk ?_
      refine WpL.v (V.pT) ?_
      apply WpL.nil
      apply Out.seqN
      refine Wp.cT ?_
      apply Wp.seq
      apply Wp.region
      refine WpL.v (V.as) ?_
      apply WpL.nil
      apply Out.seqN
      apply Wp.ret
      apply Out.seqR
      refine Out.f1 rfl ResIs.t ⟨?_, rfl⟩
      exact rfl
      (try simp only [decide_eq_true_eq, decide_eq_false_iff_not, Bool.not_eq_true', Bool.not_eq_false', Bool.not_eq_true, Bool.not_eq_false, not_true_eq_false, not_false_eq_true, reduceCtorEq] at hb4)
      refine WpL.v (V.fa tb) ?_
      refine WpL.v (V.ld1 tb) ?_
      refine WpL.v (V.cmp) ?_
      refine WpL.v (V.pF) ?_
      refine WpL.v (V.mv) ?_
      refine WpL.pt (fun hb5 => ?_) (fun hb5 => ?_)
      (try simp only [decide_eq_true_eq, decide_eq_false_iff_not, Bool.not_eq_true', Bool.not_eq_false', Bool.not_eq_true, Bool.not_eq_false, not_true_eq_false, not_false_eq_true, reduceCtorEq] at hb5)
      refine WpL.sk ?_
      refine WpL.sk ?_
      refine WpL.v (V.pT) ?_
      apply WpL.nil
      apply Out.seqN
      refine Wp.cT ?_
      apply Wp.seq
      apply Wp.region
      refine WpL.v (V.as) ?_
      apply WpL.nil
      apply Out.seqN
      apply Wp.ret
      apply Out.seqR
      refine Out.f1 rfl ResIs.t ⟨?_, rfl⟩
      exact rfl
      (try simp only [decide_eq_true_eq, decide_eq_false_iff_not, Bool.not_eq_true', Bool.not_eq_false', Bool.not_eq_true, Bool.not_eq_false, not_true_eq_false, not_false_eq_true, reduceCtorEq] at hb5)
      refine WpL.v (V.fa tb) ?_
      refine WpL.v (V.ld1 tb) ?_
      refine WpL.v (V.pF) ?_
      apply WpL.nil
      apply Out.seqN
      refine Wp.c (fun hb6 => ?_) (fun hb6 => ?_)
      (try simp only [decide_eq_true_eq, decide_eq_false_iff_not, Bool.not_eq_true', Bool.not_eq_false', Bool.not_eq_true, Bool.not_eq_false, not_true_eq_false, not_false_eq_true, reduceCtorEq] at hb6)
      apply Wp.seq
      apply Wp.region
      refine WpL.v (V.as) ?_
      apply WpL.nil
      apply Out.seqN
      apply Wp.ret
      apply Out.seqR
      refine Out.f1 rfl ResIs.t ⟨?_, rfl⟩
      exact rfl
      (try simp only [decide_eq_true_eq, decide_eq_false_iff_not, Bool.not_eq_true', Bool.not_eq_false', Bool.not_eq_true, Bool.not_eq_false, not_true_eq_false, not_false_eq_true, reduceCtorEq] at hb6)
      apply Wp.skip
      apply Out.seqN
      apply Wp.seq
      apply Wp.region
      refine WpL.v (V.mv) ?_
      refine WpL.o (Op1.fn rfl (hF) ?_)
      refine WpL.v (V.as) ?_
      apply WpL.nil
      apply Out.seqN
      apply Wp.seq
      apply Wp.region
      refine WpL.v (V.as) ?_
      apply WpL.nil
      apply Out.seqN
      apply Wp.seq
      apply Wp.seq
      apply Wp.region
      refine WpL.v (V.as) ?_
      apply WpL.nil
      apply Out.seqN
      apply Wp.block
      exact absurd ⟨by omega, by omega, by omega, by omega, hb4, by omega, hb6⟩ hs2
  · have hS : Fun Try.prog 24 [I n] (B false) := by
      have h := r16_size n
      rwa [show (decide (n = 3) || (decide (n = 5) || decide (n = 7))) = false by simp; omega] at h
    refine Ct.enter Try.func5 rfl rfl fun W => ?_
    apply Wp.seq
    apply Wp.region
    refine WpL.o (O.bxA (fun p7 => ?_))
    refine WpL.o (O.bxA (fun p8 => ?_))
    refine WpL.o (O.bxA (fun p10 => ?_))
    refine WpL.v (V.as) ?_
    apply WpL.nil
    apply Out.seqN
    apply Wp.seq
    apply Wp.seq
    apply Wp.region
    refine WpL.o (Op1.fn rfl (alive16) ?_)
    refine WpL.v (V.not) ?_
    apply WpL.nil
    apply Out.seqN
    refine Wp.cF ?_
    apply Wp.skip
    apply Out.seqN
    apply Wp.seq
    apply Wp.seq
    apply Wp.region
    refine WpL.v (V.mv) ?_
    refine WpL.o (Op1.fn rfl (hS) ?_)
    refine WpL.v (V.not) ?_
    refine WpL.v (V.mv) ?_
    refine WpL.sk ?_
    refine WpL.sk ?_
    refine WpL.sk ?_
    refine WpL.v (V.pT) ?_
    refine WpL.v (V.mv) ?_
    refine WpL.sk ?_
    refine WpL.sk ?_
    refine WpL.sk ?_
    refine WpL.sk ?_
    refine WpL.v (V.pT) ?_
    refine WpL.v (V.mv) ?_
    refine WpL.sk ?_
    refine WpL.sk ?_
    refine WpL.v (V.pT) ?_
    refine WpL.v (V.mv) ?_
    refine WpL.sk ?_
    refine WpL.sk ?_
    refine WpL.sk ?_
    refine WpL.v (V.pT) ?_
    refine WpL.v (V.mv) ?_
    refine WpL.sk ?_
    refine WpL.sk ?_
    refine WpL.sk ?_
    refine WpL.sk ?_
    refine WpL.v (V.pT) ?_
    refine WpL.v (V.mv) ?_
    refine WpL.sk ?_
    refine WpL.sk ?_
    refine WpL.sk ?_
    refine WpL.v (V.pT) ?_
    refine WpL.v (V.mv) ?_
    refine WpL.sk ?_
    refine WpL.sk ?_
    refine WpL.v (V.pT) ?_
    apply WpL.nil
    apply Out.seqN
    refine Wp.cT ?_
    apply Wp.seq
    apply Wp.region
    refine WpL.v (V.as) ?_
    apply WpL.nil
    apply Out.seqN
    apply Wp.ret
    apply Out.seqR
    refine Out.f1 rfl ResIs.t ⟨?_, rfl⟩
    exact rfl
open Go Go.ChangeShapes Go.WideShapes Go.ChangeAt Go.RowKit
theorem rescueFast_read : (Try.f5.params.toList.all fun t => Try.prog.readableRec t && decide (t < Try.prog.types.size)) = true := by kernel_rfl
theorem rescueFast_lifted (os : Go.Os) (started : os.Started) (H : Type) (enc : Go.TypeId × Go.Value → H) :
    ReturnsInHanded {} Try.checked os 5 .any (Rows.rescueFastSpec.pre6 enc Try.prog Try.f5 Rows.rescueFastRow.domain false) (Rows.rescueFastSpec.post enc Try.prog Try.f5 false true false false) := by
  refine returnsInHanded_of_change_sized (C := Try.checked) own started (by kernel_rfl) Try.func5
    (ChangeSpec.witness6 (enc := enc) (C := Try.checked) false ⟨#[], #[I 0, A TItem.z.c, A TCall.z.c, I 0, A TMsg.z.c, .slice none 0 0], []⟩ 8 (by kernel_rfl) (by kernel_rfl) (by kernel_rfl) (by kernel_rfl)) ?_
  intro W base args ds gs before hval0 hW hcnd hsz0 _
  have hsz : (DataW.weightsEach Try.prog (Try.f5.params.toList ++ Rows.rescueFastSpec.plain.varTypes Try.prog) (ds ++ gs)).all (· ≤ reachBytes) = true := hsz0
  have hval : ∀ (j : Nat) t v, Try.f5.params[j]? = some t → args[j]? = some v → Value.okWide Try.prog W .any base t v := hval0
  have hW' := hW
  obtain ⟨p, q, hA0, hV, rfl, hfz, hnd⟩ := hW
  have hA1 : DataW.TrodAll enc Try.prog W 0 (fun _ => true) true Try.f5.params.toList args.toList ds p := hA0
  have hA := hA1
  rw [Try.params5] at hA hval hsz
  obtain ⟨v0, vs0, d0, ds0, p0, q0, hargs, rfl, rfl, h0, r0⟩ := trodAll_cons hA
  obtain ⟨v1, vs1, d1, ds1, p1, q1, rfl, rfl, rfl, h1, r1⟩ := trodAll_cons r0
  obtain ⟨v2, vs2, d2, ds2, p2, q2, rfl, rfl, rfl, h2, r2⟩ := trodAll_cons r1
  obtain ⟨v3, vs3, d3, ds3, p3, q3, rfl, rfl, rfl, h3, r3⟩ := trodAll_cons r2
  obtain ⟨v4, vs4, d4, ds4, p4, q4, rfl, rfl, rfl, h4, r4⟩ := trodAll_cons r3
  obtain ⟨v5, vs5, d5, ds5, p5, q5, rfl, rfl, rfl, h5, r5⟩ := trodAll_cons r4
  obtain ⟨rfl, rfl, rfl⟩ := trodAll_nil r5
  obtain rfl : args = #[v0, v1, v2, v3, v4, v5] := by cases args; simp_all
  obtain ⟨rfl, rfl⟩ := trodVars_none hV
  obtain ⟨x0, rfl, rfl, rfl, w0⟩ := open_int Try.underlying3 (hval 0 3 v0 rfl rfl) h0
  obtain ⟨c1, rfl, f1⟩ := open_plain TItem.leaves ⟨_, Try.underlying23⟩ (hval 1 23 v1 rfl rfl) h1 (sizedAll hsz 1 rfl rfl)
  obtain ⟨x1, rfl, w1⟩ := TItem.fit f1
  obtain ⟨c2, rfl, f2⟩ := open_plain TCall.leaves ⟨_, Try.underlying33⟩ (hval 2 33 v2 rfl rfl) h2 (sizedAll hsz 2 rfl rfl)
  obtain ⟨x2, rfl, w2⟩ := TCall.fit f2
  obtain ⟨x3, rfl, rfl, rfl, w3⟩ := open_int Try.underlying3 (hval 3 3 v3 rfl rfl) h3
  obtain ⟨c4, rfl, f4⟩ := open_plain TMsg.leaves ⟨_, Try.underlying44⟩ (hval 4 44 v4 rfl rfl) h4 (sizedAll hsz 4 rfl rfl)
  obtain ⟨x4, rfl, w4⟩ := TMsg.fit f4
  obtain ⟨ao5, b5, off5, len5, cap5, xs5, rfl, hl5, hlc5, hcm5, ha5, hs5, hf5, hby5⟩ := open_slice_plain Try.underlying41 IntT.leaves (by kernel_rfl) (by decide) (hval 5 41 v5 rfl rfl) h5 (sizedAll hsz 5 rfl rfl)
  obtain ⟨x5, rfl, w5⟩ := fits_map IntT.c IntT.wf hf5 IntT.fit
  obtain rfl : len5 = x5.length := by simpa using hl5.symm
  simp only [List.append_nil] at hW' hA1
  have hbl : ∀ p : Nat × Nat, p ∈ [(x5.length, b5)] → 0 < p.1 → p.2 < W.heap.size := by
    intro p hp h0
    simp only [List.mem_cons, List.mem_nil_iff, or_false] at hp
    rcases hp with rfl
    · exact (ha5 h0).2
  have hR5 : Rd (snap W (blocksOf [(x5.length, b5)])) ao5 x5.length b5 off5 1 (x5.map IntT.c) := Rd.snap (by simp) (Nat.le_trans hlc5 hcm5) ha5 hs5 (fun h => blocksOf_mem (len := x5.length) (by simp) h)
  refine (Ct.runSnap (blocksOf_nodup _) (blocksOf_lt hbl) (rescueFast_walk _ _ _ _ _ x0 x1 x2 x3 x4 x5 hR5 (In.i64 w0).2)).mono fun e W' hh => ?_
  obtain ⟨rfl, hS⟩ := hh
  exact ⟨_, rfl, post_law (P := Try.prog) (f := Try.f5) (tbool := 4) hW' hA1 rfl rfl hS laid rescueFast_read rfl Try.underlying4⟩
theorem rescueFast_joined : joinedFacts Try.prog 5 Try.f5 Rows.rescueFastSpec Rows.rescueFastRow = true := by
  unfold joinedFacts
  rewrite [head_enter, head_lift, head_make]
  kernel_rfl
theorem rescueFast_over : Rows.rescueFastRow.holds Try.pinned (OpenSpec.ofChange Rows.rescueFastSpec) :=
  OpenClaim.holds_of_wide 5 Try.f5 rfl rfl rfl rfl rfl rfl rfl ⟨rfl, rfl, rfl, rfl, rfl⟩ rfl rfl rfl rfl rfl (by kernel_rfl) Try.func5 rescueFast_joined
    (of_decide_eq_true (by kernel_rfl)) (by unfold Func.isWrapper; first | (rw [if_pos (by decide +kernel)]; kernel_rfl) | (rw [if_neg (by decide +kernel)]; exact ⟨rfl, rfl⟩))
    (fun os started H enc _ => rescueFast_lifted os started H enc)
/-- THE STATEMENT. -/
theorem rescueFast_proved : Rows.RescueFastSaid := rescueFast_over
#print axioms rescueFast_proved

end Go.Proofs.Ythoepbbpmdmfeaa
