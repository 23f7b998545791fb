/-
  Layer 10: the document's wheel.
-/
import Derived.Test.YthoepbbpmdmfeaaTypes
import Derived.Test.YthoepbbpmdmfeaaHeapG
import Derived.Test.YthoepbbpmdmfeaaHeapK
namespace Go.Proofs.Ythoepbbpmdmfeaa
open Go.HL
set_option linter.unusedSimpArgs false
set_option linter.unusedVariables false
set_option maxRecDepth 8000
def rwE (q : Nat) (vk vd : Go.Value) (ks ds : List Int) : List Ent := [cells q 97 (Caucusref10Wheel.c ⟨vk, vd⟩), rows i64c vk 3 1 ks, rows i64c vd 3 1 ds]
def rfx (key : Int) (ks : List Int) : Option Nat := ks.findIdx? fun k => decide (k = key)
def rix (key : Int) (ks : List Int) : Int := match rfx key ks with | some i => (i : Int) | none => -1
theorem rfx_at {key : Int} {l : List Int} {i : Nat} (hx : l[i]? = some key) (h : ∀ (j : Nat) (y : Int), j < i → l[j]? = some y → y ≠ key) : rfx key l = some i := by
  obtain ⟨h1, h0⟩ := List.getElem?_eq_some_iff.1 hx
  exact List.findIdx?_eq_some_iff_getElem.2 ⟨h1, by simpa using h0, fun j hj => by simpa using h j _ hj (List.getElem?_eq_getElem (by omega))⟩
theorem rfx_no {key : Int} {l : List Int} (h : ∀ (j : Nat) (y : Int), l[j]? = some y → y ≠ key) : rfx key l = none := by
  rw [rfx, List.findIdx?_eq_none_iff]
  intro y hy
  obtain ⟨j, hj⟩ := List.getElem?_of_mem hy
  simpa using h j y hj
theorem rfx_some {key : Int} {l : List Int} {i : Nat} (h : rfx key l = some i) : l[i]? = some key ∧ ∀ (j : Nat) (y : Int), j < i → l[j]? = some y → y ≠ key := by
  obtain ⟨h1, h2, h3⟩ := List.findIdx?_eq_some_iff_getElem.1 h
  refine ⟨by rw [List.getElem?_eq_getElem h1]; simpa using h2, fun j y hj hy => ?_⟩
  obtain ⟨h4, rfl⟩ := List.getElem?_eq_some_iff.1 hy
  simpa using h3 j hj
theorem rowAt {v : Go.Value} {l : List Int} {i : Nat} (hi : i < l.length) (h : (v = .slice none 0 0 ∧ l = []) ∨ ∃ g cap, v = .slice (some ⟨g, 0, none⟩) l.length cap ∧ l.length ≤ cap ∧ cap ≤ Go.maxLen) : ∃ g cap, v = .slice (some ⟨g, 0, none⟩) l.length cap := by
  rcases h with ⟨_, rfl⟩ | ⟨g, cap, rfl, _⟩
  · simp at hi
  · exact ⟨g, cap, rfl⟩
theorem ref_at (q : Nat) (vk vd : Go.Value) (ks ds : List Int) (key : Int) (hm : ks.length ≤ 100000) :
    Ct Try.prog 58 [Ptr q 0, I key] (rwE q vk vd ks ds) (fun r σ' => r = I (rix key ks) ∧ σ' = rwE q vk vd ks ds) := by
  unfold rwE
  refine Ct.enter Try.func58 rfl rfl fun W => ?_
  refine Wp.fact (rowsForm (List.Mem.tail _ (List.Mem.head _))) fun hform => ?_
  apply Wp.seq
  apply Wp.region
  refine WpL.v (V.as) ?_
  apply WpL.nil
  apply Out.seqN
  apply Wp.seq
  apply Wp.seq
  apply Wp.region
  refine WpL.v (V.mv) ?_
  refine WpL.v (V.nc) ?_
  refine WpL.v (V.fa tb) ?_
  refine WpL.v (V.ld1 tb) ?_
  refine WpL.v (V.lenRows tb) ?_
  refine WpL.v (V.mv) ?_
  apply WpL.nil
  apply Out.seqN
  apply Wp.block
  refine Wp.lp [11, 10, 1] (fun i : Nat => i ≤ ks.length ∧ ∀ (j : Nat) (y : Int), j < i → ks[j]? = some y → y ≠ key) (fun i => [(12, I (i : Int))]) (fun _ => []) (fun i => ks.length - i) 0 ⟨Nat.zero_le _, fun j y h => absurd h (Nat.not_lt_zero _)⟩ ?_
  rintro i ⟨hi, hno⟩ K hK
  dsimp only [List.cons_append, List.nil_append]
  by_cases hlt : i < ks.length
  · obtain ⟨x, hx⟩ := getS hlt
    obtain ⟨g, cap, rfl⟩ := rowAt hlt hform
    by_cases hk : x = key
    · subst hk
      have hfi : rix x ks = (i : Int) := by unfold rix; rw [rfx_at hx hno]
      rw [hfi]
      apply Wp.seq
      apply Wp.region
      refine WpL.v (V.cmp) ?_
      apply WpL.nil
      apply Out.seqN
      apply Wp.seq
      refine Wp.c (fun h0 => ?_) (fun h0 => ?_)
      (try simp only [decide_eq_true_eq, decide_eq_false_iff_not, Bool.not_eq_true', Bool.not_eq_false', Bool.not_eq_true, Bool.not_eq_false, not_true_eq_false, not_false_eq_true, reduceCtorEq] at h0)
      apply Wp.skip
      apply Out.seqN
      apply Wp.seq
      apply Wp.block
      apply Wp.seq
      apply Wp.region
      refine WpL.v (V.mv) ?_
      refine WpL.v (V.ixk tb (k := i) rfl rfl rfl rfl (by omega)) ?_
      refine WpL.v (V.ldRow1 tb rfl (by (repeat first | exact List.Mem.head _ | apply List.Mem.tail)) (fun _ => rfl) hx) ?_
      refine WpL.v (V.as) ?_
      refine WpL.v (V.as) ?_
      apply WpL.nil
      apply Out.seqN
      apply Wp.seq
      apply Wp.region
      refine WpL.v (V.mv) ?_
      refine WpL.v (V.mv) ?_
      refine WpL.v (V.cmp) ?_
      apply WpL.nil
      apply Out.seqN
      refine Wp.c (fun h1 => ?_) (fun h1 => ?_)
      (try simp only [decide_eq_true_eq, decide_eq_false_iff_not, Bool.not_eq_true', Bool.not_eq_false', Bool.not_eq_true, Bool.not_eq_false, not_true_eq_false, not_false_eq_true, reduceCtorEq] at h1)
      apply Wp.seq
      apply Wp.region
      refine WpL.v (V.mv) ?_
      refine WpL.v (V.as) ?_
      apply WpL.nil
      apply Out.seqN
      apply Wp.ret
      apply Out.blockR
      apply Out.seqR
      apply Out.seqR
      apply Out.blockR
      apply Out.seqR
      refine Out.f1 rfl ResIs.t ⟨?_, rfl⟩
      exact rfl
      (try simp only [decide_eq_true_eq, decide_eq_false_iff_not, Bool.not_eq_true', Bool.not_eq_false', Bool.not_eq_true, Bool.not_eq_false, not_true_eq_false, not_false_eq_true, reduceCtorEq] at h1)
      (try simp only [decide_eq_true_eq, decide_eq_false_iff_not, Bool.not_eq_true', Bool.not_eq_false', Bool.not_eq_true, Bool.not_eq_false, not_true_eq_false, not_false_eq_true, reduceCtorEq] at h0)
      (exfalso; omega)
    · have e1 : cmpI .eql x key = some false := by simp [cmpI, hk]
      apply Wp.seq
      apply Wp.region
      refine WpL.v (V.cmp) ?_
      apply WpL.nil
      apply Out.seqN
      apply Wp.seq
      refine Wp.c (fun h0 => ?_) (fun h0 => ?_)
      (try simp only [decide_eq_true_eq, decide_eq_false_iff_not, Bool.not_eq_true', Bool.not_eq_false', Bool.not_eq_true, Bool.not_eq_false, not_true_eq_false, not_false_eq_true, reduceCtorEq] at h0)
      apply Wp.skip
      apply Out.seqN
      apply Wp.seq
      apply Wp.block
      apply Wp.seq
      apply Wp.region
      refine WpL.v (V.mv) ?_
      refine WpL.v (V.ixk tb (k := i) rfl rfl rfl rfl (by omega)) ?_
      refine WpL.v (V.ldRow1 tb rfl (by (repeat first | exact List.Mem.head _ | apply List.Mem.tail)) (fun _ => rfl) hx) ?_
      refine WpL.v (V.as) ?_
      refine WpL.v (V.as) ?_
      apply WpL.nil
      apply Out.seqN
      apply Wp.seq
      apply Wp.region
      refine WpL.v (V.mv) ?_
      refine WpL.v (V.mv) ?_
      refine WpL.v (V.cmp rfl rfl e1) ?_
      apply WpL.nil
      apply Out.seqN
      refine Wp.cF ?_
      apply Wp.skip
      apply Out.blockN
      apply Out.seqN
      apply Wp.region
      refine WpL.v (V.add) ?_
      refine WpL.v (V.mv) ?_
      apply WpL.nil
      rotate_left
      (try simp only [decide_eq_true_eq, decide_eq_false_iff_not, Bool.not_eq_true', Bool.not_eq_false', Bool.not_eq_true, Bool.not_eq_false, not_true_eq_false, not_false_eq_true, reduceCtorEq] at h0)
      (exfalso; omega)
      exact Out.ag hK (i + 1) ⟨by omega, fun j y hj hy => by
        by_cases hji : j = i
        · subst hji; rw [hx] at hy; rw [← Option.some.inj hy]; exact hk
        · exact hno j y (by omega) hy⟩ (by show ks.length - (i + 1) < ks.length - i; omega)
  · have hfi : rix key ks = -1 := by
      unfold rix
      rw [rfx_no fun j y hy => hno j y (by have := (List.getElem?_eq_some_iff.1 hy).1; omega) hy]
    rw [hfi]
    apply Wp.seq
    apply Wp.region
    refine WpL.v (V.cmp) ?_
    apply WpL.nil
    apply Out.seqN
    apply Wp.seq
    refine Wp.c (fun h0 => ?_) (fun h0 => ?_)
    (try simp only [decide_eq_true_eq, decide_eq_false_iff_not, Bool.not_eq_true', Bool.not_eq_false', Bool.not_eq_true, Bool.not_eq_false, not_true_eq_false, not_false_eq_true, reduceCtorEq] at h0)
    (exfalso; omega)
    (try simp only [decide_eq_true_eq, decide_eq_false_iff_not, Bool.not_eq_true', Bool.not_eq_false', Bool.not_eq_true, Bool.not_eq_false, not_true_eq_false, not_false_eq_true, reduceCtorEq] at h0)
    apply Wp.exit
    apply Out.seqE
    apply Out.seqE
    apply Out.blockE
    apply Out.seqN
    apply Wp.seq
    apply Wp.region
    refine WpL.v (V.as) ?_
    apply WpL.nil
    apply Out.seqN
    apply Wp.ret
    refine Out.f1 rfl ResIs.t ⟨?_, rfl⟩
    exact rfl
def wo (a k : Nat) (xs : List Int) : List Int := (xs.take k).eraseIdx a
theorem wo_next {a k : Nat} {xs : List Int} {x : Int} (hx : xs[k]? = some x) (h : k ≠ a) : wo a (k + 1) xs = wo a k xs ++ [x] := by
  have hl := (List.getElem?_eq_some_iff.1 hx).1
  unfold wo
  rw [take_snocS hx]
  have hk : (xs.take k).length = k := by simp; omega
  by_cases ha : a < k
  · rw [List.eraseIdx_append_of_lt_length (by omega)]
  · rw [List.eraseIdx_append_of_length_le (by omega), hk, List.eraseIdx_of_length_le (by simp; omega), List.eraseIdx_of_length_le (by omega)]
theorem wo_same {a : Nat} {xs : List Int} {x : Int} (hx : xs[a]? = some x) : wo a (a + 1) xs = wo a a xs := by
  have hl := (List.getElem?_eq_some_iff.1 hx).1
  unfold wo
  have hk : (xs.take a).length = a := by simp; omega
  rw [take_snocS hx, List.eraseIdx_append_of_length_le (by omega), hk, Nat.sub_self, List.eraseIdx_of_length_le (l := xs.take a) (by omega)]
  simp
theorem wo_le (a k : Nat) (xs : List Int) : (wo a k xs).length ≤ xs.length := by
  unfold wo
  exact Nat.le_trans (List.length_eraseIdx_le _ _) (List.length_take_le' _ _)
theorem wo_all (a : Nat) (xs : List Int) : wo a xs.length xs = xs.eraseIdx a := by unfold wo; rw [List.take_length]
set_option maxHeartbeats 1000000 in
theorem ref_drop (q : Nat) (vk vd : Go.Value) (ks ds : List Int) (key : Int) (hm : ks.length ≤ 100000) (hd : ds.length = ks.length) :
    Ct Try.prog 55 [Ptr q 0, I key] (rwE q vk vd ks ds) (fun r σ' => ∃ wk wd, r = B (rfx key ks).isSome ∧ σ' = rwE q wk wd (match rfx key ks with | some i => ks.eraseIdx i | none => ks) (match rfx key ks with | some i => ds.eraseIdx i | none => ds)) := by
  have hA := ref_at q vk vd ks ds key hm
  unfold rix at hA
  cases hx : rfx key ks with
  | none =>
    rw [hx] at hA
    dsimp only at hA ⊢
    unfold rwE at hA ⊢
    refine Ct.enter Try.func55 rfl rfl fun W => ?_
    apply Wp.seq
    apply Wp.region
    refine WpL.v (V.as) ?_
    apply WpL.nil
    apply Out.seqN
    apply Wp.seq
    apply Wp.region
    refine WpL.v (V.mv) ?_
    refine WpL.v (V.mv) ?_
    refine WpL.o (Op1.callT rfl (hA) (by (repeat (first | exact Sel.nil | exact Rem.here | apply Sel.cons | apply Rem.there))) ?_)
    rintro v0 s1 ⟨rfl, rfl⟩
    refine incat ?_
    refine WpL.v (V.as) ?_
    apply WpL.nil
    apply Out.seqN
    apply Wp.seq
    apply Wp.seq
    apply Wp.region
    refine WpL.v (V.mv) ?_
    refine WpL.v (V.cmp) ?_
    apply WpL.nil
    apply Out.seqN
    refine Wp.cT ?_
    apply Wp.seq
    apply Wp.region
    refine WpL.v (V.as) ?_
    apply WpL.nil
    apply Out.seqN
    apply Wp.ret
    apply Out.seqR
    refine Out.e1 rfl ResIs.t ?_
    focus (exact ⟨_, _, ⟨_, _, rfl, rfl⟩, (by (repeat (first | exact Sel.nil | exact Rem.here | apply Sel.cons | apply Rem.there)))⟩; done)
  | some a =>
    rw [hx] at hA
    obtain ⟨ha, _⟩ := rfx_some hx
    have hal := (List.getElem?_eq_some_iff.1 ha).1
    dsimp only at hA ⊢
    unfold rwE at hA ⊢
    refine Ct.enter Try.func55 rfl rfl fun W => ?_
    refine Wp.fact (rowsForm (List.Mem.tail _ (List.Mem.head _))) fun hform => ?_
    refine Wp.fact (rowsForm (List.Mem.tail _ (List.Mem.tail _ (List.Mem.head _)))) fun hform2 => ?_
    obtain ⟨g, cap, rfl⟩ := rowAt hal hform
    obtain ⟨g2, cap2, rfl⟩ := rowAt (by omega : a < ds.length) hform2
    refine Wp.nilRows i64c 3 1 ?_
    refine Wp.nilRows i64c 3 1 ?_
    apply Wp.seq
    apply Wp.region
    refine WpL.v (V.as) ?_
    apply WpL.nil
    apply Out.seqN
    apply Wp.seq
    apply Wp.region
    refine WpL.v (V.mv) ?_
    refine WpL.v (V.mv) ?_
    refine WpL.o (Op1.callT rfl (hA) (by (repeat (first | exact Sel.nil | exact Rem.here | apply Sel.cons | apply Rem.there))) ?_)
    rintro v0 s1 ⟨rfl, rfl⟩
    refine incat ?_
    refine WpL.v (V.as) ?_
    apply WpL.nil
    apply Out.seqN
    apply Wp.seq
    apply Wp.seq
    apply Wp.region
    refine WpL.v (V.mv) ?_
    refine WpL.v (V.cmp) ?_
    apply WpL.nil
    apply Out.seqN
    refine Wp.c (fun h2 => ?_) (fun h2 => ?_)
    (try simp only [decide_eq_true_eq, decide_eq_false_iff_not, Bool.not_eq_true', Bool.not_eq_false', Bool.not_eq_true, Bool.not_eq_false, not_true_eq_false, not_false_eq_true, reduceCtorEq] at h2)
    (exfalso; omega)
    (try simp only [decide_eq_true_eq, decide_eq_false_iff_not, Bool.not_eq_true', Bool.not_eq_false', Bool.not_eq_true, Bool.not_eq_false, not_true_eq_false, not_false_eq_true, reduceCtorEq] at h2)
    apply Wp.skip
    apply Out.seqN
    apply Wp.seq
    apply Wp.region
    refine WpL.v (V.as) ?_
    apply WpL.nil
    apply Out.seqN
    apply Wp.seq
    apply Wp.region
    refine WpL.v (V.as) ?_
    apply WpL.nil
    apply Out.seqN
    apply Wp.seq
    apply Wp.seq
    apply Wp.region
    refine WpL.v (V.mv) ?_
    refine WpL.v (V.nc) ?_
    refine WpL.v (V.fa tb) ?_
    refine WpL.v (V.ld1 tb) ?_
    refine WpL.v (V.lenL tb) ?_
    refine WpL.v (V.mv) ?_
    apply WpL.nil
    apply Out.seqN
    apply Wp.block
    refine Wp.lp [18, 5, 0] (fun y : Nat × Go.Value × Go.Value => y.1 ≤ ks.length ∧ y.2.1.oneCell' = true ∧ y.2.2.oneCell' = true) (fun y => [(19, I (y.1 : Int)), (7, y.2.2), (6, y.2.1)]) (fun y => [rows i64c y.2.1 3 1 (wo a y.1 ks), rows i64c y.2.2 3 1 (wo a y.1 ds)]) (fun y => ks.length - y.1) (0, .slice none 0 0, .slice none 0 0) ⟨Nat.zero_le _, rfl, rfl⟩ ?_
    rintro ⟨i, v1, v2⟩ ⟨hi, ho1, ho2⟩ K hK
    dsimp only at hi ho1 ho2
    dsimp only [List.cons_append, List.nil_append]
    by_cases hlt : i < ks.length
    · obtain ⟨x, hx1⟩ := getS hlt
      obtain ⟨y, hy1⟩ := getS (by omega : i < ds.length)
      by_cases hia : i = a
      · subst hia
        have e0 : cmpI .neq (i : Int) (i : Int) = some false := by simp [cmpI]
        apply Wp.seq
        apply Wp.region
        refine WpL.v (V.cmp) ?_
        apply WpL.nil
        apply Out.seqN
        apply Wp.seq
        refine Wp.c (fun h0 => ?_) (fun h0 => ?_)
        (try simp only [decide_eq_true_eq, decide_eq_false_iff_not, Bool.not_eq_true', Bool.not_eq_false', Bool.not_eq_true, Bool.not_eq_false, not_true_eq_false, not_false_eq_true, reduceCtorEq] at h0)
        apply Wp.skip
        apply Out.seqN
        apply Wp.seq
        apply Wp.block
        apply Wp.seq
        apply Wp.region
        refine WpL.v (V.mv) ?_
        refine WpL.v (V.as) ?_
        apply WpL.nil
        apply Out.seqN
        apply Wp.seq
        apply Wp.region
        refine WpL.v (V.mv) ?_
        refine WpL.v (V.mv) ?_
        refine WpL.v (V.cmp rfl rfl e0) ?_
        apply WpL.nil
        apply Out.seqN
        refine Wp.cF ?_
        apply Wp.skip
        apply Out.blockN
        apply Out.seqN
        apply Wp.region
        refine WpL.v (V.add) ?_
        refine WpL.v (V.mv) ?_
        apply WpL.nil
        rotate_left
        (try simp only [decide_eq_true_eq, decide_eq_false_iff_not, Bool.not_eq_true', Bool.not_eq_false', Bool.not_eq_true, Bool.not_eq_false, not_true_eq_false, not_false_eq_true, reduceCtorEq] at h0)
        (exfalso; omega)
        exact Out.ag hK (i + 1, v1, v2) ⟨by show i + 1 ≤ _; omega, ho1, ho2⟩ (by show ks.length - (i + 1) < ks.length - i; omega) (hs := by rw [wo_same hx1, wo_same hy1]; (repeat (first | exact Sel.nil | exact Rem.here | apply Sel.cons | apply Rem.there)))
      · have e0 : cmpI .neq (i : Int) (a : Int) = some true := by simp [cmpI]; omega
        have n1 := wo_next hx1 hia
        have n2 := wo_next hy1 hia
        have l1 := wo_le a i ks
        have l2 := wo_le a i ds
        generalize wo a i ks = L1 at *
        generalize wo a i ds = L2 at *
        have hb1 : (L1.length + 1) * 1000 ≤ 1000000000 := by omega
        have hb2 : (L2.length + 1) * 1000 ≤ 1000000000 := by omega
        apply Wp.seq
        apply Wp.region
        refine WpL.v (V.cmp) ?_
        apply WpL.nil
        apply Out.seqN
        apply Wp.seq
        refine Wp.c (fun h0 => ?_) (fun h0 => ?_)
        (try simp only [decide_eq_true_eq, decide_eq_false_iff_not, Bool.not_eq_true', Bool.not_eq_false', Bool.not_eq_true, Bool.not_eq_false, not_true_eq_false, not_false_eq_true, reduceCtorEq] at h0)
        apply Wp.skip
        apply Out.seqN
        apply Wp.seq
        apply Wp.block
        apply Wp.seq
        apply Wp.region
        refine WpL.v (V.mv) ?_
        refine WpL.v (V.as) ?_
        apply WpL.nil
        apply Out.seqN
        apply Wp.seq
        apply Wp.region
        refine WpL.v (V.mv) ?_
        refine WpL.v (V.mv) ?_
        refine WpL.v (V.cmp rfl rfl e0) ?_
        apply WpL.nil
        apply Out.seqN
        refine Wp.cT ?_
        apply Wp.seq
        apply Wp.region
        refine WpL.v (V.mv) ?_
        refine WpL.v (V.mv) ?_
        refine WpL.v (V.nc) ?_
        refine WpL.v (V.fa tb) ?_
        refine WpL.v (V.ld1 tb) ?_
        refine WpL.v (V.mv) ?_
        refine WpL.v (V.ixk tb (k := i) rfl rfl rfl rfl (by omega)) ?_
        refine WpL.v (V.ldRow1 tb rfl (by (repeat first | exact List.Mem.head _ | apply List.Mem.tail)) (fun _ => rfl) hx1) ?_
        refine WpL.o (O.litL tb i64c [x] rfl (PartsFrom.one rfl PartsFrom.nil) rfl rfl (fun p33 => ?_))
        refine WpL.o (O.apL (l := L1) tb rfl rfl (by (intro _; repeat first | exact Upd.here _ _ _ | apply Upd.there)) (SrcL.rows (l := [x]) tb (by (repeat first | exact List.Mem.head _ | apply List.Mem.tail)) ones_i64c) (fun g34 cap34 => ?_))
        refine WpL.v (V.as) ?_
        apply WpL.nil
        apply Out.seqN
        apply Wp.region
        refine WpL.v (V.mv) ?_
        refine WpL.v (V.mv) ?_
        refine WpL.v (V.nc) ?_
        refine WpL.v (V.fa tb) ?_
        refine WpL.v (V.ld1 tb) ?_
        refine WpL.v (V.mv) ?_
        refine WpL.v (V.ixk tb (k := i) rfl rfl rfl rfl (by omega)) ?_
        refine WpL.v (V.ldRow1 tb rfl (by (repeat first | exact List.Mem.head _ | apply List.Mem.tail)) (fun _ => rfl) hy1) ?_
        refine WpL.o (O.litL tb i64c [y] rfl (PartsFrom.one rfl PartsFrom.nil) rfl rfl (fun p43 => ?_))
        refine WpL.o (O.apL (l := L2) tb rfl rfl (by (intro _; repeat first | exact Upd.here _ _ _ | apply Upd.there)) (SrcL.rows (l := [y]) tb (by (repeat first | exact List.Mem.head _ | apply List.Mem.tail)) ones_i64c) (fun g44 cap44 => ?_))
        refine WpL.v (V.as) ?_
        apply WpL.nil
        apply Out.blockN
        apply Out.seqN
        apply Wp.region
        refine WpL.v (V.add) ?_
        refine WpL.v (V.mv) ?_
        apply WpL.nil
        rotate_left
        (try simp only [decide_eq_true_eq, decide_eq_false_iff_not, Bool.not_eq_true', Bool.not_eq_false', Bool.not_eq_true, Bool.not_eq_false, not_true_eq_false, not_false_eq_true, reduceCtorEq] at h0)
        (exfalso; omega)
        exact Out.ag hK (i + 1, _, _) ⟨by show i + 1 ≤ _; omega, rfl, rfl⟩ (by show ks.length - (i + 1) < ks.length - i; omega) (hs := by rw [n1, n2]; (repeat (first | exact Sel.nil | exact Rem.here | apply Sel.cons | apply Rem.there)))
    · obtain rfl : i = ks.length := by omega
      clear hK
      have n1 := wo_all a ks
      have n2 := wo_all a ds
      rw [hd] at n2
      rw [n1, n2]
      apply Wp.seq
      apply Wp.region
      refine WpL.v (V.cmp) ?_
      apply WpL.nil
      apply Out.seqN
      apply Wp.seq
      refine Wp.c (fun h0 => ?_) (fun h0 => ?_)
      (try simp only [decide_eq_true_eq, decide_eq_false_iff_not, Bool.not_eq_true', Bool.not_eq_false', Bool.not_eq_true, Bool.not_eq_false, not_true_eq_false, not_false_eq_true, reduceCtorEq] at h0)
      (exfalso; omega)
      (try simp only [decide_eq_true_eq, decide_eq_false_iff_not, Bool.not_eq_true', Bool.not_eq_false', Bool.not_eq_true, Bool.not_eq_false, not_true_eq_false, not_false_eq_true, reduceCtorEq] at h0)
      apply Wp.exit
      apply Out.seqE
      apply Out.seqE
      apply Out.blockE
      apply Out.seqN
      apply Wp.seq
      apply Wp.region
      refine WpL.v (V.mv) ?_
      refine WpL.v (V.mv) ?_
      refine WpL.v (V.nc) ?_
      refine WpL.v (V.fa tb) ?_
      refine WpL.o (O.st1 tb ?_)
      apply WpL.nil
      apply Out.seqN
      apply Wp.seq
      apply Wp.region
      refine WpL.v (V.mv) ?_
      refine WpL.v (V.mv) ?_
      refine WpL.v (V.nc) ?_
      refine WpL.v (V.fa tb) ?_
      refine WpL.o (O.st1 tb ?_)
      apply WpL.nil
      apply Out.seqN
      apply Wp.seq
      apply Wp.region
      refine WpL.v (V.as) ?_
      apply WpL.nil
      apply Out.seqN
      apply Wp.ret
      refine Out.e1 rfl ResIs.t ?_
      focus (exact ⟨_, _, ⟨_, _, rfl, rfl⟩, (by (repeat (first | exact Sel.nil | exact Rem.here | apply Sel.cons | apply Rem.there)))⟩; done)
def rdel (key : Int) (ks ds : List Int) : List Int × List Int := match rfx key ks with | some i => (ks.eraseIdx i, ds.eraseIdx i) | none => (ks, ds)
theorem rdel_len {key : Int} {ks ds : List Int} (h : ds.length = ks.length) : (rdel key ks ds).2.length = (rdel key ks ds).1.length ∧ (rdel key ks ds).1.length ≤ ks.length := by
  unfold rdel
  cases rfx key ks with
  | none => exact ⟨h, Nat.le_refl _⟩
  | some i =>
    dsimp only
    refine ⟨?_, List.length_eraseIdx_le _ _⟩
    rw [List.length_eraseIdx, List.length_eraseIdx, h]
theorem ref_drop2 (q : Nat) (vk vd : Go.Value) (ks ds : List Int) (key : Int) (hm : ks.length ≤ 100000) (hd : ds.length = ks.length) :
    Ct Try.prog 55 [Ptr q 0, I key] (rwE q vk vd ks ds) (fun r σ' => ∃ wk wd, r = B (rfx key ks).isSome ∧ σ' = rwE q wk wd (rdel key ks ds).1 (rdel key ks ds).2) :=
  (ref_drop q vk vd ks ds key hm hd).mono fun r σ' h => by
    obtain ⟨wk, wd, h1, h2⟩ := h
    refine ⟨wk, wd, h1, ?_⟩
    rw [h2]; unfold rdel
    cases rfx key ks <;> rfl
set_option maxHeartbeats 1000000 in
theorem ref_set (q : Nat) (vk vd : Go.Value) (ks ds : List Int) (key due : Int) (hm : ks.length ≤ 50000) (hd : ds.length = ks.length) :
    Ct Try.prog 50 [Ptr q 0, I key, I due] (rwE q vk vd ks ds) (fun r σ' => ∃ wk wd, r = .tuple #[] ∧ σ' = rwE q wk wd ((rdel key ks ds).1 ++ [key]) ((rdel key ks ds).2 ++ [due])) := by
  have hD := ref_drop2 q vk vd ks ds key (by omega) hd
  obtain ⟨l1, l2⟩ := rdel_len (key := key) hd
  generalize (rdel key ks ds).1 = K1 at *
  generalize (rdel key ks ds).2 = D1 at *
  have hb1 : (K1.length + 1) * 1000 ≤ 1000000000 := by omega
  have hb2 : (D1.length + 1) * 1000 ≤ 1000000000 := by omega
  unfold rwE at hD ⊢
  refine Ct.enter Try.func50 rfl rfl fun W => ?_
  apply Wp.seq
  apply Wp.region
  refine WpL.v (V.mv) ?_
  refine WpL.v (V.mv) ?_
  refine WpL.o (Op1.callT rfl (hD) (by (repeat (first | exact Sel.nil | exact Rem.here | apply Sel.cons | apply Rem.there))) ?_)
  rintro v0 s1 ⟨wk8, ⟨wd8, ⟨rfl, rfl⟩⟩⟩
  refine incat ?_
  apply WpL.nil
  apply Out.seqN
  apply Wp.seq
  apply Wp.region
  refine WpL.v (V.mv) ?_
  refine WpL.v (V.mv) ?_
  refine WpL.v (V.nc) ?_
  refine WpL.v (V.fa tb) ?_
  refine WpL.v (V.ld1 tb) ?_
  refine WpL.v (V.mv) ?_
  refine WpL.o (O.litL tb i64c [key] rfl (PartsFrom.one rfl PartsFrom.nil) rfl rfl (fun p15 => ?_))
  refine WpL.o (O.apL (l := K1) tb rfl rfl (by (intro _; repeat first | exact Upd.here _ _ _ | apply Upd.there)) (SrcL.rows (l := [key]) tb (by (repeat first | exact List.Mem.head _ | apply List.Mem.tail)) ones_i64c) (fun g16 cap16 => ?_))
  refine WpL.v (V.nc) ?_
  refine WpL.v (V.fa tb) ?_
  refine WpL.o (O.st1 tb ?_)
  apply WpL.nil
  apply Out.seqN
  apply Wp.region
  refine WpL.v (V.mv) ?_
  refine WpL.v (V.mv) ?_
  refine WpL.v (V.nc) ?_
  refine WpL.v (V.fa tb) ?_
  refine WpL.v (V.ld1 tb) ?_
  refine WpL.v (V.mv) ?_
  refine WpL.o (O.litL tb i64c [due] rfl (PartsFrom.one rfl PartsFrom.nil) rfl rfl (fun p25 => ?_))
  refine WpL.o (O.apL (l := D1) tb rfl rfl (by (intro _; repeat first | exact Upd.here _ _ _ | apply Upd.there)) (SrcL.rows (l := [due]) tb (by (repeat first | exact List.Mem.head _ | apply List.Mem.tail)) ones_i64c) (fun g26 cap26 => ?_))
  refine WpL.v (V.nc) ?_
  refine WpL.v (V.fa tb) ?_
  refine WpL.o (O.st1 tb ?_)
  apply WpL.nil
  refine Out.e0 rfl  ?_
  focus (exact ⟨_, _, ⟨_, _, rfl, rfl⟩, (by (repeat (first | exact Sel.nil | exact Rem.here | apply Sel.cons | apply Rem.there)))⟩; done)
/-- The first of what is due earliest. -/
structure BestR (ds : List Int) (now : Int) (k : Nat) (b : Option Nat) : Prop where
  no : b = none → ∀ (j : Nat) (d : Int), j < k → ds[j]? = some d → now < d
  at_ : ∀ i, b = some i → i < k ∧ ∃ d, ds[i]? = some d ∧ d ≤ now ∧ ∀ (j : Nat) (e : Int), j < k → ds[j]? = some e → (d ≤ e ∧ (j < i → d < e))
def bI (b : Option Nat) : Int := match b with | some i => (i : Int) | none => -1
theorem BestR.skip {ds : List Int} {now : Int} {k : Nat} {b : Option Nat} (h : BestR ds now k b) {x : Int} (hx : ds[k]? = some x) (hs : now < x ∨ ∃ i d, b = some i ∧ ds[i]? = some d ∧ d ≤ x) : BestR ds now (k + 1) b := by
  refine ⟨fun hb j d hj hd => ?_, fun i hb => ?_⟩
  · by_cases hjk : j = k
    · subst hjk
      rw [hx] at hd
      obtain rfl := Option.some.inj hd
      rcases hs with hs | ⟨i, d, h1, _⟩
      · exact hs
      · rw [hb] at h1; cases h1
    · exact h.no hb j d (by omega) hd
  · obtain ⟨h1, d, h2, h3, h4⟩ := h.at_ i hb
    refine ⟨by omega, d, h2, h3, fun j e hj he => ?_⟩
    by_cases hjk : j = k
    · subst hjk
      rw [hx] at he
      obtain rfl := Option.some.inj he
      refine ⟨?_, fun hji => by omega⟩
      rcases hs with hs | ⟨i', d', h5, h6, h7⟩
      · omega
      · rw [hb] at h5
        obtain rfl := Option.some.inj h5
        rw [h2] at h6
        obtain rfl := Option.some.inj h6
        exact h7
    · exact h4 j e (by omega) he
theorem BestR.take {ds : List Int} {now : Int} {k : Nat} {b : Option Nat} (h : BestR ds now k b) {x : Int} (hx : ds[k]? = some x) (hn : x ≤ now) (hs : b = none ∨ ∃ i d, b = some i ∧ ds[i]? = some d ∧ x < d) : BestR ds now (k + 1) (some k) := by
  refine ⟨(by intro hb; cases hb), fun i hb => ?_⟩
  obtain rfl := Option.some.inj hb
  refine ⟨by omega, x, hx, hn, fun j e hj he => ?_⟩
  by_cases hjk : j = k
  · subst hjk
    rw [hx] at he
    obtain rfl := Option.some.inj he
    exact ⟨Int.le_refl _, fun h => absurd h (Nat.lt_irrefl _)⟩
  · rcases hs with hs | ⟨i, d, h5, h6, h7⟩
    · have := h.no hs j e (by omega) he
      exact ⟨by omega, fun _ => by omega⟩
    · obtain ⟨_, d', h2, _, h4⟩ := h.at_ i h5
      rw [h6] at h2
      obtain rfl := Option.some.inj h2
      have := (h4 j e (by omega) he).1
      exact ⟨by omega, fun _ => by omega⟩
set_option maxHeartbeats 1000000 in
theorem ref_pop (q : Nat) (vk vd : Go.Value) (ks ds : List Int) (now : Int) (hm : ks.length ≤ 50000) (hd : ds.length = ks.length) :
    Ct Try.prog 52 [Ptr q 0, I now] (rwE q vk vd ks ds) (fun r σ' => ∃ b wk wd, BestR ds now ds.length b ∧ ((b = none ∧ r = .tuple #[I 0, B false] ∧ σ' = rwE q wk wd ks ds) ∨ ∃ i key, b = some i ∧ ks[i]? = some key ∧ r = .tuple #[I key, B true] ∧ σ' = rwE q wk wd (rdel key ks ds).1 (rdel key ks ds).2)) := by
  unfold rwE
  refine Ct.enter Try.func52 rfl rfl fun W => ?_
  refine Wp.fact (rowsForm (List.Mem.tail _ (List.Mem.head _))) fun hform => ?_
  refine Wp.fact (rowsForm (List.Mem.tail _ (List.Mem.tail _ (List.Mem.head _)))) fun hform2 => ?_
  apply Wp.seq
  apply Wp.region
  refine WpL.v (V.as) ?_
  refine WpL.v (V.as) ?_
  apply WpL.nil
  apply Out.seqN
  apply Wp.seq
  apply Wp.region
  refine WpL.v (V.as) ?_
  apply WpL.nil
  apply Out.seqN
  apply Wp.seq
  apply Wp.seq
  apply Wp.region
  refine WpL.v (V.mv) ?_
  refine WpL.v (V.nc) ?_
  refine WpL.v (V.fa tb) ?_
  refine WpL.v (V.ld1 tb) ?_
  refine WpL.v (V.lenRows tb) ?_
  refine WpL.v (V.mv) ?_
  apply WpL.nil
  apply Out.seqN
  apply Wp.block
  refine Wp.lp [14, 13, 0, 1] (fun y : Nat × Option Nat => y.1 ≤ ds.length ∧ BestR ds now y.1 y.2) (fun y => [(15, I (y.1 : Int)), (6, I (bI y.2))]) (fun _ => []) (fun y => ds.length - y.1) (0, none) ⟨Nat.zero_le _, ⟨fun _ j d h => absurd h (Nat.not_lt_zero _), fun i h => by cases h⟩⟩ ?_
  rintro ⟨k, b⟩ ⟨hk, hB⟩ K hK
  dsimp only at hk hB
  dsimp only [List.cons_append, List.nil_append]
  by_cases hlt : k < ds.length
  · obtain ⟨x, hx⟩ := getS hlt
    obtain ⟨g, cap, rfl⟩ := rowAt hlt hform2
    by_cases hn : x ≤ now
    · have e1 : cmpI .leq x now = some true := by simp [cmpI, hn]
      cases b with
      | none =>
        have e2 : cmpI .lss (-1) 0 = some true := rfl
        apply Wp.seq
        apply Wp.region
        refine WpL.v (V.cmp) ?_
        apply WpL.nil
        apply Out.seqN
        apply Wp.seq
        refine Wp.c (fun h0 => ?_) (fun h0 => ?_)
        (try simp only [decide_eq_true_eq, decide_eq_false_iff_not, Bool.not_eq_true', Bool.not_eq_false', Bool.not_eq_true, Bool.not_eq_false, not_true_eq_false, not_false_eq_true, reduceCtorEq] at h0)
        apply Wp.skip
        apply Out.seqN
        apply Wp.seq
        apply Wp.block
        apply Wp.seq
        apply Wp.region
        refine WpL.v (V.mv) ?_
        refine WpL.v (V.ixk tb (k := k) rfl rfl rfl rfl (by omega)) ?_
        refine WpL.v (V.ldRow1 tb rfl (by (repeat first | exact List.Mem.head _ | apply List.Mem.tail)) (fun _ => rfl) hx) ?_
        refine WpL.v (V.as) ?_
        refine WpL.v (V.as) ?_
        apply WpL.nil
        apply Out.seqN
        apply Wp.seq
        apply Wp.region
        refine WpL.v (V.mv) ?_
        refine WpL.v (V.mv) ?_
        refine WpL.v (V.cmp rfl rfl e1) ?_
        refine WpL.v (V.mv) ?_
        refine WpL.v (V.mv) ?_
        refine WpL.v (V.cmp) ?_
        refine WpL.v (V.mv) ?_
        refine WpL.sk ?_
        refine WpL.sk ?_
        refine WpL.sk ?_
        refine WpL.sk ?_
        refine WpL.sk ?_
        refine WpL.sk ?_
        refine WpL.sk ?_
        refine WpL.sk ?_
        refine WpL.sk ?_
        refine WpL.v (V.pT) ?_
        refine WpL.v (V.pT) ?_
        apply WpL.nil
        apply Out.seqN
        refine Wp.cT ?_
        apply Wp.region
        refine WpL.v (V.mv) ?_
        refine WpL.v (V.as) ?_
        apply WpL.nil
        apply Out.blockN
        apply Out.seqN
        apply Wp.region
        refine WpL.v (V.add) ?_
        refine WpL.v (V.mv) ?_
        apply WpL.nil
        rotate_left
        (try simp only [decide_eq_true_eq, decide_eq_false_iff_not, Bool.not_eq_true', Bool.not_eq_false', Bool.not_eq_true, Bool.not_eq_false, not_true_eq_false, not_false_eq_true, reduceCtorEq] at h0)
        (exfalso; omega)
        exact Out.ag hK (k + 1, some k) ⟨by show k + 1 ≤ _; omega, hB.take hx hn (.inl rfl)⟩ (by show ds.length - (k + 1) < ds.length - k; omega)
      | some i =>
        obtain ⟨h1, d, h2, h3, h4⟩ := hB.at_ i rfl
        have e2 : cmpI .lss ((i : Nat) : Int) 0 = some false := by simp [cmpI]
        by_cases hxd : x < d
        · have e3 : cmpI .lss x d = some true := by simp [cmpI, hxd]
          apply Wp.seq
          apply Wp.region
          refine WpL.v (V.cmp) ?_
          apply WpL.nil
          apply Out.seqN
          apply Wp.seq
          refine Wp.c (fun h0 => ?_) (fun h0 => ?_)
          (try simp only [decide_eq_true_eq, decide_eq_false_iff_not, Bool.not_eq_true', Bool.not_eq_false', Bool.not_eq_true, Bool.not_eq_false, not_true_eq_false, not_false_eq_true, reduceCtorEq] at h0)
          apply Wp.skip
          apply Out.seqN
          apply Wp.seq
          apply Wp.block
          apply Wp.seq
          apply Wp.region
          refine WpL.v (V.mv) ?_
          refine WpL.v (V.ixk tb (k := k) rfl rfl rfl rfl (by omega)) ?_
          refine WpL.v (V.ldRow1 tb rfl (by (repeat first | exact List.Mem.head _ | apply List.Mem.tail)) (fun _ => rfl) hx) ?_
          refine WpL.v (V.as) ?_
          refine WpL.v (V.as) ?_
          apply WpL.nil
          apply Out.seqN
          apply Wp.seq
          apply Wp.region
          refine WpL.v (V.mv) ?_
          refine WpL.v (V.mv) ?_
          refine WpL.v (V.cmp rfl rfl e1) ?_
          refine WpL.v (V.mv) ?_
          refine WpL.v (V.mv) ?_
          refine WpL.v (V.cmp rfl rfl e2) ?_
          refine WpL.v (V.mv) ?_
          refine WpL.v (V.mv) ?_
          refine WpL.v (V.mv) ?_
          refine WpL.v (V.nc) ?_
          refine WpL.v (V.fa tb) ?_
          refine WpL.v (V.ld1 tb) ?_
          refine WpL.v (V.mv) ?_
          refine WpL.v (V.ixk tb (k := i) rfl rfl rfl rfl (by omega)) ?_
          refine WpL.v (V.ldRow1 tb rfl (by (repeat first | exact List.Mem.head _ | apply List.Mem.tail)) (fun _ => rfl) h2) ?_
          refine WpL.v (V.cmp rfl rfl e3) ?_
          refine WpL.v (V.pF) ?_
          refine WpL.v (V.pT) ?_
          apply WpL.nil
          apply Out.seqN
          refine Wp.cT ?_
          apply Wp.region
          refine WpL.v (V.mv) ?_
          refine WpL.v (V.as) ?_
          apply WpL.nil
          apply Out.blockN
          apply Out.seqN
          apply Wp.region
          refine WpL.v (V.add) ?_
          refine WpL.v (V.mv) ?_
          apply WpL.nil
          rotate_left
          (try simp only [decide_eq_true_eq, decide_eq_false_iff_not, Bool.not_eq_true', Bool.not_eq_false', Bool.not_eq_true, Bool.not_eq_false, not_true_eq_false, not_false_eq_true, reduceCtorEq] at h0)
          (exfalso; omega)
          exact Out.ag hK (k + 1, some k) ⟨by show k + 1 ≤ _; omega, hB.take hx hn (.inr ⟨i, d, rfl, h2, hxd⟩)⟩ (by show ds.length - (k + 1) < ds.length - k; omega)
        · have e3 : cmpI .lss x d = some false := by simp [cmpI]; omega
          apply Wp.seq
          apply Wp.region
          refine WpL.v (V.cmp) ?_
          apply WpL.nil
          apply Out.seqN
          apply Wp.seq
          refine Wp.c (fun h0 => ?_) (fun h0 => ?_)
          (try simp only [decide_eq_true_eq, decide_eq_false_iff_not, Bool.not_eq_true', Bool.not_eq_false', Bool.not_eq_true, Bool.not_eq_false, not_true_eq_false, not_false_eq_true, reduceCtorEq] at h0)
          apply Wp.skip
          apply Out.seqN
          apply Wp.seq
          apply Wp.block
          apply Wp.seq
          apply Wp.region
          refine WpL.v (V.mv) ?_
          refine WpL.v (V.ixk tb (k := k) rfl rfl rfl rfl (by omega)) ?_
          refine WpL.v (V.ldRow1 tb rfl (by (repeat first | exact List.Mem.head _ | apply List.Mem.tail)) (fun _ => rfl) hx) ?_
          refine WpL.v (V.as) ?_
          refine WpL.v (V.as) ?_
          apply WpL.nil
          apply Out.seqN
          apply Wp.seq
          apply Wp.region
          refine WpL.v (V.mv) ?_
          refine WpL.v (V.mv) ?_
          refine WpL.v (V.cmp rfl rfl e1) ?_
          refine WpL.v (V.mv) ?_
          refine WpL.v (V.mv) ?_
          refine WpL.v (V.cmp rfl rfl e2) ?_
          refine WpL.v (V.mv) ?_
          refine WpL.v (V.mv) ?_
          refine WpL.v (V.mv) ?_
          refine WpL.v (V.nc) ?_
          refine WpL.v (V.fa tb) ?_
          refine WpL.v (V.ld1 tb) ?_
          refine WpL.v (V.mv) ?_
          refine WpL.v (V.ixk tb (k := i) rfl rfl rfl rfl (by omega)) ?_
          refine WpL.v (V.ldRow1 tb rfl (by (repeat first | exact List.Mem.head _ | apply List.Mem.tail)) (fun _ => rfl) h2) ?_
          refine WpL.v (V.cmp rfl rfl e3) ?_
          refine WpL.v (V.pF) ?_
          refine WpL.v (V.pT) ?_
          apply WpL.nil
          apply Out.seqN
          refine Wp.cF ?_
          apply Wp.skip
          apply Out.blockN
          apply Out.seqN
          apply Wp.region
          refine WpL.v (V.add) ?_
          refine WpL.v (V.mv) ?_
          apply WpL.nil
          rotate_left
          (try simp only [decide_eq_true_eq, decide_eq_false_iff_not, Bool.not_eq_true', Bool.not_eq_false', Bool.not_eq_true, Bool.not_eq_false, not_true_eq_false, not_false_eq_true, reduceCtorEq] at h0)
          (exfalso; omega)
          exact Out.ag hK (k + 1, some i) ⟨by show k + 1 ≤ _; omega, hB.skip hx (.inr ⟨i, d, rfl, h2, by omega⟩)⟩ (by show ds.length - (k + 1) < ds.length - k; omega)
    · have e1 : cmpI .leq x now = some false := by simp [cmpI]; omega
      apply Wp.seq
      apply Wp.region
      refine WpL.v (V.cmp) ?_
      apply WpL.nil
      apply Out.seqN
      apply Wp.seq
      refine Wp.c (fun h0 => ?_) (fun h0 => ?_)
      (try simp only [decide_eq_true_eq, decide_eq_false_iff_not, Bool.not_eq_true', Bool.not_eq_false', Bool.not_eq_true, Bool.not_eq_false, not_true_eq_false, not_false_eq_true, reduceCtorEq] at h0)
      apply Wp.skip
      apply Out.seqN
      apply Wp.seq
      apply Wp.block
      apply Wp.seq
      apply Wp.region
      refine WpL.v (V.mv) ?_
      refine WpL.v (V.ixk tb (k := k) rfl rfl rfl rfl (by omega)) ?_
      refine WpL.v (V.ldRow1 tb rfl (by (repeat first | exact List.Mem.head _ | apply List.Mem.tail)) (fun _ => rfl) hx) ?_
      refine WpL.v (V.as) ?_
      refine WpL.v (V.as) ?_
      apply WpL.nil
      apply Out.seqN
      apply Wp.seq
      apply Wp.region
      refine WpL.v (V.mv) ?_
      refine WpL.v (V.mv) ?_
      refine WpL.v (V.cmp rfl rfl e1) ?_
      refine WpL.v (V.mv) ?_
      refine WpL.sk ?_
      refine WpL.sk ?_
      refine WpL.sk ?_
      refine WpL.sk ?_
      refine WpL.sk ?_
      refine WpL.sk ?_
      refine WpL.sk ?_
      refine WpL.sk ?_
      refine WpL.sk ?_
      refine WpL.sk ?_
      refine WpL.sk ?_
      refine WpL.sk ?_
      refine WpL.sk ?_
      refine WpL.v (V.pF) ?_
      apply WpL.nil
      apply Out.seqN
      refine Wp.cF ?_
      apply Wp.skip
      apply Out.blockN
      apply Out.seqN
      apply Wp.region
      refine WpL.v (V.add) ?_
      refine WpL.v (V.mv) ?_
      apply WpL.nil
      rotate_left
      (try simp only [decide_eq_true_eq, decide_eq_false_iff_not, Bool.not_eq_true', Bool.not_eq_false', Bool.not_eq_true, Bool.not_eq_false, not_true_eq_false, not_false_eq_true, reduceCtorEq] at h0)
      (exfalso; omega)
      exact Out.ag hK (k + 1, b) ⟨by show k + 1 ≤ _; omega, hB.skip hx (.inl (by omega))⟩ (by show ds.length - (k + 1) < ds.length - k; omega)
  · obtain rfl : k = ds.length := by omega
    clear hK
    cases b with
    | none =>
      apply Wp.seq
      apply Wp.region
      refine WpL.v (V.cmp) ?_
      apply WpL.nil
      apply Out.seqN
      apply Wp.seq
      refine Wp.c (fun h0 => ?_) (fun h0 => ?_)
      (try simp only [decide_eq_true_eq, decide_eq_false_iff_not, Bool.not_eq_true', Bool.not_eq_false', Bool.not_eq_true, Bool.not_eq_false, not_true_eq_false, not_false_eq_true, reduceCtorEq] at h0)
      (exfalso; omega)
      (try simp only [decide_eq_true_eq, decide_eq_false_iff_not, Bool.not_eq_true', Bool.not_eq_false', Bool.not_eq_true, Bool.not_eq_false, not_true_eq_false, not_false_eq_true, reduceCtorEq] at h0)
      apply Wp.exit
      apply Out.seqE
      apply Out.seqE
      apply Out.blockE
      apply Out.seqN
      apply Wp.seq
      apply Wp.seq
      apply Wp.region
      refine WpL.v (V.mv) ?_
      refine WpL.v (V.cmp) ?_
      apply WpL.nil
      apply Out.seqN
      refine Wp.cT ?_
      apply Wp.seq
      apply Wp.region
      refine WpL.v (V.as) ?_
      refine WpL.v (V.as) ?_
      apply WpL.nil
      apply Out.seqN
      apply Wp.ret
      apply Out.seqR
      refine Out.e2 rfl ResIs.t ResIs.t ?_
      focus (exact ⟨_, _, ⟨none, _, _, hB, .inl ⟨rfl, rfl, rfl⟩⟩, (by (repeat (first | exact Sel.nil | exact Rem.here | apply Sel.cons | apply Rem.there)))⟩; done)
    | some i =>
      obtain ⟨h1, d, h2, h3, h4⟩ := hB.at_ i rfl
      obtain ⟨key, hkey⟩ := getS (by omega : i < ks.length)
      obtain ⟨g, cap, rfl⟩ := rowAt (by omega : i < ks.length) hform
      have e2 : cmpI .lss ((i : Nat) : Int) 0 = some false := by simp [cmpI]
      have hD := ref_drop2 q (.slice (some ⟨g, 0, none⟩) ks.length cap) vd ks ds key (by omega) hd
      unfold rwE at hD
      apply Wp.seq
      apply Wp.region
      refine WpL.v (V.cmp) ?_
      apply WpL.nil
      apply Out.seqN
      apply Wp.seq
      refine Wp.c (fun h0 => ?_) (fun h0 => ?_)
      (try simp only [decide_eq_true_eq, decide_eq_false_iff_not, Bool.not_eq_true', Bool.not_eq_false', Bool.not_eq_true, Bool.not_eq_false, not_true_eq_false, not_false_eq_true, reduceCtorEq] at h0)
      (exfalso; omega)
      (try simp only [decide_eq_true_eq, decide_eq_false_iff_not, Bool.not_eq_true', Bool.not_eq_false', Bool.not_eq_true, Bool.not_eq_false, not_true_eq_false, not_false_eq_true, reduceCtorEq] at h0)
      apply Wp.exit
      apply Out.seqE
      apply Out.seqE
      apply Out.blockE
      apply Out.seqN
      apply Wp.seq
      apply Wp.seq
      apply Wp.region
      refine WpL.v (V.mv) ?_
      refine WpL.v (V.cmp rfl rfl e2) ?_
      apply WpL.nil
      apply Out.seqN
      refine Wp.cF ?_
      apply Wp.skip
      apply Out.seqN
      apply Wp.seq
      apply Wp.region
      refine WpL.v (V.mv) ?_
      refine WpL.v (V.nc) ?_
      refine WpL.v (V.fa tb) ?_
      refine WpL.v (V.ld1 tb) ?_
      refine WpL.v (V.mv) ?_
      refine WpL.v (V.ixk tb (k := i) rfl rfl rfl rfl (by omega)) ?_
      refine WpL.v (V.ldRow1 tb rfl (by (repeat first | exact List.Mem.head _ | apply List.Mem.tail)) (fun _ => rfl) hkey) ?_
      refine WpL.v (V.as) ?_
      apply WpL.nil
      apply Out.seqN
      apply Wp.seq
      apply Wp.region
      refine WpL.v (V.mv) ?_
      refine WpL.v (V.mv) ?_
      refine WpL.o (Op1.callT rfl (hD) (by (repeat (first | exact Sel.nil | exact Rem.here | apply Sel.cons | apply Rem.there))) ?_)
      rintro v1 s2 ⟨wk51, ⟨wd51, ⟨rfl, rfl⟩⟩⟩
      refine incat ?_
      apply WpL.nil
      apply Out.seqN
      apply Wp.seq
      apply Wp.region
      refine WpL.v (V.mv) ?_
      refine WpL.v (V.as) ?_
      refine WpL.v (V.as) ?_
      apply WpL.nil
      apply Out.seqN
      apply Wp.ret
      refine Out.e2 rfl ResIs.t ResIs.t ?_
      focus (exact ⟨_, _, ⟨some i, _, _, hB, .inr ⟨i, key, rfl, hkey, rfl, rfl⟩⟩, (by (repeat (first | exact Sel.nil | exact Rem.here | apply Sel.cons | apply Rem.there)))⟩; done)
end Go.Proofs.Ythoepbbpmdmfeaa
