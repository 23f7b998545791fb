/-
  The statement PaceGrows of layer 17: each time an item was taken over it is watched for longer, four times, then for as long; it is due just then. Proved for every input.
-/
import Derived.Test.YthoepbbpmdmfeaaHead
import Derived.Test.YthoepbbpmdmfeaaPace3
import Derived.Test.YthoepbbpmdmfeaaHeapM
namespace Go.Proofs.Ythoepbbpmdmfeaa
open Go.HL
set_option linter.unusedSimpArgs false
set_option linter.unusedVariables false
set_option maxRecDepth 8000
theorem waitV_up {n self rep : Int} (hn : 1 ≤ n) (i : Nat) (h : i < 4) : waitV n self rep (i : Int) < waitV n self rep ((i + 1 : Nat) : Int) := by
  unfold waitV
  rw [if_neg (by omega), if_neg (by omega)]
  have h1 := Int.emod_nonneg (self - rep) (by omega : n ≠ 0)
  generalize (self - rep) % n = far at *
  have e1 : tk (i : Int) = i := by unfold tk; omega
  have e2 : tk ((i + 1 : Nat) : Int) = i + 1 := by unfold tk; omega
  rw [e1, e2]
  rcases (by omega : i = 0 ∨ i = 1 ∨ i = 2 ∨ i = 3) with rfl | rfl | rfl | rfl <;> simp <;> omega
theorem waitV_top {n self rep : Int} (i : Nat) (h : 4 ≤ i) : waitV n self rep ((i + 1 : Nat) : Int) = waitV n self rep (i : Int) := by
  unfold waitV
  rw [show tk ((i + 1 : Nat) : Int) = tk (i : Int) by unfold tk; omega]
theorem seeL_two (n self now : Int) (x : TItem) : seeL n self now [] [x, x] (0, []) = (1, [⟨x, now + waitV n self x.Rep 0, 0⟩]) := by
  have e1 : seeS n self now [] (0, []) x = (1, [⟨x, now + waitV n self x.Rep 0, 0⟩]) := rfl
  show seeS n self now [] (seeS n self now [] (0, []) x) x = _
  rw [e1]
  unfold seeS
  rw [IdueL_cons, if_pos rfl]
  rfl
theorem again_one (x : TItem) (d t : Int) : IinsS ⟨x, d, t⟩ (IdelK x []) = [⟨x, d, t⟩] := rfl
def lastV (n self rep : Int) : Nat → Int
  | 0 => 0
  | i + 1 => waitV n self rep (i : Int)
structure GS17 where
  i : Nat
  t : Int
  last : Int
  now : Int
  v : Go.Value
  tm : MapI
set_option maxHeartbeats 4000000 in
theorem paceGrows_walk (n self : Int) (x : TItem) (now times : Int) : Fun Try.prog 21 [I n, I self, A x.c, I now, I times] (B true) := by
  by_cases h : (n = 3 ∨ n = 5 ∨ n = 7) ∧ (0 ≤ self ∧ self < n) ∧ (0 ≤ x.Rep ∧ x.Rep < n) ∧ (0 ≤ now ∧ now ≤ 1099511627776) ∧ (0 ≤ times ∧ times ≤ 20)
  · obtain ⟨hn, hs, hr, hnow, htimes⟩ := h
    obtain ⟨nt, rfl⟩ : ∃ k : Nat, times = (k : Int) := ⟨times.toNat, by omega⟩
    have hN := pace_new n self
    have hw0 := waitV_ge n self x.Rep 0 (by omega)
    have hxm : ∀ y ∈ [x, x], -1048576 ≤ y.Rep ∧ y.Rep ≤ 1048576 := by
      intro y hy
      have h2 : y = x := by simpa using hy
      rw [h2]; omega
    have hS (b p m g : Nat) := pace_see b n self p m (.slice none 0 0) 0 [] [] now (rows TItem.c (.slice (some ⟨g, 0, none⟩) 2 2) 23 2 [x, x]) (some ⟨g, 0, none⟩) 2 g 0 [x, x] (Rd.rows (l := [x, x]) TItem.len (by simp)) IW1.zero (by simp) (by simp) hxm (by omega) (by omega) (by omega)
    rw [seeL_two] at hS
    unfold paE at hN hS
    dsimp only [List.cons_append, List.nil_append] at hS
    refine Ct.enter Try.func21 rfl rfl fun W => ?_
    rcases hn with hn | hn | hn
    · apply Wp.seq
      apply Wp.region
      refine WpL.o (O.bxA (fun p7 => ?_))
      refine WpL.o (O.al tb (fun p10 => ?_))
      apply WpL.nil
      apply Out.seqN
      apply Wp.seq
      apply Wp.seq
      apply Wp.region
      refine WpL.o (Op1.fn rfl (alive17) ?_)
      refine WpL.v (V.not) ?_
      apply WpL.nil
      apply Out.seqN
      refine Wp.cF ?_
      apply Wp.skip
      apply Out.seqN
      apply Wp.seq
      apply Wp.seq
      apply Wp.region
      refine WpL.v (V.mv) ?_
      refine WpL.v (V.cmp) ?_
      refine WpL.v (V.mv) ?_
      refine WpL.pt (fun hpa0 => ?_) (fun hpa0 => ?_)
      (try simp only [decide_eq_true_eq, decide_eq_false_iff_not, Bool.not_eq_true', Bool.not_eq_false', Bool.not_eq_true, Bool.not_eq_false, not_true_eq_false, not_false_eq_true, reduceCtorEq] at hpa0)
      (exfalso; omega)
      (try simp only [decide_eq_true_eq, decide_eq_false_iff_not, Bool.not_eq_true', Bool.not_eq_false', Bool.not_eq_true, Bool.not_eq_false, not_true_eq_false, not_false_eq_true, reduceCtorEq] at hpa0)
      refine WpL.sk ?_
      refine WpL.sk ?_
      refine WpL.v (V.pF) ?_
      refine WpL.v (V.mv) ?_
      refine WpL.sk ?_
      refine WpL.sk ?_
      refine WpL.v (V.pF) ?_
      refine WpL.v (V.mv) ?_
      refine WpL.v (V.mv) ?_
      refine WpL.v (V.cmp) ?_
      refine WpL.v (V.pF) ?_
      refine WpL.v (V.mv) ?_
      refine WpL.pt (fun hpa1 => ?_) (fun hpa1 => ?_)
      (try simp only [decide_eq_true_eq, decide_eq_false_iff_not, Bool.not_eq_true', Bool.not_eq_false', Bool.not_eq_true, Bool.not_eq_false, not_true_eq_false, not_false_eq_true, reduceCtorEq] at hpa1)
      (exfalso; omega)
      (try simp only [decide_eq_true_eq, decide_eq_false_iff_not, Bool.not_eq_true', Bool.not_eq_false', Bool.not_eq_true, Bool.not_eq_false, not_true_eq_false, not_false_eq_true, reduceCtorEq] at hpa1)
      refine WpL.v (V.mv) ?_
      refine WpL.v (V.mv) ?_
      refine WpL.v (V.cmp) ?_
      refine WpL.v (V.pF) ?_
      refine WpL.v (V.mv) ?_
      refine WpL.pt (fun hpa2 => ?_) (fun hpa2 => ?_)
      (try simp only [decide_eq_true_eq, decide_eq_false_iff_not, Bool.not_eq_true', Bool.not_eq_false', Bool.not_eq_true, Bool.not_eq_false, not_true_eq_false, not_false_eq_true, reduceCtorEq] at hpa2)
      (exfalso; omega)
      (try simp only [decide_eq_true_eq, decide_eq_false_iff_not, Bool.not_eq_true', Bool.not_eq_false', Bool.not_eq_true, Bool.not_eq_false, not_true_eq_false, not_false_eq_true, reduceCtorEq] at hpa2)
      refine WpL.v (V.fa tb) ?_
      refine WpL.v (V.ld1 tb) ?_
      refine WpL.v (V.cmp) ?_
      refine WpL.v (V.pF) ?_
      refine WpL.v (V.mv) ?_
      refine WpL.pt (fun hpa3 => ?_) (fun hpa3 => ?_)
      (try simp only [decide_eq_true_eq, decide_eq_false_iff_not, Bool.not_eq_true', Bool.not_eq_false', Bool.not_eq_true, Bool.not_eq_false, not_true_eq_false, not_false_eq_true, reduceCtorEq] at hpa3)
      (exfalso; omega)
      (try simp only [decide_eq_true_eq, decide_eq_false_iff_not, Bool.not_eq_true', Bool.not_eq_false', Bool.not_eq_true, Bool.not_eq_false, not_true_eq_false, not_false_eq_true, reduceCtorEq] at hpa3)
      refine WpL.v (V.fa tb) ?_
      refine WpL.v (V.ld1 tb) ?_
      refine WpL.v (V.mv) ?_
      refine WpL.v (V.cmp) ?_
      refine WpL.v (V.pF) ?_
      refine WpL.v (V.mv) ?_
      refine WpL.pt (fun hpa4 => ?_) (fun hpa4 => ?_)
      (try simp only [decide_eq_true_eq, decide_eq_false_iff_not, Bool.not_eq_true', Bool.not_eq_false', Bool.not_eq_true, Bool.not_eq_false, not_true_eq_false, not_false_eq_true, reduceCtorEq] at hpa4)
      (exfalso; omega)
      (try simp only [decide_eq_true_eq, decide_eq_false_iff_not, Bool.not_eq_true', Bool.not_eq_false', Bool.not_eq_true, Bool.not_eq_false, not_true_eq_false, not_false_eq_true, reduceCtorEq] at hpa4)
      refine WpL.v (V.mv) ?_
      refine WpL.v (V.cmp) ?_
      refine WpL.v (V.pF) ?_
      refine WpL.v (V.mv) ?_
      refine WpL.pt (fun hpa5 => ?_) (fun hpa5 => ?_)
      (try simp only [decide_eq_true_eq, decide_eq_false_iff_not, Bool.not_eq_true', Bool.not_eq_false', Bool.not_eq_true, Bool.not_eq_false, not_true_eq_false, not_false_eq_true, reduceCtorEq] at hpa5)
      (exfalso; omega)
      (try simp only [decide_eq_true_eq, decide_eq_false_iff_not, Bool.not_eq_true', Bool.not_eq_false', Bool.not_eq_true, Bool.not_eq_false, not_true_eq_false, not_false_eq_true, reduceCtorEq] at hpa5)
      refine WpL.v (V.mv) ?_
      refine WpL.v (V.cmp) ?_
      refine WpL.v (V.pF) ?_
      refine WpL.v (V.mv) ?_
      refine WpL.pt (fun hpa6 => ?_) (fun hpa6 => ?_)
      (try simp only [decide_eq_true_eq, decide_eq_false_iff_not, Bool.not_eq_true', Bool.not_eq_false', Bool.not_eq_true, Bool.not_eq_false, not_true_eq_false, not_false_eq_true, reduceCtorEq] at hpa6)
      (exfalso; omega)
      (try simp only [decide_eq_true_eq, decide_eq_false_iff_not, Bool.not_eq_true', Bool.not_eq_false', Bool.not_eq_true, Bool.not_eq_false, not_true_eq_false, not_false_eq_true, reduceCtorEq] at hpa6)
      refine WpL.v (V.mv) ?_
      refine WpL.v (V.cmp) ?_
      refine WpL.v (V.pF) ?_
      refine WpL.v (V.mv) ?_
      refine WpL.pt (fun hpa7 => ?_) (fun hpa7 => ?_)
      (try simp only [decide_eq_true_eq, decide_eq_false_iff_not, Bool.not_eq_true', Bool.not_eq_false', Bool.not_eq_true, Bool.not_eq_false, not_true_eq_false, not_false_eq_true, reduceCtorEq] at hpa7)
      (exfalso; omega)
      (try simp only [decide_eq_true_eq, decide_eq_false_iff_not, Bool.not_eq_true', Bool.not_eq_false', Bool.not_eq_true, Bool.not_eq_false, not_true_eq_false, not_false_eq_true, reduceCtorEq] at hpa7)
      refine WpL.v (V.mv) ?_
      refine WpL.v (V.cmp) ?_
      refine WpL.v (V.pF) ?_
      apply WpL.nil
      apply Out.seqN
      refine Wp.c (fun hpa8 => ?_) (fun hpa8 => ?_)
      (try simp only [decide_eq_true_eq, decide_eq_false_iff_not, Bool.not_eq_true', Bool.not_eq_false', Bool.not_eq_true, Bool.not_eq_false, not_true_eq_false, not_false_eq_true, reduceCtorEq] at hpa8)
      (exfalso; omega)
      (try simp only [decide_eq_true_eq, decide_eq_false_iff_not, Bool.not_eq_true', Bool.not_eq_false', Bool.not_eq_true, Bool.not_eq_false, not_true_eq_false, not_false_eq_true, reduceCtorEq] at hpa8)
      apply Wp.skip
      apply Out.seqN
      apply Wp.seq
      apply Wp.region
      refine WpL.v (V.mv) ?_
      refine WpL.v (V.mv) ?_
      refine WpL.o (Op1.callT rfl (hN) (by (repeat (first | exact Sel.nil | exact Rem.here | apply Sel.cons | apply Rem.there))) ?_)
      rintro v9 s10 ⟨b67, ⟨p67, ⟨m67, ⟨rfl, rfl⟩⟩⟩⟩
      refine incat ?_
      refine WpL.v (V.as) ?_
      apply WpL.nil
      apply Out.seqN
      apply Wp.seq
      apply Wp.region
      refine WpL.v (V.mv) ?_
      refine WpL.v (V.mv) ?_
      refine WpL.v (V.ldA tb) ?_
      refine WpL.v (V.ldA tb) ?_
      refine WpL.o (O.litL tb TItem.c [x, x] rfl (PartsFrom.agg rfl (PartsFrom.agg rfl PartsFrom.nil)) rfl rfl (fun p72 => ?_))
      refine WpL.o (Op1.callT rfl (hS _ _ _ _) (by (repeat (first | exact Sel.nil | exact Rem.here | apply Sel.cons | apply Rem.there))) ?_)
      rintro v11 s12 ⟨v'73, ⟨rfl, rfl⟩⟩
      refine incat ?_
      apply WpL.nil
      apply Out.seqN
      apply Wp.seq
      apply Wp.region
      refine WpL.v (V.as) ?_
      apply WpL.nil
      apply Out.seqN
      apply Wp.seq
      apply Wp.seq
      apply Wp.region
      refine WpL.v (V.as) ?_
      apply WpL.nil
      apply Out.seqN
      apply Wp.block
      refine Wp.lpD [11, 10, 7, 4, 1, 0] (fun y : GS17 => y.i ≤ nt + 1 ∧ (0 ≤ y.now ∧ y.now ≤ 1099511627776 + y.i * 134217728) ∧ tv y.tm x = y.t ∧ y.t = y.i ∧ y.last = lastV n self x.Rep y.i) (fun y => [(3, I y.now), (12, I y.last), (13, I y.t)]) (fun y => [cells p67 181 (WheelWheelOfItem.c ⟨y.v, y.t + 1⟩), rows WheelSpokeOfItem.c y.v 183 4 [⟨x, y.now + waitV n self x.Rep y.t, y.t⟩], mapK (fun x : TItem => A x.c) (fun n : Int => I n) m67 y.tm]) (fun y => nt + 1 - y.i) ⟨0, 0, 0, now, v'73, []⟩ ⟨Nat.zero_le _, ⟨by show 0 ≤ now; omega, by show now ≤ 1099511627776 + ((0 : Nat) : Int) * 134217728; omega⟩, rfl, rfl, rfl⟩ ?_
      rintro ⟨i, t, last, now, v, tm⟩ ds ⟨hi, hnow2, htm, hti, hla⟩ K hK
      dsimp only at hi hnow2 htm hti hla
      dsimp only [List.cons_append, List.nil_append]
      have hC := ref_wait n self x.Rep t (by omega) (by omega) (by omega)
      have hwb := waitV_ge n self x.Rep t (by omega)
      by_cases hlt : i ≤ nt
      · have hl : (i ≤ 4 → last < waitV n self x.Rep t) ∧ (4 < i → waitV n self x.Rep t = last) := by
          rw [hti, hla]
          cases i with
          | zero => exact ⟨fun _ => by rw [hti] at hwb; show (0 : Int) < _; omega, fun h => by omega⟩
          | succ j => exact ⟨fun h => waitV_up (by omega) j (by omega), fun h => waitV_top j (by omega)⟩
        have hlv : waitV n self x.Rep t = lastV n self x.Rep (i + 1) := by rw [hti]; rfl
        obtain ⟨hl1, hl2⟩ := hl
        generalize waitV n self x.Rep t = w at *
        have hA (v : Go.Value) := pace_again b67 n self p67 m67 v (t + 1) [] tm (now + w) x ⟨by omega, List.Pairwise.nil, List.nodup_nil, by simp⟩ (by simp) (by omega) (by omega) (by omega) (by omega) (by omega) (by omega)
        have hT (v : Go.Value) := pace_tries b67 n self p67 m67 v (t + 1) [] tm x
        have hD1 := pace_due b67 n self p67 m67 v (t + 1) [⟨x, now + w, t⟩] tm (now + w - 1)
        have hD2 := pace_due b67 n self p67 m67 v (t + 1) [⟨x, now + w, t⟩] tm (now + w)
        rw [htm] at hA hT
        have hg : tv (mput tm x (t + 1)) x = t + 1 := by rw [tv_put, if_pos rfl]
        simp only [again_one] at hA
        unfold paE at hA hT hD1 hD2
        dsimp only [List.cons_append, List.nil_append] at hD1 hD2
        by_cases h4 : i ≤ 4
        · have hl3 := hl1 h4
          apply Wp.seq
          apply Wp.seq
          apply Wp.region
          refine WpL.v (V.mv) ?_
          refine WpL.v (V.mv) ?_
          refine WpL.v (V.cmp) ?_
          apply WpL.nil
          apply Out.seqN
          refine Wp.c (fun hpb0 => ?_) (fun hpb0 => ?_)
          (try simp only [decide_eq_true_eq, decide_eq_false_iff_not, Bool.not_eq_true', Bool.not_eq_false', Bool.not_eq_true, Bool.not_eq_false, not_true_eq_false, not_false_eq_true, reduceCtorEq] at hpb0)
          apply Wp.skip
          apply Out.seqN
          apply Wp.seq
          apply Wp.block
          apply Wp.seq
          apply Wp.region
          refine WpL.v (V.mv) ?_
          refine WpL.v (V.mv) ?_
          refine WpL.v (V.fa tb) ?_
          refine WpL.v (V.ld1 tb) ?_
          refine WpL.v (V.mv) ?_
          refine WpL.o (Op1.fn rfl (hC) ?_)
          refine WpL.v (V.as) ?_
          apply WpL.nil
          apply Out.seqN
          apply Wp.seq
          apply Wp.seq
          apply Wp.region
          refine WpL.v (V.mv) ?_
          refine WpL.v (V.cmp) ?_
          refine WpL.v (V.mv) ?_
          refine WpL.pt (fun hpb1 => ?_) (fun hpb1 => ?_)
          (try simp only [decide_eq_true_eq, decide_eq_false_iff_not, Bool.not_eq_true', Bool.not_eq_false', Bool.not_eq_true, Bool.not_eq_false, not_true_eq_false, not_false_eq_true, reduceCtorEq] at hpb1)
          refine WpL.v (V.mv) ?_
          refine WpL.v (V.mv) ?_
          refine WpL.v (V.cmp) ?_
          refine WpL.v (V.pT) ?_
          refine WpL.v (V.mv) ?_
          refine WpL.pt (fun hpb2 => ?_) (fun hpb2 => ?_)
          (try simp only [decide_eq_true_eq, decide_eq_false_iff_not, Bool.not_eq_true', Bool.not_eq_false', Bool.not_eq_true, Bool.not_eq_false, not_true_eq_false, not_false_eq_true, reduceCtorEq] at hpb2)
          (exfalso; omega)
          (try simp only [decide_eq_true_eq, decide_eq_false_iff_not, Bool.not_eq_true', Bool.not_eq_false', Bool.not_eq_true, Bool.not_eq_false, not_true_eq_false, not_false_eq_true, reduceCtorEq] at hpb2)
          refine WpL.v (V.mv) ?_
          refine WpL.v (V.cmp) ?_
          refine WpL.v (V.mv) ?_
          refine WpL.pt (fun hpb3 => ?_) (fun hpb3 => ?_)
          (try simp only [decide_eq_true_eq, decide_eq_false_iff_not, Bool.not_eq_true', Bool.not_eq_false', Bool.not_eq_true, Bool.not_eq_false, not_true_eq_false, not_false_eq_true, reduceCtorEq] at hpb3)
          (exfalso; omega)
          (try simp only [decide_eq_true_eq, decide_eq_false_iff_not, Bool.not_eq_true', Bool.not_eq_false', Bool.not_eq_true, Bool.not_eq_false, not_true_eq_false, not_false_eq_true, reduceCtorEq] at hpb3)
          refine WpL.sk ?_
          refine WpL.sk ?_
          refine WpL.sk ?_
          refine WpL.v (V.pF) ?_
          refine WpL.v (V.pF) ?_
          apply WpL.nil
          apply Out.seqN
          refine Wp.cF ?_
          apply Wp.skip
          apply Out.seqN
          apply Wp.seq
          apply Wp.seq
          apply Wp.region
          refine WpL.v (V.mv) ?_
          refine WpL.v (V.mv) ?_
          refine WpL.v (V.mv) ?_
          refine WpL.v (V.add) ?_
          refine WpL.v (V.sub) ?_
          refine WpL.o (Op1.callT rfl (hD1) (by (repeat (first | exact Sel.nil | exact Rem.here | apply Sel.cons | apply Rem.there))) ?_)
          rintro v4 s5 ⟨a106, ⟨c106, ⟨rfl, rfl⟩⟩⟩
          refine incat ?_
          apply WpL.nil
          apply Out.seqN
          apply Wp.block
          rotate_left
          (try simp only [decide_eq_true_eq, decide_eq_false_iff_not, Bool.not_eq_true', Bool.not_eq_false', Bool.not_eq_true, Bool.not_eq_false, not_true_eq_false, not_false_eq_true, reduceCtorEq] at hpb1)
          (exfalso; omega)
          (try simp only [decide_eq_true_eq, decide_eq_false_iff_not, Bool.not_eq_true', Bool.not_eq_false', Bool.not_eq_true, Bool.not_eq_false, not_true_eq_false, not_false_eq_true, reduceCtorEq] at hpb0)
          (exfalso; omega)
          refine Wp.rgB (Iwheel_iter p67 a106 c106 (now + w - 1) ⟨v, t + 1, [⟨x, now + w, t⟩]⟩) (fun _ : Unit => ⟨v, t + 1, [⟨x, now + w, t⟩]⟩) (fun _ => []) (fun j _ => j = 0) (fun _ _ _ => False) () 0 (fun j y h => by omega) rfl rfl ?_ ?_ ?_
          · rintro j i' c b' lp rec _ ⟨s, rest, g, cp, h1, h2, _⟩
            cases h1
            dsimp only at h2
            omega
          · rintro j c b1 _ _
            dsimp only [IWB.E, IwhE, List.cons_append, List.nil_append]
            apply Out.blockN
            apply Out.seqN
            apply Wp.seq
            apply Wp.region
            refine WpL.o (O.al tb (fun p15 => ?_))
            refine WpL.o (O.st1 tb ?_)
            apply WpL.nil
            apply Out.seqN
            apply Wp.seq
            apply Wp.seq
            apply Wp.region
            refine WpL.v (V.mv) ?_
            refine WpL.v (V.mv) ?_
            refine WpL.v (V.mv) ?_
            refine WpL.v (V.add) ?_
            refine WpL.o (Op1.callT rfl (hD2) (by (repeat (first | exact Sel.nil | exact Rem.here | apply Sel.cons | apply Rem.there))) ?_)
            rintro v0 s1 ⟨a112, ⟨c112, ⟨rfl, rfl⟩⟩⟩
            refine incat ?_
            apply WpL.nil
            apply Out.seqN
            apply Wp.block
            refine Wp.rgB (Iwheel_iter p67 a112 c112 (now + w) ⟨v, t + 1, [⟨x, now + w, t⟩]⟩) (fun y : Nat × IWB => y.2) (fun y => [cells p15 3 [I (y.1 : Int)], cells p7 23 x.c, cells p10 4 [B false]]) (fun j y => (j = 0 ∧ y = (0, ⟨v, t + 1, [⟨x, now + w, t⟩]⟩)) ∨ (j = 1 ∧ y.1 = 1 ∧ y.2.l = [] ∧ y.2.t = t + 1)) (fun _ _ _ => False) (0, ⟨v, t + 1, [⟨x, now + w, t⟩]⟩) 1 (fun j y h => by omega) rfl (.inl ⟨rfl, rfl⟩) ?_ ?_ ?_
            · rintro j i' ⟨n', bv, bt, bl⟩ b' lp rec hG ⟨s, rest, g, cp, h1, h2, rfl, h3, rfl⟩ hr W' D' K2 hK2
              dsimp only at h1 h3
              rcases hG with ⟨rfl, hG⟩ | ⟨rfl, _, hG, _⟩
              · cases hG
                cases h1
                dsimp only [IWB.E, IwhE, List.cons_append, List.nil_append]
                apply Wp.region
                refine WpL.o (O.al tb (fun p16 => ?_))
                refine WpL.o (O.stA tb ?_)
                apply WpL.nil
                refine Out.bg (by assumption) ?_
                apply Wp.block
                apply Wp.seq
                apply Wp.seq
                apply Wp.region
                refine WpL.v (V.ldA tb) ?_
                refine WpL.v (V.ldA tb) ?_
                refine WpL.v (V.ne (TItem.eqT _ _ _)) ?_
                apply WpL.nil
                apply Out.seqN
                refine Wp.c (fun hpd0 => ?_) (fun hpd0 => ?_)
                (try simp only [decide_eq_true_eq, decide_eq_false_iff_not, Bool.not_eq_true', Bool.not_eq_false', Bool.not_eq_true, Bool.not_eq_false, not_true_eq_false, not_false_eq_true, reduceCtorEq] at hpd0)
                (try simp only [decide_eq_true_eq, decide_eq_false_iff_not, Bool.not_eq_true', Bool.not_eq_false', Bool.not_eq_true, Bool.not_eq_false, not_true_eq_false, not_false_eq_true, reduceCtorEq] at hpd0)
                apply Wp.skip
                apply Out.seqN
                apply Wp.region
                refine WpL.v (V.ld1 tb) ?_
                refine WpL.v (V.add) ?_
                refine WpL.o (O.st1 tb ?_)
                apply WpL.nil
                apply Out.blockN
                exact Out.rdZ hK2 (1, ⟨.slice (some ⟨g, 0, none⟩) ([] : List WheelSpokeOfItem).length cp, t + 1, []⟩) (.inr ⟨rfl, rfl, rfl, rfl⟩)
              · dsimp only at hG
                rw [hG] at h1
                cases h1
            · rintro j ⟨n', bv, bt, bl⟩ b2 hG hstop
              rcases hG with ⟨rfl, hG⟩ | ⟨rfl, hn', hG, hbt⟩
              · cases hG
                have := hstop _ rfl
                dsimp only at this
                omega
              · dsimp only at hn' hG hbt
                subst hn' hG hbt
                dsimp only [IWB.E, IwhE, List.cons_append, List.nil_append]
                apply Out.blockN
                apply Out.seqN
                apply Wp.seq
                apply Wp.seq
                apply Wp.region
                refine WpL.v (V.ld1 tb) ?_
                refine WpL.v (V.cmp) ?_
                refine WpL.v (V.mv) ?_
                refine WpL.v (V.mv) ?_
                refine WpL.v (V.ldA tb) ?_
                refine WpL.o (Op1.callT rfl (hT _) (by (repeat (first | exact Sel.nil | exact Rem.here | apply Sel.cons | apply Rem.there))) ?_)
                rintro v0 s1 ⟨rfl, rfl⟩
                refine incat ?_
                refine WpL.v (V.mv) ?_
                refine WpL.v (V.cmp) ?_
                refine WpL.v (V.pF) ?_
                apply WpL.nil
                apply Out.seqN
                refine Wp.c (fun hpe2 => ?_) (fun hpe2 => ?_)
                (try simp only [decide_eq_true_eq, decide_eq_false_iff_not, Bool.not_eq_true', Bool.not_eq_false', Bool.not_eq_true, Bool.not_eq_false, not_true_eq_false, not_false_eq_true, reduceCtorEq] at hpe2)
                (try simp only [decide_eq_true_eq, decide_eq_false_iff_not, Bool.not_eq_true', Bool.not_eq_false', Bool.not_eq_true, Bool.not_eq_false, not_true_eq_false, not_false_eq_true, reduceCtorEq] at hpe2)
                apply Wp.skip
                apply Out.seqN
                apply Wp.seq
                apply Wp.region
                refine WpL.v (V.mv) ?_
                refine WpL.v (V.as) ?_
                apply WpL.nil
                apply Out.seqN
                apply Wp.seq
                apply Wp.region
                refine WpL.v (V.mv) ?_
                refine WpL.v (V.mv) ?_
                refine WpL.v (V.add) ?_
                refine WpL.v (V.as) ?_
                apply WpL.nil
                apply Out.seqN
                apply Wp.region
                refine WpL.v (V.mv) ?_
                refine WpL.v (V.mv) ?_
                refine WpL.v (V.ldA tb) ?_
                refine WpL.o (Op1.callT rfl (hA _) (by (repeat (first | exact Sel.nil | exact Rem.here | apply Sel.cons | apply Rem.there))) ?_)
                rintro v3 s4 ⟨g135, ⟨cap135, ⟨rfl, rfl⟩⟩⟩
                refine incat ?_
                apply WpL.nil
                apply Out.blockN
                apply Out.seqN
                apply Wp.region
                refine WpL.v (V.mv) ?_
                refine WpL.v (V.add) ?_
                refine WpL.v (V.as) ?_
                apply WpL.nil
                exact Out.agD hK [b2, b1] ⟨i + 1, t + 1, w, now + w, _, mput tm x (t + 1)⟩ ⟨by show i + 1 ≤ nt + 1; omega, ⟨by show 0 ≤ now + w; omega, by show now + w ≤ 1099511627776 + ((i + 1 : Nat) : Int) * 134217728; omega⟩, hg, by show t + 1 = ((i + 1 : Nat) : Int); omega, hlv⟩ (by show nt + 1 - (i + 1) < nt + 1 - i; omega)
            · intro _ _ _ _ _ _ h
              exact h.elim
          · intro _ _ _ _ _ _ h
            exact h.elim
        · have hl3 := hl2 (by omega)
          apply Wp.seq
          apply Wp.seq
          apply Wp.region
          refine WpL.v (V.mv) ?_
          refine WpL.v (V.mv) ?_
          refine WpL.v (V.cmp) ?_
          apply WpL.nil
          apply Out.seqN
          refine Wp.c (fun h0 => ?_) (fun h0 => ?_)
          (try simp only [decide_eq_true_eq, decide_eq_false_iff_not, Bool.not_eq_true', Bool.not_eq_false', Bool.not_eq_true, Bool.not_eq_false, not_true_eq_false, not_false_eq_true, reduceCtorEq] at h0)
          apply Wp.skip
          apply Out.seqN
          apply Wp.seq
          apply Wp.block
          apply Wp.seq
          apply Wp.region
          refine WpL.v (V.mv) ?_
          refine WpL.v (V.mv) ?_
          refine WpL.v (V.fa tb) ?_
          refine WpL.v (V.ld1 tb) ?_
          refine WpL.v (V.mv) ?_
          refine WpL.o (Op1.fn rfl (hC) ?_)
          refine WpL.v (V.as) ?_
          apply WpL.nil
          apply Out.seqN
          apply Wp.seq
          apply Wp.seq
          apply Wp.region
          refine WpL.v (V.mv) ?_
          refine WpL.v (V.cmp) ?_
          refine WpL.v (V.mv) ?_
          refine WpL.pt (fun h1 => ?_) (fun h1 => ?_)
          (try simp only [decide_eq_true_eq, decide_eq_false_iff_not, Bool.not_eq_true', Bool.not_eq_false', Bool.not_eq_true, Bool.not_eq_false, not_true_eq_false, not_false_eq_true, reduceCtorEq] at h1)
          (exfalso; omega)
          (try simp only [decide_eq_true_eq, decide_eq_false_iff_not, Bool.not_eq_true', Bool.not_eq_false', Bool.not_eq_true, Bool.not_eq_false, not_true_eq_false, not_false_eq_true, reduceCtorEq] at h1)
          refine WpL.sk ?_
          refine WpL.sk ?_
          refine WpL.sk ?_
          refine WpL.v (V.pF) ?_
          refine WpL.v (V.mv) ?_
          refine WpL.v (V.mv) ?_
          refine WpL.v (V.cmp) ?_
          refine WpL.v (V.mv) ?_
          refine WpL.pt (fun h2 => ?_) (fun h2 => ?_)
          (try simp only [decide_eq_true_eq, decide_eq_false_iff_not, Bool.not_eq_true', Bool.not_eq_false', Bool.not_eq_true, Bool.not_eq_false, not_true_eq_false, not_false_eq_true, reduceCtorEq] at h2)
          refine WpL.v (V.mv) ?_
          refine WpL.v (V.mv) ?_
          refine WpL.v (V.cmp) ?_
          refine WpL.v (V.pT) ?_
          refine WpL.v (V.pF) ?_
          apply WpL.nil
          apply Out.seqN
          refine Wp.c (fun h3 => ?_) (fun h3 => ?_)
          (try simp only [decide_eq_true_eq, decide_eq_false_iff_not, Bool.not_eq_true', Bool.not_eq_false', Bool.not_eq_true, Bool.not_eq_false, not_true_eq_false, not_false_eq_true, reduceCtorEq] at h3)
          (exfalso; omega)
          (try simp only [decide_eq_true_eq, decide_eq_false_iff_not, Bool.not_eq_true', Bool.not_eq_false', Bool.not_eq_true, Bool.not_eq_false, not_true_eq_false, not_false_eq_true, reduceCtorEq] at h3)
          apply Wp.skip
          apply Out.seqN
          apply Wp.seq
          apply Wp.seq
          apply Wp.region
          refine WpL.v (V.mv) ?_
          refine WpL.v (V.mv) ?_
          refine WpL.v (V.mv) ?_
          refine WpL.v (V.add) ?_
          refine WpL.v (V.sub) ?_
          refine WpL.o (Op1.callT rfl (hD1) (by (repeat (first | exact Sel.nil | exact Rem.here | apply Sel.cons | apply Rem.there))) ?_)
          rintro v4 s5 ⟨a106, ⟨c106, ⟨rfl, rfl⟩⟩⟩
          refine incat ?_
          apply WpL.nil
          apply Out.seqN
          apply Wp.block
          rotate_left
          (try simp only [decide_eq_true_eq, decide_eq_false_iff_not, Bool.not_eq_true', Bool.not_eq_false', Bool.not_eq_true, Bool.not_eq_false, not_true_eq_false, not_false_eq_true, reduceCtorEq] at h2)
          (exfalso; omega)
          (try simp only [decide_eq_true_eq, decide_eq_false_iff_not, Bool.not_eq_true', Bool.not_eq_false', Bool.not_eq_true, Bool.not_eq_false, not_true_eq_false, not_false_eq_true, reduceCtorEq] at h0)
          (exfalso; omega)
          refine Wp.rgB (Iwheel_iter p67 a106 c106 (now + w - 1) ⟨v, t + 1, [⟨x, now + w, t⟩]⟩) (fun _ : Unit => ⟨v, t + 1, [⟨x, now + w, t⟩]⟩) (fun _ => []) (fun j _ => j = 0) (fun _ _ _ => False) () 0 (fun j y h => by omega) rfl rfl ?_ ?_ ?_
          · rintro j i' c b' lp rec _ ⟨s, rest, g, cp, h1, h2, _⟩
            cases h1
            dsimp only at h2
            omega
          · rintro j c b1 _ _
            dsimp only [IWB.E, IwhE, List.cons_append, List.nil_append]
            apply Out.blockN
            apply Out.seqN
            apply Wp.seq
            apply Wp.region
            refine WpL.o (O.al tb (fun p15 => ?_))
            refine WpL.o (O.st1 tb ?_)
            apply WpL.nil
            apply Out.seqN
            apply Wp.seq
            apply Wp.seq
            apply Wp.region
            refine WpL.v (V.mv) ?_
            refine WpL.v (V.mv) ?_
            refine WpL.v (V.mv) ?_
            refine WpL.v (V.add) ?_
            refine WpL.o (Op1.callT rfl (hD2) (by (repeat (first | exact Sel.nil | exact Rem.here | apply Sel.cons | apply Rem.there))) ?_)
            rintro v0 s1 ⟨a112, ⟨c112, ⟨rfl, rfl⟩⟩⟩
            refine incat ?_
            apply WpL.nil
            apply Out.seqN
            apply Wp.block
            refine Wp.rgB (Iwheel_iter p67 a112 c112 (now + w) ⟨v, t + 1, [⟨x, now + w, t⟩]⟩) (fun y : Nat × IWB => y.2) (fun y => [cells p15 3 [I (y.1 : Int)], cells p7 23 x.c, cells p10 4 [B false]]) (fun j y => (j = 0 ∧ y = (0, ⟨v, t + 1, [⟨x, now + w, t⟩]⟩)) ∨ (j = 1 ∧ y.1 = 1 ∧ y.2.l = [] ∧ y.2.t = t + 1)) (fun _ _ _ => False) (0, ⟨v, t + 1, [⟨x, now + w, t⟩]⟩) 1 (fun j y h => by omega) rfl (.inl ⟨rfl, rfl⟩) ?_ ?_ ?_
            · rintro j i' ⟨n', bv, bt, bl⟩ b' lp rec hG ⟨s, rest, g, cp, h1, h2, rfl, h3, rfl⟩ hr W' D' K2 hK2
              dsimp only at h1 h3
              rcases hG with ⟨rfl, hG⟩ | ⟨rfl, _, hG, _⟩
              · cases hG
                cases h1
                dsimp only [IWB.E, IwhE, List.cons_append, List.nil_append]
                apply Wp.region
                refine WpL.o (O.al tb (fun p16 => ?_))
                refine WpL.o (O.stA tb ?_)
                apply WpL.nil
                refine Out.bg (by assumption) ?_
                apply Wp.block
                apply Wp.seq
                apply Wp.seq
                apply Wp.region
                refine WpL.v (V.ldA tb) ?_
                refine WpL.v (V.ldA tb) ?_
                refine WpL.v (V.ne (TItem.eqT _ _ _)) ?_
                apply WpL.nil
                apply Out.seqN
                refine Wp.c (fun h0 => ?_) (fun h0 => ?_)
                (try simp only [decide_eq_true_eq, decide_eq_false_iff_not, Bool.not_eq_true', Bool.not_eq_false', Bool.not_eq_true, Bool.not_eq_false, not_true_eq_false, not_false_eq_true, reduceCtorEq] at h0)
                (try simp only [decide_eq_true_eq, decide_eq_false_iff_not, Bool.not_eq_true', Bool.not_eq_false', Bool.not_eq_true, Bool.not_eq_false, not_true_eq_false, not_false_eq_true, reduceCtorEq] at h0)
                apply Wp.skip
                apply Out.seqN
                apply Wp.region
                refine WpL.v (V.ld1 tb) ?_
                refine WpL.v (V.add) ?_
                refine WpL.o (O.st1 tb ?_)
                apply WpL.nil
                apply Out.blockN
                exact Out.rdZ hK2 (1, ⟨.slice (some ⟨g, 0, none⟩) ([] : List WheelSpokeOfItem).length cp, t + 1, []⟩) (.inr ⟨rfl, rfl, rfl, rfl⟩)
              · dsimp only at hG
                rw [hG] at h1
                cases h1
            · rintro j ⟨n', bv, bt, bl⟩ b2 hG hstop
              rcases hG with ⟨rfl, hG⟩ | ⟨rfl, hn', hG, hbt⟩
              · cases hG
                have := hstop _ rfl
                dsimp only at this
                omega
              · dsimp only at hn' hG hbt
                subst hn' hG hbt
                dsimp only [IWB.E, IwhE, List.cons_append, List.nil_append]
                apply Out.blockN
                apply Out.seqN
                apply Wp.seq
                apply Wp.seq
                apply Wp.region
                refine WpL.v (V.ld1 tb) ?_
                refine WpL.v (V.cmp) ?_
                refine WpL.v (V.mv) ?_
                refine WpL.v (V.mv) ?_
                refine WpL.v (V.ldA tb) ?_
                refine WpL.o (Op1.callT rfl (hT _) (by (repeat (first | exact Sel.nil | exact Rem.here | apply Sel.cons | apply Rem.there))) ?_)
                rintro v0 s1 ⟨rfl, rfl⟩
                refine incat ?_
                refine WpL.v (V.mv) ?_
                refine WpL.v (V.cmp) ?_
                refine WpL.v (V.pF) ?_
                apply WpL.nil
                apply Out.seqN
                refine Wp.c (fun h2 => ?_) (fun h2 => ?_)
                (try simp only [decide_eq_true_eq, decide_eq_false_iff_not, Bool.not_eq_true', Bool.not_eq_false', Bool.not_eq_true, Bool.not_eq_false, not_true_eq_false, not_false_eq_true, reduceCtorEq] at h2)
                (try simp only [decide_eq_true_eq, decide_eq_false_iff_not, Bool.not_eq_true', Bool.not_eq_false', Bool.not_eq_true, Bool.not_eq_false, not_true_eq_false, not_false_eq_true, reduceCtorEq] at h2)
                apply Wp.skip
                apply Out.seqN
                apply Wp.seq
                apply Wp.region
                refine WpL.v (V.mv) ?_
                refine WpL.v (V.as) ?_
                apply WpL.nil
                apply Out.seqN
                apply Wp.seq
                apply Wp.region
                refine WpL.v (V.mv) ?_
                refine WpL.v (V.mv) ?_
                refine WpL.v (V.add) ?_
                refine WpL.v (V.as) ?_
                apply WpL.nil
                apply Out.seqN
                apply Wp.region
                refine WpL.v (V.mv) ?_
                refine WpL.v (V.mv) ?_
                refine WpL.v (V.ldA tb) ?_
                refine WpL.o (Op1.callT rfl (hA _) (by (repeat (first | exact Sel.nil | exact Rem.here | apply Sel.cons | apply Rem.there))) ?_)
                rintro v3 s4 ⟨g135, ⟨cap135, ⟨rfl, rfl⟩⟩⟩
                refine incat ?_
                apply WpL.nil
                apply Out.blockN
                apply Out.seqN
                apply Wp.region
                refine WpL.v (V.mv) ?_
                refine WpL.v (V.add) ?_
                refine WpL.v (V.as) ?_
                apply WpL.nil
                exact Out.agD hK [b2, b1] ⟨i + 1, t + 1, w, now + w, _, mput tm x (t + 1)⟩ ⟨by show i + 1 ≤ nt + 1; omega, ⟨by show 0 ≤ now + w; omega, by show now + w ≤ 1099511627776 + ((i + 1 : Nat) : Int) * 134217728; omega⟩, hg, by show t + 1 = ((i + 1 : Nat) : Int); omega, hlv⟩ (by show nt + 1 - (i + 1) < nt + 1 - i; omega)
            · intro _ _ _ _ _ _ h
              exact h.elim
          · intro _ _ _ _ _ _ h
            exact h.elim
      · obtain rfl : i = nt + 1 := by omega
        clear hK
        refine Wp.unbagE ?_
        dsimp only [List.cons_append, List.nil_append]
        apply Wp.seq
        apply Wp.seq
        apply Wp.region
        refine WpL.v (V.mv) ?_
        refine WpL.v (V.mv) ?_
        refine WpL.v (V.cmp) ?_
        apply WpL.nil
        apply Out.seqN
        refine Wp.c (fun hpz0 => ?_) (fun hpz0 => ?_)
        (try simp only [decide_eq_true_eq, decide_eq_false_iff_not, Bool.not_eq_true', Bool.not_eq_false', Bool.not_eq_true, Bool.not_eq_false, not_true_eq_false, not_false_eq_true, reduceCtorEq] at hpz0)
        (exfalso; omega)
        (try simp only [decide_eq_true_eq, decide_eq_false_iff_not, Bool.not_eq_true', Bool.not_eq_false', Bool.not_eq_true, Bool.not_eq_false, not_true_eq_false, not_false_eq_true, reduceCtorEq] at hpz0)
        apply Wp.exit
        apply Out.seqE
        apply Out.seqE
        apply Out.blockE
        apply Out.seqN
        apply Wp.seq
        apply Wp.region
        refine WpL.o (O.st1 tb ?_)
        apply WpL.nil
        apply Out.seqN
        apply Wp.ret
        refine Out.e1 rfl (ResIs.c1 tb) ?_
        focus (exact ⟨[], _, ⟨rfl, rfl⟩, selTail (dfrs ds) [_, _, _, _, _, _, _]⟩; done)
    · apply Wp.seq
      apply Wp.region
      refine WpL.o (O.bxA (fun p7 => ?_))
      refine WpL.o (O.al tb (fun p10 => ?_))
      apply WpL.nil
      apply Out.seqN
      apply Wp.seq
      apply Wp.seq
      apply Wp.region
      refine WpL.o (Op1.fn rfl (alive17) ?_)
      refine WpL.v (V.not) ?_
      apply WpL.nil
      apply Out.seqN
      refine Wp.cF ?_
      apply Wp.skip
      apply Out.seqN
      apply Wp.seq
      apply Wp.seq
      apply Wp.region
      refine WpL.v (V.mv) ?_
      refine WpL.v (V.cmp) ?_
      refine WpL.v (V.mv) ?_
      refine WpL.pt (fun hqa0 => ?_) (fun hqa0 => ?_)
      (try simp only [decide_eq_true_eq, decide_eq_false_iff_not, Bool.not_eq_true', Bool.not_eq_false', Bool.not_eq_true, Bool.not_eq_false, not_true_eq_false, not_false_eq_true, reduceCtorEq] at hqa0)
      refine WpL.v (V.mv) ?_
      refine WpL.v (V.cmp) ?_
      refine WpL.v (V.pT) ?_
      refine WpL.v (V.mv) ?_
      refine WpL.pt (fun hqa1 => ?_) (fun hqa1 => ?_)
      (try simp only [decide_eq_true_eq, decide_eq_false_iff_not, Bool.not_eq_true', Bool.not_eq_false', Bool.not_eq_true, Bool.not_eq_false, not_true_eq_false, not_false_eq_true, reduceCtorEq] at hqa1)
      (exfalso; omega)
      (try simp only [decide_eq_true_eq, decide_eq_false_iff_not, Bool.not_eq_true', Bool.not_eq_false', Bool.not_eq_true, Bool.not_eq_false, not_true_eq_false, not_false_eq_true, reduceCtorEq] at hqa1)
      refine WpL.sk ?_
      refine WpL.sk ?_
      refine WpL.v (V.pF) ?_
      refine WpL.v (V.mv) ?_
      refine WpL.v (V.mv) ?_
      refine WpL.v (V.cmp) ?_
      refine WpL.v (V.pF) ?_
      refine WpL.v (V.mv) ?_
      refine WpL.pt (fun hqa2 => ?_) (fun hqa2 => ?_)
      (try simp only [decide_eq_true_eq, decide_eq_false_iff_not, Bool.not_eq_true', Bool.not_eq_false', Bool.not_eq_true, Bool.not_eq_false, not_true_eq_false, not_false_eq_true, reduceCtorEq] at hqa2)
      (exfalso; omega)
      (try simp only [decide_eq_true_eq, decide_eq_false_iff_not, Bool.not_eq_true', Bool.not_eq_false', Bool.not_eq_true, Bool.not_eq_false, not_true_eq_false, not_false_eq_true, reduceCtorEq] at hqa2)
      refine WpL.v (V.mv) ?_
      refine WpL.v (V.mv) ?_
      refine WpL.v (V.cmp) ?_
      refine WpL.v (V.pF) ?_
      refine WpL.v (V.mv) ?_
      refine WpL.pt (fun hqa3 => ?_) (fun hqa3 => ?_)
      (try simp only [decide_eq_true_eq, decide_eq_false_iff_not, Bool.not_eq_true', Bool.not_eq_false', Bool.not_eq_true, Bool.not_eq_false, not_true_eq_false, not_false_eq_true, reduceCtorEq] at hqa3)
      (exfalso; omega)
      (try simp only [decide_eq_true_eq, decide_eq_false_iff_not, Bool.not_eq_true', Bool.not_eq_false', Bool.not_eq_true, Bool.not_eq_false, not_true_eq_false, not_false_eq_true, reduceCtorEq] at hqa3)
      refine WpL.v (V.fa tb) ?_
      refine WpL.v (V.ld1 tb) ?_
      refine WpL.v (V.cmp) ?_
      refine WpL.v (V.pF) ?_
      refine WpL.v (V.mv) ?_
      refine WpL.pt (fun hqa4 => ?_) (fun hqa4 => ?_)
      (try simp only [decide_eq_true_eq, decide_eq_false_iff_not, Bool.not_eq_true', Bool.not_eq_false', Bool.not_eq_true, Bool.not_eq_false, not_true_eq_false, not_false_eq_true, reduceCtorEq] at hqa4)
      (exfalso; omega)
      (try simp only [decide_eq_true_eq, decide_eq_false_iff_not, Bool.not_eq_true', Bool.not_eq_false', Bool.not_eq_true, Bool.not_eq_false, not_true_eq_false, not_false_eq_true, reduceCtorEq] at hqa4)
      refine WpL.v (V.fa tb) ?_
      refine WpL.v (V.ld1 tb) ?_
      refine WpL.v (V.mv) ?_
      refine WpL.v (V.cmp) ?_
      refine WpL.v (V.pF) ?_
      refine WpL.v (V.mv) ?_
      refine WpL.pt (fun hqa5 => ?_) (fun hqa5 => ?_)
      (try simp only [decide_eq_true_eq, decide_eq_false_iff_not, Bool.not_eq_true', Bool.not_eq_false', Bool.not_eq_true, Bool.not_eq_false, not_true_eq_false, not_false_eq_true, reduceCtorEq] at hqa5)
      (exfalso; omega)
      (try simp only [decide_eq_true_eq, decide_eq_false_iff_not, Bool.not_eq_true', Bool.not_eq_false', Bool.not_eq_true, Bool.not_eq_false, not_true_eq_false, not_false_eq_true, reduceCtorEq] at hqa5)
      refine WpL.v (V.mv) ?_
      refine WpL.v (V.cmp) ?_
      refine WpL.v (V.pF) ?_
      refine WpL.v (V.mv) ?_
      refine WpL.pt (fun hqa6 => ?_) (fun hqa6 => ?_)
      (try simp only [decide_eq_true_eq, decide_eq_false_iff_not, Bool.not_eq_true', Bool.not_eq_false', Bool.not_eq_true, Bool.not_eq_false, not_true_eq_false, not_false_eq_true, reduceCtorEq] at hqa6)
      (exfalso; omega)
      (try simp only [decide_eq_true_eq, decide_eq_false_iff_not, Bool.not_eq_true', Bool.not_eq_false', Bool.not_eq_true, Bool.not_eq_false, not_true_eq_false, not_false_eq_true, reduceCtorEq] at hqa6)
      refine WpL.v (V.mv) ?_
      refine WpL.v (V.cmp) ?_
      refine WpL.v (V.pF) ?_
      refine WpL.v (V.mv) ?_
      refine WpL.pt (fun hqa7 => ?_) (fun hqa7 => ?_)
      (try simp only [decide_eq_true_eq, decide_eq_false_iff_not, Bool.not_eq_true', Bool.not_eq_false', Bool.not_eq_true, Bool.not_eq_false, not_true_eq_false, not_false_eq_true, reduceCtorEq] at hqa7)
      (exfalso; omega)
      (try simp only [decide_eq_true_eq, decide_eq_false_iff_not, Bool.not_eq_true', Bool.not_eq_false', Bool.not_eq_true, Bool.not_eq_false, not_true_eq_false, not_false_eq_true, reduceCtorEq] at hqa7)
      refine WpL.v (V.mv) ?_
      refine WpL.v (V.cmp) ?_
      refine WpL.v (V.pF) ?_
      refine WpL.v (V.mv) ?_
      refine WpL.pt (fun hqa8 => ?_) (fun hqa8 => ?_)
      (try simp only [decide_eq_true_eq, decide_eq_false_iff_not, Bool.not_eq_true', Bool.not_eq_false', Bool.not_eq_true, Bool.not_eq_false, not_true_eq_false, not_false_eq_true, reduceCtorEq] at hqa8)
      (exfalso; omega)
      (try simp only [decide_eq_true_eq, decide_eq_false_iff_not, Bool.not_eq_true', Bool.not_eq_false', Bool.not_eq_true, Bool.not_eq_false, not_true_eq_false, not_false_eq_true, reduceCtorEq] at hqa8)
      refine WpL.v (V.mv) ?_
      refine WpL.v (V.cmp) ?_
      refine WpL.v (V.pF) ?_
      apply WpL.nil
      apply Out.seqN
      refine Wp.c (fun hqa9 => ?_) (fun hqa9 => ?_)
      (try simp only [decide_eq_true_eq, decide_eq_false_iff_not, Bool.not_eq_true', Bool.not_eq_false', Bool.not_eq_true, Bool.not_eq_false, not_true_eq_false, not_false_eq_true, reduceCtorEq] at hqa9)
      (exfalso; omega)
      (try simp only [decide_eq_true_eq, decide_eq_false_iff_not, Bool.not_eq_true', Bool.not_eq_false', Bool.not_eq_true, Bool.not_eq_false, not_true_eq_false, not_false_eq_true, reduceCtorEq] at hqa9)
      apply Wp.skip
      apply Out.seqN
      apply Wp.seq
      apply Wp.region
      refine WpL.v (V.mv) ?_
      refine WpL.v (V.mv) ?_
      refine WpL.o (Op1.callT rfl (hN) (by (repeat (first | exact Sel.nil | exact Rem.here | apply Sel.cons | apply Rem.there))) ?_)
      rintro v10 s11 ⟨b67, ⟨p67, ⟨m67, ⟨rfl, rfl⟩⟩⟩⟩
      refine incat ?_
      refine WpL.v (V.as) ?_
      apply WpL.nil
      apply Out.seqN
      apply Wp.seq
      apply Wp.region
      refine WpL.v (V.mv) ?_
      refine WpL.v (V.mv) ?_
      refine WpL.v (V.ldA tb) ?_
      refine WpL.v (V.ldA tb) ?_
      refine WpL.o (O.litL tb TItem.c [x, x] rfl (PartsFrom.agg rfl (PartsFrom.agg rfl PartsFrom.nil)) rfl rfl (fun p72 => ?_))
      refine WpL.o (Op1.callT rfl (hS _ _ _ _) (by (repeat (first | exact Sel.nil | exact Rem.here | apply Sel.cons | apply Rem.there))) ?_)
      rintro v12 s13 ⟨v'73, ⟨rfl, rfl⟩⟩
      refine incat ?_
      apply WpL.nil
      apply Out.seqN
      apply Wp.seq
      apply Wp.region
      refine WpL.v (V.as) ?_
      apply WpL.nil
      apply Out.seqN
      apply Wp.seq
      apply Wp.seq
      apply Wp.region
      refine WpL.v (V.as) ?_
      apply WpL.nil
      apply Out.seqN
      apply Wp.block
      rotate_left
      (try simp only [decide_eq_true_eq, decide_eq_false_iff_not, Bool.not_eq_true', Bool.not_eq_false', Bool.not_eq_true, Bool.not_eq_false, not_true_eq_false, not_false_eq_true, reduceCtorEq] at hqa0)
      (exfalso; omega)
      refine Wp.lpD [11, 10, 7, 4, 1, 0] (fun y : GS17 => y.i ≤ nt + 1 ∧ (0 ≤ y.now ∧ y.now ≤ 1099511627776 + y.i * 134217728) ∧ tv y.tm x = y.t ∧ y.t = y.i ∧ y.last = lastV n self x.Rep y.i) (fun y => [(3, I y.now), (12, I y.last), (13, I y.t)]) (fun y => [cells p67 181 (WheelWheelOfItem.c ⟨y.v, y.t + 1⟩), rows WheelSpokeOfItem.c y.v 183 4 [⟨x, y.now + waitV n self x.Rep y.t, y.t⟩], mapK (fun x : TItem => A x.c) (fun n : Int => I n) m67 y.tm]) (fun y => nt + 1 - y.i) ⟨0, 0, 0, now, v'73, []⟩ ⟨Nat.zero_le _, ⟨by show 0 ≤ now; omega, by show now ≤ 1099511627776 + ((0 : Nat) : Int) * 134217728; omega⟩, rfl, rfl, rfl⟩ ?_
      rintro ⟨i, t, last, now, v, tm⟩ ds ⟨hi, hnow2, htm, hti, hla⟩ K hK
      dsimp only at hi hnow2 htm hti hla
      dsimp only [List.cons_append, List.nil_append]
      have hC := ref_wait n self x.Rep t (by omega) (by omega) (by omega)
      have hwb := waitV_ge n self x.Rep t (by omega)
      by_cases hlt : i ≤ nt
      · have hl : (i ≤ 4 → last < waitV n self x.Rep t) ∧ (4 < i → waitV n self x.Rep t = last) := by
          rw [hti, hla]
          cases i with
          | zero => exact ⟨fun _ => by rw [hti] at hwb; show (0 : Int) < _; omega, fun h => by omega⟩
          | succ j => exact ⟨fun h => waitV_up (by omega) j (by omega), fun h => waitV_top j (by omega)⟩
        have hlv : waitV n self x.Rep t = lastV n self x.Rep (i + 1) := by rw [hti]; rfl
        obtain ⟨hl1, hl2⟩ := hl
        generalize waitV n self x.Rep t = w at *
        have hA (v : Go.Value) := pace_again b67 n self p67 m67 v (t + 1) [] tm (now + w) x ⟨by omega, List.Pairwise.nil, List.nodup_nil, by simp⟩ (by simp) (by omega) (by omega) (by omega) (by omega) (by omega) (by omega)
        have hT (v : Go.Value) := pace_tries b67 n self p67 m67 v (t + 1) [] tm x
        have hD1 := pace_due b67 n self p67 m67 v (t + 1) [⟨x, now + w, t⟩] tm (now + w - 1)
        have hD2 := pace_due b67 n self p67 m67 v (t + 1) [⟨x, now + w, t⟩] tm (now + w)
        rw [htm] at hA hT
        have hg : tv (mput tm x (t + 1)) x = t + 1 := by rw [tv_put, if_pos rfl]
        simp only [again_one] at hA
        unfold paE at hA hT hD1 hD2
        dsimp only [List.cons_append, List.nil_append] at hD1 hD2
        by_cases h4 : i ≤ 4
        · have hl3 := hl1 h4
          apply Wp.seq
          apply Wp.seq
          apply Wp.region
          refine WpL.v (V.mv) ?_
          refine WpL.v (V.mv) ?_
          refine WpL.v (V.cmp) ?_
          apply WpL.nil
          apply Out.seqN
          refine Wp.c (fun hqb0 => ?_) (fun hqb0 => ?_)
          (try simp only [decide_eq_true_eq, decide_eq_false_iff_not, Bool.not_eq_true', Bool.not_eq_false', Bool.not_eq_true, Bool.not_eq_false, not_true_eq_false, not_false_eq_true, reduceCtorEq] at hqb0)
          apply Wp.skip
          apply Out.seqN
          apply Wp.seq
          apply Wp.block
          apply Wp.seq
          apply Wp.region
          refine WpL.v (V.mv) ?_
          refine WpL.v (V.mv) ?_
          refine WpL.v (V.fa tb) ?_
          refine WpL.v (V.ld1 tb) ?_
          refine WpL.v (V.mv) ?_
          refine WpL.o (Op1.fn rfl (hC) ?_)
          refine WpL.v (V.as) ?_
          apply WpL.nil
          apply Out.seqN
          apply Wp.seq
          apply Wp.seq
          apply Wp.region
          refine WpL.v (V.mv) ?_
          refine WpL.v (V.cmp) ?_
          refine WpL.v (V.mv) ?_
          refine WpL.pt (fun hqb1 => ?_) (fun hqb1 => ?_)
          (try simp only [decide_eq_true_eq, decide_eq_false_iff_not, Bool.not_eq_true', Bool.not_eq_false', Bool.not_eq_true, Bool.not_eq_false, not_true_eq_false, not_false_eq_true, reduceCtorEq] at hqb1)
          refine WpL.v (V.mv) ?_
          refine WpL.v (V.mv) ?_
          refine WpL.v (V.cmp) ?_
          refine WpL.v (V.pT) ?_
          refine WpL.v (V.mv) ?_
          refine WpL.pt (fun hqb2 => ?_) (fun hqb2 => ?_)
          (try simp only [decide_eq_true_eq, decide_eq_false_iff_not, Bool.not_eq_true', Bool.not_eq_false', Bool.not_eq_true, Bool.not_eq_false, not_true_eq_false, not_false_eq_true, reduceCtorEq] at hqb2)
          (exfalso; omega)
          (try simp only [decide_eq_true_eq, decide_eq_false_iff_not, Bool.not_eq_true', Bool.not_eq_false', Bool.not_eq_true, Bool.not_eq_false, not_true_eq_false, not_false_eq_true, reduceCtorEq] at hqb2)
          refine WpL.v (V.mv) ?_
          refine WpL.v (V.cmp) ?_
          refine WpL.v (V.mv) ?_
          refine WpL.pt (fun hqb3 => ?_) (fun hqb3 => ?_)
          (try simp only [decide_eq_true_eq, decide_eq_false_iff_not, Bool.not_eq_true', Bool.not_eq_false', Bool.not_eq_true, Bool.not_eq_false, not_true_eq_false, not_false_eq_true, reduceCtorEq] at hqb3)
          (exfalso; omega)
          (try simp only [decide_eq_true_eq, decide_eq_false_iff_not, Bool.not_eq_true', Bool.not_eq_false', Bool.not_eq_true, Bool.not_eq_false, not_true_eq_false, not_false_eq_true, reduceCtorEq] at hqb3)
          refine WpL.sk ?_
          refine WpL.sk ?_
          refine WpL.sk ?_
          refine WpL.v (V.pF) ?_
          refine WpL.v (V.pF) ?_
          apply WpL.nil
          apply Out.seqN
          refine Wp.cF ?_
          apply Wp.skip
          apply Out.seqN
          apply Wp.seq
          apply Wp.seq
          apply Wp.region
          refine WpL.v (V.mv) ?_
          refine WpL.v (V.mv) ?_
          refine WpL.v (V.mv) ?_
          refine WpL.v (V.add) ?_
          refine WpL.v (V.sub) ?_
          refine WpL.o (Op1.callT rfl (hD1) (by (repeat (first | exact Sel.nil | exact Rem.here | apply Sel.cons | apply Rem.there))) ?_)
          rintro v4 s5 ⟨a106, ⟨c106, ⟨rfl, rfl⟩⟩⟩
          refine incat ?_
          apply WpL.nil
          apply Out.seqN
          apply Wp.block
          rotate_left
          (try simp only [decide_eq_true_eq, decide_eq_false_iff_not, Bool.not_eq_true', Bool.not_eq_false', Bool.not_eq_true, Bool.not_eq_false, not_true_eq_false, not_false_eq_true, reduceCtorEq] at hqb1)
          (exfalso; omega)
          (try simp only [decide_eq_true_eq, decide_eq_false_iff_not, Bool.not_eq_true', Bool.not_eq_false', Bool.not_eq_true, Bool.not_eq_false, not_true_eq_false, not_false_eq_true, reduceCtorEq] at hqb0)
          (exfalso; omega)
          refine Wp.rgB (Iwheel_iter p67 a106 c106 (now + w - 1) ⟨v, t + 1, [⟨x, now + w, t⟩]⟩) (fun _ : Unit => ⟨v, t + 1, [⟨x, now + w, t⟩]⟩) (fun _ => []) (fun j _ => j = 0) (fun _ _ _ => False) () 0 (fun j y h => by omega) rfl rfl ?_ ?_ ?_
          · rintro j i' c b' lp rec _ ⟨s, rest, g, cp, h1, h2, _⟩
            cases h1
            dsimp only at h2
            omega
          · rintro j c b1 _ _
            dsimp only [IWB.E, IwhE, List.cons_append, List.nil_append]
            apply Out.blockN
            apply Out.seqN
            apply Wp.seq
            apply Wp.region
            refine WpL.o (O.al tb (fun p15 => ?_))
            refine WpL.o (O.st1 tb ?_)
            apply WpL.nil
            apply Out.seqN
            apply Wp.seq
            apply Wp.seq
            apply Wp.region
            refine WpL.v (V.mv) ?_
            refine WpL.v (V.mv) ?_
            refine WpL.v (V.mv) ?_
            refine WpL.v (V.add) ?_
            refine WpL.o (Op1.callT rfl (hD2) (by (repeat (first | exact Sel.nil | exact Rem.here | apply Sel.cons | apply Rem.there))) ?_)
            rintro v0 s1 ⟨a112, ⟨c112, ⟨rfl, rfl⟩⟩⟩
            refine incat ?_
            apply WpL.nil
            apply Out.seqN
            apply Wp.block
            refine Wp.rgB (Iwheel_iter p67 a112 c112 (now + w) ⟨v, t + 1, [⟨x, now + w, t⟩]⟩) (fun y : Nat × IWB => y.2) (fun y => [cells p15 3 [I (y.1 : Int)], cells p7 23 x.c, cells p10 4 [B false]]) (fun j y => (j = 0 ∧ y = (0, ⟨v, t + 1, [⟨x, now + w, t⟩]⟩)) ∨ (j = 1 ∧ y.1 = 1 ∧ y.2.l = [] ∧ y.2.t = t + 1)) (fun _ _ _ => False) (0, ⟨v, t + 1, [⟨x, now + w, t⟩]⟩) 1 (fun j y h => by omega) rfl (.inl ⟨rfl, rfl⟩) ?_ ?_ ?_
            · rintro j i' ⟨n', bv, bt, bl⟩ b' lp rec hG ⟨s, rest, g, cp, h1, h2, rfl, h3, rfl⟩ hr W' D' K2 hK2
              dsimp only at h1 h3
              rcases hG with ⟨rfl, hG⟩ | ⟨rfl, _, hG, _⟩
              · cases hG
                cases h1
                dsimp only [IWB.E, IwhE, List.cons_append, List.nil_append]
                apply Wp.region
                refine WpL.o (O.al tb (fun p16 => ?_))
                refine WpL.o (O.stA tb ?_)
                apply WpL.nil
                refine Out.bg (by assumption) ?_
                apply Wp.block
                apply Wp.seq
                apply Wp.seq
                apply Wp.region
                refine WpL.v (V.ldA tb) ?_
                refine WpL.v (V.ldA tb) ?_
                refine WpL.v (V.ne (TItem.eqT _ _ _)) ?_
                apply WpL.nil
                apply Out.seqN
                refine Wp.c (fun hqd0 => ?_) (fun hqd0 => ?_)
                (try simp only [decide_eq_true_eq, decide_eq_false_iff_not, Bool.not_eq_true', Bool.not_eq_false', Bool.not_eq_true, Bool.not_eq_false, not_true_eq_false, not_false_eq_true, reduceCtorEq] at hqd0)
                (try simp only [decide_eq_true_eq, decide_eq_false_iff_not, Bool.not_eq_true', Bool.not_eq_false', Bool.not_eq_true, Bool.not_eq_false, not_true_eq_false, not_false_eq_true, reduceCtorEq] at hqd0)
                apply Wp.skip
                apply Out.seqN
                apply Wp.region
                refine WpL.v (V.ld1 tb) ?_
                refine WpL.v (V.add) ?_
                refine WpL.o (O.st1 tb ?_)
                apply WpL.nil
                apply Out.blockN
                exact Out.rdZ hK2 (1, ⟨.slice (some ⟨g, 0, none⟩) ([] : List WheelSpokeOfItem).length cp, t + 1, []⟩) (.inr ⟨rfl, rfl, rfl, rfl⟩)
              · dsimp only at hG
                rw [hG] at h1
                cases h1
            · rintro j ⟨n', bv, bt, bl⟩ b2 hG hstop
              rcases hG with ⟨rfl, hG⟩ | ⟨rfl, hn', hG, hbt⟩
              · cases hG
                have := hstop _ rfl
                dsimp only at this
                omega
              · dsimp only at hn' hG hbt
                subst hn' hG hbt
                dsimp only [IWB.E, IwhE, List.cons_append, List.nil_append]
                apply Out.blockN
                apply Out.seqN
                apply Wp.seq
                apply Wp.seq
                apply Wp.region
                refine WpL.v (V.ld1 tb) ?_
                refine WpL.v (V.cmp) ?_
                refine WpL.v (V.mv) ?_
                refine WpL.v (V.mv) ?_
                refine WpL.v (V.ldA tb) ?_
                refine WpL.o (Op1.callT rfl (hT _) (by (repeat (first | exact Sel.nil | exact Rem.here | apply Sel.cons | apply Rem.there))) ?_)
                rintro v0 s1 ⟨rfl, rfl⟩
                refine incat ?_
                refine WpL.v (V.mv) ?_
                refine WpL.v (V.cmp) ?_
                refine WpL.v (V.pF) ?_
                apply WpL.nil
                apply Out.seqN
                refine Wp.c (fun hqe2 => ?_) (fun hqe2 => ?_)
                (try simp only [decide_eq_true_eq, decide_eq_false_iff_not, Bool.not_eq_true', Bool.not_eq_false', Bool.not_eq_true, Bool.not_eq_false, not_true_eq_false, not_false_eq_true, reduceCtorEq] at hqe2)
                (try simp only [decide_eq_true_eq, decide_eq_false_iff_not, Bool.not_eq_true', Bool.not_eq_false', Bool.not_eq_true, Bool.not_eq_false, not_true_eq_false, not_false_eq_true, reduceCtorEq] at hqe2)
                apply Wp.skip
                apply Out.seqN
                apply Wp.seq
                apply Wp.region
                refine WpL.v (V.mv) ?_
                refine WpL.v (V.as) ?_
                apply WpL.nil
                apply Out.seqN
                apply Wp.seq
                apply Wp.region
                refine WpL.v (V.mv) ?_
                refine WpL.v (V.mv) ?_
                refine WpL.v (V.add) ?_
                refine WpL.v (V.as) ?_
                apply WpL.nil
                apply Out.seqN
                apply Wp.region
                refine WpL.v (V.mv) ?_
                refine WpL.v (V.mv) ?_
                refine WpL.v (V.ldA tb) ?_
                refine WpL.o (Op1.callT rfl (hA _) (by (repeat (first | exact Sel.nil | exact Rem.here | apply Sel.cons | apply Rem.there))) ?_)
                rintro v3 s4 ⟨g135, ⟨cap135, ⟨rfl, rfl⟩⟩⟩
                refine incat ?_
                apply WpL.nil
                apply Out.blockN
                apply Out.seqN
                apply Wp.region
                refine WpL.v (V.mv) ?_
                refine WpL.v (V.add) ?_
                refine WpL.v (V.as) ?_
                apply WpL.nil
                exact Out.agD hK [b2, b1] ⟨i + 1, t + 1, w, now + w, _, mput tm x (t + 1)⟩ ⟨by show i + 1 ≤ nt + 1; omega, ⟨by show 0 ≤ now + w; omega, by show now + w ≤ 1099511627776 + ((i + 1 : Nat) : Int) * 134217728; omega⟩, hg, by show t + 1 = ((i + 1 : Nat) : Int); omega, hlv⟩ (by show nt + 1 - (i + 1) < nt + 1 - i; omega)
            · intro _ _ _ _ _ _ h
              exact h.elim
          · intro _ _ _ _ _ _ h
            exact h.elim
        · have hl3 := hl2 (by omega)
          apply Wp.seq
          apply Wp.seq
          apply Wp.region
          refine WpL.v (V.mv) ?_
          refine WpL.v (V.mv) ?_
          refine WpL.v (V.cmp) ?_
          apply WpL.nil
          apply Out.seqN
          refine Wp.c (fun h0 => ?_) (fun h0 => ?_)
          (try simp only [decide_eq_true_eq, decide_eq_false_iff_not, Bool.not_eq_true', Bool.not_eq_false', Bool.not_eq_true, Bool.not_eq_false, not_true_eq_false, not_false_eq_true, reduceCtorEq] at h0)
          apply Wp.skip
          apply Out.seqN
          apply Wp.seq
          apply Wp.block
          apply Wp.seq
          apply Wp.region
          refine WpL.v (V.mv) ?_
          refine WpL.v (V.mv) ?_
          refine WpL.v (V.fa tb) ?_
          refine WpL.v (V.ld1 tb) ?_
          refine WpL.v (V.mv) ?_
          refine WpL.o (Op1.fn rfl (hC) ?_)
          refine WpL.v (V.as) ?_
          apply WpL.nil
          apply Out.seqN
          apply Wp.seq
          apply Wp.seq
          apply Wp.region
          refine WpL.v (V.mv) ?_
          refine WpL.v (V.cmp) ?_
          refine WpL.v (V.mv) ?_
          refine WpL.pt (fun h1 => ?_) (fun h1 => ?_)
          (try simp only [decide_eq_true_eq, decide_eq_false_iff_not, Bool.not_eq_true', Bool.not_eq_false', Bool.not_eq_true, Bool.not_eq_false, not_true_eq_false, not_false_eq_true, reduceCtorEq] at h1)
          (exfalso; omega)
          (try simp only [decide_eq_true_eq, decide_eq_false_iff_not, Bool.not_eq_true', Bool.not_eq_false', Bool.not_eq_true, Bool.not_eq_false, not_true_eq_false, not_false_eq_true, reduceCtorEq] at h1)
          refine WpL.sk ?_
          refine WpL.sk ?_
          refine WpL.sk ?_
          refine WpL.v (V.pF) ?_
          refine WpL.v (V.mv) ?_
          refine WpL.v (V.mv) ?_
          refine WpL.v (V.cmp) ?_
          refine WpL.v (V.mv) ?_
          refine WpL.pt (fun h2 => ?_) (fun h2 => ?_)
          (try simp only [decide_eq_true_eq, decide_eq_false_iff_not, Bool.not_eq_true', Bool.not_eq_false', Bool.not_eq_true, Bool.not_eq_false, not_true_eq_false, not_false_eq_true, reduceCtorEq] at h2)
          refine WpL.v (V.mv) ?_
          refine WpL.v (V.mv) ?_
          refine WpL.v (V.cmp) ?_
          refine WpL.v (V.pT) ?_
          refine WpL.v (V.pF) ?_
          apply WpL.nil
          apply Out.seqN
          refine Wp.c (fun h3 => ?_) (fun h3 => ?_)
          (try simp only [decide_eq_true_eq, decide_eq_false_iff_not, Bool.not_eq_true', Bool.not_eq_false', Bool.not_eq_true, Bool.not_eq_false, not_true_eq_false, not_false_eq_true, reduceCtorEq] at h3)
          (exfalso; omega)
          (try simp only [decide_eq_true_eq, decide_eq_false_iff_not, Bool.not_eq_true', Bool.not_eq_false', Bool.not_eq_true, Bool.not_eq_false, not_true_eq_false, not_false_eq_true, reduceCtorEq] at h3)
          apply Wp.skip
          apply Out.seqN
          apply Wp.seq
          apply Wp.seq
          apply Wp.region
          refine WpL.v (V.mv) ?_
          refine WpL.v (V.mv) ?_
          refine WpL.v (V.mv) ?_
          refine WpL.v (V.add) ?_
          refine WpL.v (V.sub) ?_
          refine WpL.o (Op1.callT rfl (hD1) (by (repeat (first | exact Sel.nil | exact Rem.here | apply Sel.cons | apply Rem.there))) ?_)
          rintro v4 s5 ⟨a106, ⟨c106, ⟨rfl, rfl⟩⟩⟩
          refine incat ?_
          apply WpL.nil
          apply Out.seqN
          apply Wp.block
          rotate_left
          (try simp only [decide_eq_true_eq, decide_eq_false_iff_not, Bool.not_eq_true', Bool.not_eq_false', Bool.not_eq_true, Bool.not_eq_false, not_true_eq_false, not_false_eq_true, reduceCtorEq] at h2)
          (exfalso; omega)
          (try simp only [decide_eq_true_eq, decide_eq_false_iff_not, Bool.not_eq_true', Bool.not_eq_false', Bool.not_eq_true, Bool.not_eq_false, not_true_eq_false, not_false_eq_true, reduceCtorEq] at h0)
          (exfalso; omega)
          refine Wp.rgB (Iwheel_iter p67 a106 c106 (now + w - 1) ⟨v, t + 1, [⟨x, now + w, t⟩]⟩) (fun _ : Unit => ⟨v, t + 1, [⟨x, now + w, t⟩]⟩) (fun _ => []) (fun j _ => j = 0) (fun _ _ _ => False) () 0 (fun j y h => by omega) rfl rfl ?_ ?_ ?_
          · rintro j i' c b' lp rec _ ⟨s, rest, g, cp, h1, h2, _⟩
            cases h1
            dsimp only at h2
            omega
          · rintro j c b1 _ _
            dsimp only [IWB.E, IwhE, List.cons_append, List.nil_append]
            apply Out.blockN
            apply Out.seqN
            apply Wp.seq
            apply Wp.region
            refine WpL.o (O.al tb (fun p15 => ?_))
            refine WpL.o (O.st1 tb ?_)
            apply WpL.nil
            apply Out.seqN
            apply Wp.seq
            apply Wp.seq
            apply Wp.region
            refine WpL.v (V.mv) ?_
            refine WpL.v (V.mv) ?_
            refine WpL.v (V.mv) ?_
            refine WpL.v (V.add) ?_
            refine WpL.o (Op1.callT rfl (hD2) (by (repeat (first | exact Sel.nil | exact Rem.here | apply Sel.cons | apply Rem.there))) ?_)
            rintro v0 s1 ⟨a112, ⟨c112, ⟨rfl, rfl⟩⟩⟩
            refine incat ?_
            apply WpL.nil
            apply Out.seqN
            apply Wp.block
            refine Wp.rgB (Iwheel_iter p67 a112 c112 (now + w) ⟨v, t + 1, [⟨x, now + w, t⟩]⟩) (fun y : Nat × IWB => y.2) (fun y => [cells p15 3 [I (y.1 : Int)], cells p7 23 x.c, cells p10 4 [B false]]) (fun j y => (j = 0 ∧ y = (0, ⟨v, t + 1, [⟨x, now + w, t⟩]⟩)) ∨ (j = 1 ∧ y.1 = 1 ∧ y.2.l = [] ∧ y.2.t = t + 1)) (fun _ _ _ => False) (0, ⟨v, t + 1, [⟨x, now + w, t⟩]⟩) 1 (fun j y h => by omega) rfl (.inl ⟨rfl, rfl⟩) ?_ ?_ ?_
            · rintro j i' ⟨n', bv, bt, bl⟩ b' lp rec hG ⟨s, rest, g, cp, h1, h2, rfl, h3, rfl⟩ hr W' D' K2 hK2
              dsimp only at h1 h3
              rcases hG with ⟨rfl, hG⟩ | ⟨rfl, _, hG, _⟩
              · cases hG
                cases h1
                dsimp only [IWB.E, IwhE, List.cons_append, List.nil_append]
                apply Wp.region
                refine WpL.o (O.al tb (fun p16 => ?_))
                refine WpL.o (O.stA tb ?_)
                apply WpL.nil
                refine Out.bg (by assumption) ?_
                apply Wp.block
                apply Wp.seq
                apply Wp.seq
                apply Wp.region
                refine WpL.v (V.ldA tb) ?_
                refine WpL.v (V.ldA tb) ?_
                refine WpL.v (V.ne (TItem.eqT _ _ _)) ?_
                apply WpL.nil
                apply Out.seqN
                refine Wp.c (fun h0 => ?_) (fun h0 => ?_)
                (try simp only [decide_eq_true_eq, decide_eq_false_iff_not, Bool.not_eq_true', Bool.not_eq_false', Bool.not_eq_true, Bool.not_eq_false, not_true_eq_false, not_false_eq_true, reduceCtorEq] at h0)
                (try simp only [decide_eq_true_eq, decide_eq_false_iff_not, Bool.not_eq_true', Bool.not_eq_false', Bool.not_eq_true, Bool.not_eq_false, not_true_eq_false, not_false_eq_true, reduceCtorEq] at h0)
                apply Wp.skip
                apply Out.seqN
                apply Wp.region
                refine WpL.v (V.ld1 tb) ?_
                refine WpL.v (V.add) ?_
                refine WpL.o (O.st1 tb ?_)
                apply WpL.nil
                apply Out.blockN
                exact Out.rdZ hK2 (1, ⟨.slice (some ⟨g, 0, none⟩) ([] : List WheelSpokeOfItem).length cp, t + 1, []⟩) (.inr ⟨rfl, rfl, rfl, rfl⟩)
              · dsimp only at hG
                rw [hG] at h1
                cases h1
            · rintro j ⟨n', bv, bt, bl⟩ b2 hG hstop
              rcases hG with ⟨rfl, hG⟩ | ⟨rfl, hn', hG, hbt⟩
              · cases hG
                have := hstop _ rfl
                dsimp only at this
                omega
              · dsimp only at hn' hG hbt
                subst hn' hG hbt
                dsimp only [IWB.E, IwhE, List.cons_append, List.nil_append]
                apply Out.blockN
                apply Out.seqN
                apply Wp.seq
                apply Wp.seq
                apply Wp.region
                refine WpL.v (V.ld1 tb) ?_
                refine WpL.v (V.cmp) ?_
                refine WpL.v (V.mv) ?_
                refine WpL.v (V.mv) ?_
                refine WpL.v (V.ldA tb) ?_
                refine WpL.o (Op1.callT rfl (hT _) (by (repeat (first | exact Sel.nil | exact Rem.here | apply Sel.cons | apply Rem.there))) ?_)
                rintro v0 s1 ⟨rfl, rfl⟩
                refine incat ?_
                refine WpL.v (V.mv) ?_
                refine WpL.v (V.cmp) ?_
                refine WpL.v (V.pF) ?_
                apply WpL.nil
                apply Out.seqN
                refine Wp.c (fun h2 => ?_) (fun h2 => ?_)
                (try simp only [decide_eq_true_eq, decide_eq_false_iff_not, Bool.not_eq_true', Bool.not_eq_false', Bool.not_eq_true, Bool.not_eq_false, not_true_eq_false, not_false_eq_true, reduceCtorEq] at h2)
                (try simp only [decide_eq_true_eq, decide_eq_false_iff_not, Bool.not_eq_true', Bool.not_eq_false', Bool.not_eq_true, Bool.not_eq_false, not_true_eq_false, not_false_eq_true, reduceCtorEq] at h2)
                apply Wp.skip
                apply Out.seqN
                apply Wp.seq
                apply Wp.region
                refine WpL.v (V.mv) ?_
                refine WpL.v (V.as) ?_
                apply WpL.nil
                apply Out.seqN
                apply Wp.seq
                apply Wp.region
                refine WpL.v (V.mv) ?_
                refine WpL.v (V.mv) ?_
                refine WpL.v (V.add) ?_
                refine WpL.v (V.as) ?_
                apply WpL.nil
                apply Out.seqN
                apply Wp.region
                refine WpL.v (V.mv) ?_
                refine WpL.v (V.mv) ?_
                refine WpL.v (V.ldA tb) ?_
                refine WpL.o (Op1.callT rfl (hA _) (by (repeat (first | exact Sel.nil | exact Rem.here | apply Sel.cons | apply Rem.there))) ?_)
                rintro v3 s4 ⟨g135, ⟨cap135, ⟨rfl, rfl⟩⟩⟩
                refine incat ?_
                apply WpL.nil
                apply Out.blockN
                apply Out.seqN
                apply Wp.region
                refine WpL.v (V.mv) ?_
                refine WpL.v (V.add) ?_
                refine WpL.v (V.as) ?_
                apply WpL.nil
                exact Out.agD hK [b2, b1] ⟨i + 1, t + 1, w, now + w, _, mput tm x (t + 1)⟩ ⟨by show i + 1 ≤ nt + 1; omega, ⟨by show 0 ≤ now + w; omega, by show now + w ≤ 1099511627776 + ((i + 1 : Nat) : Int) * 134217728; omega⟩, hg, by show t + 1 = ((i + 1 : Nat) : Int); omega, hlv⟩ (by show nt + 1 - (i + 1) < nt + 1 - i; omega)
            · intro _ _ _ _ _ _ h
              exact h.elim
          · intro _ _ _ _ _ _ h
            exact h.elim
      · obtain rfl : i = nt + 1 := by omega
        clear hK
        refine Wp.unbagE ?_
        dsimp only [List.cons_append, List.nil_append]
        apply Wp.seq
        apply Wp.seq
        apply Wp.region
        refine WpL.v (V.mv) ?_
        refine WpL.v (V.mv) ?_
        refine WpL.v (V.cmp) ?_
        apply WpL.nil
        apply Out.seqN
        refine Wp.c (fun hqz0 => ?_) (fun hqz0 => ?_)
        (try simp only [decide_eq_true_eq, decide_eq_false_iff_not, Bool.not_eq_true', Bool.not_eq_false', Bool.not_eq_true, Bool.not_eq_false, not_true_eq_false, not_false_eq_true, reduceCtorEq] at hqz0)
        (exfalso; omega)
        (try simp only [decide_eq_true_eq, decide_eq_false_iff_not, Bool.not_eq_true', Bool.not_eq_false', Bool.not_eq_true, Bool.not_eq_false, not_true_eq_false, not_false_eq_true, reduceCtorEq] at hqz0)
        apply Wp.exit
        apply Out.seqE
        apply Out.seqE
        apply Out.blockE
        apply Out.seqN
        apply Wp.seq
        apply Wp.region
        refine WpL.o (O.st1 tb ?_)
        apply WpL.nil
        apply Out.seqN
        apply Wp.ret
        refine Out.e1 rfl (ResIs.c1 tb) ?_
        focus (exact ⟨[], _, ⟨rfl, rfl⟩, selTail (dfrs ds) [_, _, _, _, _, _, _]⟩; done)
    · apply Wp.seq
      apply Wp.region
      refine WpL.o (O.bxA (fun p7 => ?_))
      refine WpL.o (O.al tb (fun p10 => ?_))
      apply WpL.nil
      apply Out.seqN
      apply Wp.seq
      apply Wp.seq
      apply Wp.region
      refine WpL.o (Op1.fn rfl (alive17) ?_)
      refine WpL.v (V.not) ?_
      apply WpL.nil
      apply Out.seqN
      refine Wp.cF ?_
      apply Wp.skip
      apply Out.seqN
      apply Wp.seq
      apply Wp.seq
      apply Wp.region
      refine WpL.v (V.mv) ?_
      refine WpL.v (V.cmp) ?_
      refine WpL.v (V.mv) ?_
      refine WpL.pt (fun hra0 => ?_) (fun hra0 => ?_)
      (try simp only [decide_eq_true_eq, decide_eq_false_iff_not, Bool.not_eq_true', Bool.not_eq_false', Bool.not_eq_true, Bool.not_eq_false, not_true_eq_false, not_false_eq_true, reduceCtorEq] at hra0)
      refine WpL.v (V.mv) ?_
      refine WpL.v (V.cmp) ?_
      refine WpL.v (V.pT) ?_
      refine WpL.v (V.mv) ?_
      refine WpL.pt (fun hra1 => ?_) (fun hra1 => ?_)
      (try simp only [decide_eq_true_eq, decide_eq_false_iff_not, Bool.not_eq_true', Bool.not_eq_false', Bool.not_eq_true, Bool.not_eq_false, not_true_eq_false, not_false_eq_true, reduceCtorEq] at hra1)
      refine WpL.v (V.mv) ?_
      refine WpL.v (V.cmp) ?_
      refine WpL.v (V.pT) ?_
      refine WpL.v (V.mv) ?_
      refine WpL.pt (fun hra2 => ?_) (fun hra2 => ?_)
      (try simp only [decide_eq_true_eq, decide_eq_false_iff_not, Bool.not_eq_true', Bool.not_eq_false', Bool.not_eq_true, Bool.not_eq_false, not_true_eq_false, not_false_eq_true, reduceCtorEq] at hra2)
      (exfalso; omega)
      (try simp only [decide_eq_true_eq, decide_eq_false_iff_not, Bool.not_eq_true', Bool.not_eq_false', Bool.not_eq_true, Bool.not_eq_false, not_true_eq_false, not_false_eq_true, reduceCtorEq] at hra2)
      refine WpL.v (V.mv) ?_
      refine WpL.v (V.cmp) ?_
      refine WpL.v (V.pF) ?_
      refine WpL.v (V.mv) ?_
      refine WpL.pt (fun hra3 => ?_) (fun hra3 => ?_)
      (try simp only [decide_eq_true_eq, decide_eq_false_iff_not, Bool.not_eq_true', Bool.not_eq_false', Bool.not_eq_true, Bool.not_eq_false, not_true_eq_false, not_false_eq_true, reduceCtorEq] at hra3)
      (exfalso; omega)
      (try simp only [decide_eq_true_eq, decide_eq_false_iff_not, Bool.not_eq_true', Bool.not_eq_false', Bool.not_eq_true, Bool.not_eq_false, not_true_eq_false, not_false_eq_true, reduceCtorEq] at hra3)
      refine WpL.v (V.mv) ?_
      refine WpL.v (V.mv) ?_
      refine WpL.v (V.cmp) ?_
      refine WpL.v (V.pF) ?_
      refine WpL.v (V.mv) ?_
      refine WpL.pt (fun hra4 => ?_) (fun hra4 => ?_)
      (try simp only [decide_eq_true_eq, decide_eq_false_iff_not, Bool.not_eq_true', Bool.not_eq_false', Bool.not_eq_true, Bool.not_eq_false, not_true_eq_false, not_false_eq_true, reduceCtorEq] at hra4)
      (exfalso; omega)
      (try simp only [decide_eq_true_eq, decide_eq_false_iff_not, Bool.not_eq_true', Bool.not_eq_false', Bool.not_eq_true, Bool.not_eq_false, not_true_eq_false, not_false_eq_true, reduceCtorEq] at hra4)
      refine WpL.v (V.fa tb) ?_
      refine WpL.v (V.ld1 tb) ?_
      refine WpL.v (V.cmp) ?_
      refine WpL.v (V.pF) ?_
      refine WpL.v (V.mv) ?_
      refine WpL.pt (fun hra5 => ?_) (fun hra5 => ?_)
      (try simp only [decide_eq_true_eq, decide_eq_false_iff_not, Bool.not_eq_true', Bool.not_eq_false', Bool.not_eq_true, Bool.not_eq_false, not_true_eq_false, not_false_eq_true, reduceCtorEq] at hra5)
      (exfalso; omega)
      (try simp only [decide_eq_true_eq, decide_eq_false_iff_not, Bool.not_eq_true', Bool.not_eq_false', Bool.not_eq_true, Bool.not_eq_false, not_true_eq_false, not_false_eq_true, reduceCtorEq] at hra5)
      refine WpL.v (V.fa tb) ?_
      refine WpL.v (V.ld1 tb) ?_
      refine WpL.v (V.mv) ?_
      refine WpL.v (V.cmp) ?_
      refine WpL.v (V.pF) ?_
      refine WpL.v (V.mv) ?_
      refine WpL.pt (fun hra6 => ?_) (fun hra6 => ?_)
      (try simp only [decide_eq_true_eq, decide_eq_false_iff_not, Bool.not_eq_true', Bool.not_eq_false', Bool.not_eq_true, Bool.not_eq_false, not_true_eq_false, not_false_eq_true, reduceCtorEq] at hra6)
      (exfalso; omega)
      (try simp only [decide_eq_true_eq, decide_eq_false_iff_not, Bool.not_eq_true', Bool.not_eq_false', Bool.not_eq_true, Bool.not_eq_false, not_true_eq_false, not_false_eq_true, reduceCtorEq] at hra6)
      refine WpL.v (V.mv) ?_
      refine WpL.v (V.cmp) ?_
      refine WpL.v (V.pF) ?_
      refine WpL.v (V.mv) ?_
      refine WpL.pt (fun hra7 => ?_) (fun hra7 => ?_)
      (try simp only [decide_eq_true_eq, decide_eq_false_iff_not, Bool.not_eq_true', Bool.not_eq_false', Bool.not_eq_true, Bool.not_eq_false, not_true_eq_false, not_false_eq_true, reduceCtorEq] at hra7)
      (exfalso; omega)
      (try simp only [decide_eq_true_eq, decide_eq_false_iff_not, Bool.not_eq_true', Bool.not_eq_false', Bool.not_eq_true, Bool.not_eq_false, not_true_eq_false, not_false_eq_true, reduceCtorEq] at hra7)
      refine WpL.v (V.mv) ?_
      refine WpL.v (V.cmp) ?_
      refine WpL.v (V.pF) ?_
      refine WpL.v (V.mv) ?_
      refine WpL.pt (fun hra8 => ?_) (fun hra8 => ?_)
      (try simp only [decide_eq_true_eq, decide_eq_false_iff_not, Bool.not_eq_true', Bool.not_eq_false', Bool.not_eq_true, Bool.not_eq_false, not_true_eq_false, not_false_eq_true, reduceCtorEq] at hra8)
      (exfalso; omega)
      (try simp only [decide_eq_true_eq, decide_eq_false_iff_not, Bool.not_eq_true', Bool.not_eq_false', Bool.not_eq_true, Bool.not_eq_false, not_true_eq_false, not_false_eq_true, reduceCtorEq] at hra8)
      refine WpL.v (V.mv) ?_
      refine WpL.v (V.cmp) ?_
      refine WpL.v (V.pF) ?_
      refine WpL.v (V.mv) ?_
      refine WpL.pt (fun hra9 => ?_) (fun hra9 => ?_)
      (try simp only [decide_eq_true_eq, decide_eq_false_iff_not, Bool.not_eq_true', Bool.not_eq_false', Bool.not_eq_true, Bool.not_eq_false, not_true_eq_false, not_false_eq_true, reduceCtorEq] at hra9)
      (exfalso; omega)
      (try simp only [decide_eq_true_eq, decide_eq_false_iff_not, Bool.not_eq_true', Bool.not_eq_false', Bool.not_eq_true, Bool.not_eq_false, not_true_eq_false, not_false_eq_true, reduceCtorEq] at hra9)
      refine WpL.v (V.mv) ?_
      refine WpL.v (V.cmp) ?_
      refine WpL.v (V.pF) ?_
      apply WpL.nil
      apply Out.seqN
      refine Wp.c (fun hra10 => ?_) (fun hra10 => ?_)
      (try simp only [decide_eq_true_eq, decide_eq_false_iff_not, Bool.not_eq_true', Bool.not_eq_false', Bool.not_eq_true, Bool.not_eq_false, not_true_eq_false, not_false_eq_true, reduceCtorEq] at hra10)
      (exfalso; omega)
      (try simp only [decide_eq_true_eq, decide_eq_false_iff_not, Bool.not_eq_true', Bool.not_eq_false', Bool.not_eq_true, Bool.not_eq_false, not_true_eq_false, not_false_eq_true, reduceCtorEq] at hra10)
      apply Wp.skip
      apply Out.seqN
      apply Wp.seq
      apply Wp.region
      refine WpL.v (V.mv) ?_
      refine WpL.v (V.mv) ?_
      refine WpL.o (Op1.callT rfl (hN) (by (repeat (first | exact Sel.nil | exact Rem.here | apply Sel.cons | apply Rem.there))) ?_)
      rintro v11 s12 ⟨b67, ⟨p67, ⟨m67, ⟨rfl, rfl⟩⟩⟩⟩
      refine incat ?_
      refine WpL.v (V.as) ?_
      apply WpL.nil
      apply Out.seqN
      apply Wp.seq
      apply Wp.region
      refine WpL.v (V.mv) ?_
      refine WpL.v (V.mv) ?_
      refine WpL.v (V.ldA tb) ?_
      refine WpL.v (V.ldA tb) ?_
      refine WpL.o (O.litL tb TItem.c [x, x] rfl (PartsFrom.agg rfl (PartsFrom.agg rfl PartsFrom.nil)) rfl rfl (fun p72 => ?_))
      refine WpL.o (Op1.callT rfl (hS _ _ _ _) (by (repeat (first | exact Sel.nil | exact Rem.here | apply Sel.cons | apply Rem.there))) ?_)
      rintro v13 s14 ⟨v'73, ⟨rfl, rfl⟩⟩
      refine incat ?_
      apply WpL.nil
      apply Out.seqN
      apply Wp.seq
      apply Wp.region
      refine WpL.v (V.as) ?_
      apply WpL.nil
      apply Out.seqN
      apply Wp.seq
      apply Wp.seq
      apply Wp.region
      refine WpL.v (V.as) ?_
      apply WpL.nil
      apply Out.seqN
      apply Wp.block
      rotate_left
      (try simp only [decide_eq_true_eq, decide_eq_false_iff_not, Bool.not_eq_true', Bool.not_eq_false', Bool.not_eq_true, Bool.not_eq_false, not_true_eq_false, not_false_eq_true, reduceCtorEq] at hra1)
      (exfalso; omega)
      (try simp only [decide_eq_true_eq, decide_eq_false_iff_not, Bool.not_eq_true', Bool.not_eq_false', Bool.not_eq_true, Bool.not_eq_false, not_true_eq_false, not_false_eq_true, reduceCtorEq] at hra0)
      (exfalso; omega)
      refine Wp.lpD [11, 10, 7, 4, 1, 0] (fun y : GS17 => y.i ≤ nt + 1 ∧ (0 ≤ y.now ∧ y.now ≤ 1099511627776 + y.i * 134217728) ∧ tv y.tm x = y.t ∧ y.t = y.i ∧ y.last = lastV n self x.Rep y.i) (fun y => [(3, I y.now), (12, I y.last), (13, I y.t)]) (fun y => [cells p67 181 (WheelWheelOfItem.c ⟨y.v, y.t + 1⟩), rows WheelSpokeOfItem.c y.v 183 4 [⟨x, y.now + waitV n self x.Rep y.t, y.t⟩], mapK (fun x : TItem => A x.c) (fun n : Int => I n) m67 y.tm]) (fun y => nt + 1 - y.i) ⟨0, 0, 0, now, v'73, []⟩ ⟨Nat.zero_le _, ⟨by show 0 ≤ now; omega, by show now ≤ 1099511627776 + ((0 : Nat) : Int) * 134217728; omega⟩, rfl, rfl, rfl⟩ ?_
      rintro ⟨i, t, last, now, v, tm⟩ ds ⟨hi, hnow2, htm, hti, hla⟩ K hK
      dsimp only at hi hnow2 htm hti hla
      dsimp only [List.cons_append, List.nil_append]
      have hC := ref_wait n self x.Rep t (by omega) (by omega) (by omega)
      have hwb := waitV_ge n self x.Rep t (by omega)
      by_cases hlt : i ≤ nt
      · have hl : (i ≤ 4 → last < waitV n self x.Rep t) ∧ (4 < i → waitV n self x.Rep t = last) := by
          rw [hti, hla]
          cases i with
          | zero => exact ⟨fun _ => by rw [hti] at hwb; show (0 : Int) < _; omega, fun h => by omega⟩
          | succ j => exact ⟨fun h => waitV_up (by omega) j (by omega), fun h => waitV_top j (by omega)⟩
        have hlv : waitV n self x.Rep t = lastV n self x.Rep (i + 1) := by rw [hti]; rfl
        obtain ⟨hl1, hl2⟩ := hl
        generalize waitV n self x.Rep t = w at *
        have hA (v : Go.Value) := pace_again b67 n self p67 m67 v (t + 1) [] tm (now + w) x ⟨by omega, List.Pairwise.nil, List.nodup_nil, by simp⟩ (by simp) (by omega) (by omega) (by omega) (by omega) (by omega) (by omega)
        have hT (v : Go.Value) := pace_tries b67 n self p67 m67 v (t + 1) [] tm x
        have hD1 := pace_due b67 n self p67 m67 v (t + 1) [⟨x, now + w, t⟩] tm (now + w - 1)
        have hD2 := pace_due b67 n self p67 m67 v (t + 1) [⟨x, now + w, t⟩] tm (now + w)
        rw [htm] at hA hT
        have hg : tv (mput tm x (t + 1)) x = t + 1 := by rw [tv_put, if_pos rfl]
        simp only [again_one] at hA
        unfold paE at hA hT hD1 hD2
        dsimp only [List.cons_append, List.nil_append] at hD1 hD2
        by_cases h4 : i ≤ 4
        · have hl3 := hl1 h4
          apply Wp.seq
          apply Wp.seq
          apply Wp.region
          refine WpL.v (V.mv) ?_
          refine WpL.v (V.mv) ?_
          refine WpL.v (V.cmp) ?_
          apply WpL.nil
          apply Out.seqN
          refine Wp.c (fun hrb0 => ?_) (fun hrb0 => ?_)
          (try simp only [decide_eq_true_eq, decide_eq_false_iff_not, Bool.not_eq_true', Bool.not_eq_false', Bool.not_eq_true, Bool.not_eq_false, not_true_eq_false, not_false_eq_true, reduceCtorEq] at hrb0)
          apply Wp.skip
          apply Out.seqN
          apply Wp.seq
          apply Wp.block
          apply Wp.seq
          apply Wp.region
          refine WpL.v (V.mv) ?_
          refine WpL.v (V.mv) ?_
          refine WpL.v (V.fa tb) ?_
          refine WpL.v (V.ld1 tb) ?_
          refine WpL.v (V.mv) ?_
          refine WpL.o (Op1.fn rfl (hC) ?_)
          refine WpL.v (V.as) ?_
          apply WpL.nil
          apply Out.seqN
          apply Wp.seq
          apply Wp.seq
          apply Wp.region
          refine WpL.v (V.mv) ?_
          refine WpL.v (V.cmp) ?_
          refine WpL.v (V.mv) ?_
          refine WpL.pt (fun hrb1 => ?_) (fun hrb1 => ?_)
          (try simp only [decide_eq_true_eq, decide_eq_false_iff_not, Bool.not_eq_true', Bool.not_eq_false', Bool.not_eq_true, Bool.not_eq_false, not_true_eq_false, not_false_eq_true, reduceCtorEq] at hrb1)
          refine WpL.v (V.mv) ?_
          refine WpL.v (V.mv) ?_
          refine WpL.v (V.cmp) ?_
          refine WpL.v (V.pT) ?_
          refine WpL.v (V.mv) ?_
          refine WpL.pt (fun hrb2 => ?_) (fun hrb2 => ?_)
          (try simp only [decide_eq_true_eq, decide_eq_false_iff_not, Bool.not_eq_true', Bool.not_eq_false', Bool.not_eq_true, Bool.not_eq_false, not_true_eq_false, not_false_eq_true, reduceCtorEq] at hrb2)
          (exfalso; omega)
          (try simp only [decide_eq_true_eq, decide_eq_false_iff_not, Bool.not_eq_true', Bool.not_eq_false', Bool.not_eq_true, Bool.not_eq_false, not_true_eq_false, not_false_eq_true, reduceCtorEq] at hrb2)
          refine WpL.v (V.mv) ?_
          refine WpL.v (V.cmp) ?_
          refine WpL.v (V.mv) ?_
          refine WpL.pt (fun hrb3 => ?_) (fun hrb3 => ?_)
          (try simp only [decide_eq_true_eq, decide_eq_false_iff_not, Bool.not_eq_true', Bool.not_eq_false', Bool.not_eq_true, Bool.not_eq_false, not_true_eq_false, not_false_eq_true, reduceCtorEq] at hrb3)
          (exfalso; omega)
          (try simp only [decide_eq_true_eq, decide_eq_false_iff_not, Bool.not_eq_true', Bool.not_eq_false', Bool.not_eq_true, Bool.not_eq_false, not_true_eq_false, not_false_eq_true, reduceCtorEq] at hrb3)
          refine WpL.sk ?_
          refine WpL.sk ?_
          refine WpL.sk ?_
          refine WpL.v (V.pF) ?_
          refine WpL.v (V.pF) ?_
          apply WpL.nil
          apply Out.seqN
          refine Wp.cF ?_
          apply Wp.skip
          apply Out.seqN
          apply Wp.seq
          apply Wp.seq
          apply Wp.region
          refine WpL.v (V.mv) ?_
          refine WpL.v (V.mv) ?_
          refine WpL.v (V.mv) ?_
          refine WpL.v (V.add) ?_
          refine WpL.v (V.sub) ?_
          refine WpL.o (Op1.callT rfl (hD1) (by (repeat (first | exact Sel.nil | exact Rem.here | apply Sel.cons | apply Rem.there))) ?_)
          rintro v4 s5 ⟨a106, ⟨c106, ⟨rfl, rfl⟩⟩⟩
          refine incat ?_
          apply WpL.nil
          apply Out.seqN
          apply Wp.block
          rotate_left
          (try simp only [decide_eq_true_eq, decide_eq_false_iff_not, Bool.not_eq_true', Bool.not_eq_false', Bool.not_eq_true, Bool.not_eq_false, not_true_eq_false, not_false_eq_true, reduceCtorEq] at hrb1)
          (exfalso; omega)
          (try simp only [decide_eq_true_eq, decide_eq_false_iff_not, Bool.not_eq_true', Bool.not_eq_false', Bool.not_eq_true, Bool.not_eq_false, not_true_eq_false, not_false_eq_true, reduceCtorEq] at hrb0)
          (exfalso; omega)
          refine Wp.rgB (Iwheel_iter p67 a106 c106 (now + w - 1) ⟨v, t + 1, [⟨x, now + w, t⟩]⟩) (fun _ : Unit => ⟨v, t + 1, [⟨x, now + w, t⟩]⟩) (fun _ => []) (fun j _ => j = 0) (fun _ _ _ => False) () 0 (fun j y h => by omega) rfl rfl ?_ ?_ ?_
          · rintro j i' c b' lp rec _ ⟨s, rest, g, cp, h1, h2, _⟩
            cases h1
            dsimp only at h2
            omega
          · rintro j c b1 _ _
            dsimp only [IWB.E, IwhE, List.cons_append, List.nil_append]
            apply Out.blockN
            apply Out.seqN
            apply Wp.seq
            apply Wp.region
            refine WpL.o (O.al tb (fun p15 => ?_))
            refine WpL.o (O.st1 tb ?_)
            apply WpL.nil
            apply Out.seqN
            apply Wp.seq
            apply Wp.seq
            apply Wp.region
            refine WpL.v (V.mv) ?_
            refine WpL.v (V.mv) ?_
            refine WpL.v (V.mv) ?_
            refine WpL.v (V.add) ?_
            refine WpL.o (Op1.callT rfl (hD2) (by (repeat (first | exact Sel.nil | exact Rem.here | apply Sel.cons | apply Rem.there))) ?_)
            rintro v0 s1 ⟨a112, ⟨c112, ⟨rfl, rfl⟩⟩⟩
            refine incat ?_
            apply WpL.nil
            apply Out.seqN
            apply Wp.block
            refine Wp.rgB (Iwheel_iter p67 a112 c112 (now + w) ⟨v, t + 1, [⟨x, now + w, t⟩]⟩) (fun y : Nat × IWB => y.2) (fun y => [cells p15 3 [I (y.1 : Int)], cells p7 23 x.c, cells p10 4 [B false]]) (fun j y => (j = 0 ∧ y = (0, ⟨v, t + 1, [⟨x, now + w, t⟩]⟩)) ∨ (j = 1 ∧ y.1 = 1 ∧ y.2.l = [] ∧ y.2.t = t + 1)) (fun _ _ _ => False) (0, ⟨v, t + 1, [⟨x, now + w, t⟩]⟩) 1 (fun j y h => by omega) rfl (.inl ⟨rfl, rfl⟩) ?_ ?_ ?_
            · rintro j i' ⟨n', bv, bt, bl⟩ b' lp rec hG ⟨s, rest, g, cp, h1, h2, rfl, h3, rfl⟩ hr W' D' K2 hK2
              dsimp only at h1 h3
              rcases hG with ⟨rfl, hG⟩ | ⟨rfl, _, hG, _⟩
              · cases hG
                cases h1
                dsimp only [IWB.E, IwhE, List.cons_append, List.nil_append]
                apply Wp.region
                refine WpL.o (O.al tb (fun p16 => ?_))
                refine WpL.o (O.stA tb ?_)
                apply WpL.nil
                refine Out.bg (by assumption) ?_
                apply Wp.block
                apply Wp.seq
                apply Wp.seq
                apply Wp.region
                refine WpL.v (V.ldA tb) ?_
                refine WpL.v (V.ldA tb) ?_
                refine WpL.v (V.ne (TItem.eqT _ _ _)) ?_
                apply WpL.nil
                apply Out.seqN
                refine Wp.c (fun hrd0 => ?_) (fun hrd0 => ?_)
                (try simp only [decide_eq_true_eq, decide_eq_false_iff_not, Bool.not_eq_true', Bool.not_eq_false', Bool.not_eq_true, Bool.not_eq_false, not_true_eq_false, not_false_eq_true, reduceCtorEq] at hrd0)
                (try simp only [decide_eq_true_eq, decide_eq_false_iff_not, Bool.not_eq_true', Bool.not_eq_false', Bool.not_eq_true, Bool.not_eq_false, not_true_eq_false, not_false_eq_true, reduceCtorEq] at hrd0)
                apply Wp.skip
                apply Out.seqN
                apply Wp.region
                refine WpL.v (V.ld1 tb) ?_
                refine WpL.v (V.add) ?_
                refine WpL.o (O.st1 tb ?_)
                apply WpL.nil
                apply Out.blockN
                exact Out.rdZ hK2 (1, ⟨.slice (some ⟨g, 0, none⟩) ([] : List WheelSpokeOfItem).length cp, t + 1, []⟩) (.inr ⟨rfl, rfl, rfl, rfl⟩)
              · dsimp only at hG
                rw [hG] at h1
                cases h1
            · rintro j ⟨n', bv, bt, bl⟩ b2 hG hstop
              rcases hG with ⟨rfl, hG⟩ | ⟨rfl, hn', hG, hbt⟩
              · cases hG
                have := hstop _ rfl
                dsimp only at this
                omega
              · dsimp only at hn' hG hbt
                subst hn' hG hbt
                dsimp only [IWB.E, IwhE, List.cons_append, List.nil_append]
                apply Out.blockN
                apply Out.seqN
                apply Wp.seq
                apply Wp.seq
                apply Wp.region
                refine WpL.v (V.ld1 tb) ?_
                refine WpL.v (V.cmp) ?_
                refine WpL.v (V.mv) ?_
                refine WpL.v (V.mv) ?_
                refine WpL.v (V.ldA tb) ?_
                refine WpL.o (Op1.callT rfl (hT _) (by (repeat (first | exact Sel.nil | exact Rem.here | apply Sel.cons | apply Rem.there))) ?_)
                rintro v0 s1 ⟨rfl, rfl⟩
                refine incat ?_
                refine WpL.v (V.mv) ?_
                refine WpL.v (V.cmp) ?_
                refine WpL.v (V.pF) ?_
                apply WpL.nil
                apply Out.seqN
                refine Wp.c (fun hre2 => ?_) (fun hre2 => ?_)
                (try simp only [decide_eq_true_eq, decide_eq_false_iff_not, Bool.not_eq_true', Bool.not_eq_false', Bool.not_eq_true, Bool.not_eq_false, not_true_eq_false, not_false_eq_true, reduceCtorEq] at hre2)
                (try simp only [decide_eq_true_eq, decide_eq_false_iff_not, Bool.not_eq_true', Bool.not_eq_false', Bool.not_eq_true, Bool.not_eq_false, not_true_eq_false, not_false_eq_true, reduceCtorEq] at hre2)
                apply Wp.skip
                apply Out.seqN
                apply Wp.seq
                apply Wp.region
                refine WpL.v (V.mv) ?_
                refine WpL.v (V.as) ?_
                apply WpL.nil
                apply Out.seqN
                apply Wp.seq
                apply Wp.region
                refine WpL.v (V.mv) ?_
                refine WpL.v (V.mv) ?_
                refine WpL.v (V.add) ?_
                refine WpL.v (V.as) ?_
                apply WpL.nil
                apply Out.seqN
                apply Wp.region
                refine WpL.v (V.mv) ?_
                refine WpL.v (V.mv) ?_
                refine WpL.v (V.ldA tb) ?_
                refine WpL.o (Op1.callT rfl (hA _) (by (repeat (first | exact Sel.nil | exact Rem.here | apply Sel.cons | apply Rem.there))) ?_)
                rintro v3 s4 ⟨g135, ⟨cap135, ⟨rfl, rfl⟩⟩⟩
                refine incat ?_
                apply WpL.nil
                apply Out.blockN
                apply Out.seqN
                apply Wp.region
                refine WpL.v (V.mv) ?_
                refine WpL.v (V.add) ?_
                refine WpL.v (V.as) ?_
                apply WpL.nil
                exact Out.agD hK [b2, b1] ⟨i + 1, t + 1, w, now + w, _, mput tm x (t + 1)⟩ ⟨by show i + 1 ≤ nt + 1; omega, ⟨by show 0 ≤ now + w; omega, by show now + w ≤ 1099511627776 + ((i + 1 : Nat) : Int) * 134217728; omega⟩, hg, by show t + 1 = ((i + 1 : Nat) : Int); omega, hlv⟩ (by show nt + 1 - (i + 1) < nt + 1 - i; omega)
            · intro _ _ _ _ _ _ h
              exact h.elim
          · intro _ _ _ _ _ _ h
            exact h.elim
        · have hl3 := hl2 (by omega)
          apply Wp.seq
          apply Wp.seq
          apply Wp.region
          refine WpL.v (V.mv) ?_
          refine WpL.v (V.mv) ?_
          refine WpL.v (V.cmp) ?_
          apply WpL.nil
          apply Out.seqN
          refine Wp.c (fun h0 => ?_) (fun h0 => ?_)
          (try simp only [decide_eq_true_eq, decide_eq_false_iff_not, Bool.not_eq_true', Bool.not_eq_false', Bool.not_eq_true, Bool.not_eq_false, not_true_eq_false, not_false_eq_true, reduceCtorEq] at h0)
          apply Wp.skip
          apply Out.seqN
          apply Wp.seq
          apply Wp.block
          apply Wp.seq
          apply Wp.region
          refine WpL.v (V.mv) ?_
          refine WpL.v (V.mv) ?_
          refine WpL.v (V.fa tb) ?_
          refine WpL.v (V.ld1 tb) ?_
          refine WpL.v (V.mv) ?_
          refine WpL.o (Op1.fn rfl (hC) ?_)
          refine WpL.v (V.as) ?_
          apply WpL.nil
          apply Out.seqN
          apply Wp.seq
          apply Wp.seq
          apply Wp.region
          refine WpL.v (V.mv) ?_
          refine WpL.v (V.cmp) ?_
          refine WpL.v (V.mv) ?_
          refine WpL.pt (fun h1 => ?_) (fun h1 => ?_)
          (try simp only [decide_eq_true_eq, decide_eq_false_iff_not, Bool.not_eq_true', Bool.not_eq_false', Bool.not_eq_true, Bool.not_eq_false, not_true_eq_false, not_false_eq_true, reduceCtorEq] at h1)
          (exfalso; omega)
          (try simp only [decide_eq_true_eq, decide_eq_false_iff_not, Bool.not_eq_true', Bool.not_eq_false', Bool.not_eq_true, Bool.not_eq_false, not_true_eq_false, not_false_eq_true, reduceCtorEq] at h1)
          refine WpL.sk ?_
          refine WpL.sk ?_
          refine WpL.sk ?_
          refine WpL.v (V.pF) ?_
          refine WpL.v (V.mv) ?_
          refine WpL.v (V.mv) ?_
          refine WpL.v (V.cmp) ?_
          refine WpL.v (V.mv) ?_
          refine WpL.pt (fun h2 => ?_) (fun h2 => ?_)
          (try simp only [decide_eq_true_eq, decide_eq_false_iff_not, Bool.not_eq_true', Bool.not_eq_false', Bool.not_eq_true, Bool.not_eq_false, not_true_eq_false, not_false_eq_true, reduceCtorEq] at h2)
          refine WpL.v (V.mv) ?_
          refine WpL.v (V.mv) ?_
          refine WpL.v (V.cmp) ?_
          refine WpL.v (V.pT) ?_
          refine WpL.v (V.pF) ?_
          apply WpL.nil
          apply Out.seqN
          refine Wp.c (fun h3 => ?_) (fun h3 => ?_)
          (try simp only [decide_eq_true_eq, decide_eq_false_iff_not, Bool.not_eq_true', Bool.not_eq_false', Bool.not_eq_true, Bool.not_eq_false, not_true_eq_false, not_false_eq_true, reduceCtorEq] at h3)
          (exfalso; omega)
          (try simp only [decide_eq_true_eq, decide_eq_false_iff_not, Bool.not_eq_true', Bool.not_eq_false', Bool.not_eq_true, Bool.not_eq_false, not_true_eq_false, not_false_eq_true, reduceCtorEq] at h3)
          apply Wp.skip
          apply Out.seqN
          apply Wp.seq
          apply Wp.seq
          apply Wp.region
          refine WpL.v (V.mv) ?_
          refine WpL.v (V.mv) ?_
          refine WpL.v (V.mv) ?_
          refine WpL.v (V.add) ?_
          refine WpL.v (V.sub) ?_
          refine WpL.o (Op1.callT rfl (hD1) (by (repeat (first | exact Sel.nil | exact Rem.here | apply Sel.cons | apply Rem.there))) ?_)
          rintro v4 s5 ⟨a106, ⟨c106, ⟨rfl, rfl⟩⟩⟩
          refine incat ?_
          apply WpL.nil
          apply Out.seqN
          apply Wp.block
          rotate_left
          (try simp only [decide_eq_true_eq, decide_eq_false_iff_not, Bool.not_eq_true', Bool.not_eq_false', Bool.not_eq_true, Bool.not_eq_false, not_true_eq_false, not_false_eq_true, reduceCtorEq] at h2)
          (exfalso; omega)
          (try simp only [decide_eq_true_eq, decide_eq_false_iff_not, Bool.not_eq_true', Bool.not_eq_false', Bool.not_eq_true, Bool.not_eq_false, not_true_eq_false, not_false_eq_true, reduceCtorEq] at h0)
          (exfalso; omega)
          refine Wp.rgB (Iwheel_iter p67 a106 c106 (now + w - 1) ⟨v, t + 1, [⟨x, now + w, t⟩]⟩) (fun _ : Unit => ⟨v, t + 1, [⟨x, now + w, t⟩]⟩) (fun _ => []) (fun j _ => j = 0) (fun _ _ _ => False) () 0 (fun j y h => by omega) rfl rfl ?_ ?_ ?_
          · rintro j i' c b' lp rec _ ⟨s, rest, g, cp, h1, h2, _⟩
            cases h1
            dsimp only at h2
            omega
          · rintro j c b1 _ _
            dsimp only [IWB.E, IwhE, List.cons_append, List.nil_append]
            apply Out.blockN
            apply Out.seqN
            apply Wp.seq
            apply Wp.region
            refine WpL.o (O.al tb (fun p15 => ?_))
            refine WpL.o (O.st1 tb ?_)
            apply WpL.nil
            apply Out.seqN
            apply Wp.seq
            apply Wp.seq
            apply Wp.region
            refine WpL.v (V.mv) ?_
            refine WpL.v (V.mv) ?_
            refine WpL.v (V.mv) ?_
            refine WpL.v (V.add) ?_
            refine WpL.o (Op1.callT rfl (hD2) (by (repeat (first | exact Sel.nil | exact Rem.here | apply Sel.cons | apply Rem.there))) ?_)
            rintro v0 s1 ⟨a112, ⟨c112, ⟨rfl, rfl⟩⟩⟩
            refine incat ?_
            apply WpL.nil
            apply Out.seqN
            apply Wp.block
            refine Wp.rgB (Iwheel_iter p67 a112 c112 (now + w) ⟨v, t + 1, [⟨x, now + w, t⟩]⟩) (fun y : Nat × IWB => y.2) (fun y => [cells p15 3 [I (y.1 : Int)], cells p7 23 x.c, cells p10 4 [B false]]) (fun j y => (j = 0 ∧ y = (0, ⟨v, t + 1, [⟨x, now + w, t⟩]⟩)) ∨ (j = 1 ∧ y.1 = 1 ∧ y.2.l = [] ∧ y.2.t = t + 1)) (fun _ _ _ => False) (0, ⟨v, t + 1, [⟨x, now + w, t⟩]⟩) 1 (fun j y h => by omega) rfl (.inl ⟨rfl, rfl⟩) ?_ ?_ ?_
            · rintro j i' ⟨n', bv, bt, bl⟩ b' lp rec hG ⟨s, rest, g, cp, h1, h2, rfl, h3, rfl⟩ hr W' D' K2 hK2
              dsimp only at h1 h3
              rcases hG with ⟨rfl, hG⟩ | ⟨rfl, _, hG, _⟩
              · cases hG
                cases h1
                dsimp only [IWB.E, IwhE, List.cons_append, List.nil_append]
                apply Wp.region
                refine WpL.o (O.al tb (fun p16 => ?_))
                refine WpL.o (O.stA tb ?_)
                apply WpL.nil
                refine Out.bg (by assumption) ?_
                apply Wp.block
                apply Wp.seq
                apply Wp.seq
                apply Wp.region
                refine WpL.v (V.ldA tb) ?_
                refine WpL.v (V.ldA tb) ?_
                refine WpL.v (V.ne (TItem.eqT _ _ _)) ?_
                apply WpL.nil
                apply Out.seqN
                refine Wp.c (fun h0 => ?_) (fun h0 => ?_)
                (try simp only [decide_eq_true_eq, decide_eq_false_iff_not, Bool.not_eq_true', Bool.not_eq_false', Bool.not_eq_true, Bool.not_eq_false, not_true_eq_false, not_false_eq_true, reduceCtorEq] at h0)
                (try simp only [decide_eq_true_eq, decide_eq_false_iff_not, Bool.not_eq_true', Bool.not_eq_false', Bool.not_eq_true, Bool.not_eq_false, not_true_eq_false, not_false_eq_true, reduceCtorEq] at h0)
                apply Wp.skip
                apply Out.seqN
                apply Wp.region
                refine WpL.v (V.ld1 tb) ?_
                refine WpL.v (V.add) ?_
                refine WpL.o (O.st1 tb ?_)
                apply WpL.nil
                apply Out.blockN
                exact Out.rdZ hK2 (1, ⟨.slice (some ⟨g, 0, none⟩) ([] : List WheelSpokeOfItem).length cp, t + 1, []⟩) (.inr ⟨rfl, rfl, rfl, rfl⟩)
              · dsimp only at hG
                rw [hG] at h1
                cases h1
            · rintro j ⟨n', bv, bt, bl⟩ b2 hG hstop
              rcases hG with ⟨rfl, hG⟩ | ⟨rfl, hn', hG, hbt⟩
              · cases hG
                have := hstop _ rfl
                dsimp only at this
                omega
              · dsimp only at hn' hG hbt
                subst hn' hG hbt
                dsimp only [IWB.E, IwhE, List.cons_append, List.nil_append]
                apply Out.blockN
                apply Out.seqN
                apply Wp.seq
                apply Wp.seq
                apply Wp.region
                refine WpL.v (V.ld1 tb) ?_
                refine WpL.v (V.cmp) ?_
                refine WpL.v (V.mv) ?_
                refine WpL.v (V.mv) ?_
                refine WpL.v (V.ldA tb) ?_
                refine WpL.o (Op1.callT rfl (hT _) (by (repeat (first | exact Sel.nil | exact Rem.here | apply Sel.cons | apply Rem.there))) ?_)
                rintro v0 s1 ⟨rfl, rfl⟩
                refine incat ?_
                refine WpL.v (V.mv) ?_
                refine WpL.v (V.cmp) ?_
                refine WpL.v (V.pF) ?_
                apply WpL.nil
                apply Out.seqN
                refine Wp.c (fun h2 => ?_) (fun h2 => ?_)
                (try simp only [decide_eq_true_eq, decide_eq_false_iff_not, Bool.not_eq_true', Bool.not_eq_false', Bool.not_eq_true, Bool.not_eq_false, not_true_eq_false, not_false_eq_true, reduceCtorEq] at h2)
                (try simp only [decide_eq_true_eq, decide_eq_false_iff_not, Bool.not_eq_true', Bool.not_eq_false', Bool.not_eq_true, Bool.not_eq_false, not_true_eq_false, not_false_eq_true, reduceCtorEq] at h2)
                apply Wp.skip
                apply Out.seqN
                apply Wp.seq
                apply Wp.region
                refine WpL.v (V.mv) ?_
                refine WpL.v (V.as) ?_
                apply WpL.nil
                apply Out.seqN
                apply Wp.seq
                apply Wp.region
                refine WpL.v (V.mv) ?_
                refine WpL.v (V.mv) ?_
                refine WpL.v (V.add) ?_
                refine WpL.v (V.as) ?_
                apply WpL.nil
                apply Out.seqN
                apply Wp.region
                refine WpL.v (V.mv) ?_
                refine WpL.v (V.mv) ?_
                refine WpL.v (V.ldA tb) ?_
                refine WpL.o (Op1.callT rfl (hA _) (by (repeat (first | exact Sel.nil | exact Rem.here | apply Sel.cons | apply Rem.there))) ?_)
                rintro v3 s4 ⟨g135, ⟨cap135, ⟨rfl, rfl⟩⟩⟩
                refine incat ?_
                apply WpL.nil
                apply Out.blockN
                apply Out.seqN
                apply Wp.region
                refine WpL.v (V.mv) ?_
                refine WpL.v (V.add) ?_
                refine WpL.v (V.as) ?_
                apply WpL.nil
                exact Out.agD hK [b2, b1] ⟨i + 1, t + 1, w, now + w, _, mput tm x (t + 1)⟩ ⟨by show i + 1 ≤ nt + 1; omega, ⟨by show 0 ≤ now + w; omega, by show now + w ≤ 1099511627776 + ((i + 1 : Nat) : Int) * 134217728; omega⟩, hg, by show t + 1 = ((i + 1 : Nat) : Int); omega, hlv⟩ (by show nt + 1 - (i + 1) < nt + 1 - i; omega)
            · intro _ _ _ _ _ _ h
              exact h.elim
          · intro _ _ _ _ _ _ h
            exact h.elim
      · obtain rfl : i = nt + 1 := by omega
        clear hK
        refine Wp.unbagE ?_
        dsimp only [List.cons_append, List.nil_append]
        apply Wp.seq
        apply Wp.seq
        apply Wp.region
        refine WpL.v (V.mv) ?_
        refine WpL.v (V.mv) ?_
        refine WpL.v (V.cmp) ?_
        apply WpL.nil
        apply Out.seqN
        refine Wp.c (fun hrz0 => ?_) (fun hrz0 => ?_)
        (try simp only [decide_eq_true_eq, decide_eq_false_iff_not, Bool.not_eq_true', Bool.not_eq_false', Bool.not_eq_true, Bool.not_eq_false, not_true_eq_false, not_false_eq_true, reduceCtorEq] at hrz0)
        (exfalso; omega)
        (try simp only [decide_eq_true_eq, decide_eq_false_iff_not, Bool.not_eq_true', Bool.not_eq_false', Bool.not_eq_true, Bool.not_eq_false, not_true_eq_false, not_false_eq_true, reduceCtorEq] at hrz0)
        apply Wp.exit
        apply Out.seqE
        apply Out.seqE
        apply Out.blockE
        apply Out.seqN
        apply Wp.seq
        apply Wp.region
        refine WpL.o (O.st1 tb ?_)
        apply WpL.nil
        apply Out.seqN
        apply Wp.ret
        refine Out.e1 rfl (ResIs.c1 tb) ?_
        focus (exact ⟨[], _, ⟨rfl, rfl⟩, selTail (dfrs ds) [_, _, _, _, _, _, _]⟩; done)
  · refine Ct.enter Try.func21 rfl rfl fun W => ?_
    apply Wp.seq
    apply Wp.region
    refine WpL.o (O.bxA (fun p7 => ?_))
    refine WpL.o (O.al tb (fun p10 => ?_))
    apply WpL.nil
    apply Out.seqN
    apply Wp.seq
    apply Wp.seq
    apply Wp.region
    refine WpL.o (Op1.fn rfl (alive17) ?_)
    refine WpL.v (V.not) ?_
    apply WpL.nil
    apply Out.seqN
    refine Wp.cF ?_
    apply Wp.skip
    apply Out.seqN
    apply Wp.seq
    apply Wp.seq
    apply Wp.region
    refine WpL.v (V.mv) ?_
    refine WpL.v (V.cmp) ?_
    refine WpL.v (V.mv) ?_
    refine WpL.pt (fun hz0 => ?_) (fun hz0 => ?_)
    (try simp only [decide_eq_true_eq, decide_eq_false_iff_not, Bool.not_eq_true', Bool.not_eq_false', Bool.not_eq_true, Bool.not_eq_false, not_true_eq_false, not_false_eq_true, reduceCtorEq] at hz0)
    refine WpL.v (V.mv) ?_
    refine WpL.v (V.cmp) ?_
    refine WpL.v (V.pT) ?_
    refine WpL.v (V.mv) ?_
    refine WpL.pt (fun hz1 => ?_) (fun hz1 => ?_)
    (try simp only [decide_eq_true_eq, decide_eq_false_iff_not, Bool.not_eq_true', Bool.not_eq_false', Bool.not_eq_true, Bool.not_eq_false, not_true_eq_false, not_false_eq_true, reduceCtorEq] at hz1)
    refine WpL.v (V.mv) ?_
    refine WpL.v (V.cmp) ?_
    refine WpL.v (V.pT) ?_
    refine WpL.v (V.mv) ?_
    refine WpL.pt (fun hz2 => ?_) (fun hz2 => ?_)
    (try simp only [decide_eq_true_eq, decide_eq_false_iff_not, Bool.not_eq_true', Bool.not_eq_false', Bool.not_eq_true, Bool.not_eq_false, not_true_eq_false, not_false_eq_true, reduceCtorEq] at hz2)
    refine WpL.sk ?_
    refine WpL.sk ?_
    refine WpL.v (V.pT) ?_
    refine WpL.v (V.mv) ?_
    refine WpL.sk ?_
    refine WpL.sk ?_
    refine WpL.sk ?_
    refine WpL.v (V.pT) ?_
    refine WpL.v (V.mv) ?_
    refine WpL.sk ?_
    refine WpL.sk ?_
    refine WpL.sk ?_
    refine WpL.v (V.pT) ?_
    refine WpL.v (V.mv) ?_
    refine WpL.sk ?_
    refine WpL.sk ?_
    refine WpL.sk ?_
    refine WpL.sk ?_
    refine WpL.v (V.pT) ?_
    refine WpL.v (V.mv) ?_
    refine WpL.sk ?_
    refine WpL.sk ?_
    refine WpL.v (V.pT) ?_
    refine WpL.v (V.mv) ?_
    refine WpL.sk ?_
    refine WpL.sk ?_
    refine WpL.v (V.pT) ?_
    refine WpL.v (V.mv) ?_
    refine WpL.sk ?_
    refine WpL.sk ?_
    refine WpL.v (V.pT) ?_
    refine WpL.v (V.mv) ?_
    refine WpL.sk ?_
    refine WpL.sk ?_
    refine WpL.v (V.pT) ?_
    apply WpL.nil
    apply Out.seqN
    refine Wp.cT ?_
    apply Wp.seq
    apply Wp.region
    refine WpL.o (O.st1 tb ?_)
    apply WpL.nil
    apply Out.seqN
    apply Wp.ret
    apply Out.seqR
    refine Out.f1 rfl (ResIs.c1 tb) ⟨?_, rfl⟩
    exact rfl
    (try simp only [decide_eq_true_eq, decide_eq_false_iff_not, Bool.not_eq_true', Bool.not_eq_false', Bool.not_eq_true, Bool.not_eq_false, not_true_eq_false, not_false_eq_true, reduceCtorEq] at hz2)
    refine WpL.v (V.mv) ?_
    refine WpL.v (V.cmp) ?_
    refine WpL.v (V.pF) ?_
    refine WpL.v (V.mv) ?_
    refine WpL.pt (fun hz3 => ?_) (fun hz3 => ?_)
    (try simp only [decide_eq_true_eq, decide_eq_false_iff_not, Bool.not_eq_true', Bool.not_eq_false', Bool.not_eq_true, Bool.not_eq_false, not_true_eq_false, not_false_eq_true, reduceCtorEq] at hz3)
    refine WpL.sk ?_
    refine WpL.sk ?_
    refine WpL.sk ?_
    refine WpL.v (V.pT) ?_
    refine WpL.v (V.mv) ?_
    refine WpL.sk ?_
    refine WpL.sk ?_
    refine WpL.sk ?_
    refine WpL.v (V.pT) ?_
    refine WpL.v (V.mv) ?_
    refine WpL.sk ?_
    refine WpL.sk ?_
    refine WpL.sk ?_
    refine WpL.sk ?_
    refine WpL.v (V.pT) ?_
    refine WpL.v (V.mv) ?_
    refine WpL.sk ?_
    refine WpL.sk ?_
    refine WpL.v (V.pT) ?_
    refine WpL.v (V.mv) ?_
    refine WpL.sk ?_
    refine WpL.sk ?_
    refine WpL.v (V.pT) ?_
    refine WpL.v (V.mv) ?_
    refine WpL.sk ?_
    refine WpL.sk ?_
    refine WpL.v (V.pT) ?_
    refine WpL.v (V.mv) ?_
    refine WpL.sk ?_
    refine WpL.sk ?_
    refine WpL.v (V.pT) ?_
    apply WpL.nil
    apply Out.seqN
    refine Wp.cT ?_
    apply Wp.seq
    apply Wp.region
    refine WpL.o (O.st1 tb ?_)
    apply WpL.nil
    apply Out.seqN
    apply Wp.ret
    apply Out.seqR
    refine Out.f1 rfl (ResIs.c1 tb) ⟨?_, rfl⟩
    exact rfl
    (try simp only [decide_eq_true_eq, decide_eq_false_iff_not, Bool.not_eq_true', Bool.not_eq_false', Bool.not_eq_true, Bool.not_eq_false, not_true_eq_false, not_false_eq_true, reduceCtorEq] at hz3)
    refine WpL.v (V.mv) ?_
    refine WpL.v (V.mv) ?_
    refine WpL.v (V.cmp) ?_
    refine WpL.v (V.pF) ?_
    refine WpL.v (V.mv) ?_
    refine WpL.pt (fun hz4 => ?_) (fun hz4 => ?_)
    (try simp only [decide_eq_true_eq, decide_eq_false_iff_not, Bool.not_eq_true', Bool.not_eq_false', Bool.not_eq_true, Bool.not_eq_false, not_true_eq_false, not_false_eq_true, reduceCtorEq] at hz4)
    refine WpL.sk ?_
    refine WpL.sk ?_
    refine WpL.sk ?_
    refine WpL.v (V.pT) ?_
    refine WpL.v (V.mv) ?_
    refine WpL.sk ?_
    refine WpL.sk ?_
    refine WpL.sk ?_
    refine WpL.sk ?_
    refine WpL.v (V.pT) ?_
    refine WpL.v (V.mv) ?_
    refine WpL.sk ?_
    refine WpL.sk ?_
    refine WpL.v (V.pT) ?_
    refine WpL.v (V.mv) ?_
    refine WpL.sk ?_
    refine WpL.sk ?_
    refine WpL.v (V.pT) ?_
    refine WpL.v (V.mv) ?_
    refine WpL.sk ?_
    refine WpL.sk ?_
    refine WpL.v (V.pT) ?_
    refine WpL.v (V.mv) ?_
    refine WpL.sk ?_
    refine WpL.sk ?_
    refine WpL.v (V.pT) ?_
    apply WpL.nil
    apply Out.seqN
    refine Wp.cT ?_
    apply Wp.seq
    apply Wp.region
    refine WpL.o (O.st1 tb ?_)
    apply WpL.nil
    apply Out.seqN
    apply Wp.ret
    apply Out.seqR
    refine Out.f1 rfl (ResIs.c1 tb) ⟨?_, rfl⟩
    exact rfl
    (try simp only [decide_eq_true_eq, decide_eq_false_iff_not, Bool.not_eq_true', Bool.not_eq_false', Bool.not_eq_true, Bool.not_eq_false, not_true_eq_false, not_false_eq_true, reduceCtorEq] at hz4)
    refine WpL.v (V.fa tb) ?_
    refine WpL.v (V.ld1 tb) ?_
    refine WpL.v (V.cmp) ?_
    refine WpL.v (V.pF) ?_
    refine WpL.v (V.mv) ?_
    refine WpL.pt (fun hz5 => ?_) (fun hz5 => ?_)
    (try simp only [decide_eq_true_eq, decide_eq_false_iff_not, Bool.not_eq_true', Bool.not_eq_false', Bool.not_eq_true, Bool.not_eq_false, not_true_eq_false, not_false_eq_true, reduceCtorEq] at hz5)
    refine WpL.sk ?_
    refine WpL.sk ?_
    refine WpL.sk ?_
    refine WpL.sk ?_
    refine WpL.v (V.pT) ?_
    refine WpL.v (V.mv) ?_
    refine WpL.sk ?_
    refine WpL.sk ?_
    refine WpL.v (V.pT) ?_
    refine WpL.v (V.mv) ?_
    refine WpL.sk ?_
    refine WpL.sk ?_
    refine WpL.v (V.pT) ?_
    refine WpL.v (V.mv) ?_
    refine WpL.sk ?_
    refine WpL.sk ?_
    refine WpL.v (V.pT) ?_
    refine WpL.v (V.mv) ?_
    refine WpL.sk ?_
    refine WpL.sk ?_
    refine WpL.v (V.pT) ?_
    apply WpL.nil
    apply Out.seqN
    refine Wp.cT ?_
    apply Wp.seq
    apply Wp.region
    refine WpL.o (O.st1 tb ?_)
    apply WpL.nil
    apply Out.seqN
    apply Wp.ret
    apply Out.seqR
    refine Out.f1 rfl (ResIs.c1 tb) ⟨?_, rfl⟩
    exact rfl
    (try simp only [decide_eq_true_eq, decide_eq_false_iff_not, Bool.not_eq_true', Bool.not_eq_false', Bool.not_eq_true, Bool.not_eq_false, not_true_eq_false, not_false_eq_true, reduceCtorEq] at hz5)
    refine WpL.v (V.fa tb) ?_
    refine WpL.v (V.ld1 tb) ?_
    refine WpL.v (V.mv) ?_
    refine WpL.v (V.cmp) ?_
    refine WpL.v (V.pF) ?_
    refine WpL.v (V.mv) ?_
    refine WpL.pt (fun hz6 => ?_) (fun hz6 => ?_)
    (try simp only [decide_eq_true_eq, decide_eq_false_iff_not, Bool.not_eq_true', Bool.not_eq_false', Bool.not_eq_true, Bool.not_eq_false, not_true_eq_false, not_false_eq_true, reduceCtorEq] at hz6)
    refine WpL.sk ?_
    refine WpL.sk ?_
    refine WpL.v (V.pT) ?_
    refine WpL.v (V.mv) ?_
    refine WpL.sk ?_
    refine WpL.sk ?_
    refine WpL.v (V.pT) ?_
    refine WpL.v (V.mv) ?_
    refine WpL.sk ?_
    refine WpL.sk ?_
    refine WpL.v (V.pT) ?_
    refine WpL.v (V.mv) ?_
    refine WpL.sk ?_
    refine WpL.sk ?_
    refine WpL.v (V.pT) ?_
    apply WpL.nil
    apply Out.seqN
    refine Wp.cT ?_
    apply Wp.seq
    apply Wp.region
    refine WpL.o (O.st1 tb ?_)
    apply WpL.nil
    apply Out.seqN
    apply Wp.ret
    apply Out.seqR
    refine Out.f1 rfl (ResIs.c1 tb) ⟨?_, rfl⟩
    exact rfl
    (try simp only [decide_eq_true_eq, decide_eq_false_iff_not, Bool.not_eq_true', Bool.not_eq_false', Bool.not_eq_true, Bool.not_eq_false, not_true_eq_false, not_false_eq_true, reduceCtorEq] at hz6)
    refine WpL.v (V.mv) ?_
    refine WpL.v (V.cmp) ?_
    refine WpL.v (V.pF) ?_
    refine WpL.v (V.mv) ?_
    refine WpL.pt (fun hz7 => ?_) (fun hz7 => ?_)
    (try simp only [decide_eq_true_eq, decide_eq_false_iff_not, Bool.not_eq_true', Bool.not_eq_false', Bool.not_eq_true, Bool.not_eq_false, not_true_eq_false, not_false_eq_true, reduceCtorEq] at hz7)
    refine WpL.sk ?_
    refine WpL.sk ?_
    refine WpL.v (V.pT) ?_
    refine WpL.v (V.mv) ?_
    refine WpL.sk ?_
    refine WpL.sk ?_
    refine WpL.v (V.pT) ?_
    refine WpL.v (V.mv) ?_
    refine WpL.sk ?_
    refine WpL.sk ?_
    refine WpL.v (V.pT) ?_
    apply WpL.nil
    apply Out.seqN
    refine Wp.cT ?_
    apply Wp.seq
    apply Wp.region
    refine WpL.o (O.st1 tb ?_)
    apply WpL.nil
    apply Out.seqN
    apply Wp.ret
    apply Out.seqR
    refine Out.f1 rfl (ResIs.c1 tb) ⟨?_, rfl⟩
    exact rfl
    (try simp only [decide_eq_true_eq, decide_eq_false_iff_not, Bool.not_eq_true', Bool.not_eq_false', Bool.not_eq_true, Bool.not_eq_false, not_true_eq_false, not_false_eq_true, reduceCtorEq] at hz7)
    refine WpL.v (V.mv) ?_
    refine WpL.v (V.cmp) ?_
    refine WpL.v (V.pF) ?_
    refine WpL.v (V.mv) ?_
    refine WpL.pt (fun hz8 => ?_) (fun hz8 => ?_)
    (try simp only [decide_eq_true_eq, decide_eq_false_iff_not, Bool.not_eq_true', Bool.not_eq_false', Bool.not_eq_true, Bool.not_eq_false, not_true_eq_false, not_false_eq_true, reduceCtorEq] at hz8)
    refine WpL.sk ?_
    refine WpL.sk ?_
    refine WpL.v (V.pT) ?_
    refine WpL.v (V.mv) ?_
    refine WpL.sk ?_
    refine WpL.sk ?_
    refine WpL.v (V.pT) ?_
    apply WpL.nil
    apply Out.seqN
    refine Wp.cT ?_
    apply Wp.seq
    apply Wp.region
    refine WpL.o (O.st1 tb ?_)
    apply WpL.nil
    apply Out.seqN
    apply Wp.ret
    apply Out.seqR
    refine Out.f1 rfl (ResIs.c1 tb) ⟨?_, rfl⟩
    exact rfl
    (try simp only [decide_eq_true_eq, decide_eq_false_iff_not, Bool.not_eq_true', Bool.not_eq_false', Bool.not_eq_true, Bool.not_eq_false, not_true_eq_false, not_false_eq_true, reduceCtorEq] at hz8)
    refine WpL.v (V.mv) ?_
    refine WpL.v (V.cmp) ?_
    refine WpL.v (V.pF) ?_
    refine WpL.v (V.mv) ?_
    refine WpL.pt (fun hz9 => ?_) (fun hz9 => ?_)
    (try simp only [decide_eq_true_eq, decide_eq_false_iff_not, Bool.not_eq_true', Bool.not_eq_false', Bool.not_eq_true, Bool.not_eq_false, not_true_eq_false, not_false_eq_true, reduceCtorEq] at hz9)
    refine WpL.sk ?_
    refine WpL.sk ?_
    refine WpL.v (V.pT) ?_
    apply WpL.nil
    apply Out.seqN
    refine Wp.cT ?_
    apply Wp.seq
    apply Wp.region
    refine WpL.o (O.st1 tb ?_)
    apply WpL.nil
    apply Out.seqN
    apply Wp.ret
    apply Out.seqR
    refine Out.f1 rfl (ResIs.c1 tb) ⟨?_, rfl⟩
    exact rfl
    (try simp only [decide_eq_true_eq, decide_eq_false_iff_not, Bool.not_eq_true', Bool.not_eq_false', Bool.not_eq_true, Bool.not_eq_false, not_true_eq_false, not_false_eq_true, reduceCtorEq] at hz9)
    refine WpL.v (V.mv) ?_
    refine WpL.v (V.cmp) ?_
    refine WpL.v (V.pF) ?_
    apply WpL.nil
    apply Out.seqN
    refine Wp.c (fun hz10 => ?_) (fun hz10 => ?_)
    (try simp only [decide_eq_true_eq, decide_eq_false_iff_not, Bool.not_eq_true', Bool.not_eq_false', Bool.not_eq_true, Bool.not_eq_false, not_true_eq_false, not_false_eq_true, reduceCtorEq] at hz10)
    apply Wp.seq
    apply Wp.region
    refine WpL.o (O.st1 tb ?_)
    apply WpL.nil
    apply Out.seqN
    apply Wp.ret
    apply Out.seqR
    refine Out.f1 rfl (ResIs.c1 tb) ⟨?_, rfl⟩
    exact rfl
    (try simp only [decide_eq_true_eq, decide_eq_false_iff_not, Bool.not_eq_true', Bool.not_eq_false', Bool.not_eq_true, Bool.not_eq_false, not_true_eq_false, not_false_eq_true, reduceCtorEq] at hz10)
    (exfalso; omega)
    (try simp only [decide_eq_true_eq, decide_eq_false_iff_not, Bool.not_eq_true', Bool.not_eq_false', Bool.not_eq_true, Bool.not_eq_false, not_true_eq_false, not_false_eq_true, reduceCtorEq] at hz1)
    refine WpL.sk ?_
    refine WpL.sk ?_
    refine WpL.v (V.pF) ?_
    refine WpL.v (V.mv) ?_
    refine WpL.v (V.mv) ?_
    refine WpL.v (V.cmp) ?_
    refine WpL.v (V.pF) ?_
    refine WpL.v (V.mv) ?_
    refine WpL.pt (fun hz11 => ?_) (fun hz11 => ?_)
    (try simp only [decide_eq_true_eq, decide_eq_false_iff_not, Bool.not_eq_true', Bool.not_eq_false', Bool.not_eq_true, Bool.not_eq_false, not_true_eq_false, not_false_eq_true, reduceCtorEq] at hz11)
    refine WpL.sk ?_
    refine WpL.sk ?_
    refine WpL.sk ?_
    refine WpL.v (V.pT) ?_
    refine WpL.v (V.mv) ?_
    refine WpL.sk ?_
    refine WpL.sk ?_
    refine WpL.sk ?_
    refine WpL.v (V.pT) ?_
    refine WpL.v (V.mv) ?_
    refine WpL.sk ?_
    refine WpL.sk ?_
    refine WpL.sk ?_
    refine WpL.sk ?_
    refine WpL.v (V.pT) ?_
    refine WpL.v (V.mv) ?_
    refine WpL.sk ?_
    refine WpL.sk ?_
    refine WpL.v (V.pT) ?_
    refine WpL.v (V.mv) ?_
    refine WpL.sk ?_
    refine WpL.sk ?_
    refine WpL.v (V.pT) ?_
    refine WpL.v (V.mv) ?_
    refine WpL.sk ?_
    refine WpL.sk ?_
    refine WpL.v (V.pT) ?_
    refine WpL.v (V.mv) ?_
    refine WpL.sk ?_
    refine WpL.sk ?_
    refine WpL.v (V.pT) ?_
    apply WpL.nil
    apply Out.seqN
    refine Wp.cT ?_
    apply Wp.seq
    apply Wp.region
    refine WpL.o (O.st1 tb ?_)
    apply WpL.nil
    apply Out.seqN
    apply Wp.ret
    apply Out.seqR
    refine Out.f1 rfl (ResIs.c1 tb) ⟨?_, rfl⟩
    exact rfl
    (try simp only [decide_eq_true_eq, decide_eq_false_iff_not, Bool.not_eq_true', Bool.not_eq_false', Bool.not_eq_true, Bool.not_eq_false, not_true_eq_false, not_false_eq_true, reduceCtorEq] at hz11)
    refine WpL.v (V.mv) ?_
    refine WpL.v (V.mv) ?_
    refine WpL.v (V.cmp) ?_
    refine WpL.v (V.pF) ?_
    refine WpL.v (V.mv) ?_
    refine WpL.pt (fun hz12 => ?_) (fun hz12 => ?_)
    (try simp only [decide_eq_true_eq, decide_eq_false_iff_not, Bool.not_eq_true', Bool.not_eq_false', Bool.not_eq_true, Bool.not_eq_false, not_true_eq_false, not_false_eq_true, reduceCtorEq] at hz12)
    refine WpL.sk ?_
    refine WpL.sk ?_
    refine WpL.sk ?_
    refine WpL.v (V.pT) ?_
    refine WpL.v (V.mv) ?_
    refine WpL.sk ?_
    refine WpL.sk ?_
    refine WpL.sk ?_
    refine WpL.sk ?_
    refine WpL.v (V.pT) ?_
    refine WpL.v (V.mv) ?_
    refine WpL.sk ?_
    refine WpL.sk ?_
    refine WpL.v (V.pT) ?_
    refine WpL.v (V.mv) ?_
    refine WpL.sk ?_
    refine WpL.sk ?_
    refine WpL.v (V.pT) ?_
    refine WpL.v (V.mv) ?_
    refine WpL.sk ?_
    refine WpL.sk ?_
    refine WpL.v (V.pT) ?_
    refine WpL.v (V.mv) ?_
    refine WpL.sk ?_
    refine WpL.sk ?_
    refine WpL.v (V.pT) ?_
    apply WpL.nil
    apply Out.seqN
    refine Wp.cT ?_
    apply Wp.seq
    apply Wp.region
    refine WpL.o (O.st1 tb ?_)
    apply WpL.nil
    apply Out.seqN
    apply Wp.ret
    apply Out.seqR
    refine Out.f1 rfl (ResIs.c1 tb) ⟨?_, rfl⟩
    exact rfl
    (try simp only [decide_eq_true_eq, decide_eq_false_iff_not, Bool.not_eq_true', Bool.not_eq_false', Bool.not_eq_true, Bool.not_eq_false, not_true_eq_false, not_false_eq_true, reduceCtorEq] at hz12)
    refine WpL.v (V.fa tb) ?_
    refine WpL.v (V.ld1 tb) ?_
    refine WpL.v (V.cmp) ?_
    refine WpL.v (V.pF) ?_
    refine WpL.v (V.mv) ?_
    refine WpL.pt (fun hz13 => ?_) (fun hz13 => ?_)
    (try simp only [decide_eq_true_eq, decide_eq_false_iff_not, Bool.not_eq_true', Bool.not_eq_false', Bool.not_eq_true, Bool.not_eq_false, not_true_eq_false, not_false_eq_true, reduceCtorEq] at hz13)
    refine WpL.sk ?_
    refine WpL.sk ?_
    refine WpL.sk ?_
    refine WpL.sk ?_
    refine WpL.v (V.pT) ?_
    refine WpL.v (V.mv) ?_
    refine WpL.sk ?_
    refine WpL.sk ?_
    refine WpL.v (V.pT) ?_
    refine WpL.v (V.mv) ?_
    refine WpL.sk ?_
    refine WpL.sk ?_
    refine WpL.v (V.pT) ?_
    refine WpL.v (V.mv) ?_
    refine WpL.sk ?_
    refine WpL.sk ?_
    refine WpL.v (V.pT) ?_
    refine WpL.v (V.mv) ?_
    refine WpL.sk ?_
    refine WpL.sk ?_
    refine WpL.v (V.pT) ?_
    apply WpL.nil
    apply Out.seqN
    refine Wp.cT ?_
    apply Wp.seq
    apply Wp.region
    refine WpL.o (O.st1 tb ?_)
    apply WpL.nil
    apply Out.seqN
    apply Wp.ret
    apply Out.seqR
    refine Out.f1 rfl (ResIs.c1 tb) ⟨?_, rfl⟩
    exact rfl
    (try simp only [decide_eq_true_eq, decide_eq_false_iff_not, Bool.not_eq_true', Bool.not_eq_false', Bool.not_eq_true, Bool.not_eq_false, not_true_eq_false, not_false_eq_true, reduceCtorEq] at hz13)
    refine WpL.v (V.fa tb) ?_
    refine WpL.v (V.ld1 tb) ?_
    refine WpL.v (V.mv) ?_
    refine WpL.v (V.cmp) ?_
    refine WpL.v (V.pF) ?_
    refine WpL.v (V.mv) ?_
    refine WpL.pt (fun hz14 => ?_) (fun hz14 => ?_)
    (try simp only [decide_eq_true_eq, decide_eq_false_iff_not, Bool.not_eq_true', Bool.not_eq_false', Bool.not_eq_true, Bool.not_eq_false, not_true_eq_false, not_false_eq_true, reduceCtorEq] at hz14)
    refine WpL.sk ?_
    refine WpL.sk ?_
    refine WpL.v (V.pT) ?_
    refine WpL.v (V.mv) ?_
    refine WpL.sk ?_
    refine WpL.sk ?_
    refine WpL.v (V.pT) ?_
    refine WpL.v (V.mv) ?_
    refine WpL.sk ?_
    refine WpL.sk ?_
    refine WpL.v (V.pT) ?_
    refine WpL.v (V.mv) ?_
    refine WpL.sk ?_
    refine WpL.sk ?_
    refine WpL.v (V.pT) ?_
    apply WpL.nil
    apply Out.seqN
    refine Wp.cT ?_
    apply Wp.seq
    apply Wp.region
    refine WpL.o (O.st1 tb ?_)
    apply WpL.nil
    apply Out.seqN
    apply Wp.ret
    apply Out.seqR
    refine Out.f1 rfl (ResIs.c1 tb) ⟨?_, rfl⟩
    exact rfl
    (try simp only [decide_eq_true_eq, decide_eq_false_iff_not, Bool.not_eq_true', Bool.not_eq_false', Bool.not_eq_true, Bool.not_eq_false, not_true_eq_false, not_false_eq_true, reduceCtorEq] at hz14)
    refine WpL.v (V.mv) ?_
    refine WpL.v (V.cmp) ?_
    refine WpL.v (V.pF) ?_
    refine WpL.v (V.mv) ?_
    refine WpL.pt (fun hz15 => ?_) (fun hz15 => ?_)
    (try simp only [decide_eq_true_eq, decide_eq_false_iff_not, Bool.not_eq_true', Bool.not_eq_false', Bool.not_eq_true, Bool.not_eq_false, not_true_eq_false, not_false_eq_true, reduceCtorEq] at hz15)
    refine WpL.sk ?_
    refine WpL.sk ?_
    refine WpL.v (V.pT) ?_
    refine WpL.v (V.mv) ?_
    refine WpL.sk ?_
    refine WpL.sk ?_
    refine WpL.v (V.pT) ?_
    refine WpL.v (V.mv) ?_
    refine WpL.sk ?_
    refine WpL.sk ?_
    refine WpL.v (V.pT) ?_
    apply WpL.nil
    apply Out.seqN
    refine Wp.cT ?_
    apply Wp.seq
    apply Wp.region
    refine WpL.o (O.st1 tb ?_)
    apply WpL.nil
    apply Out.seqN
    apply Wp.ret
    apply Out.seqR
    refine Out.f1 rfl (ResIs.c1 tb) ⟨?_, rfl⟩
    exact rfl
    (try simp only [decide_eq_true_eq, decide_eq_false_iff_not, Bool.not_eq_true', Bool.not_eq_false', Bool.not_eq_true, Bool.not_eq_false, not_true_eq_false, not_false_eq_true, reduceCtorEq] at hz15)
    refine WpL.v (V.mv) ?_
    refine WpL.v (V.cmp) ?_
    refine WpL.v (V.pF) ?_
    refine WpL.v (V.mv) ?_
    refine WpL.pt (fun hz16 => ?_) (fun hz16 => ?_)
    (try simp only [decide_eq_true_eq, decide_eq_false_iff_not, Bool.not_eq_true', Bool.not_eq_false', Bool.not_eq_true, Bool.not_eq_false, not_true_eq_false, not_false_eq_true, reduceCtorEq] at hz16)
    refine WpL.sk ?_
    refine WpL.sk ?_
    refine WpL.v (V.pT) ?_
    refine WpL.v (V.mv) ?_
    refine WpL.sk ?_
    refine WpL.sk ?_
    refine WpL.v (V.pT) ?_
    apply WpL.nil
    apply Out.seqN
    refine Wp.cT ?_
    apply Wp.seq
    apply Wp.region
    refine WpL.o (O.st1 tb ?_)
    apply WpL.nil
    apply Out.seqN
    apply Wp.ret
    apply Out.seqR
    refine Out.f1 rfl (ResIs.c1 tb) ⟨?_, rfl⟩
    exact rfl
    (try simp only [decide_eq_true_eq, decide_eq_false_iff_not, Bool.not_eq_true', Bool.not_eq_false', Bool.not_eq_true, Bool.not_eq_false, not_true_eq_false, not_false_eq_true, reduceCtorEq] at hz16)
    refine WpL.v (V.mv) ?_
    refine WpL.v (V.cmp) ?_
    refine WpL.v (V.pF) ?_
    refine WpL.v (V.mv) ?_
    refine WpL.pt (fun hz17 => ?_) (fun hz17 => ?_)
    (try simp only [decide_eq_true_eq, decide_eq_false_iff_not, Bool.not_eq_true', Bool.not_eq_false', Bool.not_eq_true, Bool.not_eq_false, not_true_eq_false, not_false_eq_true, reduceCtorEq] at hz17)
    refine WpL.sk ?_
    refine WpL.sk ?_
    refine WpL.v (V.pT) ?_
    apply WpL.nil
    apply Out.seqN
    refine Wp.cT ?_
    apply Wp.seq
    apply Wp.region
    refine WpL.o (O.st1 tb ?_)
    apply WpL.nil
    apply Out.seqN
    apply Wp.ret
    apply Out.seqR
    refine Out.f1 rfl (ResIs.c1 tb) ⟨?_, rfl⟩
    exact rfl
    (try simp only [decide_eq_true_eq, decide_eq_false_iff_not, Bool.not_eq_true', Bool.not_eq_false', Bool.not_eq_true, Bool.not_eq_false, not_true_eq_false, not_false_eq_true, reduceCtorEq] at hz17)
    refine WpL.v (V.mv) ?_
    refine WpL.v (V.cmp) ?_
    refine WpL.v (V.pF) ?_
    apply WpL.nil
    apply Out.seqN
    refine Wp.c (fun hz18 => ?_) (fun hz18 => ?_)
    (try simp only [decide_eq_true_eq, decide_eq_false_iff_not, Bool.not_eq_true', Bool.not_eq_false', Bool.not_eq_true, Bool.not_eq_false, not_true_eq_false, not_false_eq_true, reduceCtorEq] at hz18)
    apply Wp.seq
    apply Wp.region
    refine WpL.o (O.st1 tb ?_)
    apply WpL.nil
    apply Out.seqN
    apply Wp.ret
    apply Out.seqR
    refine Out.f1 rfl (ResIs.c1 tb) ⟨?_, rfl⟩
    exact rfl
    (try simp only [decide_eq_true_eq, decide_eq_false_iff_not, Bool.not_eq_true', Bool.not_eq_false', Bool.not_eq_true, Bool.not_eq_false, not_true_eq_false, not_false_eq_true, reduceCtorEq] at hz18)
    (exfalso; omega)
    (try simp only [decide_eq_true_eq, decide_eq_false_iff_not, Bool.not_eq_true', Bool.not_eq_false', Bool.not_eq_true, Bool.not_eq_false, not_true_eq_false, not_false_eq_true, reduceCtorEq] at hz0)
    refine WpL.sk ?_
    refine WpL.sk ?_
    refine WpL.v (V.pF) ?_
    refine WpL.v (V.mv) ?_
    refine WpL.sk ?_
    refine WpL.sk ?_
    refine WpL.v (V.pF) ?_
    refine WpL.v (V.mv) ?_
    refine WpL.v (V.mv) ?_
    refine WpL.v (V.cmp) ?_
    refine WpL.v (V.pF) ?_
    refine WpL.v (V.mv) ?_
    refine WpL.pt (fun hz19 => ?_) (fun hz19 => ?_)
    (try simp only [decide_eq_true_eq, decide_eq_false_iff_not, Bool.not_eq_true', Bool.not_eq_false', Bool.not_eq_true, Bool.not_eq_false, not_true_eq_false, not_false_eq_true, reduceCtorEq] at hz19)
    refine WpL.sk ?_
    refine WpL.sk ?_
    refine WpL.sk ?_
    refine WpL.v (V.pT) ?_
    refine WpL.v (V.mv) ?_
    refine WpL.sk ?_
    refine WpL.sk ?_
    refine WpL.sk ?_
    refine WpL.v (V.pT) ?_
    refine WpL.v (V.mv) ?_
    refine WpL.sk ?_
    refine WpL.sk ?_
    refine WpL.sk ?_
    refine WpL.sk ?_
    refine WpL.v (V.pT) ?_
    refine WpL.v (V.mv) ?_
    refine WpL.sk ?_
    refine WpL.sk ?_
    refine WpL.v (V.pT) ?_
    refine WpL.v (V.mv) ?_
    refine WpL.sk ?_
    refine WpL.sk ?_
    refine WpL.v (V.pT) ?_
    refine WpL.v (V.mv) ?_
    refine WpL.sk ?_
    refine WpL.sk ?_
    refine WpL.v (V.pT) ?_
    refine WpL.v (V.mv) ?_
    refine WpL.sk ?_
    refine WpL.sk ?_
    refine WpL.v (V.pT) ?_
    apply WpL.nil
    apply Out.seqN
    refine Wp.cT ?_
    apply Wp.seq
    apply Wp.region
    refine WpL.o (O.st1 tb ?_)
    apply WpL.nil
    apply Out.seqN
    apply Wp.ret
    apply Out.seqR
    refine Out.f1 rfl (ResIs.c1 tb) ⟨?_, rfl⟩
    exact rfl
    (try simp only [decide_eq_true_eq, decide_eq_false_iff_not, Bool.not_eq_true', Bool.not_eq_false', Bool.not_eq_true, Bool.not_eq_false, not_true_eq_false, not_false_eq_true, reduceCtorEq] at hz19)
    refine WpL.v (V.mv) ?_
    refine WpL.v (V.mv) ?_
    refine WpL.v (V.cmp) ?_
    refine WpL.v (V.pF) ?_
    refine WpL.v (V.mv) ?_
    refine WpL.pt (fun hz20 => ?_) (fun hz20 => ?_)
    (try simp only [decide_eq_true_eq, decide_eq_false_iff_not, Bool.not_eq_true', Bool.not_eq_false', Bool.not_eq_true, Bool.not_eq_false, not_true_eq_false, not_false_eq_true, reduceCtorEq] at hz20)
    refine WpL.sk ?_
    refine WpL.sk ?_
    refine WpL.sk ?_
    refine WpL.v (V.pT) ?_
    refine WpL.v (V.mv) ?_
    refine WpL.sk ?_
    refine WpL.sk ?_
    refine WpL.sk ?_
    refine WpL.sk ?_
    refine WpL.v (V.pT) ?_
    refine WpL.v (V.mv) ?_
    refine WpL.sk ?_
    refine WpL.sk ?_
    refine WpL.v (V.pT) ?_
    refine WpL.v (V.mv) ?_
    refine WpL.sk ?_
    refine WpL.sk ?_
    refine WpL.v (V.pT) ?_
    refine WpL.v (V.mv) ?_
    refine WpL.sk ?_
    refine WpL.sk ?_
    refine WpL.v (V.pT) ?_
    refine WpL.v (V.mv) ?_
    refine WpL.sk ?_
    refine WpL.sk ?_
    refine WpL.v (V.pT) ?_
    apply WpL.nil
    apply Out.seqN
    refine Wp.cT ?_
    apply Wp.seq
    apply Wp.region
    refine WpL.o (O.st1 tb ?_)
    apply WpL.nil
    apply Out.seqN
    apply Wp.ret
    apply Out.seqR
    refine Out.f1 rfl (ResIs.c1 tb) ⟨?_, rfl⟩
    exact rfl
    (try simp only [decide_eq_true_eq, decide_eq_false_iff_not, Bool.not_eq_true', Bool.not_eq_false', Bool.not_eq_true, Bool.not_eq_false, not_true_eq_false, not_false_eq_true, reduceCtorEq] at hz20)
    refine WpL.v (V.fa tb) ?_
    refine WpL.v (V.ld1 tb) ?_
    refine WpL.v (V.cmp) ?_
    refine WpL.v (V.pF) ?_
    refine WpL.v (V.mv) ?_
    refine WpL.pt (fun hz21 => ?_) (fun hz21 => ?_)
    (try simp only [decide_eq_true_eq, decide_eq_false_iff_not, Bool.not_eq_true', Bool.not_eq_false', Bool.not_eq_true, Bool.not_eq_false, not_true_eq_false, not_false_eq_true, reduceCtorEq] at hz21)
    refine WpL.sk ?_
    refine WpL.sk ?_
    refine WpL.sk ?_
    refine WpL.sk ?_
    refine WpL.v (V.pT) ?_
    refine WpL.v (V.mv) ?_
    refine WpL.sk ?_
    refine WpL.sk ?_
    refine WpL.v (V.pT) ?_
    refine WpL.v (V.mv) ?_
    refine WpL.sk ?_
    refine WpL.sk ?_
    refine WpL.v (V.pT) ?_
    refine WpL.v (V.mv) ?_
    refine WpL.sk ?_
    refine WpL.sk ?_
    refine WpL.v (V.pT) ?_
    refine WpL.v (V.mv) ?_
    refine WpL.sk ?_
    refine WpL.sk ?_
    refine WpL.v (V.pT) ?_
    apply WpL.nil
    apply Out.seqN
    refine Wp.cT ?_
    apply Wp.seq
    apply Wp.region
    refine WpL.o (O.st1 tb ?_)
    apply WpL.nil
    apply Out.seqN
    apply Wp.ret
    apply Out.seqR
    refine Out.f1 rfl (ResIs.c1 tb) ⟨?_, rfl⟩
    exact rfl
    (try simp only [decide_eq_true_eq, decide_eq_false_iff_not, Bool.not_eq_true', Bool.not_eq_false', Bool.not_eq_true, Bool.not_eq_false, not_true_eq_false, not_false_eq_true, reduceCtorEq] at hz21)
    refine WpL.v (V.fa tb) ?_
    refine WpL.v (V.ld1 tb) ?_
    refine WpL.v (V.mv) ?_
    refine WpL.v (V.cmp) ?_
    refine WpL.v (V.pF) ?_
    refine WpL.v (V.mv) ?_
    refine WpL.pt (fun hz22 => ?_) (fun hz22 => ?_)
    (try simp only [decide_eq_true_eq, decide_eq_false_iff_not, Bool.not_eq_true', Bool.not_eq_false', Bool.not_eq_true, Bool.not_eq_false, not_true_eq_false, not_false_eq_true, reduceCtorEq] at hz22)
    refine WpL.sk ?_
    refine WpL.sk ?_
    refine WpL.v (V.pT) ?_
    refine WpL.v (V.mv) ?_
    refine WpL.sk ?_
    refine WpL.sk ?_
    refine WpL.v (V.pT) ?_
    refine WpL.v (V.mv) ?_
    refine WpL.sk ?_
    refine WpL.sk ?_
    refine WpL.v (V.pT) ?_
    refine WpL.v (V.mv) ?_
    refine WpL.sk ?_
    refine WpL.sk ?_
    refine WpL.v (V.pT) ?_
    apply WpL.nil
    apply Out.seqN
    refine Wp.cT ?_
    apply Wp.seq
    apply Wp.region
    refine WpL.o (O.st1 tb ?_)
    apply WpL.nil
    apply Out.seqN
    apply Wp.ret
    apply Out.seqR
    refine Out.f1 rfl (ResIs.c1 tb) ⟨?_, rfl⟩
    exact rfl
    (try simp only [decide_eq_true_eq, decide_eq_false_iff_not, Bool.not_eq_true', Bool.not_eq_false', Bool.not_eq_true, Bool.not_eq_false, not_true_eq_false, not_false_eq_true, reduceCtorEq] at hz22)
    refine WpL.v (V.mv) ?_
    refine WpL.v (V.cmp) ?_
    refine WpL.v (V.pF) ?_
    refine WpL.v (V.mv) ?_
    refine WpL.pt (fun hz23 => ?_) (fun hz23 => ?_)
    (try simp only [decide_eq_true_eq, decide_eq_false_iff_not, Bool.not_eq_true', Bool.not_eq_false', Bool.not_eq_true, Bool.not_eq_false, not_true_eq_false, not_false_eq_true, reduceCtorEq] at hz23)
    refine WpL.sk ?_
    refine WpL.sk ?_
    refine WpL.v (V.pT) ?_
    refine WpL.v (V.mv) ?_
    refine WpL.sk ?_
    refine WpL.sk ?_
    refine WpL.v (V.pT) ?_
    refine WpL.v (V.mv) ?_
    refine WpL.sk ?_
    refine WpL.sk ?_
    refine WpL.v (V.pT) ?_
    apply WpL.nil
    apply Out.seqN
    refine Wp.cT ?_
    apply Wp.seq
    apply Wp.region
    refine WpL.o (O.st1 tb ?_)
    apply WpL.nil
    apply Out.seqN
    apply Wp.ret
    apply Out.seqR
    refine Out.f1 rfl (ResIs.c1 tb) ⟨?_, rfl⟩
    exact rfl
    (try simp only [decide_eq_true_eq, decide_eq_false_iff_not, Bool.not_eq_true', Bool.not_eq_false', Bool.not_eq_true, Bool.not_eq_false, not_true_eq_false, not_false_eq_true, reduceCtorEq] at hz23)
    refine WpL.v (V.mv) ?_
    refine WpL.v (V.cmp) ?_
    refine WpL.v (V.pF) ?_
    refine WpL.v (V.mv) ?_
    refine WpL.pt (fun hz24 => ?_) (fun hz24 => ?_)
    (try simp only [decide_eq_true_eq, decide_eq_false_iff_not, Bool.not_eq_true', Bool.not_eq_false', Bool.not_eq_true, Bool.not_eq_false, not_true_eq_false, not_false_eq_true, reduceCtorEq] at hz24)
    refine WpL.sk ?_
    refine WpL.sk ?_
    refine WpL.v (V.pT) ?_
    refine WpL.v (V.mv) ?_
    refine WpL.sk ?_
    refine WpL.sk ?_
    refine WpL.v (V.pT) ?_
    apply WpL.nil
    apply Out.seqN
    refine Wp.cT ?_
    apply Wp.seq
    apply Wp.region
    refine WpL.o (O.st1 tb ?_)
    apply WpL.nil
    apply Out.seqN
    apply Wp.ret
    apply Out.seqR
    refine Out.f1 rfl (ResIs.c1 tb) ⟨?_, rfl⟩
    exact rfl
    (try simp only [decide_eq_true_eq, decide_eq_false_iff_not, Bool.not_eq_true', Bool.not_eq_false', Bool.not_eq_true, Bool.not_eq_false, not_true_eq_false, not_false_eq_true, reduceCtorEq] at hz24)
    refine WpL.v (V.mv) ?_
    refine WpL.v (V.cmp) ?_
    refine WpL.v (V.pF) ?_
    refine WpL.v (V.mv) ?_
    refine WpL.pt (fun hz25 => ?_) (fun hz25 => ?_)
    (try simp only [decide_eq_true_eq, decide_eq_false_iff_not, Bool.not_eq_true', Bool.not_eq_false', Bool.not_eq_true, Bool.not_eq_false, not_true_eq_false, not_false_eq_true, reduceCtorEq] at hz25)
    refine WpL.sk ?_
    refine WpL.sk ?_
    refine WpL.v (V.pT) ?_
    apply WpL.nil
    apply Out.seqN
    refine Wp.cT ?_
    apply Wp.seq
    apply Wp.region
    refine WpL.o (O.st1 tb ?_)
    apply WpL.nil
    apply Out.seqN
    apply Wp.ret
    apply Out.seqR
    refine Out.f1 rfl (ResIs.c1 tb) ⟨?_, rfl⟩
    exact rfl
    (try simp only [decide_eq_true_eq, decide_eq_false_iff_not, Bool.not_eq_true', Bool.not_eq_false', Bool.not_eq_true, Bool.not_eq_false, not_true_eq_false, not_false_eq_true, reduceCtorEq] at hz25)
    refine WpL.v (V.mv) ?_
    refine WpL.v (V.cmp) ?_
    refine WpL.v (V.pF) ?_
    apply WpL.nil
    apply Out.seqN
    refine Wp.c (fun hz26 => ?_) (fun hz26 => ?_)
    (try simp only [decide_eq_true_eq, decide_eq_false_iff_not, Bool.not_eq_true', Bool.not_eq_false', Bool.not_eq_true, Bool.not_eq_false, not_true_eq_false, not_false_eq_true, reduceCtorEq] at hz26)
    apply Wp.seq
    apply Wp.region
    refine WpL.o (O.st1 tb ?_)
    apply WpL.nil
    apply Out.seqN
    apply Wp.ret
    apply Out.seqR
    refine Out.f1 rfl (ResIs.c1 tb) ⟨?_, rfl⟩
    exact rfl
    (try simp only [decide_eq_true_eq, decide_eq_false_iff_not, Bool.not_eq_true', Bool.not_eq_false', Bool.not_eq_true, Bool.not_eq_false, not_true_eq_false, not_false_eq_true, reduceCtorEq] at hz26)
    (exfalso; omega)
open Go Go.ChangeShapes Go.WideShapes Go.ChangeAt Go.RowKit
theorem paceGrows_read : (Try.f21.params.toList.all fun t => Try.prog.readableRec t && decide (t < Try.prog.types.size)) = true := by kernel_rfl
theorem paceGrows_lifted (os : Go.Os) (started : os.Started) (H : Type) (enc : Go.TypeId × Go.Value → H) :
    ReturnsInHanded {} Try.checked os 21 .any (Rows.paceGrowsSpec.pre6 enc Try.prog Try.f21 Rows.paceGrowsRow.domain false) (Rows.paceGrowsSpec.post enc Try.prog Try.f21 false true false false) := by
  refine returnsInHanded_of_change_sized (C := Try.checked) own started (by kernel_rfl) Try.func21
    (ChangeSpec.witness6 (enc := enc) (C := Try.checked) false ⟨#[], #[I 0, I 0, A TItem.z.c, I 0, I 0], []⟩ 8 (by kernel_rfl) (by kernel_rfl) (by kernel_rfl) (by kernel_rfl)) ?_
  intro W base args ds gs before hval0 hW hcnd hsz0 _
  have hsz : (DataW.weightsEach Try.prog (Try.f21.params.toList ++ Rows.paceGrowsSpec.plain.varTypes Try.prog) (ds ++ gs)).all (· ≤ reachBytes) = true := hsz0
  have hval : ∀ (j : Nat) t v, Try.f21.params[j]? = some t → args[j]? = some v → Value.okWide Try.prog W .any base t v := hval0
  have hW' := hW
  obtain ⟨p, q, hA0, hV, rfl, hfz, hnd⟩ := hW
  have hA1 : DataW.TrodAll enc Try.prog W 0 (fun _ => true) true Try.f21.params.toList args.toList ds p := hA0
  have hA := hA1
  rw [Try.params21] at hA hval hsz
  obtain ⟨v0, vs0, d0, ds0, p0, q0, hargs, rfl, rfl, h0, r0⟩ := trodAll_cons hA
  obtain ⟨v1, vs1, d1, ds1, p1, q1, rfl, rfl, rfl, h1, r1⟩ := trodAll_cons r0
  obtain ⟨v2, vs2, d2, ds2, p2, q2, rfl, rfl, rfl, h2, r2⟩ := trodAll_cons r1
  obtain ⟨v3, vs3, d3, ds3, p3, q3, rfl, rfl, rfl, h3, r3⟩ := trodAll_cons r2
  obtain ⟨v4, vs4, d4, ds4, p4, q4, rfl, rfl, rfl, h4, r4⟩ := trodAll_cons r3
  obtain ⟨rfl, rfl, rfl⟩ := trodAll_nil r4
  obtain rfl : args = #[v0, v1, v2, v3, v4] := by cases args; simp_all
  obtain ⟨rfl, rfl⟩ := trodVars_none hV
  obtain ⟨x0, rfl, rfl, rfl, w0⟩ := open_int Try.underlying3 (hval 0 3 v0 rfl rfl) h0
  obtain ⟨x1, rfl, rfl, rfl, w1⟩ := open_int Try.underlying3 (hval 1 3 v1 rfl rfl) h1
  obtain ⟨c2, rfl, f2⟩ := open_plain TItem.leaves ⟨_, Try.underlying23⟩ (hval 2 23 v2 rfl rfl) h2 (sizedAll hsz 2 rfl rfl)
  obtain ⟨x2, rfl, w2⟩ := TItem.fit f2
  obtain ⟨x3, rfl, rfl, rfl, w3⟩ := open_int Try.underlying3 (hval 3 3 v3 rfl rfl) h3
  obtain ⟨x4, rfl, rfl, rfl, w4⟩ := open_int Try.underlying3 (hval 4 3 v4 rfl rfl) h4
  simp only [List.append_nil] at hW' hA1
  refine (Fun.run (paceGrows_walk x0 x1 x2 x3 x4) W).mono fun e W' hh => ?_
  obtain ⟨rfl, hS⟩ := hh
  exact ⟨_, rfl, post_law (P := Try.prog) (f := Try.f21) (tbool := 4) hW' hA1 rfl rfl hS laid paceGrows_read rfl Try.underlying4⟩
theorem paceGrows_joined : joinedFacts Try.prog 21 Try.f21 Rows.paceGrowsSpec Rows.paceGrowsRow = true := by
  unfold joinedFacts
  rewrite [head_enter, head_lift, head_make]
  kernel_rfl
theorem paceGrows_over : Rows.paceGrowsRow.holds Try.pinned (OpenSpec.ofChange Rows.paceGrowsSpec) :=
  OpenClaim.holds_of_wide 21 Try.f21 rfl rfl rfl rfl rfl rfl rfl ⟨rfl, rfl, rfl, rfl, rfl⟩ rfl rfl rfl rfl rfl (by kernel_rfl) Try.func21 paceGrows_joined
    (of_decide_eq_true (by kernel_rfl)) (by unfold Func.isWrapper; first | (rw [if_pos (by decide +kernel)]; kernel_rfl) | (rw [if_neg (by decide +kernel)]; exact ⟨rfl, rfl⟩))
    (fun os started H enc _ => paceGrows_lifted os started H enc)
/-- THE STATEMENT. -/
theorem paceGrows_proved : Rows.PaceGrowsSaid := paceGrows_over
#print axioms paceGrows_proved

end Go.Proofs.Ythoepbbpmdmfeaa
