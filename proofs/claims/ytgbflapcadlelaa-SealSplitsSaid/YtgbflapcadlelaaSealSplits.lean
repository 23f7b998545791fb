/-
  The statement SealSplits of layer 6: Split finds the pieces of a row again, and of a row cut short those that are whole. Proved for every input.
-/
import Derived.Test.YtgbflapcadlelaaRowB
namespace Go.Proofs.Ytgbflapcadlelaa
open Go.HL
set_option linter.unusedSimpArgs false
set_option linter.unusedVariables false
set_option maxRecDepth 8000
theorem eql_self (a : Int) : cmpI .eql a a = some true := by simp [cmpI]
theorem neq_self (a : Int) : cmpI .neq a a = some false := by simp [cmpI]
theorem neqS_eq {a b : List UInt8} (h : a = b) : HL.cmpS .neq a b = some false := by simp [HL.cmpS, h]
theorem natG_short (n : Nat) : ∀ (i acc j : Nat), j < (natB n).length → natG ((natB n).take j) i acc = none := by
  induction n using Nat.strongRecOn with
  | _ n ih =>
    intro i acc j hj
    cases j with
    | zero => rfl
    | succ j =>
      by_cases hl : n < 128
      · rw [natB_lo hl] at hj; simp at hj
      · rw [natB_hi hl] at hj ⊢
        rw [List.take_succ_cons, natG]
        split
        · rfl
        · have : (UInt8.ofNat (128 + n % 128)).toNat = 128 + n % 128 := by simp; omega
          rw [if_neg (by omega)]
          exact ih (n / 128) (by omega) _ _ _ (by simpa using hj)
theorem openR_short {t : List UInt8} (ht : t.length ≤ 16384) {k : Nat} (hk : k < (sealB t).length) : openR ((sealB t).take k) = ([], 0) := by
  have hs : sealB t = natB t.length ++ (fourB (sumS (natI (t.length : Int) ++ t)) ++ t) := by
    rw [sealB, if_neg (by omega), natI, Int.toNat_natCast]
    simp only [List.append_assoc]
  have hl : (sealB t).length = (natB t.length).length + 4 + t.length := by
    rw [hs]
    simp only [List.length_append, fourB, List.length_cons, List.length_nil]
    omega
  unfold openR
  by_cases h : k < (natB t.length).length
  · rw [hs, List.take_append_of_le_length (by omega), natG_short _ _ _ _ h]
  · have e : (sealB t).take k = natB t.length ++ (fourB (sumS (natI (t.length : Int) ++ t)) ++ t).take (k - (natB t.length).length) := by
      rw [hs, List.take_append, List.take_of_length_le (by omega)]
    have hg := natG_natB t.length 0 0 ((fourB (sumS (natI (t.length : Int) ++ t)) ++ t).take (k - (natB t.length).length)) (by
      have : (128 : Nat) ^ (9 - 0) = 9223372036854775808 := by decide
      omega) (.inr rfl)
    rw [e, hg]
    simp only [Nat.zero_add, Nat.pow_zero, Nat.mul_one]
    rw [if_neg (by omega), if_pos (by rw [List.length_take]; omega)]
/-- How many pieces are whole in the first k bytes. -/
def whole : Nat → List (List UInt8) → Nat
  | _, [] => 0
  | k, t :: ts => if (sealB t).length ≤ k then whole (k - (sealB t).length) ts + 1 else 0
theorem whole_iff : ∀ (ts : List (List UInt8)) (k j : Nat), j ≤ ts.length → (j ≤ whole k ts ↔ (rowB (ts.take j)).length ≤ k)
  | ts, k, 0, _ => by simp [rowB]
  | [], _, _ + 1, h => by simp at h
  | t :: ts, k, j + 1, h => by
    have ih := whole_iff ts (k - (sealB t).length) j (by simpa using h)
    rw [List.take_succ_cons, rowB_cons, List.length_append, whole]
    split
    · omega
    · omega
theorem whole_le : ∀ (ts : List (List UInt8)) (k : Nat), whole k ts ≤ ts.length
  | [], _ => Nat.le_refl _
  | t :: ts, k => by
    have := whole_le ts (k - (sealB t).length)
    rw [whole, List.length_cons]
    split <;> omega
theorem goS_cut : ∀ (ts : List (List UInt8)) (p : List UInt8) (f k : Nat), (∀ t, t ∈ ts → t.length ≤ 16384) → ts.length < f → goS ((p ++ rowB ts).take (p.length + k)) f p.length = endsS p.length (ts.take (whole k ts))
  | [], p, f + 1, k, _, _ => by
    rw [goS, show rowB [] = [] from rfl, List.append_nil, List.take_of_length_le (by omega), List.drop_length, openR_nil, if_pos rfl]
    rfl
  | t :: ts, p, f + 1, k, h, hf => by
    have ht := h t (by simp)
    have hl := sealB_len ht
    have hd : ((p ++ rowB (t :: ts)).take (p.length + k)).drop p.length = (sealB t ++ rowB ts).take k := by
      rw [List.drop_take, List.drop_left, rowB_cons, Nat.add_sub_cancel_left]
    rw [goS, hd, whole]
    by_cases hk : (sealB t).length ≤ k
    · have e1 : (sealB t ++ rowB ts).take k = sealB t ++ (rowB ts).take (k - (sealB t).length) := by
        rw [List.take_append, List.take_of_length_le hk]
      rw [if_pos hk, e1, openR_seal ht, if_neg (by show ¬ ((sealB t).length : Int) = 0; omega)]
      simp only [Int.toNat_natCast]
      rw [List.take_succ_cons, endsS]
      have := goS_cut ts (p ++ sealB t) f (k - (sealB t).length) (fun x hx => h x (by simp [hx])) (by simp at hf; omega)
      rw [List.append_assoc, List.length_append, ← rowB_cons, show p.length + (sealB t).length + (k - (sealB t).length) = p.length + k by omega] at this
      rw [this]
    · have e1 : (sealB t ++ rowB ts).take k = (sealB t).take k := List.take_append_of_le_length (by omega)
      rw [if_neg hk, e1, openR_short ht (by omega), if_pos rfl]
      rfl
  | _ :: _, _, 0, _, _, h => by simp at h
  | [], _, 0, _, _, h => by simp at h
theorem goS_fuel (s : List UInt8) : ∀ (f f' i : Nat), i ≤ s.length → s.length + 1 ≤ f + i → s.length + 1 ≤ f' + i → goS s f i = goS s f' i
  | 0, _, i, h, h1, _ => by omega
  | _ + 1, 0, i, h, _, h2 => by omega
  | f + 1, f' + 1, i, hi, h1, h2 => by
    rw [goS, goS]
    rcases openR_le (s.drop i) with h0 | ⟨k, h0, h5, hk⟩
    · rw [if_pos h0, if_pos h0]
    · rw [List.length_drop] at hk
      rw [if_neg (by omega), if_neg (by omega), h0, Int.toNat_natCast, goS_fuel s f f' (i + k) (by omega) (by omega) (by omega)]
theorem allS_cut {ts : List (List UInt8)} (h : ∀ t, t ∈ ts → t.length ≤ 16384) (k : Nat) : (allS ((rowB ts).take k)).map Prod.snd = ts.take (whole k ts) := by
  have h1 := goS_cut ts [] (ts.length + ((rowB ts).take k).length + 1) k h (by omega)
  simp only [List.nil_append, List.length_nil, Nat.zero_add] at h1
  rw [allS, goS_fuel _ _ (ts.length + ((rowB ts).take k).length + 1) 0 (Nat.zero_le _) (by omega) (by omega), h1, endsS_snd]
theorem u64wrap' (c : Int) : ∃ m : Nat, IntKind.u64.wrap c = (m : Int) := by
  refine ⟨(IntKind.u64.wrap c).toNat, ?_⟩
  simp only [IntKind.wrap, IntKind.signed, IntKind.bits]
  have := Int.emod_nonneg c (show (2 ^ 64 : Int) ≠ 0 by decide)
  simp
  omega
theorem sealSplits_walk (e : Ent) (ao : Option Go.Addr) (cap b off : Nat) (xs : List (List UInt8)) (hR : Rd e ao xs.length b off 1 (xs.map strc)) (hw : ∀ t, t ∈ xs → t.length ≤ 140737488351232) (cut : Int) :
    Ct Try.prog 18 [.slice ao xs.length cap, I cut] [e] (fun r σ' => r = B true ∧ σ' = [e]) := by
  have hm := hR.len
  have hG := great_any e ao cap b off xs hR hw
  cases hg : greatB xs with
  | true =>
    rw [hg] at hG
    refine Ct.enter Try.func18 rfl rfl fun W => ?_
    apply Wp.seq
    apply Wp.region
    refine WpL.v (V.as) ?_
    apply WpL.nil
    apply Out.seqN
    apply Wp.seq
    apply Wp.seq
    apply Wp.region
    refine WpL.o (Op1.fn rfl (alive06) ?_)
    refine WpL.v (V.not) ?_
    apply WpL.nil
    apply Out.seqN
    refine Wp.cF ?_
    apply Wp.skip
    apply Out.seqN
    apply Wp.seq
    apply Wp.seq
    apply Wp.region
    refine WpL.v (V.mv) ?_
    refine WpL.o (Op1.callT rfl (hG) (by (repeat (first | exact Sel.nil | exact Rem.here | apply Sel.cons | apply Rem.there))) ?_)
    rintro v0 s1 ⟨rfl, rfl⟩
    refine incat ?_
    apply WpL.nil
    apply Out.seqN
    refine Wp.cT ?_
    apply Wp.seq
    apply Wp.region
    refine WpL.v (V.as) ?_
    apply WpL.nil
    apply Out.seqN
    apply Wp.ret
    apply Out.seqR
    refine Out.f1 rfl ResIs.t ⟨?_, rfl⟩
    exact rfl
  | false =>
    rw [hg] at hG
    obtain ⟨hn, ht⟩ := great_no hg
    have hall : ∀ t, t ∈ xs → t.length ≤ 16384 := fun t h => by have := ht t h; omega
    have hA := seal_row e ao cap b off xs hR hall (by omega)
    have hC := split_row hall (by omega)
    have hrl := rowB_len hall
    have hfive := rowB_five hall
    obtain ⟨c, hc⟩ := u64wrap' cut
    have hL : IntKind.u64.wrap (((rowB xs).length : Int) + 1) = (((rowB xs).length + 1 : Nat) : Int) := by
      rw [show ((rowB xs).length : Int) + 1 = (((rowB xs).length + 1 : Nat) : Int) by omega]
      exact u64wrap _ (by omega)
    have hk : c % ((rowB xs).length + 1) ≤ (rowB xs).length := by
      have := Nat.mod_lt c (show 0 < (rowB xs).length + 1 by omega)
      omega
    have hK : IntKind.i64.wrap ((c % ((rowB xs).length + 1) : Nat) : Int) = ((c % ((rowB xs).length + 1) : Nat) : Int) := i64wrap _ (by omega)
    have hD := seal_split ((rowB xs).take (c % ((rowB xs).length + 1))) (by rw [List.length_take]; omega)
    rw [allS_cut hall] at hD
    have hsl : (rowB xs).take ((c % ((rowB xs).length + 1) : Nat) : Int).toNat = (rowB xs).take (c % ((rowB xs).length + 1)) := by rw [Int.toNat_natCast]
    have hrm : (c : Int) % (((rowB xs).length + 1 : Nat) : Int) = ((c % ((rowB xs).length + 1) : Nat) : Int) := (Int.natCast_emod _ _).symm
    generalize hkk : c % ((rowB xs).length + 1) = k at *
    have hwi := whole_iff xs k
    have hwl := whole_le xs k
    refine Ct.enter Try.func18 rfl rfl fun W => ?_
    apply Wp.seq
    apply Wp.region
    refine WpL.v (V.as) ?_
    apply WpL.nil
    apply Out.seqN
    apply Wp.seq
    apply Wp.seq
    apply Wp.region
    refine WpL.o (Op1.fn rfl (alive06) ?_)
    refine WpL.v (V.not) ?_
    apply WpL.nil
    apply Out.seqN
    refine Wp.cF ?_
    apply Wp.skip
    apply Out.seqN
    apply Wp.seq
    apply Wp.seq
    apply Wp.region
    refine WpL.v (V.mv) ?_
    refine WpL.o (Op1.callT rfl (hG) (by (repeat (first | exact Sel.nil | exact Rem.here | apply Sel.cons | apply Rem.there))) ?_)
    rintro v0 s1 ⟨rfl, rfl⟩
    refine incat ?_
    apply WpL.nil
    apply Out.seqN
    refine Wp.cF ?_
    apply Wp.skip
    apply Out.seqN
    apply Wp.seq
    apply Wp.region
    refine WpL.v (V.mv) ?_
    refine WpL.o (Op1.callT rfl (hA) (by (repeat (first | exact Sel.nil | exact Rem.here | apply Sel.cons | apply Rem.there))) ?_)
    rintro v2 s3 ⟨rfl, rfl⟩
    refine incat ?_
    refine WpL.v (V.as) ?_
    apply WpL.nil
    apply Out.seqN
    apply Wp.seq
    apply Wp.region
    refine WpL.v (V.mv) ?_
    refine WpL.o (Op1.callT rfl (hC) (by (repeat (first | exact Sel.nil | exact Rem.here | apply Sel.cons | apply Rem.there))) ?_)
    rintro v4 s5 ⟨r24, ⟨rfl, rfl⟩⟩
    refine incat ?_
    refine WpL.v (V.mv) ?_
    refine WpL.v (V.ex) ?_
    refine WpL.v (V.ex) ?_
    refine WpL.v (V.as) ?_
    refine WpL.v (V.as) ?_
    apply WpL.nil
    apply Out.seqN
    apply Wp.seq
    apply Wp.seq
    apply Wp.region
    refine WpL.v (V.mv) ?_
    refine WpL.v (V.lenRows tb) ?_
    refine WpL.v (V.mv) ?_
    refine WpL.v (V.lenL tb) ?_
    refine WpL.v (V.cmp rfl rfl (neq_self _)) ?_
    refine WpL.v (V.mv) ?_
    refine WpL.v (V.mv) ?_
    refine WpL.v (V.mv) ?_
    refine WpL.v (V.lenS tb) ?_
    refine WpL.v (V.cmp rfl rfl (neq_self _)) ?_
    refine WpL.v (V.pF) ?_
    apply WpL.nil
    apply Out.seqN
    refine Wp.cF ?_
    apply Wp.skip
    apply Out.seqN
    apply Wp.seq
    apply Wp.region
    refine WpL.v (V.mv) ?_
    refine WpL.v (V.cvE tb rfl rfl hc) ?_
    refine WpL.v (V.mv) ?_
    refine WpL.v (V.lenS tb) ?_
    refine WpL.v (V.add) ?_
    refine WpL.v (V.cvE tb rfl rfl hL) ?_
    refine WpL.v (V.remE rfl rfl hrm) ?_
    refine WpL.v (V.cvE tb rfl rfl hK) ?_
    refine WpL.v (V.as) ?_
    apply WpL.nil
    apply Out.seqN
    apply Wp.seq
    apply Wp.region
    refine WpL.v (V.mv) ?_
    refine WpL.v (V.mv) ?_
    refine WpL.v (V.slHiE tb rfl rfl hsl) ?_
    refine WpL.o (Op1.callT rfl (hD) (by (repeat (first | exact Sel.nil | exact Rem.here | apply Sel.cons | apply Rem.there))) ?_)
    rintro v6 s7 ⟨r50, ⟨rfl, rfl⟩⟩
    refine incat ?_
    refine WpL.v (V.mv) ?_
    refine WpL.v (V.ex) ?_
    refine WpL.v (V.ex) ?_
    refine WpL.v (V.as) ?_
    refine WpL.v (V.as) ?_
    apply WpL.nil
    apply Out.seqN
    apply Wp.seq
    apply Wp.region
    refine WpL.v (V.as) ?_
    apply WpL.nil
    apply Out.seqN
    apply Wp.seq
    apply Wp.region
    refine WpL.v (V.as) ?_
    apply WpL.nil
    apply Out.seqN
    apply Wp.seq
    apply Wp.seq
    apply Wp.region
    refine WpL.v (V.mv) ?_
    refine WpL.v (V.lenL tb) ?_
    refine WpL.v (V.mv) ?_
    apply WpL.nil
    apply Out.seqN
    apply Wp.block
    refine Wp.lp [54, 53, 9, 8, 6, 0] (fun i : Nat => i ≤ xs.length) (fun i => [(55, I (i : Int)), (12, I ((Min.min i (whole k xs) : Nat) : Int)), (11, I ((rowB (xs.take i)).length : Int))]) (fun _ => []) (fun i => xs.length - i) 0 (Nat.zero_le _) ?_ (he := by rw [Nat.zero_min]; exact subEnv.cons rfl rfl (subEnv.cons rfl rfl (subEnv.cons rfl rfl subEnv.nil)))
    intro i hi K hK
    dsimp only [List.cons_append, List.nil_append]
    by_cases hlt : i < xs.length
    · obtain ⟨t, hx⟩ := getS hlt
      have hgd : xs.getD i default = t := by simp [List.getD, hx]
      have e1 := take_snocS hx
      have htl := hall t (List.mem_of_getElem? hx)
      have e2 : (rowB (xs.take (i + 1))).length = (rowB (xs.take i)).length + (sealB (xs.getD i default)).length := by rw [e1, rowB_snoc, List.length_append, hgd]
      have e3 := hwi (i + 1) (by omega)
      have e4 : (rowB (xs.take (i + 1))).length ≤ 20000 * xs.length := by
        have := rowB_len (ts := xs.take (i + 1)) (fun x hx => hall x (List.mem_of_mem_take hx))
        rw [List.length_take] at this
        omega
      have hne : xs ≠ [] := by intro h; rw [h] at hlt; simp at hlt
      rw [← hgd] at htl
      have hS : Fun Try.prog 24 [S (xs.getD i default)] (S (sealB (xs.getD i default))) := refSeal _ (by omega)
      clear hx e1 hgd
      refine Wp.form (f := strc) (v := r24) (l := xs) (by (repeat first | exact List.Mem.head _ | apply List.Mem.tail)) (fun _ h1 => absurd h1 hne) (fun g2 cap2 hv2 => ?_)
      subst hv2
      apply Wp.seq
      apply Wp.region
      refine WpL.v (V.cmp) ?_
      apply WpL.nil
      apply Out.seqN
      apply Wp.seq
      refine Wp.c (fun hd0 => ?_) (fun hd0 => ?_)
      (try simp only [decide_eq_true_eq, decide_eq_false_iff_not, Bool.not_eq_true', Bool.not_eq_false', Bool.not_eq_true, Bool.not_eq_false, not_true_eq_false, not_false_eq_true, reduceCtorEq] at hd0)
      apply Wp.skip
      apply Out.seqN
      apply Wp.seq
      apply Wp.block
      apply Wp.seq
      apply Wp.region
      refine WpL.v (V.mv) ?_
      refine WpL.v (V.ixR tb rfl rfl (by assumption)) ?_
      refine WpL.v (V.ldR1 tb rfl (by assumption) (getMapD1 (by omega))) ?_
      refine WpL.v (V.as) ?_
      refine WpL.v (V.as) ?_
      apply WpL.nil
      apply Out.seqN
      apply Wp.seq
      apply Wp.seq
      apply Wp.region
      refine WpL.v (V.mv) ?_
      refine WpL.v (V.mv) ?_
      refine WpL.v (V.ixk tb rfl rfl) ?_
      refine WpL.v (V.ldRow1 tb rfl (by (repeat first | exact List.Mem.head _ | apply List.Mem.tail)) (fun _ => rfl) (getD_some (by omega))) ?_
      refine WpL.v (V.mv) ?_
      refine WpL.v (V.cmpS rfl rfl (neqS_self _)) ?_
      apply WpL.nil
      apply Out.seqN
      refine Wp.cF ?_
      apply Wp.skip
      apply Out.seqN
      apply Wp.seq
      apply Wp.region
      refine WpL.v (V.mv) ?_
      refine WpL.v (V.mv) ?_
      refine WpL.o (Op1.fn rfl (hS) ?_)
      refine WpL.v (V.lenS tb) ?_
      refine WpL.v (V.add) ?_
      refine WpL.v (V.as) ?_
      apply WpL.nil
      apply Out.seqN
      apply Wp.seq
      apply Wp.region
      refine WpL.v (V.mv) ?_
      refine WpL.v (V.mv) ?_
      refine WpL.v (V.cmp) ?_
      apply WpL.nil
      apply Out.seqN
      refine Wp.c (fun hd1 => ?_) (fun hd1 => ?_)
      (try simp only [decide_eq_true_eq, decide_eq_false_iff_not, Bool.not_eq_true', Bool.not_eq_false', Bool.not_eq_true, Bool.not_eq_false, not_true_eq_false, not_false_eq_true, reduceCtorEq] at hd1)
      apply Wp.region
      refine WpL.v (V.mv) ?_
      refine WpL.v (V.add) ?_
      refine WpL.v (V.as) ?_
      apply WpL.nil
      apply Out.blockN
      apply Out.seqN
      apply Wp.region
      refine WpL.v (V.add) ?_
      refine WpL.v (V.mv) ?_
      apply WpL.nil
      rotate_left
      (try simp only [decide_eq_true_eq, decide_eq_false_iff_not, Bool.not_eq_true', Bool.not_eq_false', Bool.not_eq_true, Bool.not_eq_false, not_true_eq_false, not_false_eq_true, reduceCtorEq] at hd1)
      apply Wp.skip
      apply Out.blockN
      apply Out.seqN
      apply Wp.region
      refine WpL.v (V.add) ?_
      refine WpL.v (V.mv) ?_
      apply WpL.nil
      rotate_left
      (try simp only [decide_eq_true_eq, decide_eq_false_iff_not, Bool.not_eq_true', Bool.not_eq_false', Bool.not_eq_true, Bool.not_eq_false, not_true_eq_false, not_false_eq_true, reduceCtorEq] at hd0)
      (exfalso; omega)
      · have h12 : Min.min (i + 1) (whole k xs) = Min.min i (whole k xs) + 1 := by omega
        refine Out.ag hK (i + 1) (by omega) (by show xs.length - (i + 1) < xs.length - i; omega) (he := ?_)
        dsimp only [List.cons_append, List.nil_append]
        rw [h12, e2]
        exact subEnv.cons rfl rfl (subEnv.cons rfl rfl (subEnv.cons rfl rfl (subEnv.cons rfl rfl (subEnv.cons rfl rfl (subEnv.cons rfl rfl (subEnv.cons rfl rfl (subEnv.cons rfl rfl (subEnv.cons rfl rfl subEnv.nil))))))))
      · have h12 : Min.min (i + 1) (whole k xs) = Min.min i (whole k xs) := by omega
        refine Out.ag hK (i + 1) (by omega) (by show xs.length - (i + 1) < xs.length - i; omega) (he := ?_)
        dsimp only [List.cons_append, List.nil_append]
        rw [h12, e2]
        exact subEnv.cons rfl rfl (subEnv.cons rfl rfl (subEnv.cons rfl rfl (subEnv.cons rfl rfl (subEnv.cons rfl rfl (subEnv.cons rfl rfl (subEnv.cons rfl rfl (subEnv.cons rfl rfl (subEnv.cons rfl rfl subEnv.nil))))))))
    · obtain rfl : i = xs.length := by omega
      clear hK
      have hlw : (List.take (whole k xs) xs).length = whole k xs := by rw [List.length_take]; omega
      apply Wp.seq
      apply Wp.region
      refine WpL.v (V.cmp) ?_
      apply WpL.nil
      apply Out.seqN
      apply Wp.seq
      refine Wp.c (fun he0 => ?_) (fun he0 => ?_)
      (try simp only [decide_eq_true_eq, decide_eq_false_iff_not, Bool.not_eq_true', Bool.not_eq_false', Bool.not_eq_true, Bool.not_eq_false, not_true_eq_false, not_false_eq_true, reduceCtorEq] at he0)
      (exfalso; omega)
      (try simp only [decide_eq_true_eq, decide_eq_false_iff_not, Bool.not_eq_true', Bool.not_eq_false', Bool.not_eq_true, Bool.not_eq_false, not_true_eq_false, not_false_eq_true, reduceCtorEq] at he0)
      apply Wp.exit
      apply Out.seqE
      apply Out.seqE
      apply Out.blockE
      apply Out.seqN
      apply Wp.seq
      apply Wp.seq
      apply Wp.region
      refine WpL.v (V.mv) ?_
      refine WpL.v (V.lenRows tb) ?_
      refine WpL.v (V.mv) ?_
      refine WpL.v (V.cmp) ?_
      apply WpL.nil
      apply Out.seqN
      refine Wp.c (fun he1 => ?_) (fun he1 => ?_)
      (try simp only [decide_eq_true_eq, decide_eq_false_iff_not, Bool.not_eq_true', Bool.not_eq_false', Bool.not_eq_true, Bool.not_eq_false, not_true_eq_false, not_false_eq_true, reduceCtorEq] at he1)
      (exfalso; omega)
      (try simp only [decide_eq_true_eq, decide_eq_false_iff_not, Bool.not_eq_true', Bool.not_eq_false', Bool.not_eq_true, Bool.not_eq_false, not_true_eq_false, not_false_eq_true, reduceCtorEq] at he1)
      apply Wp.skip
      apply Out.seqN
      apply Wp.seq
      apply Wp.seq
      apply Wp.region
      refine WpL.v (V.mv) ?_
      refine WpL.v (V.lenRows tb) ?_
      refine WpL.v (V.mv) ?_
      apply WpL.nil
      apply Out.seqN
      apply Wp.block
      refine Wp.lp [82, 9, 0] (fun i : Nat => i ≤ (List.take (whole k xs) xs).length) (fun i => [(83, I (i : Int))]) (fun _ => []) (fun i => (List.take (whole k xs) xs).length - i) 0 (Nat.zero_le _) ?_
      intro i hi2 K hK
      dsimp only [List.cons_append, List.nil_append]
      by_cases hlt2 : i < (List.take (whole k xs) xs).length
      · have hne : List.take (whole k xs) xs ≠ [] := by intro h; rw [h] at hlt2; simp at hlt2
        have hgq : (List.take (whole k xs) xs).getD i default = xs.getD i default := by
          simp only [List.getD_eq_getElem?_getD, List.getElem?_take]
          rw [if_pos (by omega)]
        have hix : i < xs.length := by omega
        refine Wp.form (f := strc) (v := r50) (l := List.take (whole k xs) xs) (by (repeat first | exact List.Mem.head _ | apply List.Mem.tail)) (fun _ h1 => absurd h1 hne) (fun g3 cap3 hv3 => ?_)
        subst hv3
        apply Wp.seq
        apply Wp.region
        refine WpL.v (V.cmp) ?_
        apply WpL.nil
        apply Out.seqN
        apply Wp.seq
        refine Wp.c (fun hf0 => ?_) (fun hf0 => ?_)
        (try simp only [decide_eq_true_eq, decide_eq_false_iff_not, Bool.not_eq_true', Bool.not_eq_false', Bool.not_eq_true, Bool.not_eq_false, not_true_eq_false, not_false_eq_true, reduceCtorEq] at hf0)
        apply Wp.skip
        apply Out.seqN
        apply Wp.seq
        apply Wp.block
        apply Wp.seq
        apply Wp.region
        refine WpL.v (V.mv) ?_
        refine WpL.v (V.as) ?_
        apply WpL.nil
        apply Out.seqN
        apply Wp.seq
        refine Wp.dG [] ?_ (List.Sublist.cons_cons _ (List.Sublist.cons_cons _ (List.Sublist.cons_cons _ List.Sublist.slnil))) (List.Sublist.cons_cons _ (List.Sublist.cons_cons _ (List.Sublist.cons_cons _ List.Sublist.slnil)))
        refine WpA.tF 0 rfl (V.mv) ?_
        refine WpA.tF 1 rfl (V.mv) ?_
        refine WpA.tF 2 rfl (V.ixk tb rfl rfl) ?_
        refine WpA.tF 3 rfl (V.ldRow1 tb rfl (by (repeat first | exact List.Mem.head _ | apply List.Mem.tail)) (fun _ => rfl) (getD_some (by omega))) ?_
        refine WpA.tF 4 rfl (V.mv) ?_
        refine WpA.tF 5 rfl (V.mv) ?_
        refine WpA.tF 6 rfl (V.ixR tb rfl rfl (by assumption)) ?_
        refine WpA.tF 7 rfl (V.ldR1 tb rfl (by assumption) (getMapD1 (by omega))) ?_
        refine WpA.tF 8 rfl (V.cmpS rfl rfl (neqS_eq hgq)) ?_
        refine WpA.ou ?_
        apply Out.seqN
        refine Wp.cF ?_
        apply Wp.skip
        apply Out.blockN
        apply Out.seqN
        apply Wp.region
        refine WpL.v (V.add) ?_
        refine WpL.v (V.mv) ?_
        apply WpL.nil
        rotate_left
        (try simp only [decide_eq_true_eq, decide_eq_false_iff_not, Bool.not_eq_true', Bool.not_eq_false', Bool.not_eq_true, Bool.not_eq_false, not_true_eq_false, not_false_eq_true, reduceCtorEq] at hf0)
        (exfalso; omega)
        exact Out.ag hK (i + 1) (by show i + 1 ≤ (List.take (whole k xs) xs).length; omega) (by show (List.take (whole k xs) xs).length - (i + 1) < (List.take (whole k xs) xs).length - i; omega)
      · apply Wp.seq
        apply Wp.region
        refine WpL.v (V.cmp) ?_
        apply WpL.nil
        apply Out.seqN
        apply Wp.seq
        refine Wp.c (fun hg0 => ?_) (fun hg0 => ?_)
        (try simp only [decide_eq_true_eq, decide_eq_false_iff_not, Bool.not_eq_true', Bool.not_eq_false', Bool.not_eq_true, Bool.not_eq_false, not_true_eq_false, not_false_eq_true, reduceCtorEq] at hg0)
        (exfalso; omega)
        (try simp only [decide_eq_true_eq, decide_eq_false_iff_not, Bool.not_eq_true', Bool.not_eq_false', Bool.not_eq_true, Bool.not_eq_false, not_true_eq_false, not_false_eq_true, reduceCtorEq] at hg0)
        apply Wp.exit
        apply Out.seqE
        apply Out.seqE
        apply Out.blockE
        apply Out.seqN
        apply Wp.seq
        apply Wp.region
        refine WpL.v (V.as) ?_
        apply WpL.nil
        apply Out.seqN
        apply Wp.ret
        refine Out.f1 rfl ResIs.t ⟨?_, rfl⟩
        exact rfl
open Go Go.ChangeShapes Go.WideShapes Go.ChangeAt Go.RowKit
theorem sealSplits_read : (Try.f18.params.toList.all fun t => Try.prog.readableRec t && decide (t < Try.prog.types.size)) = true := by kernel_rfl
theorem sealSplits_lifted (os : Go.Os) (started : os.Started) (H : Type) (enc : Go.TypeId × Go.Value → H) :
    ReturnsInHanded {} Try.checked os 18 .any (Rows.sealSplitsSpec.pre6 enc Try.prog Try.f18 Rows.sealSplitsRow.domain false) (Rows.sealSplitsSpec.post enc Try.prog Try.f18 false true false false) := by
  refine returnsInHanded_of_change_sized (C := Try.checked) own started (by kernel_rfl) Try.func18
    (ChangeSpec.witness6 (enc := enc) (C := Try.checked) false ⟨#[], #[.slice none 0 0, I 0], []⟩ 8 (by kernel_rfl) (by kernel_rfl) (by kernel_rfl) (by kernel_rfl)) ?_
  intro W base args ds gs before hval0 hW hcnd hsz0 _
  have hsz : (DataW.weightsEach Try.prog (Try.f18.params.toList ++ Rows.sealSplitsSpec.plain.varTypes Try.prog) (ds ++ gs)).all (· ≤ reachBytes) = true := hsz0
  have hval : ∀ (j : Nat) t v, Try.f18.params[j]? = some t → args[j]? = some v → Value.okWide Try.prog W .any base t v := hval0
  have hW' := hW
  obtain ⟨p, q, hA0, hV, rfl, hfz, hnd⟩ := hW
  have hA1 : DataW.TrodAll enc Try.prog W 0 (fun _ => true) true Try.f18.params.toList args.toList ds p := hA0
  have hA := hA1
  rw [Try.params18] at hA hval hsz
  obtain ⟨v0, vs0, d0, ds0, p0, q0, hargs, rfl, rfl, h0, r0⟩ := trodAll_cons hA
  obtain ⟨v1, vs1, d1, ds1, p1, q1, rfl, rfl, rfl, h1, r1⟩ := trodAll_cons r0
  obtain ⟨rfl, rfl, rfl⟩ := trodAll_nil r1
  obtain rfl : args = #[v0, v1] := by cases args; simp_all
  obtain ⟨rfl, rfl⟩ := trodVars_none hV
  obtain ⟨ao0, b0, off0, len0, cap0, xs0, rfl, hl0, hlc0, hcm0, ha0, hs0, hf0, hby0⟩ := open_slice_plain Try.underlying76 StrT.leaves (by kernel_rfl) (by decide) (hval 0 76 v0 rfl rfl) h0 (sizedAll hsz 0 rfl rfl)
  obtain ⟨x0, rfl, w0⟩ := fits_map StrT.c StrT.wf hf0 StrT.fit
  obtain rfl : len0 = x0.length := by simpa using hl0.symm
  obtain ⟨x1, rfl, rfl, rfl, w1⟩ := open_int Try.underlying3 (hval 1 3 v1 rfl rfl) h1
  simp only [List.append_nil] at hW' hA1
  have hbl : ∀ p : Nat × Nat, p ∈ [(x0.length, b0)] → 0 < p.1 → p.2 < W.heap.size := by
    intro p hp h0
    simp only [List.mem_cons, List.mem_nil_iff, or_false] at hp
    rcases hp with rfl
    · exact (ha0 h0).2
  have hR0 : Rd (snap W (blocksOf [(x0.length, b0)])) ao0 x0.length b0 off0 1 (x0.map StrT.c) := Rd.snap (by simp) (Nat.le_trans hlc0 hcm0) ha0 hs0 (fun h => blocksOf_mem (len := x0.length) (by simp) h)
  refine (Ct.runSnap (blocksOf_nodup _) (blocksOf_lt hbl) (sealSplits_walk _ _ _ _ _ x0 hR0 w0 x1)).mono fun e W' hh => ?_
  obtain ⟨rfl, hS⟩ := hh
  exact ⟨_, rfl, post_law (P := Try.prog) (f := Try.f18) (tbool := 4) hW' hA1 rfl rfl hS laid sealSplits_read rfl Try.underlying4⟩
theorem sealSplits_over : Rows.sealSplitsRow.holds Try.pinned (OpenSpec.ofChange Rows.sealSplitsSpec) :=
  OpenClaim.holds_of_wide 18 Try.f18 rfl rfl rfl rfl rfl rfl rfl ⟨rfl, rfl, rfl, rfl, rfl⟩ rfl rfl rfl rfl rfl (by kernel_rfl) Try.func18 (by kernel_rfl)
    (of_decide_eq_true (by kernel_rfl)) (by unfold Func.isWrapper; first | (rw [if_pos (by decide +kernel)]; kernel_rfl) | (rw [if_neg (by decide +kernel)]; exact ⟨rfl, rfl⟩))
    (fun os started H enc _ => sealSplits_lifted os started H enc)
/-- THE STATEMENT. -/
theorem sealSplits_proved : Rows.SealSplitsSaid := sealSplits_over
#print axioms sealSplits_proved

end Go.Proofs.Ytgbflapcadlelaa
