/-
  Layer 6: what Split finds in a row of sealed texts.
-/
import Derived.Test.YtgbflapcadlelaaRow
namespace Go.Proofs.Ytgbflapcadlelaa
open Go.HL
set_option linter.unusedSimpArgs false
set_option linter.unusedVariables false
set_option maxRecDepth 8000
theorem openR_seal {t : List UInt8} (ht : t.length ≤ 16384) (rest : List UInt8) : openR (sealB t ++ rest) = (t, ((sealB t).length : Int)) := by
  have hg := natG_natB t.length 0 0 (fourB (sumS (natI (t.length : Int) ++ t)) ++ (t ++ rest)) (by
    have : (128 : Nat) ^ (9 - 0) = 9223372036854775808 := by decide
    omega) (.inr rfl)
  have hs : sealB t ++ rest = natB t.length ++ (fourB (sumS (natI (t.length : Int) ++ t)) ++ (t ++ rest)) := by
    rw [sealB, if_neg (by omega), natI, Int.toNat_natCast]
    simp only [List.append_assoc]
  have hl : (sealB t).length = (natB t.length).length + 4 + t.length := by
    rw [sealB, if_neg (by omega), natI, Int.toNat_natCast]
    simp only [List.length_append, fourB, List.length_cons, List.length_nil]
  have h4 : (fourB (sumS (natI (t.length : Int) ++ t))).length = 4 := rfl
  have hd : (fourB (sumS (natI (t.length : Int) ++ t)) ++ (t ++ rest)).drop 4 = t ++ rest := List.drop_left' h4
  have htk : (fourB (sumS (natI (t.length : Int) ++ t)) ++ (t ++ rest)).take 4 = fourB (sumS (natI (t.length : Int) ++ t)) := List.take_left' h4
  unfold openR
  rw [hs, hg]
  simp only [Nat.zero_add, Nat.pow_zero, Nat.mul_one, hd, htk, List.take_left]
  rw [if_neg (by omega), if_neg (by simp only [List.length_append, h4]; omega)]
  rw [if_pos trivial, hl]
  congr 2
  simp only [List.length_append, h4]
  omega
theorem openR_nil : openR [] = ([], 0) := rfl
/-- Where the pieces end. -/
def endsS : Nat → List (List UInt8) → List (Nat × List UInt8)
  | _, [] => []
  | i, t :: ts => (i + (sealB t).length, t) :: endsS (i + (sealB t).length) ts
theorem rowB_cons (t : List UInt8) (ts : List (List UInt8)) : rowB (t :: ts) = sealB t ++ rowB ts := by simp [rowB]
theorem rowB_app (a b : List (List UInt8)) : rowB (a ++ b) = rowB a ++ rowB b := by simp [rowB]
theorem goS_row : ∀ (ts : List (List UInt8)) (p : List UInt8) (f : Nat), (∀ t, t ∈ ts → t.length ≤ 16384) → ts.length < f → goS (p ++ rowB ts) f p.length = endsS p.length ts
  | [], p, f + 1, _, _ => by
    rw [goS, show rowB [] = [] from rfl, List.append_nil, List.drop_length, openR_nil, if_pos rfl]
    rfl
  | t :: ts, p, f + 1, h, hf => by
    have ht := h t (by simp)
    have hl := sealB_len ht
    rw [goS, List.drop_left, rowB_cons, openR_seal ht, if_neg (by show ¬ ((sealB t).length : Int) = 0; omega)]
    simp only [Int.toNat_natCast]
    rw [endsS]
    have := goS_row ts (p ++ sealB t) f (fun x hx => h x (by simp [hx])) (by simp at hf; omega)
    rw [List.append_assoc, List.length_append] at this
    rw [this]
  | _ :: _, _, 0, _, h => by simp at h
  | [], _, 0, _, h => by simp at h
theorem rowB_five {ts : List (List UInt8)} (h : ∀ t, t ∈ ts → t.length ≤ 16384) : 5 * ts.length ≤ (rowB ts).length := by
  induction ts with
  | nil => simp
  | cons t ts ih =>
    have h1 := sealB_len (h t (by simp))
    have h2 := ih fun x hx => h x (by simp [hx])
    rw [rowB_cons, List.length_append, List.length_cons]
    omega
theorem allS_row {ts : List (List UInt8)} (h : ∀ t, t ∈ ts → t.length ≤ 16384) : allS (rowB ts) = endsS 0 ts := by
  have := goS_row ts [] ((rowB ts).length + 1) h (by have := rowB_five h; omega)
  simpa [allS] using this
theorem endsS_snd : ∀ (ts : List (List UInt8)) (i : Nat), (endsS i ts).map Prod.snd = ts
  | [], _ => rfl
  | t :: ts, i => by rw [endsS, List.map_cons, endsS_snd ts]
theorem endsS_last : ∀ (ts : List (List UInt8)) (i : Nat), lastD i (endsS i ts) = i + (rowB ts).length
  | [], _ => rfl
  | t :: ts, i => by rw [endsS, lastD_cons, endsS_last ts, rowB_cons, List.length_append]; omega
theorem split_row {ts : List (List UInt8)} (h : ∀ t, t ∈ ts → t.length ≤ 16384) (hn : ts.length ≤ 45) : Ct Try.prog 65 [S (rowB ts)] [] (fun v σ' => ∃ r, v = .tuple #[r, I ((rowB ts).length : Int)] ∧ σ' = [rows strc r 9 1 ts]) := by
  have hl := rowB_len h
  have := seal_split (rowB ts) (by omega)
  rw [allS_row h, endsS_snd, show lastS (endsS 0 ts) = (rowB ts).length from (endsS_last ts 0).trans (Nat.zero_add _)] at this
  exact this
def totL (ts : List (List UInt8)) : Nat := (ts.map List.length).sum
theorem totL_snoc (ts : List (List UInt8)) (t : List UInt8) : totL (ts ++ [t]) = totL ts + t.length := by simp [totL]
theorem totL_le {ts : List (List UInt8)} {t : List UInt8} (h : t ∈ ts) : t.length ≤ totL ts := by
  induction ts with
  | nil => cases h
  | cons x ts ih =>
    simp only [totL, List.map_cons, List.sum_cons] at ih ⊢
    rcases List.mem_cons.1 h with rfl | h
    · omega
    · have := ih h; omega
theorem totL_take (ts : List (List UInt8)) (i : Nat) : totL (ts.take i) ≤ totL ts := by
  have h2 : totL ts = totL (ts.take i ++ ts.drop i) := by rw [List.take_append_drop]
  rw [h2]
  unfold totL
  rw [List.map_append, List.sum_append]
  omega
def greatB (ts : List (List UInt8)) : Bool := decide (2048 < totL ts) || decide (20 < ts.length)
theorem great_any (e : Ent) (ao : Option Go.Addr) (cap bb off : Nat) (ts : List (List UInt8)) (hR : Rd e ao ts.length bb off 1 (ts.map strc)) (hw : ∀ t, t ∈ ts → t.length ≤ 140737488351232) :
    Ct Try.prog 66 [.slice ao ts.length cap] [e] (fun r σ' => r = B (greatB ts) ∧ σ' = [e]) := by
  have hm := hR.len
  refine Ct.enter Try.func66 rfl rfl fun W => ?_
  apply Wp.seq
  apply Wp.region
  refine WpL.v (V.as) ?_
  apply WpL.nil
  apply Out.seqN
  apply Wp.seq
  apply Wp.region
  refine WpL.v (V.as) ?_
  apply WpL.nil
  apply Out.seqN
  apply Wp.seq
  apply Wp.seq
  apply Wp.region
  refine WpL.v (V.mv) ?_
  refine WpL.v (V.lenL tb) ?_
  refine WpL.v (V.mv) ?_
  apply WpL.nil
  apply Out.seqN
  apply Wp.block
  refine Wp.lp [7, 6, 0] (fun i : Nat => i ≤ ts.length ∧ totL (ts.take i) ≤ 2048) (fun i => [(8, I (i : Int)), (3, I (totL (ts.take i) : Int))]) (fun _ => [e]) (fun i => ts.length - i) 0 ⟨Nat.zero_le _, by simp [totL]⟩ ?_
  rintro i ⟨hi, h2⟩ K hK
  dsimp only [List.cons_append, List.nil_append]
  by_cases hlt : i < ts.length
  · obtain ⟨t, hx⟩ := getS hlt
    have hgd : ts.getD i default = t := by simp [List.getD, hx]
    have e1 := take_snocS hx
    have e2 : totL (ts.take (i + 1)) = totL (ts.take i) + (ts.getD i default).length := by rw [e1, totL_snoc, hgd]
    have e3 := totL_take ts (i + 1)
    have h3 := hw t (List.mem_of_getElem? hx)
    rw [← hgd] at h3
    apply Wp.seq
    apply Wp.region
    refine WpL.v (V.cmp) ?_
    apply WpL.nil
    apply Out.seqN
    apply Wp.seq
    refine Wp.c (fun hgb0 => ?_) (fun hgb0 => ?_)
    (try simp only [decide_eq_true_eq, decide_eq_false_iff_not, Bool.not_eq_true', Bool.not_eq_false', Bool.not_eq_true, Bool.not_eq_false, not_true_eq_false, not_false_eq_true, reduceCtorEq] at hgb0)
    apply Wp.skip
    apply Out.seqN
    apply Wp.seq
    apply Wp.block
    apply Wp.seq
    apply Wp.region
    refine WpL.v (V.ixR tb rfl rfl (by assumption)) ?_
    refine WpL.v (V.ldR1 tb rfl (by assumption) (getMapD1 (by omega))) ?_
    refine WpL.v (V.as) ?_
    apply WpL.nil
    apply Out.seqN
    apply Wp.seq
    apply Wp.region
    refine WpL.v (V.mv) ?_
    refine WpL.v (V.mv) ?_
    refine WpL.v (V.lenS tb) ?_
    refine WpL.v (V.add) ?_
    refine WpL.v (V.as) ?_
    apply WpL.nil
    apply Out.seqN
    apply Wp.seq
    apply Wp.region
    refine WpL.v (V.mv) ?_
    refine WpL.v (V.cmp) ?_
    apply WpL.nil
    apply Out.seqN
    refine Wp.c (fun hgb1 => ?_) (fun hgb1 => ?_)
    (try simp only [decide_eq_true_eq, decide_eq_false_iff_not, Bool.not_eq_true', Bool.not_eq_false', Bool.not_eq_true, Bool.not_eq_false, not_true_eq_false, not_false_eq_true, reduceCtorEq] at hgb1)
    apply Wp.seq
    apply Wp.region
    refine WpL.v (V.as) ?_
    apply WpL.nil
    apply Out.seqN
    apply Wp.ret
    apply Out.blockR
    apply Out.seqR
    apply Out.seqR
    apply Out.blockR
    apply Out.seqR
    refine Out.f1 rfl ResIs.t ⟨?_, rfl⟩
    rotate_left
    (try simp only [decide_eq_true_eq, decide_eq_false_iff_not, Bool.not_eq_true', Bool.not_eq_false', Bool.not_eq_true, Bool.not_eq_false, not_true_eq_false, not_false_eq_true, reduceCtorEq] at hgb1)
    apply Wp.skip
    apply Out.blockN
    apply Out.seqN
    apply Wp.region
    refine WpL.v (V.add) ?_
    refine WpL.v (V.mv) ?_
    apply WpL.nil
    rotate_left
    (try simp only [decide_eq_true_eq, decide_eq_false_iff_not, Bool.not_eq_true', Bool.not_eq_false', Bool.not_eq_true, Bool.not_eq_false, not_true_eq_false, not_false_eq_true, reduceCtorEq] at hgb0)
    (exfalso; omega)
    · unfold greatB
      rw [decide_eq_true (show 2048 < totL ts by omega)]
      rfl
    · refine Out.ag hK (i + 1) ⟨by omega, by omega⟩ (by show ts.length - (i + 1) < ts.length - i; omega) (he := ?_)
      dsimp only [List.cons_append, List.nil_append]
      rw [e2]
      exact subEnv.cons rfl rfl (subEnv.cons rfl rfl (subEnv.cons rfl rfl (subEnv.cons rfl rfl (subEnv.cons rfl rfl subEnv.nil))))
  · obtain rfl : i = ts.length := by omega
    rw [List.take_length] at h2 ⊢
    apply Wp.seq
    apply Wp.region
    refine WpL.v (V.cmp) ?_
    apply WpL.nil
    apply Out.seqN
    apply Wp.seq
    refine Wp.c (fun hgc0 => ?_) (fun hgc0 => ?_)
    (try simp only [decide_eq_true_eq, decide_eq_false_iff_not, Bool.not_eq_true', Bool.not_eq_false', Bool.not_eq_true, Bool.not_eq_false, not_true_eq_false, not_false_eq_true, reduceCtorEq] at hgc0)
    (exfalso; omega)
    (try simp only [decide_eq_true_eq, decide_eq_false_iff_not, Bool.not_eq_true', Bool.not_eq_false', Bool.not_eq_true, Bool.not_eq_false, not_true_eq_false, not_false_eq_true, reduceCtorEq] at hgc0)
    apply Wp.exit
    apply Out.seqE
    apply Out.seqE
    apply Out.blockE
    apply Out.seqN
    apply Wp.seq
    apply Wp.region
    refine WpL.v (V.mv) ?_
    refine WpL.v (V.lenL tb) ?_
    refine WpL.v (V.cmp) ?_
    refine WpL.v (V.as) ?_
    apply WpL.nil
    apply Out.seqN
    apply Wp.ret
    refine Out.f1 rfl ResIs.t ⟨?_, rfl⟩
    unfold greatB
    rw [decide_eq_false (show ¬ 2048 < totL ts by omega), Bool.false_or]
    congr 1
    exact decide_eq_decide.2 (by omega)
theorem great_no {ts : List (List UInt8)} (h : greatB ts = false) : ts.length ≤ 20 ∧ ∀ t, t ∈ ts → t.length ≤ 2048 := by
  simp only [greatB, Bool.or_eq_false_iff, decide_eq_false_iff_not] at h
  exact ⟨by omega, fun t ht => by have := totL_le ht; omega⟩
theorem seal_rowV (v : Go.Value) {ts : List (List UInt8)} (h : ∀ t, t ∈ ts → t.length ≤ 16384) (hn : ts.length ≤ 45) : Ct Try.prog 67 [v] [rows strc v 9 1 ts] (fun r σ' => r = S (rowB ts) ∧ σ' = [rows strc v 9 1 ts]) := Ct.of fun w h0 => by
  rcases rowsForm (List.mem_singleton.2 rfl) w (H0.start h0) with ⟨rfl, rfl⟩ | ⟨g, cap, rfl, _⟩
  · exact (seal_row (rows strc (.slice none 0 0) 9 1 []) none 0 0 0 [] Rd.nil (by simp) (by simp)).get w h0
  · exact (seal_row _ _ cap _ _ ts (Rd.rows (f := strc) (g := g) (E := 9) (cap := cap) (fun _ => rfl) (by omega)) h hn).get w h0
/-- A text in a slice of the caller's. -/
abbrev StrT.c : List UInt8 → List Go.Value := strc
def StrT.wf (x : List UInt8) : Prop := x.length ≤ 140737488351232
theorem StrT.leaves : leaves Try.prog 40 9 = some [.s] := by kernel_rfl
theorem StrT.fit {cs : List Go.Value} (h0 : Fits [.s] cs) : ∃ x : List UInt8, cs = StrT.c x ∧ StrT.wf x := by
  obtain ⟨_, _, rfl, ⟨n0, rfl, w0⟩, h1⟩ := Fits.cons h0
  obtain rfl := Fits.nil h1
  exact ⟨n0, rfl, w0⟩
end Go.Proofs.Ytgbflapcadlelaa
