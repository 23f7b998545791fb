/-
  Layer 6: a sealed text of which up to four bytes in a row were turned isn't opened.
-/
import Derived.Test.YtgbflapcadlelaaRowB
import Derived.Test.YtgbflapcadlelaaBurst
namespace Go.Proofs.Ytgbflapcadlelaa
open Go.HL
set_option linter.unusedSimpArgs false
set_option linter.unusedVariables false
def byteD (d i : Nat) : UInt8 := UInt8.ofNat (d / 2 ^ (8 * i))
/-- Bytes turned, from the i-th byte of d on. -/
def xr (d : Nat) : Nat → List UInt8 → List UInt8
  | _, [] => []
  | i, x :: l => (x ^^^ byteD d i) :: xr d (i + 1) l
theorem xr_len (d : Nat) : ∀ (l : List UInt8) (i : Nat), (xr d i l).length = l.length
  | [], _ => rfl
  | x :: l, i => by rw [xr, List.length_cons, List.length_cons, xr_len d l]
theorem xr_snoc (d : Nat) (c : UInt8) : ∀ (l : List UInt8) (i : Nat), xr d i (l ++ [c]) = xr d i l ++ [c ^^^ byteD d (i + l.length)]
  | [], i => rfl
  | x :: l, i => by
    rw [List.cons_append, xr, xr, xr_snoc d c l, List.length_cons, show i + 1 + l.length = i + (l.length + 1) by omega]
    rfl
theorem xor_eq_self {x b : UInt8} (h : x ^^^ b = x) : b = 0 := by
  have h1 : x.toNat ^^^ b.toNat = x.toNat := by rw [← UInt8.toNat_xor, h]
  have h2 : b.toNat = 0 := by
    have : x.toNat ^^^ (x.toNat ^^^ b.toNat) = x.toNat ^^^ x.toNat := by rw [h1]
    rwa [← Nat.xor_assoc, Nat.xor_self, Nat.zero_xor] at this
  exact UInt8.toNat_inj.1 (by simpa using h2)
theorem xr_ne (d : Nat) : ∀ (l : List UInt8) (i j : Nat), j < l.length → byteD d (i + j) ≠ 0 → xr d i l ≠ l
  | [], _, _, h, _, _ => by simp at h
  | x :: l, i, 0, _, hb, h => by
    rw [xr, List.cons.injEq] at h
    exact hb (xor_eq_self h.1)
  | x :: l, i, j + 1, hj, hb, h => by
    rw [xr, List.cons.injEq] at h
    exact xr_ne d l (i + 1) j (by simpa using hj) (by rwa [show i + 1 + j = i + (j + 1) by omega]) h.2
def turnZ (l : List UInt8) (at_ d : Nat) : Nat → List UInt8
  | 0 => l
  | i + 1 => (turnZ l at_ d i).set (at_ + i) ((turnZ l at_ d i).getD (at_ + i) 0 ^^^ byteD d i)
theorem turnZ_eq (l : List UInt8) (at_ d : Nat) : ∀ j, at_ + j ≤ l.length → turnZ l at_ d j = l.take at_ ++ xr d 0 ((l.drop at_).take j) ++ l.drop (at_ + j)
  | 0, h => by simp [turnZ, xr]
  | j + 1, h => by
    have ih := turnZ_eq l at_ d j (by omega)
    have hj : at_ + j < l.length := by omega
    obtain ⟨c, hc⟩ : ∃ c, l[at_ + j]? = some c := ⟨_, List.getElem?_eq_getElem hj⟩
    have hd : l.drop (at_ + j) = c :: l.drop (at_ + (j + 1)) := by
      rw [List.drop_eq_getElem_cons hj]
      congr 1
      have := (List.getElem?_eq_some_iff.1 hc).2
      exact this
    have ht : (l.drop at_).take (j + 1) = (l.drop at_).take j ++ [c] := by
      rw [List.take_add_one, List.getElem?_drop, hc]; rfl
    have hl1 : (l.take at_ ++ xr d 0 ((l.drop at_).take j)).length = at_ + j := by
      rw [List.length_append, xr_len, List.length_take, List.length_take, List.length_drop]; omega
    have hl2 : ((l.drop at_).take j).length = j := by rw [List.length_take, List.length_drop]; omega
    rw [turnZ, ih, hd, ht, xr_snoc, Nat.zero_add, hl2]
    have hg : (l.take at_ ++ xr d 0 ((l.drop at_).take j) ++ c :: l.drop (at_ + (j + 1))).getD (at_ + j) 0 = c := by
      rw [List.getD_eq_getElem?_getD, List.getElem?_append_right (by omega), hl1, Nat.sub_self]; rfl
    rw [hg, List.set_append_right _ _ (by omega), hl1, Nat.sub_self, List.set_cons_zero]
    simp only [List.append_assoc, List.cons_append, List.nil_append]
theorem turnZ_len (l : List UInt8) (at_ d : Nat) : ∀ j, (turnZ l at_ d j).length = l.length
  | 0 => rfl
  | j + 1 => by rw [turnZ, List.length_set, turnZ_len l at_ d j]
def hitB (d : Nat) : Nat → Bool
  | 0 => false
  | i + 1 => hitB d i || (byteD d i != 0)
theorem hitB_some (d : Nat) : ∀ j, hitB d j = true → ∃ i, i < j ∧ byteD d i ≠ 0
  | j + 1, h => by
    rw [hitB, Bool.or_eq_true] at h
    rcases h with h | h
    · obtain ⟨i, hi, h⟩ := hitB_some d j h
      exact ⟨i, by omega, h⟩
    · exact ⟨j, by omega, by simpa using h⟩
theorem fourB_inj {a b : Nat} (ha : a < 4294967296) (hb : b < 4294967296) (h : fourB a = fourB b) : a = b := by
  simp only [fourB, List.cons.injEq, and_true] at h
  obtain ⟨h0, h1, h2, h3⟩ := h
  have e : ∀ {x y : Nat}, UInt8.ofNat x = UInt8.ofNat y → x % 256 = y % 256 := fun {x y} h => by
    have := congrArg UInt8.toNat h
    simpa using this
  have := e h0; have := e h1; have := e h2; have := e h3
  omega
theorem openR_bad {n : Nat} (hn : n ≤ 16384) {f t : List UInt8} (hf : f.length = 4) (ht : t.length = n) (hne : fourB (sumS (natI (n : Int) ++ t)) ≠ f) : openR (natI (n : Int) ++ (f ++ t)) = ([], 0) := by
  have hg := natG_natB n 0 0 (f ++ t) (by
    have : (128 : Nat) ^ (9 - 0) = 9223372036854775808 := by decide
    omega) (.inr rfl)
  have hd : (f ++ t).drop 4 = t := List.drop_left' hf
  have htk : (f ++ t).take 4 = f := List.take_left' hf
  have e : natI (n : Int) = natB n := by rw [natI, Int.toNat_natCast]
  unfold openR
  rw [e, hg]
  simp only [Nat.zero_add, Nat.pow_zero, Nat.mul_one, hd, htk]
  rw [if_neg (by omega), if_neg (by rw [List.length_append]; omega), List.take_of_length_le (by omega)]
  rw [if_neg hne]
/-- A sealed text of which some bytes in a row behind the length were turned, all in the sum or all in the text. -/
theorem openR_turn {t : List UInt8} (ht : t.length ≤ 16384) (at_ d j : Nat) (h0 : (natI (t.length : Int)).length ≤ at_) (hj : at_ + j ≤ (sealB t).length) (h4 : j ≤ 4) (hh : hitB d j = true)
    (hab : at_ + j ≤ (natI (t.length : Int)).length + 4 ∨ (natI (t.length : Int)).length + 4 ≤ at_) : openR (turnZ (sealB t) at_ d j) = ([], 0) := by
  rw [turnZ_eq _ _ _ _ hj]
  have hs : sealB t = natI (t.length : Int) ++ (fourB (sumS (natI (t.length : Int) ++ t)) ++ t) := by
    rw [sealB, if_neg (by omega), List.append_assoc]
  have hF : (fourB (sumS (natI (t.length : Int) ++ t))).length = 4 := rfl
  obtain ⟨a, rfl⟩ : ∃ a, at_ = (natI (t.length : Int)).length + a := ⟨at_ - (natI (t.length : Int)).length, by omega⟩
  have hMl : (fourB (sumS (natI (t.length : Int) ++ t)) ++ t).length = 4 + t.length := by rw [List.length_append, hF]
  have hMd : (fourB (sumS (natI (t.length : Int) ++ t)) ++ t).drop 4 = t := List.drop_left' hF
  have hMt : (fourB (sumS (natI (t.length : Int) ++ t)) ++ t).take 4 = fourB (sumS (natI (t.length : Int) ++ t)) := List.take_left' hF
  rw [hs, List.length_append, hMl] at hj
  rw [hs, List.take_length_add_append, List.drop_length_add_append, Nat.add_assoc, List.drop_length_add_append]
  generalize hM : fourB (sumS (natI (t.length : Int) ++ t)) ++ t = M at *
  have hYl : ((M.drop a).take j).length = j := by rw [List.length_take, List.length_drop]; omega
  have hXl : (xr d 0 ((M.drop a).take j)).length = j := by rw [xr_len, hYl]
  have hne : xr d 0 ((M.drop a).take j) ≠ (M.drop a).take j := by
    obtain ⟨i, hi, hb⟩ := hitB_some d j hh
    exact xr_ne d _ 0 i (by omega) (by rwa [Nat.zero_add])
  have hMs : M = M.take a ++ (M.drop a).take j ++ M.drop (a + j) := by
    rw [List.append_assoc, ← List.drop_drop, List.take_append_drop, List.take_append_drop]
  have hAl : (M.take a).length = a := by rw [List.length_take]; omega
  generalize hX : xr d 0 ((M.drop a).take j) = X at *
  have hM'l : (M.take a ++ X ++ M.drop (a + j)).length = 4 + t.length := by
    rw [List.length_append, List.length_append, hAl, hXl, List.length_drop]; omega
  have hM's : M.take a ++ X ++ M.drop (a + j) = (M.take a ++ X ++ M.drop (a + j)).take 4 ++ (M.take a ++ X ++ M.drop (a + j)).drop 4 := (List.take_append_drop _ _).symm
  rw [List.append_assoc (natI _), List.append_assoc (natI _), hM's]
  refine openR_bad ht (by rw [List.length_take]; omega) (by rw [List.length_drop]; omega) ?_
  rcases hab with hab | hab
  · have hd4 : (M.take a ++ X ++ M.drop (a + j)).drop 4 = M.drop 4 := by
      rw [List.drop_append, List.drop_of_length_le (by rw [List.length_append]; omega), List.nil_append, List.drop_drop, List.length_append, hAl, hXl]
      congr 1; omega
    rw [hd4, hMd, ← hMt]
    intro h
    have h5 : M = M.take a ++ X ++ M.drop (a + j) := by
      rw [hM's, hd4, ← h, List.take_append_drop]
    have h6 := List.append_cancel_right (hMs.symm.trans h5)
    exact hne (List.append_cancel_left h6).symm
  · have ht4 : (M.take a ++ X ++ M.drop (a + j)).take 4 = M.take 4 := by
      rw [List.append_assoc, List.take_append_of_le_length (by omega), List.take_take]
      congr 1; omega
    have hd4 : (M.take a ++ X ++ M.drop (a + j)).drop 4 = (M.take a).drop 4 ++ X ++ M.drop (a + j) := by
      rw [List.append_assoc, List.drop_append_of_le_length (by omega), List.append_assoc]
    have hd5 : t = (M.take a).drop 4 ++ (M.drop a).take j ++ M.drop (a + j) := by
      rw [← hMd]
      conv => lhs; rw [hMs]
      rw [List.append_assoc, List.drop_append_of_le_length (by omega), List.append_assoc]
    rw [ht4, hd4, hMt]
    intro h
    have h1 := fourB_inj (sumS_lt _) (sumS_lt _) h
    have hb := sumF_burst (c := 4294967295) (by decide) (natI (t.length : Int) ++ (M.take a).drop 4) (M.drop (a + j)) X ((M.drop a).take j) (by rw [hXl, hYl]) (by omega) hne
    apply hb
    have e1 : natI (t.length : Int) ++ (M.take a).drop 4 ++ (M.drop a).take j ++ M.drop (a + j) = natI (t.length : Int) ++ t := by
      have := congrArg (fun z => natI (t.length : Int) ++ z) hd5
      simpa only [List.append_assoc] using this.symm
    rw [e1, List.append_assoc, List.append_assoc]
    have l1 := sumF_lt (c := 4294967295) (by decide) (natI (t.length : Int) ++ ((M.take a).drop 4 ++ X ++ M.drop (a + j)))
    have l2 := sumF_lt (c := 4294967295) (by decide) (natI (t.length : Int) ++ t)
    unfold sumS at h1
    simp only [List.append_assoc] at h1 l1 ⊢
    omega
end Go.Proofs.Ytgbflapcadlelaa
