/-
  Layer 1: the document's number that bytes begin with; items, put and taken.
-/
import Derived.Test.YtienlncaffliaaaOct
namespace Go.Proofs.Ytienlncaffliaaa
open Go.HL
set_option linter.unusedSimpArgs false
set_option linter.unusedVariables false
set_option maxRecDepth 8000
def valB : List UInt8 → Nat
  | [] => 0
  | x :: xs => x.toNat % 128 + 128 * valB xs
theorem valB_snoc (p : List UInt8) (x : UInt8) : valB (p ++ [x]) = valB p + x.toNat % 128 * 128 ^ p.length := by
  induction p with
  | nil => simp [valB]
  | cons y p ih =>
    simp only [List.cons_append, valB, ih, List.length_cons, Nat.pow_succ]
    rw [Nat.mul_add, Nat.add_assoc]
    congr 2
    rw [← Nat.mul_assoc, Nat.mul_comm 128, Nat.mul_assoc, Nat.mul_comm 128]
theorem natB_valB (p : List UInt8) (x : UInt8) (hp : ∀ y, y ∈ p → 128 ≤ y.toNat) (hx : x.toNat < 128) (h0 : x.toNat ≠ 0 ∨ p = []) : natB (valB (p ++ [x])) = p ++ [x] ∧ (x.toNat ≠ 0 → 1 ≤ valB (p ++ [x])) := by
  induction p with
  | nil =>
    have e : valB ([] ++ [x]) = x.toNat := by simp [valB]; omega
    rw [e, natB_lo hx]
    exact ⟨by simp, by omega⟩
  | cons y p ih =>
    have hx0 : x.toNat ≠ 0 := by
      rcases h0 with h | h
      · exact h
      · cases h
    obtain ⟨h1, h2⟩ := ih (fun z hz => hp z (by simp [hz])) (.inl hx0)
    have hy := hp y (by simp)
    have hyl := y.toNat_lt
    have h3 := h2 hx0
    have e : valB (y :: p ++ [x]) = y.toNat % 128 + 128 * valB (p ++ [x]) := rfl
    refine ⟨?_, fun _ => by rw [e]; omega⟩
    rw [e, natB_hi (by omega), show (y.toNat % 128 + 128 * valB (p ++ [x])) / 128 = valB (p ++ [x]) by omega, h1]
    rw [show 128 + (y.toNat % 128 + 128 * valB (p ++ [x])) % 128 = y.toNat by omega]
    simp
theorem natB_last (n : Nat) : ∀ (q : List UInt8) (x : UInt8), natB n = q ++ [x] → x.toNat = 0 → q = [] := by
  induction n using Nat.strongRecOn with
  | _ n ih =>
    intro q x h hx
    by_cases hn : n < 128
    · rw [natB_lo hn] at h
      cases q with
      | nil => rfl
      | cons y q => simp at h
    · rw [natB_hi hn] at h
      cases q with
      | nil => rfl
      | cons y q =>
        simp only [List.cons_append, List.cons.injEq] at h
        have hq := ih (n / 128) (by omega) q x h.2 hx
        subst hq
        have h3 : natB (n / 128) = [x] := h.2
        exfalso
        by_cases h4 : n / 128 < 128
        · rw [natB_lo h4] at h3
          have : x = UInt8.ofNat (n / 128) := by simpa using h3.symm
          rw [this] at hx
          simp at hx
          omega
        · rw [natB_hi h4] at h3
          have := natB_pos (n / 128 / 128)
          have h2 := congrArg List.length h3
          simp only [List.length_cons, List.length_nil] at h2
          omega
/-- The number with which bytes begin, and how many they are. -/
def takenR (s : List UInt8) (most : Int) : Int × Int :=
  match natG s 0 0 with
  | some (v, rest) => if most < (v : Int) then (0, 0) else ((v : Int), ((s.length - rest.length : Nat) : Int))
  | none => (0, 0)
theorem w128 {i : Nat} (h : i ≤ 8) : IntKind.i64.wrap ((128 ^ i : Nat) : Int) = ((128 ^ i : Nat) : Int) := by
  have := pow128_le h
  exact i64wrap _ (by omega)
theorem mulW (x : UInt8) {i : Nat} (h : i ≤ 8) : ariI .mul .i64 ((x.toNat : Int) % 128) (IntKind.i64.wrap ((128 ^ i : Nat) : Int)) = some ((x.toNat % 128 * 128 ^ i : Nat) : Int) := by
  have h1 := pow128_le h
  have h2 := Nat.mul_le_mul (show x.toNat % 128 ≤ 127 by omega) h1
  rw [w128 h]
  simp only [ariI, Option.some.injEq]
  have e : ((x.toNat : Int) % 128) * ((128 ^ i : Nat) : Int) = ((x.toNat % 128 * 128 ^ i : Nat) : Int) := by simp
  rw [e, i64wrap _ (by omega)]
theorem mul128 {i : Nat} (h : i ≤ 8) : ariI .mul .i64 (IntKind.i64.wrap ((128 ^ i : Nat) : Int)) 128 = some (IntKind.i64.wrap ((128 ^ (i + 1) : Nat) : Int)) := by
  rw [w128 h]
  simp only [ariI, Option.some.injEq]
  congr 1
theorem addW {a y : Nat} (h : a + y < 2 ^ 63) : ariI .add .i64 (a : Int) (y : Int) = some ((a + y : Nat) : Int) := by
  simp only [ariI, Option.some.injEq]
  have e : (a : Int) + (y : Int) = ((a + y : Nat) : Int) := by simp
  rw [e, i64wrap _ h]
theorem taken (s : List UInt8) (most : Int) (hs : s.length ≤ 9223372036854775807) : Fun Try.prog 41 [S s, I most] (.tuple #[I (takenR s most).1, I (takenR s most).2]) := by
  refine Ct.enter Try.func41 rfl rfl fun W => ?_
  apply Wp.seq
  apply Wp.region
  refine WpL.v (V.as) ?_
  refine WpL.v (V.as) ?_
  apply WpL.nil
  apply Out.seqN
  apply Wp.seq
  apply Wp.region
  refine WpL.v (V.as) ?_
  apply WpL.nil
  apply Out.seqN
  apply Wp.seq
  apply Wp.region
  refine WpL.v (V.as) ?_
  apply WpL.nil
  apply Out.seqN
  apply Wp.seq
  apply Wp.seq
  apply Wp.region
  refine WpL.v (V.as) ?_
  apply WpL.nil
  apply Out.seqN
  apply Wp.block
  refine Wp.lp [0, 1] (fun i : Nat => i ≤ 9 ∧ i ≤ s.length ∧ (∀ y, y ∈ s.take i → 128 ≤ y.toNat) ∧ natG s 0 0 = natG (s.drop i) i (valB (s.take i)) ∧ valB (s.take i) < 128 ^ i) (fun i => [(6, I (valB (s.take i) : Int)), (7, I (IntKind.i64.wrap ((128 ^ i : Nat) : Int))), (8, I (i : Int))]) (fun i => []) (fun i => 10 - i) 0 ⟨by omega, by omega, by simp, by simp [valB], by simp [valB]⟩ ?_
  rintro i ⟨hi, hil, hp, hg, hv⟩ K hK
  dsimp only [List.cons_append, List.nil_append]
  by_cases h9 : i < s.length ∧ i < 9
  · obtain ⟨hlt, h9⟩ := h9
    obtain ⟨x, hx⟩ : ∃ x, s[i]? = some x := ⟨_, List.getElem?_eq_getElem hlt⟩
    have hxl := x.toNat_lt
    have h1 := pow128_le (show i ≤ 8 by omega)
    have h2 := Nat.mul_le_mul (show x.toNat % 128 ≤ 127 by omega) h1
    have hB : valB (s.take i) + x.toNat % 128 * 128 ^ i < 2 ^ 63 := by omega
    have ht : s.take (i + 1) = s.take i ++ [x] := by rw [List.take_add_one, hx]; rfl
    have hd : s.drop i = x :: s.drop (i + 1) := by rw [List.drop_eq_getElem_cons hlt]; congr 1; simpa [hlt] using hx
    have htl : (s.take i).length = i := by rw [List.length_take]; omega
    have hvs : valB (s.take (i + 1)) = valB (s.take i) + x.toNat % 128 * 128 ^ i := by rw [ht, valB_snoc, htl]
    have hg2 : natG s 0 0 = if x.toNat < 128 then (if x.toNat = 0 ∧ 0 < i then none else some (valB (s.take i) + x.toNat % 128 * 128 ^ i, s.drop (i + 1))) else natG (s.drop (i + 1)) (i + 1) (valB (s.take i) + x.toNat % 128 * 128 ^ i) := by
      rw [hg, hd]
      simp only [natG]
      rw [if_neg (by omega)]
    have hcan : x.toNat < 128 → (natI ((valB (s.take i) + x.toNat % 128 * 128 ^ i : Nat) : Int) = s.take (i + 1) ↔ ¬ (x.toNat = 0 ∧ 0 < i)) := fun hx8 => by
      unfold natI
      rw [Int.toNat_natCast, ← hvs, ht]
      constructor
      · intro h ⟨h0, hi0⟩
        have := natB_last _ _ _ h h0
        rw [this] at htl; simp at htl; omega
      · intro h
        refine (natB_valB _ x hp hx8 ?_).1
        by_cases h0 : x.toNat = 0
        · right
          have : i = 0 := by omega
          subst this; rfl
        · exact .inl h0
    apply Wp.seq
    apply Wp.seq
    apply Wp.region
    refine WpL.v (V.mv) ?_
    refine WpL.v (V.mv) ?_
    refine WpL.v (V.lenS tb) ?_
    refine WpL.v (V.cmp) ?_
    refine WpL.v (V.mv) ?_
    refine WpL.pt (fun hb0 => ?_) (fun hb0 => ?_)
    (try simp only [decide_eq_true_eq, decide_eq_false_iff_not, Bool.not_eq_true', Bool.not_eq_false', Bool.not_eq_true, Bool.not_eq_false, not_true_eq_false, not_false_eq_true, reduceCtorEq] at hb0)
    refine WpL.v (V.mv) ?_
    refine WpL.v (V.cmp) ?_
    refine WpL.v (V.pT) ?_
    apply WpL.nil
    apply Out.seqN
    refine Wp.c (fun hb1 => ?_) (fun hb1 => ?_)
    (try simp only [decide_eq_true_eq, decide_eq_false_iff_not, Bool.not_eq_true', Bool.not_eq_false', Bool.not_eq_true, Bool.not_eq_false, not_true_eq_false, not_false_eq_true, reduceCtorEq] at hb1)
    apply Wp.skip
    apply Out.seqN
    apply Wp.seq
    apply Wp.block
    apply Wp.seq
    apply Wp.region
    refine WpL.v (V.mv) ?_
    refine WpL.v (V.mv) ?_
    refine WpL.v (V.mv) ?_
    refine WpL.v (V.ixN tb rfl rfl (by assumption)) ?_
    refine WpL.v (V.cvE tb rfl rfl (i64wrap _ (by omega))) ?_
    refine WpL.v (V.rem) ?_
    refine WpL.v (V.mv) ?_
    refine WpL.v (V.ariE rfl rfl (mulW x (by omega))) ?_
    refine WpL.v (V.ariE rfl rfl (addW hB)) ?_
    refine WpL.v (V.as) ?_
    apply WpL.nil
    apply Out.seqN
    apply Wp.seq
    apply Wp.seq
    apply Wp.region
    refine WpL.v (V.mv) ?_
    refine WpL.v (V.mv) ?_
    refine WpL.v (V.ixN tb rfl rfl (by assumption)) ?_
    refine WpL.v (V.cmp) ?_
    apply WpL.nil
    apply Out.seqN
    refine Wp.c (fun hb2 => ?_) (fun hb2 => ?_)
    (try simp only [decide_eq_true_eq, decide_eq_false_iff_not, Bool.not_eq_true', Bool.not_eq_false', Bool.not_eq_true, Bool.not_eq_false, not_true_eq_false, not_false_eq_true, reduceCtorEq] at hb2)
    apply Wp.seq
    apply Wp.seq
    refine Wp.dG [] ?_ List.Sublist.slnil List.Sublist.slnil
    refine WpA.tF 0 rfl (V.mv) ?_
    refine WpA.tF 1 rfl (V.mv) ?_
    refine WpA.tF 2 rfl (V.cmp) ?_
    refine WpA.tF 3 rfl (V.mv) ?_
    refine WpA.pt 35 (fun hb3 => ?_) (fun hb3 => ?_)
    (try simp only [decide_eq_true_eq, decide_eq_false_iff_not, Bool.not_eq_true', Bool.not_eq_false', Bool.not_eq_true, Bool.not_eq_false, not_true_eq_false, not_false_eq_true, reduceCtorEq] at hb3)
    refine WpA.s 4 rfl ?_
    refine WpA.s 5 rfl ?_
    refine WpA.s 6 rfl ?_
    refine WpA.s 7 rfl ?_
    refine WpA.s 8 rfl ?_
    refine WpA.s 9 rfl ?_
    refine WpA.s 10 rfl ?_
    refine WpA.tF 11 rfl (V.pT) ?_
    refine WpA.ou ?_
    apply Out.seqN
    refine Wp.cT ?_
    apply Wp.seq
    apply Wp.region
    refine WpL.v (V.as) ?_
    refine WpL.v (V.as) ?_
    apply WpL.nil
    apply Out.seqN
    apply Wp.ret
    apply Out.seqR
    apply Out.seqR
    apply Out.blockR
    apply Out.seqR
    apply Out.seqR
    apply Out.blockR
    apply Out.seqR
    refine Out.f2 rfl ResIs.t ResIs.t ⟨?_, rfl⟩
    rotate_left
    (try simp only [decide_eq_true_eq, decide_eq_false_iff_not, Bool.not_eq_true', Bool.not_eq_false', Bool.not_eq_true, Bool.not_eq_false, not_true_eq_false, not_false_eq_true, reduceCtorEq] at hb3)
    refine WpA.tF 4 rfl (V.mv) ?_
    refine WpA.tF 6 rfl (V.mv) ?_
    refine WpA.tF 7 rfl (V.mv) ?_
    refine WpA.tF 8 rfl (V.add) ?_
    refine WpA.tF 9 rfl (V.slHi tb) ?_
    refine WpA.oS 5 rfl (Op1.fn rfl (refNat _ ?_) ⟨?_, ?_, ?_⟩)
    (first | with_reducible assumption | omega | (simp only [List.length_append, List.length_cons, List.length_nil, List.length_map] at *; omega) | (focus (simp; done)))
    exact holdT
    exact holdT
    refine WpA.tF 10 rfl (V.cmpS) ?_
    refine WpA.tF 11 rfl (V.pF) ?_
    refine WpA.ou ?_
    apply Out.seqN
    refine Wp.c (fun hb4 => ?_) (fun hb4 => ?_)
    (try simp only [decide_eq_true_eq, decide_eq_false_iff_not, Bool.not_eq_true', Bool.not_eq_false', Bool.not_eq_true, Bool.not_eq_false, not_true_eq_false, not_false_eq_true, reduceCtorEq] at hb4)
    apply Wp.seq
    apply Wp.region
    refine WpL.v (V.as) ?_
    refine WpL.v (V.as) ?_
    apply WpL.nil
    apply Out.seqN
    apply Wp.ret
    apply Out.seqR
    apply Out.seqR
    apply Out.blockR
    apply Out.seqR
    apply Out.seqR
    apply Out.blockR
    apply Out.seqR
    refine Out.f2 rfl ResIs.t ResIs.t ⟨?_, rfl⟩
    rotate_left
    (try simp only [decide_eq_true_eq, decide_eq_false_iff_not, Bool.not_eq_true', Bool.not_eq_false', Bool.not_eq_true, Bool.not_eq_false, not_true_eq_false, not_false_eq_true, reduceCtorEq] at hb4)
    apply Wp.skip
    apply Out.seqN
    apply Wp.seq
    apply Wp.region
    refine WpL.v (V.mv) ?_
    refine WpL.v (V.mv) ?_
    refine WpL.v (V.add) ?_
    refine WpL.v (V.as) ?_
    refine WpL.v (V.as) ?_
    apply WpL.nil
    apply Out.seqN
    apply Wp.ret
    apply Out.seqR
    apply Out.blockR
    apply Out.seqR
    apply Out.seqR
    apply Out.blockR
    apply Out.seqR
    refine Out.f2 rfl ResIs.t ResIs.t ⟨?_, rfl⟩
    rotate_left
    (try simp only [decide_eq_true_eq, decide_eq_false_iff_not, Bool.not_eq_true', Bool.not_eq_false', Bool.not_eq_true, Bool.not_eq_false, not_true_eq_false, not_false_eq_true, reduceCtorEq] at hb2)
    apply Wp.skip
    apply Out.seqN
    apply Wp.region
    refine WpL.v (V.mv) ?_
    refine WpL.v (V.ariE rfl rfl (mul128 (by omega))) ?_
    refine WpL.v (V.as) ?_
    apply WpL.nil
    apply Out.blockN
    apply Out.seqN
    apply Wp.region
    refine WpL.v (V.mv) ?_
    refine WpL.v (V.add) ?_
    refine WpL.v (V.as) ?_
    apply WpL.nil
    rotate_left
    (try simp only [decide_eq_true_eq, decide_eq_false_iff_not, Bool.not_eq_true', Bool.not_eq_false', Bool.not_eq_true, Bool.not_eq_false, not_true_eq_false, not_false_eq_true, reduceCtorEq] at hb1)
    (exfalso; omega)
    (try simp only [decide_eq_true_eq, decide_eq_false_iff_not, Bool.not_eq_true', Bool.not_eq_false', Bool.not_eq_true, Bool.not_eq_false, not_true_eq_false, not_false_eq_true, reduceCtorEq] at hb0)
    (exfalso; omega)
    · unfold takenR
      rw [hg2, if_pos (by omega)]
      split
      · rename_i h; split at h
        · cases h
        · simp only [Option.some.injEq, Prod.mk.injEq] at h
          rw [← h.1, if_pos (by assumption)]
      · rfl
    · have hc : x.toNat = 0 ∧ 0 < i := by
        by_cases hz : x.toNat = 0 ∧ 0 < i
        · exact hz
        · exact absurd ((hcan (by omega)).2 hz) (by assumption)
      unfold takenR
      rw [hg2, if_pos (by omega), if_pos (by omega)]
    · have hc := (hcan (by omega)).1 (by assumption)
      unfold takenR
      rw [hg2, if_pos (by omega), if_neg hc]
      simp only
      rw [if_neg (by assumption)]
      have : s.length - (s.drop (i + 1)).length = i + 1 := by rw [List.length_drop]; omega
      rw [this]
      rfl
    · refine Out.ag hK (i + 1) ⟨by omega, by omega, ?_, ?_, ?_⟩ (by omega) (he := ?_)
      · intro y hy
        rw [ht] at hy
        rcases List.mem_append.1 hy with hy | hy
        · exact hp y hy
        · have : y = x := by simpa using hy
          subst this; omega
      · rw [hg2, if_neg (by omega), hvs]
      · rw [hvs, Nat.pow_succ]
        have h3 := Nat.mul_le_mul_right (128 ^ i) (show x.toNat % 128 + 1 ≤ 128 by omega)
        rw [Nat.add_mul] at h3
        omega
      · dsimp only [List.cons_append, List.nil_append]
        rw [hvs]
        exact subEnv.cons rfl rfl (subEnv.cons rfl rfl (subEnv.cons rfl rfl (subEnv.cons rfl rfl (subEnv.cons rfl rfl subEnv.nil))))
  · have hno : takenR s most = (0, 0) := by
      unfold takenR
      rw [hg]
      by_cases h1 : i < s.length
      · rw [List.drop_eq_getElem_cons h1]
        simp only [natG]
        rw [if_pos (by omega)]
      · rw [List.drop_of_length_le (by omega)]
        rfl
    apply Wp.seq
    apply Wp.seq
    apply Wp.region
    refine WpL.v (V.mv) ?_
    refine WpL.v (V.mv) ?_
    refine WpL.v (V.lenS tb) ?_
    refine WpL.v (V.cmp) ?_
    refine WpL.v (V.mv) ?_
    refine WpL.pt (fun hc0 => ?_) (fun hc0 => ?_)
    (try simp only [decide_eq_true_eq, decide_eq_false_iff_not, Bool.not_eq_true', Bool.not_eq_false', Bool.not_eq_true, Bool.not_eq_false, not_true_eq_false, not_false_eq_true, reduceCtorEq] at hc0)
    refine WpL.v (V.mv) ?_
    refine WpL.v (V.cmp) ?_
    refine WpL.v (V.pT) ?_
    apply WpL.nil
    apply Out.seqN
    refine Wp.c (fun hc1 => ?_) (fun hc1 => ?_)
    (try simp only [decide_eq_true_eq, decide_eq_false_iff_not, Bool.not_eq_true', Bool.not_eq_false', Bool.not_eq_true, Bool.not_eq_false, not_true_eq_false, not_false_eq_true, reduceCtorEq] at hc1)
    (exfalso; omega)
    (try simp only [decide_eq_true_eq, decide_eq_false_iff_not, Bool.not_eq_true', Bool.not_eq_false', Bool.not_eq_true, Bool.not_eq_false, not_true_eq_false, not_false_eq_true, reduceCtorEq] at hc1)
    apply Wp.exit
    apply Out.seqE
    apply Out.seqE
    apply Out.blockE
    apply Out.seqN
    apply Wp.seq
    apply Wp.region
    refine WpL.v (V.as) ?_
    refine WpL.v (V.as) ?_
    apply WpL.nil
    apply Out.seqN
    apply Wp.ret
    refine Out.f2 rfl ResIs.t ResIs.t ⟨?_, rfl⟩
    rotate_left
    (try simp only [decide_eq_true_eq, decide_eq_false_iff_not, Bool.not_eq_true', Bool.not_eq_false', Bool.not_eq_true, Bool.not_eq_false, not_true_eq_false, not_false_eq_true, reduceCtorEq] at hc0)
    refine WpL.sk ?_
    refine WpL.sk ?_
    refine WpL.v (V.pF) ?_
    apply WpL.nil
    apply Out.seqN
    refine Wp.cF ?_
    apply Wp.exit
    apply Out.seqE
    apply Out.seqE
    apply Out.blockE
    apply Out.seqN
    apply Wp.seq
    apply Wp.region
    refine WpL.v (V.as) ?_
    refine WpL.v (V.as) ?_
    apply WpL.nil
    apply Out.seqN
    apply Wp.ret
    refine Out.f2 rfl ResIs.t ResIs.t ⟨?_, rfl⟩
    rotate_left
    all_goals rw [hno]
/-! ### Items -/
abbrev Item := Caucuslaw01Item
def sumT (l : List Item) : Nat := (l.map (·.T.length)).sum
def itemB (x : Item) : List UInt8 := if x.Kind = 0 then natI x.N else if x.Kind = 1 then natI (if x.Yes then 1 else 0) else if x.Kind = 2 then natI x.T.length ++ x.T else if x.Kind = 3 then x.T else []
def greatI (l : List Item) : Bool := decide (4096 < sumT l ∨ 50 < l.length)
theorem sumT_snoc (l : List Item) (x : Item) : sumT (l ++ [x]) = sumT l + x.T.length := by simp [sumT]
theorem sumT_take (l : List Item) (k : Nat) : sumT (l.take k) ≤ sumT l := by
  have h : sumT l = sumT (l.take k) + sumT (l.drop k) := by
    have : l.take k ++ l.drop k = l := List.take_append_drop k l
    conv => lhs; rw [← this]
    unfold sumT
    rw [List.map_append, List.sum_append]
  omega
theorem getD_mem {α : Type} [Inhabited α] {l : List α} {k : Nat} (h : k < l.length) : l.getD k default ∈ l := by
  simp [List.getD, h]
theorem getD_take {α : Type} [Inhabited α] (l : List α) {k : Nat} (h : k < l.length) : l.take (k + 1) = l.take k ++ [l.getD k default] := by
  rw [List.take_succ_eq_append_getElem h]; simp [List.getD, h]
theorem great01 (e : Ent) (ao : Option Go.Addr) (cap b off : Nat) (xs : List Item) (hR : Rd e ao xs.length b off 4 (xs.map Caucuslaw01Item.c)) (hw : ∀ x, x ∈ xs → x.T.length ≤ 140737488351232) :
    Ct Try.prog 22 [.slice ao xs.length cap] [e] (fun r σ' => r = B (greatI xs) ∧ σ' = [e]) := by
  have hml := hR.len
  refine Ct.enter Try.func22 rfl rfl fun W => ?_
  apply Wp.seq
  apply Wp.region
  refine WpL.v (V.as) ?_
  apply WpL.nil
  apply Out.seqN
  apply Wp.seq
  apply Wp.region
  refine WpL.v (V.as) ?_
  apply WpL.nil
  apply Out.seqN
  apply Wp.seq
  apply Wp.seq
  apply Wp.region
  refine WpL.v (V.mv) ?_
  refine WpL.v (V.lenL tb) ?_
  refine WpL.v (V.mv) ?_
  apply WpL.nil
  apply Out.seqN
  apply Wp.block
  refine Wp.lp [0, 7, 6] (fun k : Nat => k ≤ xs.length ∧ sumT (xs.take k) ≤ 4096) (fun k => [(3, I (sumT (xs.take k) : Int)), (8, I (k : Int))]) (fun k => []) (fun k => xs.length - k) 0 ⟨by omega, by simp [sumT]⟩ ?_
  rintro k ⟨hk, hs⟩ K hK
  dsimp only [List.cons_append, List.nil_append]
  by_cases hlt : k < xs.length
  · have hx : (xs.getD k default).T.length ≤ 140737488351232 := hw _ (getD_mem hlt)
    have hsn : sumT (xs.take (k + 1)) = sumT (xs.take k) + (xs.getD k default).T.length := by rw [getD_take _ hlt, sumT_snoc]
    have hle := sumT_take xs (k + 1)
    apply Wp.seq
    apply Wp.region
    refine WpL.v (V.cmp) ?_
    apply WpL.nil
    apply Out.seqN
    apply Wp.seq
    refine Wp.c (fun he0 => ?_) (fun he0 => ?_)
    (try simp only [decide_eq_true_eq, decide_eq_false_iff_not, Bool.not_eq_true', Bool.not_eq_false', Bool.not_eq_true, Bool.not_eq_false, not_true_eq_false, not_false_eq_true, reduceCtorEq] at he0)
    apply Wp.skip
    apply Out.seqN
    apply Wp.seq
    apply Wp.block
    apply Wp.seq
    apply Wp.region
    refine WpL.v (V.ixR tb rfl rfl (by assumption)) ?_
    refine WpL.v (V.ldRA tb rfl (by assumption) (getMapD (by omega))) ?_
    refine WpL.o (O.al tb (fun p5 => ?_))
    refine WpL.o (O.stA tb ?_)
    apply WpL.nil
    apply Out.seqN
    apply Wp.seq
    apply Wp.region
    refine WpL.v (V.mv) ?_
    refine WpL.v (V.fa tb) ?_
    refine WpL.v (V.ld1 tb) ?_
    refine WpL.v (V.lenS tb) ?_
    refine WpL.v (V.add) ?_
    refine WpL.v (V.as) ?_
    apply WpL.nil
    apply Out.seqN
    apply Wp.seq
    apply Wp.region
    refine WpL.v (V.mv) ?_
    refine WpL.v (V.cmp) ?_
    apply WpL.nil
    apply Out.seqN
    refine Wp.c (fun he1 => ?_) (fun he1 => ?_)
    (try simp only [decide_eq_true_eq, decide_eq_false_iff_not, Bool.not_eq_true', Bool.not_eq_false', Bool.not_eq_true, Bool.not_eq_false, not_true_eq_false, not_false_eq_true, reduceCtorEq] at he1)
    apply Wp.seq
    apply Wp.region
    refine WpL.v (V.as) ?_
    apply WpL.nil
    apply Out.seqN
    apply Wp.ret
    apply Out.blockR
    apply Out.seqR
    apply Out.seqR
    apply Out.blockR
    apply Out.seqR
    refine Out.f1 rfl ResIs.t ⟨?_, rfl⟩
    rotate_left
    (try simp only [decide_eq_true_eq, decide_eq_false_iff_not, Bool.not_eq_true', Bool.not_eq_false', Bool.not_eq_true, Bool.not_eq_false, not_true_eq_false, not_false_eq_true, reduceCtorEq] at he1)
    apply Wp.skip
    apply Out.blockN
    apply Out.seqN
    apply Wp.region
    refine WpL.v (V.add) ?_
    refine WpL.v (V.mv) ?_
    apply WpL.nil
    rotate_left
    (try simp only [decide_eq_true_eq, decide_eq_false_iff_not, Bool.not_eq_true', Bool.not_eq_false', Bool.not_eq_true, Bool.not_eq_false, not_true_eq_false, not_false_eq_true, reduceCtorEq] at he0)
    (exfalso; omega)
    · simp only [greatI]
      rw [decide_eq_true (by left; omega)]
    · exact Out.ag hK (k + 1) ⟨by omega, by omega⟩ (by omega) (he := by rw [hsn]; exact subEnv.cons rfl rfl (subEnv.cons rfl rfl (subEnv.cons rfl rfl (subEnv.cons rfl rfl (subEnv.cons rfl rfl subEnv.nil)))))
  · apply Wp.seq
    apply Wp.region
    refine WpL.v (V.cmp) ?_
    apply WpL.nil
    apply Out.seqN
    apply Wp.seq
    refine Wp.c (fun hf0 => ?_) (fun hf0 => ?_)
    (try simp only [decide_eq_true_eq, decide_eq_false_iff_not, Bool.not_eq_true', Bool.not_eq_false', Bool.not_eq_true, Bool.not_eq_false, not_true_eq_false, not_false_eq_true, reduceCtorEq] at hf0)
    (exfalso; omega)
    (try simp only [decide_eq_true_eq, decide_eq_false_iff_not, Bool.not_eq_true', Bool.not_eq_false', Bool.not_eq_true, Bool.not_eq_false, not_true_eq_false, not_false_eq_true, reduceCtorEq] at hf0)
    apply Wp.exit
    apply Out.seqE
    apply Out.seqE
    apply Out.blockE
    apply Out.seqN
    apply Wp.seq
    apply Wp.region
    refine WpL.v (V.mv) ?_
    refine WpL.v (V.lenL tb) ?_
    refine WpL.v (V.cmp) ?_
    refine WpL.v (V.as) ?_
    apply WpL.nil
    apply Out.seqN
    apply Wp.ret
    refine Out.f1 rfl ResIs.t ⟨?_, rfl⟩
    rw [List.take_of_length_le (by omega)] at hs
    simp only [greatI]
    congr 2
    rw [eq_iff_iff]
    omega
theorem itemB_len (x : Item) (h : x.N ≤ 9223372036854775807) (ht : x.T.length ≤ 9223372036854775807) : (itemB x).length ≤ 9 + x.T.length := by
  unfold itemB
  split
  · have := natI_len h; omega
  · split
    · have := natI_len (n := if x.Yes then 1 else 0) (by split <;> omega); omega
    · split
      · have := natI_len (n := (x.T.length : Int)) (by omega); simp; omega
      · split <;> simp
theorem nat0 : natI 0 = [0] := by rw [natI]; exact natB_lo (by decide)
theorem nat1 : natI 1 = [1] := by rw [natI]; exact natB_lo (by decide)
theorem put01 (e : Ent) (ao : Option Go.Addr) (cap b off : Nat) (xs : List Item) (hR : Rd e ao xs.length b off 4 (xs.map Caucuslaw01Item.c)) (hw : ∀ x, x ∈ xs → x.N ≤ 9223372036854775807) (hT : sumT xs ≤ 8192) (hl : xs.length ≤ 100) :
    Ct Try.prog 23 [.slice ao xs.length cap] [e] (fun r σ' => r = .tuple #[S (xs.flatMap itemB), S (xs.flatMap itemB)] ∧ σ' = [e]) := by
  have hml := hR.len
  refine Ct.enter Try.func23 rfl rfl fun W => ?_
  apply Wp.seq
  apply Wp.region
  refine WpL.v (V.as) ?_
  refine WpL.v (V.as) ?_
  apply WpL.nil
  apply Out.seqN
  apply Wp.seq
  apply Wp.region
  refine WpL.v (V.bld tb) ?_
  refine WpL.o (O.bxR u8c 5 1 rfl (fun p9 => ?_))
  refine WpL.v (V.as) ?_
  apply WpL.nil
  apply Out.seqN
  apply Wp.seq
  apply Wp.region
  refine WpL.v (V.as) ?_
  apply WpL.nil
  apply Out.seqN
  apply Wp.seq
  apply Wp.seq
  apply Wp.region
  refine WpL.v (V.mv) ?_
  refine WpL.v (V.lenL tb) ?_
  refine WpL.v (V.mv) ?_
  apply WpL.nil
  apply Out.seqN
  apply Wp.block
  refine Wp.lp [0, 11, 10, 4] (fun x : Nat × List UInt8 × Go.Value => x.1 ≤ xs.length ∧ x.2.1 = (xs.take x.1).flatMap itemB ∧ x.2.1.length ≤ 9 * x.1 + sumT (xs.take x.1)) (fun x => [(5, S x.2.1), (12, I (x.1 : Int))]) (fun x => [cells p9 26 (OctaveSink.c ⟨x.2.2⟩), rows u8c x.2.2 5 1 x.2.1]) (fun x => xs.length - x.1) (0, [], .slice none 0 0) ⟨by omega, by simp, by simp⟩ ?_
  rintro ⟨k, q, v⟩ ⟨hk, hq, hql⟩ K hK
  dsimp only at hk hq hql
  dsimp only [List.cons_append, List.nil_append]
  have hs1 := sumT_take xs k
  by_cases hlt : k < xs.length
  · obtain ⟨x, hx⟩ := getS hlt
    have hts := take_snocS hx
    have hsn : sumT (xs.take (k + 1)) = sumT (xs.take k) + x.T.length := by rw [hts, sumT_snoc]
    have hle := sumT_take xs (k + 1)
    have hN := hw _ (List.mem_of_getElem? hx)
    have hxT : x.T.length ≤ 8192 := by omega
    have hib := itemB_len x hN (by omega)
    have hnl := natI_len hN
    have hnt := natI_len (n := (x.T.length : Int)) (by omega)
    have hqs : q ++ itemB x = (xs.take (k + 1)).flatMap itemB := by rw [hts, List.flatMap_append, ← hq]; simp
    have hlen : (q ++ itemB x).length ≤ 9 * (k + 1) + sumT (xs.take (k + 1)) := by rw [List.length_append]; omega
    have hql2 : q.length ≤ 10000 := by omega
    apply Wp.seq
    apply Wp.region
    refine WpL.v (V.cmp) ?_
    apply WpL.nil
    apply Out.seqN
    apply Wp.seq
    refine Wp.c (fun hh0 => ?_) (fun hh0 => ?_)
    (try simp only [decide_eq_true_eq, decide_eq_false_iff_not, Bool.not_eq_true', Bool.not_eq_false', Bool.not_eq_true, Bool.not_eq_false, not_true_eq_false, not_false_eq_true, reduceCtorEq] at hh0)
    apply Wp.skip
    apply Out.seqN
    apply Wp.seq
    apply Wp.block
    apply Wp.seq
    apply Wp.region
    refine WpL.v (V.ixR tb rfl rfl (by assumption)) ?_
    refine WpL.v (V.ldRA tb rfl (by assumption) (getMapS (by assumption))) ?_
    refine WpL.o (O.al tb (fun p7 => ?_))
    refine WpL.o (O.stA tb ?_)
    apply WpL.nil
    apply Out.seqN
    apply Wp.seq
    apply Wp.region
    refine WpL.v (V.fa tb) ?_
    refine WpL.v (V.ld1 tb) ?_
    apply WpL.nil
    apply Out.seqN
    apply Wp.block
    apply Wp.seq
    apply Wp.region
    refine WpL.v (V.cmp) ?_
    refine WpL.v (V.as) ?_
    apply WpL.nil
    apply Out.seqN
    refine Wp.c (fun hh1 => ?_) (fun hh1 => ?_)
    (try simp only [decide_eq_true_eq, decide_eq_false_iff_not, Bool.not_eq_true', Bool.not_eq_false', Bool.not_eq_true, Bool.not_eq_false, not_true_eq_false, not_false_eq_true, reduceCtorEq] at hh1)
    apply Wp.seq
    apply Wp.region
    refine WpL.v (V.mv) ?_
    refine WpL.v (V.fa tb) ?_
    refine WpL.v (V.ld1 tb) ?_
    refine WpL.o (O.lit tb (fun p23 => ?_))
    refine WpL.o (Op1.callT rfl (sinkNat1 _ _ _ _ _ ?_ ?_) (by (repeat (first | exact Sel.nil | exact Rem.here | apply Sel.cons | apply Rem.there))) ?_)
    (first | with_reducible assumption | omega | (simp only [List.length_append, List.length_cons, List.length_nil, List.length_map] at *; omega) | (focus (simp; done)))
    (first | with_reducible assumption | omega | (simp only [List.length_append, List.length_cons, List.length_nil, List.length_map] at *; omega) | (focus (simp; done)))
    rintro v2 s3 ⟨v'24, ⟨rfl, rfl⟩⟩
    refine incat ?_
    apply WpL.nil
    apply Out.seqN
    apply Wp.region
    refine WpL.v (V.mv) ?_
    refine WpL.v (V.fa tb) ?_
    refine WpL.v (V.ld1 tb) ?_
    refine WpL.o (Op1.fn rfl (refNat _ ?_) ?_)
    (first | with_reducible assumption | omega | (simp only [List.length_append, List.length_cons, List.length_nil, List.length_map] at *; omega) | (focus (simp; done)))
    refine WpL.v (V.cat) ?_
    refine WpL.v (V.as) ?_
    apply WpL.nil
    apply Out.blockN
    apply Out.blockN
    apply Out.seqN
    apply Wp.region
    refine WpL.v (V.add) ?_
    refine WpL.v (V.mv) ?_
    apply WpL.nil
    rotate_left
    (try simp only [decide_eq_true_eq, decide_eq_false_iff_not, Bool.not_eq_true', Bool.not_eq_false', Bool.not_eq_true, Bool.not_eq_false, not_true_eq_false, not_false_eq_true, reduceCtorEq] at hh1)
    apply Wp.seq
    apply Wp.region
    refine WpL.v (V.cmp) ?_
    refine WpL.v (V.as) ?_
    apply WpL.nil
    apply Out.seqN
    refine Wp.c (fun hh4 => ?_) (fun hh4 => ?_)
    (try simp only [decide_eq_true_eq, decide_eq_false_iff_not, Bool.not_eq_true', Bool.not_eq_false', Bool.not_eq_true, Bool.not_eq_false, not_true_eq_false, not_false_eq_true, reduceCtorEq] at hh4)
    apply Wp.seq
    apply Wp.region
    refine WpL.v (V.mv) ?_
    refine WpL.v (V.fa tb) ?_
    refine WpL.v (V.ld1 tb) ?_
    refine WpL.o (Op1.callT rfl (sinkBit _ _ _ _ ?_) (by (repeat (first | exact Sel.nil | exact Rem.here | apply Sel.cons | apply Rem.there))) ?_)
    (first | with_reducible assumption | omega | (simp only [List.length_append, List.length_cons, List.length_nil, List.length_map] at *; omega) | (focus (simp; done)))
    rintro v5 s6 ⟨v'35, ⟨rfl, rfl⟩⟩
    refine incat ?_
    apply WpL.nil
    apply Out.seqN
    apply Wp.seq
    apply Wp.region
    refine WpL.v (V.fa tb) ?_
    refine WpL.v (V.ld1 tb) ?_
    apply WpL.nil
    apply Out.seqN
    refine Wp.c (fun hh7 => ?_) (fun hh7 => ?_)
    (try simp only [decide_eq_true_eq, decide_eq_false_iff_not, Bool.not_eq_true', Bool.not_eq_false', Bool.not_eq_true, Bool.not_eq_false, not_true_eq_false, not_false_eq_true, reduceCtorEq] at hh7)
    apply Wp.region
    refine WpL.v (V.mv) ?_
    refine WpL.v (V.cat) ?_
    refine WpL.v (V.as) ?_
    apply WpL.nil
    apply Out.blockN
    apply Out.blockN
    apply Out.seqN
    apply Wp.region
    refine WpL.v (V.add) ?_
    refine WpL.v (V.mv) ?_
    apply WpL.nil
    rotate_left
    (try simp only [decide_eq_true_eq, decide_eq_false_iff_not, Bool.not_eq_true', Bool.not_eq_false', Bool.not_eq_true, Bool.not_eq_false, not_true_eq_false, not_false_eq_true, reduceCtorEq] at hh7)
    apply Wp.region
    refine WpL.v (V.mv) ?_
    refine WpL.v (V.cat) ?_
    refine WpL.v (V.as) ?_
    apply WpL.nil
    apply Out.blockN
    apply Out.blockN
    apply Out.seqN
    apply Wp.region
    refine WpL.v (V.add) ?_
    refine WpL.v (V.mv) ?_
    apply WpL.nil
    rotate_left
    (try simp only [decide_eq_true_eq, decide_eq_false_iff_not, Bool.not_eq_true', Bool.not_eq_false', Bool.not_eq_true, Bool.not_eq_false, not_true_eq_false, not_false_eq_true, reduceCtorEq] at hh4)
    apply Wp.seq
    apply Wp.region
    refine WpL.v (V.cmp) ?_
    refine WpL.v (V.as) ?_
    apply WpL.nil
    apply Out.seqN
    refine Wp.c (fun hh8 => ?_) (fun hh8 => ?_)
    (try simp only [decide_eq_true_eq, decide_eq_false_iff_not, Bool.not_eq_true', Bool.not_eq_false', Bool.not_eq_true, Bool.not_eq_false, not_true_eq_false, not_false_eq_true, reduceCtorEq] at hh8)
    apply Wp.seq
    apply Wp.region
    refine WpL.v (V.mv) ?_
    refine WpL.v (V.fa tb) ?_
    refine WpL.v (V.ld1 tb) ?_
    refine WpL.o (Op1.callT rfl (sinkText _ _ _ _ ?_) (by (repeat (first | exact Sel.nil | exact Rem.here | apply Sel.cons | apply Rem.there))) ?_)
    (first | with_reducible assumption | omega | (simp only [List.length_append, List.length_cons, List.length_nil, List.length_map] at *; omega) | (focus (simp; done)))
    rintro v9 s10 ⟨v'47, ⟨rfl, rfl⟩⟩
    refine incat ?_
    apply WpL.nil
    apply Out.seqN
    apply Wp.region
    refine WpL.v (V.mv) ?_
    refine WpL.v (V.fa tb) ?_
    refine WpL.v (V.ld1 tb) ?_
    refine WpL.o (Op1.fn rfl (refText _ ?_) ?_)
    (first | with_reducible assumption | omega | (simp only [List.length_append, List.length_cons, List.length_nil, List.length_map] at *; omega) | (focus (simp; done)))
    refine WpL.v (V.cat) ?_
    refine WpL.v (V.as) ?_
    apply WpL.nil
    apply Out.blockN
    apply Out.blockN
    apply Out.seqN
    apply Wp.region
    refine WpL.v (V.add) ?_
    refine WpL.v (V.mv) ?_
    apply WpL.nil
    rotate_left
    (try simp only [decide_eq_true_eq, decide_eq_false_iff_not, Bool.not_eq_true', Bool.not_eq_false', Bool.not_eq_true, Bool.not_eq_false, not_true_eq_false, not_false_eq_true, reduceCtorEq] at hh8)
    apply Wp.seq
    apply Wp.region
    refine WpL.v (V.cmp) ?_
    refine WpL.v (V.as) ?_
    apply WpL.nil
    apply Out.seqN
    refine Wp.c (fun hh11 => ?_) (fun hh11 => ?_)
    (try simp only [decide_eq_true_eq, decide_eq_false_iff_not, Bool.not_eq_true', Bool.not_eq_false', Bool.not_eq_true, Bool.not_eq_false, not_true_eq_false, not_false_eq_true, reduceCtorEq] at hh11)
    apply Wp.seq
    apply Wp.region
    refine WpL.v (V.mv) ?_
    refine WpL.v (V.fa tb) ?_
    refine WpL.v (V.ld1 tb) ?_
    refine WpL.o (Op1.callT rfl (sinkRaw _ _ _ _ ?_) (by (repeat (first | exact Sel.nil | exact Rem.here | apply Sel.cons | apply Rem.there))) ?_)
    (first | with_reducible assumption | omega | (simp only [List.length_append, List.length_cons, List.length_nil, List.length_map] at *; omega) | (focus (simp; done)))
    rintro v12 s13 ⟨v'58, ⟨rfl, rfl⟩⟩
    refine incat ?_
    apply WpL.nil
    apply Out.seqN
    apply Wp.region
    refine WpL.v (V.mv) ?_
    refine WpL.v (V.fa tb) ?_
    refine WpL.v (V.ld1 tb) ?_
    refine WpL.v (V.cat) ?_
    refine WpL.v (V.as) ?_
    apply WpL.nil
    apply Out.blockN
    apply Out.blockN
    apply Out.seqN
    apply Wp.region
    refine WpL.v (V.add) ?_
    refine WpL.v (V.mv) ?_
    apply WpL.nil
    rotate_left
    (try simp only [decide_eq_true_eq, decide_eq_false_iff_not, Bool.not_eq_true', Bool.not_eq_false', Bool.not_eq_true, Bool.not_eq_false, not_true_eq_false, not_false_eq_true, reduceCtorEq] at hh11)
    apply Wp.skip
    apply Out.blockN
    apply Out.blockN
    apply Out.seqN
    apply Wp.region
    refine WpL.v (V.add) ?_
    refine WpL.v (V.mv) ?_
    apply WpL.nil
    rotate_left
    (try simp only [decide_eq_true_eq, decide_eq_false_iff_not, Bool.not_eq_true', Bool.not_eq_false', Bool.not_eq_true, Bool.not_eq_false, not_true_eq_false, not_false_eq_true, reduceCtorEq] at hh0)
    (exfalso; omega)
    · have hb : itemB x = natI x.N := by unfold itemB; rw [if_pos (by assumption)]
      rw [hb] at hqs hlen
      exact Out.ag hK (k + 1, q ++ natI x.N, _) ⟨by dsimp only; omega, hqs, hlen⟩ (by dsimp only; omega)
    · have hb : itemB x = [1] := by unfold itemB; rw [if_neg (by assumption), if_pos (by assumption), ‹x.Yes = true›]; exact nat1
      rw [‹x.Yes = true›, if_pos rfl, nat1]
      rw [hb] at hqs hlen
      exact Out.ag hK (k + 1, q ++ [1], _) ⟨by dsimp only; omega, hqs, hlen⟩ (by dsimp only; omega)
    · have hb : itemB x = [0] := by unfold itemB; rw [if_neg (by assumption), if_pos (by assumption), ‹x.Yes = false›]; exact nat0
      rw [‹x.Yes = false›, if_neg (by simp), nat0]
      rw [hb] at hqs hlen
      exact Out.ag hK (k + 1, q ++ [0], _) ⟨by dsimp only; omega, hqs, hlen⟩ (by dsimp only; omega)
    · have hb : itemB x = natI x.T.length ++ x.T := by unfold itemB; rw [if_neg (by assumption), if_neg (by assumption), if_pos (by assumption)]
      rw [hb] at hqs hlen
      exact Out.ag hK (k + 1, q ++ (natI x.T.length ++ x.T), _) ⟨by dsimp only; omega, hqs, hlen⟩ (by dsimp only; omega)
    · have hb : itemB x = x.T := by unfold itemB; rw [if_neg (by assumption), if_neg (by assumption), if_neg (by assumption), if_pos (by assumption)]
      rw [hb] at hqs hlen
      exact Out.ag hK (k + 1, q ++ x.T, _) ⟨by dsimp only; omega, hqs, hlen⟩ (by dsimp only; omega)
    · have hb : itemB x = [] := by unfold itemB; rw [if_neg (by assumption), if_neg (by assumption), if_neg (by assumption), if_neg (by assumption)]
      rw [hb, List.append_nil] at hqs hlen
      exact Out.ag hK (k + 1, q, _) ⟨by dsimp only; omega, hqs, hlen⟩ (by dsimp only; omega)
  · apply Wp.seq
    apply Wp.region
    refine WpL.v (V.cmp) ?_
    apply WpL.nil
    apply Out.seqN
    apply Wp.seq
    refine Wp.c (fun hi0 => ?_) (fun hi0 => ?_)
    (try simp only [decide_eq_true_eq, decide_eq_false_iff_not, Bool.not_eq_true', Bool.not_eq_false', Bool.not_eq_true, Bool.not_eq_false, not_true_eq_false, not_false_eq_true, reduceCtorEq] at hi0)
    (exfalso; omega)
    (try simp only [decide_eq_true_eq, decide_eq_false_iff_not, Bool.not_eq_true', Bool.not_eq_false', Bool.not_eq_true, Bool.not_eq_false, not_true_eq_false, not_false_eq_true, reduceCtorEq] at hi0)
    apply Wp.exit
    apply Out.seqE
    apply Out.seqE
    apply Out.blockE
    apply Out.seqN
    apply Wp.seq
    apply Wp.region
    refine WpL.v (V.mv) ?_
    refine WpL.o (Op1.callT rfl (sinkBytes _ _ _) (by (repeat (first | exact Sel.nil | exact Rem.here | apply Sel.cons | apply Rem.there))) ?_)
    rintro v1 s2 ⟨rfl, rfl⟩
    refine incat ?_
    refine WpL.v (V.mv) ?_
    refine WpL.v (V.as) ?_
    refine WpL.v (V.as) ?_
    apply WpL.nil
    apply Out.seqN
    apply Wp.ret
    refine Out.f2 rfl ResIs.t ResIs.t ⟨?_, rfl⟩
    rw [hq, List.take_of_length_le (by omega)]
end Go.Proofs.Ytienlncaffliaaa
