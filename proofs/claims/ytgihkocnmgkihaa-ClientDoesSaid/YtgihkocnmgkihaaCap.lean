/-
  Layer 21: deeds that don't clash: the law of the machine.
-/
import Derived.Test.YtgihkocnmgkihaaCal
import Derived.Test.YtgihkocnmgkihaaApa
namespace Go.Proofs.Ytgihkocnmgkihaa
open Go.HL
set_option linter.unusedSimpArgs false
set_option linter.unusedVariables false
def acts (s : CS) (d : TDeed) : Bool := decide (d.Session = 0 ∨ (s.get d.Session).1 < d.Number)
def repC (s : CS) (d : TDeed) : RV := if d.Number < (s.get d.Session).1 then ⟨9, [], 0, []⟩ else (s.get d.Session).2
def updC (ss : SSL) (d : TDeed) (r : RV) : SSL := if d.Session = 0 then ss else mput ss d.Session (d.Number, r)
theorem doC_bad {s : CS} {d : TDeed} (h : goodD d = false) : doC s d = (⟨1, [], 0, []⟩, s) := by unfold doC; rw [if_pos h]
theorem doC_act {s : CS} {d : TDeed} (h : goodD d = true) (ha : acts s d = true) : doC s d = ((doA s.l d).rv, ⟨(doA s.l d).l, updC s.ss d (doA s.l d).rv, s.cnt + 1⟩) := by
  unfold doC updC
  rw [if_neg (by rw [h]; decide)]
  by_cases hs : d.Session = 0
  · simp only [if_pos hs]
  · have hl : (s.get d.Session).1 < d.Number := (of_decide_eq_true ha).resolve_left hs
    simp only [if_neg hs, if_neg (show ¬ d.Number < (s.get d.Session).1 by omega), if_pos hl]
theorem doC_rest {s : CS} {d : TDeed} (h : goodD d = true) (ha : acts s d = false) : doC s d = (repC s d, s) := by
  have hn := of_decide_eq_false ha
  unfold doC repC
  rw [if_neg (by rw [h]; decide), if_neg (fun e => hn (.inl e))]
  by_cases hl : d.Number < (s.get d.Session).1
  · simp only [if_pos hl]
  · simp only [if_neg hl, if_neg (show ¬ (s.get d.Session).1 < d.Number from fun e => hn (.inr e))]
theorem get_upd {s : CS} {l : PM} {c : Int} {d : TDeed} {r : RV} {k : Int} (h : d.Session = 0 ∨ k ≠ d.Session) : CS.get ⟨l, updC s.ss d r, c⟩ k = s.get k := by
  unfold CS.get updC
  rcases h with h | h
  · rw [if_pos h]
  · by_cases h0 : d.Session = 0
    · rw [if_pos h0]
    · rw [if_neg h0]
      show (mget (mput s.ss d.Session (d.Number, r)) k).getD _ = _
      rw [mget_mput, if_neg h]
theorem get_do {s : CS} {d : TDeed} {k : Int} (h : d.Session = 0 ∨ k ≠ d.Session) : (doC s d).2.get k = s.get k := by
  cases hg : goodD d with
  | false => rw [doC_bad hg]
  | true =>
    cases ha : acts s d with
    | false => rw [doC_rest hg ha]
    | true => rw [doC_act hg ha]; exact get_upd h
theorem idsC_lt {ss : SSL} (h : (ss.map (·.1)).Nodup) : (idsC ss).Pairwise (fun a b => a < b) := by
  have tr : ∀ a b c : Int, decide (a ≤ b) = true → decide (b ≤ c) = true → decide (a ≤ c) = true := by
    intro a b c h1 h2
    simp only [decide_eq_true_eq] at *
    exact Int.le_trans h1 h2
  have to : ∀ a b : Int, (decide (a ≤ b) || decide (b ≤ a)) = true := by
    intro a b
    simp only [Bool.or_eq_true, decide_eq_true_eq]
    exact Int.le_total a b
  have hle : (idsC ss).Pairwise (fun a b => a ≤ b) := by
    unfold idsC
    exact (List.pairwise_mergeSort (le := fun x y : Int => decide (x ≤ y)) tr to (ss.map (·.1))).imp (fun h => of_decide_eq_true h)
  have hn : (idsC ss).Nodup := by
    unfold idsC
    exact (List.mergeSort_perm (ss.map (·.1)) (fun x y => decide (x ≤ y))).nodup_iff.2 h
  exact List.Pairwise.imp (R := fun a b => a ≤ b ∧ a ≠ b) (fun h => by have := h.1; have := h.2; omega) (hle.and hn)
theorem idsC_ext {ss ss' : SSL} (h : (ss.map (·.1)).Nodup) (h' : (ss'.map (·.1)).Nodup) (e : ∀ k, mget ss k = mget ss' k) : idsC ss = idsC ss' :=
  sorted_ext (r := fun a b => a < b) (fun a => Int.lt_irrefl a) (fun a b h1 h2 => absurd (Int.lt_trans h1 h2) (Int.lt_irrefl a)) (idsC_lt h) (idsC_lt h') fun k => by rw [idsC_mem, idsC_mem, e]
theorem bytesC_ext {n m : Nat} {s t : CS} (hs : CI n s) (ht : CI m t) (e1 : canon s.l = canon t.l) (e2 : ∀ k, mget s.ss k = mget t.ss k) : bytesC s = bytesC t := by
  unfold bytesC sesB
  rw [e1, idsC_ext hs.nod ht.nod e2]
  congr 1
  have : s.get = t.get := by
    funext k
    unfold CS.get
    rw [e2]
  rw [this]
theorem clash_ses {a b : TDeed} (h : clash a b = false) (ha : goodD a = true) (hb : goodD b = true) : a.Session = 0 ∨ b.Session = 0 ∨ a.Session ≠ b.Session := by
  by_cases h0 : a.Kind = 0
  · have := (of_decide_eq_true ha).2
    rcases this with h | h | h | h | h
    · exact .inl h.2.2.2.2
    all_goals exfalso; omega
  · by_cases h1 : b.Kind = 0
    · have := (of_decide_eq_true hb).2
      rcases this with h | h | h | h | h
      · exact .inr (.inl h.2.2.2.2)
      all_goals exfalso; omega
    · unfold clash at h
      rw [if_neg (by omega)] at h
      split at h
      · cases h
      · omega
theorem DR.Eqs.rv {x y : DR} (h : x.Eqs y) : x.rv = y.rv := by
  unfold DR.rv
  rw [h.err, h.val, h.ver, h.keys]
theorem acts_do {s : CS} {a b : TDeed} (h : a.Session = 0 ∨ b.Session = 0 ∨ a.Session ≠ b.Session) : acts (doC s b).2 a = acts s a := by
  unfold acts
  by_cases h0 : a.Session = 0
  · simp [h0]
  · rw [get_do (show b.Session = 0 ∨ a.Session ≠ b.Session from h.resolve_left h0)]
/-- Two deeds that don't clash, in either order. -/
theorem apartC_law {n : Nat} {s : CS} (hi : CI n s) (a b : TDeed) (h : clash a b = false) :
    (doC s a).1 = (doC (doC s b).2 a).1 ∧ (doC (doC s a).2 b).1 = (doC s b).1 ∧ bytesC (doC (doC s a).2 b).2 = bytesC (doC (doC s b).2 a).2 := by
  cases hga : goodD a with
  | false => refine ⟨?_, ?_, ?_⟩ <;> simp only [doC_bad hga]
  | true =>
    cases hgb : goodD b with
    | false => refine ⟨?_, ?_, ?_⟩ <;> simp only [doC_bad hgb]
    | true =>
      have hs := clash_ses h hga hgb
      have hsab : acts (doC s b).2 a = acts s a := acts_do hs
      have hsba : acts (doC s a).2 b = acts s b := acts_do (by omega)
      cases haa : acts s a with
      | false =>
        have e1 := doC_rest hga haa
        rw [haa] at hsab
        have e2 := doC_rest hga hsab
        have hr : repC (doC s b).2 a = repC s a := by
          have h0 : ¬ a.Session = 0 := fun e => by simp [acts, e] at haa
          unfold repC
          rw [get_do (show b.Session = 0 ∨ a.Session ≠ b.Session from hs.resolve_left h0)]
        rw [e1, e2, hr]
        exact ⟨rfl, rfl, rfl⟩
      | true =>
        cases hab : acts s b with
        | false =>
          have e1 := doC_rest hgb hab
          rw [hab] at hsba
          have e2 := doC_rest hgb hsba
          have hr : repC (doC s a).2 b = repC s b := by
            have h0 : ¬ b.Session = 0 := fun e => by simp [acts, e] at hab
            unfold repC
            rw [get_do (show a.Session = 0 ∨ b.Session ≠ a.Session by omega)]
          rw [e1, e2, hr]
          exact ⟨rfl, rfl, rfl⟩
        | true =>
          rw [haa] at hsab
          rw [hab] at hsba
          have hi1 := (hi.do_ a).do_ b
          have hi2 := (hi.do_ b).do_ a
          have ea := doC_act hga haa
          have eb := doC_act hgb hab
          have eab := doC_act hgb hsba
          have eba := doC_act hga hsab
          obtain ⟨l1, l2, l3⟩ := apart_law hi.reg a b h
          have r1 := l1.rv
          have r2 := l2.rv
          rw [eab] at hi1 ⊢
          rw [eba] at hi2 ⊢
          rw [ea] at hi1 ⊢
          rw [eb] at hi2 ⊢
          dsimp only at *
          refine ⟨r1, r2, bytesC_ext hi1 hi2 l3 fun k => ?_⟩
          show mget (updC (updC s.ss a (doA s.l a).rv) b (doA (doA s.l a).l b).rv) k = mget (updC (updC s.ss b (doA s.l b).rv) a (doA (doA s.l b).l a).rv) k
          rw [r2, ← r1]
          unfold updC
          by_cases ha0 : a.Session = 0
          · simp only [if_pos ha0]
          · by_cases hb0 : b.Session = 0
            · simp only [if_pos hb0]
            · simp only [if_neg ha0, if_neg hb0]
              rw [mget_mput, mget_mput, mget_mput, mget_mput]
              by_cases k1 : k = b.Session
              · rw [if_pos k1, if_neg (by omega), if_pos k1]
              · rw [if_neg k1, if_neg k1]
end Go.Proofs.Ytgihkocnmgkihaa
