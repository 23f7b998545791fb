/-
  Layer 20: deeds that don't clash: the law.
-/
import Derived.Test.YtgihkocnmgkihaaAny
namespace Go.Proofs.Ytgihkocnmgkihaa
open Go.HL
set_option linter.unusedSimpArgs false
set_option linter.unusedVariables false
/-- The same answers. -/
structure DR.Eqs (x y : DR) : Prop where
  err : x.err = y.err
  val : x.val = y.val
  ver : x.ver = y.ver
  keys : x.keys = y.keys
theorem listL_ext {n m : Nat} {l l' : PM} (h : RI n l) (h' : RI m l') (p : List UInt8) (e : ∀ k, pfx p k = true → mget l k = mget l' k) : listL p l = listL p l' := by
  rw [listL_eq h, listL_eq h']
  refine sorted_ext (r := fun a b => a < b) lt_irr lt_asy ((skeys_lt h.nod).filter _) ((skeys_lt h'.nod).filter _) fun k => ?_
  simp only [List.mem_filter, skeys_mem]
  constructor
  · rintro ⟨h1, h2⟩
    exact ⟨by rw [← e k h2]; exact h1, h2⟩
  · rintro ⟨h1, h2⟩
    exact ⟨by rw [e k h2]; exact h1, h2⟩
theorem doA_local {n m : Nat} {l l' : PM} (hi : RI n l) (hi' : RI m l') (d : TDeed) (h : d.Kind ≠ 0 → ∀ k, about d k = true → mget l k = mget l' k) :
    (doA l d).Eqs (doA l' d) ∧ (writes d = true → mget (doA l d).l d.Key = mget (doA l' d).l d.Key) := by
  by_cases h0 : d.Kind = 0
  · have hw : writes d = false := by simp [writes, h0]
    refine ⟨?_, fun h => by rw [hw] at h; cases h⟩
    unfold doA doN rep
    simp only [h0, if_true, if_neg (show ¬ (0 : Int) = 5 by decide)]
    exact ⟨rfl, rfl, rfl, rfl⟩
  · by_cases h5 : d.Kind = 5
    · have hw : writes d = false := by simp [writes, h5]
      refine ⟨?_, fun h => by rw [hw] at h; cases h⟩
      unfold doA
      simp only [if_pos h5]
      exact ⟨rfl, rfl, rfl, listL_ext hi hi' _ fun k hk => h h0 k (by rw [about, if_pos h5]; exact hk)⟩
    · have hk := h h0 d.Key (by rw [about, if_neg h5]; simp)
      have hlk : look l d.Key = look l' d.Key := by unfold look; rw [hk]
      have hp : mget (putL l d.Key d.Value) d.Key = mget (putL l' d.Key d.Value) d.Key := by
        unfold putL
        rw [mget_mput, mget_mput, if_pos rfl, if_pos rfl, hlk]
      have hd : mget (mdel l d.Key) d.Key = mget (mdel l' d.Key) d.Key := by rw [mget_mdel hi.nod, mget_mdel hi'.nod, if_pos rfl, if_pos rfl]
      unfold doA doN rep
      simp only [if_neg h5, if_neg h0, hk, hlk]
      constructor
      · repeat' split
        all_goals exact ⟨rfl, rfl, rfl, rfl⟩
      · intro _
        repeat' split
        all_goals first
          | exact hp
          | exact hd
          | exact hk
theorem doA_other {n : Nat} {l : PM} (hi : RI n l) (d : TDeed) (k : List UInt8) (h : writes d = true → k ≠ d.Key) : mget (doA l d).l k = mget l k := by
  cases hw : writes d with
  | false => rw [doA_nop hw]
  | true =>
    have hk := h hw
    by_cases he : (doA l d).err = 0
    · rcases doA_ok hw he with ⟨_, _, e⟩ | ⟨_, _, e⟩
      · rw [e]
        show mget (mdel l d.Key) k = _
        rw [mget_mdel hi.nod, if_neg hk]
      · rw [e]
        show mget (putL l d.Key d.Value) k = _
        unfold putL
        rw [mget_mput, if_neg hk]
    · rw [doA_err he]
theorem writes_kind {d : TDeed} (h : writes d = true) : d.Kind ≠ 0 ∧ d.Kind ≠ 5 := by
  simp only [writes, Bool.and_eq_true, decide_eq_true_eq] at h
  omega
theorem clash_no {a b : TDeed} (h : clash a b = false) : (writes a = true → b.Kind ≠ 0 → about b a.Key = false) ∧ (writes b = true → a.Kind ≠ 0 → about a b.Key = false) := by
  unfold clash at h
  constructor
  · intro h1 h2
    have h3 := (writes_kind h1).1
    rw [if_neg (by omega)] at h
    split at h
    · cases h
    · rw [h1] at h
      simp only [Bool.true_and, Bool.or_eq_false_iff] at h
      exact h.1
  · intro h1 h2
    have h3 := (writes_kind h1).1
    rw [if_neg (by omega)] at h
    split at h
    · cases h
    · rw [h1] at h
      simp only [Bool.true_and, Bool.or_eq_false_iff] at h
      exact h.2
/-- Two deeds that don't clash, in either order. -/
theorem apart_law {n : Nat} {l : PM} (hi : RI n l) (a b : TDeed) (h : clash a b = false) :
    (doA l a).Eqs (doA (doA l b).l a) ∧ (doA (doA l a).l b).Eqs (doA l b) ∧ canon (doA (doA l a).l b).l = canon (doA (doA l b).l a).l := by
  obtain ⟨hab, hba⟩ := clash_no h
  have hia := hi.any a
  have hib := hi.any b
  have agreeB : b.Kind ≠ 0 → ∀ k, about b k = true → mget (doA l a).l k = mget l k := fun h0 k hk =>
    doA_other hi a k fun hw e => by
      have := hab hw h0
      rw [← e, hk] at this
      cases this
  have agreeA : a.Kind ≠ 0 → ∀ k, about a k = true → mget (doA l b).l k = mget l k := fun h0 k hk =>
    doA_other hi b k fun hw e => by
      have := hba hw h0
      rw [← e, hk] at this
      cases this
  have LB := doA_local hia hi b agreeB
  have LA := doA_local hi hib a (fun h0 k hk => (agreeA h0 k hk).symm)
  refine ⟨LA.1, LB.1, canon_ext (hia.any b) (hib.any a) fun k => ?_⟩
  by_cases hB : writes b = true ∧ k = b.Key
  · obtain ⟨hw, rfl⟩ := hB
    rw [LB.2 hw, doA_other hib a b.Key fun hwa e => ?_]
    have h1 := hab hwa (writes_kind hw).1
    rw [about, if_neg (writes_kind hw).2] at h1
    simp [e] at h1
  · rw [doA_other hia b k fun hw e => hB ⟨hw, e⟩]
    by_cases hA : writes a = true ∧ k = a.Key
    · obtain ⟨hw, rfl⟩ := hA
      exact LA.2 hw
    · rw [doA_other hib a k fun hw e => hA ⟨hw, e⟩, doA_other hi a k fun hw e => hA ⟨hw, e⟩, doA_other hi b k fun hw e => hB ⟨hw, e⟩]
end Go.Proofs.Ytgihkocnmgkihaa
