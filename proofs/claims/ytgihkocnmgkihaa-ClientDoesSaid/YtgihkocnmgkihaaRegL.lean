/-
  Layer 20: the registry: laws.
-/
import Derived.Test.YtgihkocnmgkihaaReg4
namespace Go.Proofs.Ytgihkocnmgkihaa
open Go.HL
set_option linter.unusedSimpArgs false
set_option linter.unusedVariables false
set_option maxRecDepth 8000
/-- A registry behind at most n deeds. -/
structure RI (n : Nat) (l : PM) : Prop where
  nod : (l.map (·.1)).Nodup
  len : l.length ≤ n
  key : ∀ k p, mget l k = some p → p.Key = k ∧ 1 ≤ p.Version ∧ p.Version ≤ n
theorem RI.zero : RI 0 [] := ⟨List.nodup_nil, Nat.le_refl _, fun k p h => by rw [mget_nil] at h; cases h⟩
theorem RI.up {n : Nat} {l : PM} (h : RI n l) : RI (n + 1) l := ⟨h.nod, by have := h.len; omega, fun k p hp => by have h2 := h.key k p hp; exact ⟨h2.1, h2.2.1, by omega⟩⟩
theorem RI.ver {n : Nat} {l : PM} (h : RI n l) (k : List UInt8) : 0 ≤ (look l k).Version ∧ (look l k).Version ≤ n := by
  unfold look
  cases hg : mget l k with
  | none => exact ⟨Int.le_refl _, by show (0 : Int) ≤ n; omega⟩
  | some p => have := h.key k p hg; show 0 ≤ p.Version ∧ p.Version ≤ n; omega
theorem mput_len {l : PM} {k : List UInt8} {p : RegistryPair} : (mput l k p).length ≤ l.length + 1 := by
  induction l with
  | nil => rw [mput_nil]; exact Nat.le_refl _
  | cons q l ih =>
    rw [mput_cons]
    split
    · simp
    · simp only [List.length_cons]; omega
theorem RI.put {n : Nat} {l : PM} (h : RI n l) (k v : List UInt8) : RI (n + 1) (putL l k v) := by
  unfold putL
  refine ⟨mput_nodup h.nod, Nat.le_trans mput_len (by have := h.len; omega), fun k2 p hp => ?_⟩
  rw [mget_mput] at hp
  have hv := h.ver k
  by_cases e : k2 = k
  · rw [if_pos e] at hp
    cases hp
    refine ⟨e.symm, ?_, ?_⟩
    · show 1 ≤ (look l k).Version + 1; omega
    · show (look l k).Version + 1 ≤ ((n + 1 : Nat) : Int); omega
  · rw [if_neg e] at hp
    have := h.key k2 p hp
    refine ⟨this.1, this.2.1, by omega⟩
theorem RI.del {n : Nat} {l : PM} (h : RI n l) (k : List UInt8) : RI (n + 1) (mdel l k) := by
  refine ⟨mdel_nodup h.nod, Nat.le_trans (mdel_sub l k).length_le (by have := h.len; omega), fun k2 p hp => ?_⟩
  rw [mget_mdel h.nod] at hp
  split at hp
  · cases hp
  · have := h.key k2 p hp
    exact ⟨this.1, this.2.1, by omega⟩
theorem RI.do_ {n : Nat} {l : PM} (h : RI n l) (d : TDeed) : RI (n + 1) (doN l d).2 := by
  unfold doN
  repeat' split
  all_goals first
    | exact h.up
    | exact h.put _ _
    | exact h.del _
theorem mget_mem {l : PM} {k : List UInt8} : k ∈ l.map (·.1) ↔ (mget l k).isSome = true := by
  induction l with
  | nil => simp [mget_nil]
  | cons q l ih =>
    rw [List.map_cons, List.mem_cons, mget_cons]
    by_cases e : k = q.1
    · simp [e]
    · rw [if_neg e, ← ih]; simp [e]
theorem skeys_mem {l : PM} {k : List UInt8} : k ∈ skeys l ↔ (mget l k).isSome = true := by
  rw [← mget_mem]
  unfold skeys
  exact (List.mergeSort_perm _ _).mem_iff
theorem look_key {n : Nat} {l : PM} (h : RI n l) {k : List UInt8} (hk : k ∈ skeys l) : (look l k).Key = k := by
  obtain ⟨p, hp⟩ := Option.isSome_iff_exists.1 (skeys_mem.1 hk)
  unfold look
  rw [hp]
  exact (h.key k p hp).1
theorem listL_eq {n : Nat} {l : PM} (h : RI n l) (p : List UInt8) : listL p l = (skeys l).filter (pfx p) := by
  unfold listL pairsL
  rw [List.map_map]
  conv => rhs; rw [← List.map_id ((skeys l).filter (pfx p))]
  refine List.map_congr_left fun k hk => ?_
  exact look_key h (List.mem_filter.1 hk).1
theorem listL_mem {n : Nat} {l : PM} (h : RI n l) {p k : List UInt8} : k ∈ listL p l ↔ (mget l k).isSome = true ∧ pfx p k = true := by
  rw [listL_eq h, List.mem_filter, skeys_mem]
theorem pfx_take (k : List UInt8) (i : Nat) (h : i ≤ k.length) : pfx (k.take i) k = true := by
  unfold pfx
  simp [List.length_take, Nat.min_eq_left h]
  omega
end Go.Proofs.Ytgihkocnmgkihaa
