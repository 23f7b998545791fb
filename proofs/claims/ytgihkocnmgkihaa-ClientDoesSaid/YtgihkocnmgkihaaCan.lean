/-
  Layer 20: the registry as rows that rise by keys.
-/
import Derived.Test.YtgihkocnmgkihaaRegL
namespace Go.Proofs.Ytgihkocnmgkihaa
open Go.HL
set_option linter.unusedSimpArgs false
set_option linter.unusedVariables false
/-- Two rows that rise strictly and have the same members are the same. -/
theorem sorted_ext {α : Type} {r : α → α → Prop} (irr : ∀ a, ¬ r a a) (asy : ∀ a b, r a b → ¬ r b a) : ∀ {l1 l2 : List α}, l1.Pairwise r → l2.Pairwise r → (∀ x, x ∈ l1 ↔ x ∈ l2) → l1 = l2
  | [], [], _, _, _ => rfl
  | [], b :: l2, _, _, h => absurd ((h b).2 (by simp)) (by simp)
  | a :: l1, [], _, _, h => absurd ((h a).1 (by simp)) (by simp)
  | a :: l1, b :: l2, h1, h2, h => by
    rw [List.pairwise_cons] at h1 h2
    have hab : a = b := by
      rcases List.mem_cons.1 ((h a).1 (by simp)) with e | ha
      · exact e
      · rcases List.mem_cons.1 ((h b).2 (by simp)) with e | hb
        · exact e.symm
        · exact absurd (h1.1 b hb) (asy _ _ (h2.1 a ha))
    subst hab
    congr 1
    refine sorted_ext irr asy h1.2 h2.2 fun x => ⟨fun hx => ?_, fun hx => ?_⟩
    · rcases List.mem_cons.1 ((h x).1 (by simp [hx])) with rfl | hx2
      · exact absurd (h1.1 x hx) (irr x)
      · exact hx2
    · rcases List.mem_cons.1 ((h x).2 (by simp [hx])) with rfl | hx2
      · exact absurd (h2.1 x hx) (irr x)
      · exact hx2
def ltP (p q : RegistryPair) : Prop := p.Key < q.Key
theorem lt_irr (a : List UInt8) : ¬ a < a := List.lt_irrefl a
theorem lt_asy (a b : List UInt8) (h : a < b) : ¬ b < a := fun h2 => lt_irr a (List.lt_trans h h2)
theorem lt_of_le_ne {a b : List UInt8} (h : a ≤ b) (hne : a ≠ b) : a < b := by
  rcases Classical.em (a < b) with h1 | h1
  · exact h1
  · exact absurd (List.le_antisymm h (List.not_lt.1 h1)) hne
theorem lt_tri {a b : List UInt8} (hne : a ≠ b) : a < b ∨ b < a := by
  rcases List.le_total a b with h | h
  · exact .inl (lt_of_le_ne h hne)
  · exact .inr (lt_of_le_ne h (Ne.symm hne))
theorem skeys_le (l : PM) : (skeys l).Pairwise (fun a b => a ≤ b) := by
  have tr : ∀ a b c : List UInt8, decide (a ≤ b) = true → decide (b ≤ c) = true → decide (a ≤ c) = true := by
    intro a b c h1 h2
    simp only [decide_eq_true_eq] at *
    exact List.le_trans h1 h2
  have to : ∀ a b : List UInt8, (decide (a ≤ b) || decide (b ≤ a)) = true := by
    intro a b
    simp only [Bool.or_eq_true, decide_eq_true_eq]
    exact List.le_total a b
  exact (List.pairwise_mergeSort (le := fun x y : List UInt8 => decide (x ≤ y)) tr to (l.map (·.1))).imp (fun h => of_decide_eq_true h)
theorem skeys_lt {l : PM} (h : (l.map (·.1)).Nodup) : (skeys l).Pairwise (fun a b => a < b) := by
  have hn : (skeys l).Nodup := by
    unfold skeys
    exact (List.mergeSort_perm (l.map (·.1)) (fun x y => decide (x ≤ y))).nodup_iff.2 h
  exact List.Pairwise.imp (R := fun a b => a ≤ b ∧ a ≠ b) (fun h => lt_of_le_ne h.1 h.2) ((skeys_le l).and hn)
abbrev RL := List RegistryPair
def canon (l : PM) : RL := (skeys l).map (look l)
theorem canon_len (l : PM) : (canon l).length = l.length := by unfold canon; rw [List.length_map, skeys_len]
theorem canon_keys {n : Nat} {l : PM} (h : RI n l) : (canon l).map (·.Key) = skeys l := by
  unfold canon
  rw [List.map_map]
  conv => rhs; rw [← List.map_id (skeys l)]
  exact List.map_congr_left fun k hk => look_key h hk
theorem canon_lt {n : Nat} {l : PM} (h : RI n l) : (canon l).Pairwise ltP := by
  have h1 := skeys_lt h.nod
  rw [← canon_keys h] at h1
  exact (List.pairwise_map (f := fun p : RegistryPair => p.Key) (R := fun a b => a < b)).1 h1
theorem canon_mem {n : Nat} {l : PM} (h : RI n l) {p : RegistryPair} : p ∈ canon l ↔ mget l p.Key = some p := by
  unfold canon
  rw [List.mem_map]
  constructor
  · rintro ⟨k, hk, rfl⟩
    have hk2 := look_key h hk
    rw [hk2]
    obtain ⟨q, hq⟩ := Option.isSome_iff_exists.1 (skeys_mem.1 hk)
    unfold look
    rw [hq]; rfl
  · intro hp
    refine ⟨p.Key, skeys_mem.2 (by rw [hp]; rfl), ?_⟩
    unfold look
    rw [hp]; rfl
theorem canon_ext {n m : Nat} {l l' : PM} (h : RI n l) (h' : RI m l') (e : ∀ k, mget l k = mget l' k) : canon l = canon l' :=
  sorted_ext (r := ltP) (fun a => lt_irr _) (fun a b => lt_asy _ _) (canon_lt h) (canon_lt h') fun p => by rw [canon_mem h, canon_mem h', e]
theorem canon_nil : canon [] = [] := by simp [canon, skeys]
/-- The rows with one more key, or without one. -/
def setL (R : RL) (k v : List UInt8) (ver : Int) : RL := R.filter (fun p => decide (p.Key < k)) ++ ((if 0 < ver then [⟨k, v, ver⟩] else []) ++ R.filter (fun p => decide (k < p.Key)))
theorem setL_mem {R : RL} {k v : List UInt8} {ver : Int} {p : RegistryPair} : p ∈ setL R k v ver ↔ (p ∈ R ∧ p.Key ≠ k) ∨ (0 < ver ∧ p = ⟨k, v, ver⟩) := by
  unfold setL
  simp only [List.mem_append, List.mem_filter, decide_eq_true_eq]
  constructor
  · rintro (⟨h1, h2⟩ | h | ⟨h1, h2⟩)
    · exact .inl ⟨h1, fun e => lt_irr k (by rw [e] at h2; exact h2)⟩
    · split at h
      · exact .inr ⟨by assumption, by simpa using h⟩
      · simp at h
    · exact .inl ⟨h1, fun e => lt_irr k (by rw [e] at h2; exact h2)⟩
  · rintro (⟨h1, h2⟩ | ⟨h1, h2⟩)
    · rcases lt_tri h2 with h | h
      · exact .inl ⟨h1, h⟩
      · exact .inr (.inr ⟨h1, h⟩)
    · exact .inr (.inl (by rw [if_pos h1]; simpa using h2))
theorem setL_lt {R : RL} (h : R.Pairwise ltP) (k v : List UInt8) (ver : Int) : (setL R k v ver).Pairwise ltP := by
  unfold setL
  have key : ∀ p ∈ (if 0 < ver then [(⟨k, v, ver⟩ : RegistryPair)] else []), p.Key = k := by
    intro p hp
    split at hp
    · obtain rfl : p = ⟨k, v, ver⟩ := by simpa using hp
      rfl
    · simp at hp
  rw [List.pairwise_append, List.pairwise_append]
  refine ⟨h.filter _, ⟨?_, h.filter _, ?_⟩, ?_⟩
  · split <;> simp
  · intro a ha b hb
    simp only [List.mem_filter, decide_eq_true_eq] at hb
    show a.Key < b.Key
    rw [key a ha]
    exact hb.2
  · intro a ha b hb
    simp only [List.mem_filter, decide_eq_true_eq] at ha
    show a.Key < b.Key
    rcases List.mem_append.1 hb with hb | hb
    · rw [key b hb]; exact ha.2
    · simp only [List.mem_filter, decide_eq_true_eq] at hb
      exact List.lt_trans ha.2 hb.2
theorem setL_put {n : Nat} {l : PM} (h : RI n l) (k v : List UInt8) : setL (canon l) k v ((look l k).Version + 1) = canon (putL l k v) := by
  have hv := h.ver k
  refine sorted_ext (r := ltP) (fun a => lt_irr _) (fun a b => lt_asy _ _) (setL_lt (canon_lt h) _ _ _) (canon_lt (h.put k v)) fun p => ?_
  rw [setL_mem, canon_mem h, canon_mem (h.put k v)]
  unfold putL
  rw [mget_mput]
  by_cases e : p.Key = k
  · rw [if_pos e]
    constructor
    · rintro (⟨_, h2⟩ | ⟨_, h2⟩)
      · exact absurd e h2
      · rw [h2]
    · intro h2
      exact .inr ⟨by omega, by cases h2; rfl⟩
  · rw [if_neg e]
    constructor
    · rintro (⟨h1, _⟩ | ⟨_, h2⟩)
      · exact h1
      · exact absurd (by rw [h2]) e
    · intro h2
      exact .inl ⟨h2, e⟩
theorem setL_del {n : Nat} {l : PM} (h : RI n l) (k : List UInt8) : setL (canon l) k [] 0 = canon (mdel l k) := by
  refine sorted_ext (r := ltP) (fun a => lt_irr _) (fun a b => lt_asy _ _) (setL_lt (canon_lt h) _ _ _) (canon_lt (h.del k)) fun p => ?_
  rw [setL_mem, canon_mem h, canon_mem (h.del k), mget_mdel h.nod]
  by_cases e : p.Key = k
  · rw [if_pos e]
    constructor
    · rintro (⟨_, h2⟩ | ⟨h2, _⟩)
      · exact absurd e h2
      · exact absurd h2 (by decide)
    · intro h2; cases h2
  · rw [if_neg e]
    constructor
    · rintro (⟨h1, _⟩ | ⟨h2, _⟩)
      · exact h1
      · exact absurd h2 (by decide)
    · intro h2
      exact .inl ⟨h2, e⟩
/-- Where a key stands. -/
theorem canon_at {n : Nat} {l : PM} (h : RI n l) {k : List UInt8} {i : Nat} {p : RegistryPair} (hp : (canon l)[i]? = some p) (hk : p.Key = k) : mget l k = some p := by
  rw [← hk]; exact (canon_mem h).1 (List.mem_of_getElem? hp)
theorem canon_no {n : Nat} {l : PM} (h : RI n l) {k : List UInt8} (hk : k ∉ (canon l).map (·.Key)) : mget l k = none := by
  rw [canon_keys h, skeys_mem] at hk
  simpa using hk
/-- The texts are no longer than they may be. -/
def RZ (l : PM) : Prop := ∀ k p, mget l k = some p → p.Key.length + p.Value.length ≤ 100
theorem RZ.zero : RZ [] := fun k p h => by rw [mget_nil] at h; cases h
theorem RZ.put {l : PM} (h : RZ l) {k v : List UInt8} (hk : k.length + v.length ≤ 100) : RZ (putL l k v) := fun k2 p hp => by
  unfold putL at hp
  rw [mget_mput] at hp
  by_cases e : k2 = k
  · rw [if_pos e] at hp; cases hp; exact hk
  · rw [if_neg e] at hp; exact h k2 p hp
theorem RZ.del {l : PM} (hn : (l.map (·.1)).Nodup) (h : RZ l) (k : List UInt8) : RZ (mdel l k) := fun k2 p hp => by
  rw [mget_mdel hn] at hp
  split at hp
  · cases hp
  · exact h k2 p hp
theorem RZ.do_ {n : Nat} {l : PM} (hi : RI n l) (h : RZ l) {d : TDeed} (hd : d.Key.length + d.Value.length ≤ 100) : RZ (doN l d).2 := by
  unfold doN
  repeat' split
  all_goals first
    | exact h
    | exact h.put hd
    | exact RZ.del hi.nod h _
theorem RZ.mem {n : Nat} {l : PM} (hi : RI n l) (h : RZ l) {p : RegistryPair} (hp : p ∈ canon l) : p.Key.length + p.Value.length ≤ 100 ∧ 1 ≤ p.Version ∧ p.Version ≤ n := by
  have h1 := (canon_mem hi).1 hp
  exact ⟨h _ _ h1, (hi.key _ _ h1).2⟩
theorem pfx_nil (k : List UInt8) : pfx [] k = true := by simp [pfx]
theorem pairsL_nil (l : PM) : pairsL [] l = canon l := by
  unfold pairsL canon
  rw [List.filter_eq_self.2 (fun k _ => pfx_nil k)]
theorem pairsL_canon {n : Nat} {l : PM} (h : RI n l) (p : List UInt8) : pairsL p l = (canon l).filter (fun q => pfx p q.Key) := by
  unfold pairsL canon
  rw [List.filter_map]
  congr 1
  refine List.filter_congr fun k hk => ?_
  show pfx p k = pfx p (look l k).Key
  rw [look_key h hk]
theorem listL_canon {n : Nat} {l : PM} (h : RI n l) (p : List UInt8) : listL p l = ((canon l).map (·.Key)).filter (pfx p) := by
  rw [listL_eq h, canon_keys h]
end Go.Proofs.Ytgihkocnmgkihaa
