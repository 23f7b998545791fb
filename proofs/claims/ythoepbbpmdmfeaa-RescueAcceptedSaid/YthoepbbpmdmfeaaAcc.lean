/-
  Layer 16: what a majority accepted is chosen: laws.
-/
import Derived.Test.YthoepbbpmdmfeaaPick
import Derived.Test.YthoepbbpmdmfeaaRef
import Derived.Test.YthoepbbpmdmfeaaHeapJ
namespace Go.Proofs.Ythoepbbpmdmfeaa
open Go.HL
set_option linter.unusedSimpArgs false
set_option linter.unusedVariables false
set_option maxRecDepth 8000
def bad (vote : TBallot) (m : TMsg) : Prop := m.Status = 3 ∨ (m.Status = 2 ∧ bLt m.Vote vote = false) ∨ (m.Status = 1 ∧ bLt vote m.Vote = true)
instance (vote : TBallot) (m : TMsg) : Decidable (bad vote m) := by unfold bad; infer_instance
def acc1 (vote : TBallot) (k : Nat) (m : TMsg) : TMsg := if bad vote { m with From := (k : Int) } then { m with From := (k : Int), Status := 0 } else { m with From := (k : Int) }
def accs (vote : TBallot) (xs : List TMsg) (k : Nat) : List TMsg := (List.range k).map (fun i => acc1 vote i (xs[i]?.getD TMsg.z)) ++ xs.drop k
theorem accs_len (vote : TBallot) {xs : List TMsg} {k : Nat} (h : k ≤ xs.length) : (accs vote xs k).length = xs.length := by simp [accs]; omega
theorem accs_at {vote : TBallot} {xs : List TMsg} {k : Nat} {y : TMsg} (h : xs[k]? = some y) : (accs vote xs k)[k]? = some y := by
  unfold accs
  rw [List.getElem?_append_right (by simp), List.getElem?_drop]
  simpa using h
theorem accs_set {vote : TBallot} {xs : List TMsg} {k : Nat} {y : TMsg} (h : xs[k]? = some y) : (accs vote xs k).set k (acc1 vote k y) = accs vote xs (k + 1) := by
  have hl := (List.getElem?_eq_some_iff.1 h).1
  have hd : xs.drop k = y :: xs.drop (k + 1) := by
    rw [List.drop_eq_getElem_cons hl]
    rw [List.getElem?_eq_getElem hl] at h
    rw [Option.some.inj h]
  unfold accs
  rw [List.set_append, if_neg (by simp), List.range_succ, List.map_append, hd]
  simp only [List.length_map, List.length_range, Nat.sub_self, List.set_cons_zero, List.map_cons, List.map_nil, h, Option.getD_some, List.append_assoc]
  rfl
theorem accs_get {vote : TBallot} {xs : List TMsg} {i : Nat} (h : i < xs.length) : ∃ m, (accs vote xs xs.length)[i]? = some (acc1 vote i m) := by
  refine ⟨xs[i]?.getD TMsg.z, ?_⟩
  unfold accs
  rw [List.getElem?_append_left (by simpa using h), List.getElem?_map, List.getElem?_range h]
  rfl
theorem acc1_ok (vote : TBallot) (k : Nat) (m : TMsg) : ¬ bad vote (acc1 vote k m) := by
  unfold acc1
  split
  · unfold bad; simp
  · assumption
def insIn (n : Int) (m : Seen) (r : Int) : Seen := if 0 ≤ r ∧ r < n then mput m r true else m
def ins (n : Int) (who : List Int) : Seen := who.foldl (insIn n) []
theorem ins_snoc (n : Int) (who : List Int) (r : Int) : ins n (who ++ [r]) = insIn n (ins n who) r := by simp [ins]
theorem mput_keys (l : Seen) (k : Int) (v : Bool) : ∀ q, q ∈ (mput l k v).map (·.1) ↔ q ∈ l.map (·.1) ∨ q = k := by
  induction l with
  | nil => intro q; rw [mput_nil]; simp
  | cons p l ih =>
    intro q
    rw [mput_cons]
    split
    · rename_i h; subst h; simp; intro h; exact .inl h
    · rw [List.map_cons, List.mem_cons, ih q, List.map_cons, List.mem_cons, or_assoc]
theorem mput_nodup {l : Seen} (h : (l.map (·.1)).Nodup) (k : Int) (v : Bool) : ((mput l k v).map (·.1)).Nodup := by
  induction l with
  | nil => rw [mput_nil]; simp
  | cons p l ih =>
    rw [List.map_cons, List.nodup_cons] at h
    rw [mput_cons]
    split
    · rename_i hk; subst hk; rw [List.map_cons, List.nodup_cons]; exact h
    · rename_i hk
      rw [List.map_cons, List.nodup_cons]
      refine ⟨fun hc => ?_, ih h.2⟩
      rcases (mput_keys l k v p.1).1 hc with hc | hc
      · exact h.1 hc
      · exact hk hc.symm
structure Ins (n : Int) (l : Seen) : Prop where
  nodup : (l.map (·.1)).Nodup
  range : ∀ q, q ∈ l.map (·.1) → 0 ≤ q ∧ q < n
theorem ins_ok (n : Int) (who : List Int) : Ins n (ins n who) := by
  suffices h : ∀ (who : List Int) (l : Seen), Ins n l → Ins n (who.foldl (insIn n) l) from h who [] ⟨by simp, by simp⟩
  intro who
  induction who with
  | nil => intro l h; exact h
  | cons r who ih =>
    intro l h
    rw [List.foldl_cons]
    apply ih
    unfold insIn
    split
    · rename_i hr
      refine ⟨mput_nodup h.nodup r true, fun q hq => ?_⟩
      rcases (mput_keys l r true q).1 hq with hq | rfl
      · exact h.range q hq
      · exact hr
    · exact h
def yes (vote : TBallot) (call : TCall) (m : TMsg) : TMsg := { m with Status := 2, Vote := vote, Call := call }
/-- While the map is gone over. -/
structure Mid (vote : TBallot) (call : TCall) (base : List TMsg) (l todo : Seen) (L : List TMsg) : Prop where
  len : L.length = base.length
  or : ∀ (i : Nat) (y : TMsg), base[i]? = some y → L[i]? = some y ∨ L[i]? = some (yes vote call y)
  no : ∀ (i : Nat), (i : Int) ∉ l.map (·.1) → L[i]? = base[i]?
  ok : ∀ (i : Nat) (y : TMsg), base[i]? = some y → (i : Int) ∈ l.map (·.1) → (i : Int) ∉ todo.map (·.1) → L[i]? = some (yes vote call y)
  sub : ∀ p, p ∈ todo → p ∈ l
theorem Mid.start (vote : TBallot) (call : TCall) (base : List TMsg) (l : Seen) : Mid vote call base l l base :=
  ⟨rfl, fun i y h => .inl h, fun i _ => rfl, fun i y _ h1 h2 => absurd h1 h2, fun p h => h⟩
theorem Mid.next {vote : TBallot} {call : TCall} {base : List TMsg} {l todo : Seen} {L : List TMsg} (h : Mid vote call base l todo L) {j : Nat} {p : Int × Bool} (hj : todo[j]? = some p) {i : Nat} (hi : p.1 = (i : Int)) {z : TMsg} (hz : L[i]? = some z) :
    Mid vote call base l (todo.eraseIdx j) (L.set i (yes vote call z)) := by
  have hil := (List.getElem?_eq_some_iff.1 hz).1
  have hpl : (i : Int) ∈ l.map (·.1) := List.mem_map.2 ⟨p, h.sub p (List.mem_of_getElem? hj), hi⟩
  have hyy : ∀ y, base[i]? = some y → yes vote call z = yes vote call y := fun y hy => by
    rcases h.or i y hy with h1 | h1
    · rw [hz] at h1; rw [Option.some.inj h1]
    · rw [hz] at h1; rw [Option.some.inj h1]; rfl
  refine ⟨by rw [List.length_set, h.len], fun k y hy => ?_, fun k hk => ?_, fun k y hy hk hn => ?_, fun q hq => h.sub q (List.mem_of_mem_eraseIdx hq)⟩
  · rw [List.getElem?_set]
    by_cases e : i = k
    · subst e; rw [if_pos rfl, if_pos hil, hyy y hy]; exact .inr rfl
    · rw [if_neg e]; exact h.or k y hy
  · rw [List.getElem?_set]
    by_cases e : i = k
    · subst e; exact absurd hpl hk
    · rw [if_neg e]; exact h.no k hk
  · rw [List.getElem?_set]
    by_cases e : i = k
    · subst e; rw [if_pos rfl, if_pos hil, hyy y hy]
    · rw [if_neg e]
      refine h.ok k y hy hk fun hc => hn ?_
      obtain ⟨q, hq, hqk⟩ := List.mem_map.1 hc
      refine List.mem_map.2 ⟨q, ?_, hqk⟩
      obtain ⟨t, ht⟩ := List.getElem?_of_mem hq
      have htj : t ≠ j := by
        rintro rfl
        rw [hj] at ht
        have := Option.some.inj ht
        subst this
        omega
      rw [List.mem_iff_getElem?]
      by_cases hlt : t < j
      · exact ⟨t, by rw [List.getElem?_eraseIdx, if_pos hlt]; exact ht⟩
      · exact ⟨t - 1, by rw [List.getElem?_eraseIdx, if_neg (by omega), show t - 1 + 1 = t by omega]; exact ht⟩
theorem accepted_law {n : Int} {f : Nat} (hn : n = 2 * (f : Int) + 1) (hf : faults n = (f : Int)) (x : TItem) {vote : TBallot} {call : TCall} {xs : List TMsg} (hx : (xs.length : Int) = n) {l : Seen} (hl : Ins n l) {L : List TMsg}
    (h : Mid vote call (accs vote xs xs.length) l [] L) (qs : List Int) (h1 : f + 1 ≤ l.length) (h2 : f + 1 ≤ (picks L qs).1.length) : choose n x (picks L qs).1 = (2, call) := by
  have hal := accs_len vote (Nat.le_refl xs.length)
  have hLn : (L.length : Int) = n := by rw [h.len, hal, hx]
  obtain ⟨ids, hp⟩ := picks_ids L qs
  have hidl : f + 1 ≤ ids.length := by rw [hp.out, List.length_map] at h2; exact h2
  -- one that is in both
  have hcom : ∃ i, i ∈ ids ∧ (i : Int) ∈ l.map (·.1) := by
    refine Classical.byContradiction fun hc => ?_
    have hc2 : ∀ i, i ∈ ids → (i : Int) ∉ l.map (·.1) := fun i hi hm => hc ⟨i, hi, hm⟩
    have hnd : (ids ++ (l.map (·.1)).map Int.toNat).Nodup := by
      rw [List.nodup_append]
      refine ⟨hp.nodup, ?_, ?_⟩
      · have := hl.nodup
        rw [List.nodup_iff_pairwise_ne, List.pairwise_map]
        exact List.Pairwise.imp_of_mem (fun {a b} ha hb hab hc => hab (by
          have := (hl.range a ha).1; have := (hl.range b hb).1; omega)) (List.nodup_iff_pairwise_ne.1 this)
      · intro a ha b hb hab
        subst hab
        obtain ⟨q, hq, hqa⟩ := List.mem_map.1 hb
        have := (hl.range q hq).1
        exact hc2 a ha (by rw [← hqa, show ((q.toNat : Nat) : Int) = q by omega]; exact hq)
    have hle := nodup_le L.length _ hnd (fun i hi => by
      rcases List.mem_append.1 hi with hi | hi
      · exact hp.lt i hi
      · obtain ⟨q, hq, hqa⟩ := List.mem_map.1 hi
        have := hl.range q hq
        omega)
    rw [List.length_append, List.length_map, List.length_map] at hle
    omega
  have hmem : ∀ a, a ∈ (picks L qs).1 → ∃ i m, i < xs.length ∧ (L[i]? = some a) ∧ (a = acc1 vote i m ∨ a = yes vote call (acc1 vote i m)) := by
    intro a ha
    rw [hp.out] at ha
    obtain ⟨i, hi, rfl⟩ := List.mem_map.1 ha
    have hil := hp.lt i hi
    obtain ⟨m, hm⟩ := accs_get (vote := vote) (xs := xs) (i := i) (by omega)
    obtain ⟨a, hLa⟩ := getS hil
    refine ⟨i, m, by omega, by rw [hLa]; rfl, ?_⟩
    rw [hLa, Option.getD_some]
    rcases h.or i _ hm with h3 | h3
    · rw [hLa] at h3; exact .inl (Option.some.inj h3)
    · rw [hLa] at h3; exact .inr (Option.some.inj h3)
  obtain ⟨i0, hi0, hi0l⟩ := hcom
  obtain ⟨m0, hm0⟩ := accs_get (vote := vote) (xs := xs) (i := i0) (by have := hp.lt i0 hi0; omega)
  have hy0 := h.ok i0 _ hm0 hi0l (by simp)
  have hin0 : yes vote call (acc1 vote i0 m0) ∈ (picks L qs).1 := by
    rw [hp.out]
    exact List.mem_map.2 ⟨i0, hi0, by rw [hy0]; rfl⟩
  have s3 : hi 3 (picks L qs).1 = none := by
    have hs := hi_spec 3 (picks L qs).1
    cases hh : hi 3 (picks L qs).1 with
    | none => rfl
    | some a =>
      rw [hh] at hs
      obtain ⟨i, g1, g2, _⟩ := hs
      obtain ⟨k, m, _, _, g3⟩ := hmem a (List.mem_of_getElem? g1)
      rcases g3 with rfl | rfl
      · exact absurd (.inl g2) (acc1_ok vote k m)
      · exact absurd g2 (by show ¬ (2 : Int) = 3; decide)
  have s2 : ∃ a, hi 2 (picks L qs).1 = some a ∧ a.Vote = vote ∧ a.Call = call := by
    have hs := hi_spec 2 (picks L qs).1
    cases hh : hi 2 (picks L qs).1 with
    | none =>
      rw [hh] at hs
      exact absurd rfl (hs _ hin0)
    | some a =>
      rw [hh] at hs
      obtain ⟨i, g1, g2, g3⟩ := hs
      refine ⟨a, rfl, ?_⟩
      obtain ⟨k, m, _, _, g4⟩ := hmem a (List.mem_of_getElem? g1)
      rcases g4 with rfl | rfl
      · exfalso
        obtain ⟨k0, hk0⟩ := List.getElem?_of_mem hin0
        have := (g3 k0 _ hk0 rfl).1
        have hb : bLt (acc1 vote k m).Vote vote = true := by
          cases hb : bLt (acc1 vote k m).Vote vote with
          | true => rfl
          | false => exact absurd (.inr (.inl ⟨g2, hb⟩)) (acc1_ok vote k m)
        rw [show (yes vote call (acc1 vote i0 m0)).Vote = vote from rfl, hb] at this
        cases this
      · exact ⟨rfl, rfl⟩
  obtain ⟨a, ha, hav, hac⟩ := s2
  have sa : accd (picks L qs).1 = some a := by
    unfold accd
    rw [ha]
    have hs := hi_spec 1 (picks L qs).1
    cases hh : hi 1 (picks L qs).1 with
    | none => rfl
    | some p =>
      rw [hh] at hs
      obtain ⟨i, g1, g2, _⟩ := hs
      obtain ⟨k, m, _, _, g4⟩ := hmem p (List.mem_of_getElem? g1)
      have : bLt a.Vote p.Vote = false := by
        rcases g4 with rfl | rfl
        · rw [hav]
          cases hb : bLt vote (acc1 vote k m).Vote with
          | false => rfl
          | true => exact absurd (.inr (.inr ⟨g2, hb⟩)) (acc1_ok vote k m)
        · exact absurd g2 (by show ¬ (2 : Int) = 1; decide)
      simp [this]
  unfold choose
  rw [if_neg (by rw [hf]; omega), s3]
  simp only [sa, hac]
end Go.Proofs.Ythoepbbpmdmfeaa
