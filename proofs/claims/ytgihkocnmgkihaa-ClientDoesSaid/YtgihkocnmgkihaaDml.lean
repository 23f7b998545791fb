/-
  Layer 21: the document's machine: rows of sessions, rising: laws.
-/
import Derived.Test.YtgihkocnmgkihaaCap
namespace Go.Proofs.Ytgihkocnmgkihaa
open Go.HL
set_option linter.unusedSimpArgs false
set_option linter.unusedVariables false
theorem mget_find {β : Type} {T : List (Int × β)} {k : Int} {x : β} (h : mget T k = some x) : ∃ j : Nat, T[j]? = some (k, x) ∧ ∀ (i : Nat) (p : Int × β), i < j → T[i]? = some p → p.1 ≠ k := by
  induction T with
  | nil => rw [mget_nil] at h; cases h
  | cons q T ih =>
    rw [mget_cons] at h
    by_cases e : k = q.1
    · rw [if_pos e] at h
      cases h
      exact ⟨0, by rw [e]; rfl, fun i p hi => absurd hi (Nat.not_lt_zero _)⟩
    · rw [if_neg e] at h
      obtain ⟨j, h1, h2⟩ := ih h
      refine ⟨j + 1, by simpa using h1, fun i p hi hp => ?_⟩
      cases i with
      | zero =>
        simp only [List.getElem?_cons_zero, Option.some.injEq] at hp
        subst hp
        exact fun e2 => e e2.symm
      | succ i => exact h2 i p (by omega) (by simpa using hp)
theorem mget_set {β : Type} {T : List (Int × β)} {k : Int} {j : Nat} {x0 x : β} (hj : T[j]? = some (k, x0)) (hb : ∀ (i : Nat) (p : Int × β), i < j → T[i]? = some p → p.1 ≠ k) (q : Int) :
    mget (T.set j (k, x)) q = if q = k then some x else mget T q := by
  induction T generalizing j with
  | nil => simp at hj
  | cons t T ih =>
    cases j with
    | zero =>
      simp only [List.getElem?_cons_zero, Option.some.injEq] at hj
      subst hj
      rw [List.set_cons_zero, mget_cons, mget_cons]
      by_cases e : q = k <;> simp [e]
    | succ j =>
      rw [List.set_cons_succ, mget_cons, mget_cons, ih (by simpa using hj) (fun i p hi hp => hb (i + 1) p (by omega) (by simpa using hp))]
      have h0 := hb 0 t (by omega) (by simp)
      by_cases e : q = t.1
      · rw [if_pos e, if_pos e, if_neg (by rw [e]; exact h0)]
      · rw [if_neg e, if_neg e]
theorem mget_ins {β : Type} {A B : List (Int × β)} {k : Int} {x : β} (hA : ∀ p ∈ A, p.1 ≠ k) (q : Int) :
    mget (A ++ (k, x) :: B) q = if q = k then some x else mget (A ++ B) q := by
  induction A with
  | nil =>
    rw [List.nil_append, List.nil_append, mget_cons]
  | cons t A ih =>
    rw [List.cons_append, List.cons_append, mget_cons, mget_cons, ih (fun p hp => hA p (List.mem_cons_of_mem _ hp))]
    have h0 := hA t List.mem_cons_self
    by_cases e : q = t.1
    · rw [if_pos e, if_pos e, if_neg (by rw [e]; exact h0)]
    · rw [if_neg e, if_neg e]
/-- How the document's machine has the sessions. -/
structure DM (ss : SSL) (T : SM) (g : GB) : Prop where
  srt : (T.map (·.1)).Pairwise (fun a b : Int => a < b)
  get : ∀ k, mget (fgt T) k = mget ss k
  mem : ∀ p ∈ T, (p.2.kv, p.2.keys) ∈ g
theorem DM.zero : DM [] [] [] := ⟨List.Pairwise.nil, fun _ => rfl, fun p h => by cases h⟩
theorem DM.more {ss : SSL} {T : SM} {g : GB} (h : DM ss T g) (p : Go.Value × List (List UInt8)) : DM ss T (p :: g) := ⟨h.srt, h.get, fun q hq => List.mem_cons_of_mem _ (h.mem q hq)⟩
theorem DM.find {ss : SSL} {T : SM} {g : GB} (h : DM ss T g) {k : Int} {y : Int × RV} (hy : mget ss k = some y) : ∃ (j : Nat) (x : LV), T[j]? = some (k, x) ∧ x.f = y ∧ ∀ (i : Nat) (p : Int × LV), i < j → T[i]? = some p → p.1 ≠ k := by
  have h1 := h.get k
  rw [hy, mget_fgt] at h1
  cases hm : mget T k with
  | none => rw [hm] at h1; cases h1
  | some x =>
    rw [hm] at h1
    obtain ⟨j, h2, h3⟩ := mget_find hm
    exact ⟨j, x, h2, by simpa using h1, h3⟩
theorem DM.none {ss : SSL} {T : SM} {g : GB} (h : DM ss T g) {k : Int} (hy : mget ss k = none) : ∀ p ∈ T, p.1 ≠ k := fun p hp e => by
  have h1 := h.get k
  rw [hy, mget_fgt] at h1
  have h2 : (mget T k).isSome = true := mget_memI.1 (by rw [← e]; exact List.mem_map_of_mem hp)
  cases hm : mget T k with
  | none => rw [hm] at h2; cases h2
  | some x => rw [hm] at h1; cases h1
theorem DM.set {ss : SSL} {T : SM} {g : GB} (h : DM ss T g) {k : Int} {j : Nat} {x0 : LV} (hj : T[j]? = some (k, x0)) (hb : ∀ (i : Nat) (p : Int × LV), i < j → T[i]? = some p → p.1 ≠ k) (x : LV) (hx : (x.kv, x.keys) ∈ g) :
    DM (mput ss k x.f) (T.set j (k, x)) g := by
  refine ⟨?_, fun q => ?_, fun p hp => ?_⟩
  · have e : (T.set j (k, x)).map (·.1) = T.map (·.1) := by
      rw [List.map_set]
      have : (T.map (·.1))[j]? = some k := by rw [List.getElem?_map, hj]; rfl
      obtain ⟨h1, h2⟩ := List.getElem?_eq_some_iff.1 this
      rw [← h2]
      exact List.set_getElem_self h1
    rw [e]
    exact h.srt
  · rw [mget_fgt, mget_set hj hb, mget_mput, ← h.get, mget_fgt]
    by_cases e : q = k <;> simp [e]
  · rcases List.mem_or_eq_of_mem_set hp with hp | rfl
    · exact h.mem p hp
    · exact hx
/-- Where a session that is new stands. -/
structure Spot (T : SM) (k : Int) (i : Nat) : Prop where
  le : i ≤ T.length
  lo : ∀ (a : Nat) (p : Int × LV), a < i → T[a]? = some p → p.1 < k
  hi : ∀ p : Int × LV, T[i]? = some p → ¬ p.1 < k
theorem DM.ins {ss : SSL} {T : SM} {g : GB} (h : DM ss T g) {k : Int} {i : Nat} (hs : Spot T k i) (hn : ∀ p ∈ T, p.1 ≠ k) (x : LV) (hx : (x.kv, x.keys) ∈ g) :
    DM (mput ss k x.f) (T.take i ++ (k, x) :: T.drop i) g := by
  have hA : ∀ p ∈ T.take i, p.1 < k := fun p hp => by
    obtain ⟨a, ha⟩ := List.mem_iff_getElem?.1 hp
    rw [List.getElem?_take] at ha
    split at ha
    · exact hs.lo a p (by assumption) ha
    · cases ha
  have hB : ∀ p ∈ T.drop i, k < p.1 := fun p hp => by
    obtain ⟨a, ha⟩ := List.mem_iff_getElem?.1 hp
    rw [List.getElem?_drop] at ha
    obtain ⟨hl, he⟩ := List.getElem?_eq_some_iff.1 ha
    have hil : i < T.length := by omega
    have h0 := hs.hi T[i] (List.getElem?_eq_getElem hil)
    have h1 := hn T[i] (List.getElem_mem hil)
    have h2 : T[i].1 < p.1 ∨ a = 0 := by
      by_cases ha0 : a = 0
      · exact .inr ha0
      · refine .inl ?_
        have := List.pairwise_iff_getElem.1 h.srt i (i + a) (by rw [List.length_map]; exact hil) (by rw [List.length_map]; exact hl) (by omega)
        simp only [List.getElem_map] at this
        rw [he] at this
        exact this
    rcases h2 with h2 | h2
    · omega
    · subst h2
      have e : T[i] = p := he
      rw [← e]
      omega
  refine ⟨?_, fun q => ?_, fun p hp => ?_⟩
  · have e : T.map (·.1) = (T.take i).map (·.1) ++ (T.drop i).map (·.1) := by rw [← List.map_append, List.take_append_drop]
    have hsr := h.srt
    rw [e] at hsr
    rw [List.map_append, List.map_cons]
    rw [List.pairwise_append] at hsr ⊢
    obtain ⟨s1, s2, s3⟩ := hsr
    refine ⟨s1, List.Pairwise.cons ?_ s2, fun a ha b hb => ?_⟩
    · intro b hb
      obtain ⟨p, hp, rfl⟩ := List.mem_map.1 hb
      exact hB p hp
    · rcases List.mem_cons.1 hb with rfl | hb
      · obtain ⟨p, hp, rfl⟩ := List.mem_map.1 ha
        exact hA p hp
      · exact s3 a ha b hb
  · rw [mget_fgt, mget_ins (fun p hp => by have := hA p hp; omega), mget_mput, ← h.get, mget_fgt, List.take_append_drop]
    by_cases e : q = k <;> simp [e]
  · rcases List.mem_append.1 hp with hp | hp
    · exact h.mem p (List.mem_of_mem_take hp)
    · rcases List.mem_cons.1 hp with rfl | hp
      · exact hx
      · exact h.mem p (List.mem_of_mem_drop hp)
theorem DM.ids {n : Nat} {s : CS} {T : SM} {g : GB} (hi : CI n s) (h : DM s.ss T g) : T.map (·.1) = idsC s.ss := by
  have hn : (s.ss.map (·.1)).Nodup := hi.nod
  have hlt : (idsC s.ss).Pairwise (fun a b => a < b) := by
    have tr : ∀ a b c : Int, decide (a ≤ b) = true → decide (b ≤ c) = true → decide (a ≤ c) = true := by
      intro a b c h1 h2
      simp only [decide_eq_true_eq] at *
      exact Int.le_trans h1 h2
    have to : ∀ a b : Int, (decide (a ≤ b) || decide (b ≤ a)) = true := by
      intro a b
      simp only [Bool.or_eq_true, decide_eq_true_eq]
      exact Int.le_total a b
    have hle : (idsC s.ss).Pairwise (fun a b => a ≤ b) := by
      unfold idsC
      exact (List.pairwise_mergeSort (le := fun x y : Int => decide (x ≤ y)) tr to (s.ss.map (·.1))).imp (fun h => of_decide_eq_true h)
    have hnd : (idsC s.ss).Nodup := by
      unfold idsC
      exact (List.mergeSort_perm (s.ss.map (·.1)) (fun x y => decide (x ≤ y))).nodup_iff.2 hn
    exact List.Pairwise.imp (R := fun a b => a ≤ b ∧ a ≠ b) (fun h => by have := h.1; have := h.2; omega) (hle.and hnd)
  refine sorted_ext (r := fun a b : Int => a < b) (fun a => Int.lt_irrefl a) (fun a b h1 h2 => absurd (Int.lt_trans h1 h2) (Int.lt_irrefl a)) h.srt hlt fun k => ?_
  rw [idsC_mem, ← h.get, mget_fgt, mget_memI]
  cases mget T k <;> simp
theorem DM.at {s : CS} {T : SM} {g : GB} (h : DM s.ss T g) {p : Int × LV} (hp : p ∈ T) : s.get p.1 = p.2.f := by
  have hs : (mget T p.1).isSome = true := mget_memI.1 (List.mem_map_of_mem hp)
  obtain ⟨x, hx⟩ := Option.isSome_iff_exists.1 hs
  obtain ⟨j, hj, _⟩ := mget_find hx
  obtain ⟨a, ha⟩ := List.mem_iff_getElem?.1 hp
  obtain ⟨h1, h2⟩ := List.getElem?_eq_some_iff.1 hj
  obtain ⟨h3, h4⟩ := List.getElem?_eq_some_iff.1 ha
  have hx2 : x = p.2 := by
    rcases Nat.lt_trichotomy a j with hl | hl | hl
    · have := List.pairwise_iff_getElem.1 h.srt a j (by rw [List.length_map]; exact h3) (by rw [List.length_map]; exact h1) hl
      simp only [List.getElem_map] at this
      rw [h2, h4] at this
      have t : p.1 < p.1 := this
      omega
    · subst hl
      exact (congrArg Prod.snd (Option.some.inj (ha.symm.trans hj))).symm
    · have := List.pairwise_iff_getElem.1 h.srt j a (by rw [List.length_map]; exact h1) (by rw [List.length_map]; exact h3) hl
      simp only [List.getElem_map] at this
      rw [h2, h4] at this
      have t : p.1 < p.1 := this
      omega
  unfold CS.get
  rw [← h.get, mget_fgt, hx, hx2]
  rfl
theorem DM.bytes {n : Nat} {s : CS} {T : SM} {g : GB} (hi : CI n s) (h : DM s.ss T g) : sesB s (idsC s.ss) = T.flatMap fun p => sessB p.1 p.2.f := by
  rw [← h.ids hi]
  unfold sesB
  rw [List.flatMap_map]
  have : ∀ p ∈ T, sessB p.1 (s.get p.1) = sessB p.1 p.2.f := fun p hp => by rw [h.at hp]
  clear hi
  have key : ∀ (L : SM), (∀ p ∈ L, sessB p.1 (s.get p.1) = sessB p.1 p.2.f) → L.flatMap (fun a => sessB a.1 (s.get a.1)) = L.flatMap fun p => sessB p.1 p.2.f := by
    intro L
    induction L with
    | nil => intro _; rfl
    | cons q L ih =>
      intro hq
      rw [List.flatMap_cons, List.flatMap_cons, hq q List.mem_cons_self, ih fun p hp => hq p (List.mem_cons_of_mem _ hp)]
  exact key T this
theorem DM.sess {n : Nat} {s : CS} {T : SM} {g g2 : GB} {sl : SM} (hi : CI n s) (h : DM s.ss T g) (hh : HI s.ss sl g2) : sessL sl = T.map fun p => (p.1, p.2.num) := by
  unfold sessL
  rw [sids_ids, hh.fo, ← h.ids hi, List.map_map]
  refine List.map_congr_left fun p hp => ?_
  have h1 := hh.look s.l s.cnt p.1
  have h2 := h.at hp
  have h3 : (lookS sl p.1).f = p.2.f := h1.trans h2
  show (p.1, (lookS sl p.1).num) = (p.1, p.2.num)
  rw [show (lookS sl p.1).num = p.2.num from congrArg Prod.fst h3]
end Go.Proofs.Ytgihkocnmgkihaa
