/-
  Layer 16: the promises of some replicas, each once.
-/
import Derived.Test.YthoepbbpmdmfeaaTypes
import Derived.Test.YthoepbbpmdmfeaaHeapG
import Derived.Test.YthoepbbpmdmfeaaHeapH
namespace Go.Proofs.Ythoepbbpmdmfeaa
open Go.HL
set_option linter.unusedSimpArgs false
set_option linter.unusedVariables false
set_option maxRecDepth 8000
theorem und3 : Try.prog.underlying 3 = some (.int .i64) := rfl
theorem zero4 (w : Go.World) : (Go.zeroValue 4).run Try.prog w = .ok (B false) w := rfl
theorem map46 : mapTB Try.prog 46 3 4 = true := rfl
abbrev Seen := List (Int × Bool)
def seen (m : Seen) (r : Int) : Bool := (mget m r).getD false
theorem seen_put (m : Seen) (r q : Int) : seen (mput m r true) q = (decide (q = r) || seen m q) := by
  unfold seen; rw [mget_mput]
  by_cases h : q = r
  · simp [h]
  · simp [h]
def pk (L : List TMsg) (st : List TMsg × Seen) (r : Int) : List TMsg × Seen :=
  if 0 ≤ r ∧ r < L.length ∧ seen st.2 r = false then (st.1 ++ [L[r.toNat]?.getD TMsg.z], mput st.2 r true) else st
def picks (L : List TMsg) (qs : List Int) : List TMsg × Seen := qs.foldl (pk L) ([], [])
theorem picks_snoc (L : List TMsg) (qs : List Int) (r : Int) : picks L (qs ++ [r]) = pk L (picks L qs) r := by simp [picks]
theorem picks_le (L : List TMsg) (qs : List Int) : (picks L qs).1.length ≤ qs.length := by
  suffices h : ∀ (qs : List Int) (st : List TMsg × Seen), (qs.foldl (pk L) st).1.length ≤ st.1.length + qs.length by
    have := h qs ([], []); simpa [picks] using this
  intro qs
  induction qs with
  | nil => intro st; simp
  | cons r qs ih =>
    intro st
    rw [List.foldl_cons]
    refine Nat.le_trans (ih _) ?_
    unfold pk
    split
    · simp; omega
    · simp
/-- The numbers of what is picked. -/
structure Picked (L : List TMsg) (st : List TMsg × Seen) (ids : List Nat) : Prop where
  nodup : ids.Nodup
  lt : ∀ i ∈ ids, i < L.length
  out : st.1 = ids.map fun i => L[i]?.getD TMsg.z
  has : ∀ i : Nat, seen st.2 (i : Int) = true ↔ i ∈ ids
theorem picks_ids (L : List TMsg) (qs : List Int) : ∃ ids, Picked L (picks L qs) ids := by
  suffices h : ∀ (qs : List Int) (st : List TMsg × Seen), (∃ ids, Picked L st ids) → ∃ ids, Picked L (qs.foldl (pk L) st) ids from
    h qs ([], []) ⟨[], ⟨List.nodup_nil, by simp, rfl, fun i => by simp [seen, mget_nil]⟩⟩
  intro qs
  induction qs with
  | nil => intro st h; exact h
  | cons r qs ih =>
    intro st ⟨ids, h⟩
    rw [List.foldl_cons]
    apply ih
    unfold pk
    split
    · rename_i hc
      obtain ⟨h0, h1, h2⟩ := hc
      obtain ⟨k, rfl⟩ : ∃ k : Nat, r = (k : Int) := ⟨r.toNat, by omega⟩
      have hk : k ∉ ids := fun hk => by rw [(h.has k).2 hk] at h2; cases h2
      refine ⟨ids ++ [k], ?_, ?_, ?_, ?_⟩
      · rw [List.nodup_append]
        exact ⟨h.nodup, by simp, by intro a ha b hb; simp at hb; subst hb; intro he; subst he; exact hk ha⟩
      · intro i hi
        rcases List.mem_append.1 hi with hi | hi
        · exact h.lt i hi
        · simp at hi; omega
      · rw [List.map_append, ← h.out]; simp
      · intro i
        show seen (mput st.2 (k : Int) true) (i : Int) = true ↔ _
        rw [seen_put, Bool.or_eq_true, h.has i, List.mem_append, decide_eq_true_eq]
        simp only [List.mem_singleton]
        constructor
        · rintro (h | h)
          · exact .inr (by omega)
          · exact .inl h
        · rintro (h | h)
          · exact .inr h
          · exact .inl (by omega)
    · exact ⟨ids, h⟩
theorem nodup_le : ∀ (n : Nat) (ids : List Nat), ids.Nodup → (∀ i ∈ ids, i < n) → ids.length ≤ n := by
  intro n
  induction n with
  | zero =>
    intro ids _ h
    cases ids with
    | nil => simp
    | cons a t => exact absurd (h a (by simp)) (by omega)
  | succ n ih =>
    intro ids hn h
    have h1 := ih (ids.erase n) (hn.erase n) (fun i hi => by
      have h2 := (hn.mem_erase_iff).1 hi
      have := h i h2.2
      have := h2.1
      omega)
    rw [List.length_erase] at h1
    split at h1 <;> omega
theorem picks_small (L : List TMsg) (qs : List Int) : (picks L qs).1.length ≤ L.length := by
  obtain ⟨ids, h⟩ := picks_ids L qs
  rw [h.out, List.length_map]
  exact nodup_le _ _ h.nodup h.lt
theorem law16_pick (e e2 : Ent) (ao ao2 : Option Go.Addr) (cap b off cap2 b2 off2 : Nat) (L : List TMsg) (qs : List Int) (hR : Rd e ao L.length b off 25 (L.map TMsg.c)) (hR2 : Rd e2 ao2 qs.length b2 off2 1 (qs.map i64c)) (hL : L.length ≤ 1000) :
    Ct Try.prog 29 [.slice ao L.length cap, .slice ao2 qs.length cap2] [e, e2] (fun r σ' => ∃ v, r = v ∧ σ' = [rows TMsg.c v 44 25 (picks L qs).1, e, e2]) := by
  have hm := hR2.small
  simp only [Go.maxLen] at hm
  refine Ct.enter Try.func29 rfl rfl fun W => ?_
  refine Wp.nilRows TMsg.c 44 25 ?_
  apply Wp.seq
  apply Wp.region
  refine WpL.v (V.as) ?_
  apply WpL.nil
  apply Out.seqN
  apply Wp.seq
  apply Wp.region
  refine WpL.v (V.as) ?_
  apply WpL.nil
  apply Out.seqN
  apply Wp.seq
  apply Wp.region
  refine WpL.o (Op1.mkMap (fun n : Int => I n) (fun b : Bool => B b) rfl (fun p9 => ?_))
  refine WpL.v (V.as) ?_
  apply WpL.nil
  apply Out.seqN
  apply Wp.seq
  apply Wp.seq
  apply Wp.region
  refine WpL.v (V.mv) ?_
  refine WpL.v (V.lenL tb) ?_
  refine WpL.v (V.mv) ?_
  apply WpL.nil
  apply Out.seqN
  apply Wp.block
  refine Wp.lp [11, 10, 6, 0] (fun y : Nat × Go.Value => y.1 ≤ qs.length) (fun y => [(12, I (y.1 : Int)), (5, y.2)]) (fun y => [mapK (fun n : Int => I n) (fun b : Bool => B b) p9 (picks L (qs.take y.1)).2, rows TMsg.c y.2 44 25 (picks L (qs.take y.1)).1]) (fun y => qs.length - y.1) (0, .slice none 0 0) (Nat.zero_le _) ?_
  rintro ⟨i, v⟩ hi K hK
  dsimp only at hi
  dsimp only [List.cons_append, List.nil_append]
  by_cases hlt : i < qs.length
  · obtain ⟨r, hr⟩ := getS hlt
    have e1 := take_snocS hr
    have e2' : picks L (qs.take (i + 1)) = pk L (picks L (qs.take i)) r := by rw [e1, picks_snoc]
    have hle := picks_small L (qs.take i)
    generalize picks L (qs.take i) = st at *
    obtain ⟨o, m⟩ := st
    dsimp only at hle ⊢
    by_cases hc : 0 ≤ r ∧ r < L.length ∧ seen m r = false
    · have e3 : picks L (qs.take (i + 1)) = (o ++ [L[r.toNat]?.getD TMsg.z], mput m r true) := by rw [e2', pk, if_pos hc]
      obtain ⟨h0, h1, h2⟩ := hc
      obtain ⟨k, rfl⟩ : ∃ k : Nat, r = (k : Int) := ⟨r.toNat, by omega⟩
      obtain ⟨x, hx⟩ := getS (xs := L) (k := k) (by omega)
      rw [show L[((k : Int)).toNat]?.getD TMsg.z = x by simp [hx]] at e3
      unfold seen at h2
      apply Wp.seq
      apply Wp.region
      refine WpL.v (V.cmp) ?_
      apply WpL.nil
      apply Out.seqN
      apply Wp.seq
      refine Wp.c (fun hp10 => ?_) (fun hp10 => ?_)
      (try simp only [decide_eq_true_eq, decide_eq_false_iff_not, Bool.not_eq_true', Bool.not_eq_false', Bool.not_eq_true, Bool.not_eq_false, not_true_eq_false, not_false_eq_true, reduceCtorEq] at hp10)
      apply Wp.skip
      apply Out.seqN
      apply Wp.seq
      apply Wp.block
      apply Wp.seq
      apply Wp.region
      refine WpL.v (V.ixR tb rfl rfl (by assumption)) ?_
      refine WpL.v (V.rdF1 tb (o := 0) rfl hR2 (getMapS hr)) ?_
      refine WpL.v (V.as) ?_
      apply WpL.nil
      apply Out.seqN
      apply Wp.seq
      apply Wp.region
      refine WpL.v (V.mv) ?_
      refine WpL.v (V.cmp) ?_
      refine WpL.v (V.mv) ?_
      refine WpL.pt (fun hp11 => ?_) (fun hp11 => ?_)
      (try simp only [decide_eq_true_eq, decide_eq_false_iff_not, Bool.not_eq_true', Bool.not_eq_false', Bool.not_eq_true, Bool.not_eq_false, not_true_eq_false, not_false_eq_true, reduceCtorEq] at hp11)
      refine WpL.v (V.mv) ?_
      refine WpL.v (V.mv) ?_
      refine WpL.v (V.lenL tb) ?_
      refine WpL.v (V.cmp) ?_
      refine WpL.v (V.pT) ?_
      refine WpL.v (V.mv) ?_
      refine WpL.pt (fun hp12 => ?_) (fun hp12 => ?_)
      (try simp only [decide_eq_true_eq, decide_eq_false_iff_not, Bool.not_eq_true', Bool.not_eq_false', Bool.not_eq_true, Bool.not_eq_false, not_true_eq_false, not_false_eq_true, reduceCtorEq] at hp12)
      refine WpL.v (V.mv) ?_
      refine WpL.v (V.mv) ?_
      refine WpL.v (Val.lookD (l := m) (k := (k : Int)) (vf := fun b : Bool => B b) false (KeyOk.int und3) map46 zero4 rfl rfl (by (repeat first | exact List.Mem.head _ | apply List.Mem.tail))) ?_
      refine WpL.v (V.not) ?_
      refine WpL.v (V.pT) ?_
      apply WpL.nil
      apply Out.seqN
      refine Wp.c (fun hp13 => ?_) (fun hp13 => ?_)
      (try simp only [decide_eq_true_eq, decide_eq_false_iff_not, Bool.not_eq_true', Bool.not_eq_false', Bool.not_eq_true, Bool.not_eq_false, not_true_eq_false, not_false_eq_true, reduceCtorEq] at hp13)
      apply Wp.seq
      apply Wp.region
      refine WpL.v (V.mv) ?_
      refine WpL.v (V.mv) ?_
      refine WpL.v (V.mv) ?_
      refine WpL.v (V.ixR tb rfl rfl (by assumption)) ?_
      refine WpL.v (V.ldRA tb rfl (by assumption) (getMapS (by assumption))) ?_
      refine WpL.o (O.lit tb (fun p35 => ?_))
      refine WpL.o (O.apL tb rfl rfl (by (intro _; repeat first | exact Upd.here _ _ _ | apply Upd.there)) (SrcL.one (f := TMsg.c) (a := x) tb (by (repeat first | exact List.Mem.head _ | apply List.Mem.tail)) TMsg.ones) (fun g36 cap36 => ?_))
      refine WpL.v (V.as) ?_
      apply WpL.nil
      apply Out.seqN
      apply Wp.region
      refine WpL.v (V.mv) ?_
      refine WpL.v (V.mv) ?_
      refine WpL.o (Op1.updM (k := (k : Int)) (v := true) (vf := fun b : Bool => B b) (KeyOk.int und3) map46 rfl rfl rfl (by (repeat first | exact Upd.here _ _ _ | apply Upd.there)) ?_)
      apply WpL.nil
      apply Out.blockN
      apply Out.seqN
      apply Wp.region
      refine WpL.v (V.add) ?_
      refine WpL.v (V.mv) ?_
      apply WpL.nil
      rotate_left
      (try simp only [decide_eq_true_eq, decide_eq_false_iff_not, Bool.not_eq_true', Bool.not_eq_false', Bool.not_eq_true, Bool.not_eq_false, not_true_eq_false, not_false_eq_true, reduceCtorEq] at hp13)
      exact absurd (Eq.trans (Eq.symm hp13) (by assumption) : true = false) (by decide)
      (try simp only [decide_eq_true_eq, decide_eq_false_iff_not, Bool.not_eq_true', Bool.not_eq_false', Bool.not_eq_true, Bool.not_eq_false, not_true_eq_false, not_false_eq_true, reduceCtorEq] at hp12)
      (exfalso; omega)
      (try simp only [decide_eq_true_eq, decide_eq_false_iff_not, Bool.not_eq_true', Bool.not_eq_false', Bool.not_eq_true, Bool.not_eq_false, not_true_eq_false, not_false_eq_true, reduceCtorEq] at hp11)
      (exfalso; omega)
      (try simp only [decide_eq_true_eq, decide_eq_false_iff_not, Bool.not_eq_true', Bool.not_eq_false', Bool.not_eq_true, Bool.not_eq_false, not_true_eq_false, not_false_eq_true, reduceCtorEq] at hp10)
      (exfalso; omega)
      all_goals exact Out.ag hK (i + 1, .slice (some ⟨g36, 0, none⟩) (o ++ [x]).length cap36) (by show i + 1 ≤ _; omega) (by show qs.length - (i + 1) < qs.length - i; omega) (he := by (repeat (first | exact subEnv.nil | refine subEnv.cons rfl rfl ?_))) (hs := by rw [e3]; (repeat (first | exact Sel.nil | exact Rem.here | apply Sel.cons | apply Rem.there)))
    · have e3 : picks L (qs.take (i + 1)) = (o, m) := by rw [e2', pk, if_neg hc]
      unfold seen at hc
      apply Wp.seq
      apply Wp.region
      refine WpL.v (V.cmp) ?_
      apply WpL.nil
      apply Out.seqN
      apply Wp.seq
      refine Wp.c (fun hp20 => ?_) (fun hp20 => ?_)
      (try simp only [decide_eq_true_eq, decide_eq_false_iff_not, Bool.not_eq_true', Bool.not_eq_false', Bool.not_eq_true, Bool.not_eq_false, not_true_eq_false, not_false_eq_true, reduceCtorEq] at hp20)
      apply Wp.skip
      apply Out.seqN
      apply Wp.seq
      apply Wp.block
      apply Wp.seq
      apply Wp.region
      refine WpL.v (V.ixR tb rfl rfl (by assumption)) ?_
      refine WpL.v (V.rdF1 tb (o := 0) rfl hR2 (getMapS hr)) ?_
      refine WpL.v (V.as) ?_
      apply WpL.nil
      apply Out.seqN
      apply Wp.seq
      apply Wp.region
      refine WpL.v (V.mv) ?_
      refine WpL.v (V.cmp) ?_
      refine WpL.v (V.mv) ?_
      refine WpL.pt (fun hp21 => ?_) (fun hp21 => ?_)
      (try simp only [decide_eq_true_eq, decide_eq_false_iff_not, Bool.not_eq_true', Bool.not_eq_false', Bool.not_eq_true, Bool.not_eq_false, not_true_eq_false, not_false_eq_true, reduceCtorEq] at hp21)
      refine WpL.v (V.mv) ?_
      refine WpL.v (V.mv) ?_
      refine WpL.v (V.lenL tb) ?_
      refine WpL.v (V.cmp) ?_
      refine WpL.v (V.pT) ?_
      refine WpL.v (V.mv) ?_
      refine WpL.pt (fun hp22 => ?_) (fun hp22 => ?_)
      (try simp only [decide_eq_true_eq, decide_eq_false_iff_not, Bool.not_eq_true', Bool.not_eq_false', Bool.not_eq_true, Bool.not_eq_false, not_true_eq_false, not_false_eq_true, reduceCtorEq] at hp22)
      refine WpL.v (V.mv) ?_
      refine WpL.v (V.mv) ?_
      refine WpL.v (Val.lookD (l := m) (k := r) (vf := fun b : Bool => B b) false (KeyOk.int und3) map46 zero4 rfl rfl (by (repeat first | exact List.Mem.head _ | apply List.Mem.tail))) ?_
      refine WpL.v (V.not) ?_
      refine WpL.v (V.pT) ?_
      apply WpL.nil
      apply Out.seqN
      refine Wp.c (fun hp23 => ?_) (fun hp23 => ?_)
      (try simp only [decide_eq_true_eq, decide_eq_false_iff_not, Bool.not_eq_true', Bool.not_eq_false', Bool.not_eq_true, Bool.not_eq_false, not_true_eq_false, not_false_eq_true, reduceCtorEq] at hp23)
      apply Wp.seq
      apply Wp.region
      refine WpL.v (V.mv) ?_
      refine WpL.v (V.mv) ?_
      refine WpL.v (V.mv) ?_
      rotate_left
      (try simp only [decide_eq_true_eq, decide_eq_false_iff_not, Bool.not_eq_true', Bool.not_eq_false', Bool.not_eq_true, Bool.not_eq_false, not_true_eq_false, not_false_eq_true, reduceCtorEq] at hp23)
      apply Wp.skip
      apply Out.blockN
      apply Out.seqN
      apply Wp.region
      refine WpL.v (V.add) ?_
      refine WpL.v (V.mv) ?_
      apply WpL.nil
      rotate_left
      (try simp only [decide_eq_true_eq, decide_eq_false_iff_not, Bool.not_eq_true', Bool.not_eq_false', Bool.not_eq_true, Bool.not_eq_false, not_true_eq_false, not_false_eq_true, reduceCtorEq] at hp22)
      refine WpL.sk ?_
      refine WpL.sk ?_
      refine WpL.sk ?_
      refine WpL.sk ?_
      refine WpL.v (V.pF) ?_
      apply WpL.nil
      apply Out.seqN
      refine Wp.cF ?_
      apply Wp.skip
      apply Out.blockN
      apply Out.seqN
      apply Wp.region
      refine WpL.v (V.add) ?_
      refine WpL.v (V.mv) ?_
      apply WpL.nil
      rotate_left
      (try simp only [decide_eq_true_eq, decide_eq_false_iff_not, Bool.not_eq_true', Bool.not_eq_false', Bool.not_eq_true, Bool.not_eq_false, not_true_eq_false, not_false_eq_true, reduceCtorEq] at hp21)
      refine WpL.sk ?_
      refine WpL.sk ?_
      refine WpL.sk ?_
      refine WpL.sk ?_
      refine WpL.v (V.pF) ?_
      refine WpL.v (V.mv) ?_
      refine WpL.sk ?_
      refine WpL.sk ?_
      refine WpL.sk ?_
      refine WpL.sk ?_
      refine WpL.v (V.pF) ?_
      apply WpL.nil
      apply Out.seqN
      refine Wp.cF ?_
      apply Wp.skip
      apply Out.blockN
      apply Out.seqN
      apply Wp.region
      refine WpL.v (V.add) ?_
      refine WpL.v (V.mv) ?_
      apply WpL.nil
      rotate_left
      (try simp only [decide_eq_true_eq, decide_eq_false_iff_not, Bool.not_eq_true', Bool.not_eq_false', Bool.not_eq_true, Bool.not_eq_false, not_true_eq_false, not_false_eq_true, reduceCtorEq] at hp20)
      (exfalso; omega)
      · exact absurd ⟨hp21, hp22, hp23⟩ hc
      all_goals exact Out.ag hK (i + 1, _) (by show i + 1 ≤ _; omega) (by show qs.length - (i + 1) < qs.length - i; omega) (he := by (repeat (first | exact subEnv.nil | refine subEnv.cons rfl rfl ?_))) (hs := by rw [e3]; (repeat (first | exact Sel.nil | exact Rem.here | apply Sel.cons | apply Rem.there)))
  · obtain rfl : i = qs.length := by omega
    rw [List.take_length]
    apply Wp.seq
    apply Wp.region
    refine WpL.v (V.cmp) ?_
    apply WpL.nil
    apply Out.seqN
    apply Wp.seq
    refine Wp.c (fun hp30 => ?_) (fun hp30 => ?_)
    (try simp only [decide_eq_true_eq, decide_eq_false_iff_not, Bool.not_eq_true', Bool.not_eq_false', Bool.not_eq_true, Bool.not_eq_false, not_true_eq_false, not_false_eq_true, reduceCtorEq] at hp30)
    (exfalso; omega)
    (try simp only [decide_eq_true_eq, decide_eq_false_iff_not, Bool.not_eq_true', Bool.not_eq_false', Bool.not_eq_true, Bool.not_eq_false, not_true_eq_false, not_false_eq_true, reduceCtorEq] at hp30)
    apply Wp.exit
    apply Out.seqE
    apply Out.seqE
    apply Out.blockE
    apply Out.seqN
    apply Wp.seq
    apply Wp.region
    refine WpL.v (V.mv) ?_
    refine WpL.v (V.as) ?_
    apply WpL.nil
    apply Out.seqN
    apply Wp.ret
    refine Out.e1 rfl ResIs.t ?_
    exact ⟨_, _, ⟨_, rfl, rfl⟩, (by (repeat (first | exact Sel.nil | exact Rem.here | apply Sel.cons | apply Rem.there)))⟩
abbrev IntT.c : Int → List Go.Value := i64c
def IntT.wf (x : Int) : Prop := In .i64 x
theorem IntT.leaves : leaves Try.prog 40 3 = some [.i .i64] := by kernel_rfl
theorem IntT.fit {cs : List Go.Value} (h0 : Fits [.i .i64] cs) : ∃ x : Int, cs = IntT.c x ∧ IntT.wf x := by
  obtain ⟨_, _, rfl, ⟨n0, rfl, w0⟩, h1⟩ := Fits.cons h0
  obtain rfl := Fits.nil h1
  exact ⟨n0, rfl, w0⟩
end Go.Proofs.Ythoepbbpmdmfeaa
