/-
  The statement LatticeForward of layer 13: whatever is done, what comes follows what was. Proved for every input.
-/
import Derived.Test.YtienlncaffliaaaBal3
namespace Go.Proofs.Ytienlncaffliaaa
open Go.HL
set_option linter.unusedSimpArgs false
set_option linter.unusedVariables false
set_option maxRecDepth 8000
theorem follows_iff (a b : TInst) : follows a b = true ↔ ¬ refLess b.Promised a.Promised = true ∧ ¬ refLess b.Vote a.Vote = true ∧
    (if a.Status = 3 then b.Status = 3 ∧ a.Call = b.Call ∧ a.Vote = b.Vote else a.Vote ≠ b.Vote ∨ b.Status = 3 ∨ (if a.Status = b.Status then a.Call = b.Call ∧ a.Same = b.Same else a.Status < b.Status)) := by
  unfold follows
  by_cases h1 : refLess b.Promised a.Promised = true ∨ refLess b.Vote a.Vote = true
  · rw [if_pos h1]
    refine ⟨fun h => absurd h (by simp), fun h => absurd h1 ?_⟩
    rintro (h2 | h2)
    · exact h.1 h2
    · exact h.2.1 h2
  · rw [if_neg h1]
    have g1 : ¬ refLess b.Promised a.Promised = true := fun h => h1 (.inl h)
    have g2 : ¬ refLess b.Vote a.Vote = true := fun h => h1 (.inr h)
    by_cases h3 : a.Status = 3
    · rw [if_pos h3, if_pos h3, decide_eq_true_eq]
      exact ⟨fun h => ⟨g1, g2, h⟩, fun h => h.2.2⟩
    · rw [if_neg h3, if_neg h3]
      by_cases h4 : a.Vote ≠ b.Vote ∨ b.Status = 3
      · rw [if_pos h4]
        exact ⟨fun _ => ⟨g1, g2, h4.elim .inl (fun h => .inr (.inl h))⟩, fun _ => rfl⟩
      · rw [if_neg h4]
        by_cases h5 : a.Status = b.Status
        · rw [if_pos h5, if_pos h5, decide_eq_true_eq]
          exact ⟨fun h => ⟨g1, g2, .inr (.inr h)⟩, fun h => (h.2.2.resolve_left (fun h => h4 (.inl h))).resolve_left (fun h => h4 (.inr h))⟩
        · rw [if_neg h5, if_neg h5, decide_eq_true_eq]
          exact ⟨fun h => ⟨g1, g2, .inr (.inr h)⟩, fun h => (h.2.2.resolve_left (fun h => h4 (.inl h))).resolve_left (fun h => h4 (.inr h))⟩
theorem refLess_irr {a b c : TBallot} (h1 : ¬ refLess b a = true) (h2 : ¬ refLess c b = true) : ¬ refLess c a = true := by
  rw [refLess_iff] at *; omega
theorem refLess_anti {a b : TBallot} (h1 : ¬ refLess b a = true) (h2 : ¬ refLess a b = true) : a = b := by
  rw [refLess_iff] at *
  exact TBallot.ext' (by omega) (by omega)
theorem refLess_le {a b : TBallot} (h : refLess a b = true) : ¬ refLess b a = true := by
  rw [refLess_iff] at *; omega
theorem follows_trans {a b c : TInst} (h1 : follows a b = true) (h2 : follows b c = true) : follows a c = true := by
  rw [follows_iff] at *
  obtain ⟨p1, v1, s1⟩ := h1
  obtain ⟨p2, v2, s2⟩ := h2
  refine ⟨refLess_irr p1 p2, refLess_irr v1 v2, ?_⟩
  by_cases ha : a.Status = 3
  · rw [if_pos ha] at s1 ⊢
    rw [if_pos s1.1] at s2
    exact ⟨s2.1, s1.2.1.trans s2.2.1, s1.2.2.trans s2.2.2⟩
  · rw [if_neg ha] at s1 ⊢
    by_cases hv : a.Vote = c.Vote
    · have hb : a.Vote = b.Vote := refLess_anti v1 (hv ▸ v2)
      have hbc : b.Vote = c.Vote := hb.symm.trans hv
      by_cases hc : c.Status = 3
      · exact .inr (.inl hc)
      · refine .inr (.inr ?_)
        by_cases hb3 : b.Status = 3
        · rw [if_pos hb3] at s2; exact absurd s2.1 hc
        · rw [if_neg hb3] at s2
          have t1 := (s1.resolve_left (fun h => h hb)).resolve_left hb3
          have t2 := (s2.resolve_left (fun h => h hbc)).resolve_left hc
          by_cases e1 : a.Status = b.Status
          · rw [if_pos e1] at t1
            by_cases e2 : b.Status = c.Status
            · rw [if_pos e2] at t2
              rw [if_pos (e1.trans e2)]
              exact ⟨t1.1.trans t2.1, t1.2.trans t2.2⟩
            · rw [if_neg e2] at t2
              rw [if_neg (by omega)]; omega
          · rw [if_neg e1] at t1
            by_cases e2 : b.Status = c.Status
            · rw [if_neg (by omega)]; omega
            · rw [if_neg e2] at t2
              rw [if_neg (by omega)]; omega
    · exact .inl hv
theorem follows_self (a : TInst) : follows a a = true := by
  rw [follows_iff]
  simp [refLess_self]
def Below (i : TInst) : Prop := ¬ refLess i.Promised i.Vote = true
theorem promise_law (i : TInst) (b : TBallot) (h : Below i) : Below (promise i b).1 ∧ follows i (promise i b).1 = true := by
  unfold promise
  split
  · exact ⟨h, follows_self i⟩
  · rename_i hb
    refine ⟨refLess_irr h hb, ?_⟩
    rw [follows_iff]
    refine ⟨hb, by simp [refLess_self], ?_⟩
    simp
theorem voteOf_law (i : TInst) (b : TBallot) (s : Int) (c : TCall) (x : Bool) (h : Below i) : Below (voteOf i b s c x).1 ∧ follows i (voteOf i b s c x).1 = true := by
  unfold voteOf
  split
  · exact ⟨h, follows_self i⟩
  · rename_i hb
    have hb1 : ¬ refLess b i.Promised = true := fun h0 => hb (.inl h0)
    have hb2 : ¬ i.Status = 3 := fun h0 => hb (.inr h0)
    split
    · refine ⟨refLess_irr h hb1, ?_⟩
      rw [follows_iff]
      exact ⟨hb1, by simp [refLess_self], by simp⟩
    · rename_i hv
      refine ⟨by simp [Below, refLess_self], ?_⟩
      rw [follows_iff]
      refine ⟨hb1, refLess_irr h hb1, ?_⟩
      rw [if_neg hb2]
      by_cases he : i.Vote = b
      · refine .inr ?_
        have : ¬ s ≤ i.Status := fun h0 => hv ⟨he, h0⟩
        dsimp only
        refine .inr ?_
        rw [if_neg (by omega)]; omega
      · exact .inl he
theorem commitOf_law (i : TInst) (c : TCall) (h : Below i) : Below (commitOf i c).1 ∧ follows i (commitOf i c).1 = true := by
  unfold commitOf
  split
  · exact ⟨h, follows_self i⟩
  · rename_i hs
    refine ⟨h, ?_⟩
    rw [follows_iff]
    refine ⟨by simp [refLess_self], by simp [refLess_self], ?_⟩
    rw [if_neg hs]
    exact .inr (.inl rfl)
theorem does_law (i : TInst) (s : Step) (h : Below i) : Below (does i s).1 ∧ follows i (does i s).1 = true := by
  unfold does
  (repeat' split)
  · exact promise_law i _ h
  · exact voteOf_law i _ _ _ _ h
  · exact voteOf_law i _ _ _ _ h
  · exact commitOf_law i _ h
structure FS where
  k : Nat
  i : TInst
  seen : List TInst
  g : Nat
  cap : Nat
theorem latticeForward_walk (e : Ent) (ao : Option Go.Addr) (cap b off : Nat) (xs : List Step) (hR : Rd e ao xs.length b off 18 (xs.map Caucuslaw13Step.c)) :
    Ct Try.prog 16 [.slice ao xs.length cap] [e] (fun v σ' => v = B true ∧ σ' = [e]) := by
  refine Ct.enter Try.func16 rfl rfl fun W => ?_
  apply Wp.seq
  apply Wp.region
  refine WpL.v (V.as) ?_
  apply WpL.nil
  apply Out.seqN
  apply Wp.seq
  apply Wp.seq
  apply Wp.region
  refine WpL.o (Op1.fn rfl (alive13) ?_)
  refine WpL.v (V.not) ?_
  apply WpL.nil
  apply Out.seqN
  refine Wp.cF ?_
  apply Wp.skip
  apply Out.seqN
  apply Wp.seq
  apply Wp.seq
  apply Wp.region
  refine WpL.v (V.mv) ?_
  refine WpL.v (V.lenL tb) ?_
  refine WpL.v (V.cmp) ?_
  apply WpL.nil
  apply Out.seqN
  refine Wp.c (fun ha0 => ?_) (fun ha0 => ?_)
  (try simp only [decide_eq_true_eq, decide_eq_false_iff_not, Bool.not_eq_true', Bool.not_eq_false', Bool.not_eq_true, Bool.not_eq_false, not_true_eq_false, not_false_eq_true, reduceCtorEq] at ha0)
  apply Wp.seq
  apply Wp.region
  refine WpL.v (V.as) ?_
  apply WpL.nil
  apply Out.seqN
  apply Wp.ret
  apply Out.seqR
  refine Out.f1 rfl ResIs.t ⟨?_, rfl⟩
  exact rfl
  (try simp only [decide_eq_true_eq, decide_eq_false_iff_not, Bool.not_eq_true', Bool.not_eq_false', Bool.not_eq_true, Bool.not_eq_false, not_true_eq_false, not_false_eq_true, reduceCtorEq] at ha0)
  apply Wp.skip
  apply Out.seqN
  apply Wp.seq
  apply Wp.region
  refine WpL.v (V.bld tb) ?_
  refine WpL.o (O.al tb (fun p3 => ?_))
  refine WpL.o (O.stA tb ?_)
  apply WpL.nil
  apply Out.seqN
  apply Wp.seq
  apply Wp.region
  refine WpL.v (V.ldA tb) ?_
  refine WpL.o (O.litL tb TInst.c [TInst.z] rfl (PartsFrom.last rfl) rfl rfl (fun p20 => ?_))
  refine WpL.v (V.as) ?_
  apply WpL.nil
  apply Out.seqN
  apply Wp.seq
  apply Wp.seq
  apply Wp.region
  refine WpL.v (V.mv) ?_
  refine WpL.v (V.lenL tb) ?_
  refine WpL.v (V.mv) ?_
  apply WpL.nil
  apply Out.seqN
  apply Wp.block
  refine Wp.lp [21, 22, 3, 0] (fun s : FS => s.k ≤ xs.length ∧ s.seen.length = s.k + 1 ∧ Below s.i ∧ ∀ w, w ∈ s.seen → follows w s.i = true) (fun s => [(23, I (s.k : Int)), (4, .slice (some ⟨s.g, 0, none⟩) s.seen.length s.cap)]) (fun s => [cells p3 45 s.i.c, rows TInst.c (.slice (some ⟨s.g, 0, none⟩) s.seen.length s.cap) 45 20 s.seen]) (fun s => xs.length - s.k) ⟨0, TInst.z, [TInst.z], p20, 1⟩ ⟨Nat.zero_le _, rfl, (by show ¬ refLess TInst.z.Promised TInst.z.Vote = true; decide), (by intro w hw; obtain rfl : w = TInst.z := (by simpa using hw); exact follows_self _)⟩ ?_
  rintro ⟨k, i, seen, g, cp⟩ ⟨hk, hsl, hB, hF⟩ K hK
  dsimp only at hk hsl hB hF
  dsimp only [List.cons_append, List.nil_append]
  by_cases hlt : k < xs.length
  · obtain ⟨x, hx⟩ := getS hlt
    obtain ⟨l1, l2⟩ := does_law i x hB
    have hF2 : ∀ w, w ∈ seen → follows w (does i x).1 = true := fun w hw => follows_trans (hF w hw) l2
    apply Wp.seq
    apply Wp.region
    refine WpL.v (V.cmp) ?_
    apply WpL.nil
    apply Out.seqN
    apply Wp.seq
    refine Wp.c (fun hb0 => ?_) (fun hb0 => ?_)
    (try simp only [decide_eq_true_eq, decide_eq_false_iff_not, Bool.not_eq_true', Bool.not_eq_false', Bool.not_eq_true, Bool.not_eq_false, not_true_eq_false, not_false_eq_true, reduceCtorEq] at hb0)
    apply Wp.skip
    apply Out.seqN
    apply Wp.seq
    apply Wp.block
    apply Wp.seq
    apply Wp.region
    refine WpL.v (V.ixR tb rfl rfl (by assumption)) ?_
    refine WpL.v (V.ldRA tb rfl (by assumption) (getMapS (by assumption))) ?_
    refine WpL.o (O.al tb (fun p6 => ?_))
    refine WpL.o (O.stA tb ?_)
    apply WpL.nil
    apply Out.seqN
    apply Wp.seq
    apply Wp.seq
    apply Wp.region
    refine WpL.v (V.fa tb) ?_
    refine WpL.v (V.fa tb) ?_
    refine WpL.v (V.ld1 tb) ?_
    refine WpL.v (V.cmp) ?_
    refine WpL.v (V.mv) ?_
    refine WpL.pt (fun hb1 => ?_) (fun hb1 => ?_)
    (try simp only [decide_eq_true_eq, decide_eq_false_iff_not, Bool.not_eq_true', Bool.not_eq_false', Bool.not_eq_true, Bool.not_eq_false, not_true_eq_false, not_false_eq_true, reduceCtorEq] at hb1)
    refine WpL.sk ?_
    refine WpL.sk ?_
    refine WpL.sk ?_
    refine WpL.sk ?_
    refine WpL.v (V.pT) ?_
    apply WpL.nil
    apply Out.seqN
    refine Wp.cT ?_
    apply Wp.seq
    apply Wp.region
    refine WpL.v (V.as) ?_
    apply WpL.nil
    apply Out.seqN
    apply Wp.ret
    apply Out.seqR
    apply Out.blockR
    apply Out.seqR
    apply Out.seqR
    apply Out.blockR
    apply Out.seqR
    refine Out.f1 rfl ResIs.t ⟨?_, rfl⟩
    exact rfl
    (try simp only [decide_eq_true_eq, decide_eq_false_iff_not, Bool.not_eq_true', Bool.not_eq_false', Bool.not_eq_true, Bool.not_eq_false, not_true_eq_false, not_false_eq_true, reduceCtorEq] at hb1)
    refine WpL.v (V.fa tb) ?_
    refine WpL.v (V.fa tb) ?_
    refine WpL.v (V.ld1 tb) ?_
    refine WpL.v (V.cmp) ?_
    refine WpL.v (V.pF) ?_
    apply WpL.nil
    apply Out.seqN
    refine Wp.c (fun hb2 => ?_) (fun hb2 => ?_)
    (try simp only [decide_eq_true_eq, decide_eq_false_iff_not, Bool.not_eq_true', Bool.not_eq_false', Bool.not_eq_true, Bool.not_eq_false, not_true_eq_false, not_false_eq_true, reduceCtorEq] at hb2)
    apply Wp.seq
    apply Wp.region
    refine WpL.v (V.as) ?_
    apply WpL.nil
    apply Out.seqN
    apply Wp.ret
    apply Out.seqR
    apply Out.blockR
    apply Out.seqR
    apply Out.seqR
    apply Out.blockR
    apply Out.seqR
    refine Out.f1 rfl ResIs.t ⟨?_, rfl⟩
    exact rfl
    (try simp only [decide_eq_true_eq, decide_eq_false_iff_not, Bool.not_eq_true', Bool.not_eq_false', Bool.not_eq_true, Bool.not_eq_false, not_true_eq_false, not_false_eq_true, reduceCtorEq] at hb2)
    apply Wp.skip
    apply Out.seqN
    apply Wp.seq
    apply Wp.region
    refine WpL.v (V.ldA tb) ?_
    refine WpL.v (V.ldA tb) ?_
    refine WpL.o (Op1.fn rfl (does_any _ _) ?_)
    refine WpL.v (V.mv) ?_
    refine WpL.v (V.ex) ?_
    refine WpL.v (V.ex) ?_
    refine WpL.v (V.ex) ?_
    refine WpL.v (V.ex) ?_
    refine WpL.o (O.al tb (fun p7 => ?_))
    refine WpL.o (O.al tb (fun p9 => ?_))
    refine WpL.o (O.stA tb ?_)
    refine WpL.v (V.as) ?_
    refine WpL.o (O.stA tb ?_)
    refine WpL.v (V.as) ?_
    apply WpL.nil
    apply Out.seqN
    apply Wp.seq
    apply Wp.seq
    apply Wp.region
    refine WpL.v (V.fa tb) ?_
    refine WpL.v (V.ldA tb) ?_
    refine WpL.v (V.fa tb) ?_
    refine WpL.v (V.ldA tb) ?_
    refine WpL.o (Op1.fn rfl (refLess_any _ _) ?_)
    apply WpL.nil
    apply Out.seqN
    refine Wp.c (fun hb3 => ?_) (fun hb3 => ?_)
    (try simp only [decide_eq_true_eq, decide_eq_false_iff_not, Bool.not_eq_true', Bool.not_eq_false', Bool.not_eq_true, Bool.not_eq_false, not_true_eq_false, not_false_eq_true, reduceCtorEq] at hb3)
    apply Wp.seq
    apply Wp.region
    refine WpL.v (V.as) ?_
    apply WpL.nil
    apply Out.seqN
    apply Wp.ret
    apply Out.seqR
    apply Out.blockR
    apply Out.seqR
    apply Out.seqR
    apply Out.blockR
    apply Out.seqR
    refine Out.f1 rfl ResIs.t ⟨?_, rfl⟩
    rotate_left
    (try simp only [decide_eq_true_eq, decide_eq_false_iff_not, Bool.not_eq_true', Bool.not_eq_false', Bool.not_eq_true, Bool.not_eq_false, not_true_eq_false, not_false_eq_true, reduceCtorEq] at hb3)
    apply Wp.skip
    apply Out.seqN
    apply Wp.seq
    apply Wp.seq
    apply Wp.region
    refine WpL.v (V.mv) ?_
    refine WpL.v (V.lenL tb) ?_
    refine WpL.v (V.mv) ?_
    apply WpL.nil
    apply Out.seqN
    apply Wp.block
    rotate_left
    (try simp only [decide_eq_true_eq, decide_eq_false_iff_not, Bool.not_eq_true', Bool.not_eq_false', Bool.not_eq_true, Bool.not_eq_false, not_true_eq_false, not_false_eq_true, reduceCtorEq] at hb0)
    (exfalso; omega)
    · exact absurd (by assumption) l1
    · refine Wp.lp [51, 50, 7, 23, 4, 21, 22, 3, 0] (fun j : Nat => j ≤ seen.length) (fun j => [(52, I (j : Int))]) (fun j => []) (fun j => seen.length - j) 0 (Nat.zero_le _) ?_
      rintro j hj K' hK'
      dsimp only [List.cons_append, List.nil_append]
      by_cases hjl : j < seen.length
      · obtain ⟨w, hw⟩ := getS hjl
        have hwf := hF2 w (List.mem_of_getElem? hw)
        apply Wp.seq
        apply Wp.region
        refine WpL.v (V.cmp) ?_
        apply WpL.nil
        apply Out.seqN
        apply Wp.seq
        refine Wp.c (fun hd0 => ?_) (fun hd0 => ?_)
        (try simp only [decide_eq_true_eq, decide_eq_false_iff_not, Bool.not_eq_true', Bool.not_eq_false', Bool.not_eq_true, Bool.not_eq_false, not_true_eq_false, not_false_eq_true, reduceCtorEq] at hd0)
        apply Wp.skip
        apply Out.seqN
        apply Wp.seq
        apply Wp.block
        apply Wp.seq
        apply Wp.region
        refine WpL.v (V.ixk tb rfl rfl) ?_
        refine WpL.v (V.ldRow tb rfl (by (repeat first | exact List.Mem.head _ | apply List.Mem.tail)) (fun _ => rfl) (by assumption)) ?_
        refine WpL.o (O.al tb (fun p12 => ?_))
        refine WpL.o (O.stA tb ?_)
        apply WpL.nil
        apply Out.seqN
        apply Wp.seq
        apply Wp.region
        refine WpL.v (V.ldA tb) ?_
        refine WpL.v (V.ldA tb) ?_
        refine WpL.o (Op1.fn rfl (follows_any _ _) ?_)
        refine WpL.v (V.not) ?_
        apply WpL.nil
        apply Out.seqN
        refine Wp.c (fun hd1 => ?_) (fun hd1 => ?_)
        (try simp only [decide_eq_true_eq, decide_eq_false_iff_not, Bool.not_eq_true', Bool.not_eq_false', Bool.not_eq_true, Bool.not_eq_false, not_true_eq_false, not_false_eq_true, reduceCtorEq] at hd1)
        apply Wp.seq
        apply Wp.region
        refine WpL.v (V.as) ?_
        apply WpL.nil
        apply Out.seqN
        apply Wp.ret
        apply Out.blockR
        apply Out.seqR
        apply Out.seqR
        apply Out.blockR
        apply Out.seqR
        apply Out.blockR
        apply Out.seqR
        apply Out.seqR
        apply Out.blockR
        apply Out.seqR
        refine Out.f1 rfl ResIs.t ⟨?_, rfl⟩
        rotate_left
        (try simp only [decide_eq_true_eq, decide_eq_false_iff_not, Bool.not_eq_true', Bool.not_eq_false', Bool.not_eq_true, Bool.not_eq_false, not_true_eq_false, not_false_eq_true, reduceCtorEq] at hd1)
        apply Wp.skip
        apply Out.blockN
        apply Out.seqN
        apply Wp.region
        refine WpL.v (V.add) ?_
        refine WpL.v (V.mv) ?_
        apply WpL.nil
        rotate_left
        (try simp only [decide_eq_true_eq, decide_eq_false_iff_not, Bool.not_eq_true', Bool.not_eq_false', Bool.not_eq_true, Bool.not_eq_false, not_true_eq_false, not_false_eq_true, reduceCtorEq] at hd0)
        (exfalso; omega)
        · exact absurd hwf (by simp_all)
        · exact Out.ag hK' (j + 1) (by omega) (by omega)
      · apply Wp.seq
        apply Wp.region
        refine WpL.v (V.cmp) ?_
        apply WpL.nil
        apply Out.seqN
        apply Wp.seq
        refine Wp.c (fun he0 => ?_) (fun he0 => ?_)
        (try simp only [decide_eq_true_eq, decide_eq_false_iff_not, Bool.not_eq_true', Bool.not_eq_false', Bool.not_eq_true, Bool.not_eq_false, not_true_eq_false, not_false_eq_true, reduceCtorEq] at he0)
        (exfalso; omega)
        (try simp only [decide_eq_true_eq, decide_eq_false_iff_not, Bool.not_eq_true', Bool.not_eq_false', Bool.not_eq_true, Bool.not_eq_false, not_true_eq_false, not_false_eq_true, reduceCtorEq] at he0)
        apply Wp.exit
        apply Out.seqE
        apply Out.seqE
        apply Out.blockE
        apply Out.seqN
        apply Wp.seq
        apply Wp.region
        refine WpL.v (V.ldA tb) ?_
        refine WpL.o (O.stA tb ?_)
        apply WpL.nil
        apply Out.seqN
        apply Wp.region
        refine WpL.v (V.mv) ?_
        refine WpL.v (V.ldA tb) ?_
        refine WpL.o (O.litL tb TInst.c [(does i x).1] rfl (PartsFrom.last rfl) (by simp) rfl (fun p64 => ?_))
        refine WpL.o (O.apL tb rfl rfl (by (intro _; repeat first | exact Upd.here _ _ _ | apply Upd.there)) (SrcL.rows tb (by (repeat first | exact List.Mem.head _ | apply List.Mem.tail)) TInst.ones) (fun g65 cp65 => ?_))
        refine WpL.v (V.as) ?_
        apply WpL.nil
        apply Out.blockN
        apply Out.seqN
        apply Wp.region
        refine WpL.v (V.add) ?_
        refine WpL.v (V.mv) ?_
        apply WpL.nil
        refine Out.ag hK ⟨k + 1, (does i x).1, seen ++ [(does i x).1], g65, cp65⟩ ⟨by dsimp only; omega, by simp [hsl], l1, ?_⟩ (by dsimp only; omega)
        intro w hw
        rcases List.mem_append.1 hw with h | h
        · exact hF2 w h
        · obtain rfl : w = (does i x).1 := (by simpa using h)
          exact follows_self _
  · apply Wp.seq
    apply Wp.region
    refine WpL.v (V.cmp) ?_
    apply WpL.nil
    apply Out.seqN
    apply Wp.seq
    refine Wp.c (fun hc0 => ?_) (fun hc0 => ?_)
    (try simp only [decide_eq_true_eq, decide_eq_false_iff_not, Bool.not_eq_true', Bool.not_eq_false', Bool.not_eq_true, Bool.not_eq_false, not_true_eq_false, not_false_eq_true, reduceCtorEq] at hc0)
    (exfalso; omega)
    (try simp only [decide_eq_true_eq, decide_eq_false_iff_not, Bool.not_eq_true', Bool.not_eq_false', Bool.not_eq_true, Bool.not_eq_false, not_true_eq_false, not_false_eq_true, reduceCtorEq] at hc0)
    apply Wp.exit
    apply Out.seqE
    apply Out.seqE
    apply Out.blockE
    apply Out.seqN
    apply Wp.seq
    apply Wp.region
    refine WpL.v (V.as) ?_
    apply WpL.nil
    apply Out.seqN
    apply Wp.ret
    refine Out.f1 rfl ResIs.t ⟨?_, rfl⟩
    exact rfl
open Go Go.ChangeShapes Go.WideShapes Go.ChangeAt Go.RowKit
theorem latticeForward_read : (Try.f16.params.toList.all fun t => Try.prog.readableRec t && decide (t < Try.prog.types.size)) = true := by kernel_rfl
theorem latticeForward_lifted (os : Go.Os) (started : os.Started) (H : Type) (enc : Go.TypeId × Go.Value → H) :
    ReturnsInHanded {} Try.checked os 16 .any (Rows.latticeForwardSpec.pre6 enc Try.prog Try.f16 Rows.latticeForwardRow.domain false) (Rows.latticeForwardSpec.post enc Try.prog Try.f16 false true false false) := by
  refine returnsInHanded_of_change_sized (C := Try.checked) own started (by kernel_rfl) Try.func16
    (ChangeSpec.witness6 (enc := enc) (C := Try.checked) false ⟨#[], #[.slice none 0 0], []⟩ 8 (by kernel_rfl) (by kernel_rfl) (by kernel_rfl) (by kernel_rfl)) ?_
  intro W base args ds gs before hval0 hW hcnd hsz0 _
  have hsz : (DataW.weightsEach Try.prog (Try.f16.params.toList ++ Rows.latticeForwardSpec.plain.varTypes Try.prog) (ds ++ gs)).all (· ≤ reachBytes) = true := hsz0
  have hval : ∀ (j : Nat) t v, Try.f16.params[j]? = some t → args[j]? = some v → Value.okWide Try.prog W .any base t v := hval0
  have hW' := hW
  obtain ⟨p, q, hA0, hV, rfl, hfz, hnd⟩ := hW
  have hA1 : DataW.TrodAll enc Try.prog W 0 (fun _ => true) true Try.f16.params.toList args.toList ds p := hA0
  have hA := hA1
  rw [Try.params16] at hA hval hsz
  obtain ⟨v0, vs0, d0, ds0, p0, q0, hargs, rfl, rfl, h0, r0⟩ := trodAll_cons hA
  obtain ⟨rfl, rfl, rfl⟩ := trodAll_nil r0
  obtain rfl : args = #[v0] := by cases args; simp_all
  obtain ⟨rfl, rfl⟩ := trodVars_none hV
  obtain ⟨ao0, b0, off0, len0, cap0, xs0, rfl, hl0, hlc0, hcm0, ha0, hs0, hf0, hby0⟩ := open_slice_plain Try.underlying80 Caucuslaw13Step.leaves (by kernel_rfl) (by decide) (hval 0 80 v0 rfl rfl) h0 (sizedAll hsz 0 rfl rfl)
  obtain ⟨x0, rfl, w0⟩ := fits_map Caucuslaw13Step.c Caucuslaw13Step.wf hf0 Caucuslaw13Step.fit
  obtain rfl : len0 = x0.length := by simpa using hl0.symm
  simp only [List.append_nil] at hW' hA1
  have hbl : ∀ p : Nat × Nat, p ∈ [(x0.length, b0)] → 0 < p.1 → p.2 < W.heap.size := by
    intro p hp h0
    simp only [List.mem_cons, List.mem_nil_iff, or_false] at hp
    rcases hp with rfl
    · exact (ha0 h0).2
  have hR0 : Rd (snap W (blocksOf [(x0.length, b0)])) ao0 x0.length b0 off0 18 (x0.map Caucuslaw13Step.c) := Rd.snap (by simp) (Nat.le_trans hlc0 hcm0) ha0 hs0 (fun h => blocksOf_mem (len := x0.length) (by simp) h)
  refine (Ct.runSnap (blocksOf_nodup _) (blocksOf_lt hbl) (latticeForward_walk _ _ _ _ _ x0 hR0)).mono fun e W' hh => ?_
  obtain ⟨rfl, hS⟩ := hh
  exact ⟨_, rfl, post_law (P := Try.prog) (f := Try.f16) (tbool := 4) hW' hA1 rfl rfl hS laid latticeForward_read rfl Try.underlying4⟩
theorem latticeForward_over : Rows.latticeForwardRow.holds Try.pinned (OpenSpec.ofChange Rows.latticeForwardSpec) :=
  OpenClaim.holds_of_wide 16 Try.f16 rfl rfl rfl rfl rfl rfl rfl ⟨rfl, rfl, rfl, rfl, rfl⟩ rfl rfl rfl rfl rfl (by kernel_rfl) Try.func16 (by kernel_rfl)
    (of_decide_eq_true (by kernel_rfl)) (by unfold Func.isWrapper; first | (rw [if_pos (by decide +kernel)]; kernel_rfl) | (rw [if_neg (by decide +kernel)]; exact ⟨rfl, rfl⟩))
    (fun os started H enc _ => latticeForward_lifted os started H enc)
/-- THE STATEMENT. -/
theorem latticeForward_proved : Rows.LatticeForwardSaid := latticeForward_over
#print axioms latticeForward_proved

end Go.Proofs.Ytienlncaffliaaa
