/-
  Layer 21: alive; more than is played; laws.
-/
import Derived.Test.YtgihkocnmgkihaaCby
namespace Go.Proofs.Ytgihkocnmgkihaa
open Go.HL
set_option linter.unusedSimpArgs false
set_option linter.unusedVariables false
set_option maxRecDepth 8000
theorem great21z (e : Ent) (ao : Option Go.Addr) (cap b off : Nat) (xs : List TDeed) (hw : ∀ x ∈ xs, x.Key.length ≤ 140737488351232 ∧ x.Value.length ≤ 140737488351232) (hR : Rd e ao xs.length b off 6 (xs.map TDeed.c)) :
    Ct Try.prog 28 [.slice ao xs.length cap] [e] (fun r σ' => ∃ t, (t = false → xs.length ≤ 80 ∧ ∀ x ∈ xs, x.Key.length + x.Value.length ≤ 100) ∧ r = B t ∧ σ' = [e]) := by
  have hm := hR.small
  simp only [Go.maxLen] at hm
  refine Ct.enter Try.func28 rfl rfl fun W => ?_
  apply Wp.seq
  apply Wp.region
  refine WpL.v (V.as) ?_
  apply WpL.nil
  apply Out.seqN
  apply Wp.seq
  apply Wp.seq
  apply Wp.region
  refine WpL.v (V.mv) ?_
  refine WpL.v (V.lenL tb) ?_
  refine WpL.v (V.mv) ?_
  apply WpL.nil
  apply Out.seqN
  apply Wp.block
  refine Wp.lp [6, 5, 0] (fun k : Nat => k ≤ xs.length ∧ ∀ x ∈ xs.take k, x.Key.length + x.Value.length ≤ 100) (fun k => [(7, I (k : Int))]) (fun _ => []) (fun k => xs.length - k) 0 ⟨Nat.zero_le _, by simp⟩ ?_
  rintro k ⟨hk, hall⟩ K hK
  dsimp only [List.cons_append, List.nil_append]
  by_cases hlt : k < xs.length
  · obtain ⟨d, hd⟩ := getS hlt
    have hdw := hw d (List.mem_of_getElem? hd)
    apply Wp.seq
    apply Wp.region
    refine WpL.v (V.cmp) ?_
    apply WpL.nil
    apply Out.seqN
    apply Wp.seq
    refine Wp.c (fun h0 => ?_) (fun h0 => ?_)
    (try simp only [decide_eq_true_eq, decide_eq_false_iff_not, Bool.not_eq_true', Bool.not_eq_false', Bool.not_eq_true, Bool.not_eq_false, not_true_eq_false, not_false_eq_true, reduceCtorEq] at h0)
    apply Wp.skip
    apply Out.seqN
    apply Wp.seq
    apply Wp.block
    apply Wp.seq
    apply Wp.region
    refine WpL.v (V.ixR tb rfl rfl (by assumption)) ?_
    refine WpL.v (V.ldRA tb rfl (by assumption) (getMapS (by assumption))) ?_
    refine WpL.o (O.al tb (fun p4 => ?_))
    refine WpL.o (O.stA tb ?_)
    apply WpL.nil
    apply Out.seqN
    apply Wp.seq
    apply Wp.region
    refine WpL.v (V.fa tb) ?_
    refine WpL.v (V.ld1 tb) ?_
    refine WpL.v (V.lenS tb) ?_
    refine WpL.v (V.fa tb) ?_
    refine WpL.v (V.ld1 tb) ?_
    refine WpL.v (V.lenS tb) ?_
    refine WpL.v (V.add) ?_
    refine WpL.v (V.cmp) ?_
    apply WpL.nil
    apply Out.seqN
    refine Wp.c (fun h1 => ?_) (fun h1 => ?_)
    (try simp only [decide_eq_true_eq, decide_eq_false_iff_not, Bool.not_eq_true', Bool.not_eq_false', Bool.not_eq_true, Bool.not_eq_false, not_true_eq_false, not_false_eq_true, reduceCtorEq] at h1)
    apply Wp.seq
    apply Wp.region
    refine WpL.v (V.as) ?_
    apply WpL.nil
    apply Out.seqN
    apply Wp.ret
    apply Out.blockR
    apply Out.seqR
    apply Out.seqR
    apply Out.blockR
    apply Out.seqR
    refine Out.e1 rfl ResIs.t ?_
    focus (exact ⟨_, _, ⟨true, (by intro h; cases h), rfl, rfl⟩, (by (repeat (first | exact Sel.nil | exact Rem.here | apply Sel.cons | apply Rem.there)))⟩; done)
    (try simp only [decide_eq_true_eq, decide_eq_false_iff_not, Bool.not_eq_true', Bool.not_eq_false', Bool.not_eq_true, Bool.not_eq_false, not_true_eq_false, not_false_eq_true, reduceCtorEq] at h1)
    apply Wp.skip
    apply Out.blockN
    apply Out.seqN
    apply Wp.region
    refine WpL.v (V.add) ?_
    refine WpL.v (V.mv) ?_
    apply WpL.nil
    rotate_left
    (try simp only [decide_eq_true_eq, decide_eq_false_iff_not, Bool.not_eq_true', Bool.not_eq_false', Bool.not_eq_true, Bool.not_eq_false, not_true_eq_false, not_false_eq_true, reduceCtorEq] at h0)
    (exfalso; omega)
    exact Out.ag hK (k + 1) ⟨by omega, fun x hx => by
      rw [take_snocS hd, List.mem_append, List.mem_singleton] at hx
      rcases hx with hx | rfl
      · exact hall x hx
      · omega⟩ (by show xs.length - (k + 1) < xs.length - k; omega)
  · obtain rfl : k = xs.length := by omega
    rw [List.take_length] at hall
    clear hK
    apply Wp.seq
    apply Wp.region
    refine WpL.v (V.cmp) ?_
    apply WpL.nil
    apply Out.seqN
    apply Wp.seq
    refine Wp.c (fun h0 => ?_) (fun h0 => ?_)
    (try simp only [decide_eq_true_eq, decide_eq_false_iff_not, Bool.not_eq_true', Bool.not_eq_false', Bool.not_eq_true, Bool.not_eq_false, not_true_eq_false, not_false_eq_true, reduceCtorEq] at h0)
    (exfalso; omega)
    (try simp only [decide_eq_true_eq, decide_eq_false_iff_not, Bool.not_eq_true', Bool.not_eq_false', Bool.not_eq_true, Bool.not_eq_false, not_true_eq_false, not_false_eq_true, reduceCtorEq] at h0)
    apply Wp.exit
    apply Out.seqE
    apply Out.seqE
    apply Out.blockE
    apply Out.seqN
    apply Wp.seq
    apply Wp.region
    refine WpL.v (V.mv) ?_
    refine WpL.v (V.lenL tb) ?_
    refine WpL.v (V.cmp) ?_
    refine WpL.v (V.as) ?_
    apply WpL.nil
    apply Out.seqN
    apply Wp.ret
    refine Out.e1 rfl ResIs.t ?_
    focus (exact ⟨_, _, ⟨_, (by intro h; simp only [decide_eq_false_iff_not] at h; exact ⟨by omega, hall⟩), rfl, rfl⟩, (by (repeat (first | exact Sel.nil | exact Rem.here | apply Sel.cons | apply Rem.there)))⟩; done)
theorem told21 (a : RegistryReply) {ao : Option Go.Addr} {len cap : Nat} (h : a.Keys = .slice ao len cap) : Fun Try.prog 35 [A a.c] (A (toldR a).c) := by
  obtain ⟨e, v, r, k⟩ := a
  dsimp only at h
  subst h
  unfold toldR
  refine Ct.enter Try.func35 rfl rfl fun W => ?_
  apply Wp.seq
  apply Wp.region
  refine WpL.o (O.bxA (fun p1 => ?_))
  refine WpL.o (O.al tb (fun p2 => ?_))
  apply WpL.nil
  apply Out.seqN
  apply Wp.seq
  apply Wp.region
  refine WpL.v (V.fa tb) ?_
  refine WpL.v (V.ld1 tb) ?_
  refine WpL.v (V.fa tb) ?_
  refine WpL.v (V.ld1 tb) ?_
  refine WpL.v (V.fa tb) ?_
  refine WpL.v (V.ld1 tb) ?_
  refine WpL.v (V.fa tb) ?_
  refine WpL.v (V.ld1 tb) ?_
  refine WpL.v (V.bld tb) ?_
  refine WpL.o (O.stA tb ?_)
  apply WpL.nil
  apply Out.seqN
  apply Wp.ret
  refine Out.f1 rfl (ResIs.ca tb) ⟨?_, rfl⟩
  exact rfl
theorem listL_small {n : Nat} {l : PM} (hi : RI n l) (hz : RZ l) (p : List UInt8) : ∀ k ∈ listL p l, k.length ≤ 100 := fun k hk => by
  obtain ⟨q, hq⟩ := Option.isSome_iff_exists.1 ((listL_mem hi).1 hk).1
  have h1 := hz k q hq
  have h2 := (hi.key k q hq).1
  rw [h2] at h1
  omega
theorem doA_small {n : Nat} {l : PM} (hi : RI n l) (hz : RZ l) (hn : n ≤ 100000) (d : TDeed) : (doA l d).rv.Small := by
  have hv := hi.ver d.Key
  have hval : (look l d.Key).Value.length ≤ 100 := by
    unfold look
    cases hm : mget l d.Key with
    | none => exact Nat.zero_le _
    | some p => have := hz _ _ hm; show p.Value.length ≤ 100; omega
  unfold doA
  split
  · exact ⟨by show (0 : Int) ≤ _; decide, Nat.zero_le _, by show (0 : Int) ≤ _; decide, listL_small hi hz d.Key⟩
  · unfold doN rep
    have z : (0 : Int) ≤ 1000000 := by decide
    repeat' split
    all_goals refine ⟨?_, ?_, ?_, fun k h => (by cases h)⟩
    all_goals first
      | (show (0 : Int) ≤ _; decide)
      | (show (1 : Int) ≤ _; decide)
      | (show (5 : Int) ≤ _; decide)
      | (show (8 : Int) ≤ _; decide)
      | exact Nat.zero_le _
      | exact hval
      | (show (look l d.Key).Version + 1 ≤ _; omega)
      | (show (look l d.Key).Version ≤ _; omega)
theorem CZ.do_ {n : Nat} {s : CS} (hi : CI n s) (hz : CZ s) (hn : n ≤ 100000) {d : TDeed} (hd : d.Key.length + d.Value.length ≤ 100) : CZ (doC s d).2 := by
  unfold doC
  split
  · exact hz
  · split
    · exact ⟨hz.reg.any hi.reg hd, hz.ses⟩
    · split
      · exact hz
      · split
        · refine ⟨hz.reg.any hi.reg hd, fun k x hx => ?_⟩
          have hx2 : mget (mput s.ss d.Session (d.Number, (doA s.l d).rv)) k = some x := hx
          rw [mget_mput] at hx2
          by_cases e : k = d.Session
          · rw [if_pos e] at hx2
            cases hx2
            exact doA_small hi.reg hz.reg hn d
          · rw [if_neg e] at hx2
            exact hz.ses k x hx2
        · exact hz
/-- With no rows laid yet. -/
theorem H.layZ {W : Go.World} {D : List Nat} {σ : List Ent} {w : Go.World} (h : H W D σ w) : H W D (gE [] :: σ) w := by
  unfold gE
  exact (show H W D (gL [] ++ σ) w from h).toBag
theorem client_new2 : Ct Try.prog 30 [] [] (fun r σ' => ∃ b rb rm sm, r = Ptr b 0 ∧ σ' = cmE b rb rm sm [] [] [] 0) := by
  refine Ct.postW client_new ?_
  rintro v σ' W D w ⟨b, rb, rm, sm, rfl, rfl⟩ hH
  exact ⟨_, ⟨b, rb, rm, sm, rfl, rfl⟩, (H.layZ hH).perm (List.perm_append_comm (l₁ := [_]) (l₂ := [_, _, _, _]))⟩
theorem doC_first : doC CS.z ⟨2, [97], [], 0, 1, 1⟩ = (⟨0, [], 1, []⟩, ⟨[([97], ⟨[97], [], 1⟩)], [(1, (1, ⟨0, [], 1, []⟩))], 1⟩) := by
  have hg : goodD ⟨2, [97], [], 0, 1, 1⟩ = true := by decide
  unfold doC
  rw [hg]
  rfl
theorem doC_again : doC ⟨[([97], ⟨[97], [], 1⟩)], [(1, (1, ⟨0, [], 1, []⟩))], 1⟩ ⟨2, [97], [], 0, 1, 1⟩ = (⟨0, [], 1, []⟩, ⟨[([97], ⟨[97], [], 1⟩)], [(1, (1, ⟨0, [], 1, []⟩))], 1⟩) := by
  have hg : goodD ⟨2, [97], [], 0, 1, 1⟩ = true := by decide
  unfold doC
  rw [hg]
  rfl
theorem alive21 : Fun Try.prog 27 [] (B true) := by
  have hN := client_new2
  have h1 := CI.zero.do_ ⟨2, [97], [], 0, 1, 1⟩
  rw [doC_first] at h1
  have hD1 (b rb rm sm : Nat) := client_do b rb rm sm 0 CS.z [] [] ⟨2, [97], [], 0, 1, 1⟩ CI.zero HI.zero (by decide)
  rw [doC_first] at hD1
  have hD2 (b rb rm sm : Nat) (sl : SM) (g : GB) (hh : HI [(1, (1, ⟨0, [], 1, []⟩))] sl g) := client_do b rb rm sm 1 _ sl g ⟨2, [97], [], 0, 1, 1⟩ h1 hh (by decide)
  rw [doC_again] at hD2
  have hC (b rb sm : Nat) := client_count b (Ptr rb 0) (.map (some sm)) 1
  have hL (b rb sm : Nat) (sl : SM) := client_last b sm (Ptr rb 0) 1 sl 1
  unfold cmE at hN hD1 hD2
  unfold RV.c at hD1 hD2
  dsimp only at hD1 hD2
  unfold mE mS at *
  refine Ct.enter Try.func27 rfl rfl fun W => ?_
  apply Wp.seq
  apply Wp.region
  refine WpL.v (V.as) ?_
  apply WpL.nil
  apply Out.seqN
  apply Wp.seq
  apply Wp.region
  refine WpL.o (Op1.callT rfl (hN) (by (repeat (first | exact Sel.nil | exact Rem.here | apply Sel.cons | apply Rem.there))) ?_)
  rintro v0 s1 ⟨b3, ⟨rb3, ⟨rm3, ⟨sm3, ⟨rfl, rfl⟩⟩⟩⟩⟩
  refine incat ?_
  refine WpL.v (V.as) ?_
  apply WpL.nil
  apply Out.seqN
  apply Wp.seq
  apply Wp.region
  refine WpL.v (V.bld tb (c' := TDeed.c ⟨2, [97], [], 0, 1, 1⟩)) ?_
  refine WpL.o (O.al tb (fun p2 => ?_))
  refine WpL.o (O.stA tb ?_)
  apply WpL.nil
  apply Out.seqN
  apply Wp.seq
  apply Wp.region
  refine WpL.v (V.mv) ?_
  refine WpL.v (V.ldA tb) ?_
  refine WpL.o (Op1.callT rfl (hD1 _ _ _ _) (by (repeat (first | exact Sel.nil | exact Rem.here | apply Sel.cons | apply Rem.there))) ?_)
  rintro v3 s4 ⟨ao7, ⟨len7, ⟨cap7, ⟨sl'7, ⟨g'7, ⟨hx2, ⟨rfl, rfl⟩⟩⟩⟩⟩⟩⟩
  refine incat ?_
  refine WpL.v (V.fld1 tb (off := 2) (T := 3) rfl rfl (Reads.one (tb.oneAt (T := 3) rfl) rfl)) ?_
  refine WpL.v (V.cmp) ?_
  refine WpL.v (V.mv) ?_
  refine WpL.pt (fun h5 => ?_) (fun h5 => ?_)
  (try simp only [decide_eq_true_eq, decide_eq_false_iff_not, Bool.not_eq_true', Bool.not_eq_false', Bool.not_eq_true, Bool.not_eq_false, not_true_eq_false, not_false_eq_true, reduceCtorEq] at h5)
  refine WpL.v (V.mv) ?_
  refine WpL.v (V.ldA tb) ?_
  refine WpL.o (Op1.callT rfl (hD2 _ _ _ _ _ _ ?_) (by (repeat (first | exact Sel.nil | exact Rem.here | apply Sel.cons | apply Rem.there))) ?_)
  (first | with_reducible assumption | omega | (simp only [List.length_append, List.length_cons, List.length_nil, List.length_map] at *; omega) | (focus (simp; done)))
  rintro v7 s8 ⟨ao13, ⟨len13, ⟨cap13, ⟨sl'13, ⟨g'13, ⟨hx6, ⟨rfl, rfl⟩⟩⟩⟩⟩⟩⟩
  refine incat ?_
  refine WpL.v (V.fld1 tb (off := 2) (T := 3) rfl rfl (Reads.one (tb.oneAt (T := 3) rfl) rfl)) ?_
  refine WpL.v (V.cmp) ?_
  refine WpL.v (V.pT) ?_
  refine WpL.v (V.mv) ?_
  refine WpL.pt (fun h9 => ?_) (fun h9 => ?_)
  (try simp only [decide_eq_true_eq, decide_eq_false_iff_not, Bool.not_eq_true', Bool.not_eq_false', Bool.not_eq_true, Bool.not_eq_false, not_true_eq_false, not_false_eq_true, reduceCtorEq] at h9)
  refine WpL.v (V.mv) ?_
  refine WpL.o (Op1.callT rfl (hC _ _ _) (by (repeat (first | exact Sel.nil | exact Rem.here | apply Sel.cons | apply Rem.there))) ?_)
  rintro v10 s11 ⟨rfl, rfl⟩
  refine incat ?_
  refine WpL.v (V.cmp) ?_
  refine WpL.v (V.pT) ?_
  refine WpL.v (V.mv) ?_
  refine WpL.v (V.mv) ?_
  refine WpL.o (Op1.callT rfl (hL _ _ _ _) (by (repeat (first | exact Sel.nil | exact Rem.here | apply Sel.cons | apply Rem.there))) ?_)
  rintro v12 s13 ⟨rfl, rfl⟩
  refine incat ?_
  refine WpL.v (V.cmp) ?_
  refine WpL.v (V.pT) ?_
  refine WpL.v (V.as) ?_
  apply WpL.nil
  apply Out.seqN
  apply Wp.ret
  refine Out.f1 rfl ResIs.t ⟨?_, rfl⟩
  rotate_left
  (try simp only [decide_eq_true_eq, decide_eq_false_iff_not, Bool.not_eq_true', Bool.not_eq_false', Bool.not_eq_true, Bool.not_eq_false, not_true_eq_false, not_false_eq_true, reduceCtorEq] at h9)
  (try simp only [decide_eq_true_eq, decide_eq_false_iff_not, Bool.not_eq_true', Bool.not_eq_false', Bool.not_eq_true, Bool.not_eq_false, not_true_eq_false, not_false_eq_true, reduceCtorEq] at h5)
  · have h9 : HI [(1, (1, ⟨0, [], 1, []⟩))] sl'13 g'13 := by assumption
    have h8 : (lookS sl'13 1).num = 1 := congrArg Prod.fst (h9.look [] 0 1)
    rw [h8]
    rfl
end Go.Proofs.Ytgihkocnmgkihaa
