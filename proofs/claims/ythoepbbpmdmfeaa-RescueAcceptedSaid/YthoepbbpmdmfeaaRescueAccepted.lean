/-
  The statement RescueAccepted of layer 16: what a majority accepted at one ballot is chosen by every majority that promises. Proved for every input.
-/
import Derived.Test.YthoepbbpmdmfeaaHead
import Derived.Test.YthoepbbpmdmfeaaAcc
namespace Go.Proofs.Ythoepbbpmdmfeaa
open Go.HL
set_option linter.unusedSimpArgs false
set_option linter.unusedVariables false
set_option maxRecDepth 8000
theorem rowsRdA {α : Type} {f : α → List Go.Value} {W : Go.World} {D : List Nat} {σ : List Ent} {v : Go.Value} {E sz : Nat} {l : List α} (hz : ∀ x, (f x).length = sz) (hm : rows f v E sz l ∈ σ) :
    ∀ w, H W D σ w → ∃ ao cap b, v = .slice ao l.length cap ∧ Rd (rows f (.slice ao l.length cap) E sz l) ao l.length b 0 sz (l.map f) := fun w hw => by
  rcases rowsForm hm w hw with ⟨rfl, rfl⟩ | ⟨g, cap, rfl, h1, h2⟩
  · exact ⟨none, 0, 0, rfl, Rd.nil⟩
  · exact ⟨some ⟨g, 0, none⟩, cap, g, rfl, Rd.rows hz (by simp only [Go.maxLen] at h2; omega)⟩
theorem pick_rdA (e e2 : Ent) (ao ao2 : Option Go.Addr) (cap b off cap2 b2 off2 : Nat) (L : List TMsg) (qs : List Int) (hR : Rd e ao L.length b off 25 (L.map TMsg.c)) (hR2 : Rd e2 ao2 qs.length b2 off2 1 (qs.map i64c)) (hL : L.length ≤ 1000) :
    Ct Try.prog 29 [.slice ao L.length cap, .slice ao2 qs.length cap2] [e, e2] (fun r σ' => ∃ ap cp g, Rd (rows TMsg.c (.slice ap (picks L qs).1.length cp) 44 25 (picks L qs).1) ap (picks L qs).1.length g 0 25 ((picks L qs).1.map TMsg.c) ∧ r = .slice ap (picks L qs).1.length cp ∧ σ' = [rows TMsg.c (.slice ap (picks L qs).1.length cp) 44 25 (picks L qs).1, e, e2]) := by
  refine Ct.facts (law16_pick e e2 ao ao2 cap b off cap2 b2 off2 L qs hR hR2 hL) ?_
  rintro v σ' W D w ⟨v', rfl, rfl⟩ hH
  obtain ⟨ap, cp, g, rfl, h⟩ := rowsRdA (f := TMsg.c) (v := v) (l := (picks L qs).1) (E := 44) (sz := 25) TMsg.len (by exact List.Mem.head _) w hH
  exact ⟨ap, cp, g, h, rfl, rfl⟩
set_option maxHeartbeats 4000000 in
theorem rescueAccepted_walk (e : Ent) (ao : Option Go.Addr) (cap b off : Nat) (n : Int) (x : TItem) (xs : List TMsg) (call : TCall) (vote : TBallot) (ao2 : Option Go.Addr) (cap2 b2 off2 : Nat) (who : List Int) (ao3 : Option Go.Addr) (cap3 b3 off3 : Nat) (qs : List Int)
    (hR : Rd e ao xs.length b off 25 (xs.map TMsg.c)) (hR2 : Rd e ao2 who.length b2 off2 1 (who.map i64c)) (hR3 : Rd e ao3 qs.length b3 off3 1 (qs.map i64c)) :
    Ct Try.prog 4 [I n, A x.c, .slice ao xs.length cap, A call.c, A vote.c, .slice ao2 who.length cap2, .slice ao3 qs.length cap3] [e] (fun r σ' => r = B true ∧ σ' = [e]) := by
  have hm := hR.small
  have hm2 := hR2.small
  have hm3 := hR3.small
  simp only [Go.maxLen] at hm hm2 hm3
  by_cases hn : n = 3 ∨ n = 5 ∨ n = 7
  · have hS : Fun Try.prog 24 [I n] (B true) := by
      have h := r16_size n
      rwa [show (decide (n = 3) || (decide (n = 5) || decide (n = 7))) = true by simp; exact hn] at h
    by_cases hl : (xs.length : Int) = n
    · have hF := ref_faults n (by omega)
      obtain ⟨f, hf⟩ : ∃ f : Nat, faults n = (f : Int) := ⟨(faults n).toNat, by unfold faults; omega⟩
      have hfn : n = 2 * (f : Int) + 1 := by unfold faults at hf; omega
      rw [hf] at hF
      have hpos : 0 < xs.length := by omega
      have hne : xs ≠ [] := by intro h; rw [h] at hpos; simp at hpos
      refine Ct.enter Try.func4 rfl rfl fun W => ?_
      apply Wp.seq
      apply Wp.region
      refine WpL.o (O.bxA (fun p8 => ?_))
      refine WpL.o (O.bxA (fun p10 => ?_))
      refine WpL.o (O.bxA (fun p11 => ?_))
      refine WpL.v (V.as) ?_
      apply WpL.nil
      apply Out.seqN
      apply Wp.seq
      apply Wp.seq
      apply Wp.region
      refine WpL.o (Op1.fn rfl (alive16) ?_)
      refine WpL.v (V.not) ?_
      apply WpL.nil
      apply Out.seqN
      refine Wp.cF ?_
      apply Wp.skip
      apply Out.seqN
      apply Wp.seq
      apply Wp.seq
      apply Wp.region
      refine WpL.v (V.mv) ?_
      refine WpL.o (Op1.fn rfl (hS) ?_)
      refine WpL.v (V.not) ?_
      refine WpL.v (V.mv) ?_
      refine WpL.v (V.mv) ?_
      refine WpL.v (V.lenL tb) ?_
      refine WpL.v (V.mv) ?_
      refine WpL.v (V.cmp) ?_
      refine WpL.v (V.pF) ?_
      apply WpL.nil
      apply Out.seqN
      refine Wp.c (fun ha0 => ?_) (fun ha0 => ?_)
      (try simp only [decide_eq_true_eq, decide_eq_false_iff_not, Bool.not_eq_true', Bool.not_eq_false', Bool.not_eq_true, Bool.not_eq_false, not_true_eq_false, not_false_eq_true, reduceCtorEq] at ha0)
      (exfalso; omega)
      (try simp only [decide_eq_true_eq, decide_eq_false_iff_not, Bool.not_eq_true', Bool.not_eq_false', Bool.not_eq_true, Bool.not_eq_false, not_true_eq_false, not_false_eq_true, reduceCtorEq] at ha0)
      apply Wp.skip
      apply Out.seqN
      apply Wp.seq
      apply Wp.region
      refine WpL.v (V.mv) ?_
      refine WpL.o (Op1.fn rfl (hF) ?_)
      refine WpL.v (V.as) ?_
      apply WpL.nil
      apply Out.seqN
      apply Wp.seq
      apply Wp.region
      refine WpL.o (O.litL tb TMsg.c ([] : List TMsg) rfl PartsFrom.nil rfl rfl (fun p38 => ?_))
      refine WpL.v (V.mv) ?_
      refine WpL.o (O.apNew tb rfl rfl (SrcL.rd tb hR (by (repeat first | exact List.Mem.head _ | apply List.Mem.tail)) TMsg.ones TMsg.len hpos) hne TMsg.len (fun g40 cap40 => ?_))
      refine WpL.v (V.as) ?_
      apply WpL.nil
      apply Out.seqN
      apply Wp.seq
      apply Wp.seq
      apply Wp.region
      refine WpL.v (V.mv) ?_
      refine WpL.v (V.lenL tb) ?_
      refine WpL.v (V.mv) ?_
      apply WpL.nil
      apply Out.seqN
      apply Wp.block
      refine Wp.lp [42, 16, 15, 11, 10, 8, 0, 5, 6] (fun k : Nat => k ≤ xs.length) (fun k => [(43, I (k : Int))]) (fun k => [rows TMsg.c (.slice (some ⟨g40, 0, none⟩) xs.length cap40) 44 25 (accs vote xs k)]) (fun k => xs.length - k) 0 (Nat.zero_le _) ?_
      intro k hk K hK
      dsimp only [List.cons_append, List.nil_append]
      have hal := accs_len vote hk
      by_cases hlt : k < xs.length
      · obtain ⟨y, hy⟩ := getS hlt
        have hy2 := accs_at (vote := vote) hy
        have hy3 : ((accs vote xs k).set k { y with From := (k : Int) })[k]? = some { y with From := (k : Int) } := by rw [List.getElem?_set, if_pos rfl, if_pos (by omega)]
        have hal2 : ((accs vote xs k).set k { y with From := (k : Int) }).length = xs.length := by rw [List.length_set, hal]
        have ep : bad vote { y with From := (k : Int) } → accs vote xs (k + 1) = ((accs vote xs k).set k { y with From := (k : Int) }).set k { y with From := (k : Int), Status := 0 } := fun h => by
          rw [← accs_set hy, List.set_set, acc1, if_pos h]
        have en : ¬ bad vote { y with From := (k : Int) } → accs vote xs (k + 1) = (accs vote xs k).set k { y with From := (k : Int) } := fun h => by
          rw [← accs_set hy, acc1, if_neg h]
        have l1 := ref_less y.Vote vote
        have l2 := ref_less vote y.Vote
        apply Wp.seq
        apply Wp.region
        refine WpL.v (V.cmp) ?_
        apply WpL.nil
        apply Out.seqN
        apply Wp.seq
        refine Wp.c (fun hb0 => ?_) (fun hb0 => ?_)
        (try simp only [decide_eq_true_eq, decide_eq_false_iff_not, Bool.not_eq_true', Bool.not_eq_false', Bool.not_eq_true, Bool.not_eq_false, not_true_eq_false, not_false_eq_true, reduceCtorEq] at hb0)
        apply Wp.skip
        apply Out.seqN
        apply Wp.seq
        apply Wp.block
        apply Wp.seq
        apply Wp.region
        refine WpL.v (V.mv) ?_
        refine WpL.v (V.as) ?_
        apply WpL.nil
        apply Out.seqN
        apply Wp.seq
        apply Wp.region
        refine WpL.v (V.mv) ?_
        refine WpL.v (V.mv) ?_
        refine WpL.v (V.mv) ?_
        refine WpL.v (V.ixk tb rfl rfl) ?_
        refine WpL.v (V.fa tb) ?_
        refine WpL.o (O.stRowF1 tb (o := 1) (a' := { y with From := (k : Int) }) rfl rfl rfl hy2 inferInstance (by (repeat first | exact Upd.here _ _ _ | apply Upd.there)) hal TMsg.len rfl ?_)
        apply WpL.nil
        apply Out.seqN
        apply Wp.seq
        refine Wp.dG [] ?_ (List.Sublist.cons_cons _ (List.Sublist.cons_cons _ (List.Sublist.cons_cons _ (List.Sublist.cons _ (List.Sublist.cons _ (List.Sublist.cons_cons _ List.Sublist.slnil)))))) (List.Sublist.cons_cons _ (List.Sublist.cons_cons _ (List.Sublist.cons_cons _ (List.Sublist.cons _ (List.Sublist.cons _ (List.Sublist.cons_cons _ List.Sublist.slnil))))))
        refine WpA.tF 0 rfl (V.mv) ?_
        refine WpA.tF 1 rfl (V.mv) ?_
        refine WpA.tF 2 rfl (V.ixk tb rfl rfl) ?_
        refine WpA.tF 3 rfl (V.fa tb) ?_
        refine WpA.tF 4 rfl (V.rowF1 tb (o := 9) rfl (by (repeat first | exact List.Mem.head _ | apply List.Mem.tail)) TMsg.len hy3) ?_
        refine WpA.tF 5 rfl (V.cmp) ?_
        refine WpA.tF 6 rfl (V.mv) ?_
        refine WpA.pt 57 (fun hb1 => ?_) (fun hb1 => ?_)
        (try simp only [decide_eq_true_eq, decide_eq_false_iff_not, Bool.not_eq_true', Bool.not_eq_false', Bool.not_eq_true, Bool.not_eq_false, not_true_eq_false, not_false_eq_true, reduceCtorEq] at hb1)
        refine WpA.s 7 rfl ?_
        refine WpA.s 8 rfl ?_
        refine WpA.s 9 rfl ?_
        refine WpA.s 10 rfl ?_
        refine WpA.s 11 rfl ?_
        refine WpA.s 12 rfl ?_
        refine WpA.s 13 rfl ?_
        refine WpA.s 14 rfl ?_
        refine WpA.s 15 rfl ?_
        refine WpA.s 16 rfl ?_
        refine WpA.s 17 rfl ?_
        refine WpA.s 18 rfl ?_
        refine WpA.s 19 rfl ?_
        refine WpA.s 20 rfl ?_
        refine WpA.s 21 rfl ?_
        refine WpA.s 22 rfl ?_
        refine WpA.tF 23 rfl (V.pT) ?_
        refine WpA.tF 24 rfl (V.mv) ?_
        refine WpA.s 25 rfl ?_
        refine WpA.s 26 rfl ?_
        refine WpA.s 27 rfl ?_
        refine WpA.s 28 rfl ?_
        refine WpA.s 29 rfl ?_
        refine WpA.s 30 rfl ?_
        refine WpA.s 31 rfl ?_
        refine WpA.s 32 rfl ?_
        refine WpA.s 33 rfl ?_
        refine WpA.s 34 rfl ?_
        refine WpA.s 35 rfl ?_
        refine WpA.s 36 rfl ?_
        refine WpA.s 37 rfl ?_
        refine WpA.s 38 rfl ?_
        refine WpA.s 39 rfl ?_
        refine WpA.tF 40 rfl (V.pT) ?_
        refine WpA.ou ?_
        apply Out.seqN
        refine Wp.cT ?_
        apply Wp.region
        refine WpL.v (V.mv) ?_
        refine WpL.v (V.mv) ?_
        refine WpL.v (V.ixk tb rfl rfl) ?_
        refine WpL.v (V.fa tb) ?_
        refine WpL.o (O.stRowF1 tb (o := 9) (a' := { y with From := (k : Int), Status := 0 }) rfl rfl rfl hy3 inferInstance (by (repeat first | exact Upd.here _ _ _ | apply Upd.there)) hal2 TMsg.len rfl ?_)
        apply WpL.nil
        apply Out.blockN
        apply Out.seqN
        apply Wp.region
        refine WpL.v (V.add) ?_
        refine WpL.v (V.mv) ?_
        apply WpL.nil
        rotate_left
        (try simp only [decide_eq_true_eq, decide_eq_false_iff_not, Bool.not_eq_true', Bool.not_eq_false', Bool.not_eq_true, Bool.not_eq_false, not_true_eq_false, not_false_eq_true, reduceCtorEq] at hb1)
        refine WpA.tF 7 rfl (V.mv) ?_
        refine WpA.tF 8 rfl (V.mv) ?_
        refine WpA.tF 9 rfl (V.ixk tb rfl rfl) ?_
        refine WpA.tF 10 rfl (V.fa tb) ?_
        refine WpA.tF 11 rfl (V.rowF1 tb (o := 9) rfl (by (repeat first | exact List.Mem.head _ | apply List.Mem.tail)) TMsg.len hy3) ?_
        refine WpA.tF 12 rfl (V.cmp) ?_
        refine WpA.tF 13 rfl (V.mv) ?_
        refine WpA.pt 64 (fun hb2 => ?_) (fun hb2 => ?_)
        (try simp only [decide_eq_true_eq, decide_eq_false_iff_not, Bool.not_eq_true', Bool.not_eq_false', Bool.not_eq_true, Bool.not_eq_false, not_true_eq_false, not_false_eq_true, reduceCtorEq] at hb2)
        refine WpA.tF 14 rfl (V.mv) ?_
        refine WpA.tF 15 rfl (V.mv) ?_
        refine WpA.tF 16 rfl (V.ixk tb rfl rfl) ?_
        refine WpA.tF 17 rfl (V.fa tb) ?_
        refine WpA.tF 18 rfl (V.rowFA tb (o := 7) (c := y.Vote.c) rfl (by (repeat first | exact List.Mem.head _ | apply List.Mem.tail)) TMsg.len hy3) ?_
        refine WpA.tF 19 rfl (V.ldA tb) ?_
        refine WpA.oS 20 rfl (Op1.fn rfl (l1) ⟨?_, ?_, ?_⟩)
        exact holdT
        exact holdT
        refine WpA.tF 21 rfl (V.not) ?_
        refine WpA.tF 22 rfl (V.pT) ?_
        refine WpA.tF 23 rfl (V.pF) ?_
        refine WpA.tF 24 rfl (V.mv) ?_
        refine WpA.pt 75 (fun hb3 => ?_) (fun hb3 => ?_)
        (try simp only [decide_eq_true_eq, decide_eq_false_iff_not, Bool.not_eq_true', Bool.not_eq_false', Bool.not_eq_true, Bool.not_eq_false, not_true_eq_false, not_false_eq_true, reduceCtorEq] at hb3)
        refine WpA.s 25 rfl ?_
        refine WpA.s 26 rfl ?_
        refine WpA.s 27 rfl ?_
        refine WpA.s 28 rfl ?_
        refine WpA.s 29 rfl ?_
        refine WpA.s 30 rfl ?_
        refine WpA.s 31 rfl ?_
        refine WpA.s 32 rfl ?_
        refine WpA.s 33 rfl ?_
        refine WpA.s 34 rfl ?_
        refine WpA.s 35 rfl ?_
        refine WpA.s 36 rfl ?_
        refine WpA.s 37 rfl ?_
        refine WpA.s 38 rfl ?_
        refine WpA.s 39 rfl ?_
        refine WpA.tF 40 rfl (V.pT) ?_
        refine WpA.ou ?_
        apply Out.seqN
        refine Wp.cT ?_
        apply Wp.region
        refine WpL.v (V.mv) ?_
        refine WpL.v (V.mv) ?_
        refine WpL.v (V.ixk tb rfl rfl) ?_
        refine WpL.v (V.fa tb) ?_
        refine WpL.o (O.stRowF1 tb (o := 9) (a' := { y with From := (k : Int), Status := 0 }) rfl rfl rfl hy3 inferInstance (by (repeat first | exact Upd.here _ _ _ | apply Upd.there)) hal2 TMsg.len rfl ?_)
        apply WpL.nil
        apply Out.blockN
        apply Out.seqN
        apply Wp.region
        refine WpL.v (V.add) ?_
        refine WpL.v (V.mv) ?_
        apply WpL.nil
        rotate_left
        (try simp only [decide_eq_true_eq, decide_eq_false_iff_not, Bool.not_eq_true', Bool.not_eq_false', Bool.not_eq_true, Bool.not_eq_false, not_true_eq_false, not_false_eq_true, reduceCtorEq] at hb3)
        refine WpA.tF 25 rfl (V.mv) ?_
        refine WpA.tF 26 rfl (V.mv) ?_
        refine WpA.tF 27 rfl (V.ixk tb rfl rfl) ?_
        refine WpA.tF 28 rfl (V.fa tb) ?_
        refine WpA.tF 29 rfl (V.rowF1 tb (o := 9) rfl (by (repeat first | exact List.Mem.head _ | apply List.Mem.tail)) TMsg.len hy3) ?_
        refine WpA.tF 30 rfl (V.cmp) ?_
        refine WpA.tF 31 rfl (V.mv) ?_
        refine WpA.pt 82 (fun hb4 => ?_) (fun hb4 => ?_)
        (try simp only [decide_eq_true_eq, decide_eq_false_iff_not, Bool.not_eq_true', Bool.not_eq_false', Bool.not_eq_true, Bool.not_eq_false, not_true_eq_false, not_false_eq_true, reduceCtorEq] at hb4)
        (exfalso; omega)
        (try simp only [decide_eq_true_eq, decide_eq_false_iff_not, Bool.not_eq_true', Bool.not_eq_false', Bool.not_eq_true, Bool.not_eq_false, not_true_eq_false, not_false_eq_true, reduceCtorEq] at hb4)
        refine WpA.s 32 rfl ?_
        refine WpA.s 33 rfl ?_
        refine WpA.s 34 rfl ?_
        refine WpA.s 35 rfl ?_
        refine WpA.s 36 rfl ?_
        refine WpA.s 37 rfl ?_
        refine WpA.s 38 rfl ?_
        refine WpA.tF 39 rfl (V.pF) ?_
        refine WpA.tF 40 rfl (V.pF) ?_
        refine WpA.ou ?_
        apply Out.seqN
        refine Wp.cF ?_
        apply Wp.skip
        apply Out.blockN
        apply Out.seqN
        apply Wp.region
        refine WpL.v (V.add) ?_
        refine WpL.v (V.mv) ?_
        apply WpL.nil
        rotate_left
        (try simp only [decide_eq_true_eq, decide_eq_false_iff_not, Bool.not_eq_true', Bool.not_eq_false', Bool.not_eq_true, Bool.not_eq_false, not_true_eq_false, not_false_eq_true, reduceCtorEq] at hb2)
        refine WpA.s 14 rfl ?_
        refine WpA.s 15 rfl ?_
        refine WpA.s 16 rfl ?_
        refine WpA.s 17 rfl ?_
        refine WpA.s 18 rfl ?_
        refine WpA.s 19 rfl ?_
        refine WpA.s 20 rfl ?_
        refine WpA.s 21 rfl ?_
        refine WpA.tF 22 rfl (V.pF) ?_
        refine WpA.tF 23 rfl (V.pF) ?_
        refine WpA.tF 24 rfl (V.mv) ?_
        refine WpA.tF 25 rfl (V.mv) ?_
        refine WpA.tF 26 rfl (V.mv) ?_
        refine WpA.tF 27 rfl (V.ixk tb rfl rfl) ?_
        refine WpA.tF 28 rfl (V.fa tb) ?_
        refine WpA.tF 29 rfl (V.rowF1 tb (o := 9) rfl (by (repeat first | exact List.Mem.head _ | apply List.Mem.tail)) TMsg.len hy3) ?_
        refine WpA.tF 30 rfl (V.cmp) ?_
        refine WpA.tF 31 rfl (V.mv) ?_
        refine WpA.pt 82 (fun hb5 => ?_) (fun hb5 => ?_)
        (try simp only [decide_eq_true_eq, decide_eq_false_iff_not, Bool.not_eq_true', Bool.not_eq_false', Bool.not_eq_true, Bool.not_eq_false, not_true_eq_false, not_false_eq_true, reduceCtorEq] at hb5)
        refine WpA.tF 32 rfl (V.ldA tb) ?_
        refine WpA.tF 33 rfl (V.mv) ?_
        refine WpA.tF 34 rfl (V.mv) ?_
        refine WpA.tF 35 rfl (V.ixk tb rfl rfl) ?_
        refine WpA.tF 36 rfl (V.fa tb) ?_
        refine WpA.tF 37 rfl (V.rowFA tb (o := 7) (c := y.Vote.c) rfl (by (repeat first | exact List.Mem.head _ | apply List.Mem.tail)) TMsg.len hy3) ?_
        refine WpA.oS 38 rfl (Op1.fn rfl (l2) ⟨?_, ?_, ?_⟩)
        exact holdT
        exact holdT
        refine WpA.tF 39 rfl (V.pT) ?_
        refine WpA.tF 40 rfl (V.pF) ?_
        refine WpA.ou ?_
        apply Out.seqN
        refine Wp.c (fun hb6 => ?_) (fun hb6 => ?_)
        (try simp only [decide_eq_true_eq, decide_eq_false_iff_not, Bool.not_eq_true', Bool.not_eq_false', Bool.not_eq_true, Bool.not_eq_false, not_true_eq_false, not_false_eq_true, reduceCtorEq] at hb6)
        apply Wp.region
        refine WpL.v (V.mv) ?_
        refine WpL.v (V.mv) ?_
        refine WpL.v (V.ixk tb rfl rfl) ?_
        refine WpL.v (V.fa tb) ?_
        refine WpL.o (O.stRowF1 tb (o := 9) (a' := { y with From := (k : Int), Status := 0 }) rfl rfl rfl hy3 inferInstance (by (repeat first | exact Upd.here _ _ _ | apply Upd.there)) hal2 TMsg.len rfl ?_)
        apply WpL.nil
        apply Out.blockN
        apply Out.seqN
        apply Wp.region
        refine WpL.v (V.add) ?_
        refine WpL.v (V.mv) ?_
        apply WpL.nil
        rotate_left
        (try simp only [decide_eq_true_eq, decide_eq_false_iff_not, Bool.not_eq_true', Bool.not_eq_false', Bool.not_eq_true, Bool.not_eq_false, not_true_eq_false, not_false_eq_true, reduceCtorEq] at hb6)
        apply Wp.skip
        apply Out.blockN
        apply Out.seqN
        apply Wp.region
        refine WpL.v (V.add) ?_
        refine WpL.v (V.mv) ?_
        apply WpL.nil
        rotate_left
        (try simp only [decide_eq_true_eq, decide_eq_false_iff_not, Bool.not_eq_true', Bool.not_eq_false', Bool.not_eq_true, Bool.not_eq_false, not_true_eq_false, not_false_eq_true, reduceCtorEq] at hb5)
        refine WpA.s 32 rfl ?_
        refine WpA.s 33 rfl ?_
        refine WpA.s 34 rfl ?_
        refine WpA.s 35 rfl ?_
        refine WpA.s 36 rfl ?_
        refine WpA.s 37 rfl ?_
        refine WpA.s 38 rfl ?_
        refine WpA.tF 39 rfl (V.pF) ?_
        refine WpA.tF 40 rfl (V.pF) ?_
        refine WpA.ou ?_
        apply Out.seqN
        refine Wp.cF ?_
        apply Wp.skip
        apply Out.blockN
        apply Out.seqN
        apply Wp.region
        refine WpL.v (V.add) ?_
        refine WpL.v (V.mv) ?_
        apply WpL.nil
        rotate_left
        (try simp only [decide_eq_true_eq, decide_eq_false_iff_not, Bool.not_eq_true', Bool.not_eq_false', Bool.not_eq_true, Bool.not_eq_false, not_true_eq_false, not_false_eq_true, reduceCtorEq] at hb0)
        (exfalso; omega)
        all_goals first
          | exact Out.ag hK (k + 1) (by omega) (by show xs.length - (k + 1) < xs.length - k; omega) (hs := by rw [ep (by simp [bad, *])]; (repeat (first | exact Sel.nil | exact Rem.here | apply Sel.cons | apply Rem.there)))
          | exact Out.ag hK (k + 1) (by omega) (by show xs.length - (k + 1) < xs.length - k; omega) (hs := by rw [en (by simp [bad, *])]; (repeat (first | exact Sel.nil | exact Rem.here | apply Sel.cons | apply Rem.there)))
      · obtain rfl : k = xs.length := by omega
        clear hK
        apply Wp.seq
        apply Wp.region
        refine WpL.v (V.cmp) ?_
        apply WpL.nil
        apply Out.seqN
        apply Wp.seq
        refine Wp.c (fun hc0 => ?_) (fun hc0 => ?_)
        (try simp only [decide_eq_true_eq, decide_eq_false_iff_not, Bool.not_eq_true', Bool.not_eq_false', Bool.not_eq_true, Bool.not_eq_false, not_true_eq_false, not_false_eq_true, reduceCtorEq] at hc0)
        (exfalso; omega)
        (try simp only [decide_eq_true_eq, decide_eq_false_iff_not, Bool.not_eq_true', Bool.not_eq_false', Bool.not_eq_true, Bool.not_eq_false, not_true_eq_false, not_false_eq_true, reduceCtorEq] at hc0)
        apply Wp.exit
        apply Out.seqE
        apply Out.seqE
        apply Out.blockE
        apply Out.seqN
        apply Wp.seq
        apply Wp.region
        refine WpL.o (Op1.mkMap (fun n : Int => I n) (fun b : Bool => B b) rfl (fun p97 => ?_))
        refine WpL.v (V.as) ?_
        apply WpL.nil
        apply Out.seqN
        apply Wp.seq
        apply Wp.seq
        apply Wp.region
        refine WpL.v (V.mv) ?_
        refine WpL.v (V.lenL tb) ?_
        refine WpL.v (V.mv) ?_
        apply WpL.nil
        apply Out.seqN
        apply Wp.block
        refine Wp.lp [99, 98, 18, 16, 15, 11, 10, 8, 0, 6] (fun i : Nat => i ≤ who.length) (fun i => [(100, I (i : Int))]) (fun i => [mapK (fun n : Int => I n) (fun b : Bool => B b) p97 (ins n (who.take i))]) (fun i => who.length - i) 0 (Nat.zero_le _) ?_
        intro i hi K hK
        dsimp only [List.cons_append, List.nil_append]
        by_cases hlt : i < who.length
        · obtain ⟨r, hr⟩ := getS hlt
          have e1 : ins n (who.take (i + 1)) = insIn n (ins n (who.take i)) r := by rw [take_snocS hr, ins_snoc]
          generalize ins n (who.take i) = l at *
          apply Wp.seq
          apply Wp.region
          refine WpL.v (V.cmp) ?_
          apply WpL.nil
          apply Out.seqN
          apply Wp.seq
          refine Wp.c (fun hd0 => ?_) (fun hd0 => ?_)
          (try simp only [decide_eq_true_eq, decide_eq_false_iff_not, Bool.not_eq_true', Bool.not_eq_false', Bool.not_eq_true, Bool.not_eq_false, not_true_eq_false, not_false_eq_true, reduceCtorEq] at hd0)
          apply Wp.skip
          apply Out.seqN
          apply Wp.seq
          apply Wp.block
          apply Wp.seq
          apply Wp.region
          refine WpL.v (V.ixR tb rfl rfl (by assumption)) ?_
          refine WpL.v (V.rdF1 tb (o := 0) rfl hR2 (getMapS hr)) ?_
          refine WpL.v (V.as) ?_
          apply WpL.nil
          apply Out.seqN
          apply Wp.seq
          apply Wp.region
          refine WpL.v (V.mv) ?_
          refine WpL.v (V.cmp) ?_
          refine WpL.v (V.mv) ?_
          refine WpL.pt (fun hd1 => ?_) (fun hd1 => ?_)
          (try simp only [decide_eq_true_eq, decide_eq_false_iff_not, Bool.not_eq_true', Bool.not_eq_false', Bool.not_eq_true, Bool.not_eq_false, not_true_eq_false, not_false_eq_true, reduceCtorEq] at hd1)
          refine WpL.v (V.mv) ?_
          refine WpL.v (V.mv) ?_
          refine WpL.v (V.cmp) ?_
          refine WpL.v (V.pT) ?_
          apply WpL.nil
          apply Out.seqN
          refine Wp.c (fun hd2 => ?_) (fun hd2 => ?_)
          (try simp only [decide_eq_true_eq, decide_eq_false_iff_not, Bool.not_eq_true', Bool.not_eq_false', Bool.not_eq_true, Bool.not_eq_false, not_true_eq_false, not_false_eq_true, reduceCtorEq] at hd2)
          apply Wp.region
          refine WpL.v (V.mv) ?_
          refine WpL.v (V.mv) ?_
          refine WpL.o (Op1.updM (k := r) (v := true) (KeyOk.int und3) map46 rfl rfl rfl (by (repeat first | exact Upd.here _ _ _ | apply Upd.there)) ?_)
          apply WpL.nil
          apply Out.blockN
          apply Out.seqN
          apply Wp.region
          refine WpL.v (V.add) ?_
          refine WpL.v (V.mv) ?_
          apply WpL.nil
          rotate_left
          (try simp only [decide_eq_true_eq, decide_eq_false_iff_not, Bool.not_eq_true', Bool.not_eq_false', Bool.not_eq_true, Bool.not_eq_false, not_true_eq_false, not_false_eq_true, reduceCtorEq] at hd2)
          apply Wp.skip
          apply Out.blockN
          apply Out.seqN
          apply Wp.region
          refine WpL.v (V.add) ?_
          refine WpL.v (V.mv) ?_
          apply WpL.nil
          rotate_left
          (try simp only [decide_eq_true_eq, decide_eq_false_iff_not, Bool.not_eq_true', Bool.not_eq_false', Bool.not_eq_true, Bool.not_eq_false, not_true_eq_false, not_false_eq_true, reduceCtorEq] at hd1)
          refine WpL.sk ?_
          refine WpL.sk ?_
          refine WpL.sk ?_
          refine WpL.v (V.pF) ?_
          apply WpL.nil
          apply Out.seqN
          refine Wp.cF ?_
          apply Wp.skip
          apply Out.blockN
          apply Out.seqN
          apply Wp.region
          refine WpL.v (V.add) ?_
          refine WpL.v (V.mv) ?_
          apply WpL.nil
          rotate_left
          (try simp only [decide_eq_true_eq, decide_eq_false_iff_not, Bool.not_eq_true', Bool.not_eq_false', Bool.not_eq_true, Bool.not_eq_false, not_true_eq_false, not_false_eq_true, reduceCtorEq] at hd0)
          (exfalso; omega)
          all_goals first
            | exact Out.ag hK (i + 1) (by omega) (by show who.length - (i + 1) < who.length - i; omega) (hs := by rw [e1, insIn, if_pos (by omega)]; (repeat (first | exact Sel.nil | exact Rem.here | apply Sel.cons | apply Rem.there)))
            | exact Out.ag hK (i + 1) (by omega) (by show who.length - (i + 1) < who.length - i; omega) (hs := by rw [e1, insIn, if_neg (by omega)]; (repeat (first | exact Sel.nil | exact Rem.here | apply Sel.cons | apply Rem.there)))
        · obtain rfl : i = who.length := by omega
          clear hK
          rw [List.take_length]
          have hok := ins_ok n who
          generalize ins n who = l at *
          apply Wp.seq
          apply Wp.region
          refine WpL.v (V.cmp) ?_
          apply WpL.nil
          apply Out.seqN
          apply Wp.seq
          refine Wp.c (fun hh0 => ?_) (fun hh0 => ?_)
          (try simp only [decide_eq_true_eq, decide_eq_false_iff_not, Bool.not_eq_true', Bool.not_eq_false', Bool.not_eq_true, Bool.not_eq_false, not_true_eq_false, not_false_eq_true, reduceCtorEq] at hh0)
          (exfalso; omega)
          (try simp only [decide_eq_true_eq, decide_eq_false_iff_not, Bool.not_eq_true', Bool.not_eq_false', Bool.not_eq_true, Bool.not_eq_false, not_true_eq_false, not_false_eq_true, reduceCtorEq] at hh0)
          apply Wp.exit
          apply Out.seqE
          apply Out.seqE
          apply Out.blockE
          apply Out.seqN
          apply Wp.seq
          apply Wp.seq
          apply Wp.region
          refine WpL.v (V.mv) ?_
          refine WpL.o (Op1.rngM map46 rfl (by (intro _; repeat first | exact Upd.here _ _ _ | apply Upd.there)) (fun q115 => ?_))
          apply WpL.nil
          apply Out.seqN
          apply Wp.block
          refine Wp.lp [115, 18, 16, 15, 11, 10, 8, 0, 6] (fun y : Seen × Option (Int × Bool) × List TMsg => Mid vote call (accs vote xs xs.length) l y.1 y.2.2) (fun _ => []) (fun y => [mapR (fun n : Int => I n) (fun b : Bool => B b) p97 q115 l y.1 y.2.1, rows TMsg.c (.slice (some ⟨g40, 0, none⟩) xs.length cap40) 44 25 y.2.2]) (fun y => y.1.length) (l, none, accs vote xs xs.length) (Mid.start _ _ _ _) ?_
          rintro ⟨todo, last, L⟩ hM K hK
          dsimp only at hM
          dsimp only [List.cons_append, List.nil_append]
          have hLl : L.length = xs.length := by rw [hM.len, hal]
          by_cases h0 : todo = []
          · subst h0
            clear hK
            apply Wp.seq
            apply Wp.region
            refine WpL.o (Op1.nxtM0 rfl (by (repeat first | exact List.Mem.head _ | apply List.Mem.tail)) ?_)
            refine WpL.v (V.ex) ?_
            apply WpL.nil
            apply Out.seqN
            apply Wp.seq
            refine Wp.cF ?_
            apply Wp.exit
            apply Out.seqE
            apply Out.seqE
            apply Out.blockE
            apply Out.seqN
            apply Wp.endT
            have hP := pick_rdA (rows TMsg.c (.slice (some ⟨g40, 0, none⟩) L.length cap40) 44 25 L) e (some ⟨g40, 0, none⟩) ao3 cap40 g40 0 cap3 b3 off3 L qs (Rd.rows TMsg.len (by omega)) hR3 (by omega)
            have hlaw := fun h1 h2 => accepted_law hfn hf x hl hok hM qs h1 h2
            have hsm := picks_small L qs
            rw [hLl] at hP
            generalize (picks L qs).1 = Q at *
            apply Wp.seq
            apply Wp.region
            refine WpL.v (V.mv) ?_
            refine WpL.v (V.mv) ?_
            refine WpL.o (Op1.callT rfl (hP) (by (repeat (first | exact Sel.nil | exact Rem.here | apply Sel.cons | apply Rem.there))) ?_)
            rintro v1 s2 ⟨ap136, ⟨cp136, ⟨g136, ⟨hx0, ⟨rfl, rfl⟩⟩⟩⟩⟩
            refine incat ?_
            refine WpL.v (V.as) ?_
            apply WpL.nil
            apply Out.seqN
            apply Wp.seq
            by_cases h1 : f + 1 ≤ l.length
            · by_cases h2 : f + 1 ≤ Q.length
              · have hC := rescue_choose _ ap136 cp136 g136 0 n x Q (by omega) (by omega) hx0
                rw [hlaw h1 h2] at hC
                apply Wp.seq
                apply Wp.region
                refine WpL.v (V.mv) ?_
                refine WpL.v (Val.lenM map46 rfl (by (repeat first | exact List.Mem.head _ | apply List.Mem.tail))) ?_
                refine WpL.v (V.mv) ?_
                refine WpL.v (V.add) ?_
                refine WpL.v (V.cmp) ?_
                refine WpL.v (V.mv) ?_
                refine WpL.pt (fun hn0 => ?_) (fun hn0 => ?_)
                (try simp only [decide_eq_true_eq, decide_eq_false_iff_not, Bool.not_eq_true', Bool.not_eq_false', Bool.not_eq_true, Bool.not_eq_false, not_true_eq_false, not_false_eq_true, reduceCtorEq] at hn0)
                (exfalso; omega)
                (try simp only [decide_eq_true_eq, decide_eq_false_iff_not, Bool.not_eq_true', Bool.not_eq_false', Bool.not_eq_true, Bool.not_eq_false, not_true_eq_false, not_false_eq_true, reduceCtorEq] at hn0)
                refine WpL.v (V.mv) ?_
                refine WpL.v (V.lenL tb) ?_
                refine WpL.v (V.mv) ?_
                refine WpL.v (V.add) ?_
                refine WpL.v (V.cmp) ?_
                refine WpL.v (V.pF) ?_
                apply WpL.nil
                apply Out.seqN
                refine Wp.c (fun hn1 => ?_) (fun hn1 => ?_)
                (try simp only [decide_eq_true_eq, decide_eq_false_iff_not, Bool.not_eq_true', Bool.not_eq_false', Bool.not_eq_true, Bool.not_eq_false, not_true_eq_false, not_false_eq_true, reduceCtorEq] at hn1)
                (exfalso; omega)
                (try simp only [decide_eq_true_eq, decide_eq_false_iff_not, Bool.not_eq_true', Bool.not_eq_false', Bool.not_eq_true, Bool.not_eq_false, not_true_eq_false, not_false_eq_true, reduceCtorEq] at hn1)
                apply Wp.skip
                apply Out.seqN
                apply Wp.seq
                apply Wp.region
                refine WpL.v (V.mv) ?_
                refine WpL.v (V.ldA tb) ?_
                refine WpL.v (V.mv) ?_
                refine WpL.o (Op1.callT rfl (hC) (by (repeat (first | exact Sel.nil | exact Rem.here | apply Sel.cons | apply Rem.there))) ?_)
                rintro v2 s3 ⟨rfl, rfl⟩
                refine incat ?_
                refine WpL.v (V.mv) ?_
                refine WpL.v (V.ex) ?_
                refine WpL.v (V.ex) ?_
                refine WpL.o (O.al tb (fun p24 => ?_))
                refine WpL.v (V.as) ?_
                refine WpL.o (O.stA tb ?_)
                apply WpL.nil
                apply Out.seqN
                apply Wp.seq
                apply Wp.region
                refine WpL.v (V.mv) ?_
                refine WpL.v (V.cmp) ?_
                refine WpL.v (V.mv) ?_
                refine WpL.pt (fun hn4 => ?_) (fun hn4 => ?_)
                (try simp only [decide_eq_true_eq, decide_eq_false_iff_not, Bool.not_eq_true', Bool.not_eq_false', Bool.not_eq_true, Bool.not_eq_false, not_true_eq_false, not_false_eq_true, reduceCtorEq] at hn4)
                refine WpL.v (V.ldA tb) ?_
                refine WpL.v (V.ldA tb) ?_
                refine WpL.v (V.eq (TCall.eqT _ _ _)) ?_
                refine WpL.v (V.pT) ?_
                refine WpL.v (V.as) ?_
                apply WpL.nil
                apply Out.seqN
                apply Wp.ret
                refine Out.f1 rfl ResIs.t ⟨?_, rfl⟩
                focus ((simp); done)
                (try simp only [decide_eq_true_eq, decide_eq_false_iff_not, Bool.not_eq_true', Bool.not_eq_false', Bool.not_eq_true, Bool.not_eq_false, not_true_eq_false, not_false_eq_true, reduceCtorEq] at hn4)
              · apply Wp.seq
                apply Wp.region
                refine WpL.v (V.mv) ?_
                refine WpL.v (Val.lenM map46 rfl (by (repeat first | exact List.Mem.head _ | apply List.Mem.tail))) ?_
                refine WpL.v (V.mv) ?_
                refine WpL.v (V.add) ?_
                refine WpL.v (V.cmp) ?_
                refine WpL.v (V.mv) ?_
                refine WpL.pt (fun ho0 => ?_) (fun ho0 => ?_)
                (try simp only [decide_eq_true_eq, decide_eq_false_iff_not, Bool.not_eq_true', Bool.not_eq_false', Bool.not_eq_true, Bool.not_eq_false, not_true_eq_false, not_false_eq_true, reduceCtorEq] at ho0)
                (exfalso; omega)
                (try simp only [decide_eq_true_eq, decide_eq_false_iff_not, Bool.not_eq_true', Bool.not_eq_false', Bool.not_eq_true, Bool.not_eq_false, not_true_eq_false, not_false_eq_true, reduceCtorEq] at ho0)
                refine WpL.v (V.mv) ?_
                refine WpL.v (V.lenL tb) ?_
                refine WpL.v (V.mv) ?_
                refine WpL.v (V.add) ?_
                refine WpL.v (V.cmp) ?_
                refine WpL.v (V.pF) ?_
                apply WpL.nil
                apply Out.seqN
                refine Wp.c (fun ho1 => ?_) (fun ho1 => ?_)
                (try simp only [decide_eq_true_eq, decide_eq_false_iff_not, Bool.not_eq_true', Bool.not_eq_false', Bool.not_eq_true, Bool.not_eq_false, not_true_eq_false, not_false_eq_true, reduceCtorEq] at ho1)
                apply Wp.seq
                apply Wp.region
                refine WpL.v (V.as) ?_
                apply WpL.nil
                apply Out.seqN
                apply Wp.ret
                apply Out.seqR
                refine Out.f1 rfl ResIs.t ⟨?_, rfl⟩
                exact rfl
                (try simp only [decide_eq_true_eq, decide_eq_false_iff_not, Bool.not_eq_true', Bool.not_eq_false', Bool.not_eq_true, Bool.not_eq_false, not_true_eq_false, not_false_eq_true, reduceCtorEq] at ho1)
                (exfalso; omega)
            · apply Wp.seq
              apply Wp.region
              refine WpL.v (V.mv) ?_
              refine WpL.v (Val.lenM map46 rfl (by (repeat first | exact List.Mem.head _ | apply List.Mem.tail))) ?_
              refine WpL.v (V.mv) ?_
              refine WpL.v (V.add) ?_
              refine WpL.v (V.cmp) ?_
              refine WpL.v (V.mv) ?_
              refine WpL.pt (fun hq0 => ?_) (fun hq0 => ?_)
              (try simp only [decide_eq_true_eq, decide_eq_false_iff_not, Bool.not_eq_true', Bool.not_eq_false', Bool.not_eq_true, Bool.not_eq_false, not_true_eq_false, not_false_eq_true, reduceCtorEq] at hq0)
              refine WpL.sk ?_
              refine WpL.sk ?_
              refine WpL.sk ?_
              refine WpL.sk ?_
              refine WpL.sk ?_
              refine WpL.v (V.pT) ?_
              apply WpL.nil
              apply Out.seqN
              refine Wp.cT ?_
              apply Wp.seq
              apply Wp.region
              refine WpL.v (V.as) ?_
              apply WpL.nil
              apply Out.seqN
              apply Wp.ret
              apply Out.seqR
              refine Out.f1 rfl ResIs.t ⟨?_, rfl⟩
              exact rfl
              (try simp only [decide_eq_true_eq, decide_eq_false_iff_not, Bool.not_eq_true', Bool.not_eq_false', Bool.not_eq_true, Bool.not_eq_false, not_true_eq_false, not_false_eq_true, reduceCtorEq] at hq0)
              (exfalso; omega)
          · apply Wp.seq
            apply Wp.region
            refine WpL.o (Op1.nxtM1 h0 rfl (by (intro _ _; repeat first | exact Upd.here _ _ _ | apply Upd.there)) (fun j116 p116 hj116 => ?_))
            refine WpL.v (V.ex) ?_
            apply WpL.nil
            apply Out.seqN
            apply Wp.seq
            refine Wp.cT ?_
            apply Wp.skip
            apply Out.seqN
            apply Wp.block
            obtain ⟨r, vv⟩ := p116
            have hrl : r ∈ l.map (·.1) := List.mem_map.2 ⟨(r, vv), hM.sub _ (List.mem_of_getElem? hj116), rfl⟩
            have hr2 := hok.range r hrl
            obtain ⟨i, rfl⟩ : ∃ i : Nat, r = (i : Int) := ⟨r.toNat, by omega⟩
            obtain ⟨z, hz⟩ := getS (xs := L) (k := i) (by omega)
            have hz2 : (L.set i { z with Status := 2 })[i]? = some { z with Status := 2 } := by rw [List.getElem?_set, if_pos rfl, if_pos (by omega)]
            have hz3 : ((L.set i { z with Status := 2 }).set i { z with Status := 2, Vote := vote })[i]? = some { z with Status := 2, Vote := vote } := by rw [List.getElem?_set, if_pos rfl, if_pos (by rw [List.length_set]; omega)]
            have hl2 : (L.set i { z with Status := 2 }).length = xs.length := by rw [List.length_set, hLl]
            have hl3 : ((L.set i { z with Status := 2 }).set i { z with Status := 2, Vote := vote }).length = xs.length := by rw [List.length_set, hl2]
            dsimp only
            apply Wp.seq
            apply Wp.region
            refine WpL.v (Val.entM (p := ((i : Int), vv)) rfl (by (repeat first | exact List.Mem.head _ | apply List.Mem.tail))) ?_
            refine WpL.v (V.ex) ?_
            refine WpL.v (V.as) ?_
            apply WpL.nil
            apply Out.seqN
            apply Wp.seq
            apply Wp.region
            refine WpL.v (V.mv) ?_
            refine WpL.v (V.mv) ?_
            refine WpL.v (V.ixk tb (k := i) rfl rfl rfl rfl (by omega)) ?_
            refine WpL.v (V.fa tb) ?_
            refine WpL.o (O.stRowF1 tb (o := 9) (a' := { z with Status := 2 }) rfl rfl rfl hz inferInstance (by (repeat first | exact Upd.here _ _ _ | apply Upd.there)) hLl TMsg.len rfl ?_)
            apply WpL.nil
            apply Out.seqN
            apply Wp.seq
            apply Wp.region
            refine WpL.v (V.mv) ?_
            refine WpL.v (V.mv) ?_
            refine WpL.v (V.ldA tb) ?_
            refine WpL.v (V.ixk tb (k := i) rfl rfl rfl rfl (by omega)) ?_
            refine WpL.v (V.fa tb) ?_
            refine WpL.o (O.stRowFA tb (o := 7) (a' := { z with Status := 2, Vote := vote }) rfl rfl hz2 inferInstance rfl (TBallot.ones vote) (by (repeat first | exact Upd.here _ _ _ | apply Upd.there)) hl2 TMsg.len rfl ?_)
            apply WpL.nil
            apply Out.seqN
            apply Wp.region
            refine WpL.v (V.mv) ?_
            refine WpL.v (V.mv) ?_
            refine WpL.v (V.ldA tb) ?_
            refine WpL.v (V.ixk tb (k := i) rfl rfl rfl rfl (by omega)) ?_
            refine WpL.v (V.fa tb) ?_
            refine WpL.o (O.stRowFA tb (o := 11) (a' := yes vote call z) rfl rfl hz3 inferInstance rfl (TCall.ones call) (by (repeat first | exact Upd.here _ _ _ | apply Upd.there)) hl3 TMsg.len rfl ?_)
            apply WpL.nil
            apply Out.blockN
            exact Out.ag hK (todo.eraseIdx j116, some ((i : Int), vv), L.set i (yes vote call z)) (hM.next hj116 rfl hz) (by
              show (todo.eraseIdx j116).length < todo.length
              have := (List.getElem?_eq_some_iff.1 hj116).1
              rw [List.length_eraseIdx, if_pos this]; omega) (hs := by rw [List.set_set, List.set_set]; (repeat (first | exact Sel.nil | exact Rem.here | apply Sel.cons | apply Rem.there)))
    · refine Ct.enter Try.func4 rfl rfl fun W => ?_
      apply Wp.seq
      apply Wp.region
      refine WpL.o (O.bxA (fun p8 => ?_))
      refine WpL.o (O.bxA (fun p10 => ?_))
      refine WpL.o (O.bxA (fun p11 => ?_))
      refine WpL.v (V.as) ?_
      apply WpL.nil
      apply Out.seqN
      apply Wp.seq
      apply Wp.seq
      apply Wp.region
      refine WpL.o (Op1.fn rfl (alive16) ?_)
      refine WpL.v (V.not) ?_
      apply WpL.nil
      apply Out.seqN
      refine Wp.cF ?_
      apply Wp.skip
      apply Out.seqN
      apply Wp.seq
      apply Wp.seq
      apply Wp.region
      refine WpL.v (V.mv) ?_
      refine WpL.o (Op1.fn rfl (hS) ?_)
      refine WpL.v (V.not) ?_
      refine WpL.v (V.mv) ?_
      refine WpL.v (V.mv) ?_
      refine WpL.v (V.lenL tb) ?_
      refine WpL.v (V.mv) ?_
      refine WpL.v (V.cmp) ?_
      refine WpL.v (V.pF) ?_
      apply WpL.nil
      apply Out.seqN
      refine Wp.c (fun he0 => ?_) (fun he0 => ?_)
      (try simp only [decide_eq_true_eq, decide_eq_false_iff_not, Bool.not_eq_true', Bool.not_eq_false', Bool.not_eq_true, Bool.not_eq_false, not_true_eq_false, not_false_eq_true, reduceCtorEq] at he0)
      apply Wp.seq
      apply Wp.region
      refine WpL.v (V.as) ?_
      apply WpL.nil
      apply Out.seqN
      apply Wp.ret
      apply Out.seqR
      refine Out.f1 rfl ResIs.t ⟨?_, rfl⟩
      exact rfl
      (try simp only [decide_eq_true_eq, decide_eq_false_iff_not, Bool.not_eq_true', Bool.not_eq_false', Bool.not_eq_true, Bool.not_eq_false, not_true_eq_false, not_false_eq_true, reduceCtorEq] at he0)
      (exfalso; omega)
  · have hS : Fun Try.prog 24 [I n] (B false) := by
      have h := r16_size n
      rwa [show (decide (n = 3) || (decide (n = 5) || decide (n = 7))) = false by simp; omega] at h
    refine Ct.enter Try.func4 rfl rfl fun W => ?_
    apply Wp.seq
    apply Wp.region
    refine WpL.o (O.bxA (fun p8 => ?_))
    refine WpL.o (O.bxA (fun p10 => ?_))
    refine WpL.o (O.bxA (fun p11 => ?_))
    refine WpL.v (V.as) ?_
    apply WpL.nil
    apply Out.seqN
    apply Wp.seq
    apply Wp.seq
    apply Wp.region
    refine WpL.o (Op1.fn rfl (alive16) ?_)
    refine WpL.v (V.not) ?_
    apply WpL.nil
    apply Out.seqN
    refine Wp.cF ?_
    apply Wp.skip
    apply Out.seqN
    apply Wp.seq
    apply Wp.seq
    apply Wp.region
    refine WpL.v (V.mv) ?_
    refine WpL.o (Op1.fn rfl (hS) ?_)
    refine WpL.v (V.not) ?_
    refine WpL.v (V.mv) ?_
    refine WpL.sk ?_
    refine WpL.sk ?_
    refine WpL.sk ?_
    refine WpL.sk ?_
    refine WpL.v (V.pT) ?_
    apply WpL.nil
    apply Out.seqN
    refine Wp.cT ?_
    apply Wp.seq
    apply Wp.region
    refine WpL.v (V.as) ?_
    apply WpL.nil
    apply Out.seqN
    apply Wp.ret
    apply Out.seqR
    refine Out.f1 rfl ResIs.t ⟨?_, rfl⟩
    exact rfl
open Go Go.ChangeShapes Go.WideShapes Go.ChangeAt Go.RowKit
theorem rescueAccepted_read : (Try.f4.params.toList.all fun t => Try.prog.readableRec t && decide (t < Try.prog.types.size)) = true := by kernel_rfl
theorem rescueAccepted_lifted (os : Go.Os) (started : os.Started) (H : Type) (enc : Go.TypeId × Go.Value → H) :
    ReturnsInHanded {} Try.checked os 4 .any (Rows.rescueAcceptedSpec.pre6 enc Try.prog Try.f4 Rows.rescueAcceptedRow.domain false) (Rows.rescueAcceptedSpec.post enc Try.prog Try.f4 false true false false) := by
  refine returnsInHanded_of_change_sized (C := Try.checked) own started (by kernel_rfl) Try.func4
    (ChangeSpec.witness6 (enc := enc) (C := Try.checked) false ⟨#[], #[I 0, A TItem.z.c, .slice none 0 0, A TCall.z.c, A TBallot.z.c, .slice none 0 0, .slice none 0 0], []⟩ 8 (by kernel_rfl) (by kernel_rfl) (by kernel_rfl) (by kernel_rfl)) ?_
  intro W base args ds gs before hval0 hW hcnd hsz0 _
  have hsz : (DataW.weightsEach Try.prog (Try.f4.params.toList ++ Rows.rescueAcceptedSpec.plain.varTypes Try.prog) (ds ++ gs)).all (· ≤ reachBytes) = true := hsz0
  have hval : ∀ (j : Nat) t v, Try.f4.params[j]? = some t → args[j]? = some v → Value.okWide Try.prog W .any base t v := hval0
  have hW' := hW
  obtain ⟨p, q, hA0, hV, rfl, hfz, hnd⟩ := hW
  have hA1 : DataW.TrodAll enc Try.prog W 0 (fun _ => true) true Try.f4.params.toList args.toList ds p := hA0
  have hA := hA1
  rw [Try.params4] at hA hval hsz
  obtain ⟨v0, vs0, d0, ds0, p0, q0, hargs, rfl, rfl, h0, r0⟩ := trodAll_cons hA
  obtain ⟨v1, vs1, d1, ds1, p1, q1, rfl, rfl, rfl, h1, r1⟩ := trodAll_cons r0
  obtain ⟨v2, vs2, d2, ds2, p2, q2, rfl, rfl, rfl, h2, r2⟩ := trodAll_cons r1
  obtain ⟨v3, vs3, d3, ds3, p3, q3, rfl, rfl, rfl, h3, r3⟩ := trodAll_cons r2
  obtain ⟨v4, vs4, d4, ds4, p4, q4, rfl, rfl, rfl, h4, r4⟩ := trodAll_cons r3
  obtain ⟨v5, vs5, d5, ds5, p5, q5, rfl, rfl, rfl, h5, r5⟩ := trodAll_cons r4
  obtain ⟨v6, vs6, d6, ds6, p6, q6, rfl, rfl, rfl, h6, r6⟩ := trodAll_cons r5
  obtain ⟨rfl, rfl, rfl⟩ := trodAll_nil r6
  obtain rfl : args = #[v0, v1, v2, v3, v4, v5, v6] := by cases args; simp_all
  obtain ⟨rfl, rfl⟩ := trodVars_none hV
  obtain ⟨x0, rfl, rfl, rfl, w0⟩ := open_int Try.underlying3 (hval 0 3 v0 rfl rfl) h0
  obtain ⟨c1, rfl, f1⟩ := open_plain TItem.leaves ⟨_, Try.underlying23⟩ (hval 1 23 v1 rfl rfl) h1 (sizedAll hsz 1 rfl rfl)
  obtain ⟨x1, rfl, w1⟩ := TItem.fit f1
  obtain ⟨ao2, b2, off2, len2, cap2, xs2, rfl, hl2, hlc2, hcm2, ha2, hs2, hf2, hby2⟩ := open_slice_plain Try.underlying24 TMsg.leaves (by kernel_rfl) (by decide) (hval 2 24 v2 rfl rfl) h2 (sizedAll hsz 2 rfl rfl)
  obtain ⟨x2, rfl, w2⟩ := fits_map TMsg.c TMsg.wf hf2 TMsg.fit
  obtain rfl : len2 = x2.length := by simpa using hl2.symm
  obtain ⟨c3, rfl, f3⟩ := open_plain TCall.leaves ⟨_, Try.underlying33⟩ (hval 3 33 v3 rfl rfl) h3 (sizedAll hsz 3 rfl rfl)
  obtain ⟨x3, rfl, w3⟩ := TCall.fit f3
  obtain ⟨c4, rfl, f4⟩ := open_plain TBallot.leaves ⟨_, Try.underlying40⟩ (hval 4 40 v4 rfl rfl) h4 (sizedAll hsz 4 rfl rfl)
  obtain ⟨x4, rfl, w4⟩ := TBallot.fit f4
  obtain ⟨ao5, b5, off5, len5, cap5, xs5, rfl, hl5, hlc5, hcm5, ha5, hs5, hf5, hby5⟩ := open_slice_plain Try.underlying41 IntT.leaves (by kernel_rfl) (by decide) (hval 5 41 v5 rfl rfl) h5 (sizedAll hsz 5 rfl rfl)
  obtain ⟨x5, rfl, w5⟩ := fits_map IntT.c IntT.wf hf5 IntT.fit
  obtain rfl : len5 = x5.length := by simpa using hl5.symm
  obtain ⟨ao6, b6, off6, len6, cap6, xs6, rfl, hl6, hlc6, hcm6, ha6, hs6, hf6, hby6⟩ := open_slice_plain Try.underlying41 IntT.leaves (by kernel_rfl) (by decide) (hval 6 41 v6 rfl rfl) h6 (sizedAll hsz 6 rfl rfl)
  obtain ⟨x6, rfl, w6⟩ := fits_map IntT.c IntT.wf hf6 IntT.fit
  obtain rfl : len6 = x6.length := by simpa using hl6.symm
  simp only [List.append_nil] at hW' hA1
  have hbl : ∀ p : Nat × Nat, p ∈ [(x2.length, b2), (x5.length, b5), (x6.length, b6)] → 0 < p.1 → p.2 < W.heap.size := by
    intro p hp h0
    simp only [List.mem_cons, List.mem_nil_iff, or_false] at hp
    rcases hp with rfl | rfl | rfl
    · exact (ha2 h0).2
    · exact (ha5 h0).2
    · exact (ha6 h0).2
  have hR2 : Rd (snap W (blocksOf [(x2.length, b2), (x5.length, b5), (x6.length, b6)])) ao2 x2.length b2 off2 25 (x2.map TMsg.c) := Rd.snap (by simp) (Nat.le_trans hlc2 hcm2) ha2 hs2 (fun h => blocksOf_mem (len := x2.length) (by simp) h)
  have hR5 : Rd (snap W (blocksOf [(x2.length, b2), (x5.length, b5), (x6.length, b6)])) ao5 x5.length b5 off5 1 (x5.map IntT.c) := Rd.snap (by simp) (Nat.le_trans hlc5 hcm5) ha5 hs5 (fun h => blocksOf_mem (len := x5.length) (by simp) h)
  have hR6 : Rd (snap W (blocksOf [(x2.length, b2), (x5.length, b5), (x6.length, b6)])) ao6 x6.length b6 off6 1 (x6.map IntT.c) := Rd.snap (by simp) (Nat.le_trans hlc6 hcm6) ha6 hs6 (fun h => blocksOf_mem (len := x6.length) (by simp) h)
  refine (Ct.runSnap (blocksOf_nodup _) (blocksOf_lt hbl) (rescueAccepted_walk _ _ _ _ _ x0 x1 x2 x3 x4 _ _ _ _ x5 _ _ _ _ x6 hR2 hR5 hR6)).mono fun e W' hh => ?_
  obtain ⟨rfl, hS⟩ := hh
  exact ⟨_, rfl, post_law (P := Try.prog) (f := Try.f4) (tbool := 4) hW' hA1 rfl rfl hS laid rescueAccepted_read rfl Try.underlying4⟩
theorem rescueAccepted_joined : joinedFacts Try.prog 4 Try.f4 Rows.rescueAcceptedSpec Rows.rescueAcceptedRow = true := by
  unfold joinedFacts
  rewrite [head_enter, head_lift, head_make]
  kernel_rfl
theorem rescueAccepted_over : Rows.rescueAcceptedRow.holds Try.pinned (OpenSpec.ofChange Rows.rescueAcceptedSpec) :=
  OpenClaim.holds_of_wide 4 Try.f4 rfl rfl rfl rfl rfl rfl rfl ⟨rfl, rfl, rfl, rfl, rfl⟩ rfl rfl rfl rfl rfl (by kernel_rfl) Try.func4 rescueAccepted_joined
    (of_decide_eq_true (by kernel_rfl)) (by unfold Func.isWrapper; first | (rw [if_pos (by decide +kernel)]; kernel_rfl) | (rw [if_neg (by decide +kernel)]; exact ⟨rfl, rfl⟩))
    (fun os started H enc _ => rescueAccepted_lifted os started H enc)
/-- THE STATEMENT. -/
theorem rescueAccepted_proved : Rows.RescueAcceptedSaid := rescueAccepted_over
#print axioms rescueAccepted_proved

end Go.Proofs.Ythoepbbpmdmfeaa
