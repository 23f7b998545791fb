/-
  Layer 17: a wheel of items: a thing is set.
-/
import Derived.Test.YthoepbbpmdmfeaaItW3
namespace Go.Proofs.Ythoepbbpmdmfeaa
open Go.HL
set_option linter.unusedSimpArgs false
set_option linter.unusedVariables false
set_option maxRecDepth 8000
def IinsS (s : WheelSpokeOfItem) (l : List WheelSpokeOfItem) : List WheelSpokeOfItem := l.takeWhile (fun a => Isp_lt a s) ++ s :: l.dropWhile (fun a => Isp_lt a s)
theorem IinsS_pos : ∀ (l : List WheelSpokeOfItem) (s : WheelSpokeOfItem) (p : Nat), IPosI l s p → IinsS s l = l.take p ++ s :: l.drop p
  | [], s, p, _ => by simp [IinsS]
  | a :: l, s, 0, h => by
    have h0 : Isp_lt a s = false := by
      cases hl : Isp_lt a s with
      | false => rfl
      | true => exact absurd ((h.2 0 a rfl).1 hl) (Nat.lt_irrefl _)
    simp [IinsS, h0]
  | a :: l, s, p + 1, h => by
    have h0 : Isp_lt a s = true := (h.2 0 a rfl).2 (by omega)
    have ih := IinsS_pos l s p ⟨by have := h.1; simp at this; omega, fun j x hx => by
      have := h.2 (j + 1) x (by simpa using hx)
      rw [this]; omega⟩
    unfold IinsS at ih ⊢
    simp only [List.takeWhile_cons, List.dropWhile_cons, h0, if_true, List.cons_append, List.take_succ_cons, List.drop_succ_cons]
    rw [ih]
def IdelK (key : TItem) (l : List WheelSpokeOfItem) : List WheelSpokeOfItem := (IdropN [key] (0, l)).2
theorem IdelK_eq (key : TItem) (l : List WheelSpokeOfItem) : IdelK key l = match Ifix key l with | some i => l.eraseIdx i | none => l := by
  unfold IdelK IdropN
  simp only [List.foldl_cons, List.foldl_nil]
  cases Ifix key l <;> rfl
theorem Iwheel_drop0 (ao : Option Go.Addr) (cap b off : Nat) (key : TItem) (e : Ent) (hR : Rd e ao 1 b off 2 ([key].map TItem.c)) : Ct Try.prog 104 [.pointer none, .slice ao 1 cap] [e] (fun r σ' => r = I 0 ∧ σ' = [e]) := by
  have h1 := getMapS (f := TItem.c) (xs := [key]) (k := 0) rfl
  refine Ct.enter Try.func104 rfl rfl fun W => ?_
  apply Wp.seq
  apply Wp.region
  refine WpL.v (V.as) ?_
  apply WpL.nil
  apply Out.seqN
  apply Wp.seq
  apply Wp.region
  refine WpL.v (V.as) ?_
  apply WpL.nil
  apply Out.seqN
  apply Wp.seq
  apply Wp.seq
  apply Wp.region
  refine WpL.v (V.mv) ?_
  refine WpL.v (V.lenL tb) ?_
  refine WpL.v (V.mv) ?_
  apply WpL.nil
  apply Out.seqN
  apply Wp.block
  refine Wp.lp [10, 9, 0] (fun i : Nat => i ≤ 1) (fun i => [(11, I (i : Int)), (5, I 0)]) (fun _ => []) (fun i => 1 - i) 0 (Nat.zero_le _) ?_
  intro i hi K hK
  dsimp only [List.cons_append, List.nil_append]
  by_cases h : i = 0
  · subst h
    apply Wp.seq
    apply Wp.region
    refine WpL.v (V.cmp) ?_
    apply WpL.nil
    apply Out.seqN
    apply Wp.seq
    refine Wp.cT ?_
    apply Wp.skip
    apply Out.seqN
    apply Wp.seq
    apply Wp.block
    apply Wp.seq
    apply Wp.region
    refine WpL.v (V.ixR tb rfl rfl (by assumption)) ?_
    refine WpL.v (V.ldRA tb (k := 0) rfl hR h1) ?_
    refine WpL.o (O.al tb (fun p7 => ?_))
    refine WpL.o (O.stA tb ?_)
    apply WpL.nil
    apply Out.seqN
    apply Wp.seq
    apply Wp.region
    refine WpL.v (V.mv) ?_
    refine WpL.v (V.ldA tb) ?_
    refine WpL.o (Op1.callT rfl (Iwheel_find0 _) (by (repeat (first | exact Sel.nil | exact Rem.here | apply Sel.cons | apply Rem.there))) ?_)
    rintro v0 s1 ⟨rfl, rfl⟩
    refine incat ?_
    refine WpL.v (V.as) ?_
    apply WpL.nil
    apply Out.seqN
    apply Wp.seq
    apply Wp.region
    refine WpL.v (V.mv) ?_
    refine WpL.v (V.cmp) ?_
    apply WpL.nil
    apply Out.seqN
    refine Wp.cF ?_
    apply Wp.skip
    apply Out.blockN
    apply Out.seqN
    apply Wp.region
    refine WpL.v (V.add) ?_
    refine WpL.v (V.mv) ?_
    apply WpL.nil
    exact Out.ag hK 1 (Nat.le_refl _) (by show 1 - 1 < 1 - 0; omega)
  · obtain rfl : i = 1 := by omega
    apply Wp.seq
    apply Wp.region
    refine WpL.v (V.cmp) ?_
    apply WpL.nil
    apply Out.seqN
    apply Wp.seq
    refine Wp.cF ?_
    apply Wp.exit
    apply Out.seqE
    apply Out.seqE
    apply Out.blockE
    apply Out.seqN
    apply Wp.seq
    apply Wp.region
    refine WpL.v (V.mv) ?_
    refine WpL.v (V.as) ?_
    apply WpL.nil
    apply Out.seqN
    apply Wp.ret
    refine Out.f1 rfl ResIs.t ⟨?_, rfl⟩
    exact rfl
theorem Iwheel_set0 (key : TItem) (due : Int) : Ct Try.prog 102 [.pointer none, A key.c, I due] [] (fun r σ' => r = .tuple #[] ∧ σ' = []) := by
  refine Ct.enter Try.func102 rfl rfl fun W => ?_
  apply Wp.seq
  apply Wp.region
  refine WpL.o (O.bxA (fun p4 => ?_))
  apply WpL.nil
  apply Out.seqN
  apply Wp.seq
  apply Wp.seq
  apply Wp.region
  refine WpL.v (V.mv) ?_
  refine WpL.v (V.eqN) ?_
  apply WpL.nil
  apply Out.seqN
  refine Wp.cT ?_
  apply Wp.ret
  apply Out.seqR
  refine Out.f0 rfl  ⟨?_, rfl⟩
  exact rfl
theorem Islices_insertP (l : List WheelSpokeOfItem) (v : Go.Value) (s : WheelSpokeOfItem) (g2 p : Nat) (hp : IPosI l s p) (hm : l.length ≤ 1000) :
    Ct Try.prog 120 [v, I (p : Int), .slice (some ⟨g2, 0, none⟩) 1 1] [rows WheelSpokeOfItem.c v 183 4 l, rows WheelSpokeOfItem.c (.slice (some ⟨g2, 0, none⟩) 1 1) 183 4 [s]] (fun r σ' => ∃ g' cap', r = .slice (some ⟨g', 0, none⟩) (IinsS s l).length cap' ∧ σ' = [rows WheelSpokeOfItem.c (.slice (some ⟨g', 0, none⟩) (IinsS s l).length cap') 183 4 (IinsS s l)]) := by
  rw [IinsS_pos l s p hp]
  have h1 := hp.1
  by_cases h : p = l.length
  · subst h
    rw [List.take_length, List.drop_length]
    exact Islices_insert0 l v s g2 hm
  · have hlen : (l.take p ++ s :: l.drop p).length = l.length + 1 := by simp; omega
    rw [hlen]
    refine HL.Ct.known (p := ∃ g cap, v = .slice (some ⟨g, 0, none⟩) l.length cap) (fun w hw => ?_) fun hv => ?_
    · rcases rowsForm (List.Mem.head _) w hw with ⟨_, h0⟩ | ⟨g, cap, h0, _⟩
      · subst h0; simp at h1 h; omega
      · exact ⟨g, cap, h0⟩
    · obtain ⟨g, cap, rfl⟩ := hv
      exact Islices_insert1 l g cap s g2 p (by omega) hm
set_option maxHeartbeats 2000000 in
theorem Iwheel_set (p : Nat) (v : Go.Value) (t : Int) (l : List WheelSpokeOfItem) (key : TItem) (due : Int) (hs : (IdelK key l).Pairwise (fun a b => Isp_lt a b = true)) (hm : l.length ≤ 500) (ht : 0 ≤ t ∧ t ≤ 1000000) :
    Ct Try.prog 102 [Ptr p 0, A key.c, I due] (IwhE p v t l) (fun r σ' => ∃ g cap, r = .tuple #[] ∧ σ' = IwhE p (.slice (some ⟨g, 0, none⟩) (IinsS ⟨key, due, t⟩ (IdelK key l)).length cap) (t + 1) (IinsS ⟨key, due, t⟩ (IdelK key l))) := by
  have hle := IdropN_le [key] (0, l)
  have hD (g : Nat) := Iwheel_drop p v t l (rows TItem.c (.slice (some ⟨g, 0, none⟩) 1 1) 23 2 [key]) (some ⟨g, 0, none⟩) 1 g 0 [key] (Rd.rows (l := [key]) TItem.len (by simp)) (by omega) (by simp)
  change ∀ g, Ct _ _ _ _ (fun r σ' => ∃ v', r = _ ∧ σ' = IwhE p v' t (IdelK key l) ++ _) at hD
  change _ ∧ (IdelK key l).length ≤ l.length at hle
  generalize IdelK key l = L at *
  unfold IwhE at hD ⊢
  dsimp only [List.cons_append, List.nil_append] at hD ⊢
  refine Ct.enter Try.func102 rfl rfl fun W => ?_
  apply Wp.seq
  apply Wp.region
  refine WpL.o (O.bxA (fun p4 => ?_))
  apply WpL.nil
  apply Out.seqN
  apply Wp.seq
  apply Wp.seq
  apply Wp.region
  refine WpL.v (V.mv) ?_
  refine WpL.v (V.eqP) ?_
  apply WpL.nil
  apply Out.seqN
  refine Wp.cF ?_
  apply Wp.skip
  apply Out.seqN
  apply Wp.seq
  apply Wp.region
  refine WpL.v (V.mv) ?_
  refine WpL.v (V.ldA tb) ?_
  refine WpL.o (O.litL tb TItem.c [key] rfl (PartsFrom.agg rfl PartsFrom.nil) rfl rfl (fun p13 => ?_))
  refine WpL.o (Op1.callT rfl (hD _) (by (repeat (first | exact Sel.nil | exact Rem.here | apply Sel.cons | apply Rem.there))) ?_)
  rintro v0 s1 ⟨v'14, ⟨rfl, rfl⟩⟩
  refine incat ?_
  apply WpL.nil
  apply Out.seqN
  apply Wp.seq
  refine Wp.dG [] ?_ (List.Sublist.cons_cons _ (List.Sublist.cons _ (List.Sublist.cons _ (List.Sublist.cons_cons _ List.Sublist.slnil)))) (List.Sublist.cons_cons _ (List.Sublist.cons _ (List.Sublist.cons _ (List.Sublist.cons_cons _ List.Sublist.slnil))))
  refine WpA.tF 0 rfl (V.ldA tb) ?_
  refine WpA.tF 1 rfl (V.mv) ?_
  refine WpA.tF 2 rfl (V.mv) ?_
  refine WpA.tF 3 rfl (V.nc) ?_
  refine WpA.tF 4 rfl (V.fa tb) ?_
  refine WpA.tF 5 rfl (V.ld1 tb) ?_
  refine WpA.tF 6 rfl (V.bld tb (c' := WheelSpokeOfItem.c ⟨key, due, t⟩)) ?_
  refine WpA.oS 7 rfl (O.al tb (fun p6 => ⟨?_, ?_, ?_⟩))
  exact holdT
  exact holdT
  refine WpA.oS 8 rfl (O.stA tb ⟨?_, ?_, ?_⟩)
  exact holdT
  exact holdT
  refine WpA.ou ?_
  apply Out.seqN
  apply Wp.seq
  apply Wp.region
  refine WpL.v (V.mv) ?_
  refine WpL.v (V.nc) ?_
  refine WpL.v (V.fa tb) ?_
  refine WpL.v (V.ld1 tb) ?_
  refine WpL.v (V.add) ?_
  refine WpL.v (V.nc) ?_
  refine WpL.v (V.fa tb) ?_
  refine WpL.o (O.st1 tb ?_)
  apply WpL.nil
  apply Out.seqN
  apply Wp.seq
  refine Wp.dG [] ?_ (List.Sublist.cons_cons _ (List.Sublist.cons_cons _ (List.Sublist.cons _ (List.Sublist.cons _ (List.Sublist.cons _ List.Sublist.slnil))))) (List.Sublist.cons_cons _ (List.Sublist.cons_cons _ (List.Sublist.cons _ (List.Sublist.cons _ (List.Sublist.cons _ List.Sublist.slnil)))))
  refine WpA.tF 0 rfl (V.mv) ?_
  refine WpA.tF 1 rfl (V.nc) ?_
  refine WpA.tF 2 rfl (V.fa tb) ?_
  refine WpA.tF 3 rfl (V.ld1 tb) ?_
  refine WpA.tF 4 rfl (V.ldA tb) ?_
  refine WpA.oS 5 rfl (Op1.callT rfl (Islices_bsf _ L ⟨key, due, t⟩ hs (by omega)) (by (repeat (first | exact Sel.nil | exact Rem.here | apply Sel.cons | apply Rem.there))) ?_)
  rintro v3 s4 ⟨p35, ⟨f35, ⟨hx2, ⟨rfl, rfl⟩⟩⟩⟩
  refine incat ⟨?_, ?_, ?_⟩
  exact holdT
  exact holdT
  refine WpA.tF 6 rfl (V.mv) ?_
  refine WpA.tF 7 rfl (V.ex) ?_
  refine WpA.tF 8 rfl (V.ex) ?_
  refine WpA.tF 9 rfl (V.as) ?_
  refine WpA.tF 10 rfl (V.as) ?_
  refine WpA.ou ?_
  apply Out.seqN
  refine Wp.dG [11] ?_ (List.Sublist.cons _ (List.Sublist.cons_cons _ (List.Sublist.cons_cons _ (List.Sublist.cons _ (List.Sublist.cons _ List.Sublist.slnil))))) (List.Sublist.cons _ (List.Sublist.cons_cons _ (List.Sublist.cons _ (List.Sublist.cons _ (List.Sublist.cons _ List.Sublist.slnil)))))
  refine WpA.tF 0 rfl (V.mv) ?_
  refine WpA.tF 1 rfl (V.mv) ?_
  refine WpA.tF 2 rfl (V.nc) ?_
  refine WpA.tF 3 rfl (V.fa tb) ?_
  refine WpA.tF 5 rfl (V.mv) ?_
  refine WpA.tF 6 rfl (V.ldA tb) ?_
  refine WpA.t 4 rfl (V.ld1 tb) ?_
  refine WpA.oS 7 rfl (O.litL tb WheelSpokeOfItem.c [⟨key, due, t⟩] rfl (PartsFrom.agg rfl PartsFrom.nil) rfl rfl (fun p45 => ⟨?_, ?_, ?_⟩))
  exact holdT
  exact holdT
  refine WpA.oS 8 rfl (Op1.callT rfl (Islices_insertP L _ ⟨key, due, t⟩ _ _ (by assumption) (by omega)) (by (repeat (first | exact Sel.nil | exact Rem.here | apply Sel.cons | apply Rem.there))) ?_)
  rintro v5 s6 ⟨g'46, ⟨cap'46, ⟨rfl, rfl⟩⟩⟩
  refine incat ⟨?_, ?_, ?_⟩
  exact holdT
  exact holdT
  refine WpA.tF 9 rfl (V.nc) ?_
  refine WpA.tF 10 rfl (V.fa tb) ?_
  refine WpA.l 11 rfl (O.st1 tb ⟨?_, ?_⟩)
  exact holdT
  refine WpA.ou ?_
  refine Out.e0 rfl  ?_
  focus (exact ⟨_, _, ⟨_, _, rfl, rfl⟩, (by (repeat (first | exact Sel.nil | exact Rem.here | apply Sel.cons | apply Rem.there)))⟩; done)
end Go.Proofs.Ythoepbbpmdmfeaa
