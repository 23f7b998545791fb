/-
  Layer 16: a rescue: what it chooses, what it hears.
-/
import Derived.Test.YthoepbbpmdmfeaaResc
import Derived.Test.YthoepbbpmdmfeaaHeapI
namespace Go.Proofs.Ythoepbbpmdmfeaa
open Go.HL
set_option linter.unusedSimpArgs false
set_option linter.unusedVariables false
set_option maxRecDepth 8000
def RescS.list (x : RescS) : List TMsg := (vAll x.gl x.gh).map (·.2)
def RescS.way (x : RescS) : Int := (choose x.n x.item x.list).1
def RescS.ccall (x : RescS) : TCall := (choose x.n x.item x.list).2
def RescS.goL (x : RescS) : LeadS := if x.way = 1 then doneL x x.ccall else newL x.n x.self x.item x.ballot x.ccall (if x.way = 3 then 1 else 2)
theorem choose_small {n : Int} {x : TItem} {xs : List TMsg} (h : (xs.length : Int) < faults n + 1) : choose n x xs = (0, TCall.z) := by
  unfold choose; rw [if_pos h]
theorem choose_go {n : Int} {x : TItem} {xs : List TMsg} (h : ¬ (xs.length : Int) < faults n + 1) : (choose n x xs).1 = 1 ∨ (choose n x xs).1 = 2 ∨ (choose n x xs).1 = 3 := by
  unfold choose
  rw [if_neg h]
  repeat (first | exact .inl rfl | exact .inr (.inl rfl) | exact .inr (.inr rfl) | split)
theorem list_le (x : RescS) : x.list.length ≤ 7 := by unfold RescS.list; rw [List.length_map]; exact vAll_len _ _
def chosen (b : Nat) (x : RescS) (r : Go.Value) (σ' : List Ent) : Prop :=
  (x.way = 0 ∧ r = B false ∧ σ' = [cells b 154 x.c]) ∨ (x.way ≠ 0 ∧ ∃ q, r = B true ∧ σ' = [cells b 154 ({ x with next := Ptr q 0 } : RescS).c, cells q 142 x.goL.c])
set_option maxHeartbeats 2000000 in
theorem rescue_choose1 (b : Nat) (x : RescS) (w : x.wf) (hn : 3 ≤ x.n ∧ x.n ≤ 1000) : Ct Try.prog 99 [Ptr b 0] [cells b 154 x.c] (chosen b x) := by
  have hI (q : Nat) : Iter Try.prog 124 [Ptr q 0] [cells q 173 [Ptr b 7], cells b 154 x.c] encVM (vAll x.gl x.gh) [cells q 173 [Ptr b 7], cells b 154 x.c] :=
    votes_iterM (post := [x.next]) (n := x.gn) q b 154 w.v
  have hlen := list_le x
  refine Ct.enter Try.func99 rfl rfl fun W => ?_
  refine Wp.nilRows TMsg.c 44 25 ?_
  apply Wp.seq
  apply Wp.region
  refine WpL.v (V.as) ?_
  apply WpL.nil
  apply Out.seqN
  apply Wp.seq
  apply Wp.region
  refine WpL.o (O.al tb (fun p3 => ?_))
  apply WpL.nil
  apply Out.seqN
  apply Wp.seq
  apply Wp.seq
  apply Wp.region
  refine WpL.v (V.mv) ?_
  refine WpL.v (V.nc) ?_
  refine WpL.v (V.fa tb) ?_
  refine WpL.o (Op1.callT rfl (votes_allM _ rfl) (by (repeat (first | exact Sel.nil | exact Rem.here | apply Sel.cons | apply Rem.there))) ?_)
  rintro v0 s1 ⟨q11, ⟨rfl, rfl⟩⟩
  refine incat ?_
  apply WpL.nil
  apply Out.seqN
  apply Wp.block
  refine Wp.rg (hI _) (fun v : Go.Value × List TMsg => [cells p3 24 [v.1], rows TMsg.c v.1 44 25 v.2]) (fun pre v => v.2 = pre.map (·.2)) (fun _ _ _ => False) (_, []) rfl ?_ ?_ ?_
  · rintro pre ⟨j, z⟩ post ⟨v, L⟩ l rec hx hL hr W' D' K hK
    dsimp only at hL
    dsimp only [List.cons_append, List.nil_append]
    have hll : L.length ≤ 7 := by
      rw [hL, List.length_map]
      have := vAll_len x.gl x.gh
      rw [hx, List.length_append] at this; omega
    have hbb : (L.length + 1) * 1000 ≤ 1000000 := by omega
    apply Wp.region
    refine WpL.o (O.al tb (fun p5 => ?_))
    refine WpL.o (O.stA tb ?_)
    apply WpL.nil
    refine Out.bg (by assumption) ?_
    apply Wp.block
    apply Wp.region
    refine WpL.v (V.ld1 tb) ?_
    refine WpL.v (V.ldA tb) ?_
    refine WpL.o (O.lit tb (fun p16 => ?_))
    refine WpL.o (O.apL tb rfl rfl (by (intro _; repeat first | exact Upd.here _ _ _ | apply Upd.there)) (SrcL.one (f := TMsg.c) (a := z) tb (by (repeat first | exact List.Mem.head _ | apply List.Mem.tail)) TMsg.ones) (fun g17 cap17 => ?_))
    refine WpL.o (O.st1 tb ?_)
    apply WpL.nil
    apply Out.blockN
    exact Out.rd hK (_, L ++ [z]) (by show _ = _; rw [hL]; simp)
  · rintro ⟨v, L⟩ cc hL
    obtain rfl : L = x.list := hL
    dsimp only
    refine Out.fact (rowsRd (f := TMsg.c) (v := v) (l := x.list) (E := 44) (sz := 25) TMsg.len (by (repeat first | exact List.Mem.head _ | apply List.Mem.tail))) ?_
    rintro ⟨ap, cp, g, rfl, hRd⟩
    have hC := rescue_choose _ ap cp g 0 x.n x.item x.list (by omega) (by omega) hRd
    have hLd1 := rescue_lead b x w 1 x.ccall
    have hLd2 := rescue_lead b x w 2 x.ccall
    have hD := rescue_done b x w x.ccall (by omega)
    have hgo : x.way = 1 → x.goL = doneL x x.ccall := fun h => by unfold RescS.goL; rw [if_pos h]
    have hgo2 : x.way = 2 → x.goL = newL x.n x.self x.item x.ballot x.ccall 2 := fun h => by unfold RescS.goL; rw [if_neg (by omega), if_neg (by omega)]
    have hgo3 : x.way = 3 → x.goL = newL x.n x.self x.item x.ballot x.ccall 1 := fun h => by unfold RescS.goL; rw [if_neg (by omega), if_pos h]
    change Ct _ _ _ _ (fun r σ' => r = .tuple #[I x.way, A x.ccall.c] ∧ _) at hC
    by_cases h0 : (x.list.length : Int) < faults x.n + 1
    · have hw0 : x.way = 0 := by unfold RescS.way; rw [choose_small h0]
      rw [hw0] at hC
      apply Out.blockN
      apply Out.seqN
      apply Wp.seq
      apply Wp.seq
      refine Wp.dG [] ?_ (List.Sublist.cons_cons _ (List.Sublist.cons_cons _ (List.Sublist.cons_cons _ (List.Sublist.cons _ (List.Sublist.cons_cons _ List.Sublist.slnil))))) (List.Sublist.cons_cons _ (List.Sublist.cons_cons _ (List.Sublist.cons_cons _ (List.Sublist.cons _ (List.Sublist.cons_cons _ List.Sublist.slnil)))))
      refine WpA.tF 0 rfl (V.mv) ?_
      refine WpA.tF 1 rfl (V.nc) ?_
      refine WpA.tF 2 rfl (V.fa tb) ?_
      refine WpA.tF 3 rfl (V.ld1 tb) ?_
      refine WpA.tF 4 rfl (V.mv) ?_
      refine WpA.tF 5 rfl (V.nc) ?_
      refine WpA.tF 6 rfl (V.fa tb) ?_
      refine WpA.tF 7 rfl (V.ldA tb) ?_
      refine WpA.tF 8 rfl (V.ld1 tb) ?_
      refine WpA.e2 9 13 rfl rfl ?_ ?_
      refine Op1.callT rfl (hC) (by (repeat (first | exact Sel.nil | exact Rem.here | apply Sel.cons | apply Rem.there))) ?_
      rintro v0 s1 ⟨rfl, rfl⟩
      refine incat ⟨?_, ?_, ?_⟩
      exact holdT
      exact holdT
      refine WpA.tF 10 rfl (V.mv) ?_
      refine WpA.tF 11 rfl (V.ex) ?_
      refine WpA.tF 12 rfl (V.ex) ?_
      refine WpA.oS 13 rfl (O.al tb (fun p7 => ⟨?_, ?_, ?_⟩))
      exact holdT
      exact holdT
      refine WpA.tF 14 rfl (V.as) ?_
      refine WpA.oS 15 rfl (O.stA tb ⟨?_, ?_, ?_⟩)
      exact holdT
      exact holdT
      refine WpA.ou ?_
      apply Out.seqN
      apply Wp.seq
      apply Wp.region
      refine WpL.v (V.mv) ?_
      apply WpL.nil
      apply Out.seqN
      apply Wp.block
      apply Wp.seq
      apply Wp.region
      refine WpL.v (V.cmp) ?_
      refine WpL.v (V.as) ?_
      apply WpL.nil
      apply Out.seqN
      refine Wp.cF ?_
      apply Wp.seq
      apply Wp.region
      refine WpL.v (V.cmp) ?_
      refine WpL.v (V.as) ?_
      apply WpL.nil
      apply Out.seqN
      refine Wp.cF ?_
      apply Wp.seq
      apply Wp.region
      refine WpL.v (V.cmp) ?_
      refine WpL.v (V.as) ?_
      apply WpL.nil
      apply Out.seqN
      refine Wp.cF ?_
      apply Wp.seq
      apply Wp.region
      refine WpL.v (V.as) ?_
      apply WpL.nil
      apply Out.seqN
      apply Wp.ret
      apply Out.blockR
      apply Out.seqR
      refine Out.e1 rfl ResIs.t ?_
      focus (exact ⟨_, _, .inl ⟨hw0, rfl, rfl⟩, (by (repeat (first | exact Sel.nil | exact Rem.here | apply Sel.cons | apply Rem.there)))⟩; done)
      refine O.al tb (fun p7 => ⟨?_, ?_, ?_⟩)
      exact holdT
      exact holdT
      refine WpA.oS 9 rfl (Op1.callT rfl (hC) (by (repeat (first | exact Sel.nil | exact Rem.here | apply Sel.cons | apply Rem.there))) ?_)
      rintro v2 s3 ⟨rfl, rfl⟩
      refine incat ⟨?_, ?_, ?_⟩
      exact holdT
      exact holdT
      refine WpA.tF 10 rfl (V.mv) ?_
      refine WpA.tF 11 rfl (V.ex) ?_
      refine WpA.tF 12 rfl (V.ex) ?_
      refine WpA.tF 14 rfl (V.as) ?_
      refine WpA.oS 15 rfl (O.stA tb ⟨?_, ?_, ?_⟩)
      exact holdT
      exact holdT
      refine WpA.ou ?_
      apply Out.seqN
      apply Wp.seq
      apply Wp.region
      refine WpL.v (V.mv) ?_
      apply WpL.nil
      apply Out.seqN
      apply Wp.block
      apply Wp.seq
      apply Wp.region
      refine WpL.v (V.cmp) ?_
      refine WpL.v (V.as) ?_
      apply WpL.nil
      apply Out.seqN
      refine Wp.cF ?_
      apply Wp.seq
      apply Wp.region
      refine WpL.v (V.cmp) ?_
      refine WpL.v (V.as) ?_
      apply WpL.nil
      apply Out.seqN
      refine Wp.cF ?_
      apply Wp.seq
      apply Wp.region
      refine WpL.v (V.cmp) ?_
      refine WpL.v (V.as) ?_
      apply WpL.nil
      apply Out.seqN
      refine Wp.cF ?_
      apply Wp.seq
      apply Wp.region
      refine WpL.v (V.as) ?_
      apply WpL.nil
      apply Out.seqN
      apply Wp.ret
      apply Out.blockR
      apply Out.seqR
      refine Out.e1 rfl ResIs.t ?_
      focus (exact ⟨_, _, .inl ⟨hw0, rfl, rfl⟩, (by (repeat (first | exact Sel.nil | exact Rem.here | apply Sel.cons | apply Rem.there)))⟩; done)
    · have hw := choose_go (x := x.item) h0
      change x.way = 1 ∨ x.way = 2 ∨ x.way = 3 at hw
      have hne : x.way ≠ 0 := by omega
      rcases hw with hw | hw | hw
      · rw [hw] at hC
        rw [← hgo hw] at hD
        apply Out.blockN
        apply Out.seqN
        apply Wp.seq
        apply Wp.seq
        refine Wp.dG [] ?_ (List.Sublist.cons_cons _ (List.Sublist.cons_cons _ (List.Sublist.cons_cons _ (List.Sublist.cons _ (List.Sublist.cons_cons _ List.Sublist.slnil))))) (List.Sublist.cons_cons _ (List.Sublist.cons_cons _ (List.Sublist.cons_cons _ (List.Sublist.cons _ (List.Sublist.cons_cons _ List.Sublist.slnil)))))
        refine WpA.tF 0 rfl (V.mv) ?_
        refine WpA.tF 1 rfl (V.nc) ?_
        refine WpA.tF 2 rfl (V.fa tb) ?_
        refine WpA.tF 3 rfl (V.ld1 tb) ?_
        refine WpA.tF 4 rfl (V.mv) ?_
        refine WpA.tF 5 rfl (V.nc) ?_
        refine WpA.tF 6 rfl (V.fa tb) ?_
        refine WpA.tF 7 rfl (V.ldA tb) ?_
        refine WpA.tF 8 rfl (V.ld1 tb) ?_
        refine WpA.e2 9 13 rfl rfl ?_ ?_
        refine Op1.callT rfl (hC) (by (repeat (first | exact Sel.nil | exact Rem.here | apply Sel.cons | apply Rem.there))) ?_
        rintro v0 s1 ⟨rfl, rfl⟩
        refine incat ⟨?_, ?_, ?_⟩
        exact holdT
        exact holdT
        refine WpA.tF 10 rfl (V.mv) ?_
        refine WpA.tF 11 rfl (V.ex) ?_
        refine WpA.tF 12 rfl (V.ex) ?_
        refine WpA.oS 13 rfl (O.al tb (fun p7 => ⟨?_, ?_, ?_⟩))
        exact holdT
        exact holdT
        refine WpA.tF 14 rfl (V.as) ?_
        refine WpA.oS 15 rfl (O.stA tb ⟨?_, ?_, ?_⟩)
        exact holdT
        exact holdT
        refine WpA.ou ?_
        apply Out.seqN
        apply Wp.seq
        apply Wp.region
        refine WpL.v (V.mv) ?_
        apply WpL.nil
        apply Out.seqN
        apply Wp.block
        apply Wp.seq
        apply Wp.region
        refine WpL.v (V.cmp) ?_
        refine WpL.v (V.as) ?_
        apply WpL.nil
        apply Out.seqN
        refine Wp.cT ?_
        apply Wp.region
        refine WpL.v (V.mv) ?_
        refine WpL.v (V.ldA tb) ?_
        refine WpL.o (Op1.callT rfl (hD) (by (repeat (first | exact Sel.nil | exact Rem.here | apply Sel.cons | apply Rem.there))) ?_)
        rintro v2 s3 ⟨q36, ⟨rfl, rfl⟩⟩
        refine incat ?_
        apply WpL.nil
        apply Out.blockN
        apply Out.seqN
        apply Wp.seq
        apply Wp.region
        refine WpL.v (V.as) ?_
        apply WpL.nil
        apply Out.seqN
        apply Wp.ret
        refine Out.e1 rfl ResIs.t ?_
        focus (exact ⟨_, _, .inr ⟨hne, _, rfl, rfl⟩, (by (repeat (first | exact Sel.nil | exact Rem.here | apply Sel.cons | apply Rem.there)))⟩; done)
        refine O.al tb (fun p7 => ⟨?_, ?_, ?_⟩)
        exact holdT
        exact holdT
        refine WpA.oS 9 rfl (Op1.callT rfl (hC) (by (repeat (first | exact Sel.nil | exact Rem.here | apply Sel.cons | apply Rem.there))) ?_)
        rintro v4 s5 ⟨rfl, rfl⟩
        refine incat ⟨?_, ?_, ?_⟩
        exact holdT
        exact holdT
        refine WpA.tF 10 rfl (V.mv) ?_
        refine WpA.tF 11 rfl (V.ex) ?_
        refine WpA.tF 12 rfl (V.ex) ?_
        refine WpA.tF 14 rfl (V.as) ?_
        refine WpA.oS 15 rfl (O.stA tb ⟨?_, ?_, ?_⟩)
        exact holdT
        exact holdT
        refine WpA.ou ?_
        apply Out.seqN
        apply Wp.seq
        apply Wp.region
        refine WpL.v (V.mv) ?_
        apply WpL.nil
        apply Out.seqN
        apply Wp.block
        apply Wp.seq
        apply Wp.region
        refine WpL.v (V.cmp) ?_
        refine WpL.v (V.as) ?_
        apply WpL.nil
        apply Out.seqN
        refine Wp.cT ?_
        apply Wp.region
        refine WpL.v (V.mv) ?_
        refine WpL.v (V.ldA tb) ?_
        refine WpL.o (Op1.callT rfl (hD) (by (repeat (first | exact Sel.nil | exact Rem.here | apply Sel.cons | apply Rem.there))) ?_)
        rintro v7 s8 ⟨q36_6, ⟨rfl, rfl⟩⟩
        refine incat ?_
        apply WpL.nil
        apply Out.blockN
        apply Out.seqN
        apply Wp.seq
        apply Wp.region
        refine WpL.v (V.as) ?_
        apply WpL.nil
        apply Out.seqN
        apply Wp.ret
        refine Out.e1 rfl ResIs.t ?_
        focus (exact ⟨_, _, .inr ⟨hne, _, rfl, rfl⟩, (by (repeat (first | exact Sel.nil | exact Rem.here | apply Sel.cons | apply Rem.there)))⟩; done)
      · rw [hw] at hC
        rw [← hgo2 hw] at hLd2
        apply Out.blockN
        apply Out.seqN
        apply Wp.seq
        apply Wp.seq
        refine Wp.dG [] ?_ (List.Sublist.cons_cons _ (List.Sublist.cons_cons _ (List.Sublist.cons_cons _ (List.Sublist.cons _ (List.Sublist.cons_cons _ List.Sublist.slnil))))) (List.Sublist.cons_cons _ (List.Sublist.cons_cons _ (List.Sublist.cons_cons _ (List.Sublist.cons _ (List.Sublist.cons_cons _ List.Sublist.slnil)))))
        refine WpA.tF 0 rfl (V.mv) ?_
        refine WpA.tF 1 rfl (V.nc) ?_
        refine WpA.tF 2 rfl (V.fa tb) ?_
        refine WpA.tF 3 rfl (V.ld1 tb) ?_
        refine WpA.tF 4 rfl (V.mv) ?_
        refine WpA.tF 5 rfl (V.nc) ?_
        refine WpA.tF 6 rfl (V.fa tb) ?_
        refine WpA.tF 7 rfl (V.ldA tb) ?_
        refine WpA.tF 8 rfl (V.ld1 tb) ?_
        refine WpA.e2 9 13 rfl rfl ?_ ?_
        refine Op1.callT rfl (hC) (by (repeat (first | exact Sel.nil | exact Rem.here | apply Sel.cons | apply Rem.there))) ?_
        rintro v0 s1 ⟨rfl, rfl⟩
        refine incat ⟨?_, ?_, ?_⟩
        exact holdT
        exact holdT
        refine WpA.tF 10 rfl (V.mv) ?_
        refine WpA.tF 11 rfl (V.ex) ?_
        refine WpA.tF 12 rfl (V.ex) ?_
        refine WpA.oS 13 rfl (O.al tb (fun p7 => ⟨?_, ?_, ?_⟩))
        exact holdT
        exact holdT
        refine WpA.tF 14 rfl (V.as) ?_
        refine WpA.oS 15 rfl (O.stA tb ⟨?_, ?_, ?_⟩)
        exact holdT
        exact holdT
        refine WpA.ou ?_
        apply Out.seqN
        apply Wp.seq
        apply Wp.region
        refine WpL.v (V.mv) ?_
        apply WpL.nil
        apply Out.seqN
        apply Wp.block
        apply Wp.seq
        apply Wp.region
        refine WpL.v (V.cmp) ?_
        refine WpL.v (V.as) ?_
        apply WpL.nil
        apply Out.seqN
        refine Wp.cF ?_
        apply Wp.seq
        apply Wp.region
        refine WpL.v (V.cmp) ?_
        refine WpL.v (V.as) ?_
        apply WpL.nil
        apply Out.seqN
        refine Wp.cT ?_
        apply Wp.region
        refine WpL.v (V.mv) ?_
        refine WpL.v (V.ldA tb) ?_
        refine WpL.o (Op1.callT rfl (hLd2) (by (repeat (first | exact Sel.nil | exact Rem.here | apply Sel.cons | apply Rem.there))) ?_)
        rintro v2 s3 ⟨q41, ⟨rfl, rfl⟩⟩
        refine incat ?_
        apply WpL.nil
        apply Out.blockN
        apply Out.seqN
        apply Wp.seq
        apply Wp.region
        refine WpL.v (V.as) ?_
        apply WpL.nil
        apply Out.seqN
        apply Wp.ret
        refine Out.e1 rfl ResIs.t ?_
        focus (exact ⟨_, _, .inr ⟨hne, _, rfl, rfl⟩, (by (repeat (first | exact Sel.nil | exact Rem.here | apply Sel.cons | apply Rem.there)))⟩; done)
        refine O.al tb (fun p7 => ⟨?_, ?_, ?_⟩)
        exact holdT
        exact holdT
        refine WpA.oS 9 rfl (Op1.callT rfl (hC) (by (repeat (first | exact Sel.nil | exact Rem.here | apply Sel.cons | apply Rem.there))) ?_)
        rintro v4 s5 ⟨rfl, rfl⟩
        refine incat ⟨?_, ?_, ?_⟩
        exact holdT
        exact holdT
        refine WpA.tF 10 rfl (V.mv) ?_
        refine WpA.tF 11 rfl (V.ex) ?_
        refine WpA.tF 12 rfl (V.ex) ?_
        refine WpA.tF 14 rfl (V.as) ?_
        refine WpA.oS 15 rfl (O.stA tb ⟨?_, ?_, ?_⟩)
        exact holdT
        exact holdT
        refine WpA.ou ?_
        apply Out.seqN
        apply Wp.seq
        apply Wp.region
        refine WpL.v (V.mv) ?_
        apply WpL.nil
        apply Out.seqN
        apply Wp.block
        apply Wp.seq
        apply Wp.region
        refine WpL.v (V.cmp) ?_
        refine WpL.v (V.as) ?_
        apply WpL.nil
        apply Out.seqN
        refine Wp.cF ?_
        apply Wp.seq
        apply Wp.region
        refine WpL.v (V.cmp) ?_
        refine WpL.v (V.as) ?_
        apply WpL.nil
        apply Out.seqN
        refine Wp.cT ?_
        apply Wp.region
        refine WpL.v (V.mv) ?_
        refine WpL.v (V.ldA tb) ?_
        refine WpL.o (Op1.callT rfl (hLd2) (by (repeat (first | exact Sel.nil | exact Rem.here | apply Sel.cons | apply Rem.there))) ?_)
        rintro v7 s8 ⟨q41_6, ⟨rfl, rfl⟩⟩
        refine incat ?_
        apply WpL.nil
        apply Out.blockN
        apply Out.seqN
        apply Wp.seq
        apply Wp.region
        refine WpL.v (V.as) ?_
        apply WpL.nil
        apply Out.seqN
        apply Wp.ret
        refine Out.e1 rfl ResIs.t ?_
        focus (exact ⟨_, _, .inr ⟨hne, _, rfl, rfl⟩, (by (repeat (first | exact Sel.nil | exact Rem.here | apply Sel.cons | apply Rem.there)))⟩; done)
      · rw [hw] at hC
        rw [← hgo3 hw] at hLd1
        apply Out.blockN
        apply Out.seqN
        apply Wp.seq
        apply Wp.seq
        refine Wp.dG [] ?_ (List.Sublist.cons_cons _ (List.Sublist.cons_cons _ (List.Sublist.cons_cons _ (List.Sublist.cons _ (List.Sublist.cons_cons _ List.Sublist.slnil))))) (List.Sublist.cons_cons _ (List.Sublist.cons_cons _ (List.Sublist.cons_cons _ (List.Sublist.cons _ (List.Sublist.cons_cons _ List.Sublist.slnil)))))
        refine WpA.tF 0 rfl (V.mv) ?_
        refine WpA.tF 1 rfl (V.nc) ?_
        refine WpA.tF 2 rfl (V.fa tb) ?_
        refine WpA.tF 3 rfl (V.ld1 tb) ?_
        refine WpA.tF 4 rfl (V.mv) ?_
        refine WpA.tF 5 rfl (V.nc) ?_
        refine WpA.tF 6 rfl (V.fa tb) ?_
        refine WpA.tF 7 rfl (V.ldA tb) ?_
        refine WpA.tF 8 rfl (V.ld1 tb) ?_
        refine WpA.e2 9 13 rfl rfl ?_ ?_
        refine Op1.callT rfl (hC) (by (repeat (first | exact Sel.nil | exact Rem.here | apply Sel.cons | apply Rem.there))) ?_
        rintro v0 s1 ⟨rfl, rfl⟩
        refine incat ⟨?_, ?_, ?_⟩
        exact holdT
        exact holdT
        refine WpA.tF 10 rfl (V.mv) ?_
        refine WpA.tF 11 rfl (V.ex) ?_
        refine WpA.tF 12 rfl (V.ex) ?_
        refine WpA.oS 13 rfl (O.al tb (fun p7 => ⟨?_, ?_, ?_⟩))
        exact holdT
        exact holdT
        refine WpA.tF 14 rfl (V.as) ?_
        refine WpA.oS 15 rfl (O.stA tb ⟨?_, ?_, ?_⟩)
        exact holdT
        exact holdT
        refine WpA.ou ?_
        apply Out.seqN
        apply Wp.seq
        apply Wp.region
        refine WpL.v (V.mv) ?_
        apply WpL.nil
        apply Out.seqN
        apply Wp.block
        apply Wp.seq
        apply Wp.region
        refine WpL.v (V.cmp) ?_
        refine WpL.v (V.as) ?_
        apply WpL.nil
        apply Out.seqN
        refine Wp.cF ?_
        apply Wp.seq
        apply Wp.region
        refine WpL.v (V.cmp) ?_
        refine WpL.v (V.as) ?_
        apply WpL.nil
        apply Out.seqN
        refine Wp.cF ?_
        apply Wp.seq
        apply Wp.region
        refine WpL.v (V.cmp) ?_
        refine WpL.v (V.as) ?_
        apply WpL.nil
        apply Out.seqN
        refine Wp.cT ?_
        apply Wp.region
        refine WpL.v (V.mv) ?_
        refine WpL.v (V.ldA tb) ?_
        refine WpL.o (Op1.callT rfl (hLd1) (by (repeat (first | exact Sel.nil | exact Rem.here | apply Sel.cons | apply Rem.there))) ?_)
        rintro v2 s3 ⟨q46, ⟨rfl, rfl⟩⟩
        refine incat ?_
        apply WpL.nil
        apply Out.blockN
        apply Out.seqN
        apply Wp.seq
        apply Wp.region
        refine WpL.v (V.as) ?_
        apply WpL.nil
        apply Out.seqN
        apply Wp.ret
        refine Out.e1 rfl ResIs.t ?_
        focus (exact ⟨_, _, .inr ⟨hne, _, rfl, rfl⟩, (by (repeat (first | exact Sel.nil | exact Rem.here | apply Sel.cons | apply Rem.there)))⟩; done)
        refine O.al tb (fun p7 => ⟨?_, ?_, ?_⟩)
        exact holdT
        exact holdT
        refine WpA.oS 9 rfl (Op1.callT rfl (hC) (by (repeat (first | exact Sel.nil | exact Rem.here | apply Sel.cons | apply Rem.there))) ?_)
        rintro v4 s5 ⟨rfl, rfl⟩
        refine incat ⟨?_, ?_, ?_⟩
        exact holdT
        exact holdT
        refine WpA.tF 10 rfl (V.mv) ?_
        refine WpA.tF 11 rfl (V.ex) ?_
        refine WpA.tF 12 rfl (V.ex) ?_
        refine WpA.tF 14 rfl (V.as) ?_
        refine WpA.oS 15 rfl (O.stA tb ⟨?_, ?_, ?_⟩)
        exact holdT
        exact holdT
        refine WpA.ou ?_
        apply Out.seqN
        apply Wp.seq
        apply Wp.region
        refine WpL.v (V.mv) ?_
        apply WpL.nil
        apply Out.seqN
        apply Wp.block
        apply Wp.seq
        apply Wp.region
        refine WpL.v (V.cmp) ?_
        refine WpL.v (V.as) ?_
        apply WpL.nil
        apply Out.seqN
        refine Wp.cF ?_
        apply Wp.seq
        apply Wp.region
        refine WpL.v (V.cmp) ?_
        refine WpL.v (V.as) ?_
        apply WpL.nil
        apply Out.seqN
        refine Wp.cF ?_
        apply Wp.seq
        apply Wp.region
        refine WpL.v (V.cmp) ?_
        refine WpL.v (V.as) ?_
        apply WpL.nil
        apply Out.seqN
        refine Wp.cT ?_
        apply Wp.region
        refine WpL.v (V.mv) ?_
        refine WpL.v (V.ldA tb) ?_
        refine WpL.o (Op1.callT rfl (hLd1) (by (repeat (first | exact Sel.nil | exact Rem.here | apply Sel.cons | apply Rem.there))) ?_)
        rintro v7 s8 ⟨q46_6, ⟨rfl, rfl⟩⟩
        refine incat ?_
        apply WpL.nil
        apply Out.blockN
        apply Out.seqN
        apply Wp.seq
        apply Wp.region
        refine WpL.v (V.as) ?_
        apply WpL.nil
        apply Out.seqN
        apply Wp.ret
        refine Out.e1 rfl ResIs.t ?_
        focus (exact ⟨_, _, .inr ⟨hne, _, rfl, rfl⟩, (by (repeat (first | exact Sel.nil | exact Rem.here | apply Sel.cons | apply Rem.there)))⟩; done)
  · rintro _ _ _ _ _ _ _ h
    exact h.elim
def putR (x : RescS) (m : TMsg) : RescS := { x with gl := x.gl.set m.From.toNat m, gh := x.gh.set m.From.toNat true, gn := x.gn + 1 }
theorem putR_wf {x : RescS} (w : x.wf) (m : TMsg) (hg : x.gn ≤ 40) : (putR x m).wf :=
  ⟨by show (x.gl.set _ _).length = 7; rw [List.length_set, w.gl], by show (x.gh.set _ _).length = 7; rw [List.length_set, w.gh], by show 0 ≤ x.gn + 1 ∧ x.gn + 1 ≤ 50; have := w.gn; omega⟩
structure Fits7 (x : RescS) (m : TMsg) : Prop where
  it : m.Item = x.item
  to : m.To = x.self
  f0 : 0 ≤ m.From
  fn : m.From < x.n
  kd : m.Kind = 7
  bl : m.Ballot = x.ballot
  ls : x.lost = false
  nx : x.next = .pointer none
  n7 : x.n ≤ 7
theorem rescue_hear_again (b : Nat) (x : RescS) (w : x.wf) (m : TMsg) (hm : Fits7 x m) (hh : x.gh.getD m.From.toNat true = true) :
    Ct Try.prog 63 [Ptr b 0, A m.c] [cells b 154 x.c] (fun r σ' => r = B false ∧ σ' = [cells b 154 x.c]) := by
  have hat := RescS.at w.gl w.gh
  rw [hm.nx] at hat
  have hls := hm.ls
  have hP := votes_put (post := [x.next]) (n := x.gn) b 154 w.v m.From m (by have := w.gn; omega)
  rw [hh, if_neg (by simp), ← RescS.vm, Bool.not_true, Bool.and_false] at hP
  have f0 := hm.f0
  have fn := hm.fn
  have e1 : cmpI .lss m.From 0 = some false := by simp [cmpI]; omega
  have e2 : cmpI .geq m.From x.n = some false := by simp [cmpI]; omega
  have e3 : cmpI .eql m.Kind 5 = some false := by simp [cmpI, hm.kd]
  have e4 : cmpI .eql m.Kind 8 = some false := by simp [cmpI, hm.kd]
  have e5 : cmpI .eql m.Kind 7 = some true := by simp [cmpI, hm.kd]
  have hit := hm.it
  have hto := hm.to
  have hbl := hm.bl
  refine Ct.enter Try.func63 rfl rfl fun W => ?_
  apply Wp.seq
  apply Wp.region
  refine WpL.o (O.bxA (fun p3 => ?_))
  refine WpL.v (V.as) ?_
  apply WpL.nil
  apply Out.seqN
  apply Wp.seq
  apply Wp.block
  apply Wp.seq
  refine Wp.dG [] ?_ (List.Sublist.cons_cons _ (List.Sublist.cons_cons _ List.Sublist.slnil)) (List.Sublist.cons_cons _ (List.Sublist.cons_cons _ List.Sublist.slnil))
  refine WpA.tF 0 rfl (V.mv) ?_
  refine WpA.tF 1 rfl (V.eqP) ?_
  refine WpA.tF 2 rfl (V.mv) ?_
  refine WpA.tF 3 rfl (V.mv) ?_
  refine WpA.tF 4 rfl (V.nc) ?_
  refine WpA.tF 5 rfl (V.fa tb) ?_
  refine WpA.tF 6 rfl (V.ld1 tb (v := B false) (hr := by rw [← hls]; rfl)) ?_
  refine WpA.tF 7 rfl (V.pF) ?_
  refine WpA.tF 8 rfl (V.mv) ?_
  refine WpA.tF 9 rfl (V.fa tb) ?_
  refine WpA.tF 10 rfl (V.ldA tb) ?_
  refine WpA.tF 11 rfl (V.mv) ?_
  refine WpA.tF 12 rfl (V.nc) ?_
  refine WpA.tF 13 rfl (V.fa tb) ?_
  refine WpA.tF 14 rfl (V.ldA tb) ?_
  refine WpA.tF 15 rfl (V.ne (TItem.eqT _ _ _)) ?_
  refine WpA.tF 16 rfl (V.pF) ?_
  refine WpA.tF 17 rfl (V.mv) ?_
  refine WpA.pt 23 (fun hha0 => ?_) (fun hha0 => ?_)
  (try simp only [decide_eq_true_eq, decide_eq_false_iff_not, Bool.not_eq_true', Bool.not_eq_false', Bool.not_eq_true, Bool.not_eq_false, not_true_eq_false, not_false_eq_true, reduceCtorEq] at hha0)
  contradiction
  (try simp only [decide_eq_true_eq, decide_eq_false_iff_not, Bool.not_eq_true', Bool.not_eq_false', Bool.not_eq_true, Bool.not_eq_false, not_true_eq_false, not_false_eq_true, reduceCtorEq] at hha0)
  refine WpA.tF 18 rfl (V.fa tb) ?_
  refine WpA.tF 19 rfl (V.ld1 tb) ?_
  refine WpA.tF 20 rfl (V.mv) ?_
  refine WpA.tF 21 rfl (V.nc) ?_
  refine WpA.tF 22 rfl (V.fa tb) ?_
  refine WpA.tF 23 rfl (V.ld1 tb) ?_
  refine WpA.tF 24 rfl (V.cmp) ?_
  refine WpA.tF 25 rfl (V.pF) ?_
  refine WpA.tF 26 rfl (V.mv) ?_
  refine WpA.pt 32 (fun hha1 => ?_) (fun hha1 => ?_)
  (try simp only [decide_eq_true_eq, decide_eq_false_iff_not, Bool.not_eq_true', Bool.not_eq_false', Bool.not_eq_true, Bool.not_eq_false, not_true_eq_false, not_false_eq_true, reduceCtorEq] at hha1)
  (exfalso; omega)
  (try simp only [decide_eq_true_eq, decide_eq_false_iff_not, Bool.not_eq_true', Bool.not_eq_false', Bool.not_eq_true, Bool.not_eq_false, not_true_eq_false, not_false_eq_true, reduceCtorEq] at hha1)
  refine WpA.tF 27 rfl (V.fa tb) ?_
  refine WpA.tF 28 rfl (V.ld1 tb) ?_
  refine WpA.tF 29 rfl (V.cmp rfl rfl e1) ?_
  refine WpA.tF 30 rfl (V.pF) ?_
  refine WpA.tF 31 rfl (V.mv) ?_
  refine WpA.tF 32 rfl (V.fa tb) ?_
  refine WpA.tF 33 rfl (V.ld1 tb) ?_
  refine WpA.tF 34 rfl (V.mv) ?_
  refine WpA.tF 35 rfl (V.nc) ?_
  refine WpA.tF 36 rfl (V.fa tb) ?_
  refine WpA.tF 37 rfl (V.ld1 tb) ?_
  refine WpA.tF 38 rfl (V.cmp rfl rfl e2) ?_
  refine WpA.tF 39 rfl (V.pF) ?_
  refine WpA.tF 40 rfl (V.as) ?_
  refine WpA.ou ?_
  apply Out.seqN
  refine Wp.cF ?_
  apply Wp.seq
  apply Wp.region
  refine WpL.v (V.mv) ?_
  refine WpL.v (V.nc) ?_
  refine WpL.v (V.fa tb) ?_
  refine WpL.v (V.ld1 tb (hr := hat)) ?_
  refine WpL.v (V.neN) ?_
  refine WpL.v (V.as) ?_
  apply WpL.nil
  apply Out.seqN
  refine Wp.cF ?_
  apply Wp.seq
  apply Wp.region
  refine WpL.v (V.fa tb) ?_
  refine WpL.v (V.ld1 tb) ?_
  refine WpL.v (V.cmp rfl rfl e3) ?_
  refine WpL.v (V.as) ?_
  apply WpL.nil
  apply Out.seqN
  refine Wp.cF ?_
  apply Wp.seq
  refine Wp.dG [] ?_ (List.Sublist.cons_cons _ (List.Sublist.cons_cons _ List.Sublist.slnil)) (List.Sublist.cons_cons _ (List.Sublist.cons_cons _ List.Sublist.slnil))
  refine WpA.tF 0 rfl (V.fa tb) ?_
  refine WpA.tF 1 rfl (V.ld1 tb) ?_
  refine WpA.tF 2 rfl (V.cmp rfl rfl e4) ?_
  refine WpA.tF 3 rfl (V.mv) ?_
  refine WpA.s 4 rfl ?_
  refine WpA.s 5 rfl ?_
  refine WpA.s 6 rfl ?_
  refine WpA.s 7 rfl ?_
  refine WpA.s 8 rfl ?_
  refine WpA.s 9 rfl ?_
  refine WpA.s 10 rfl ?_
  refine WpA.tF 11 rfl (V.pF) ?_
  refine WpA.tF 12 rfl (V.as) ?_
  refine WpA.ou ?_
  apply Out.seqN
  refine Wp.cF ?_
  apply Wp.seq
  refine Wp.dG [] ?_ (List.Sublist.cons_cons _ (List.Sublist.cons_cons _ List.Sublist.slnil)) (List.Sublist.cons_cons _ (List.Sublist.cons_cons _ List.Sublist.slnil))
  refine WpA.tF 0 rfl (V.fa tb) ?_
  refine WpA.tF 1 rfl (V.ld1 tb) ?_
  refine WpA.tF 2 rfl (V.cmp rfl rfl e5) ?_
  refine WpA.tF 3 rfl (V.mv) ?_
  refine WpA.tF 4 rfl (V.fa tb) ?_
  refine WpA.tF 5 rfl (V.ldA tb) ?_
  refine WpA.tF 6 rfl (V.mv) ?_
  refine WpA.tF 7 rfl (V.nc) ?_
  refine WpA.tF 8 rfl (V.fa tb) ?_
  refine WpA.tF 9 rfl (V.ldA tb) ?_
  refine WpA.tF 10 rfl (V.eq (TBallot.eqT _ _ _)) ?_
  refine WpA.tF 11 rfl (V.pT) ?_
  refine WpA.tF 12 rfl (V.mv) ?_
  refine WpA.pt 95 (fun hha2 => ?_) (fun hha2 => ?_)
  (try simp only [decide_eq_true_eq, decide_eq_false_iff_not, Bool.not_eq_true', Bool.not_eq_false', Bool.not_eq_true, Bool.not_eq_false, not_true_eq_false, not_false_eq_true, reduceCtorEq] at hha2)
  refine WpA.tF 13 rfl (V.mv) ?_
  refine WpA.tF 14 rfl (V.nc) ?_
  refine WpA.tF 15 rfl (V.fa tb) ?_
  refine WpA.tF 16 rfl (V.fa tb) ?_
  refine WpA.tF 17 rfl (V.ld1 tb) ?_
  refine WpA.tF 18 rfl (V.ldA tb) ?_
  refine WpA.oS 19 rfl (Op1.callT rfl (hP) (by (repeat (first | exact Sel.nil | exact Rem.here | apply Sel.cons | apply Rem.there))) ?_)
  rintro v3 s4 ⟨rfl, rfl⟩
  refine incat ⟨?_, ?_, ?_⟩
  exact holdT
  exact holdT
  refine WpA.tF 20 rfl (V.pT) ?_
  refine WpA.tF 21 rfl (V.as) ?_
  refine WpA.ou ?_
  apply Out.seqN
  refine Wp.cF ?_
  apply Wp.skip
  apply Out.blockN
  apply Out.seqN
  apply Wp.seq
  apply Wp.region
  refine WpL.v (V.as) ?_
  apply WpL.nil
  apply Out.seqN
  apply Wp.ret
  refine Out.f1 rfl ResIs.t ⟨?_, rfl⟩
  exact rfl
  (try simp only [decide_eq_true_eq, decide_eq_false_iff_not, Bool.not_eq_true', Bool.not_eq_false', Bool.not_eq_true, Bool.not_eq_false, not_true_eq_false, not_false_eq_true, reduceCtorEq] at hha2)
  contradiction
theorem rescue_hear_wait (b : Nat) (x : RescS) (w : x.wf) (m : TMsg) (hm : Fits7 x m) (hn : 3 ≤ x.n) (hg : x.gn ≤ 40) (hh : x.gh.getD m.From.toNat true = false) (hw : (putR x m).way = 0) :
    Ct Try.prog 63 [Ptr b 0, A m.c] [cells b 154 x.c] (fun r σ' => r = B false ∧ σ' = [cells b 154 (putR x m).c]) := by
  have hat := RescS.at w.gl w.gh
  rw [hm.nx] at hat
  have hls := hm.ls
  have f0 := hm.f0
  have fn := hm.fn
  have n7 := hm.n7
  have hP := votes_put (post := [x.next]) (n := x.gn) b 154 w.v m.From m (by have := w.gn; omega)
  rw [hh, if_pos ⟨f0, by omega, rfl⟩, show (decide (0 ≤ m.From ∧ m.From < 7) && !false) = true by simp; omega] at hP
  change Ct _ _ _ _ (fun r σ' => r = B true ∧ σ' = [cells b 154 (putR x m).c]) at hP
  rw [← RescS.vm] at hP
  have hC : Ct Try.prog 99 [Ptr b 0] [cells b 154 (putR x m).c] (fun r σ' => r = B false ∧ σ' = [cells b 154 (putR x m).c]) :=
    (rescue_choose1 b (putR x m) (putR_wf w m hg) (show 3 ≤ x.n ∧ x.n ≤ 1000 by omega)).mono fun v σ' h => by
      rcases h with ⟨_, h1, h2⟩ | ⟨h, _⟩
      · exact ⟨h1, h2⟩
      · exact absurd hw h
  have e1 : cmpI .lss m.From 0 = some false := by simp [cmpI]; omega
  have e2 : cmpI .geq m.From x.n = some false := by simp [cmpI]; omega
  have e3 : cmpI .eql m.Kind 5 = some false := by simp [cmpI, hm.kd]
  have e4 : cmpI .eql m.Kind 8 = some false := by simp [cmpI, hm.kd]
  have e5 : cmpI .eql m.Kind 7 = some true := by simp [cmpI, hm.kd]
  have hit := hm.it
  have hto := hm.to
  have hbl := hm.bl
  refine Ct.enter Try.func63 rfl rfl fun W => ?_
  apply Wp.seq
  apply Wp.region
  refine WpL.o (O.bxA (fun p3 => ?_))
  refine WpL.v (V.as) ?_
  apply WpL.nil
  apply Out.seqN
  apply Wp.seq
  apply Wp.block
  apply Wp.seq
  refine Wp.dG [] ?_ (List.Sublist.cons_cons _ (List.Sublist.cons_cons _ List.Sublist.slnil)) (List.Sublist.cons_cons _ (List.Sublist.cons_cons _ List.Sublist.slnil))
  refine WpA.tF 0 rfl (V.mv) ?_
  refine WpA.tF 1 rfl (V.eqP) ?_
  refine WpA.tF 2 rfl (V.mv) ?_
  refine WpA.tF 3 rfl (V.mv) ?_
  refine WpA.tF 4 rfl (V.nc) ?_
  refine WpA.tF 5 rfl (V.fa tb) ?_
  refine WpA.tF 6 rfl (V.ld1 tb (v := B false) (hr := by rw [← hls]; rfl)) ?_
  refine WpA.tF 7 rfl (V.pF) ?_
  refine WpA.tF 8 rfl (V.mv) ?_
  refine WpA.tF 9 rfl (V.fa tb) ?_
  refine WpA.tF 10 rfl (V.ldA tb) ?_
  refine WpA.tF 11 rfl (V.mv) ?_
  refine WpA.tF 12 rfl (V.nc) ?_
  refine WpA.tF 13 rfl (V.fa tb) ?_
  refine WpA.tF 14 rfl (V.ldA tb) ?_
  refine WpA.tF 15 rfl (V.ne (TItem.eqT _ _ _)) ?_
  refine WpA.tF 16 rfl (V.pF) ?_
  refine WpA.tF 17 rfl (V.mv) ?_
  refine WpA.pt 23 (fun hhn0 => ?_) (fun hhn0 => ?_)
  (try simp only [decide_eq_true_eq, decide_eq_false_iff_not, Bool.not_eq_true', Bool.not_eq_false', Bool.not_eq_true, Bool.not_eq_false, not_true_eq_false, not_false_eq_true, reduceCtorEq] at hhn0)
  contradiction
  (try simp only [decide_eq_true_eq, decide_eq_false_iff_not, Bool.not_eq_true', Bool.not_eq_false', Bool.not_eq_true, Bool.not_eq_false, not_true_eq_false, not_false_eq_true, reduceCtorEq] at hhn0)
  refine WpA.tF 18 rfl (V.fa tb) ?_
  refine WpA.tF 19 rfl (V.ld1 tb) ?_
  refine WpA.tF 20 rfl (V.mv) ?_
  refine WpA.tF 21 rfl (V.nc) ?_
  refine WpA.tF 22 rfl (V.fa tb) ?_
  refine WpA.tF 23 rfl (V.ld1 tb) ?_
  refine WpA.tF 24 rfl (V.cmp) ?_
  refine WpA.tF 25 rfl (V.pF) ?_
  refine WpA.tF 26 rfl (V.mv) ?_
  refine WpA.pt 32 (fun hhn1 => ?_) (fun hhn1 => ?_)
  (try simp only [decide_eq_true_eq, decide_eq_false_iff_not, Bool.not_eq_true', Bool.not_eq_false', Bool.not_eq_true, Bool.not_eq_false, not_true_eq_false, not_false_eq_true, reduceCtorEq] at hhn1)
  (exfalso; omega)
  (try simp only [decide_eq_true_eq, decide_eq_false_iff_not, Bool.not_eq_true', Bool.not_eq_false', Bool.not_eq_true, Bool.not_eq_false, not_true_eq_false, not_false_eq_true, reduceCtorEq] at hhn1)
  refine WpA.tF 27 rfl (V.fa tb) ?_
  refine WpA.tF 28 rfl (V.ld1 tb) ?_
  refine WpA.tF 29 rfl (V.cmp rfl rfl e1) ?_
  refine WpA.tF 30 rfl (V.pF) ?_
  refine WpA.tF 31 rfl (V.mv) ?_
  refine WpA.tF 32 rfl (V.fa tb) ?_
  refine WpA.tF 33 rfl (V.ld1 tb) ?_
  refine WpA.tF 34 rfl (V.mv) ?_
  refine WpA.tF 35 rfl (V.nc) ?_
  refine WpA.tF 36 rfl (V.fa tb) ?_
  refine WpA.tF 37 rfl (V.ld1 tb) ?_
  refine WpA.tF 38 rfl (V.cmp rfl rfl e2) ?_
  refine WpA.tF 39 rfl (V.pF) ?_
  refine WpA.tF 40 rfl (V.as) ?_
  refine WpA.ou ?_
  apply Out.seqN
  refine Wp.cF ?_
  apply Wp.seq
  apply Wp.region
  refine WpL.v (V.mv) ?_
  refine WpL.v (V.nc) ?_
  refine WpL.v (V.fa tb) ?_
  refine WpL.v (V.ld1 tb (hr := hat)) ?_
  refine WpL.v (V.neN) ?_
  refine WpL.v (V.as) ?_
  apply WpL.nil
  apply Out.seqN
  refine Wp.cF ?_
  apply Wp.seq
  apply Wp.region
  refine WpL.v (V.fa tb) ?_
  refine WpL.v (V.ld1 tb) ?_
  refine WpL.v (V.cmp rfl rfl e3) ?_
  refine WpL.v (V.as) ?_
  apply WpL.nil
  apply Out.seqN
  refine Wp.cF ?_
  apply Wp.seq
  refine Wp.dG [] ?_ (List.Sublist.cons_cons _ (List.Sublist.cons_cons _ List.Sublist.slnil)) (List.Sublist.cons_cons _ (List.Sublist.cons_cons _ List.Sublist.slnil))
  refine WpA.tF 0 rfl (V.fa tb) ?_
  refine WpA.tF 1 rfl (V.ld1 tb) ?_
  refine WpA.tF 2 rfl (V.cmp rfl rfl e4) ?_
  refine WpA.tF 3 rfl (V.mv) ?_
  refine WpA.s 4 rfl ?_
  refine WpA.s 5 rfl ?_
  refine WpA.s 6 rfl ?_
  refine WpA.s 7 rfl ?_
  refine WpA.s 8 rfl ?_
  refine WpA.s 9 rfl ?_
  refine WpA.s 10 rfl ?_
  refine WpA.tF 11 rfl (V.pF) ?_
  refine WpA.tF 12 rfl (V.as) ?_
  refine WpA.ou ?_
  apply Out.seqN
  refine Wp.cF ?_
  apply Wp.seq
  refine Wp.dG [19] ?_ (List.Sublist.cons_cons _ (List.Sublist.cons_cons _ List.Sublist.slnil)) (List.Sublist.cons_cons _ (List.Sublist.cons _ List.Sublist.slnil))
  refine WpA.tF 0 rfl (V.fa tb) ?_
  refine WpA.tF 1 rfl (V.ld1 tb) ?_
  refine WpA.tF 2 rfl (V.cmp rfl rfl e5) ?_
  refine WpA.tF 3 rfl (V.mv) ?_
  refine WpA.tF 4 rfl (V.fa tb) ?_
  refine WpA.tF 5 rfl (V.ldA tb) ?_
  refine WpA.tF 6 rfl (V.mv) ?_
  refine WpA.tF 7 rfl (V.nc) ?_
  refine WpA.tF 8 rfl (V.fa tb) ?_
  refine WpA.tD 9 rfl (V.ldA tb) ?_
  refine WpA.tF 10 rfl (V.eq (TBallot.eqT _ _ _)) ?_
  refine WpA.tF 11 rfl (V.pT) ?_
  refine WpA.tF 12 rfl (V.mv) ?_
  refine WpA.pt 95 (fun hho0 => ?_) (fun hho0 => ?_)
  (try simp only [decide_eq_true_eq, decide_eq_false_iff_not, Bool.not_eq_true', Bool.not_eq_false', Bool.not_eq_true, Bool.not_eq_false, not_true_eq_false, not_false_eq_true, reduceCtorEq] at hho0)
  refine WpA.tF 13 rfl (V.mv) ?_
  refine WpA.tF 14 rfl (V.nc) ?_
  refine WpA.tF 15 rfl (V.fa tb) ?_
  refine WpA.tF 16 rfl (V.fa tb) ?_
  refine WpA.tF 17 rfl (V.ld1 tb) ?_
  refine WpA.tF 18 rfl (V.ldA tb) ?_
  refine WpA.l 19 rfl (Op1.callT rfl (hP) (by (repeat (first | exact Sel.nil | exact Rem.here | apply Sel.cons | apply Rem.there))) ?_)
  rintro v1 s2 ⟨rfl, rfl⟩
  refine incat ⟨?_, ?_⟩
  exact holdT
  refine WpA.tF 20 rfl (V.pT) ?_
  refine WpA.tF 21 rfl (V.as) ?_
  refine WpA.ou ?_
  apply Out.seqN
  refine Wp.cT ?_
  apply Wp.seq
  apply Wp.region
  refine WpL.v (V.mv) ?_
  refine WpL.o (Op1.callT rfl (hC) (by (repeat (first | exact Sel.nil | exact Rem.here | apply Sel.cons | apply Rem.there))) ?_)
  rintro v3 s4 ⟨rfl, rfl⟩
  refine incat ?_
  refine WpL.v (V.as) ?_
  apply WpL.nil
  apply Out.seqN
  apply Wp.ret
  apply Out.blockR
  apply Out.seqR
  refine Out.f1 rfl ResIs.t ⟨?_, rfl⟩
  exact rfl
  (try simp only [decide_eq_true_eq, decide_eq_false_iff_not, Bool.not_eq_true', Bool.not_eq_false', Bool.not_eq_true, Bool.not_eq_false, not_true_eq_false, not_false_eq_true, reduceCtorEq] at hho0)
  contradiction
theorem rescue_hear_go (b : Nat) (x : RescS) (w : x.wf) (m : TMsg) (hm : Fits7 x m) (hn : 3 ≤ x.n) (hg : x.gn ≤ 40) (hh : x.gh.getD m.From.toNat true = false) (hw : (putR x m).way ≠ 0) :
    Ct Try.prog 63 [Ptr b 0, A m.c] [cells b 154 x.c] (fun r σ' => ∃ q, r = B true ∧ σ' = [cells b 154 ({ putR x m with next := Ptr q 0 } : RescS).c, cells q 142 (putR x m).goL.c]) := by
  have hat := RescS.at w.gl w.gh
  rw [hm.nx] at hat
  have hls := hm.ls
  have f0 := hm.f0
  have fn := hm.fn
  have n7 := hm.n7
  have hP := votes_put (post := [x.next]) (n := x.gn) b 154 w.v m.From m (by have := w.gn; omega)
  rw [hh, if_pos ⟨f0, by omega, rfl⟩, show (decide (0 ≤ m.From ∧ m.From < 7) && !false) = true by simp; omega] at hP
  change Ct _ _ _ _ (fun r σ' => r = B true ∧ σ' = [cells b 154 (putR x m).c]) at hP
  rw [← RescS.vm] at hP
  have hC : Ct Try.prog 99 [Ptr b 0] [cells b 154 (putR x m).c] (fun r σ' => ∃ q, r = B true ∧ σ' = [cells b 154 ({ putR x m with next := Ptr q 0 } : RescS).c, cells q 142 (putR x m).goL.c]) :=
    (rescue_choose1 b (putR x m) (putR_wf w m hg) (show 3 ≤ x.n ∧ x.n ≤ 1000 by omega)).mono fun v σ' h => by
      rcases h with ⟨h, _⟩ | ⟨_, q, h1, h2⟩
      · exact absurd h hw
      · exact ⟨q, h1, h2⟩
  have e1 : cmpI .lss m.From 0 = some false := by simp [cmpI]; omega
  have e2 : cmpI .geq m.From x.n = some false := by simp [cmpI]; omega
  have e3 : cmpI .eql m.Kind 5 = some false := by simp [cmpI, hm.kd]
  have e4 : cmpI .eql m.Kind 8 = some false := by simp [cmpI, hm.kd]
  have e5 : cmpI .eql m.Kind 7 = some true := by simp [cmpI, hm.kd]
  have hit := hm.it
  have hto := hm.to
  have hbl := hm.bl
  refine Ct.enter Try.func63 rfl rfl fun W => ?_
  apply Wp.seq
  apply Wp.region
  refine WpL.o (O.bxA (fun p3 => ?_))
  refine WpL.v (V.as) ?_
  apply WpL.nil
  apply Out.seqN
  apply Wp.seq
  apply Wp.block
  apply Wp.seq
  refine Wp.dG [] ?_ (List.Sublist.cons_cons _ (List.Sublist.cons_cons _ List.Sublist.slnil)) (List.Sublist.cons_cons _ (List.Sublist.cons_cons _ List.Sublist.slnil))
  refine WpA.tF 0 rfl (V.mv) ?_
  refine WpA.tF 1 rfl (V.eqP) ?_
  refine WpA.tF 2 rfl (V.mv) ?_
  refine WpA.tF 3 rfl (V.mv) ?_
  refine WpA.tF 4 rfl (V.nc) ?_
  refine WpA.tF 5 rfl (V.fa tb) ?_
  refine WpA.tF 6 rfl (V.ld1 tb (v := B false) (hr := by rw [← hls]; rfl)) ?_
  refine WpA.tF 7 rfl (V.pF) ?_
  refine WpA.tF 8 rfl (V.mv) ?_
  refine WpA.tF 9 rfl (V.fa tb) ?_
  refine WpA.tF 10 rfl (V.ldA tb) ?_
  refine WpA.tF 11 rfl (V.mv) ?_
  refine WpA.tF 12 rfl (V.nc) ?_
  refine WpA.tF 13 rfl (V.fa tb) ?_
  refine WpA.tF 14 rfl (V.ldA tb) ?_
  refine WpA.tF 15 rfl (V.ne (TItem.eqT _ _ _)) ?_
  refine WpA.tF 16 rfl (V.pF) ?_
  refine WpA.tF 17 rfl (V.mv) ?_
  refine WpA.pt 23 (fun hhp0 => ?_) (fun hhp0 => ?_)
  (try simp only [decide_eq_true_eq, decide_eq_false_iff_not, Bool.not_eq_true', Bool.not_eq_false', Bool.not_eq_true, Bool.not_eq_false, not_true_eq_false, not_false_eq_true, reduceCtorEq] at hhp0)
  contradiction
  (try simp only [decide_eq_true_eq, decide_eq_false_iff_not, Bool.not_eq_true', Bool.not_eq_false', Bool.not_eq_true, Bool.not_eq_false, not_true_eq_false, not_false_eq_true, reduceCtorEq] at hhp0)
  refine WpA.tF 18 rfl (V.fa tb) ?_
  refine WpA.tF 19 rfl (V.ld1 tb) ?_
  refine WpA.tF 20 rfl (V.mv) ?_
  refine WpA.tF 21 rfl (V.nc) ?_
  refine WpA.tF 22 rfl (V.fa tb) ?_
  refine WpA.tF 23 rfl (V.ld1 tb) ?_
  refine WpA.tF 24 rfl (V.cmp) ?_
  refine WpA.tF 25 rfl (V.pF) ?_
  refine WpA.tF 26 rfl (V.mv) ?_
  refine WpA.pt 32 (fun hhp1 => ?_) (fun hhp1 => ?_)
  (try simp only [decide_eq_true_eq, decide_eq_false_iff_not, Bool.not_eq_true', Bool.not_eq_false', Bool.not_eq_true, Bool.not_eq_false, not_true_eq_false, not_false_eq_true, reduceCtorEq] at hhp1)
  (exfalso; omega)
  (try simp only [decide_eq_true_eq, decide_eq_false_iff_not, Bool.not_eq_true', Bool.not_eq_false', Bool.not_eq_true, Bool.not_eq_false, not_true_eq_false, not_false_eq_true, reduceCtorEq] at hhp1)
  refine WpA.tF 27 rfl (V.fa tb) ?_
  refine WpA.tF 28 rfl (V.ld1 tb) ?_
  refine WpA.tF 29 rfl (V.cmp rfl rfl e1) ?_
  refine WpA.tF 30 rfl (V.pF) ?_
  refine WpA.tF 31 rfl (V.mv) ?_
  refine WpA.tF 32 rfl (V.fa tb) ?_
  refine WpA.tF 33 rfl (V.ld1 tb) ?_
  refine WpA.tF 34 rfl (V.mv) ?_
  refine WpA.tF 35 rfl (V.nc) ?_
  refine WpA.tF 36 rfl (V.fa tb) ?_
  refine WpA.tF 37 rfl (V.ld1 tb) ?_
  refine WpA.tF 38 rfl (V.cmp rfl rfl e2) ?_
  refine WpA.tF 39 rfl (V.pF) ?_
  refine WpA.tF 40 rfl (V.as) ?_
  refine WpA.ou ?_
  apply Out.seqN
  refine Wp.cF ?_
  apply Wp.seq
  apply Wp.region
  refine WpL.v (V.mv) ?_
  refine WpL.v (V.nc) ?_
  refine WpL.v (V.fa tb) ?_
  refine WpL.v (V.ld1 tb (hr := hat)) ?_
  refine WpL.v (V.neN) ?_
  refine WpL.v (V.as) ?_
  apply WpL.nil
  apply Out.seqN
  refine Wp.cF ?_
  apply Wp.seq
  apply Wp.region
  refine WpL.v (V.fa tb) ?_
  refine WpL.v (V.ld1 tb) ?_
  refine WpL.v (V.cmp rfl rfl e3) ?_
  refine WpL.v (V.as) ?_
  apply WpL.nil
  apply Out.seqN
  refine Wp.cF ?_
  apply Wp.seq
  refine Wp.dG [] ?_ (List.Sublist.cons_cons _ (List.Sublist.cons_cons _ List.Sublist.slnil)) (List.Sublist.cons_cons _ (List.Sublist.cons_cons _ List.Sublist.slnil))
  refine WpA.tF 0 rfl (V.fa tb) ?_
  refine WpA.tF 1 rfl (V.ld1 tb) ?_
  refine WpA.tF 2 rfl (V.cmp rfl rfl e4) ?_
  refine WpA.tF 3 rfl (V.mv) ?_
  refine WpA.s 4 rfl ?_
  refine WpA.s 5 rfl ?_
  refine WpA.s 6 rfl ?_
  refine WpA.s 7 rfl ?_
  refine WpA.s 8 rfl ?_
  refine WpA.s 9 rfl ?_
  refine WpA.s 10 rfl ?_
  refine WpA.tF 11 rfl (V.pF) ?_
  refine WpA.tF 12 rfl (V.as) ?_
  refine WpA.ou ?_
  apply Out.seqN
  refine Wp.cF ?_
  apply Wp.seq
  refine Wp.dG [19] ?_ (List.Sublist.cons_cons _ (List.Sublist.cons_cons _ List.Sublist.slnil)) (List.Sublist.cons_cons _ (List.Sublist.cons _ List.Sublist.slnil))
  refine WpA.tF 0 rfl (V.fa tb) ?_
  refine WpA.tF 1 rfl (V.ld1 tb) ?_
  refine WpA.tF 2 rfl (V.cmp rfl rfl e5) ?_
  refine WpA.tF 3 rfl (V.mv) ?_
  refine WpA.tF 4 rfl (V.fa tb) ?_
  refine WpA.tF 5 rfl (V.ldA tb) ?_
  refine WpA.tF 6 rfl (V.mv) ?_
  refine WpA.tF 7 rfl (V.nc) ?_
  refine WpA.tF 8 rfl (V.fa tb) ?_
  refine WpA.tD 9 rfl (V.ldA tb) ?_
  refine WpA.tF 10 rfl (V.eq (TBallot.eqT _ _ _)) ?_
  refine WpA.tF 11 rfl (V.pT) ?_
  refine WpA.tF 12 rfl (V.mv) ?_
  refine WpA.pt 95 (fun hhq0 => ?_) (fun hhq0 => ?_)
  (try simp only [decide_eq_true_eq, decide_eq_false_iff_not, Bool.not_eq_true', Bool.not_eq_false', Bool.not_eq_true, Bool.not_eq_false, not_true_eq_false, not_false_eq_true, reduceCtorEq] at hhq0)
  refine WpA.tF 13 rfl (V.mv) ?_
  refine WpA.tF 14 rfl (V.nc) ?_
  refine WpA.tF 15 rfl (V.fa tb) ?_
  refine WpA.tF 16 rfl (V.fa tb) ?_
  refine WpA.tF 17 rfl (V.ld1 tb) ?_
  refine WpA.tF 18 rfl (V.ldA tb) ?_
  refine WpA.l 19 rfl (Op1.callT rfl (hP) (by (repeat (first | exact Sel.nil | exact Rem.here | apply Sel.cons | apply Rem.there))) ?_)
  rintro v1 s2 ⟨rfl, rfl⟩
  refine incat ⟨?_, ?_⟩
  exact holdT
  refine WpA.tF 20 rfl (V.pT) ?_
  refine WpA.tF 21 rfl (V.as) ?_
  refine WpA.ou ?_
  apply Out.seqN
  refine Wp.cT ?_
  apply Wp.seq
  apply Wp.region
  refine WpL.v (V.mv) ?_
  refine WpL.o (Op1.callT rfl (hC) (by (repeat (first | exact Sel.nil | exact Rem.here | apply Sel.cons | apply Rem.there))) ?_)
  rintro v3 s4 ⟨q105, ⟨rfl, rfl⟩⟩
  refine incat ?_
  refine WpL.v (V.as) ?_
  apply WpL.nil
  apply Out.seqN
  apply Wp.ret
  apply Out.blockR
  apply Out.seqR
  refine Out.e1 rfl ResIs.t ?_
  exact ⟨_, _, ⟨_, rfl, rfl⟩, (by (repeat (first | exact Sel.nil | exact Rem.here | apply Sel.cons | apply Rem.there)))⟩
  (try simp only [decide_eq_true_eq, decide_eq_false_iff_not, Bool.not_eq_true', Bool.not_eq_false', Bool.not_eq_true, Bool.not_eq_false, not_true_eq_false, not_false_eq_true, reduceCtorEq] at hhq0)
  contradiction
end Go.Proofs.Ythoepbbpmdmfeaa
