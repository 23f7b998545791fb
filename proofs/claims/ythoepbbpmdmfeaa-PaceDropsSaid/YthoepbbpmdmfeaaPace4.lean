/-
  Layer 17: what isn't watched any more.
-/
import Derived.Test.YthoepbbpmdmfeaaPace3
import Derived.Test.YthoepbbpmdmfeaaHeapN
namespace Go.Proofs.Ythoepbbpmdmfeaa
open Go.HL
set_option linter.unusedSimpArgs false
set_option linter.unusedVariables false
set_option maxRecDepth 8000
theorem tv_mdel {m : MapI} {x : TItem} (h : (m.map (·.1)).Nodup) : tv (mdel m x) x = 0 := by
  unfold tv
  rw [mget_mdel h, if_pos rfl]; rfl
structure DQ where
  i : Nat
  v : Go.Value
  l : List WheelSpokeOfItem
  tm : MapI
set_option maxHeartbeats 1000000 in
theorem pace_drop1 (b : Nat) (n self : Int) (p m : Nat) (v : Go.Value) (t : Int) (l : List WheelSpokeOfItem) (tm : MapI) (x : TItem) (ao : Option Go.Addr) (cap bb off : Nat) (e : Ent) (hR : Rd e ao 1 bb off 2 ([x].map TItem.c)) (hm : l.length ≤ 1000) :
    Ct Try.prog 73 [Ptr b 0, .slice ao 1 cap] (paE b n self p m v t l tm ++ [e]) (fun r σ' => ∃ v', r = .tuple #[] ∧ σ' = paE b n self p m v' t (IdelK x l) (mdel tm x) ++ [e]) := by
  have h1 := getMapS (f := TItem.c) (xs := [x]) (k := 0) rfl
  unfold paE
  dsimp only [List.cons_append, List.nil_append]
  refine Ct.enter Try.func73 rfl rfl fun W => ?_
  apply Wp.seq
  apply Wp.seq
  apply Wp.region
  refine WpL.v (V.mv) ?_
  refine WpL.v (V.eqP) ?_
  apply WpL.nil
  apply Out.seqN
  refine Wp.cF ?_
  apply Wp.skip
  apply Out.seqN
  apply Wp.seq
  apply Wp.region
  refine WpL.v (V.mv) ?_
  refine WpL.v (V.lenL tb) ?_
  refine WpL.v (V.mv) ?_
  apply WpL.nil
  apply Out.seqN
  apply Wp.block
  refine Wp.lp [9, 8, 0] (fun y : DQ => (y.i = 0 ∧ y.l = l ∧ y.tm = tm) ∨ (y.i = 1 ∧ y.l = IdelK x l ∧ y.tm = mdel tm x)) (fun y => [(10, I (y.i : Int))]) (fun y => [cells p 181 (WheelWheelOfItem.c ⟨y.v, t⟩), rows WheelSpokeOfItem.c y.v 183 4 y.l, mapK (fun x : TItem => A x.c) (fun n : Int => I n) m y.tm]) (fun y => 1 - y.i) ⟨0, v, l, tm⟩ (.inl ⟨rfl, rfl, rfl⟩) ?_
  rintro ⟨i, v, L, M⟩ hJ K hK
  dsimp only at hJ
  dsimp only [List.cons_append, List.nil_append]
  rcases hJ with ⟨rfl, rfl, rfl⟩ | ⟨rfl, rfl, rfl⟩
  · have hD (g : Nat) := Iwheel_drop p v t L (rows TItem.c (.slice (some ⟨g, 0, none⟩) 1 1) 23 2 [x]) (some ⟨g, 0, none⟩) 1 g 0 [x] (Rd.rows (l := [x]) TItem.len (by simp)) (by omega) (by simp)
    change ∀ g, Ct _ _ _ _ (fun r σ' => ∃ v', r = _ ∧ σ' = IwhE p v' t (IdelK x L) ++ _) at hD
    unfold IwhE at hD
    dsimp only [List.cons_append, List.nil_append] at hD
    apply Wp.seq
    apply Wp.region
    refine WpL.v (V.cmp) ?_
    apply WpL.nil
    apply Out.seqN
    apply Wp.seq
    refine Wp.cT ?_
    apply Wp.skip
    apply Out.seqN
    apply Wp.seq
    apply Wp.block
    apply Wp.seq
    apply Wp.region
    refine WpL.v (V.ixR tb rfl rfl (by assumption)) ?_
    refine WpL.v (V.ldRA tb (k := 0) rfl hR h1) ?_
    refine WpL.o (O.al tb (fun p5 => ?_))
    refine WpL.o (O.stA tb ?_)
    apply WpL.nil
    apply Out.seqN
    apply Wp.seq
    refine Wp.dG [] ?_ (List.Sublist.cons_cons _ (List.Sublist.cons _ (List.Sublist.cons _ (List.Sublist.cons _ (List.Sublist.cons_cons _ (List.Sublist.cons _ List.Sublist.slnil)))))) (List.Sublist.cons_cons _ (List.Sublist.cons _ (List.Sublist.cons _ (List.Sublist.cons _ (List.Sublist.cons_cons _ (List.Sublist.cons _ List.Sublist.slnil))))))
    refine WpA.tF 0 rfl (V.mv) ?_
    refine WpA.tF 1 rfl (V.nc) ?_
    refine WpA.tF 2 rfl (V.fa tb) ?_
    refine WpA.tF 3 rfl (V.ld1 tb) ?_
    refine WpA.tF 4 rfl (V.ldA tb) ?_
    refine WpA.oS 5 rfl (Op1.delM (l := M) (k := x) (vf := fun n : Int => I n) kokI map159 rfl rfl (by (repeat first | exact Upd.here _ _ _ | apply Upd.there)) ⟨?_, ?_, ?_⟩)
    exact holdT
    exact holdT
    refine WpA.ou ?_
    apply Out.seqN
    refine Wp.dG [] ?_ (List.Sublist.cons_cons _ (List.Sublist.cons _ (List.Sublist.cons _ (List.Sublist.cons _ (List.Sublist.cons_cons _ (List.Sublist.cons _ List.Sublist.slnil)))))) (List.Sublist.cons_cons _ (List.Sublist.cons _ (List.Sublist.cons _ (List.Sublist.cons _ (List.Sublist.cons_cons _ (List.Sublist.cons _ List.Sublist.slnil))))))
    refine WpA.tF 0 rfl (V.mv) ?_
    refine WpA.tF 1 rfl (V.nc) ?_
    refine WpA.tF 2 rfl (V.fa tb) ?_
    refine WpA.tF 3 rfl (V.ld1 tb) ?_
    refine WpA.tF 4 rfl (V.ldA tb) ?_
    refine WpA.oS 5 rfl (O.litL tb TItem.c [x] rfl (PartsFrom.agg rfl PartsFrom.nil) rfl rfl (fun p24 => ⟨?_, ?_, ?_⟩))
    exact holdT
    exact holdT
    refine WpA.oS 6 rfl (Op1.callT rfl (hD _) (by (repeat (first | exact Sel.nil | exact Rem.here | apply Sel.cons | apply Rem.there))) ?_)
    rintro v0 s1 ⟨v'25, ⟨rfl, rfl⟩⟩
    refine incat ⟨?_, ?_, ?_⟩
    exact holdT
    exact holdT
    refine WpA.ou ?_
    apply Out.blockN
    apply Out.seqN
    apply Wp.region
    refine WpL.v (V.add) ?_
    refine WpL.v (V.mv) ?_
    apply WpL.nil
    all_goals exact Out.ag hK ⟨1, _, IdelK x L, mdel M x⟩ (.inr ⟨rfl, rfl, rfl⟩) (by show 1 - 1 < 1 - 0; omega)
  · apply Wp.seq
    apply Wp.region
    refine WpL.v (V.cmp) ?_
    apply WpL.nil
    apply Out.seqN
    apply Wp.seq
    refine Wp.cF ?_
    apply Wp.exit
    apply Out.seqE
    apply Out.seqE
    apply Out.blockE
    refine Out.e0 rfl  ?_
    exact ⟨_, _, ⟨_, rfl, rfl⟩, (by (repeat (first | exact Sel.nil | exact Rem.here | apply Sel.cons | apply Rem.there)))⟩
/-- What is watched, and how often it was taken over. -/
structure DI (m : Nat) (t : Int) (l : List WheelSpokeOfItem) (tm : MapI) : Prop extends IW1 t l where
  len : l.length ≤ m
  tt : t ≤ m
  nd : (tm.map (·.1)).Nodup
  tvs : ∀ y, 0 ≤ tv tm y ∧ tv tm y ≤ m
  du : ∀ s ∈ l, s.due ≤ 2199023255552
theorem DI.zero : DI 0 0 [] [] := ⟨IW1.zero, Nat.le_refl _, Int.le_refl _, List.nodup_nil, fun y => by unfold tv; rw [mget_nil]; exact ⟨Int.le_refl _, Int.le_refl _⟩, by simp⟩
theorem ins_mem {a s : WheelSpokeOfItem} {x : TItem} {t : Int} {l : List WheelSpokeOfItem} (w : IW1 t l) (h : s ∈ IinsS a (IdelK x l)) : s = a ∨ s ∈ l := by
  rcases List.mem_cons.1 ((IinsS_perm _ _).mem_iff.1 h) with h | h
  · exact .inl h
  · rw [IdelK_out w.nod] at h
    exact .inr (Iout_mem.1 h).1
theorem DI.put {m : Nat} {t : Int} {l : List WheelSpokeOfItem} {tm : MapI} (h : DI m t l tm) (x : TItem) (d : Int) (hd : d ≤ 2199023255552) (tm2 : MapI) (h2 : (tm2.map (·.1)).Nodup) (h3 : ∀ y, 0 ≤ tv tm2 y ∧ tv tm2 y ≤ (m + 1 : Nat)) : DI (m + 1) (t + 1) (IinsS ⟨x, d, t⟩ (IdelK x l)) tm2 := by
  refine ⟨h.toIW1.set x d, Nat.le_trans (Iset_len (t := t) (l := l) x d) (by have := h.len; omega), by have := h.tt; omega, h2, h3, fun s hs => ?_⟩
  rcases ins_mem h.toIW1 hs with rfl | hs
  · exact hd
  · exact h.du s hs
theorem DI.see {m : Nat} {t : Int} {l : List WheelSpokeOfItem} {tm : MapI} (h : DI m t l tm) {n self now : Int} (x : TItem) (hn : n ≤ 1048576) (hd : now ≤ 1099511627776) : DI (m + 1) (seeS n self now tm (t, l) x).1 (seeS n self now tm (t, l) x).2 tm := by
  have h3 : ∀ y, 0 ≤ tv tm y ∧ tv tm y ≤ (m + 1 : Nat) := fun y => by have := h.tvs y; omega
  unfold seeS
  split
  · exact ⟨h.toIW1, by have := h.len; show l.length ≤ m + 1; omega, by have := h.tt; show t ≤ _; omega, h.nd, h3, h.du⟩
  · exact h.put x _ (by have := waitV_ge n self x.Rep (tv tm x) hn; omega) tm h.nd h3
theorem DI.again {m : Nat} {t : Int} {l : List WheelSpokeOfItem} {tm : MapI} (h : DI m t l tm) {n self now : Int} (x : TItem) (hn : n ≤ 1048576) (hd : now ≤ 1099511627776) : DI (m + 1) (t + 1) (IinsS ⟨x, now + waitV n self x.Rep (tv tm x + 1), t⟩ (IdelK x l)) (mput tm x (tv tm x + 1)) := by
  refine h.put x _ (by have := waitV_ge n self x.Rep (tv tm x + 1) hn; omega) _ (mput_nodup h.nd) fun y => ?_
  rw [tv_put]
  have h1 := h.tvs x
  have h2 := h.tvs y
  split <;> omega
end Go.Proofs.Ythoepbbpmdmfeaa
