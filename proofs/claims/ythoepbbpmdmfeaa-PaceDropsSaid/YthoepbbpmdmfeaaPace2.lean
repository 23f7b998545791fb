/-
  Layer 17: what is watched.
-/
import Derived.Test.YthoepbbpmdmfeaaPace
import Derived.Test.YthoepbbpmdmfeaaItWL
import Derived.Test.YthoepbbpmdmfeaaPick
namespace Go.Proofs.Ythoepbbpmdmfeaa
open Go.HL
set_option linter.unusedSimpArgs false
set_option linter.unusedVariables false
set_option maxRecDepth 8000
theorem zero3 (w : Go.World) : (Go.zeroValue 3).run Try.prog w = .ok (I 0) w := rfl
theorem map159 : mapTB Try.prog 159 23 3 = true := rfl
theorem kokI : KeyOk Try.prog 23 (fun x : TItem => A x.c) :=
  KeyOk.struct (c := TItem.c) rfl (fun a b => TItem.eqT a b 9998) (fun a => CheckT.struct (n := 9999) (l := [(3, 0), (3, 1)]) (by kernel_rfl) ⟨⟨_, .inl ⟨by kernel_rfl, rfl⟩, CheckT.int (k' := .i64) rfl⟩, ⟨_, .inl ⟨by kernel_rfl, rfl⟩, CheckT.int (k' := .i64) rfl⟩, trivial⟩) (fun a => rfl)
abbrev MapI := List (TItem × Int)
def tv (m : MapI) (x : TItem) : Int := (mget m x).getD 0
theorem tv_put (m : MapI) (x y : TItem) (n : Int) : tv (mput m x n) y = if y = x then n else tv m y := by
  unfold tv
  rw [mget_mput]
  split <;> rfl
def paE (b : Nat) (n self : Int) (p m : Nat) (v : Go.Value) (t : Int) (l : List WheelSpokeOfItem) (tm : MapI) : List Ent := [cells b 161 (PacePace.c ⟨n, self, Ptr p 0, .map (some m)⟩), cells p 181 (WheelWheelOfItem.c ⟨v, t⟩), rows WheelSpokeOfItem.c v 183 4 l, mapK (fun x : TItem => A x.c) (fun n : Int => I n) m tm]
theorem pace_new (n self : Int) : Ct Try.prog 68 [I n, I self] [] (fun r σ' => ∃ b p m, r = Ptr b 0 ∧ σ' = paE b n self p m (.slice none 0 0) 0 [] []) := by
  have hN := Iwheel_new
  unfold IwhE at hN
  unfold paE
  refine Ct.enter Try.func68 rfl rfl fun W => ?_
  apply Wp.seq
  apply Wp.region
  refine WpL.v (V.as) ?_
  apply WpL.nil
  apply Out.seqN
  apply Wp.seq
  apply Wp.region
  refine WpL.v (V.mv) ?_
  refine WpL.v (V.mv) ?_
  refine WpL.o (Op1.callT rfl (hN) (by (repeat (first | exact Sel.nil | exact Rem.here | apply Sel.cons | apply Rem.there))) ?_)
  rintro v0 s1 ⟨p7, ⟨rfl, rfl⟩⟩
  refine incat ?_
  refine WpL.o (Op1.mkMap (fun x : TItem => A x.c) (fun n : Int => I n) rfl (fun p8 => ?_))
  refine WpL.v (V.bld tb) ?_
  refine WpL.o (O.bxA (fun p10 => ?_))
  refine WpL.v (V.as) ?_
  apply WpL.nil
  apply Out.seqN
  apply Wp.ret
  refine Out.e1 rfl ResIs.t ?_
  focus (exact ⟨_, _, ⟨_, _, _, rfl, rfl⟩, (by (repeat (first | exact Sel.nil | exact Rem.here | apply Sel.cons | apply Rem.there)))⟩; done)
theorem pace_len (b : Nat) (n self : Int) (p m : Nat) (v : Go.Value) (t : Int) (l : List WheelSpokeOfItem) (tm : MapI) : Ct Try.prog 74 [Ptr b 0] (paE b n self p m v t l tm) (fun r σ' => r = I (l.length : Int) ∧ σ' = paE b n self p m v t l tm) := by
  have hL := Iwheel_len p v t l
  unfold IwhE at hL
  unfold paE
  refine Ct.enter Try.func74 rfl rfl fun W => ?_
  apply Wp.seq
  apply Wp.region
  refine WpL.v (V.as) ?_
  apply WpL.nil
  apply Out.seqN
  apply Wp.seq
  apply Wp.seq
  apply Wp.region
  refine WpL.v (V.mv) ?_
  refine WpL.v (V.eqP) ?_
  apply WpL.nil
  apply Out.seqN
  refine Wp.cF ?_
  apply Wp.skip
  apply Out.seqN
  apply Wp.seq
  apply Wp.region
  refine WpL.v (V.mv) ?_
  refine WpL.v (V.nc) ?_
  refine WpL.v (V.fa tb) ?_
  refine WpL.v (V.ld1 tb) ?_
  refine WpL.o (Op1.callT rfl (hL) (by (repeat (first | exact Sel.nil | exact Rem.here | apply Sel.cons | apply Rem.there))) ?_)
  rintro v0 s1 ⟨rfl, rfl⟩
  refine incat ?_
  refine WpL.v (V.as) ?_
  apply WpL.nil
  apply Out.seqN
  apply Wp.ret
  refine Out.f1 rfl ResIs.t ⟨?_, rfl⟩
  exact rfl
theorem pace_due (b : Nat) (n self : Int) (p m : Nat) (v : Go.Value) (t : Int) (l : List WheelSpokeOfItem) (tm : MapI) (now : Int) : Ct Try.prog 70 [Ptr b 0, I now] (paE b n self p m v t l tm) (fun r σ' => ∃ a c, r = .func (.func 121) #[] #[Ptr a 0, Ptr c 0] ∧ σ' = [cells a 157 [Ptr p 0], cells c 3 [I now]] ++ paE b n self p m v t l tm) := by
  have hU := Iwheel_until p (Ptr p 0) rfl now
  unfold paE
  refine Ct.enter Try.func70 rfl rfl fun W => ?_
  apply Wp.seq
  apply Wp.region
  refine WpL.v (V.as) ?_
  apply WpL.nil
  apply Out.seqN
  apply Wp.seq
  apply Wp.seq
  apply Wp.region
  refine WpL.v (V.mv) ?_
  refine WpL.v (V.eqP) ?_
  apply WpL.nil
  apply Out.seqN
  refine Wp.cF ?_
  apply Wp.skip
  apply Out.seqN
  apply Wp.seq
  apply Wp.region
  refine WpL.v (V.mv) ?_
  refine WpL.v (V.nc) ?_
  refine WpL.v (V.fa tb) ?_
  refine WpL.v (V.ld1 tb) ?_
  refine WpL.v (V.mv) ?_
  refine WpL.o (Op1.callT rfl (hU) (by (repeat (first | exact Sel.nil | exact Rem.here | apply Sel.cons | apply Rem.there))) ?_)
  rintro v0 s1 ⟨a14, ⟨c14, ⟨rfl, rfl⟩⟩⟩
  refine incat ?_
  refine WpL.v (V.as) ?_
  apply WpL.nil
  apply Out.seqN
  apply Wp.ret
  refine Out.e1 rfl ResIs.t ?_
  focus (exact ⟨_, _, ⟨_, _, rfl, rfl⟩, (by (repeat (first | exact Sel.nil | exact Rem.here | apply Sel.cons | apply Rem.there)))⟩; done)
theorem pace_tries (b : Nat) (n self : Int) (p m : Nat) (v : Go.Value) (t : Int) (l : List WheelSpokeOfItem) (tm : MapI) (x : TItem) : Ct Try.prog 71 [Ptr b 0, A x.c] (paE b n self p m v t l tm) (fun r σ' => r = I (tv tm x) ∧ σ' = paE b n self p m v t l tm) := by
  unfold paE
  refine Ct.enter Try.func71 rfl rfl fun W => ?_
  apply Wp.seq
  apply Wp.region
  refine WpL.o (O.bxA (fun p3 => ?_))
  refine WpL.v (V.as) ?_
  apply WpL.nil
  apply Out.seqN
  apply Wp.seq
  apply Wp.seq
  apply Wp.region
  refine WpL.v (V.mv) ?_
  refine WpL.v (V.eqP) ?_
  apply WpL.nil
  apply Out.seqN
  refine Wp.cF ?_
  apply Wp.skip
  apply Out.seqN
  apply Wp.seq
  refine Wp.dG [] ?_ (List.Sublist.cons_cons _ (List.Sublist.cons_cons _ (List.Sublist.cons _ (List.Sublist.cons _ (List.Sublist.cons _ List.Sublist.slnil))))) (List.Sublist.cons_cons _ (List.Sublist.cons_cons _ (List.Sublist.cons _ (List.Sublist.cons _ (List.Sublist.cons _ List.Sublist.slnil)))))
  refine WpA.tF 0 rfl (V.mv) ?_
  refine WpA.tF 1 rfl (V.nc) ?_
  refine WpA.tF 2 rfl (V.fa tb) ?_
  refine WpA.tF 3 rfl (V.ld1 tb) ?_
  refine WpA.tF 4 rfl (V.ldA tb) ?_
  refine WpA.oS 5 rfl (Op1.vv (Val.lookD (l := tm) (k := x) (vf := fun n : Int => I n) 0 kokI map159 zero3 rfl rfl (by (repeat first | exact List.Mem.head _ | apply List.Mem.tail))) ⟨?_, ?_, ?_⟩)
  exact holdT
  exact holdT
  refine WpA.tF 6 rfl (V.as) ?_
  refine WpA.ou ?_
  apply Out.seqN
  apply Wp.ret
  refine Out.f1 rfl ResIs.t ⟨?_, rfl⟩
  exact rfl
def seeS (n self now : Int) (tm : MapI) (st : Int × List WheelSpokeOfItem) (x : TItem) : Int × List WheelSpokeOfItem :=
  if (IdueL x st.2).2 = true then st else (st.1 + 1, IinsS ⟨x, now + waitV n self x.Rep (tv tm x), st.1⟩ (IdelK x st.2))
def seeL (n self now : Int) (tm : MapI) (xs : List TItem) (st : Int × List WheelSpokeOfItem) : Int × List WheelSpokeOfItem := xs.foldl (seeS n self now tm) st
theorem seeL_snoc (n self now : Int) (tm : MapI) (xs : List TItem) (x : TItem) (st : Int × List WheelSpokeOfItem) : seeL n self now tm (xs ++ [x]) st = seeS n self now tm (seeL n self now tm xs st) x := by simp [seeL]
theorem seeS_ok {n self now : Int} {tm : MapI} {st : Int × List WheelSpokeOfItem} {x : TItem} (h : IW1 st.1 st.2) : IW1 (seeS n self now tm st x).1 (seeS n self now tm st x).2 ∧ (seeS n self now tm st x).2.length ≤ st.2.length + 1 ∧ (seeS n self now tm st x).1 ≤ st.1 + 1 := by
  unfold seeS
  split
  · exact ⟨h, by omega, by omega⟩
  · exact ⟨h.set x _, Iset_len (t := st.1) (l := st.2) x _, Int.le_refl _⟩
theorem seeL_ok {n self now : Int} {tm : MapI} : ∀ (xs : List TItem) (st : Int × List WheelSpokeOfItem), IW1 st.1 st.2 → IW1 (seeL n self now tm xs st).1 (seeL n self now tm xs st).2 ∧ (seeL n self now tm xs st).2.length ≤ st.2.length + xs.length ∧ (seeL n self now tm xs st).1 ≤ st.1 + xs.length
  | [], st, h => ⟨h, Nat.le_refl _, by simp [seeL]⟩
  | x :: xs, st, h => by
    obtain ⟨h1, h2, h3⟩ := seeS_ok (n := n) (self := self) (now := now) (tm := tm) (x := x) h
    obtain ⟨h4, h5, h6⟩ := seeL_ok xs (seeS n self now tm st x) h1
    refine ⟨h4, Nat.le_trans h5 (by simp only [List.length_cons]; omega), Int.le_trans h6 (by simp only [List.length_cons]; omega)⟩
set_option maxHeartbeats 1000000 in
theorem pace_see (b : Nat) (n self : Int) (p m : Nat) (v : Go.Value) (t : Int) (l : List WheelSpokeOfItem) (tm : MapI) (now : Int) (e : Ent) (ao : Option Go.Addr) (cap bb off : Nat) (xs : List TItem) (hR : Rd e ao xs.length bb off 2 (xs.map TItem.c))
    (hw1 : IW1 t l) (hl : l.length + xs.length ≤ 400) (ht : t + xs.length ≤ 100000) (hx : ∀ x ∈ xs, -1048576 ≤ x.Rep ∧ x.Rep ≤ 1048576) (hn : n ≤ 1048576) (hs : -1048576 ≤ self ∧ self ≤ 1048576) (hnow : -1152921504606846976 ≤ now ∧ now ≤ 1152921504606846976) :
    Ct Try.prog 69 [Ptr b 0, I now, .slice ao xs.length cap] (paE b n self p m v t l tm ++ [e]) (fun r σ' => ∃ v', r = .tuple #[] ∧ σ' = paE b n self p m v' (seeL n self now tm xs (t, l)).1 (seeL n self now tm xs (t, l)).2 tm ++ [e]) := by
  unfold paE
  dsimp only [List.cons_append, List.nil_append]
  refine Ct.enter Try.func69 rfl rfl fun W => ?_
  apply Wp.seq
  apply Wp.region
  refine WpL.v (V.mv) ?_
  refine WpL.v (V.lenL tb) ?_
  refine WpL.v (V.mv) ?_
  apply WpL.nil
  apply Out.seqN
  apply Wp.block
  refine Wp.lp [11, 10, 1, 0] (fun y : Nat × Go.Value => y.1 ≤ xs.length) (fun y => [(12, I (y.1 : Int))]) (fun y => [cells p 181 (WheelWheelOfItem.c ⟨y.2, (seeL n self now tm (xs.take y.1) (t, l)).1⟩), rows WheelSpokeOfItem.c y.2 183 4 (seeL n self now tm (xs.take y.1) (t, l)).2]) (fun y => xs.length - y.1) (0, v) (Nat.zero_le _) ?_
  rintro ⟨i, v⟩ hi K hK
  dsimp only at hi
  dsimp only [List.cons_append, List.nil_append]
  by_cases hlt : i < xs.length
  · obtain ⟨x, hxx⟩ := getS hlt
    have e1 : seeL n self now tm (xs.take (i + 1)) (t, l) = seeS n self now tm (seeL n self now tm (xs.take i) (t, l)) x := by rw [take_snocS hxx, seeL_snoc]
    obtain ⟨o1, o2, o3⟩ := seeL_ok (n := n) (self := self) (now := now) (tm := tm) (xs.take i) (t, l) hw1
    simp only [List.length_take] at o2 o3
    have hxr := hx x (List.mem_of_getElem? hxx)
    generalize seeL n self now tm (xs.take i) (t, l) = st at *
    obtain ⟨t2, L⟩ := st
    dsimp only at e1 o1 o2 o3 ⊢
    have ht0 := o1.t0
    have hD := Iwheel_due p v t2 L x (by omega)
    unfold IwhE at hD
    unfold seeS at e1
    cases hx2 : (IdueL x L).2 with
    | true =>
      rw [hx2] at hD
      simp only [hx2, if_true] at e1
      apply Wp.seq
      apply Wp.region
      refine WpL.v (V.cmp) ?_
      apply WpL.nil
      apply Out.seqN
      apply Wp.seq
      refine Wp.c (fun hs10 => ?_) (fun hs10 => ?_)
      (try simp only [decide_eq_true_eq, decide_eq_false_iff_not, Bool.not_eq_true', Bool.not_eq_false', Bool.not_eq_true, Bool.not_eq_false, not_true_eq_false, not_false_eq_true, reduceCtorEq] at hs10)
      apply Wp.skip
      apply Out.seqN
      apply Wp.seq
      apply Wp.block
      apply Wp.seq
      apply Wp.region
      refine WpL.v (V.ixR tb rfl rfl (by assumption)) ?_
      refine WpL.v (V.ldRA tb rfl (by assumption) (getMapS (by assumption))) ?_
      refine WpL.o (O.al tb (fun p7 => ?_))
      refine WpL.o (O.stA tb ?_)
      apply WpL.nil
      apply Out.seqN
      apply Wp.seq
      apply Wp.seq
      apply Wp.region
      refine WpL.v (V.mv) ?_
      refine WpL.v (V.eqP) ?_
      apply WpL.nil
      apply Out.seqN
      refine Wp.cF ?_
      apply Wp.skip
      apply Out.seqN
      apply Wp.seq
      refine Wp.dG [] ?_ (List.Sublist.cons_cons _ (List.Sublist.cons _ (List.Sublist.cons _ (List.Sublist.cons_cons _ (List.Sublist.cons _ (List.Sublist.cons _ List.Sublist.slnil)))))) (List.Sublist.cons_cons _ (List.Sublist.cons _ (List.Sublist.cons _ (List.Sublist.cons_cons _ (List.Sublist.cons _ (List.Sublist.cons _ List.Sublist.slnil))))))
      refine WpA.tF 0 rfl (V.mv) ?_
      refine WpA.tF 1 rfl (V.nc) ?_
      refine WpA.tF 2 rfl (V.fa tb) ?_
      refine WpA.tF 3 rfl (V.ld1 tb) ?_
      refine WpA.tF 4 rfl (V.ldA tb) ?_
      refine WpA.oS 5 rfl (Op1.callT rfl (hD) (by (repeat (first | exact Sel.nil | exact Rem.here | apply Sel.cons | apply Rem.there))) ?_)
      rintro v1 s2 ⟨rfl, rfl⟩
      refine incat ⟨?_, ?_, ?_⟩
      exact holdT
      exact holdT
      refine WpA.tF 6 rfl (V.mv) ?_
      refine WpA.tF 7 rfl (V.ex) ?_
      refine WpA.tF 8 rfl (V.ex) ?_
      refine WpA.tF 9 rfl (V.as) ?_
      refine WpA.tF 10 rfl (V.as) ?_
      refine WpA.ou ?_
      apply Out.seqN
      apply Wp.seq
      apply Wp.region
      refine WpL.v (V.mv) ?_
      refine WpL.v (V.not) ?_
      apply WpL.nil
      apply Out.seqN
      refine Wp.cF ?_
      apply Wp.skip
      apply Out.blockN
      apply Out.seqN
      apply Wp.region
      refine WpL.v (V.add) ?_
      refine WpL.v (V.mv) ?_
      apply WpL.nil
      rotate_left
      (try simp only [decide_eq_true_eq, decide_eq_false_iff_not, Bool.not_eq_true', Bool.not_eq_false', Bool.not_eq_true, Bool.not_eq_false, not_true_eq_false, not_false_eq_true, reduceCtorEq] at hs10)
      (exfalso; omega)
      all_goals exact Out.ag hK (i + 1, v) (by show i + 1 ≤ _; omega) (by show xs.length - (i + 1) < xs.length - i; omega) (hs := by rw [e1]; (repeat (first | exact Sel.nil | exact Rem.here | apply Sel.cons | apply Rem.there)))
    | false =>
      rw [hx2] at hD
      simp only [hx2, Bool.false_eq_true, if_false] at e1
      have hW := pace_wait n self x (tv tm x) hn hs hxr
      have hwb := waitV_ge n self x.Rep (tv tm x) hn
      generalize waitV n self x.Rep (tv tm x) = w at *
      have hS := Iwheel_set p v t2 L x (now + w) (o1.del x).sorted (by omega) (by omega)
      unfold IwhE at hS
      apply Wp.seq
      apply Wp.region
      refine WpL.v (V.cmp) ?_
      apply WpL.nil
      apply Out.seqN
      apply Wp.seq
      refine Wp.c (fun hs20 => ?_) (fun hs20 => ?_)
      (try simp only [decide_eq_true_eq, decide_eq_false_iff_not, Bool.not_eq_true', Bool.not_eq_false', Bool.not_eq_true, Bool.not_eq_false, not_true_eq_false, not_false_eq_true, reduceCtorEq] at hs20)
      apply Wp.skip
      apply Out.seqN
      apply Wp.seq
      apply Wp.block
      apply Wp.seq
      apply Wp.region
      refine WpL.v (V.ixR tb rfl rfl (by assumption)) ?_
      refine WpL.v (V.ldRA tb rfl (by assumption) (getMapS (by assumption))) ?_
      refine WpL.o (O.al tb (fun p7 => ?_))
      refine WpL.o (O.stA tb ?_)
      apply WpL.nil
      apply Out.seqN
      apply Wp.seq
      apply Wp.seq
      apply Wp.region
      refine WpL.v (V.mv) ?_
      refine WpL.v (V.eqP) ?_
      apply WpL.nil
      apply Out.seqN
      refine Wp.cF ?_
      apply Wp.skip
      apply Out.seqN
      apply Wp.seq
      refine Wp.dG [] ?_ (List.Sublist.cons_cons _ (List.Sublist.cons _ (List.Sublist.cons _ (List.Sublist.cons_cons _ (List.Sublist.cons _ (List.Sublist.cons _ List.Sublist.slnil)))))) (List.Sublist.cons_cons _ (List.Sublist.cons _ (List.Sublist.cons _ (List.Sublist.cons_cons _ (List.Sublist.cons _ (List.Sublist.cons _ List.Sublist.slnil))))))
      refine WpA.tF 0 rfl (V.mv) ?_
      refine WpA.tF 1 rfl (V.nc) ?_
      refine WpA.tF 2 rfl (V.fa tb) ?_
      refine WpA.tF 3 rfl (V.ld1 tb) ?_
      refine WpA.tF 4 rfl (V.ldA tb) ?_
      refine WpA.oS 5 rfl (Op1.callT rfl (hD) (by (repeat (first | exact Sel.nil | exact Rem.here | apply Sel.cons | apply Rem.there))) ?_)
      rintro v1 s2 ⟨rfl, rfl⟩
      refine incat ⟨?_, ?_, ?_⟩
      exact holdT
      exact holdT
      refine WpA.tF 6 rfl (V.mv) ?_
      refine WpA.tF 7 rfl (V.ex) ?_
      refine WpA.tF 8 rfl (V.ex) ?_
      refine WpA.tF 9 rfl (V.as) ?_
      refine WpA.tF 10 rfl (V.as) ?_
      refine WpA.ou ?_
      apply Out.seqN
      apply Wp.seq
      apply Wp.region
      refine WpL.v (V.mv) ?_
      refine WpL.v (V.not) ?_
      apply WpL.nil
      apply Out.seqN
      refine Wp.cT ?_
      refine Wp.dG [] ?_ (List.Sublist.cons _ (List.Sublist.cons _ (List.Sublist.cons_cons _ (List.Sublist.cons_cons _ (List.Sublist.cons _ (List.Sublist.cons _ List.Sublist.slnil)))))) (List.Sublist.cons _ (List.Sublist.cons _ (List.Sublist.cons_cons _ (List.Sublist.cons_cons _ (List.Sublist.cons _ (List.Sublist.cons _ List.Sublist.slnil))))))
      refine WpA.tF 0 rfl (V.mv) ?_
      refine WpA.tF 1 rfl (V.nc) ?_
      refine WpA.tF 2 rfl (V.fa tb) ?_
      refine WpA.tF 3 rfl (V.ld1 tb) ?_
      refine WpA.tF 4 rfl (V.ldA tb) ?_
      refine WpA.tF 5 rfl (V.mv) ?_
      refine WpA.tF 6 rfl (V.mv) ?_
      refine WpA.tF 7 rfl (V.nc) ?_
      refine WpA.tF 8 rfl (V.fa tb) ?_
      refine WpA.tF 9 rfl (V.ld1 tb) ?_
      refine WpA.tF 10 rfl (V.mv) ?_
      refine WpA.tF 11 rfl (V.nc) ?_
      refine WpA.tF 12 rfl (V.fa tb) ?_
      refine WpA.tF 13 rfl (V.ld1 tb) ?_
      refine WpA.tF 14 rfl (V.ldA tb) ?_
      refine WpA.tF 15 rfl (V.mv) ?_
      refine WpA.tF 16 rfl (V.nc) ?_
      refine WpA.tF 17 rfl (V.fa tb) ?_
      refine WpA.tF 18 rfl (V.ld1 tb) ?_
      refine WpA.tF 19 rfl (V.ldA tb) ?_
      refine WpA.oS 20 rfl (Op1.vv (Val.lookD (l := tm) (k := x) (vf := fun n : Int => I n) 0 kokI map159 zero3 rfl rfl (by (repeat first | exact List.Mem.head _ | apply List.Mem.tail))) ⟨?_, ?_, ?_⟩)
      exact holdT
      exact holdT
      refine WpA.oS 21 rfl (Op1.fn rfl (hW) ⟨?_, ?_, ?_⟩)
      exact holdT
      exact holdT
      refine WpA.tF 22 rfl (V.add) ?_
      refine WpA.oS 23 rfl (Op1.callT rfl (hS) (by (repeat (first | exact Sel.nil | exact Rem.here | apply Sel.cons | apply Rem.there))) ?_)
      rintro v3 s4 ⟨g52, ⟨cap52, ⟨rfl, rfl⟩⟩⟩
      refine incat ⟨?_, ?_, ?_⟩
      exact holdT
      exact holdT
      refine WpA.ou ?_
      apply Out.blockN
      apply Out.seqN
      apply Wp.region
      refine WpL.v (V.add) ?_
      refine WpL.v (V.mv) ?_
      apply WpL.nil
      rotate_left
      (try simp only [decide_eq_true_eq, decide_eq_false_iff_not, Bool.not_eq_true', Bool.not_eq_false', Bool.not_eq_true, Bool.not_eq_false, not_true_eq_false, not_false_eq_true, reduceCtorEq] at hs20)
      (exfalso; omega)
      all_goals exact Out.ag hK (i + 1, _) (by show i + 1 ≤ _; omega) (by show xs.length - (i + 1) < xs.length - i; omega) (hs := by rw [e1]; (repeat (first | exact Sel.nil | exact Rem.here | apply Sel.cons | apply Rem.there)))
  · obtain rfl : i = xs.length := by omega
    rw [List.take_length]
    clear hK
    apply Wp.seq
    apply Wp.region
    refine WpL.v (V.cmp) ?_
    apply WpL.nil
    apply Out.seqN
    apply Wp.seq
    refine Wp.c (fun hs30 => ?_) (fun hs30 => ?_)
    (try simp only [decide_eq_true_eq, decide_eq_false_iff_not, Bool.not_eq_true', Bool.not_eq_false', Bool.not_eq_true, Bool.not_eq_false, not_true_eq_false, not_false_eq_true, reduceCtorEq] at hs30)
    (exfalso; omega)
    (try simp only [decide_eq_true_eq, decide_eq_false_iff_not, Bool.not_eq_true', Bool.not_eq_false', Bool.not_eq_true, Bool.not_eq_false, not_true_eq_false, not_false_eq_true, reduceCtorEq] at hs30)
    apply Wp.exit
    apply Out.seqE
    apply Out.seqE
    apply Out.blockE
    refine Out.e0 rfl  ?_
    exact ⟨_, _, ⟨_, rfl, rfl⟩, (by (repeat (first | exact Sel.nil | exact Rem.here | apply Sel.cons | apply Rem.there)))⟩
theorem alive17 : Fun Try.prog 59 [] (B true) := by
  have hN := pace_new 3 1
  have hS (b p m g : Nat) := pace_see b 3 1 p m (.slice none 0 0) 0 [] [] 5 (rows TItem.c (.slice (some ⟨g, 0, none⟩) 1 1) 23 2 [⟨1, 5⟩]) (some ⟨g, 0, none⟩) 1 g 0 [⟨1, 5⟩] (Rd.rows (l := [⟨1, 5⟩]) TItem.len (by simp)) IW1.zero (by decide) (by decide) (by simp) (by decide) (by decide) (by decide)
  rw [show seeL 3 1 5 [] [⟨1, 5⟩] (0, []) = (1, [⟨⟨1, 5⟩, 9, 0⟩]) by rfl] at hS
  have hW := pace_wait 3 1 ⟨1, 5⟩ 0 (by decide) (by decide) (by decide)
  rw [show waitV 3 1 (TItem.mk 1 5).Rep 0 = 4 by rfl] at hW
  have hL (b p m : Nat) (v : Go.Value) := pace_len b 3 1 p m v 1 [⟨⟨1, 5⟩, 9, 0⟩] []
  unfold paE at hN hS hL
  dsimp only [List.cons_append, List.nil_append] at hS
  refine Ct.enter Try.func59 rfl rfl fun W => ?_
  apply Wp.seq
  apply Wp.region
  refine WpL.v (V.as) ?_
  apply WpL.nil
  apply Out.seqN
  apply Wp.seq
  apply Wp.region
  refine WpL.o (Op1.callT rfl (hN) (by (repeat (first | exact Sel.nil | exact Rem.here | apply Sel.cons | apply Rem.there))) ?_)
  rintro v0 s1 ⟨b2, ⟨p2, ⟨m2, ⟨rfl, rfl⟩⟩⟩⟩
  refine incat ?_
  refine WpL.v (V.as) ?_
  apply WpL.nil
  apply Out.seqN
  apply Wp.seq
  apply Wp.region
  refine WpL.v (V.mv) ?_
  refine WpL.v (V.bld tb (c' := TItem.c ⟨1, 5⟩)) ?_
  refine WpL.o (O.litL tb TItem.c [⟨1, 5⟩] rfl (PartsFrom.agg rfl PartsFrom.nil) rfl rfl (fun p5 => ?_))
  refine WpL.o (Op1.callT rfl (hS _ _ _ _) (by (repeat (first | exact Sel.nil | exact Rem.here | apply Sel.cons | apply Rem.there))) ?_)
  rintro v2 s3 ⟨v'6, ⟨rfl, rfl⟩⟩
  refine incat ?_
  apply WpL.nil
  apply Out.seqN
  apply Wp.seq
  apply Wp.region
  refine WpL.v (V.bld tb (c' := TItem.c ⟨1, 5⟩)) ?_
  refine WpL.o (Op1.fn rfl (hW) ?_)
  refine WpL.v (V.cmp) ?_
  refine WpL.v (V.mv) ?_
  refine WpL.v (V.mv) ?_
  refine WpL.o (Op1.callT rfl (hL _ _ _ _) (by (repeat (first | exact Sel.nil | exact Rem.here | apply Sel.cons | apply Rem.there))) ?_)
  rintro v4 s5 ⟨rfl, rfl⟩
  refine incat ?_
  refine WpL.v (V.cmp) ?_
  refine WpL.v (V.pT) ?_
  refine WpL.v (V.as) ?_
  apply WpL.nil
  apply Out.seqN
  apply Wp.ret
  refine Out.f1 rfl ResIs.t ⟨?_, rfl⟩
  exact rfl
end Go.Proofs.Ythoepbbpmdmfeaa
