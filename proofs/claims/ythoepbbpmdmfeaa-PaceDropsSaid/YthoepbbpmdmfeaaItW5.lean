/-
  Layer 17: a wheel of items: what is due by and by; alive.
-/
import Derived.Test.YthoepbbpmdmfeaaItW4
import Derived.Test.YthoepbbpmdmfeaaHeapL
namespace Go.Proofs.Ythoepbbpmdmfeaa
open Go.HL
set_option linter.unusedSimpArgs false
set_option linter.unusedVariables false
set_option maxRecDepth 8000
structure IWB where
  v : Go.Value
  t : Int
  l : List WheelSpokeOfItem
def IWB.E (p : Nat) (b : IWB) : List Ent := IwhE p b.v b.t b.l
def IwStep (now : Int) (_ : Nat) (i : TItem) (b b' : IWB) : Prop := ∃ s rest g cap, b.l = s :: rest ∧ s.due ≤ now ∧ i = s.key ∧ b.v = .slice (some ⟨g, 0, none⟩) (s :: rest).length cap ∧ b' = ⟨.slice (some ⟨g, 0, none⟩) rest.length cap, b.t, rest⟩
def IwStop (now : Int) (_ : Nat) (b : IWB) : Prop := ∀ s, b.l.head? = some s → now < s.due
def IencI (i : TItem) : List Go.Value := [A i.c]
theorem Iwheel_until (p : Nat) (v : Go.Value) (hv : v.oneCell' = true) (now : Int) : Ct Try.prog 103 [v, I now] [] (fun r σ' => ∃ a c, r = .func (.func 121) #[] #[Ptr a 0, Ptr c 0] ∧ σ' = [cells a 157 [v], cells c 3 [I now]]) := by
  refine Ct.enter Try.func103 rfl rfl fun W => ?_
  apply Wp.seq
  apply Wp.region
  refine WpL.o (O.bx1 (fun p2 => ?_))
  refine WpL.o (O.bx1 (fun p3 => ?_))
  refine WpL.v (V.as) ?_
  apply WpL.nil
  apply Out.seqN
  apply Wp.seq
  apply Wp.region
  refine WpL.v (V.mf) ?_
  refine WpL.v (V.as) ?_
  apply WpL.nil
  apply Out.seqN
  apply Wp.ret
  refine Out.e1 rfl ResIs.t ?_
  focus (exact ⟨_, _, ⟨_, _, rfl, rfl⟩, (by (repeat (first | exact Sel.nil | exact Rem.here | apply Sel.cons | apply Rem.there)))⟩; done)
structure IUS (γ : Type) where
  k : Nat
  c : γ
  ok : Bool
  i : TItem
  b : IWB
set_option maxHeartbeats 1000000 in
theorem Iwheel_iter (p a c : Nat) (now : Int) (b0 : IWB) :
    IterB Try.prog 121 [Ptr a 0, Ptr c 0] (IWB.E p) IencI (IwStep now) (IwStop now) ([cells a 157 [Ptr p 0], cells c 3 [I now]] ++ IWB.E p b0) [cells a 157 [Ptr p 0], cells c 3 [I now]] b0 := by
  intro N y γ pr G X S c0 hN hp0 hG0 hY
  have hpop : ∀ b : IWB, IwStop now 0 b → Ct Try.prog 122 [Ptr p 0, I now] (IWB.E p b) (fun r σ' => r = .tuple #[A TItem.z.c, B false] ∧ σ' = IWB.E p b) := fun b h => Iwheel_pop_none p b.v b.t b.l now h
  have hpop2 : ∀ b b' i, IwStep now 0 i b b' → Ct Try.prog 122 [Ptr p 0, I now] (IWB.E p b) (fun r σ' => r = .tuple #[A i.c, B true] ∧ σ' = IWB.E p b') := fun b b' i ⟨s, rest, g, cap, h1, h2, h3, h4, h5⟩ => by
    obtain ⟨v, t, l⟩ := b
    dsimp only at h1 h4 h5
    subst h1 h4 h5 h3
    exact Iwheel_pop_some p g cap t s rest now h2
  have hdec : ∀ (b : IWB) {W : Go.World} {D : List Nat} {σ : List Ent} (w : Go.World), (∀ e, e ∈ IWB.E p b → e ∈ σ) → H W D σ w → IwStop now 0 b ∨ ∃ i b', IwStep now 0 i b b' := fun b {W D σ} w hs hw => by
    obtain ⟨v, t, l⟩ := b
    cases l with
    | nil => exact .inl fun s h => by cases h
    | cons s rest =>
      by_cases h : s.due ≤ now
      · refine .inr ⟨s.key, ?_⟩
        rcases rowsForm (hs (rows WheelSpokeOfItem.c v 183 4 (s :: rest)) (by unfold IWB.E IwhE; simp)) w hw with ⟨_, h0⟩ | ⟨g, cap, h1, _⟩
        · cases h0
        · exact ⟨_, s, rest, g, cap, rfl, h, rfl, h1, rfl⟩
      · exact .inl fun s' h' => by cases h'; omega
  subst hp0
  unfold IWB.E IwhE at hpop hpop2 hdec hY ⊢
  refine Ct.enter Try.func121 rfl rfl fun W => ?_
  dsimp only [List.cons_append, List.nil_append]
  refine Wp.fact (hdec (pr c0) · (by intro e he; simp only [List.mem_cons, List.not_mem_nil, or_false] at he ⊢; rcases he with rfl | rfl <;> simp)) fun hd => ?_
  have hjoin : ∃ y0 : IUS γ, ((y0.ok = false ∧ G y0.k y0.c ∧ IwStop now 0 (pr y0.c) ∧ y0.b = pr y0.c ∧ y0.i = TItem.z) ∨ (y0.ok = true ∧ G y0.k y0.c ∧ IwStep now 0 y0.i (pr y0.c) y0.b)) ∧ y0.c = c0 ∧ Ct Try.prog 122 [Ptr p 0, I now] [cells p 181 (WheelWheelOfItem.c ⟨(pr c0).v, (pr c0).t⟩), rows WheelSpokeOfItem.c (pr c0).v 183 4 (pr c0).l] (fun r σ' => r = .tuple #[A y0.i.c, B y0.ok] ∧ σ' = [cells p 181 (WheelWheelOfItem.c ⟨y0.b.v, y0.b.t⟩), rows WheelSpokeOfItem.c y0.b.v 183 4 y0.b.l]) := by
    rcases hd with hd | ⟨i, b', hd⟩
    · exact ⟨⟨0, c0, false, TItem.z, pr c0⟩, .inl ⟨rfl, hG0, hd, rfl, rfl⟩, rfl, hpop _ hd⟩
    · exact ⟨⟨0, c0, true, i, b'⟩, .inr ⟨rfl, hG0, hd⟩, rfl, hpop2 _ _ _ hd⟩
  obtain ⟨y0, hJ0, hc0, hP0⟩ := hjoin
  apply Wp.seq
  apply Wp.region
  refine WpL.v (V.ld1 tb) ?_
  refine WpL.v (V.ld1 tb) ?_
  refine WpL.o (Op1.callT rfl (hP0) (by (repeat (first | exact Sel.nil | exact Rem.here | apply Sel.cons | apply Rem.there))) ?_)
  rintro v0 s1 ⟨rfl, rfl⟩
  refine incat ?_
  refine WpL.v (V.mv) ?_
  refine WpL.v (V.ex) ?_
  refine WpL.v (V.ex) ?_
  refine WpL.o (O.al tb (fun p4 => ?_))
  refine WpL.o (O.stA tb ?_)
  refine WpL.v (V.as) ?_
  apply WpL.nil
  apply Out.seqN
  apply Wp.block
  refine Wp.lp [0, 1, 2] (fun u : Nat × IUS γ => (u.2.ok = false ∧ G u.2.k u.2.c ∧ IwStop now 0 (pr u.2.c) ∧ u.2.b = pr u.2.c ∧ u.2.i = TItem.z) ∨ (u.2.ok = true ∧ G u.2.k u.2.c ∧ IwStep now 0 u.2.i (pr u.2.c) u.2.b)) (fun u => [(5, B u.2.ok), (4, Ptr u.1 0)]) (fun u => [cells p 181 (WheelWheelOfItem.c ⟨u.2.b.v, u.2.b.t⟩), rows WheelSpokeOfItem.c u.2.b.v 183 4 u.2.b.l, S u.2.c, cells u.1 23 u.2.i.c]) (fun u => N + 1 - u.2.k) (p4, y0) hJ0 ?_ (hs := by rw [hc0]; (repeat (first | exact Sel.nil | exact Rem.here | apply Sel.cons | apply Rem.there)))
  rintro ⟨q, k, c1, ok, i, b⟩ hJ K hK
  dsimp only at hJ
  dsimp only [List.cons_append, List.nil_append]
  rcases hJ with ⟨rfl, hG, hst, rfl, rfl⟩ | ⟨rfl, hG, hst⟩
  · clear hK
    apply Wp.seq
    apply Wp.seq
    apply Wp.region
    refine WpL.v (V.mv) ?_
    apply WpL.nil
    apply Out.seqN
    refine Wp.cF ?_
    apply Wp.exit
    apply Out.seqE
    apply Out.seqE
    apply Out.blockE
    refine Out.e0 rfl  ?_
    focus (exact ⟨_, _, ⟨c1, k, .inl ⟨hG, hst⟩, rfl⟩, (by (repeat (first | exact Sel.nil | exact Rem.here | apply Sel.cons | apply Rem.there)))⟩; done)
  · have hYy := hY k i c1 b hG hst
    have hkN := hN k c1 hG
    apply Wp.seq
    apply Wp.seq
    apply Wp.region
    refine WpL.v (V.mv) ?_
    apply WpL.nil
    apply Out.seqN
    refine Wp.cT ?_
    apply Wp.skip
    apply Out.seqN
    apply Wp.seq
    apply Wp.block
    apply Wp.seq
    apply Wp.region
    refine WpL.v (V.mv) ?_
    refine WpL.v (V.ldA tb) ?_
    refine WpL.o (Op1.callY rfl rfl (hYy) (by (repeat (first | exact Sel.nil | exact Rem.here | apply Sel.cons | apply Rem.there))) ?_)
    rintro v2 s3 ⟨c'21, ⟨t21, ⟨rfl, ⟨hx0, ⟨hx1, rfl⟩⟩⟩⟩⟩
    refine incat ?_
    refine WpL.v (V.not) ?_
    apply WpL.nil
    apply Out.seqN
    refine Wp.c (fun hi24 => ?_) (fun hi24 => ?_)
    (try simp only [decide_eq_true_eq, decide_eq_false_iff_not, Bool.not_eq_true', Bool.not_eq_false', Bool.not_eq_true, Bool.not_eq_false, not_true_eq_false, not_false_eq_true, reduceCtorEq] at hi24)
    apply Wp.ret
    apply Out.blockR
    apply Out.seqR
    apply Out.seqR
    apply Out.blockR
    refine Out.e0 rfl  ?_
    focus (exact ⟨_, _, ⟨_, k + 1, .inr (by apply_assumption; assumption), rfl⟩, (by (repeat (first | exact Sel.nil | exact Rem.here | apply Sel.cons | apply Rem.there)))⟩; done)
    (try simp only [decide_eq_true_eq, decide_eq_false_iff_not, Bool.not_eq_true', Bool.not_eq_false', Bool.not_eq_true, Bool.not_eq_false, not_true_eq_false, not_false_eq_true, reduceCtorEq] at hi24)
    apply Wp.skip
    apply Out.blockN
    apply Out.seqN
    apply Wp.seq
    apply Wp.seq
    apply Wp.region
    refine WpL.v (V.ldA tb) ?_
    apply WpL.nil
    apply Out.seqN
    apply Wp.region
    refine WpL.o (O.al tb (fun p4 => ?_))
    refine WpL.o (O.stA tb ?_)
    apply WpL.nil
    apply Out.seqN
    apply Wp.region
    refine WpL.v (V.ld1 tb) ?_
    refine WpL.v (V.ld1 tb) ?_
    refine WpL.fact (hdec (pr c'21) · (by intro e he; simp only [List.mem_cons, List.not_mem_nil, or_false] at he ⊢; rcases he with rfl | rfl <;> simp)) fun hd2 => ?_
    have hjoin : ∃ y1 : IUS γ, ((y1.ok = false ∧ G y1.k y1.c ∧ IwStop now 0 (pr y1.c) ∧ y1.b = pr y1.c ∧ y1.i = TItem.z) ∨ (y1.ok = true ∧ G y1.k y1.c ∧ IwStep now 0 y1.i (pr y1.c) y1.b)) ∧ y1.c = c'21 ∧ y1.k = k + 1 ∧ Ct Try.prog 122 [Ptr p 0, I now] [cells p 181 (WheelWheelOfItem.c ⟨(pr c'21).v, (pr c'21).t⟩), rows WheelSpokeOfItem.c (pr c'21).v 183 4 (pr c'21).l] (fun r σ' => r = .tuple #[A y1.i.c, B y1.ok] ∧ σ' = [cells p 181 (WheelWheelOfItem.c ⟨y1.b.v, y1.b.t⟩), rows WheelSpokeOfItem.c y1.b.v 183 4 y1.b.l]) := by
      have hG2 : G (k + 1) c'21 := by apply_assumption; assumption
      rcases hd2 with hd2 | ⟨i, b', hd2⟩
      · exact ⟨⟨k + 1, c'21, false, TItem.z, pr c'21⟩, .inl ⟨rfl, hG2, hd2, rfl, rfl⟩, rfl, rfl, hpop _ hd2⟩
      · exact ⟨⟨k + 1, c'21, true, i, b'⟩, .inr ⟨rfl, hG2, hd2⟩, rfl, rfl, hpop2 _ _ _ hd2⟩
    obtain ⟨y1, hJ1, hc1, hk1, hP1⟩ := hjoin
    refine WpL.o (Op1.callT rfl (hP1) (by (repeat (first | exact Sel.nil | exact Rem.here | apply Sel.cons | apply Rem.there))) ?_)
    rintro v0 s1 ⟨rfl, rfl⟩
    refine incat ?_
    refine WpL.v (V.mv) ?_
    refine WpL.v (V.ex) ?_
    refine WpL.v (V.ex) ?_
    refine WpL.o (O.stA tb ?_)
    refine WpL.v (V.as) ?_
    apply WpL.nil
    exact Out.ag hK (_, y1) hJ1 (by show N + 1 - y1.k < N + 1 - k; omega) (hs := by rw [hc1]; (repeat (first | exact Sel.nil | exact Rem.here | apply Sel.cons | apply Rem.there)))
end Go.Proofs.Ythoepbbpmdmfeaa
