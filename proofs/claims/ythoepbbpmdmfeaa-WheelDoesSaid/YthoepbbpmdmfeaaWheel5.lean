/-
  Layer 10: a wheel of numbers: what is due by and by; alive.
-/
import Derived.Test.YthoepbbpmdmfeaaWheel4
import Derived.Test.YthoepbbpmdmfeaaHeapL
namespace Go.Proofs.Ythoepbbpmdmfeaa
open Go.HL
set_option linter.unusedSimpArgs false
set_option linter.unusedVariables false
set_option maxRecDepth 8000
structure WB where
  v : Go.Value
  t : Int
  l : List WheelSpokeOfInt
def WB.E (p : Nat) (b : WB) : List Ent := whE p b.v b.t b.l
def wStep (now : Int) (_ : Nat) (i : Int) (b b' : WB) : Prop := ∃ s rest g cap, b.l = s :: rest ∧ s.due ≤ now ∧ i = s.key ∧ b.v = .slice (some ⟨g, 0, none⟩) (s :: rest).length cap ∧ b' = ⟨.slice (some ⟨g, 0, none⟩) rest.length cap, b.t, rest⟩
def wStop (now : Int) (_ : Nat) (b : WB) : Prop := ∀ s, b.l.head? = some s → now < s.due
def encI (i : Int) : List Go.Value := [I i]
theorem wheel_until (p : Nat) (v : Go.Value) (hv : v.oneCell' = true) (now : Int) : Ct Try.prog 51 [v, I now] [] (fun r σ' => ∃ a c, r = .func (.func 94) #[] #[Ptr a 0, Ptr c 0] ∧ σ' = [cells a 93 [v], cells c 3 [I now]]) := by
  refine Ct.enter Try.func51 rfl rfl fun W => ?_
  apply Wp.seq
  apply Wp.region
  refine WpL.o (O.bx1 (fun p2 => ?_))
  refine WpL.o (O.bx1 (fun p3 => ?_))
  refine WpL.v (V.as) ?_
  apply WpL.nil
  apply Out.seqN
  apply Wp.seq
  apply Wp.region
  refine WpL.v (V.mf) ?_
  refine WpL.v (V.as) ?_
  apply WpL.nil
  apply Out.seqN
  apply Wp.ret
  refine Out.e1 rfl ResIs.t ?_
  focus (exact ⟨_, _, ⟨_, _, rfl, rfl⟩, (by (repeat (first | exact Sel.nil | exact Rem.here | apply Sel.cons | apply Rem.there)))⟩; done)
structure US (γ : Type) where
  k : Nat
  c : γ
  ok : Bool
  i : Int
  b : WB
set_option maxHeartbeats 1000000 in
theorem wheel_iter (p a c : Nat) (now : Int) (b0 : WB) :
    IterB Try.prog 94 [Ptr a 0, Ptr c 0] (WB.E p) encI (wStep now) (wStop now) ([cells a 93 [Ptr p 0], cells c 3 [I now]] ++ WB.E p b0) [cells a 93 [Ptr p 0], cells c 3 [I now]] b0 := by
  intro N y γ pr G X S c0 hN hp0 hG0 hY
  have hpop : ∀ b : WB, wStop now 0 b → Ct Try.prog 54 [Ptr p 0, I now] (WB.E p b) (fun r σ' => r = .tuple #[I 0, B false] ∧ σ' = WB.E p b) := fun b h => wheel_pop_none p b.v b.t b.l now h
  have hpop2 : ∀ b b' i, wStep now 0 i b b' → Ct Try.prog 54 [Ptr p 0, I now] (WB.E p b) (fun r σ' => r = .tuple #[I i, B true] ∧ σ' = WB.E p b') := fun b b' i ⟨s, rest, g, cap, h1, h2, h3, h4, h5⟩ => by
    obtain ⟨v, t, l⟩ := b
    dsimp only at h1 h4 h5
    subst h1 h4 h5 h3
    exact wheel_pop_some p g cap t s rest now h2
  have hdec : ∀ (b : WB) {W : Go.World} {D : List Nat} {σ : List Ent} (w : Go.World), (∀ e, e ∈ WB.E p b → e ∈ σ) → H W D σ w → wStop now 0 b ∨ ∃ i b', wStep now 0 i b b' := fun b {W D σ} w hs hw => by
    obtain ⟨v, t, l⟩ := b
    cases l with
    | nil => exact .inl fun s h => by cases h
    | cons s rest =>
      by_cases h : s.due ≤ now
      · refine .inr ⟨s.key, ?_⟩
        rcases rowsForm (hs (rows WheelSpokeOfInt.c v 148 3 (s :: rest)) (by unfold WB.E whE; simp)) w hw with ⟨_, h0⟩ | ⟨g, cap, h1, _⟩
        · cases h0
        · exact ⟨_, s, rest, g, cap, rfl, h, rfl, h1, rfl⟩
      · exact .inl fun s' h' => by cases h'; omega
  subst hp0
  unfold WB.E whE at hpop hpop2 hdec hY ⊢
  refine Ct.enter Try.func94 rfl rfl fun W => ?_
  dsimp only [List.cons_append, List.nil_append]
  refine Wp.fact (hdec (pr c0) · (by intro e he; simp only [List.mem_cons, List.not_mem_nil, or_false] at he ⊢; rcases he with rfl | rfl <;> simp)) fun hd => ?_
  have hjoin : ∃ y0 : US γ, ((y0.ok = false ∧ G y0.k y0.c ∧ wStop now 0 (pr y0.c) ∧ y0.b = pr y0.c ∧ y0.i = 0) ∨ (y0.ok = true ∧ G y0.k y0.c ∧ wStep now 0 y0.i (pr y0.c) y0.b)) ∧ y0.c = c0 ∧ Ct Try.prog 54 [Ptr p 0, I now] [cells p 146 (WheelWheelOfInt.c ⟨(pr c0).v, (pr c0).t⟩), rows WheelSpokeOfInt.c (pr c0).v 148 3 (pr c0).l] (fun r σ' => r = .tuple #[I y0.i, B y0.ok] ∧ σ' = [cells p 146 (WheelWheelOfInt.c ⟨y0.b.v, y0.b.t⟩), rows WheelSpokeOfInt.c y0.b.v 148 3 y0.b.l]) := by
    rcases hd with hd | ⟨i, b', hd⟩
    · exact ⟨⟨0, c0, false, 0, pr c0⟩, .inl ⟨rfl, hG0, hd, rfl, rfl⟩, rfl, hpop _ hd⟩
    · exact ⟨⟨0, c0, true, i, b'⟩, .inr ⟨rfl, hG0, hd⟩, rfl, hpop2 _ _ _ hd⟩
  obtain ⟨y0, hJ0, hc0, hP0⟩ := hjoin
  apply Wp.seq
  apply Wp.region
  refine WpL.v (V.ld1 tb) ?_
  refine WpL.v (V.ld1 tb) ?_
  refine WpL.o (Op1.callT rfl (hP0) (by (repeat (first | exact Sel.nil | exact Rem.here | apply Sel.cons | apply Rem.there))) ?_)
  rintro v0 s1 ⟨rfl, rfl⟩
  refine incat ?_
  refine WpL.v (V.mv) ?_
  refine WpL.v (V.ex) ?_
  refine WpL.v (V.ex) ?_
  refine WpL.v (V.as) ?_
  refine WpL.v (V.as) ?_
  apply WpL.nil
  apply Out.seqN
  apply Wp.block
  refine Wp.lp [0, 1, 2] (fun y : US γ => (y.ok = false ∧ G y.k y.c ∧ wStop now 0 (pr y.c) ∧ y.b = pr y.c ∧ y.i = 0) ∨ (y.ok = true ∧ G y.k y.c ∧ wStep now 0 y.i (pr y.c) y.b)) (fun y => [(5, B y.ok), (4, I y.i)]) (fun y => [cells p 146 (WheelWheelOfInt.c ⟨y.b.v, y.b.t⟩), rows WheelSpokeOfInt.c y.b.v 148 3 y.b.l, S y.c]) (fun y => N + 1 - y.k) y0 hJ0 ?_ (hs := by rw [hc0]; (repeat (first | exact Sel.nil | exact Rem.here | apply Sel.cons | apply Rem.there)))
  rintro ⟨k, c1, ok, i, b⟩ hJ K hK
  dsimp only at hJ
  dsimp only [List.cons_append, List.nil_append]
  rcases hJ with ⟨rfl, hG, hst, rfl, rfl⟩ | ⟨rfl, hG, hst⟩
  · clear hK
    apply Wp.seq
    apply Wp.seq
    apply Wp.region
    refine WpL.v (V.mv) ?_
    apply WpL.nil
    apply Out.seqN
    refine Wp.cF ?_
    apply Wp.exit
    apply Out.seqE
    apply Out.seqE
    apply Out.blockE
    refine Out.e0 rfl  ?_
    focus (exact ⟨_, _, ⟨c1, k, .inl ⟨hG, hst⟩, rfl⟩, (by (repeat (first | exact Sel.nil | exact Rem.here | apply Sel.cons | apply Rem.there)))⟩; done)
  · have hYy := hY k i c1 b hG hst
    have hkN := hN k c1 hG
    apply Wp.seq
    apply Wp.seq
    apply Wp.region
    refine WpL.v (V.mv) ?_
    apply WpL.nil
    apply Out.seqN
    refine Wp.cT ?_
    apply Wp.skip
    apply Out.seqN
    apply Wp.seq
    apply Wp.block
    apply Wp.seq
    apply Wp.region
    refine WpL.v (V.mv) ?_
    refine WpL.v (V.mv) ?_
    refine WpL.o (Op1.callY rfl rfl (hYy) (by (repeat (first | exact Sel.nil | exact Rem.here | apply Sel.cons | apply Rem.there))) ?_)
    rintro v2 s3 ⟨c'21, ⟨t21, ⟨rfl, ⟨hx0, ⟨hx1, rfl⟩⟩⟩⟩⟩
    refine incat ?_
    refine WpL.v (V.not) ?_
    apply WpL.nil
    apply Out.seqN
    refine Wp.c (fun hi24 => ?_) (fun hi24 => ?_)
    (try simp only [decide_eq_true_eq, decide_eq_false_iff_not, Bool.not_eq_true', Bool.not_eq_false', Bool.not_eq_true, Bool.not_eq_false, not_true_eq_false, not_false_eq_true, reduceCtorEq] at hi24)
    apply Wp.ret
    apply Out.blockR
    apply Out.seqR
    apply Out.seqR
    apply Out.blockR
    refine Out.e0 rfl  ?_
    focus (exact ⟨_, _, ⟨_, k + 1, .inr (by apply_assumption; assumption), rfl⟩, (by (repeat (first | exact Sel.nil | exact Rem.here | apply Sel.cons | apply Rem.there)))⟩; done)
    (try simp only [decide_eq_true_eq, decide_eq_false_iff_not, Bool.not_eq_true', Bool.not_eq_false', Bool.not_eq_true, Bool.not_eq_false, not_true_eq_false, not_false_eq_true, reduceCtorEq] at hi24)
    apply Wp.skip
    apply Out.blockN
    apply Out.seqN
    apply Wp.region
    refine WpL.v (V.ld1 tb) ?_
    refine WpL.v (V.ld1 tb) ?_
    refine WpL.fact (hdec (pr c'21) · (by intro e he; simp only [List.mem_cons, List.not_mem_nil, or_false] at he ⊢; rcases he with rfl | rfl <;> simp)) fun hd2 => ?_
    have hjoin : ∃ y1 : US γ, ((y1.ok = false ∧ G y1.k y1.c ∧ wStop now 0 (pr y1.c) ∧ y1.b = pr y1.c ∧ y1.i = 0) ∨ (y1.ok = true ∧ G y1.k y1.c ∧ wStep now 0 y1.i (pr y1.c) y1.b)) ∧ y1.c = c'21 ∧ y1.k = k + 1 ∧ Ct Try.prog 54 [Ptr p 0, I now] [cells p 146 (WheelWheelOfInt.c ⟨(pr c'21).v, (pr c'21).t⟩), rows WheelSpokeOfInt.c (pr c'21).v 148 3 (pr c'21).l] (fun r σ' => r = .tuple #[I y1.i, B y1.ok] ∧ σ' = [cells p 146 (WheelWheelOfInt.c ⟨y1.b.v, y1.b.t⟩), rows WheelSpokeOfInt.c y1.b.v 148 3 y1.b.l]) := by
      have hG2 : G (k + 1) c'21 := by apply_assumption; assumption
      rcases hd2 with hd2 | ⟨i, b', hd2⟩
      · exact ⟨⟨k + 1, c'21, false, 0, pr c'21⟩, .inl ⟨rfl, hG2, hd2, rfl, rfl⟩, rfl, rfl, hpop _ hd2⟩
      · exact ⟨⟨k + 1, c'21, true, i, b'⟩, .inr ⟨rfl, hG2, hd2⟩, rfl, rfl, hpop2 _ _ _ hd2⟩
    obtain ⟨y1, hJ1, hc1, hk1, hP1⟩ := hjoin
    refine WpL.o (Op1.callT rfl (hP1) (by (repeat (first | exact Sel.nil | exact Rem.here | apply Sel.cons | apply Rem.there))) ?_)
    rintro v0 s1 ⟨rfl, rfl⟩
    refine incat ?_
    refine WpL.v (V.mv) ?_
    refine WpL.v (V.ex) ?_
    refine WpL.v (V.ex) ?_
    refine WpL.v (V.as) ?_
    refine WpL.v (V.as) ?_
    apply WpL.nil
    exact Out.ag hK y1 hJ1 (by show N + 1 - y1.k < N + 1 - k; omega) (hs := by rw [hc1]; (repeat (first | exact Sel.nil | exact Rem.here | apply Sel.cons | apply Rem.there)))
theorem wheel_iter0 (a c : Nat) (now : Int) :
    IterB Try.prog 94 [Ptr a 0, Ptr c 0] (fun _ : Unit => []) encI (fun _ _ _ _ => False) (fun _ _ => True) [cells a 93 [.pointer none], cells c 3 [I now]] [cells a 93 [.pointer none], cells c 3 [I now]] () := by
  intro N y γ pr G X S c0 hN hp0 hG0 hY
  refine Ct.enter Try.func94 rfl rfl fun W => ?_
  apply Wp.seq
  apply Wp.region
  refine WpL.v (V.ld1 tb) ?_
  refine WpL.v (V.ld1 tb) ?_
  refine WpL.o (Op1.callT rfl (wheel_pop0 _) (by (repeat (first | exact Sel.nil | exact Rem.here | apply Sel.cons | apply Rem.there))) ?_)
  rintro v0 s1 ⟨rfl, rfl⟩
  refine incat ?_
  refine WpL.v (V.mv) ?_
  refine WpL.v (V.ex) ?_
  refine WpL.v (V.ex) ?_
  refine WpL.v (V.as) ?_
  refine WpL.v (V.as) ?_
  apply WpL.nil
  apply Out.seqN
  apply Wp.block
  refine Wp.lp [0, 1, 2] (fun _ : Unit => True) (fun _ => [(5, B false), (4, I 0)]) (fun _ => []) (fun _ => 0) () trivial ?_
  rintro ⟨⟩ - K hK
  dsimp only [List.cons_append, List.nil_append]
  clear hK
  apply Wp.seq
  apply Wp.seq
  apply Wp.region
  refine WpL.v (V.mv) ?_
  apply WpL.nil
  apply Out.seqN
  refine Wp.cF ?_
  apply Wp.exit
  apply Out.seqE
  apply Out.seqE
  apply Out.blockE
  refine Out.e0 rfl  ?_
  focus (exact ⟨_, _, ⟨c0, 0, .inl ⟨hG0, trivial⟩, rfl⟩, (by (repeat (first | exact Sel.nil | exact Rem.here | apply Sel.cons | apply Rem.there)))⟩; done)
theorem alive10 : Fun Try.prog 47 [] (B true) := by
  have hS1 (p : Nat) := wheel_set p (.slice none 0 0) 0 [] 1 5 (by decide) (by decide) (by decide)
  have hS2 (p : Nat) (v : Go.Value) := wheel_set p v 1 [⟨1, 5, 0⟩] 2 3 (by decide) (by decide) (by decide)
  rw [show insS ⟨1, 5, 0⟩ (delK 1 []) = [⟨1, 5, 0⟩] from rfl] at hS1
  rw [show insS ⟨2, 3, 1⟩ (delK 2 [⟨1, 5, 0⟩]) = [⟨2, 3, 1⟩, ⟨1, 5, 0⟩] from rfl] at hS2
  have hP (p g cap : Nat) := wheel_pop_some p g cap 2 ⟨2, 3, 1⟩ [⟨1, 5, 0⟩] 4 (by decide)
  have hL (p : Nat) (v : Go.Value) := wheel_len p v 2 [⟨1, 5, 0⟩]
  unfold whE at hS1 hS2 hP hL
  have hN := wheel_new
  unfold whE at hN
  refine Ct.enter Try.func47 rfl rfl fun W => ?_
  apply Wp.seq
  apply Wp.region
  refine WpL.v (V.as) ?_
  apply WpL.nil
  apply Out.seqN
  apply Wp.seq
  apply Wp.region
  refine WpL.o (Op1.callT rfl (hN) (by (repeat (first | exact Sel.nil | exact Rem.here | apply Sel.cons | apply Rem.there))) ?_)
  rintro v0 s1 ⟨p4, ⟨rfl, rfl⟩⟩
  refine incat ?_
  refine WpL.v (V.as) ?_
  apply WpL.nil
  apply Out.seqN
  apply Wp.seq
  apply Wp.region
  refine WpL.v (V.mv) ?_
  refine WpL.o (Op1.callT rfl (hS1 _) (by (repeat (first | exact Sel.nil | exact Rem.here | apply Sel.cons | apply Rem.there))) ?_)
  rintro v2 s3 ⟨g6, ⟨cap6, ⟨rfl, rfl⟩⟩⟩
  refine incat ?_
  apply WpL.nil
  apply Out.seqN
  apply Wp.seq
  apply Wp.region
  refine WpL.v (V.mv) ?_
  refine WpL.o (Op1.callT rfl (hS2 _ _) (by (repeat (first | exact Sel.nil | exact Rem.here | apply Sel.cons | apply Rem.there))) ?_)
  rintro v4 s5 ⟨g8, ⟨cap8, ⟨rfl, rfl⟩⟩⟩
  refine incat ?_
  apply WpL.nil
  apply Out.seqN
  apply Wp.seq
  apply Wp.region
  refine WpL.v (V.mv) ?_
  refine WpL.o (Op1.callT rfl (hP _ _ _) (by (repeat (first | exact Sel.nil | exact Rem.here | apply Sel.cons | apply Rem.there))) ?_)
  rintro v6 s7 ⟨rfl, rfl⟩
  refine incat ?_
  refine WpL.v (V.mv) ?_
  refine WpL.v (V.ex) ?_
  refine WpL.v (V.ex) ?_
  refine WpL.v (V.as) ?_
  refine WpL.v (V.as) ?_
  apply WpL.nil
  apply Out.seqN
  apply Wp.seq
  apply Wp.region
  refine WpL.v (V.mv) ?_
  refine WpL.v (V.cmp) ?_
  refine WpL.v (V.mv) ?_
  refine WpL.v (V.mv) ?_
  refine WpL.v (V.pT) ?_
  refine WpL.v (V.mv) ?_
  refine WpL.v (V.mv) ?_
  refine WpL.o (Op1.callT rfl (hL _ _) (by (repeat (first | exact Sel.nil | exact Rem.here | apply Sel.cons | apply Rem.there))) ?_)
  rintro v8 s9 ⟨rfl, rfl⟩
  refine incat ?_
  refine WpL.v (V.cmp) ?_
  refine WpL.v (V.pT) ?_
  refine WpL.v (V.as) ?_
  apply WpL.nil
  apply Out.seqN
  apply Wp.ret
  refine Out.f1 rfl ResIs.t ⟨?_, rfl⟩
  exact rfl
end Go.Proofs.Ythoepbbpmdmfeaa
