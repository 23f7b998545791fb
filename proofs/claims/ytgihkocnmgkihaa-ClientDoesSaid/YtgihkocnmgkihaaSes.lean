/-
  Layer 21: the sessions' numbers, sorted.
-/
import Derived.Test.YtgihkocnmgkihaaAny
import Derived.Test.YtgihkocnmgkihaaHeapR
namespace Go.Proofs.Ytgihkocnmgkihaa
open Go.HL
set_option linter.unusedSimpArgs false
set_option linter.unusedVariables false
set_option maxRecDepth 8000
/-- What is known of a session: its last number, and the reply to that; kv: the slice that holds the reply's keys. -/
structure LV where
  num : Int
  err : Int
  val : List UInt8
  ver : Int
  keys : List (List UInt8)
  kv : Go.Value
def LV.z : LV := ⟨0, 0, [], 0, [], .slice none 0 0⟩
instance : Inhabited LV := ⟨LV.z⟩
def LV.rep (x : LV) : RegistryReply := ⟨x.err, x.val, x.ver, x.kv⟩
def LV.c (x : LV) : List Go.Value := ClientLast.c ⟨x.num, x.rep⟩
abbrev SM := List (Int × LV)
abbrev kI : Int → Go.Value := fun k => I k
abbrev vL : LV → Go.Value := fun p => A p.c
abbrev mS (m : Nat) (l : SM) : Ent := mapK kI vL m l
def encI (k : Int) : List Go.Value := [I k]
theorem sort_nums (E g cap : Nat) (ks : List Int) (hl : ks.length < 4611686018427387904) :
    Ct Try.prog 67 [.slice (some ⟨g, 0, none⟩) ks.length cap] [rows i64c (.slice (some ⟨g, 0, none⟩) ks.length cap) E 1 ks] (fun r σ' => r = .tuple #[] ∧ σ' = [rows i64c (.slice (some ⟨g, 0, none⟩) ks.length cap) E 1 (ks.mergeSort fun x y => decide (x ≤ y))]) :=
  ct_sortI Try.slays189 E g cap ks hl
theorem sort_nums0 (σ : List Ent) : Ct Try.prog 67 [.slice none 0 0] σ (fun r σ' => r = .tuple #[] ∧ σ' = σ) := ct_sortI0 Try.slays189 σ
theorem map94 : mapTB Try.prog 94 3 98 = true := rfl
theorem map_keysI (m : Nat) : Ct Try.prog 60 [.map (some m)] [] (fun r σ' => ∃ a, r = .func (.func 68) #[] #[Ptr a 0] ∧ σ' = [cells a 94 [.map (some m)]]) := by
  refine Ct.enter Try.func60 rfl rfl fun W => ?_
  apply Wp.seq
  apply Wp.region
  refine WpL.o (O.bx1 (fun p1 => ?_))
  refine WpL.v (V.as) ?_
  apply WpL.nil
  apply Out.seqN
  apply Wp.seq
  apply Wp.region
  refine WpL.v (V.mf) ?_
  refine WpL.v (V.as) ?_
  apply WpL.nil
  apply Out.seqN
  apply Wp.ret
  refine Out.e1 rfl ResIs.t ?_
  exact ⟨_, _, ⟨_, rfl, rfl⟩, (by (repeat (first | exact Sel.nil | exact Rem.here | apply Sel.cons | apply Rem.there)))⟩
structure KSI (γ : Type) where
  pre : List Int
  c : γ
  todo : SM
  last : Option (Int × LV)
theorem keys_iterI (a m : Nat) (l : SM) : IterM Try.prog 68 [Ptr a 0] encI (l.map (·.1)) [cells a 94 [.map (some m)], mS m l] [cells a 94 [.map (some m)], mS m l] := by
  intro y γ G X S' c0 hG0 hY
  refine Ct.post (R := fun _ σ' => ∃ c' pre q todo last, ((G pre c' ∧ pre.Perm (l.map (·.1))) ∨ X pre c') ∧ σ' = [mapR kI vL m q l todo last, S' c', cells a 94 [.map (some m)]]) ?_ ?_
  · refine Ct.enter Try.func68 rfl rfl fun W => ?_
    apply Wp.seq
    apply Wp.region
    refine WpL.v (V.ld1 tb) ?_
    refine WpL.o (Op1.rngM map94 rfl (by (intro _; repeat first | exact Upd.here _ _ _ | apply Upd.there)) (fun q5 => ?_))
    apply WpL.nil
    apply Out.seqN
    apply Wp.block
    refine Wp.lp [0, 5] (fun y : KSI γ => G y.pre y.c ∧ (y.pre ++ y.todo.map (·.1)).Perm (l.map (·.1))) (fun _ => []) (fun y => [mapR kI vL m q5 l y.todo y.last, S' y.c]) (fun y => y.todo.length) ⟨[], c0, l, none⟩ ⟨hG0, List.Perm.refl _⟩ ?_
    rintro ⟨pre, c, todo, last⟩ ⟨hG, hp⟩ K hK
    dsimp only at hG hp
    dsimp only [List.cons_append, List.nil_append]
    by_cases h0 : todo = []
    · subst h0
      clear hK
      apply Wp.seq
      apply Wp.region
      refine WpL.o (Op1.nxtM0 rfl (by (repeat first | exact List.Mem.head _ | apply List.Mem.tail)) ?_)
      refine WpL.v (V.ex) ?_
      apply WpL.nil
      apply Out.seqN
      apply Wp.seq
      refine Wp.cF ?_
      apply Wp.exit
      apply Out.seqE
      apply Out.seqE
      apply Out.blockE
      refine Out.e0 rfl  ?_
      focus (exact ⟨_, _, ⟨c, pre, q5, [], last, .inl ⟨hG, by simpa using hp⟩, rfl⟩, (by (repeat (first | exact Sel.nil | exact Rem.here | apply Sel.cons | apply Rem.there)))⟩; done)
    · apply Wp.seq
      apply Wp.region
      refine WpL.o (Op1.nxtM1 h0 rfl (by (intro _ _; repeat first | exact Upd.here _ _ _ | apply Upd.there)) (fun j6 p6 hj6 => ?_))
      refine WpL.v (V.ex) ?_
      apply WpL.nil
      apply Out.seqN
      apply Wp.seq
      refine Wp.cT ?_
      apply Wp.skip
      apply Out.seqN
      apply Wp.block
      obtain ⟨ke, ve⟩ := p6
      have hjl := (List.getElem?_eq_some_iff.1 hj6).1
      have hpe : ((ke, ve) :: todo.eraseIdx j6).Perm todo := erase_perm hj6
      have hp2 : (pre ++ ke :: (todo.eraseIdx j6).map (·.1)).Perm (l.map (·.1)) := by
        refine List.Perm.trans ?_ hp
        exact (hpe.map (·.1)).append_left pre
      have hYy := hY pre ke _ c hp2 hG
      apply Wp.seq
      apply Wp.region
      refine WpL.v (Val.entM (p := (ke, ve)) rfl (by (repeat first | exact List.Mem.head _ | apply List.Mem.tail))) ?_
      refine WpL.v (V.ex) ?_
      refine WpL.v (V.as) ?_
      apply WpL.nil
      apply Out.seqN
      apply Wp.seq
      apply Wp.region
      refine WpL.v (V.mv) ?_
      refine WpL.v (V.mv) ?_
      refine WpL.o (Op1.callY rfl rfl (hYy) (by (repeat (first | exact Sel.nil | exact Rem.here | apply Sel.cons | apply Rem.there))) ?_)
      rintro v2 s3 ⟨c'12, ⟨t12, ⟨rfl, ⟨hx0, ⟨hx1, rfl⟩⟩⟩⟩⟩
      refine incat ?_
      refine WpL.v (V.not) ?_
      apply WpL.nil
      apply Out.seqN
      refine Wp.c (fun hk34 => ?_) (fun hk34 => ?_)
      (try simp only [decide_eq_true_eq, decide_eq_false_iff_not, Bool.not_eq_true', Bool.not_eq_false', Bool.not_eq_true, Bool.not_eq_false, not_true_eq_false, not_false_eq_true, reduceCtorEq] at hk34)
      apply Wp.ret
      apply Out.blockR
      apply Out.seqR
      apply Out.blockR
      refine Out.e0 rfl  ?_
      focus (exact ⟨_, _, ⟨_, pre ++ [ke], q5, todo.eraseIdx j6, _, .inr (by apply_assumption; assumption), rfl⟩, (by (repeat (first | exact Sel.nil | exact Rem.here | apply Sel.cons | apply Rem.there)))⟩; done)
      (try simp only [decide_eq_true_eq, decide_eq_false_iff_not, Bool.not_eq_true', Bool.not_eq_false', Bool.not_eq_true, Bool.not_eq_false, not_true_eq_false, not_false_eq_true, reduceCtorEq] at hk34)
      apply Wp.skip
      apply Out.blockN
      exact Out.ag hK ⟨pre ++ [ke], _, todo.eraseIdx j6, some (ke, ve)⟩ ⟨by apply_assumption; assumption, by rw [List.append_assoc]; exact hp2⟩ (by show (todo.eraseIdx j6).length < todo.length; rw [List.length_eraseIdx, if_pos hjl]; omega)
  · rintro v σ' ⟨c', pre, q, todo, last, h, rfl⟩
    refine ⟨[S' c', cells a 94 [.map (some m)], mS m l], ⟨c', pre, h, rfl⟩, fun W D w hH => ?_⟩
    exact hH.endT.perm (List.perm_append_comm (l₁ := [_]) (l₂ := [_, _]))
theorem append_seqI (a m : Nat) (l : SM) (hl : l.length ≤ 100000) : Ct Try.prog 72 [.slice none 0 0, .func (.func 68) #[] #[Ptr a 0]] [cells a 94 [.map (some m)], mS m l] (fun r σ' => ∃ v ks, ks.Perm (l.map (·.1)) ∧ r = v ∧ σ' = [cells a 94 [.map (some m)], mS m l, rows i64c v 3 1 ks]) := by
  refine Ct.enter Try.func72 rfl rfl fun W => ?_
  refine Wp.nilRows i64c 3 1 ?_
  apply Wp.seq
  apply Wp.region
  refine WpL.o (O.bx1 (fun p2 => ?_))
  refine WpL.v (V.as) ?_
  apply WpL.nil
  apply Out.seqN
  apply Wp.seq
  apply Wp.seq
  apply Wp.region
  refine WpL.v (V.mv) ?_
  apply WpL.nil
  apply Out.seqN
  apply Wp.block
  refine Wp.rgM (keys_iterI a m l) (fun y : Go.Value × List Int => [cells p2 42 [y.1], rows i64c y.1 3 1 y.2]) (fun pre y => y.2 = pre) (fun _ _ _ => False) (.slice none 0 0, []) rfl ?_ ?_ ?_
  · rintro pre i post ⟨v, ks⟩ lp rec hp hks hr W' D' K hK
    dsimp only at hks
    subst hks
    have hlen := hp.length_eq
    simp only [List.length_append, List.length_cons, List.length_map] at hlen
    dsimp only [List.cons_append, List.nil_append]
    apply Wp.region
    refine WpL.v (V.as) ?_
    apply WpL.nil
    refine Out.bg (by assumption) ?_
    apply Wp.block
    apply Wp.region
    refine WpL.v (V.ld1 tb) ?_
    refine WpL.v (V.mv) ?_
    refine WpL.o (O.lit tb (fun p10 => ?_))
    refine WpL.o (O.apL tb rfl rfl (by (intro _; repeat first | exact Upd.here _ _ _ | apply Upd.there)) (SrcL.one (f := i64c) (a := i) tb (by (repeat first | exact List.Mem.head _ | apply List.Mem.tail)) (fun _ => rfl)) (fun g11 cap11 => ?_))
    refine WpL.o (O.st1 tb ?_)
    apply WpL.nil
    apply Out.blockN
    exact Out.rd hK (.slice (some ⟨g11, 0, none⟩) (ks ++ [i]).length cap11, ks ++ [i]) rfl
  · rintro pre ⟨v, ks⟩ b hks hp
    dsimp only at hks
    subst hks
    dsimp only [List.cons_append, List.nil_append]
    apply Out.blockN
    apply Out.seqN
    apply Wp.seq
    apply Wp.region
    refine WpL.v (V.ld1 tb) ?_
    refine WpL.v (V.as) ?_
    apply WpL.nil
    apply Out.seqN
    apply Wp.ret
    refine Out.e1 rfl ResIs.t ?_
    focus (exact ⟨_, _, ⟨_, ks, hp, rfl, rfl⟩, (by (repeat (first | exact Sel.nil | exact Rem.here | apply Sel.cons | apply Rem.there)))⟩; done)
  · intro _ _ _ _ _ _ h
    exact h.elim
theorem collectI (a m : Nat) (l : SM) (hl : l.length ≤ 100000) : Ct Try.prog 66 [.func (.func 68) #[] #[Ptr a 0]] [cells a 94 [.map (some m)], mS m l] (fun r σ' => ∃ v ks, ks.Perm (l.map (·.1)) ∧ r = v ∧ σ' = [cells a 94 [.map (some m)], mS m l, rows i64c v 3 1 ks]) := by
  have hA := append_seqI a m l hl
  refine Ct.enter Try.func66 rfl rfl fun W => ?_
  apply Wp.seq
  apply Wp.region
  refine WpL.v (V.as) ?_
  apply WpL.nil
  apply Out.seqN
  apply Wp.seq
  apply Wp.region
  refine WpL.v (V.mv) ?_
  refine WpL.o (Op1.callT rfl (hA) (by (repeat (first | exact Sel.nil | exact Rem.here | apply Sel.cons | apply Rem.there))) ?_)
  rintro v1 s2 ⟨v4, ⟨ks4, ⟨hx0, ⟨rfl, rfl⟩⟩⟩⟩
  refine incat ?_
  refine WpL.v (V.as) ?_
  apply WpL.nil
  apply Out.seqN
  apply Wp.ret
  refine Out.e1 rfl ResIs.t ?_
  focus (exact ⟨_, _, ⟨_, _, by assumption, rfl, rfl⟩, (by (repeat (first | exact Sel.nil | exact Rem.here | apply Sel.cons | apply Rem.there)))⟩; done)
theorem sort_permI {l1 l2 : List Int} (h : l1.Perm l2) : (l1.mergeSort fun x y => decide (x ≤ y)) = (l2.mergeSort fun x y => decide (x ≤ y)) := by
  have tr : ∀ a b c : Int, decide (a ≤ b) = true → decide (b ≤ c) = true → decide (a ≤ c) = true := by
    intro a b c h1 h2
    simp only [decide_eq_true_eq] at *
    exact Int.le_trans h1 h2
  have to : ∀ a b : Int, (decide (a ≤ b) || decide (b ≤ a)) = true := by
    intro a b
    simp only [Bool.or_eq_true, decide_eq_true_eq]
    exact Int.le_total a b
  have p : (l1.mergeSort fun x y => decide (x ≤ y)).Perm (l2.mergeSort fun x y => decide (x ≤ y)) := (List.mergeSort_perm _ _).trans (h.trans (List.mergeSort_perm _ _).symm)
  have s1 := List.pairwise_mergeSort (le := fun x y : Int => decide (x ≤ y)) tr to l1
  have s2 := List.pairwise_mergeSort (le := fun x y : Int => decide (x ≤ y)) tr to l2
  refine List.Perm.eq_of_pairwise ?_ s1 s2 p
  intro a b _ _ h1 h2
  simp only [decide_eq_true_eq] at *
  exact Int.le_antisymm h1 h2
/-- The keys of a map, rising. -/
def sids (l : SM) : List Int := (l.map (·.1)).mergeSort fun x y => decide (x ≤ y)
theorem sortedI (a m : Nat) (l : SM) (hl : l.length ≤ 100000) : Ct Try.prog 59 [.func (.func 68) #[] #[Ptr a 0]] [cells a 94 [.map (some m)], mS m l] (fun r σ' => ∃ v, r = v ∧ σ' = [cells a 94 [.map (some m)], mS m l, rows i64c v 3 1 (sids l)]) := by
  have hA := collectI a m l hl
  refine Ct.enter Try.func59 rfl rfl fun W => ?_
  apply Wp.seq
  apply Wp.region
  refine WpL.v (V.as) ?_
  apply WpL.nil
  apply Out.seqN
  apply Wp.seq
  apply Wp.region
  refine WpL.v (V.mv) ?_
  refine WpL.o (Op1.callT rfl (hA) (by (repeat (first | exact Sel.nil | exact Rem.here | apply Sel.cons | apply Rem.there))) ?_)
  rintro v1 s2 ⟨v5, ⟨ks5, ⟨hx0, ⟨rfl, rfl⟩⟩⟩⟩
  refine incat ?_
  refine WpL.v (V.as) ?_
  apply WpL.nil
  apply Out.seqN
  have hpm : ks5.Perm (l.map (·.1)) := by assumption
  have hsk : sids l = ks5.mergeSort fun x y => decide (x ≤ y) := (sort_permI hpm).symm
  have hlen := hpm.length_eq
  rw [List.length_map] at hlen
  rw [hsk]
  refine Wp.fact (rowsForm (List.Mem.tail _ (List.Mem.tail _ (List.Mem.head _)))) fun hform => ?_
  rcases hform with ⟨rfl, rfl⟩ | ⟨g, cp, rfl, _⟩
  · have h0 := sort_nums0 []
    rw [show ([] : List Int).mergeSort (fun x y => decide (x ≤ y)) = [] by simp]
    apply Wp.seq
    apply Wp.region
    refine WpL.v (V.mv) ?_
    refine WpL.o (Op1.callT rfl (h0) (by (repeat (first | exact Sel.nil | exact Rem.here | apply Sel.cons | apply Rem.there))) ?_)
    rintro v0 s1 ⟨rfl, rfl⟩
    refine incat ?_
    apply WpL.nil
    apply Out.seqN
    apply Wp.seq
    apply Wp.region
    refine WpL.v (V.mv) ?_
    refine WpL.v (V.as) ?_
    apply WpL.nil
    apply Out.seqN
    apply Wp.ret
    refine Out.e1 rfl ResIs.t ?_
    exact ⟨_, _, ⟨_, rfl, rfl⟩, (by (repeat (first | exact Sel.nil | exact Rem.here | apply Sel.cons | apply Rem.there)))⟩
  · have h0 := sort_nums 3 g cp ks5 (by omega)
    apply Wp.seq
    apply Wp.region
    refine WpL.v (V.mv) ?_
    refine WpL.o (Op1.callT rfl (h0) (by (repeat (first | exact Sel.nil | exact Rem.here | apply Sel.cons | apply Rem.there))) ?_)
    rintro v0 s1 ⟨rfl, rfl⟩
    refine incat ?_
    apply WpL.nil
    apply Out.seqN
    apply Wp.seq
    apply Wp.region
    refine WpL.v (V.mv) ?_
    refine WpL.v (V.as) ?_
    apply WpL.nil
    apply Out.seqN
    apply Wp.ret
    refine Out.e1 rfl ResIs.t ?_
    exact ⟨_, _, ⟨_, rfl, rfl⟩, (by (repeat (first | exact Sel.nil | exact Rem.here | apply Sel.cons | apply Rem.there)))⟩
end Go.Proofs.Ytgihkocnmgkihaa
