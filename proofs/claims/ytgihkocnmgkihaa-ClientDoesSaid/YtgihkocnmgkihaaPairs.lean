/-
  Layer 20: the pairs whose keys begin with a text, in order.
-/
import Derived.Test.YtgihkocnmgkihaaKeys2
import Derived.Test.YtgihkocnmgkihaaHeapH
namespace Go.Proofs.Ytgihkocnmgkihaa
open Go.HL
set_option linter.unusedSimpArgs false
set_option linter.unusedVariables false
set_option maxRecDepth 8000
def pfx (p k : List UInt8) : Bool := decide (p.length ≤ k.length) && decide (k.take p.length = p)
theorem lite_prefix (k p : List UInt8) : Fun Try.prog 65 [S k, S p] (B (pfx p k)) := by
  unfold pfx
  by_cases h : p.length ≤ k.length
  · rw [decide_eq_true h, Bool.true_and]
    refine Ct.enter Try.func65 rfl rfl fun W => ?_
    apply Wp.seq
    apply Wp.region
    refine WpL.v (V.as) ?_
    apply WpL.nil
    apply Out.seqN
    apply Wp.seq
    apply Wp.region
    refine WpL.v (V.mv) ?_
    refine WpL.v (V.lenS tb) ?_
    refine WpL.v (V.mv) ?_
    refine WpL.v (V.lenS tb) ?_
    refine WpL.v (V.cmp) ?_
    refine WpL.v (V.mv) ?_
    refine WpL.pt (fun hl00 => ?_) (fun hl00 => ?_)
    (try simp only [decide_eq_true_eq, decide_eq_false_iff_not, Bool.not_eq_true', Bool.not_eq_false', Bool.not_eq_true, Bool.not_eq_false, not_true_eq_false, not_false_eq_true, reduceCtorEq] at hl00)
    refine WpL.v (V.mv) ?_
    refine WpL.v (V.mv) ?_
    refine WpL.v (V.lenS tb) ?_
    refine WpL.v (V.slHi tb) ?_
    refine WpL.v (V.mv) ?_
    refine WpL.v (V.cmpS) ?_
    refine WpL.v (V.pT) ?_
    refine WpL.v (V.as) ?_
    apply WpL.nil
    apply Out.seqN
    apply Wp.ret
    refine Out.f1 rfl ResIs.t ⟨?_, rfl⟩
    exact rfl
    (try simp only [decide_eq_true_eq, decide_eq_false_iff_not, Bool.not_eq_true', Bool.not_eq_false', Bool.not_eq_true, Bool.not_eq_false, not_true_eq_false, not_false_eq_true, reduceCtorEq] at hl00)
    (exfalso; omega)
  · rw [decide_eq_false h, Bool.false_and]
    refine Ct.enter Try.func65 rfl rfl fun W => ?_
    apply Wp.seq
    apply Wp.region
    refine WpL.v (V.as) ?_
    apply WpL.nil
    apply Out.seqN
    apply Wp.seq
    apply Wp.region
    refine WpL.v (V.mv) ?_
    refine WpL.v (V.lenS tb) ?_
    refine WpL.v (V.mv) ?_
    refine WpL.v (V.lenS tb) ?_
    refine WpL.v (V.cmp) ?_
    refine WpL.v (V.mv) ?_
    refine WpL.pt (fun hl10 => ?_) (fun hl10 => ?_)
    (try simp only [decide_eq_true_eq, decide_eq_false_iff_not, Bool.not_eq_true', Bool.not_eq_false', Bool.not_eq_true, Bool.not_eq_false, not_true_eq_false, not_false_eq_true, reduceCtorEq] at hl10)
    (exfalso; omega)
    (try simp only [decide_eq_true_eq, decide_eq_false_iff_not, Bool.not_eq_true', Bool.not_eq_false', Bool.not_eq_true, Bool.not_eq_false, not_true_eq_false, not_false_eq_true, reduceCtorEq] at hl10)
    refine WpL.sk ?_
    refine WpL.sk ?_
    refine WpL.sk ?_
    refine WpL.sk ?_
    refine WpL.sk ?_
    refine WpL.sk ?_
    refine WpL.v (V.pF) ?_
    refine WpL.v (V.as) ?_
    apply WpL.nil
    apply Out.seqN
    apply Wp.ret
    refine Out.f1 rfl ResIs.t ⟨?_, rfl⟩
    exact rfl
theorem has_prefix (k p : List UInt8) : Fun Try.prog 53 [S k, S p] (B (pfx p k)) := by
  have hL := lite_prefix k p
  refine Ct.enter Try.func53 rfl rfl fun W => ?_
  apply Wp.seq
  apply Wp.region
  refine WpL.v (V.as) ?_
  apply WpL.nil
  apply Out.seqN
  apply Wp.seq
  apply Wp.region
  refine WpL.v (V.mv) ?_
  refine WpL.v (V.mv) ?_
  refine WpL.o (Op1.fn rfl (hL) ?_)
  refine WpL.v (V.as) ?_
  apply WpL.nil
  apply Out.seqN
  apply Wp.ret
  refine Out.f1 rfl ResIs.t ⟨?_, rfl⟩
  exact rfl
def rgE (b m : Nat) (l : PM) : List Ent := [cells b 74 (RegistryRegistry.c ⟨.map (some m)⟩), mE m l]
theorem reg_pairs (v : Go.Value) (hv : v.oneCell' = true) (p : List UInt8) : Ct Try.prog 23 [v, S p] [] (fun r σ' => ∃ a c, r = .func (.func 50) #[] #[Ptr a 0, Ptr c 0] ∧ σ' = [cells a 25 [v], cells c 9 [S p]]) := by
  refine Ct.enter Try.func23 rfl rfl fun W => ?_
  apply Wp.seq
  apply Wp.region
  refine WpL.o (O.bx1 (fun p2 => ?_))
  refine WpL.o (O.bx1 (fun p3 => ?_))
  refine WpL.v (V.as) ?_
  apply WpL.nil
  apply Out.seqN
  apply Wp.seq
  apply Wp.region
  refine WpL.v (V.mf) ?_
  refine WpL.v (V.as) ?_
  apply WpL.nil
  apply Out.seqN
  apply Wp.ret
  refine Out.e1 rfl ResIs.t ?_
  focus (exact ⟨_, _, ⟨_, _, rfl, rfl⟩, (by (repeat (first | exact Sel.nil | exact Rem.here | apply Sel.cons | apply Rem.there)))⟩; done)
def encP (p : RegistryPair) : List Go.Value := [A p.c]
def look (l : PM) (k : List UInt8) : RegistryPair := (mget l k).getD RegistryPair.z
def pairsU (p : List UInt8) (l : PM) (i : Nat) : List RegistryPair := (((skeys l).take i).filter (pfx p)).map (look l)
def pairsL (p : List UInt8) (l : PM) : List RegistryPair := ((skeys l).filter (pfx p)).map (look l)
theorem pairsU_all (p : List UInt8) (l : PM) : pairsU p l (skeys l).length = pairsL p l := by unfold pairsU pairsL; rw [List.take_length]
theorem pairsU_succ {p : List UInt8} {l : PM} {i : Nat} {k : List UInt8} (hk : (skeys l)[i]? = some k) : pairsU p l (i + 1) = pairsU p l i ++ (if pfx p k = true then [look l k] else []) := by
  unfold pairsU
  rw [take_snocS hk, List.filter_append, List.map_append]
  congr 1
  by_cases h : pfx p k = true <;> simp [h]
theorem pairs_split {p : List UInt8} {l : PM} {i : Nat} {k : List UInt8} (hk : (skeys l)[i]? = some k) (h : pfx p k = true) : ∃ post, pairsL p l = pairsU p l i ++ look l k :: post := by
  obtain ⟨hl, hk2⟩ := List.getElem?_eq_some_iff.1 hk
  refine ⟨(((skeys l).drop (i + 1)).filter (pfx p)).map (look l), ?_⟩
  have e : skeys l = (skeys l).take i ++ k :: (skeys l).drop (i + 1) := by
    rw [← hk2, List.getElem_cons_drop, List.take_append_drop]
  unfold pairsL
  conv => lhs; rw [e]
  rw [List.filter_append, List.map_append, List.filter_cons, if_pos h, List.map_cons]
  rfl
theorem skeys_len (l : PM) : (skeys l).length = l.length := by unfold skeys; simp
theorem zero52 (w : Go.World) : (Go.zeroValue 52).run Try.prog w = .ok (A RegistryPair.z.c) w := rfl
theorem kokS : KeyOk Try.prog 9 kS := KeyOk.str rfl
set_option maxHeartbeats 1000000 in
theorem pairs_iter (a c b m : Nat) (p : List UInt8) (l : PM) (hl : l.length ≤ 100000) :
    Iter Try.prog 50 [Ptr a 0, Ptr c 0] [cells a 25 [Ptr b 0], cells c 9 [S p], cells b 74 (RegistryRegistry.c ⟨.map (some m)⟩), mE m l] encP (pairsL p l) [cells a 25 [Ptr b 0], cells c 9 [S p], cells b 74 (RegistryRegistry.c ⟨.map (some m)⟩), mE m l] := by
  intro y β G X S' b0 hG0 hY
  have hlen := skeys_len l
  have hK := map_keys m
  have hS (q : Nat) := sorted q m l hl
  refine Ct.enter Try.func50 rfl rfl fun W => ?_
  apply Wp.seq
  apply Wp.seq
  apply Wp.region
  refine WpL.v (V.ld1 tb) ?_
  refine WpL.v (V.eqP) ?_
  apply WpL.nil
  apply Out.seqN
  refine Wp.cF ?_
  apply Wp.skip
  apply Out.seqN
  apply Wp.seq
  apply Wp.region
  refine WpL.v (V.ld1 tb) ?_
  refine WpL.v (V.nc) ?_
  refine WpL.v (V.fa tb) ?_
  refine WpL.v (V.ld1 tb) ?_
  refine WpL.o (Op1.callT rfl (hK) (by (repeat (first | exact Sel.nil | exact Rem.here | apply Sel.cons | apply Rem.there))) ?_)
  rintro v0 s1 ⟨a12, ⟨rfl, rfl⟩⟩
  refine incat ?_
  refine WpL.o (Op1.callT rfl (hS _) (by (repeat (first | exact Sel.nil | exact Rem.here | apply Sel.cons | apply Rem.there))) ?_)
  rintro v2 s3 ⟨v13, ⟨rfl, rfl⟩⟩
  refine incat ?_
  refine WpL.v (V.lenRows tb) ?_
  refine WpL.v (V.mv) ?_
  apply WpL.nil
  apply Out.seqN
  apply Wp.block
  refine Wp.fact (rowsForm (by (repeat first | exact List.Mem.head _ | apply List.Mem.tail))) fun hform => ?_
  refine Wp.lp [14, 13, 2, 1, 0] (fun y : Nat × β => y.1 ≤ (skeys l).length ∧ G (pairsU p l y.1) y.2) (fun y => [(15, I (y.1 : Int))]) (fun y => [S' y.2]) (fun y => (skeys l).length - y.1) (0, b0) ⟨Nat.zero_le _, hG0⟩ ?_
  rintro ⟨i, c1⟩ ⟨hi, hG⟩ K hK2
  dsimp only at hi hG
  dsimp only [List.cons_append, List.nil_append]
  by_cases hlt : i < (skeys l).length
  · obtain ⟨k, hk⟩ := getS hlt
    rcases hform with ⟨h1, h2⟩ | ⟨g, cp, rfl, _⟩
    · rw [h2] at hlt; simp at hlt
    have hH := has_prefix k p
    have hu := pairsU_succ (p := p) hk
    cases hp : pfx p k with
    | false =>
      rw [hp] at hH hu
      simp only [Bool.false_eq_true, if_false, List.append_nil] at hu
      apply Wp.seq
      apply Wp.region
      refine WpL.v (V.cmp) ?_
      apply WpL.nil
      apply Out.seqN
      apply Wp.seq
      refine Wp.c (fun hi10 => ?_) (fun hi10 => ?_)
      (try simp only [decide_eq_true_eq, decide_eq_false_iff_not, Bool.not_eq_true', Bool.not_eq_false', Bool.not_eq_true, Bool.not_eq_false, not_true_eq_false, not_false_eq_true, reduceCtorEq] at hi10)
      apply Wp.skip
      apply Out.seqN
      apply Wp.seq
      apply Wp.block
      apply Wp.seq
      apply Wp.region
      refine WpL.v (V.ixk tb (k := i) rfl rfl rfl rfl (by omega)) ?_
      refine WpL.v (V.ldRow1 tb rfl (by (repeat first | exact List.Mem.head _ | apply List.Mem.tail)) (fun _ => rfl) hk) ?_
      refine WpL.v (V.as) ?_
      apply WpL.nil
      apply Out.seqN
      apply Wp.seq
      apply Wp.region
      refine WpL.v (V.mv) ?_
      refine WpL.v (V.ld1 tb) ?_
      refine WpL.o (Op1.fn rfl (hH) ?_)
      refine WpL.v (V.mv) ?_
      refine WpL.sk ?_
      refine WpL.sk ?_
      refine WpL.sk ?_
      refine WpL.sk ?_
      refine WpL.sk ?_
      refine WpL.sk ?_
      refine WpL.sk ?_
      refine WpL.sk ?_
      refine WpL.sk ?_
      refine WpL.v (V.pF) ?_
      apply WpL.nil
      apply Out.seqN
      refine Wp.cF ?_
      apply Wp.skip
      apply Out.blockN
      apply Out.seqN
      apply Wp.region
      refine WpL.v (V.add) ?_
      refine WpL.v (V.mv) ?_
      apply WpL.nil
      rotate_left
      (try simp only [decide_eq_true_eq, decide_eq_false_iff_not, Bool.not_eq_true', Bool.not_eq_false', Bool.not_eq_true, Bool.not_eq_false, not_true_eq_false, not_false_eq_true, reduceCtorEq] at hi10)
      (exfalso; omega)
      exact Out.ag hK2 (i + 1, c1) ⟨by show i + 1 ≤ _; omega, by show G (pairsU p l (i + 1)) c1; rw [hu]; exact hG⟩ (by show (skeys l).length - (i + 1) < (skeys l).length - i; omega)
    | true =>
      rw [hp] at hH hu
      simp only [if_true] at hu
      obtain ⟨post, hsp⟩ := pairs_split hk hp
      have hYy := hY (pairsU p l i) (look l k) post c1 hsp hG
      apply Wp.seq
      apply Wp.region
      refine WpL.v (V.cmp) ?_
      apply WpL.nil
      apply Out.seqN
      apply Wp.seq
      refine Wp.c (fun hi20 => ?_) (fun hi20 => ?_)
      (try simp only [decide_eq_true_eq, decide_eq_false_iff_not, Bool.not_eq_true', Bool.not_eq_false', Bool.not_eq_true, Bool.not_eq_false, not_true_eq_false, not_false_eq_true, reduceCtorEq] at hi20)
      apply Wp.skip
      apply Out.seqN
      apply Wp.seq
      apply Wp.block
      apply Wp.seq
      apply Wp.region
      refine WpL.v (V.ixk tb (k := i) rfl rfl rfl rfl (by omega)) ?_
      refine WpL.v (V.ldRow1 tb rfl (by (repeat first | exact List.Mem.head _ | apply List.Mem.tail)) (fun _ => rfl) hk) ?_
      refine WpL.v (V.as) ?_
      apply WpL.nil
      apply Out.seqN
      apply Wp.seq
      apply Wp.region
      refine WpL.v (V.mv) ?_
      refine WpL.v (V.ld1 tb) ?_
      refine WpL.o (Op1.fn rfl (hH) ?_)
      refine WpL.v (V.mv) ?_
      refine WpL.v (V.mv) ?_
      refine WpL.v (V.ld1 tb) ?_
      refine WpL.v (V.nc) ?_
      refine WpL.v (V.fa tb) ?_
      refine WpL.v (V.ld1 tb) ?_
      refine WpL.v (V.mv) ?_
      refine WpL.v (Val.lookD (l := l) (k := k) (vf := vP) RegistryPair.z kokS map72 zero52 rfl rfl (by (repeat first | exact List.Mem.head _ | apply List.Mem.tail))) ?_
      refine WpL.o (Op1.callY rfl rfl (hYy) (by (repeat (first | exact Sel.nil | exact Rem.here | apply Sel.cons | apply Rem.there))) ?_)
      rintro v3 s4 ⟨b'30, ⟨t30, ⟨rfl, ⟨hx1, ⟨hx2, rfl⟩⟩⟩⟩⟩
      refine incat ?_
      refine WpL.v (V.not) ?_
      refine WpL.v (V.pT) ?_
      apply WpL.nil
      apply Out.seqN
      refine Wp.c (fun hi25 => ?_) (fun hi25 => ?_)
      (try simp only [decide_eq_true_eq, decide_eq_false_iff_not, Bool.not_eq_true', Bool.not_eq_false', Bool.not_eq_true, Bool.not_eq_false, not_true_eq_false, not_false_eq_true, reduceCtorEq] at hi25)
      apply Wp.ret
      apply Out.blockR
      apply Out.seqR
      apply Out.seqR
      apply Out.blockR
      refine Out.e0 rfl  ?_
      focus (exact ⟨_, _, ⟨_, .inr ⟨pairsU p l i ++ [look l k], ⟨post, by rw [hsp]; simp⟩, by apply_assumption; assumption⟩, rfl⟩, (by (repeat (first | exact Sel.nil | exact Rem.here | apply Sel.cons | apply Rem.there)))⟩; done)
      (try simp only [decide_eq_true_eq, decide_eq_false_iff_not, Bool.not_eq_true', Bool.not_eq_false', Bool.not_eq_true, Bool.not_eq_false, not_true_eq_false, not_false_eq_true, reduceCtorEq] at hi25)
      apply Wp.skip
      apply Out.blockN
      apply Out.seqN
      apply Wp.region
      refine WpL.v (V.add) ?_
      refine WpL.v (V.mv) ?_
      apply WpL.nil
      rotate_left
      (try simp only [decide_eq_true_eq, decide_eq_false_iff_not, Bool.not_eq_true', Bool.not_eq_false', Bool.not_eq_true, Bool.not_eq_false, not_true_eq_false, not_false_eq_true, reduceCtorEq] at hi20)
      (exfalso; omega)
      exact Out.ag hK2 (i + 1, _) ⟨by show i + 1 ≤ _; omega, by show G (pairsU p l (i + 1)) _; rw [hu]; apply_assumption; assumption⟩ (by show (skeys l).length - (i + 1) < (skeys l).length - i; omega)
  · obtain rfl : i = (skeys l).length := by omega
    rw [pairsU_all] at hG
    clear hK2
    apply Wp.seq
    apply Wp.region
    refine WpL.v (V.cmp) ?_
    apply WpL.nil
    apply Out.seqN
    apply Wp.seq
    refine Wp.c (fun hi30 => ?_) (fun hi30 => ?_)
    (try simp only [decide_eq_true_eq, decide_eq_false_iff_not, Bool.not_eq_true', Bool.not_eq_false', Bool.not_eq_true, Bool.not_eq_false, not_true_eq_false, not_false_eq_true, reduceCtorEq] at hi30)
    (exfalso; omega)
    (try simp only [decide_eq_true_eq, decide_eq_false_iff_not, Bool.not_eq_true', Bool.not_eq_false', Bool.not_eq_true, Bool.not_eq_false, not_true_eq_false, not_false_eq_true, reduceCtorEq] at hi30)
    apply Wp.exit
    apply Out.seqE
    apply Out.seqE
    apply Out.blockE
    refine Out.e0 rfl  ?_
    focus (exact ⟨_, _, ⟨c1, .inl hG, rfl⟩, (by (repeat (first | exact Sel.nil | exact Rem.here | apply Sel.cons | apply Rem.there)))⟩; done)
end Go.Proofs.Ytgihkocnmgkihaa
