/-
  The statement OctaveGives of layer 1: a source of any bytes gives what the document says, whatever is asked for; a nil one. Proved for every input.
-/
import Derived.Test.YtienlncaffliaaaOct4
namespace Go.Proofs.Ytienlncaffliaaa
open Go.HL
set_option linter.unusedSimpArgs false
set_option linter.unusedVariables false
set_option maxRecDepth 8000
set_option maxHeartbeats 1600000
structure GS where
  k : Nat
  b : List UInt8
  dry : Bool
theorem octaveGives_walk (e : Ent) (ao : Option Go.Addr) (cap bb off : Nat) (b0 : List UInt8) (xs : List Item) (hR : Rd e ao xs.length bb off 4 (xs.map Caucuslaw01Item.c)) (hw : ∀ x, x ∈ xs → x.T.length ≤ 140737488351232) :
    Ct Try.prog 14 [S b0, .slice ao xs.length cap] [e] (fun v σ' => v = B true ∧ σ' = [e]) := by
  have hm := hR.len
  have hG := great01 e ao cap bb off xs hR hw
  refine Ct.enter Try.func14 rfl rfl fun W => ?_
  apply Wp.seq
  apply Wp.region
  refine WpL.v (V.as) ?_
  apply WpL.nil
  apply Out.seqN
  apply Wp.seq
  apply Wp.seq
  apply Wp.region
  refine WpL.o (Op1.fn rfl (alive01) ?_)
  refine WpL.v (V.not) ?_
  apply WpL.nil
  apply Out.seqN
  refine Wp.cF ?_
  apply Wp.skip
  apply Out.seqN
  apply Wp.seq
  apply Wp.seq
  apply Wp.region
  refine WpL.v (V.mv) ?_
  refine WpL.o (Op1.callT rfl (hG) (by (repeat (first | exact Sel.nil | exact Rem.here | apply Sel.cons | apply Rem.there))) ?_)
  rintro v0 s1 ⟨rfl, rfl⟩
  refine incat ?_
  refine WpL.v (V.mv) ?_
  refine WpL.pt (fun ha2 => ?_) (fun ha2 => ?_)
  (try simp only [decide_eq_true_eq, decide_eq_false_iff_not, Bool.not_eq_true', Bool.not_eq_false', Bool.not_eq_true, Bool.not_eq_false, not_true_eq_false, not_false_eq_true, reduceCtorEq] at ha2)
  refine WpL.sk ?_
  refine WpL.sk ?_
  refine WpL.sk ?_
  refine WpL.v (V.pT) ?_
  apply WpL.nil
  apply Out.seqN
  refine Wp.cT ?_
  apply Wp.seq
  apply Wp.region
  refine WpL.v (V.as) ?_
  apply WpL.nil
  apply Out.seqN
  apply Wp.ret
  apply Out.seqR
  refine Out.f1 rfl ResIs.t ⟨?_, rfl⟩
  exact rfl
  (try simp only [decide_eq_true_eq, decide_eq_false_iff_not, Bool.not_eq_true', Bool.not_eq_false', Bool.not_eq_true, Bool.not_eq_false, not_true_eq_false, not_false_eq_true, reduceCtorEq] at ha2)
  refine WpL.v (V.mv) ?_
  refine WpL.v (V.lenS tb) ?_
  refine WpL.v (V.cmp) ?_
  refine WpL.v (V.pF) ?_
  apply WpL.nil
  apply Out.seqN
  refine Wp.c (fun ha3 => ?_) (fun ha3 => ?_)
  (try simp only [decide_eq_true_eq, decide_eq_false_iff_not, Bool.not_eq_true', Bool.not_eq_false', Bool.not_eq_true, Bool.not_eq_false, not_true_eq_false, not_false_eq_true, reduceCtorEq] at ha3)
  apply Wp.seq
  apply Wp.region
  refine WpL.v (V.as) ?_
  apply WpL.nil
  apply Out.seqN
  apply Wp.ret
  apply Out.seqR
  refine Out.f1 rfl ResIs.t ⟨?_, rfl⟩
  exact rfl
  (try simp only [decide_eq_true_eq, decide_eq_false_iff_not, Bool.not_eq_true', Bool.not_eq_false', Bool.not_eq_true, Bool.not_eq_false, not_true_eq_false, not_false_eq_true, reduceCtorEq] at ha3)
  apply Wp.skip
  apply Out.seqN
  apply Wp.seq
  apply Wp.region
  refine WpL.v (V.mv) ?_
  refine WpL.o (Op1.callT rfl (srcFrom _) (by (repeat (first | exact Sel.nil | exact Rem.here | apply Sel.cons | apply Rem.there))) ?_)
  rintro v4 s5 ⟨b25, ⟨rfl, rfl⟩⟩
  refine incat ?_
  refine WpL.v (V.as) ?_
  apply WpL.nil
  apply Out.seqN
  apply Wp.seq
  apply Wp.region
  refine WpL.v (V.as) ?_
  apply WpL.nil
  apply Out.seqN
  apply Wp.seq
  apply Wp.seq
  apply Wp.region
  refine WpL.v (V.mv) ?_
  refine WpL.v (V.lenL tb) ?_
  refine WpL.v (V.mv) ?_
  apply WpL.nil
  apply Out.seqN
  apply Wp.block
  clear hG hw
  refine Wp.lp [26, 27, 5, 1] (fun s : GS => s.k ≤ xs.length ∧ s.b.length ≤ 4096 ∧ (s.dry = true → s.b = [])) (fun s => [(28, I (s.k : Int)), (6, B s.dry), (0, S s.b)]) (fun s => [cells b25 99 (OctaveSource.c ⟨s.b, s.dry⟩)]) (fun s => xs.length - s.k) ⟨0, b0, false⟩ ⟨Nat.zero_le _, by dsimp only; omega, by simp⟩ ?_
  rintro ⟨k, b, dry⟩ ⟨hk, hb, hd⟩ K hK
  dsimp only at hk hb hd
  dsimp only [List.cons_append, List.nil_append]
  by_cases hlt : k < xs.length
  · obtain ⟨x, hx⟩ := getS hlt
    have hov : ∀ l : List UInt8, (!((!false && decide (l = [])) == decide (l = []))) = false := fun l => by simp
    have hff : (!(false == false)) = false := rfl
    have htt : (!(true == true)) = false := rfl
    have heb : ∀ p : Bool, (p == p) = true := fun p => by simp
    cases dry with
    | true =>
      obtain rfl := hd rfl
      rcases (by omega : x.Kind = 0 ∨ x.Kind = 1 ∨ x.Kind = 2 ∨ (x.Kind ≠ 0 ∧ x.Kind ≠ 1 ∧ x.Kind ≠ 2)) with hc | hc | hc | hc
      · have hkk : x.Kind = 0 := by omega
        have e0 : cmpI .eql x.Kind 0 = some true := by first | (simp [cmpI, *]; done) | (simp only [cmpI, Option.some.injEq, decide_eq_true_eq, decide_eq_false_iff_not]; omega)
        have e1 : cmpI .eql x.Kind 1 = some false := by first | (simp [cmpI, *]; done) | (simp only [cmpI, Option.some.injEq, decide_eq_true_eq, decide_eq_false_iff_not]; omega)
        have e2 : cmpI .eql x.Kind 2 = some false := by first | (simp [cmpI, *]; done) | (simp only [cmpI, Option.some.injEq, decide_eq_true_eq, decide_eq_false_iff_not]; omega)
        have h1 : Ct Try.prog 40 [Ptr b25 0, I x.N] [cells b25 99 (OctaveSource.c ⟨[], true⟩)] (fun r σ' => r = I 0 ∧ σ' = [cells b25 99 (OctaveSource.c ⟨[], true⟩)]) := by
          have := srcNat b25 ⟨[], true⟩ x.N (by simp); rwa [natS_dry] at this
        apply Wp.seq
        apply Wp.region
        refine WpL.v (V.cmp) ?_
        apply WpL.nil
        apply Out.seqN
        apply Wp.seq
        refine Wp.c (fun hg10 => ?_) (fun hg10 => ?_)
        (try simp only [decide_eq_true_eq, decide_eq_false_iff_not, Bool.not_eq_true', Bool.not_eq_false', Bool.not_eq_true, Bool.not_eq_false, not_true_eq_false, not_false_eq_true, reduceCtorEq] at hg10)
        apply Wp.skip
        apply Out.seqN
        apply Wp.seq
        apply Wp.block
        apply Wp.seq
        apply Wp.region
        refine WpL.v (V.ixR tb rfl rfl (by assumption)) ?_
        refine WpL.v (V.ldRA tb rfl (by assumption) (getMapS (by assumption))) ?_
        refine WpL.o (O.al tb (fun p8 => ?_))
        refine WpL.o (O.stA tb ?_)
        apply WpL.nil
        apply Out.seqN
        apply Wp.seq
        apply Wp.region
        refine WpL.v (V.mv) ?_
        refine WpL.v (V.fa tb) ?_
        refine WpL.v (V.ld1 tb) ?_
        refine WpL.o (Op1.fn rfl (taken _ _ ?_) ?_)
        (first | with_reducible assumption | omega | (simp only [List.length_append, List.length_cons, List.length_nil, List.length_map] at *; omega) | (focus (simp; done)))
        refine WpL.v (V.mv) ?_
        refine WpL.v (V.ex) ?_
        refine WpL.v (V.ex) ?_
        refine WpL.v (V.as) ?_
        refine WpL.v (V.as) ?_
        apply WpL.nil
        apply Out.seqN
        apply Wp.seq
        apply Wp.seq
        apply Wp.region
        refine WpL.v (V.fa tb) ?_
        refine WpL.v (V.ld1 tb) ?_
        refine WpL.v (V.cmp rfl rfl e1) ?_
        apply WpL.nil
        apply Out.seqN
        refine Wp.cF ?_
        apply Wp.skip
        apply Out.seqN
        apply Wp.seq
        apply Wp.region
        refine WpL.v (V.as) ?_
        apply WpL.nil
        apply Out.seqN
        apply Wp.seq
        apply Wp.region
        refine WpL.v (V.as) ?_
        apply WpL.nil
        apply Out.seqN
        apply Wp.seq
        apply Wp.seq
        apply Wp.region
        refine WpL.v (V.fa tb) ?_
        refine WpL.v (V.ld1 tb) ?_
        apply WpL.nil
        apply Out.seqN
        apply Wp.block
        apply Wp.seq
        apply Wp.seq
        apply Wp.region
        refine WpL.v (V.cmp rfl rfl e0) ?_
        refine WpL.v (V.as) ?_
        apply WpL.nil
        apply Out.seqN
        refine Wp.cT ?_
        apply Wp.skip
        apply Out.seqN
        refine Wp.cT ?_
        apply Wp.seq
        apply Wp.region
        refine WpL.v (V.mv) ?_
        refine WpL.v (V.mv) ?_
        refine WpL.sk ?_
        refine WpL.sk ?_
        refine WpL.v (V.pT) ?_
        refine WpL.v (V.as) ?_
        apply WpL.nil
        apply Out.seqN
        apply Wp.seq
        apply Wp.region
        refine WpL.v (V.mv) ?_
        refine WpL.v (V.not) ?_
        apply WpL.nil
        apply Out.seqN
        refine Wp.cF ?_
        apply Wp.skip
        apply Out.blockN
        apply Out.seqN
        apply Wp.seq
        apply Wp.seq
        apply Wp.region
        refine WpL.v (V.mv) ?_
        apply WpL.nil
        apply Out.seqN
        refine Wp.cT ?_
        apply Wp.region
        refine WpL.v (V.as) ?_
        apply WpL.nil
        apply Out.seqN
        apply Wp.seq
        apply Wp.region
        refine WpL.v (V.as) ?_
        apply WpL.nil
        apply Out.seqN
        apply Wp.seq
        apply Wp.seq
        apply Wp.region
        refine WpL.v (V.fa tb) ?_
        refine WpL.v (V.ld1 tb) ?_
        apply WpL.nil
        apply Out.seqN
        apply Wp.block
        apply Wp.seq
        apply Wp.region
        refine WpL.v (V.cmp rfl rfl e0) ?_
        refine WpL.v (V.as) ?_
        apply WpL.nil
        apply Out.seqN
        refine Wp.cT ?_
        apply Wp.region
        refine WpL.v (V.mv) ?_
        refine WpL.v (V.fa tb) ?_
        refine WpL.v (V.ld1 tb) ?_
        refine WpL.o (Op1.callT rfl (h1) (by (repeat (first | exact Sel.nil | exact Rem.here | apply Sel.cons | apply Rem.there))) ?_)
        rintro v1 s2 ⟨rfl, rfl⟩
        refine incat ?_
        refine WpL.v (V.mv) ?_
        refine WpL.v (V.cmp rfl rfl (eql_self _)) ?_
        refine WpL.v (V.as) ?_
        apply WpL.nil
        apply Out.blockN
        apply Out.seqN
        apply Wp.seq
        apply Wp.region
        refine WpL.v (V.mv) ?_
        refine WpL.v (V.not) ?_
        refine WpL.v (V.mv) ?_
        refine WpL.v (V.mv) ?_
        refine WpL.o (Op1.callT rfl (srcDry _ _) (by (repeat (first | exact Sel.nil | exact Rem.here | apply Sel.cons | apply Rem.there))) ?_)
        rintro v3 s4 ⟨rfl, rfl⟩
        refine incat ?_
        refine WpL.v (V.mv) ?_
        refine WpL.v (V.neBE tb rfl rfl hff) ?_
        refine WpL.v (V.pF) ?_
        refine WpL.v (V.mv) ?_
        refine WpL.v (V.mv) ?_
        refine WpL.o (Op1.callT rfl (srcLeft _ _) (by (repeat (first | exact Sel.nil | exact Rem.here | apply Sel.cons | apply Rem.there))) ?_)
        rintro v5 s6 ⟨rfl, rfl⟩
        refine incat ?_
        refine WpL.v (V.mv) ?_
        refine WpL.v (V.lenS tb) ?_
        refine WpL.v (V.cmp rfl rfl (neq_self _)) ?_
        refine WpL.v (V.pF) ?_
        refine WpL.v (V.mv) ?_
        refine WpL.v (V.mv) ?_
        refine WpL.o (Op1.callT rfl (srcOver _ _) (by (repeat (first | exact Sel.nil | exact Rem.here | apply Sel.cons | apply Rem.there))) ?_)
        rintro v7 s8 ⟨rfl, rfl⟩
        refine incat ?_
        refine WpL.v (V.mv) ?_
        refine WpL.v (V.not) ?_
        refine WpL.v (V.mv) ?_
        refine WpL.sk ?_
        refine WpL.sk ?_
        refine WpL.v (V.pF) ?_
        refine WpL.v (V.neBE tb rfl rfl hff) ?_
        refine WpL.v (V.pF) ?_
        apply WpL.nil
        apply Out.seqN
        refine Wp.cF ?_
        apply Wp.skip
        apply Out.blockN
        apply Out.seqN
        apply Wp.region
        refine WpL.v (V.add) ?_
        refine WpL.v (V.mv) ?_
        apply WpL.nil
        rotate_left
        (try simp only [decide_eq_true_eq, decide_eq_false_iff_not, Bool.not_eq_true', Bool.not_eq_false', Bool.not_eq_true, Bool.not_eq_false, not_true_eq_false, not_false_eq_true, reduceCtorEq] at hg10)
        (exfalso; omega)
        exact Out.ag hK ⟨k + 1, [], true⟩ ⟨by dsimp only; omega, by simp, by simp⟩ (by dsimp only; omega)
      · have hkk : x.Kind = 1 := by omega
        have e0 : cmpI .eql x.Kind 0 = some false := by first | (simp [cmpI, *]; done) | (simp only [cmpI, Option.some.injEq, decide_eq_true_eq, decide_eq_false_iff_not]; omega)
        have e1 : cmpI .eql x.Kind 1 = some true := by first | (simp [cmpI, *]; done) | (simp only [cmpI, Option.some.injEq, decide_eq_true_eq, decide_eq_false_iff_not]; omega)
        have e2 : cmpI .eql x.Kind 2 = some false := by first | (simp [cmpI, *]; done) | (simp only [cmpI, Option.some.injEq, decide_eq_true_eq, decide_eq_false_iff_not]; omega)
        have h1 : Ct Try.prog 44 [Ptr b25 0] [cells b25 99 (OctaveSource.c ⟨[], true⟩)] (fun r σ' => r = B (decide ((0 : Int) = 1)) ∧ σ' = [cells b25 99 (OctaveSource.c ⟨[], true⟩)]) := by
          have := srcBit b25 ⟨[], true⟩ (by simp); rwa [natS_dry] at this
        apply Wp.seq
        apply Wp.region
        refine WpL.v (V.cmp) ?_
        apply WpL.nil
        apply Out.seqN
        apply Wp.seq
        refine Wp.c (fun hg20 => ?_) (fun hg20 => ?_)
        (try simp only [decide_eq_true_eq, decide_eq_false_iff_not, Bool.not_eq_true', Bool.not_eq_false', Bool.not_eq_true, Bool.not_eq_false, not_true_eq_false, not_false_eq_true, reduceCtorEq] at hg20)
        apply Wp.skip
        apply Out.seqN
        apply Wp.seq
        apply Wp.block
        apply Wp.seq
        apply Wp.region
        refine WpL.v (V.ixR tb rfl rfl (by assumption)) ?_
        refine WpL.v (V.ldRA tb rfl (by assumption) (getMapS (by assumption))) ?_
        refine WpL.o (O.al tb (fun p8 => ?_))
        refine WpL.o (O.stA tb ?_)
        apply WpL.nil
        apply Out.seqN
        apply Wp.seq
        apply Wp.region
        refine WpL.v (V.mv) ?_
        refine WpL.v (V.fa tb) ?_
        refine WpL.v (V.ld1 tb) ?_
        refine WpL.o (Op1.fn rfl (taken _ _ ?_) ?_)
        (first | with_reducible assumption | omega | (simp only [List.length_append, List.length_cons, List.length_nil, List.length_map] at *; omega) | (focus (simp; done)))
        refine WpL.v (V.mv) ?_
        refine WpL.v (V.ex) ?_
        refine WpL.v (V.ex) ?_
        refine WpL.v (V.as) ?_
        refine WpL.v (V.as) ?_
        apply WpL.nil
        apply Out.seqN
        apply Wp.seq
        apply Wp.seq
        apply Wp.region
        refine WpL.v (V.fa tb) ?_
        refine WpL.v (V.ld1 tb) ?_
        refine WpL.v (V.cmp rfl rfl e1) ?_
        apply WpL.nil
        apply Out.seqN
        refine Wp.cT ?_
        apply Wp.region
        refine WpL.v (V.mv) ?_
        refine WpL.o (Op1.fn rfl (taken _ _ ?_) ?_)
        (first | with_reducible assumption | omega | (simp only [List.length_append, List.length_cons, List.length_nil, List.length_map] at *; omega) | (focus (simp; done)))
        refine WpL.v (V.mv) ?_
        refine WpL.v (V.ex) ?_
        refine WpL.v (V.ex) ?_
        refine WpL.v (V.as) ?_
        refine WpL.v (V.as) ?_
        apply WpL.nil
        apply Out.seqN
        apply Wp.seq
        apply Wp.region
        refine WpL.v (V.as) ?_
        apply WpL.nil
        apply Out.seqN
        apply Wp.seq
        apply Wp.region
        refine WpL.v (V.as) ?_
        apply WpL.nil
        apply Out.seqN
        apply Wp.seq
        apply Wp.seq
        apply Wp.region
        refine WpL.v (V.fa tb) ?_
        refine WpL.v (V.ld1 tb) ?_
        apply WpL.nil
        apply Out.seqN
        apply Wp.block
        apply Wp.seq
        apply Wp.seq
        apply Wp.region
        refine WpL.v (V.cmp rfl rfl e0) ?_
        refine WpL.v (V.as) ?_
        apply WpL.nil
        apply Out.seqN
        refine Wp.cF ?_
        apply Wp.region
        refine WpL.v (V.cmp rfl rfl e1) ?_
        refine WpL.v (V.as) ?_
        apply WpL.nil
        apply Out.seqN
        refine Wp.cT ?_
        apply Wp.seq
        apply Wp.region
        refine WpL.v (V.mv) ?_
        refine WpL.v (V.mv) ?_
        refine WpL.sk ?_
        refine WpL.sk ?_
        refine WpL.v (V.pT) ?_
        refine WpL.v (V.as) ?_
        apply WpL.nil
        apply Out.seqN
        apply Wp.seq
        apply Wp.region
        refine WpL.v (V.mv) ?_
        refine WpL.v (V.not) ?_
        apply WpL.nil
        apply Out.seqN
        refine Wp.cF ?_
        apply Wp.skip
        apply Out.blockN
        apply Out.seqN
        apply Wp.seq
        apply Wp.seq
        apply Wp.region
        refine WpL.v (V.mv) ?_
        apply WpL.nil
        apply Out.seqN
        refine Wp.cT ?_
        apply Wp.region
        refine WpL.v (V.as) ?_
        apply WpL.nil
        apply Out.seqN
        apply Wp.seq
        apply Wp.region
        refine WpL.v (V.as) ?_
        apply WpL.nil
        apply Out.seqN
        apply Wp.seq
        apply Wp.seq
        apply Wp.region
        refine WpL.v (V.fa tb) ?_
        refine WpL.v (V.ld1 tb) ?_
        apply WpL.nil
        apply Out.seqN
        apply Wp.block
        apply Wp.seq
        apply Wp.region
        refine WpL.v (V.cmp rfl rfl e0) ?_
        refine WpL.v (V.as) ?_
        apply WpL.nil
        apply Out.seqN
        refine Wp.cF ?_
        apply Wp.seq
        apply Wp.region
        refine WpL.v (V.cmp rfl rfl e1) ?_
        refine WpL.v (V.as) ?_
        apply WpL.nil
        apply Out.seqN
        refine Wp.cT ?_
        apply Wp.region
        refine WpL.v (V.mv) ?_
        refine WpL.o (Op1.callT rfl (h1) (by (repeat (first | exact Sel.nil | exact Rem.here | apply Sel.cons | apply Rem.there))) ?_)
        rintro v1 s2 ⟨rfl, rfl⟩
        refine incat ?_
        refine WpL.v (V.mv) ?_
        refine WpL.v (V.cmp) ?_
        refine WpL.v (V.eqBE tb rfl rfl (heb _)) ?_
        refine WpL.v (V.as) ?_
        apply WpL.nil
        apply Out.blockN
        apply Out.seqN
        apply Wp.seq
        apply Wp.region
        refine WpL.v (V.mv) ?_
        refine WpL.v (V.not) ?_
        refine WpL.v (V.mv) ?_
        refine WpL.v (V.mv) ?_
        refine WpL.o (Op1.callT rfl (srcDry _ _) (by (repeat (first | exact Sel.nil | exact Rem.here | apply Sel.cons | apply Rem.there))) ?_)
        rintro v3 s4 ⟨rfl, rfl⟩
        refine incat ?_
        refine WpL.v (V.mv) ?_
        refine WpL.v (V.neBE tb rfl rfl hff) ?_
        refine WpL.v (V.pF) ?_
        refine WpL.v (V.mv) ?_
        refine WpL.v (V.mv) ?_
        refine WpL.o (Op1.callT rfl (srcLeft _ _) (by (repeat (first | exact Sel.nil | exact Rem.here | apply Sel.cons | apply Rem.there))) ?_)
        rintro v5 s6 ⟨rfl, rfl⟩
        refine incat ?_
        refine WpL.v (V.mv) ?_
        refine WpL.v (V.lenS tb) ?_
        refine WpL.v (V.cmp rfl rfl (neq_self _)) ?_
        refine WpL.v (V.pF) ?_
        refine WpL.v (V.mv) ?_
        refine WpL.v (V.mv) ?_
        refine WpL.o (Op1.callT rfl (srcOver _ _) (by (repeat (first | exact Sel.nil | exact Rem.here | apply Sel.cons | apply Rem.there))) ?_)
        rintro v7 s8 ⟨rfl, rfl⟩
        refine incat ?_
        refine WpL.v (V.mv) ?_
        refine WpL.v (V.not) ?_
        refine WpL.v (V.mv) ?_
        refine WpL.sk ?_
        refine WpL.sk ?_
        refine WpL.v (V.pF) ?_
        refine WpL.v (V.neBE tb rfl rfl hff) ?_
        refine WpL.v (V.pF) ?_
        apply WpL.nil
        apply Out.seqN
        refine Wp.cF ?_
        apply Wp.skip
        apply Out.blockN
        apply Out.seqN
        apply Wp.region
        refine WpL.v (V.add) ?_
        refine WpL.v (V.mv) ?_
        apply WpL.nil
        rotate_left
        (try simp only [decide_eq_true_eq, decide_eq_false_iff_not, Bool.not_eq_true', Bool.not_eq_false', Bool.not_eq_true, Bool.not_eq_false, not_true_eq_false, not_false_eq_true, reduceCtorEq] at hg20)
        (exfalso; omega)
        exact Out.ag hK ⟨k + 1, [], true⟩ ⟨by dsimp only; omega, by simp, by simp⟩ (by dsimp only; omega)
      · have hkk : x.Kind = 2 := by omega
        have e0 : cmpI .eql x.Kind 0 = some false := by first | (simp [cmpI, *]; done) | (simp only [cmpI, Option.some.injEq, decide_eq_true_eq, decide_eq_false_iff_not]; omega)
        have e1 : cmpI .eql x.Kind 1 = some false := by first | (simp [cmpI, *]; done) | (simp only [cmpI, Option.some.injEq, decide_eq_true_eq, decide_eq_false_iff_not]; omega)
        have e2 : cmpI .eql x.Kind 2 = some true := by first | (simp [cmpI, *]; done) | (simp only [cmpI, Option.some.injEq, decide_eq_true_eq, decide_eq_false_iff_not]; omega)
        have h1 : Ct Try.prog 45 [Ptr b25 0, I x.N] [cells b25 99 (OctaveSource.c ⟨[], true⟩)] (fun r σ' => r = S [] ∧ σ' = [cells b25 99 (OctaveSource.c ⟨[], true⟩)]) := by
          have := srcText b25 ⟨[], true⟩ x.N (by simp); rwa [textS_dry] at this
        apply Wp.seq
        apply Wp.region
        refine WpL.v (V.cmp) ?_
        apply WpL.nil
        apply Out.seqN
        apply Wp.seq
        refine Wp.c (fun hg30 => ?_) (fun hg30 => ?_)
        (try simp only [decide_eq_true_eq, decide_eq_false_iff_not, Bool.not_eq_true', Bool.not_eq_false', Bool.not_eq_true, Bool.not_eq_false, not_true_eq_false, not_false_eq_true, reduceCtorEq] at hg30)
        apply Wp.skip
        apply Out.seqN
        apply Wp.seq
        apply Wp.block
        apply Wp.seq
        apply Wp.region
        refine WpL.v (V.ixR tb rfl rfl (by assumption)) ?_
        refine WpL.v (V.ldRA tb rfl (by assumption) (getMapS (by assumption))) ?_
        refine WpL.o (O.al tb (fun p8 => ?_))
        refine WpL.o (O.stA tb ?_)
        apply WpL.nil
        apply Out.seqN
        apply Wp.seq
        apply Wp.region
        refine WpL.v (V.mv) ?_
        refine WpL.v (V.fa tb) ?_
        refine WpL.v (V.ld1 tb) ?_
        refine WpL.o (Op1.fn rfl (taken _ _ ?_) ?_)
        (first | with_reducible assumption | omega | (simp only [List.length_append, List.length_cons, List.length_nil, List.length_map] at *; omega) | (focus (simp; done)))
        refine WpL.v (V.mv) ?_
        refine WpL.v (V.ex) ?_
        refine WpL.v (V.ex) ?_
        refine WpL.v (V.as) ?_
        refine WpL.v (V.as) ?_
        apply WpL.nil
        apply Out.seqN
        apply Wp.seq
        apply Wp.seq
        apply Wp.region
        refine WpL.v (V.fa tb) ?_
        refine WpL.v (V.ld1 tb) ?_
        refine WpL.v (V.cmp rfl rfl e1) ?_
        apply WpL.nil
        apply Out.seqN
        refine Wp.cF ?_
        apply Wp.skip
        apply Out.seqN
        apply Wp.seq
        apply Wp.region
        refine WpL.v (V.as) ?_
        apply WpL.nil
        apply Out.seqN
        apply Wp.seq
        apply Wp.region
        refine WpL.v (V.as) ?_
        apply WpL.nil
        apply Out.seqN
        apply Wp.seq
        apply Wp.seq
        apply Wp.region
        refine WpL.v (V.fa tb) ?_
        refine WpL.v (V.ld1 tb) ?_
        apply WpL.nil
        apply Out.seqN
        apply Wp.block
        apply Wp.seq
        apply Wp.seq
        apply Wp.region
        refine WpL.v (V.cmp rfl rfl e0) ?_
        refine WpL.v (V.as) ?_
        apply WpL.nil
        apply Out.seqN
        refine Wp.cF ?_
        apply Wp.region
        refine WpL.v (V.cmp rfl rfl e1) ?_
        refine WpL.v (V.as) ?_
        apply WpL.nil
        apply Out.seqN
        refine Wp.cF ?_
        apply Wp.seq
        apply Wp.region
        refine WpL.v (V.cmp rfl rfl e2) ?_
        refine WpL.v (V.as) ?_
        apply WpL.nil
        apply Out.seqN
        refine Wp.cT ?_
        apply Wp.seq
        apply Wp.region
        refine WpL.v (V.mv) ?_
        refine WpL.v (V.mv) ?_
        refine WpL.sk ?_
        refine WpL.sk ?_
        refine WpL.v (V.pT) ?_
        refine WpL.v (V.mv) ?_
        refine WpL.sk ?_
        refine WpL.sk ?_
        refine WpL.sk ?_
        refine WpL.sk ?_
        refine WpL.sk ?_
        refine WpL.sk ?_
        refine WpL.v (V.pT) ?_
        refine WpL.v (V.as) ?_
        apply WpL.nil
        apply Out.seqN
        apply Wp.seq
        apply Wp.region
        refine WpL.v (V.mv) ?_
        refine WpL.v (V.not) ?_
        apply WpL.nil
        apply Out.seqN
        refine Wp.cF ?_
        apply Wp.skip
        apply Out.blockN
        apply Out.seqN
        apply Wp.seq
        apply Wp.seq
        apply Wp.region
        refine WpL.v (V.mv) ?_
        apply WpL.nil
        apply Out.seqN
        refine Wp.cT ?_
        apply Wp.region
        refine WpL.v (V.as) ?_
        apply WpL.nil
        apply Out.seqN
        apply Wp.seq
        apply Wp.region
        refine WpL.v (V.as) ?_
        apply WpL.nil
        apply Out.seqN
        apply Wp.seq
        apply Wp.seq
        apply Wp.region
        refine WpL.v (V.fa tb) ?_
        refine WpL.v (V.ld1 tb) ?_
        apply WpL.nil
        apply Out.seqN
        apply Wp.block
        apply Wp.seq
        apply Wp.region
        refine WpL.v (V.cmp rfl rfl e0) ?_
        refine WpL.v (V.as) ?_
        apply WpL.nil
        apply Out.seqN
        refine Wp.cF ?_
        apply Wp.seq
        apply Wp.region
        refine WpL.v (V.cmp rfl rfl e1) ?_
        refine WpL.v (V.as) ?_
        apply WpL.nil
        apply Out.seqN
        refine Wp.cF ?_
        apply Wp.seq
        apply Wp.region
        refine WpL.v (V.cmp rfl rfl e2) ?_
        refine WpL.v (V.as) ?_
        apply WpL.nil
        apply Out.seqN
        refine Wp.cT ?_
        apply Wp.region
        refine WpL.v (V.mv) ?_
        refine WpL.v (V.fa tb) ?_
        refine WpL.v (V.ld1 tb) ?_
        refine WpL.o (Op1.callT rfl (h1) (by (repeat (first | exact Sel.nil | exact Rem.here | apply Sel.cons | apply Rem.there))) ?_)
        rintro v1 s2 ⟨rfl, rfl⟩
        refine incat ?_
        refine WpL.v (V.mv) ?_
        refine WpL.v (V.cmpS rfl rfl (eqlS_self _)) ?_
        refine WpL.v (V.as) ?_
        apply WpL.nil
        apply Out.blockN
        apply Out.seqN
        apply Wp.seq
        apply Wp.region
        refine WpL.v (V.mv) ?_
        refine WpL.v (V.not) ?_
        refine WpL.v (V.mv) ?_
        refine WpL.v (V.mv) ?_
        refine WpL.o (Op1.callT rfl (srcDry _ _) (by (repeat (first | exact Sel.nil | exact Rem.here | apply Sel.cons | apply Rem.there))) ?_)
        rintro v3 s4 ⟨rfl, rfl⟩
        refine incat ?_
        refine WpL.v (V.mv) ?_
        refine WpL.v (V.neBE tb rfl rfl hff) ?_
        refine WpL.v (V.pF) ?_
        refine WpL.v (V.mv) ?_
        refine WpL.v (V.mv) ?_
        refine WpL.o (Op1.callT rfl (srcLeft _ _) (by (repeat (first | exact Sel.nil | exact Rem.here | apply Sel.cons | apply Rem.there))) ?_)
        rintro v5 s6 ⟨rfl, rfl⟩
        refine incat ?_
        refine WpL.v (V.mv) ?_
        refine WpL.v (V.lenS tb) ?_
        refine WpL.v (V.cmp rfl rfl (neq_self _)) ?_
        refine WpL.v (V.pF) ?_
        refine WpL.v (V.mv) ?_
        refine WpL.v (V.mv) ?_
        refine WpL.o (Op1.callT rfl (srcOver _ _) (by (repeat (first | exact Sel.nil | exact Rem.here | apply Sel.cons | apply Rem.there))) ?_)
        rintro v7 s8 ⟨rfl, rfl⟩
        refine incat ?_
        refine WpL.v (V.mv) ?_
        refine WpL.v (V.not) ?_
        refine WpL.v (V.mv) ?_
        refine WpL.sk ?_
        refine WpL.sk ?_
        refine WpL.v (V.pF) ?_
        refine WpL.v (V.neBE tb rfl rfl hff) ?_
        refine WpL.v (V.pF) ?_
        apply WpL.nil
        apply Out.seqN
        refine Wp.cF ?_
        apply Wp.skip
        apply Out.blockN
        apply Out.seqN
        apply Wp.region
        refine WpL.v (V.add) ?_
        refine WpL.v (V.mv) ?_
        apply WpL.nil
        rotate_left
        (try simp only [decide_eq_true_eq, decide_eq_false_iff_not, Bool.not_eq_true', Bool.not_eq_false', Bool.not_eq_true, Bool.not_eq_false, not_true_eq_false, not_false_eq_true, reduceCtorEq] at hg30)
        (exfalso; omega)
        exact Out.ag hK ⟨k + 1, [], true⟩ ⟨by dsimp only; omega, by simp, by simp⟩ (by dsimp only; omega)
      · have hkk : x.Kind ≠ 0 ∧ x.Kind ≠ 1 ∧ x.Kind ≠ 2 := by omega
        obtain ⟨hk0, hk1, hk2⟩ := hkk
        have e0 : cmpI .eql x.Kind 0 = some false := by first | (simp [cmpI, *]; done) | (simp only [cmpI, Option.some.injEq, decide_eq_true_eq, decide_eq_false_iff_not]; omega)
        have e1 : cmpI .eql x.Kind 1 = some false := by first | (simp [cmpI, *]; done) | (simp only [cmpI, Option.some.injEq, decide_eq_true_eq, decide_eq_false_iff_not]; omega)
        have e2 : cmpI .eql x.Kind 2 = some false := by first | (simp [cmpI, *]; done) | (simp only [cmpI, Option.some.injEq, decide_eq_true_eq, decide_eq_false_iff_not]; omega)
        have h1 : Ct Try.prog 46 [Ptr b25 0, I x.N] [cells b25 99 (OctaveSource.c ⟨[], true⟩)] (fun r σ' => r = S [] ∧ σ' = [cells b25 99 (OctaveSource.c ⟨[], true⟩)]) := by
          have := srcRaw b25 ⟨[], true⟩ x.N (by simp); rwa [rawS_dry] at this
        apply Wp.seq
        apply Wp.region
        refine WpL.v (V.cmp) ?_
        apply WpL.nil
        apply Out.seqN
        apply Wp.seq
        refine Wp.c (fun hg40 => ?_) (fun hg40 => ?_)
        (try simp only [decide_eq_true_eq, decide_eq_false_iff_not, Bool.not_eq_true', Bool.not_eq_false', Bool.not_eq_true, Bool.not_eq_false, not_true_eq_false, not_false_eq_true, reduceCtorEq] at hg40)
        apply Wp.skip
        apply Out.seqN
        apply Wp.seq
        apply Wp.block
        apply Wp.seq
        apply Wp.region
        refine WpL.v (V.ixR tb rfl rfl (by assumption)) ?_
        refine WpL.v (V.ldRA tb rfl (by assumption) (getMapS (by assumption))) ?_
        refine WpL.o (O.al tb (fun p8 => ?_))
        refine WpL.o (O.stA tb ?_)
        apply WpL.nil
        apply Out.seqN
        apply Wp.seq
        apply Wp.region
        refine WpL.v (V.mv) ?_
        refine WpL.v (V.fa tb) ?_
        refine WpL.v (V.ld1 tb) ?_
        refine WpL.o (Op1.fn rfl (taken _ _ ?_) ?_)
        (first | with_reducible assumption | omega | (simp only [List.length_append, List.length_cons, List.length_nil, List.length_map] at *; omega) | (focus (simp; done)))
        refine WpL.v (V.mv) ?_
        refine WpL.v (V.ex) ?_
        refine WpL.v (V.ex) ?_
        refine WpL.v (V.as) ?_
        refine WpL.v (V.as) ?_
        apply WpL.nil
        apply Out.seqN
        apply Wp.seq
        apply Wp.seq
        apply Wp.region
        refine WpL.v (V.fa tb) ?_
        refine WpL.v (V.ld1 tb) ?_
        refine WpL.v (V.cmp rfl rfl e1) ?_
        apply WpL.nil
        apply Out.seqN
        refine Wp.cF ?_
        apply Wp.skip
        apply Out.seqN
        apply Wp.seq
        apply Wp.region
        refine WpL.v (V.as) ?_
        apply WpL.nil
        apply Out.seqN
        apply Wp.seq
        apply Wp.region
        refine WpL.v (V.as) ?_
        apply WpL.nil
        apply Out.seqN
        apply Wp.seq
        apply Wp.seq
        apply Wp.region
        refine WpL.v (V.fa tb) ?_
        refine WpL.v (V.ld1 tb) ?_
        apply WpL.nil
        apply Out.seqN
        apply Wp.block
        apply Wp.seq
        apply Wp.seq
        apply Wp.region
        refine WpL.v (V.cmp rfl rfl e0) ?_
        refine WpL.v (V.as) ?_
        apply WpL.nil
        apply Out.seqN
        refine Wp.cF ?_
        apply Wp.region
        refine WpL.v (V.cmp rfl rfl e1) ?_
        refine WpL.v (V.as) ?_
        apply WpL.nil
        apply Out.seqN
        refine Wp.cF ?_
        apply Wp.seq
        apply Wp.region
        refine WpL.v (V.cmp rfl rfl e2) ?_
        refine WpL.v (V.as) ?_
        apply WpL.nil
        apply Out.seqN
        refine Wp.cF ?_
        apply Wp.seq
        apply Wp.region
        refine WpL.v (V.mv) ?_
        refine WpL.v (V.mv) ?_
        refine WpL.sk ?_
        refine WpL.sk ?_
        refine WpL.sk ?_
        refine WpL.v (V.pT) ?_
        refine WpL.v (V.mv) ?_
        refine WpL.sk ?_
        refine WpL.sk ?_
        refine WpL.sk ?_
        refine WpL.sk ?_
        refine WpL.sk ?_
        refine WpL.v (V.pT) ?_
        refine WpL.v (V.as) ?_
        apply WpL.nil
        apply Out.seqN
        apply Wp.seq
        apply Wp.region
        refine WpL.v (V.mv) ?_
        refine WpL.v (V.not) ?_
        apply WpL.nil
        apply Out.seqN
        refine Wp.cF ?_
        apply Wp.skip
        apply Out.blockN
        apply Out.seqN
        apply Wp.seq
        apply Wp.seq
        apply Wp.region
        refine WpL.v (V.mv) ?_
        apply WpL.nil
        apply Out.seqN
        refine Wp.cT ?_
        apply Wp.region
        refine WpL.v (V.as) ?_
        apply WpL.nil
        apply Out.seqN
        apply Wp.seq
        apply Wp.region
        refine WpL.v (V.as) ?_
        apply WpL.nil
        apply Out.seqN
        apply Wp.seq
        apply Wp.seq
        apply Wp.region
        refine WpL.v (V.fa tb) ?_
        refine WpL.v (V.ld1 tb) ?_
        apply WpL.nil
        apply Out.seqN
        apply Wp.block
        apply Wp.seq
        apply Wp.region
        refine WpL.v (V.cmp rfl rfl e0) ?_
        refine WpL.v (V.as) ?_
        apply WpL.nil
        apply Out.seqN
        refine Wp.cF ?_
        apply Wp.seq
        apply Wp.region
        refine WpL.v (V.cmp rfl rfl e1) ?_
        refine WpL.v (V.as) ?_
        apply WpL.nil
        apply Out.seqN
        refine Wp.cF ?_
        apply Wp.seq
        apply Wp.region
        refine WpL.v (V.cmp rfl rfl e2) ?_
        refine WpL.v (V.as) ?_
        apply WpL.nil
        apply Out.seqN
        refine Wp.cF ?_
        apply Wp.region
        refine WpL.v (V.mv) ?_
        refine WpL.v (V.fa tb) ?_
        refine WpL.v (V.ld1 tb) ?_
        refine WpL.o (Op1.callT rfl (h1) (by (repeat (first | exact Sel.nil | exact Rem.here | apply Sel.cons | apply Rem.there))) ?_)
        rintro v1 s2 ⟨rfl, rfl⟩
        refine incat ?_
        refine WpL.v (V.mv) ?_
        refine WpL.v (V.cmpS rfl rfl (eqlS_self _)) ?_
        refine WpL.v (V.as) ?_
        apply WpL.nil
        apply Out.blockN
        apply Out.seqN
        apply Wp.seq
        apply Wp.region
        refine WpL.v (V.mv) ?_
        refine WpL.v (V.not) ?_
        refine WpL.v (V.mv) ?_
        refine WpL.v (V.mv) ?_
        refine WpL.o (Op1.callT rfl (srcDry _ _) (by (repeat (first | exact Sel.nil | exact Rem.here | apply Sel.cons | apply Rem.there))) ?_)
        rintro v3 s4 ⟨rfl, rfl⟩
        refine incat ?_
        refine WpL.v (V.mv) ?_
        refine WpL.v (V.neBE tb rfl rfl hff) ?_
        refine WpL.v (V.pF) ?_
        refine WpL.v (V.mv) ?_
        refine WpL.v (V.mv) ?_
        refine WpL.o (Op1.callT rfl (srcLeft _ _) (by (repeat (first | exact Sel.nil | exact Rem.here | apply Sel.cons | apply Rem.there))) ?_)
        rintro v5 s6 ⟨rfl, rfl⟩
        refine incat ?_
        refine WpL.v (V.mv) ?_
        refine WpL.v (V.lenS tb) ?_
        refine WpL.v (V.cmp rfl rfl (neq_self _)) ?_
        refine WpL.v (V.pF) ?_
        refine WpL.v (V.mv) ?_
        refine WpL.v (V.mv) ?_
        refine WpL.o (Op1.callT rfl (srcOver _ _) (by (repeat (first | exact Sel.nil | exact Rem.here | apply Sel.cons | apply Rem.there))) ?_)
        rintro v7 s8 ⟨rfl, rfl⟩
        refine incat ?_
        refine WpL.v (V.mv) ?_
        refine WpL.v (V.not) ?_
        refine WpL.v (V.mv) ?_
        refine WpL.sk ?_
        refine WpL.sk ?_
        refine WpL.v (V.pF) ?_
        refine WpL.v (V.neBE tb rfl rfl hff) ?_
        refine WpL.v (V.pF) ?_
        apply WpL.nil
        apply Out.seqN
        refine Wp.cF ?_
        apply Wp.skip
        apply Out.blockN
        apply Out.seqN
        apply Wp.region
        refine WpL.v (V.add) ?_
        refine WpL.v (V.mv) ?_
        apply WpL.nil
        rotate_left
        (try simp only [decide_eq_true_eq, decide_eq_false_iff_not, Bool.not_eq_true', Bool.not_eq_false', Bool.not_eq_true, Bool.not_eq_false, not_true_eq_false, not_false_eq_true, reduceCtorEq] at hg40)
        (exfalso; omega)
        exact Out.ag hK ⟨k + 1, [], true⟩ ⟨by dsimp only; omega, by simp, by simp⟩ (by dsimp only; omega)
    | false =>
      rcases (by omega : x.Kind = 0 ∨ x.Kind = 1 ∨ x.Kind = 2 ∨ (x.Kind ≠ 0 ∧ x.Kind ≠ 1 ∧ x.Kind ≠ 2)) with hc | hc | hc | hc
      · have hkk : x.Kind = 0 := by omega
        have e0 : cmpI .eql x.Kind 0 = some true := by first | (simp [cmpI, *]; done) | (simp only [cmpI, Option.some.injEq, decide_eq_true_eq, decide_eq_false_iff_not]; omega)
        have e1 : cmpI .eql x.Kind 1 = some false := by first | (simp [cmpI, *]; done) | (simp only [cmpI, Option.some.injEq, decide_eq_true_eq, decide_eq_false_iff_not]; omega)
        have e2 : cmpI .eql x.Kind 2 = some false := by first | (simp [cmpI, *]; done) | (simp only [cmpI, Option.some.injEq, decide_eq_true_eq, decide_eq_false_iff_not]; omega)
        rcases taken_law b x.N with ⟨t1, t2⟩ | ⟨v, p, rest, rfl, hp, hv, t1, t2⟩
        · have hT : Fun Try.prog 41 [S b, I x.N] (.tuple #[I 0, I 0]) := by
            have := taken b x.N (by simp at *; omega); rwa [t1] at this
          have h1 : Ct Try.prog 40 [Ptr b25 0, I x.N] [cells b25 99 (OctaveSource.c ⟨b, false⟩)] (fun r σ' => r = I 0 ∧ σ' = [cells b25 99 (OctaveSource.c ⟨[], true⟩)]) := by
            have := srcNat b25 ⟨b, false⟩ x.N (by simp at *; omega); rwa [t2] at this
          apply Wp.seq
          apply Wp.region
          refine WpL.v (V.cmp) ?_
          apply WpL.nil
          apply Out.seqN
          apply Wp.seq
          refine Wp.c (fun hg50 => ?_) (fun hg50 => ?_)
          (try simp only [decide_eq_true_eq, decide_eq_false_iff_not, Bool.not_eq_true', Bool.not_eq_false', Bool.not_eq_true, Bool.not_eq_false, not_true_eq_false, not_false_eq_true, reduceCtorEq] at hg50)
          apply Wp.skip
          apply Out.seqN
          apply Wp.seq
          apply Wp.block
          apply Wp.seq
          apply Wp.region
          refine WpL.v (V.ixR tb rfl rfl (by assumption)) ?_
          refine WpL.v (V.ldRA tb rfl (by assumption) (getMapS (by assumption))) ?_
          refine WpL.o (O.al tb (fun p8 => ?_))
          refine WpL.o (O.stA tb ?_)
          apply WpL.nil
          apply Out.seqN
          apply Wp.seq
          apply Wp.region
          refine WpL.v (V.mv) ?_
          refine WpL.v (V.fa tb) ?_
          refine WpL.v (V.ld1 tb) ?_
          refine WpL.o (Op1.fn rfl (hT) ?_)
          refine WpL.v (V.mv) ?_
          refine WpL.v (V.ex) ?_
          refine WpL.v (V.ex) ?_
          refine WpL.v (V.as) ?_
          refine WpL.v (V.as) ?_
          apply WpL.nil
          apply Out.seqN
          apply Wp.seq
          apply Wp.seq
          apply Wp.region
          refine WpL.v (V.fa tb) ?_
          refine WpL.v (V.ld1 tb) ?_
          refine WpL.v (V.cmp rfl rfl e1) ?_
          apply WpL.nil
          apply Out.seqN
          refine Wp.cF ?_
          apply Wp.skip
          apply Out.seqN
          apply Wp.seq
          apply Wp.region
          refine WpL.v (V.as) ?_
          apply WpL.nil
          apply Out.seqN
          apply Wp.seq
          apply Wp.region
          refine WpL.v (V.as) ?_
          apply WpL.nil
          apply Out.seqN
          apply Wp.seq
          apply Wp.seq
          apply Wp.region
          refine WpL.v (V.fa tb) ?_
          refine WpL.v (V.ld1 tb) ?_
          apply WpL.nil
          apply Out.seqN
          apply Wp.block
          apply Wp.seq
          apply Wp.seq
          apply Wp.region
          refine WpL.v (V.cmp rfl rfl e0) ?_
          refine WpL.v (V.as) ?_
          apply WpL.nil
          apply Out.seqN
          refine Wp.cT ?_
          apply Wp.skip
          apply Out.seqN
          refine Wp.cT ?_
          apply Wp.seq
          apply Wp.region
          refine WpL.v (V.mv) ?_
          refine WpL.v (V.mv) ?_
          refine WpL.v (V.mv) ?_
          refine WpL.v (V.cmp rfl rfl (eql_self _)) ?_
          refine WpL.v (V.pF) ?_
          refine WpL.v (V.as) ?_
          apply WpL.nil
          apply Out.seqN
          apply Wp.seq
          apply Wp.region
          refine WpL.v (V.mv) ?_
          refine WpL.v (V.not) ?_
          apply WpL.nil
          apply Out.seqN
          refine Wp.cF ?_
          apply Wp.skip
          apply Out.blockN
          apply Out.seqN
          apply Wp.seq
          apply Wp.seq
          apply Wp.region
          refine WpL.v (V.mv) ?_
          apply WpL.nil
          apply Out.seqN
          refine Wp.cT ?_
          apply Wp.region
          refine WpL.v (V.as) ?_
          apply WpL.nil
          apply Out.seqN
          apply Wp.seq
          apply Wp.region
          refine WpL.v (V.as) ?_
          apply WpL.nil
          apply Out.seqN
          apply Wp.seq
          apply Wp.seq
          apply Wp.region
          refine WpL.v (V.fa tb) ?_
          refine WpL.v (V.ld1 tb) ?_
          apply WpL.nil
          apply Out.seqN
          apply Wp.block
          apply Wp.seq
          apply Wp.region
          refine WpL.v (V.cmp rfl rfl e0) ?_
          refine WpL.v (V.as) ?_
          apply WpL.nil
          apply Out.seqN
          refine Wp.cT ?_
          apply Wp.region
          refine WpL.v (V.mv) ?_
          refine WpL.v (V.fa tb) ?_
          refine WpL.v (V.ld1 tb) ?_
          refine WpL.o (Op1.callT rfl (h1) (by (repeat (first | exact Sel.nil | exact Rem.here | apply Sel.cons | apply Rem.there))) ?_)
          rintro v1 s2 ⟨rfl, rfl⟩
          refine incat ?_
          refine WpL.v (V.mv) ?_
          refine WpL.v (V.cmp rfl rfl (eql_self _)) ?_
          refine WpL.v (V.as) ?_
          apply WpL.nil
          apply Out.blockN
          apply Out.seqN
          apply Wp.seq
          apply Wp.region
          refine WpL.v (V.mv) ?_
          refine WpL.v (V.not) ?_
          refine WpL.v (V.mv) ?_
          refine WpL.v (V.mv) ?_
          refine WpL.o (Op1.callT rfl (srcDry _ _) (by (repeat (first | exact Sel.nil | exact Rem.here | apply Sel.cons | apply Rem.there))) ?_)
          rintro v3 s4 ⟨rfl, rfl⟩
          refine incat ?_
          refine WpL.v (V.mv) ?_
          refine WpL.v (V.neBE tb rfl rfl hff) ?_
          refine WpL.v (V.pF) ?_
          refine WpL.v (V.mv) ?_
          refine WpL.v (V.mv) ?_
          refine WpL.o (Op1.callT rfl (srcLeft _ _) (by (repeat (first | exact Sel.nil | exact Rem.here | apply Sel.cons | apply Rem.there))) ?_)
          rintro v5 s6 ⟨rfl, rfl⟩
          refine incat ?_
          refine WpL.v (V.mv) ?_
          refine WpL.v (V.lenS tb) ?_
          refine WpL.v (V.cmp rfl rfl (neq_self _)) ?_
          refine WpL.v (V.pF) ?_
          refine WpL.v (V.mv) ?_
          refine WpL.v (V.mv) ?_
          refine WpL.o (Op1.callT rfl (srcOver _ _) (by (repeat (first | exact Sel.nil | exact Rem.here | apply Sel.cons | apply Rem.there))) ?_)
          rintro v7 s8 ⟨rfl, rfl⟩
          refine incat ?_
          refine WpL.v (V.mv) ?_
          refine WpL.v (V.not) ?_
          refine WpL.v (V.mv) ?_
          refine WpL.sk ?_
          refine WpL.sk ?_
          refine WpL.v (V.pF) ?_
          refine WpL.v (V.neBE tb rfl rfl hff) ?_
          refine WpL.v (V.pF) ?_
          apply WpL.nil
          apply Out.seqN
          refine Wp.cF ?_
          apply Wp.skip
          apply Out.blockN
          apply Out.seqN
          apply Wp.region
          refine WpL.v (V.add) ?_
          refine WpL.v (V.mv) ?_
          apply WpL.nil
          rotate_left
          (try simp only [decide_eq_true_eq, decide_eq_false_iff_not, Bool.not_eq_true', Bool.not_eq_false', Bool.not_eq_true, Bool.not_eq_false, not_true_eq_false, not_false_eq_true, reduceCtorEq] at hg50)
          (exfalso; omega)
          exact Out.ag hK ⟨k + 1, [], true⟩ ⟨by dsimp only; omega, by simp, by simp⟩ (by dsimp only; omega)
        · have hl : (p ++ rest).length = p.length + rest.length := List.length_append
          have hT : Fun Try.prog 41 [S (p ++ rest), I x.N] (.tuple #[I v, I p.length]) := by
            have := taken (p ++ rest) x.N (by simp at *; omega); rwa [t1] at this
          have h1 : Ct Try.prog 40 [Ptr b25 0, I x.N] [cells b25 99 (OctaveSource.c ⟨(p ++ rest), false⟩)] (fun r σ' => r = I v ∧ σ' = [cells b25 99 (OctaveSource.c ⟨rest, false⟩)]) := by
            have := srcNat b25 ⟨(p ++ rest), false⟩ x.N (by simp at *; omega); rwa [t2] at this
          have hz : cmpI .eql (p.length : Int) 0 = some false := by first | (simp [cmpI, *]; done) | (simp only [cmpI, Option.some.injEq, decide_eq_true_eq, decide_eq_false_iff_not]; omega)
          have hs : (p ++ rest).drop ((p.length : Int)).toNat = rest := by simp
          apply Wp.seq
          apply Wp.region
          refine WpL.v (V.cmp) ?_
          apply WpL.nil
          apply Out.seqN
          apply Wp.seq
          refine Wp.c (fun hg60 => ?_) (fun hg60 => ?_)
          (try simp only [decide_eq_true_eq, decide_eq_false_iff_not, Bool.not_eq_true', Bool.not_eq_false', Bool.not_eq_true, Bool.not_eq_false, not_true_eq_false, not_false_eq_true, reduceCtorEq] at hg60)
          apply Wp.skip
          apply Out.seqN
          apply Wp.seq
          apply Wp.block
          apply Wp.seq
          apply Wp.region
          refine WpL.v (V.ixR tb rfl rfl (by assumption)) ?_
          refine WpL.v (V.ldRA tb rfl (by assumption) (getMapS (by assumption))) ?_
          refine WpL.o (O.al tb (fun p8 => ?_))
          refine WpL.o (O.stA tb ?_)
          apply WpL.nil
          apply Out.seqN
          apply Wp.seq
          apply Wp.region
          refine WpL.v (V.mv) ?_
          refine WpL.v (V.fa tb) ?_
          refine WpL.v (V.ld1 tb) ?_
          refine WpL.o (Op1.fn rfl (hT) ?_)
          refine WpL.v (V.mv) ?_
          refine WpL.v (V.ex) ?_
          refine WpL.v (V.ex) ?_
          refine WpL.v (V.as) ?_
          refine WpL.v (V.as) ?_
          apply WpL.nil
          apply Out.seqN
          apply Wp.seq
          apply Wp.seq
          apply Wp.region
          refine WpL.v (V.fa tb) ?_
          refine WpL.v (V.ld1 tb) ?_
          refine WpL.v (V.cmp rfl rfl e1) ?_
          apply WpL.nil
          apply Out.seqN
          refine Wp.cF ?_
          apply Wp.skip
          apply Out.seqN
          apply Wp.seq
          apply Wp.region
          refine WpL.v (V.as) ?_
          apply WpL.nil
          apply Out.seqN
          apply Wp.seq
          apply Wp.region
          refine WpL.v (V.as) ?_
          apply WpL.nil
          apply Out.seqN
          apply Wp.seq
          apply Wp.seq
          apply Wp.region
          refine WpL.v (V.fa tb) ?_
          refine WpL.v (V.ld1 tb) ?_
          apply WpL.nil
          apply Out.seqN
          apply Wp.block
          apply Wp.seq
          apply Wp.seq
          apply Wp.region
          refine WpL.v (V.cmp rfl rfl e0) ?_
          refine WpL.v (V.as) ?_
          apply WpL.nil
          apply Out.seqN
          refine Wp.cT ?_
          apply Wp.skip
          apply Out.seqN
          refine Wp.cT ?_
          apply Wp.seq
          apply Wp.region
          refine WpL.v (V.mv) ?_
          refine WpL.v (V.mv) ?_
          refine WpL.v (V.mv) ?_
          refine WpL.v (V.cmp rfl rfl hz) ?_
          refine WpL.v (V.pF) ?_
          refine WpL.v (V.as) ?_
          apply WpL.nil
          apply Out.seqN
          apply Wp.seq
          apply Wp.region
          refine WpL.v (V.mv) ?_
          refine WpL.v (V.not) ?_
          apply WpL.nil
          apply Out.seqN
          refine Wp.cT ?_
          apply Wp.seq
          apply Wp.region
          refine WpL.v (V.mv) ?_
          refine WpL.v (V.as) ?_
          apply WpL.nil
          apply Out.seqN
          apply Wp.region
          refine WpL.v (V.mv) ?_
          refine WpL.v (V.mv) ?_
          refine WpL.v (V.slLoE tb rfl rfl hs) ?_
          refine WpL.v (V.as) ?_
          apply WpL.nil
          apply Out.blockN
          apply Out.seqN
          apply Wp.seq
          apply Wp.seq
          apply Wp.region
          refine WpL.v (V.mv) ?_
          apply WpL.nil
          apply Out.seqN
          refine Wp.cF ?_
          apply Wp.skip
          apply Out.seqN
          apply Wp.seq
          apply Wp.region
          refine WpL.v (V.as) ?_
          apply WpL.nil
          apply Out.seqN
          apply Wp.seq
          apply Wp.seq
          apply Wp.region
          refine WpL.v (V.fa tb) ?_
          refine WpL.v (V.ld1 tb) ?_
          apply WpL.nil
          apply Out.seqN
          apply Wp.block
          apply Wp.seq
          apply Wp.region
          refine WpL.v (V.cmp rfl rfl e0) ?_
          refine WpL.v (V.as) ?_
          apply WpL.nil
          apply Out.seqN
          refine Wp.cT ?_
          apply Wp.region
          refine WpL.v (V.mv) ?_
          refine WpL.v (V.fa tb) ?_
          refine WpL.v (V.ld1 tb) ?_
          refine WpL.o (Op1.callT rfl (h1) (by (repeat (first | exact Sel.nil | exact Rem.here | apply Sel.cons | apply Rem.there))) ?_)
          rintro v1 s2 ⟨rfl, rfl⟩
          refine incat ?_
          refine WpL.v (V.mv) ?_
          refine WpL.v (V.cmp rfl rfl (eql_self _)) ?_
          refine WpL.v (V.as) ?_
          apply WpL.nil
          apply Out.blockN
          apply Out.seqN
          apply Wp.seq
          apply Wp.region
          refine WpL.v (V.mv) ?_
          refine WpL.v (V.not) ?_
          refine WpL.v (V.mv) ?_
          refine WpL.v (V.mv) ?_
          refine WpL.o (Op1.callT rfl (srcDry _ _) (by (repeat (first | exact Sel.nil | exact Rem.here | apply Sel.cons | apply Rem.there))) ?_)
          rintro v3 s4 ⟨rfl, rfl⟩
          refine incat ?_
          refine WpL.v (V.mv) ?_
          refine WpL.v (V.neBE tb rfl rfl hff) ?_
          refine WpL.v (V.pF) ?_
          refine WpL.v (V.mv) ?_
          refine WpL.v (V.mv) ?_
          refine WpL.o (Op1.callT rfl (srcLeft _ _) (by (repeat (first | exact Sel.nil | exact Rem.here | apply Sel.cons | apply Rem.there))) ?_)
          rintro v5 s6 ⟨rfl, rfl⟩
          refine incat ?_
          refine WpL.v (V.mv) ?_
          refine WpL.v (V.lenS tb) ?_
          refine WpL.v (V.cmp rfl rfl (neq_self _)) ?_
          refine WpL.v (V.pF) ?_
          refine WpL.v (V.mv) ?_
          refine WpL.v (V.mv) ?_
          refine WpL.o (Op1.callT rfl (srcOver _ _) (by (repeat (first | exact Sel.nil | exact Rem.here | apply Sel.cons | apply Rem.there))) ?_)
          rintro v7 s8 ⟨rfl, rfl⟩
          refine incat ?_
          refine WpL.v (V.mv) ?_
          refine WpL.v (V.not) ?_
          refine WpL.v (V.mv) ?_
          refine WpL.v (V.mv) ?_
          refine WpL.v (V.cmpS) ?_
          refine WpL.v (V.pT) ?_
          refine WpL.v (V.neBE tb rfl rfl (hov _)) ?_
          refine WpL.v (V.pF) ?_
          apply WpL.nil
          apply Out.seqN
          refine Wp.cF ?_
          apply Wp.skip
          apply Out.blockN
          apply Out.seqN
          apply Wp.region
          refine WpL.v (V.add) ?_
          refine WpL.v (V.mv) ?_
          apply WpL.nil
          rotate_left
          (try simp only [decide_eq_true_eq, decide_eq_false_iff_not, Bool.not_eq_true', Bool.not_eq_false', Bool.not_eq_true, Bool.not_eq_false, not_true_eq_false, not_false_eq_true, reduceCtorEq] at hg60)
          (exfalso; omega)
          exact Out.ag hK ⟨k + 1, rest, false⟩ ⟨by dsimp only; omega, by dsimp only; omega, by simp⟩ (by dsimp only; omega)
      · have hkk : x.Kind = 1 := by omega
        have e0 : cmpI .eql x.Kind 0 = some false := by first | (simp [cmpI, *]; done) | (simp only [cmpI, Option.some.injEq, decide_eq_true_eq, decide_eq_false_iff_not]; omega)
        have e1 : cmpI .eql x.Kind 1 = some true := by first | (simp [cmpI, *]; done) | (simp only [cmpI, Option.some.injEq, decide_eq_true_eq, decide_eq_false_iff_not]; omega)
        have e2 : cmpI .eql x.Kind 2 = some false := by first | (simp [cmpI, *]; done) | (simp only [cmpI, Option.some.injEq, decide_eq_true_eq, decide_eq_false_iff_not]; omega)
        rcases taken_law b 1 with ⟨t1, t2⟩ | ⟨v, p, rest, rfl, hp, hv, t1, t2⟩
        · have hT : Fun Try.prog 41 [S b, I 1] (.tuple #[I 0, I 0]) := by
            have := taken b 1 (by simp at *; omega); rwa [t1] at this
          have h1 : Ct Try.prog 44 [Ptr b25 0] [cells b25 99 (OctaveSource.c ⟨b, false⟩)] (fun r σ' => r = B (decide ((0 : Int) = 1)) ∧ σ' = [cells b25 99 (OctaveSource.c ⟨[], true⟩)]) := by
            have := srcBit b25 ⟨b, false⟩ (by simp at *; omega); rwa [t2] at this
          apply Wp.seq
          apply Wp.region
          refine WpL.v (V.cmp) ?_
          apply WpL.nil
          apply Out.seqN
          apply Wp.seq
          refine Wp.c (fun hg70 => ?_) (fun hg70 => ?_)
          (try simp only [decide_eq_true_eq, decide_eq_false_iff_not, Bool.not_eq_true', Bool.not_eq_false', Bool.not_eq_true, Bool.not_eq_false, not_true_eq_false, not_false_eq_true, reduceCtorEq] at hg70)
          apply Wp.skip
          apply Out.seqN
          apply Wp.seq
          apply Wp.block
          apply Wp.seq
          apply Wp.region
          refine WpL.v (V.ixR tb rfl rfl (by assumption)) ?_
          refine WpL.v (V.ldRA tb rfl (by assumption) (getMapS (by assumption))) ?_
          refine WpL.o (O.al tb (fun p8 => ?_))
          refine WpL.o (O.stA tb ?_)
          apply WpL.nil
          apply Out.seqN
          apply Wp.seq
          apply Wp.region
          refine WpL.v (V.mv) ?_
          refine WpL.v (V.fa tb) ?_
          refine WpL.v (V.ld1 tb) ?_
          refine WpL.o (Op1.fn rfl (taken _ _ ?_) ?_)
          (first | with_reducible assumption | omega | (simp only [List.length_append, List.length_cons, List.length_nil, List.length_map] at *; omega) | (focus (simp; done)))
          refine WpL.v (V.mv) ?_
          refine WpL.v (V.ex) ?_
          refine WpL.v (V.ex) ?_
          refine WpL.v (V.as) ?_
          refine WpL.v (V.as) ?_
          apply WpL.nil
          apply Out.seqN
          apply Wp.seq
          apply Wp.seq
          apply Wp.region
          refine WpL.v (V.fa tb) ?_
          refine WpL.v (V.ld1 tb) ?_
          refine WpL.v (V.cmp rfl rfl e1) ?_
          apply WpL.nil
          apply Out.seqN
          refine Wp.cT ?_
          apply Wp.region
          refine WpL.v (V.mv) ?_
          refine WpL.o (Op1.fn rfl (hT) ?_)
          refine WpL.v (V.mv) ?_
          refine WpL.v (V.ex) ?_
          refine WpL.v (V.ex) ?_
          refine WpL.v (V.as) ?_
          refine WpL.v (V.as) ?_
          apply WpL.nil
          apply Out.seqN
          apply Wp.seq
          apply Wp.region
          refine WpL.v (V.as) ?_
          apply WpL.nil
          apply Out.seqN
          apply Wp.seq
          apply Wp.region
          refine WpL.v (V.as) ?_
          apply WpL.nil
          apply Out.seqN
          apply Wp.seq
          apply Wp.seq
          apply Wp.region
          refine WpL.v (V.fa tb) ?_
          refine WpL.v (V.ld1 tb) ?_
          apply WpL.nil
          apply Out.seqN
          apply Wp.block
          apply Wp.seq
          apply Wp.seq
          apply Wp.region
          refine WpL.v (V.cmp rfl rfl e0) ?_
          refine WpL.v (V.as) ?_
          apply WpL.nil
          apply Out.seqN
          refine Wp.cF ?_
          apply Wp.region
          refine WpL.v (V.cmp rfl rfl e1) ?_
          refine WpL.v (V.as) ?_
          apply WpL.nil
          apply Out.seqN
          refine Wp.cT ?_
          apply Wp.seq
          apply Wp.region
          refine WpL.v (V.mv) ?_
          refine WpL.v (V.mv) ?_
          refine WpL.v (V.mv) ?_
          refine WpL.v (V.cmp rfl rfl (eql_self _)) ?_
          refine WpL.v (V.pF) ?_
          refine WpL.v (V.as) ?_
          apply WpL.nil
          apply Out.seqN
          apply Wp.seq
          apply Wp.region
          refine WpL.v (V.mv) ?_
          refine WpL.v (V.not) ?_
          apply WpL.nil
          apply Out.seqN
          refine Wp.cF ?_
          apply Wp.skip
          apply Out.blockN
          apply Out.seqN
          apply Wp.seq
          apply Wp.seq
          apply Wp.region
          refine WpL.v (V.mv) ?_
          apply WpL.nil
          apply Out.seqN
          refine Wp.cT ?_
          apply Wp.region
          refine WpL.v (V.as) ?_
          apply WpL.nil
          apply Out.seqN
          apply Wp.seq
          apply Wp.region
          refine WpL.v (V.as) ?_
          apply WpL.nil
          apply Out.seqN
          apply Wp.seq
          apply Wp.seq
          apply Wp.region
          refine WpL.v (V.fa tb) ?_
          refine WpL.v (V.ld1 tb) ?_
          apply WpL.nil
          apply Out.seqN
          apply Wp.block
          apply Wp.seq
          apply Wp.region
          refine WpL.v (V.cmp rfl rfl e0) ?_
          refine WpL.v (V.as) ?_
          apply WpL.nil
          apply Out.seqN
          refine Wp.cF ?_
          apply Wp.seq
          apply Wp.region
          refine WpL.v (V.cmp rfl rfl e1) ?_
          refine WpL.v (V.as) ?_
          apply WpL.nil
          apply Out.seqN
          refine Wp.cT ?_
          apply Wp.region
          refine WpL.v (V.mv) ?_
          refine WpL.o (Op1.callT rfl (h1) (by (repeat (first | exact Sel.nil | exact Rem.here | apply Sel.cons | apply Rem.there))) ?_)
          rintro v1 s2 ⟨rfl, rfl⟩
          refine incat ?_
          refine WpL.v (V.mv) ?_
          refine WpL.v (V.cmp) ?_
          refine WpL.v (V.eqBE tb rfl rfl (heb _)) ?_
          refine WpL.v (V.as) ?_
          apply WpL.nil
          apply Out.blockN
          apply Out.seqN
          apply Wp.seq
          apply Wp.region
          refine WpL.v (V.mv) ?_
          refine WpL.v (V.not) ?_
          refine WpL.v (V.mv) ?_
          refine WpL.v (V.mv) ?_
          refine WpL.o (Op1.callT rfl (srcDry _ _) (by (repeat (first | exact Sel.nil | exact Rem.here | apply Sel.cons | apply Rem.there))) ?_)
          rintro v3 s4 ⟨rfl, rfl⟩
          refine incat ?_
          refine WpL.v (V.mv) ?_
          refine WpL.v (V.neBE tb rfl rfl hff) ?_
          refine WpL.v (V.pF) ?_
          refine WpL.v (V.mv) ?_
          refine WpL.v (V.mv) ?_
          refine WpL.o (Op1.callT rfl (srcLeft _ _) (by (repeat (first | exact Sel.nil | exact Rem.here | apply Sel.cons | apply Rem.there))) ?_)
          rintro v5 s6 ⟨rfl, rfl⟩
          refine incat ?_
          refine WpL.v (V.mv) ?_
          refine WpL.v (V.lenS tb) ?_
          refine WpL.v (V.cmp rfl rfl (neq_self _)) ?_
          refine WpL.v (V.pF) ?_
          refine WpL.v (V.mv) ?_
          refine WpL.v (V.mv) ?_
          refine WpL.o (Op1.callT rfl (srcOver _ _) (by (repeat (first | exact Sel.nil | exact Rem.here | apply Sel.cons | apply Rem.there))) ?_)
          rintro v7 s8 ⟨rfl, rfl⟩
          refine incat ?_
          refine WpL.v (V.mv) ?_
          refine WpL.v (V.not) ?_
          refine WpL.v (V.mv) ?_
          refine WpL.sk ?_
          refine WpL.sk ?_
          refine WpL.v (V.pF) ?_
          refine WpL.v (V.neBE tb rfl rfl hff) ?_
          refine WpL.v (V.pF) ?_
          apply WpL.nil
          apply Out.seqN
          refine Wp.cF ?_
          apply Wp.skip
          apply Out.blockN
          apply Out.seqN
          apply Wp.region
          refine WpL.v (V.add) ?_
          refine WpL.v (V.mv) ?_
          apply WpL.nil
          rotate_left
          (try simp only [decide_eq_true_eq, decide_eq_false_iff_not, Bool.not_eq_true', Bool.not_eq_false', Bool.not_eq_true, Bool.not_eq_false, not_true_eq_false, not_false_eq_true, reduceCtorEq] at hg70)
          (exfalso; omega)
          exact Out.ag hK ⟨k + 1, [], true⟩ ⟨by dsimp only; omega, by simp, by simp⟩ (by dsimp only; omega)
        · have hl : (p ++ rest).length = p.length + rest.length := List.length_append
          have hT : Fun Try.prog 41 [S (p ++ rest), I 1] (.tuple #[I v, I p.length]) := by
            have := taken (p ++ rest) 1 (by simp at *; omega); rwa [t1] at this
          have h1 : Ct Try.prog 44 [Ptr b25 0] [cells b25 99 (OctaveSource.c ⟨(p ++ rest), false⟩)] (fun r σ' => r = B (decide ((v : Int) = 1)) ∧ σ' = [cells b25 99 (OctaveSource.c ⟨rest, false⟩)]) := by
            have := srcBit b25 ⟨(p ++ rest), false⟩ (by simp at *; omega); rwa [t2] at this
          have hz : cmpI .eql (p.length : Int) 0 = some false := by first | (simp [cmpI, *]; done) | (simp only [cmpI, Option.some.injEq, decide_eq_true_eq, decide_eq_false_iff_not]; omega)
          have hs : (p ++ rest).drop ((p.length : Int)).toNat = rest := by simp
          apply Wp.seq
          apply Wp.region
          refine WpL.v (V.cmp) ?_
          apply WpL.nil
          apply Out.seqN
          apply Wp.seq
          refine Wp.c (fun hg80 => ?_) (fun hg80 => ?_)
          (try simp only [decide_eq_true_eq, decide_eq_false_iff_not, Bool.not_eq_true', Bool.not_eq_false', Bool.not_eq_true, Bool.not_eq_false, not_true_eq_false, not_false_eq_true, reduceCtorEq] at hg80)
          apply Wp.skip
          apply Out.seqN
          apply Wp.seq
          apply Wp.block
          apply Wp.seq
          apply Wp.region
          refine WpL.v (V.ixR tb rfl rfl (by assumption)) ?_
          refine WpL.v (V.ldRA tb rfl (by assumption) (getMapS (by assumption))) ?_
          refine WpL.o (O.al tb (fun p8 => ?_))
          refine WpL.o (O.stA tb ?_)
          apply WpL.nil
          apply Out.seqN
          apply Wp.seq
          apply Wp.region
          refine WpL.v (V.mv) ?_
          refine WpL.v (V.fa tb) ?_
          refine WpL.v (V.ld1 tb) ?_
          refine WpL.o (Op1.fn rfl (taken _ _ ?_) ?_)
          (first | with_reducible assumption | omega | (simp only [List.length_append, List.length_cons, List.length_nil, List.length_map] at *; omega) | (focus (simp; done)))
          refine WpL.v (V.mv) ?_
          refine WpL.v (V.ex) ?_
          refine WpL.v (V.ex) ?_
          refine WpL.v (V.as) ?_
          refine WpL.v (V.as) ?_
          apply WpL.nil
          apply Out.seqN
          apply Wp.seq
          apply Wp.seq
          apply Wp.region
          refine WpL.v (V.fa tb) ?_
          refine WpL.v (V.ld1 tb) ?_
          refine WpL.v (V.cmp rfl rfl e1) ?_
          apply WpL.nil
          apply Out.seqN
          refine Wp.cT ?_
          apply Wp.region
          refine WpL.v (V.mv) ?_
          refine WpL.o (Op1.fn rfl (hT) ?_)
          refine WpL.v (V.mv) ?_
          refine WpL.v (V.ex) ?_
          refine WpL.v (V.ex) ?_
          refine WpL.v (V.as) ?_
          refine WpL.v (V.as) ?_
          apply WpL.nil
          apply Out.seqN
          apply Wp.seq
          apply Wp.region
          refine WpL.v (V.as) ?_
          apply WpL.nil
          apply Out.seqN
          apply Wp.seq
          apply Wp.region
          refine WpL.v (V.as) ?_
          apply WpL.nil
          apply Out.seqN
          apply Wp.seq
          apply Wp.seq
          apply Wp.region
          refine WpL.v (V.fa tb) ?_
          refine WpL.v (V.ld1 tb) ?_
          apply WpL.nil
          apply Out.seqN
          apply Wp.block
          apply Wp.seq
          apply Wp.seq
          apply Wp.region
          refine WpL.v (V.cmp rfl rfl e0) ?_
          refine WpL.v (V.as) ?_
          apply WpL.nil
          apply Out.seqN
          refine Wp.cF ?_
          apply Wp.region
          refine WpL.v (V.cmp rfl rfl e1) ?_
          refine WpL.v (V.as) ?_
          apply WpL.nil
          apply Out.seqN
          refine Wp.cT ?_
          apply Wp.seq
          apply Wp.region
          refine WpL.v (V.mv) ?_
          refine WpL.v (V.mv) ?_
          refine WpL.v (V.mv) ?_
          refine WpL.v (V.cmp rfl rfl hz) ?_
          refine WpL.v (V.pF) ?_
          refine WpL.v (V.as) ?_
          apply WpL.nil
          apply Out.seqN
          apply Wp.seq
          apply Wp.region
          refine WpL.v (V.mv) ?_
          refine WpL.v (V.not) ?_
          apply WpL.nil
          apply Out.seqN
          refine Wp.cT ?_
          apply Wp.seq
          apply Wp.region
          refine WpL.v (V.mv) ?_
          refine WpL.v (V.as) ?_
          apply WpL.nil
          apply Out.seqN
          apply Wp.region
          refine WpL.v (V.mv) ?_
          refine WpL.v (V.mv) ?_
          refine WpL.v (V.slLoE tb rfl rfl hs) ?_
          refine WpL.v (V.as) ?_
          apply WpL.nil
          apply Out.blockN
          apply Out.seqN
          apply Wp.seq
          apply Wp.seq
          apply Wp.region
          refine WpL.v (V.mv) ?_
          apply WpL.nil
          apply Out.seqN
          refine Wp.cF ?_
          apply Wp.skip
          apply Out.seqN
          apply Wp.seq
          apply Wp.region
          refine WpL.v (V.as) ?_
          apply WpL.nil
          apply Out.seqN
          apply Wp.seq
          apply Wp.seq
          apply Wp.region
          refine WpL.v (V.fa tb) ?_
          refine WpL.v (V.ld1 tb) ?_
          apply WpL.nil
          apply Out.seqN
          apply Wp.block
          apply Wp.seq
          apply Wp.region
          refine WpL.v (V.cmp rfl rfl e0) ?_
          refine WpL.v (V.as) ?_
          apply WpL.nil
          apply Out.seqN
          refine Wp.cF ?_
          apply Wp.seq
          apply Wp.region
          refine WpL.v (V.cmp rfl rfl e1) ?_
          refine WpL.v (V.as) ?_
          apply WpL.nil
          apply Out.seqN
          refine Wp.cT ?_
          apply Wp.region
          refine WpL.v (V.mv) ?_
          refine WpL.o (Op1.callT rfl (h1) (by (repeat (first | exact Sel.nil | exact Rem.here | apply Sel.cons | apply Rem.there))) ?_)
          rintro v1 s2 ⟨rfl, rfl⟩
          refine incat ?_
          refine WpL.v (V.mv) ?_
          refine WpL.v (V.cmp) ?_
          refine WpL.v (V.eqBE tb rfl rfl (heb _)) ?_
          refine WpL.v (V.as) ?_
          apply WpL.nil
          apply Out.blockN
          apply Out.seqN
          apply Wp.seq
          apply Wp.region
          refine WpL.v (V.mv) ?_
          refine WpL.v (V.not) ?_
          refine WpL.v (V.mv) ?_
          refine WpL.v (V.mv) ?_
          refine WpL.o (Op1.callT rfl (srcDry _ _) (by (repeat (first | exact Sel.nil | exact Rem.here | apply Sel.cons | apply Rem.there))) ?_)
          rintro v3 s4 ⟨rfl, rfl⟩
          refine incat ?_
          refine WpL.v (V.mv) ?_
          refine WpL.v (V.neBE tb rfl rfl hff) ?_
          refine WpL.v (V.pF) ?_
          refine WpL.v (V.mv) ?_
          refine WpL.v (V.mv) ?_
          refine WpL.o (Op1.callT rfl (srcLeft _ _) (by (repeat (first | exact Sel.nil | exact Rem.here | apply Sel.cons | apply Rem.there))) ?_)
          rintro v5 s6 ⟨rfl, rfl⟩
          refine incat ?_
          refine WpL.v (V.mv) ?_
          refine WpL.v (V.lenS tb) ?_
          refine WpL.v (V.cmp rfl rfl (neq_self _)) ?_
          refine WpL.v (V.pF) ?_
          refine WpL.v (V.mv) ?_
          refine WpL.v (V.mv) ?_
          refine WpL.o (Op1.callT rfl (srcOver _ _) (by (repeat (first | exact Sel.nil | exact Rem.here | apply Sel.cons | apply Rem.there))) ?_)
          rintro v7 s8 ⟨rfl, rfl⟩
          refine incat ?_
          refine WpL.v (V.mv) ?_
          refine WpL.v (V.not) ?_
          refine WpL.v (V.mv) ?_
          refine WpL.v (V.mv) ?_
          refine WpL.v (V.cmpS) ?_
          refine WpL.v (V.pT) ?_
          refine WpL.v (V.neBE tb rfl rfl (hov _)) ?_
          refine WpL.v (V.pF) ?_
          apply WpL.nil
          apply Out.seqN
          refine Wp.cF ?_
          apply Wp.skip
          apply Out.blockN
          apply Out.seqN
          apply Wp.region
          refine WpL.v (V.add) ?_
          refine WpL.v (V.mv) ?_
          apply WpL.nil
          rotate_left
          (try simp only [decide_eq_true_eq, decide_eq_false_iff_not, Bool.not_eq_true', Bool.not_eq_false', Bool.not_eq_true, Bool.not_eq_false, not_true_eq_false, not_false_eq_true, reduceCtorEq] at hg80)
          (exfalso; omega)
          exact Out.ag hK ⟨k + 1, rest, false⟩ ⟨by dsimp only; omega, by dsimp only; omega, by simp⟩ (by dsimp only; omega)
      · have hkk : x.Kind = 2 := by omega
        have e0 : cmpI .eql x.Kind 0 = some false := by first | (simp [cmpI, *]; done) | (simp only [cmpI, Option.some.injEq, decide_eq_true_eq, decide_eq_false_iff_not]; omega)
        have e1 : cmpI .eql x.Kind 1 = some false := by first | (simp [cmpI, *]; done) | (simp only [cmpI, Option.some.injEq, decide_eq_true_eq, decide_eq_false_iff_not]; omega)
        have e2 : cmpI .eql x.Kind 2 = some true := by first | (simp [cmpI, *]; done) | (simp only [cmpI, Option.some.injEq, decide_eq_true_eq, decide_eq_false_iff_not]; omega)
        rcases taken_law b x.N with ⟨t1, t2⟩ | ⟨v, p, rest, rfl, hp, hv, t1, t2⟩
        · have hT : Fun Try.prog 41 [S b, I x.N] (.tuple #[I 0, I 0]) := by
            have := taken b x.N (by simp at *; omega); rwa [t1] at this
          have h1 : Ct Try.prog 45 [Ptr b25 0, I x.N] [cells b25 99 (OctaveSource.c ⟨b, false⟩)] (fun r σ' => r = S [] ∧ σ' = [cells b25 99 (OctaveSource.c ⟨[], true⟩)]) := by
            have := srcText b25 ⟨b, false⟩ x.N (by simp at *; omega); rwa [textS, t2, rawS_dry] at this
          apply Wp.seq
          apply Wp.region
          refine WpL.v (V.cmp) ?_
          apply WpL.nil
          apply Out.seqN
          apply Wp.seq
          refine Wp.c (fun hg90 => ?_) (fun hg90 => ?_)
          (try simp only [decide_eq_true_eq, decide_eq_false_iff_not, Bool.not_eq_true', Bool.not_eq_false', Bool.not_eq_true, Bool.not_eq_false, not_true_eq_false, not_false_eq_true, reduceCtorEq] at hg90)
          apply Wp.skip
          apply Out.seqN
          apply Wp.seq
          apply Wp.block
          apply Wp.seq
          apply Wp.region
          refine WpL.v (V.ixR tb rfl rfl (by assumption)) ?_
          refine WpL.v (V.ldRA tb rfl (by assumption) (getMapS (by assumption))) ?_
          refine WpL.o (O.al tb (fun p8 => ?_))
          refine WpL.o (O.stA tb ?_)
          apply WpL.nil
          apply Out.seqN
          apply Wp.seq
          apply Wp.region
          refine WpL.v (V.mv) ?_
          refine WpL.v (V.fa tb) ?_
          refine WpL.v (V.ld1 tb) ?_
          refine WpL.o (Op1.fn rfl (hT) ?_)
          refine WpL.v (V.mv) ?_
          refine WpL.v (V.ex) ?_
          refine WpL.v (V.ex) ?_
          refine WpL.v (V.as) ?_
          refine WpL.v (V.as) ?_
          apply WpL.nil
          apply Out.seqN
          apply Wp.seq
          apply Wp.seq
          apply Wp.region
          refine WpL.v (V.fa tb) ?_
          refine WpL.v (V.ld1 tb) ?_
          refine WpL.v (V.cmp rfl rfl e1) ?_
          apply WpL.nil
          apply Out.seqN
          refine Wp.cF ?_
          apply Wp.skip
          apply Out.seqN
          apply Wp.seq
          apply Wp.region
          refine WpL.v (V.as) ?_
          apply WpL.nil
          apply Out.seqN
          apply Wp.seq
          apply Wp.region
          refine WpL.v (V.as) ?_
          apply WpL.nil
          apply Out.seqN
          apply Wp.seq
          apply Wp.seq
          apply Wp.region
          refine WpL.v (V.fa tb) ?_
          refine WpL.v (V.ld1 tb) ?_
          apply WpL.nil
          apply Out.seqN
          apply Wp.block
          apply Wp.seq
          apply Wp.seq
          apply Wp.region
          refine WpL.v (V.cmp rfl rfl e0) ?_
          refine WpL.v (V.as) ?_
          apply WpL.nil
          apply Out.seqN
          refine Wp.cF ?_
          apply Wp.region
          refine WpL.v (V.cmp rfl rfl e1) ?_
          refine WpL.v (V.as) ?_
          apply WpL.nil
          apply Out.seqN
          refine Wp.cF ?_
          apply Wp.seq
          apply Wp.region
          refine WpL.v (V.cmp rfl rfl e2) ?_
          refine WpL.v (V.as) ?_
          apply WpL.nil
          apply Out.seqN
          refine Wp.cT ?_
          apply Wp.seq
          apply Wp.region
          refine WpL.v (V.mv) ?_
          refine WpL.v (V.mv) ?_
          refine WpL.v (V.mv) ?_
          refine WpL.v (V.cmp rfl rfl (eql_self _)) ?_
          refine WpL.v (V.pF) ?_
          refine WpL.v (V.mv) ?_
          refine WpL.sk ?_
          refine WpL.sk ?_
          refine WpL.sk ?_
          refine WpL.sk ?_
          refine WpL.sk ?_
          refine WpL.sk ?_
          refine WpL.v (V.pT) ?_
          refine WpL.v (V.as) ?_
          apply WpL.nil
          apply Out.seqN
          apply Wp.seq
          apply Wp.region
          refine WpL.v (V.mv) ?_
          refine WpL.v (V.not) ?_
          apply WpL.nil
          apply Out.seqN
          refine Wp.cF ?_
          apply Wp.skip
          apply Out.blockN
          apply Out.seqN
          apply Wp.seq
          apply Wp.seq
          apply Wp.region
          refine WpL.v (V.mv) ?_
          apply WpL.nil
          apply Out.seqN
          refine Wp.cT ?_
          apply Wp.region
          refine WpL.v (V.as) ?_
          apply WpL.nil
          apply Out.seqN
          apply Wp.seq
          apply Wp.region
          refine WpL.v (V.as) ?_
          apply WpL.nil
          apply Out.seqN
          apply Wp.seq
          apply Wp.seq
          apply Wp.region
          refine WpL.v (V.fa tb) ?_
          refine WpL.v (V.ld1 tb) ?_
          apply WpL.nil
          apply Out.seqN
          apply Wp.block
          apply Wp.seq
          apply Wp.region
          refine WpL.v (V.cmp rfl rfl e0) ?_
          refine WpL.v (V.as) ?_
          apply WpL.nil
          apply Out.seqN
          refine Wp.cF ?_
          apply Wp.seq
          apply Wp.region
          refine WpL.v (V.cmp rfl rfl e1) ?_
          refine WpL.v (V.as) ?_
          apply WpL.nil
          apply Out.seqN
          refine Wp.cF ?_
          apply Wp.seq
          apply Wp.region
          refine WpL.v (V.cmp rfl rfl e2) ?_
          refine WpL.v (V.as) ?_
          apply WpL.nil
          apply Out.seqN
          refine Wp.cT ?_
          apply Wp.region
          refine WpL.v (V.mv) ?_
          refine WpL.v (V.fa tb) ?_
          refine WpL.v (V.ld1 tb) ?_
          refine WpL.o (Op1.callT rfl (h1) (by (repeat (first | exact Sel.nil | exact Rem.here | apply Sel.cons | apply Rem.there))) ?_)
          rintro v1 s2 ⟨rfl, rfl⟩
          refine incat ?_
          refine WpL.v (V.mv) ?_
          refine WpL.v (V.cmpS rfl rfl (eqlS_self _)) ?_
          refine WpL.v (V.as) ?_
          apply WpL.nil
          apply Out.blockN
          apply Out.seqN
          apply Wp.seq
          apply Wp.region
          refine WpL.v (V.mv) ?_
          refine WpL.v (V.not) ?_
          refine WpL.v (V.mv) ?_
          refine WpL.v (V.mv) ?_
          refine WpL.o (Op1.callT rfl (srcDry _ _) (by (repeat (first | exact Sel.nil | exact Rem.here | apply Sel.cons | apply Rem.there))) ?_)
          rintro v3 s4 ⟨rfl, rfl⟩
          refine incat ?_
          refine WpL.v (V.mv) ?_
          refine WpL.v (V.neBE tb rfl rfl hff) ?_
          refine WpL.v (V.pF) ?_
          refine WpL.v (V.mv) ?_
          refine WpL.v (V.mv) ?_
          refine WpL.o (Op1.callT rfl (srcLeft _ _) (by (repeat (first | exact Sel.nil | exact Rem.here | apply Sel.cons | apply Rem.there))) ?_)
          rintro v5 s6 ⟨rfl, rfl⟩
          refine incat ?_
          refine WpL.v (V.mv) ?_
          refine WpL.v (V.lenS tb) ?_
          refine WpL.v (V.cmp rfl rfl (neq_self _)) ?_
          refine WpL.v (V.pF) ?_
          refine WpL.v (V.mv) ?_
          refine WpL.v (V.mv) ?_
          refine WpL.o (Op1.callT rfl (srcOver _ _) (by (repeat (first | exact Sel.nil | exact Rem.here | apply Sel.cons | apply Rem.there))) ?_)
          rintro v7 s8 ⟨rfl, rfl⟩
          refine incat ?_
          refine WpL.v (V.mv) ?_
          refine WpL.v (V.not) ?_
          refine WpL.v (V.mv) ?_
          refine WpL.sk ?_
          refine WpL.sk ?_
          refine WpL.v (V.pF) ?_
          refine WpL.v (V.neBE tb rfl rfl hff) ?_
          refine WpL.v (V.pF) ?_
          apply WpL.nil
          apply Out.seqN
          refine Wp.cF ?_
          apply Wp.skip
          apply Out.blockN
          apply Out.seqN
          apply Wp.region
          refine WpL.v (V.add) ?_
          refine WpL.v (V.mv) ?_
          apply WpL.nil
          rotate_left
          (try simp only [decide_eq_true_eq, decide_eq_false_iff_not, Bool.not_eq_true', Bool.not_eq_false', Bool.not_eq_true, Bool.not_eq_false, not_true_eq_false, not_false_eq_true, reduceCtorEq] at hg90)
          (exfalso; omega)
          exact Out.ag hK ⟨k + 1, [], true⟩ ⟨by dsimp only; omega, by simp, by simp⟩ (by dsimp only; omega)
        · by_cases hv2 : rest.length < v
          · have hl : (p ++ rest).length = p.length + rest.length := List.length_append
            have hT : Fun Try.prog 41 [S (p ++ rest), I x.N] (.tuple #[I v, I p.length]) := by
              have := taken (p ++ rest) x.N (by simp at *; omega); rwa [t1] at this
            have hr : rawS ⟨rest, false⟩ (v : Int) = ([], ⟨[], true⟩) := if_pos (.inr (.inr (by dsimp only; omega)))
            have h1 : Ct Try.prog 45 [Ptr b25 0, I x.N] [cells b25 99 (OctaveSource.c ⟨(p ++ rest), false⟩)] (fun r σ' => r = S [] ∧ σ' = [cells b25 99 (OctaveSource.c ⟨[], true⟩)]) := by
              have := srcText b25 ⟨(p ++ rest), false⟩ x.N (by simp at *; omega); rwa [textS, t2, hr] at this
            have hz : cmpI .eql (p.length : Int) 0 = some false := by first | (simp [cmpI, *]; done) | (simp only [cmpI, Option.some.injEq, decide_eq_true_eq, decide_eq_false_iff_not]; omega)
            have hg : cmpI .gtr (v : Int) (((p ++ rest).length : Int) - (p.length : Int)) = some true := by first | (simp [cmpI, *]; done) | (simp only [cmpI, Option.some.injEq, decide_eq_true_eq, decide_eq_false_iff_not]; omega)
            apply Wp.seq
            apply Wp.region
            refine WpL.v (V.cmp) ?_
            apply WpL.nil
            apply Out.seqN
            apply Wp.seq
            refine Wp.c (fun h0 => ?_) (fun h0 => ?_)
            (try simp only [decide_eq_true_eq, decide_eq_false_iff_not, Bool.not_eq_true', Bool.not_eq_false', Bool.not_eq_true, Bool.not_eq_false, not_true_eq_false, not_false_eq_true, reduceCtorEq] at h0)
            apply Wp.skip
            apply Out.seqN
            apply Wp.seq
            apply Wp.block
            apply Wp.seq
            apply Wp.region
            refine WpL.v (V.ixR tb rfl rfl (by assumption)) ?_
            refine WpL.v (V.ldRA tb rfl (by assumption) (getMapS (by assumption))) ?_
            refine WpL.o (O.al tb (fun p8 => ?_))
            refine WpL.o (O.stA tb ?_)
            apply WpL.nil
            apply Out.seqN
            apply Wp.seq
            apply Wp.region
            refine WpL.v (V.mv) ?_
            refine WpL.v (V.fa tb) ?_
            refine WpL.v (V.ld1 tb) ?_
            refine WpL.o (Op1.fn rfl (hT) ?_)
            refine WpL.v (V.mv) ?_
            refine WpL.v (V.ex) ?_
            refine WpL.v (V.ex) ?_
            refine WpL.v (V.as) ?_
            refine WpL.v (V.as) ?_
            apply WpL.nil
            apply Out.seqN
            apply Wp.seq
            apply Wp.seq
            apply Wp.region
            refine WpL.v (V.fa tb) ?_
            refine WpL.v (V.ld1 tb) ?_
            refine WpL.v (V.cmp rfl rfl e1) ?_
            apply WpL.nil
            apply Out.seqN
            refine Wp.cF ?_
            apply Wp.skip
            apply Out.seqN
            apply Wp.seq
            apply Wp.region
            refine WpL.v (V.as) ?_
            apply WpL.nil
            apply Out.seqN
            apply Wp.seq
            apply Wp.region
            refine WpL.v (V.as) ?_
            apply WpL.nil
            apply Out.seqN
            apply Wp.seq
            apply Wp.seq
            apply Wp.region
            refine WpL.v (V.fa tb) ?_
            refine WpL.v (V.ld1 tb) ?_
            apply WpL.nil
            apply Out.seqN
            apply Wp.block
            apply Wp.seq
            apply Wp.seq
            apply Wp.region
            refine WpL.v (V.cmp rfl rfl e0) ?_
            refine WpL.v (V.as) ?_
            apply WpL.nil
            apply Out.seqN
            refine Wp.cF ?_
            apply Wp.region
            refine WpL.v (V.cmp rfl rfl e1) ?_
            refine WpL.v (V.as) ?_
            apply WpL.nil
            apply Out.seqN
            refine Wp.cF ?_
            apply Wp.seq
            apply Wp.region
            refine WpL.v (V.cmp rfl rfl e2) ?_
            refine WpL.v (V.as) ?_
            apply WpL.nil
            apply Out.seqN
            refine Wp.cT ?_
            apply Wp.seq
            apply Wp.region
            refine WpL.v (V.mv) ?_
            refine WpL.v (V.mv) ?_
            refine WpL.v (V.mv) ?_
            refine WpL.v (V.cmp rfl rfl hz) ?_
            refine WpL.v (V.pF) ?_
            refine WpL.v (V.mv) ?_
            refine WpL.v (V.mv) ?_
            refine WpL.v (V.mv) ?_
            refine WpL.v (V.lenS tb) ?_
            refine WpL.v (V.mv) ?_
            refine WpL.v (V.sub) ?_
            refine WpL.v (V.cmp rfl rfl hg) ?_
            refine WpL.v (V.pF) ?_
            refine WpL.v (V.as) ?_
            apply WpL.nil
            apply Out.seqN
            apply Wp.seq
            apply Wp.region
            refine WpL.v (V.mv) ?_
            refine WpL.v (V.not) ?_
            apply WpL.nil
            apply Out.seqN
            refine Wp.cF ?_
            apply Wp.skip
            apply Out.blockN
            apply Out.seqN
            apply Wp.seq
            apply Wp.seq
            apply Wp.region
            refine WpL.v (V.mv) ?_
            apply WpL.nil
            apply Out.seqN
            refine Wp.cT ?_
            apply Wp.region
            refine WpL.v (V.as) ?_
            apply WpL.nil
            apply Out.seqN
            apply Wp.seq
            apply Wp.region
            refine WpL.v (V.as) ?_
            apply WpL.nil
            apply Out.seqN
            apply Wp.seq
            apply Wp.seq
            apply Wp.region
            refine WpL.v (V.fa tb) ?_
            refine WpL.v (V.ld1 tb) ?_
            apply WpL.nil
            apply Out.seqN
            apply Wp.block
            apply Wp.seq
            apply Wp.region
            refine WpL.v (V.cmp rfl rfl e0) ?_
            refine WpL.v (V.as) ?_
            apply WpL.nil
            apply Out.seqN
            refine Wp.cF ?_
            apply Wp.seq
            apply Wp.region
            refine WpL.v (V.cmp rfl rfl e1) ?_
            refine WpL.v (V.as) ?_
            apply WpL.nil
            apply Out.seqN
            refine Wp.cF ?_
            apply Wp.seq
            apply Wp.region
            refine WpL.v (V.cmp rfl rfl e2) ?_
            refine WpL.v (V.as) ?_
            apply WpL.nil
            apply Out.seqN
            refine Wp.cT ?_
            apply Wp.region
            refine WpL.v (V.mv) ?_
            refine WpL.v (V.fa tb) ?_
            refine WpL.v (V.ld1 tb) ?_
            refine WpL.o (Op1.callT rfl (h1) (by (repeat (first | exact Sel.nil | exact Rem.here | apply Sel.cons | apply Rem.there))) ?_)
            rintro v1 s2 ⟨rfl, rfl⟩
            refine incat ?_
            refine WpL.v (V.mv) ?_
            refine WpL.v (V.cmpS rfl rfl (eqlS_self _)) ?_
            refine WpL.v (V.as) ?_
            apply WpL.nil
            apply Out.blockN
            apply Out.seqN
            apply Wp.seq
            apply Wp.region
            refine WpL.v (V.mv) ?_
            refine WpL.v (V.not) ?_
            refine WpL.v (V.mv) ?_
            refine WpL.v (V.mv) ?_
            refine WpL.o (Op1.callT rfl (srcDry _ _) (by (repeat (first | exact Sel.nil | exact Rem.here | apply Sel.cons | apply Rem.there))) ?_)
            rintro v3 s4 ⟨rfl, rfl⟩
            refine incat ?_
            refine WpL.v (V.mv) ?_
            refine WpL.v (V.neBE tb rfl rfl hff) ?_
            refine WpL.v (V.pF) ?_
            refine WpL.v (V.mv) ?_
            refine WpL.v (V.mv) ?_
            refine WpL.o (Op1.callT rfl (srcLeft _ _) (by (repeat (first | exact Sel.nil | exact Rem.here | apply Sel.cons | apply Rem.there))) ?_)
            rintro v5 s6 ⟨rfl, rfl⟩
            refine incat ?_
            refine WpL.v (V.mv) ?_
            refine WpL.v (V.lenS tb) ?_
            refine WpL.v (V.cmp rfl rfl (neq_self _)) ?_
            refine WpL.v (V.pF) ?_
            refine WpL.v (V.mv) ?_
            refine WpL.v (V.mv) ?_
            refine WpL.o (Op1.callT rfl (srcOver _ _) (by (repeat (first | exact Sel.nil | exact Rem.here | apply Sel.cons | apply Rem.there))) ?_)
            rintro v7 s8 ⟨rfl, rfl⟩
            refine incat ?_
            refine WpL.v (V.mv) ?_
            refine WpL.v (V.not) ?_
            refine WpL.v (V.mv) ?_
            refine WpL.sk ?_
            refine WpL.sk ?_
            refine WpL.v (V.pF) ?_
            refine WpL.v (V.neBE tb rfl rfl hff) ?_
            refine WpL.v (V.pF) ?_
            apply WpL.nil
            apply Out.seqN
            refine Wp.cF ?_
            apply Wp.skip
            apply Out.blockN
            apply Out.seqN
            apply Wp.region
            refine WpL.v (V.add) ?_
            refine WpL.v (V.mv) ?_
            apply WpL.nil
            rotate_left
            (try simp only [decide_eq_true_eq, decide_eq_false_iff_not, Bool.not_eq_true', Bool.not_eq_false', Bool.not_eq_true, Bool.not_eq_false, not_true_eq_false, not_false_eq_true, reduceCtorEq] at h0)
            (exfalso; omega)
            exact Out.ag hK ⟨k + 1, [], true⟩ ⟨by dsimp only; omega, by simp, by simp⟩ (by dsimp only; omega)
          · obtain ⟨q, rest2, rfl, hq⟩ : ∃ q rest2, rest = q ++ rest2 ∧ q.length = v := ⟨rest.take v, rest.drop v, (List.take_append_drop v rest).symm, by rw [List.length_take]; omega⟩
            subst hq
            have hl : (p ++ (q ++ rest2)).length = p.length + (q.length + rest2.length) := by rw [List.length_append, List.length_append]
            have hT : Fun Try.prog 41 [S (p ++ (q ++ rest2)), I x.N] (.tuple #[I q.length, I p.length]) := by
              have := taken (p ++ (q ++ rest2)) x.N (by simp at *; omega); rwa [t1] at this
            have hr : rawS ⟨q ++ rest2, false⟩ (q.length : Int) = (q, ⟨rest2, false⟩) := by
              unfold rawS
              rw [if_neg (by simp; omega)]
              simp
            have h1 : Ct Try.prog 45 [Ptr b25 0, I x.N] [cells b25 99 (OctaveSource.c ⟨(p ++ (q ++ rest2)), false⟩)] (fun r σ' => r = S q ∧ σ' = [cells b25 99 (OctaveSource.c ⟨rest2, false⟩)]) := by
              have := srcText b25 ⟨(p ++ (q ++ rest2)), false⟩ x.N (by simp at *; omega); rwa [textS, t2, hr] at this
            have hz : cmpI .eql (p.length : Int) 0 = some false := by first | (simp [cmpI, *]; done) | (simp only [cmpI, Option.some.injEq, decide_eq_true_eq, decide_eq_false_iff_not]; omega)
            have hg : cmpI .gtr (q.length : Int) (((p ++ (q ++ rest2)).length : Int) - (p.length : Int)) = some false := by first | (simp [cmpI, *]; done) | (simp only [cmpI, Option.some.injEq, decide_eq_true_eq, decide_eq_false_iff_not]; omega)
            have ht : ((p.length : Int) + (q.length : Int)).toNat = p.length + q.length := by omega
            have hs1 : ((p ++ (q ++ rest2)).drop ((p.length : Int)).toNat).take (((p.length : Int) + (q.length : Int)).toNat - ((p.length : Int)).toNat) = q := by rw [ht]; simp
            have hs2 : (p ++ (q ++ rest2)).drop ((p.length : Int) + (q.length : Int)).toNat = rest2 := by rw [ht, ← List.append_assoc, ← List.length_append, List.drop_left]
            apply Wp.seq
            apply Wp.region
            refine WpL.v (V.cmp) ?_
            apply WpL.nil
            apply Out.seqN
            apply Wp.seq
            refine Wp.c (fun h0 => ?_) (fun h0 => ?_)
            (try simp only [decide_eq_true_eq, decide_eq_false_iff_not, Bool.not_eq_true', Bool.not_eq_false', Bool.not_eq_true, Bool.not_eq_false, not_true_eq_false, not_false_eq_true, reduceCtorEq] at h0)
            apply Wp.skip
            apply Out.seqN
            apply Wp.seq
            apply Wp.block
            apply Wp.seq
            apply Wp.region
            refine WpL.v (V.ixR tb rfl rfl (by assumption)) ?_
            refine WpL.v (V.ldRA tb rfl (by assumption) (getMapS (by assumption))) ?_
            refine WpL.o (O.al tb (fun p8 => ?_))
            refine WpL.o (O.stA tb ?_)
            apply WpL.nil
            apply Out.seqN
            apply Wp.seq
            apply Wp.region
            refine WpL.v (V.mv) ?_
            refine WpL.v (V.fa tb) ?_
            refine WpL.v (V.ld1 tb) ?_
            refine WpL.o (Op1.fn rfl (hT) ?_)
            refine WpL.v (V.mv) ?_
            refine WpL.v (V.ex) ?_
            refine WpL.v (V.ex) ?_
            refine WpL.v (V.as) ?_
            refine WpL.v (V.as) ?_
            apply WpL.nil
            apply Out.seqN
            apply Wp.seq
            apply Wp.seq
            apply Wp.region
            refine WpL.v (V.fa tb) ?_
            refine WpL.v (V.ld1 tb) ?_
            refine WpL.v (V.cmp rfl rfl e1) ?_
            apply WpL.nil
            apply Out.seqN
            refine Wp.cF ?_
            apply Wp.skip
            apply Out.seqN
            apply Wp.seq
            apply Wp.region
            refine WpL.v (V.as) ?_
            apply WpL.nil
            apply Out.seqN
            apply Wp.seq
            apply Wp.region
            refine WpL.v (V.as) ?_
            apply WpL.nil
            apply Out.seqN
            apply Wp.seq
            apply Wp.seq
            apply Wp.region
            refine WpL.v (V.fa tb) ?_
            refine WpL.v (V.ld1 tb) ?_
            apply WpL.nil
            apply Out.seqN
            apply Wp.block
            apply Wp.seq
            apply Wp.seq
            apply Wp.region
            refine WpL.v (V.cmp rfl rfl e0) ?_
            refine WpL.v (V.as) ?_
            apply WpL.nil
            apply Out.seqN
            refine Wp.cF ?_
            apply Wp.region
            refine WpL.v (V.cmp rfl rfl e1) ?_
            refine WpL.v (V.as) ?_
            apply WpL.nil
            apply Out.seqN
            refine Wp.cF ?_
            apply Wp.seq
            apply Wp.region
            refine WpL.v (V.cmp rfl rfl e2) ?_
            refine WpL.v (V.as) ?_
            apply WpL.nil
            apply Out.seqN
            refine Wp.cT ?_
            apply Wp.seq
            apply Wp.region
            refine WpL.v (V.mv) ?_
            refine WpL.v (V.mv) ?_
            refine WpL.v (V.mv) ?_
            refine WpL.v (V.cmp rfl rfl hz) ?_
            refine WpL.v (V.pF) ?_
            refine WpL.v (V.mv) ?_
            refine WpL.v (V.mv) ?_
            refine WpL.v (V.mv) ?_
            refine WpL.v (V.lenS tb) ?_
            refine WpL.v (V.mv) ?_
            refine WpL.v (V.sub) ?_
            refine WpL.v (V.cmp rfl rfl hg) ?_
            refine WpL.v (V.pF) ?_
            refine WpL.v (V.as) ?_
            apply WpL.nil
            apply Out.seqN
            apply Wp.seq
            apply Wp.region
            refine WpL.v (V.mv) ?_
            refine WpL.v (V.not) ?_
            apply WpL.nil
            apply Out.seqN
            refine Wp.cT ?_
            apply Wp.seq
            apply Wp.region
            refine WpL.v (V.mv) ?_
            refine WpL.v (V.mv) ?_
            refine WpL.v (V.mv) ?_
            refine WpL.v (V.mv) ?_
            refine WpL.v (V.add) ?_
            refine WpL.v (V.slLHE tb rfl rfl rfl hs1) ?_
            refine WpL.v (V.as) ?_
            apply WpL.nil
            apply Out.seqN
            apply Wp.region
            refine WpL.v (V.mv) ?_
            refine WpL.v (V.mv) ?_
            refine WpL.v (V.mv) ?_
            refine WpL.v (V.add) ?_
            refine WpL.v (V.slLoE tb rfl rfl hs2) ?_
            refine WpL.v (V.as) ?_
            apply WpL.nil
            apply Out.blockN
            apply Out.seqN
            apply Wp.seq
            apply Wp.seq
            apply Wp.region
            refine WpL.v (V.mv) ?_
            apply WpL.nil
            apply Out.seqN
            refine Wp.cF ?_
            apply Wp.skip
            apply Out.seqN
            apply Wp.seq
            apply Wp.region
            refine WpL.v (V.as) ?_
            apply WpL.nil
            apply Out.seqN
            apply Wp.seq
            apply Wp.seq
            apply Wp.region
            refine WpL.v (V.fa tb) ?_
            refine WpL.v (V.ld1 tb) ?_
            apply WpL.nil
            apply Out.seqN
            apply Wp.block
            apply Wp.seq
            apply Wp.region
            refine WpL.v (V.cmp rfl rfl e0) ?_
            refine WpL.v (V.as) ?_
            apply WpL.nil
            apply Out.seqN
            refine Wp.cF ?_
            apply Wp.seq
            apply Wp.region
            refine WpL.v (V.cmp rfl rfl e1) ?_
            refine WpL.v (V.as) ?_
            apply WpL.nil
            apply Out.seqN
            refine Wp.cF ?_
            apply Wp.seq
            apply Wp.region
            refine WpL.v (V.cmp rfl rfl e2) ?_
            refine WpL.v (V.as) ?_
            apply WpL.nil
            apply Out.seqN
            refine Wp.cT ?_
            apply Wp.region
            refine WpL.v (V.mv) ?_
            refine WpL.v (V.fa tb) ?_
            refine WpL.v (V.ld1 tb) ?_
            refine WpL.o (Op1.callT rfl (h1) (by (repeat (first | exact Sel.nil | exact Rem.here | apply Sel.cons | apply Rem.there))) ?_)
            rintro v1 s2 ⟨rfl, rfl⟩
            refine incat ?_
            refine WpL.v (V.mv) ?_
            refine WpL.v (V.cmpS rfl rfl (eqlS_self _)) ?_
            refine WpL.v (V.as) ?_
            apply WpL.nil
            apply Out.blockN
            apply Out.seqN
            apply Wp.seq
            apply Wp.region
            refine WpL.v (V.mv) ?_
            refine WpL.v (V.not) ?_
            refine WpL.v (V.mv) ?_
            refine WpL.v (V.mv) ?_
            refine WpL.o (Op1.callT rfl (srcDry _ _) (by (repeat (first | exact Sel.nil | exact Rem.here | apply Sel.cons | apply Rem.there))) ?_)
            rintro v3 s4 ⟨rfl, rfl⟩
            refine incat ?_
            refine WpL.v (V.mv) ?_
            refine WpL.v (V.neBE tb rfl rfl hff) ?_
            refine WpL.v (V.pF) ?_
            refine WpL.v (V.mv) ?_
            refine WpL.v (V.mv) ?_
            refine WpL.o (Op1.callT rfl (srcLeft _ _) (by (repeat (first | exact Sel.nil | exact Rem.here | apply Sel.cons | apply Rem.there))) ?_)
            rintro v5 s6 ⟨rfl, rfl⟩
            refine incat ?_
            refine WpL.v (V.mv) ?_
            refine WpL.v (V.lenS tb) ?_
            refine WpL.v (V.cmp rfl rfl (neq_self _)) ?_
            refine WpL.v (V.pF) ?_
            refine WpL.v (V.mv) ?_
            refine WpL.v (V.mv) ?_
            refine WpL.o (Op1.callT rfl (srcOver _ _) (by (repeat (first | exact Sel.nil | exact Rem.here | apply Sel.cons | apply Rem.there))) ?_)
            rintro v7 s8 ⟨rfl, rfl⟩
            refine incat ?_
            refine WpL.v (V.mv) ?_
            refine WpL.v (V.not) ?_
            refine WpL.v (V.mv) ?_
            refine WpL.v (V.mv) ?_
            refine WpL.v (V.cmpS) ?_
            refine WpL.v (V.pT) ?_
            refine WpL.v (V.neBE tb rfl rfl (hov _)) ?_
            refine WpL.v (V.pF) ?_
            apply WpL.nil
            apply Out.seqN
            refine Wp.cF ?_
            apply Wp.skip
            apply Out.blockN
            apply Out.seqN
            apply Wp.region
            refine WpL.v (V.add) ?_
            refine WpL.v (V.mv) ?_
            apply WpL.nil
            rotate_left
            (try simp only [decide_eq_true_eq, decide_eq_false_iff_not, Bool.not_eq_true', Bool.not_eq_false', Bool.not_eq_true, Bool.not_eq_false, not_true_eq_false, not_false_eq_true, reduceCtorEq] at h0)
            (exfalso; omega)
            exact Out.ag hK ⟨k + 1, rest2, false⟩ ⟨by dsimp only; omega, by dsimp only; omega, by simp⟩ (by dsimp only; omega)
      · have hkk : x.Kind ≠ 0 ∧ x.Kind ≠ 1 ∧ x.Kind ≠ 2 := by omega
        obtain ⟨hk0, hk1, hk2⟩ := hkk
        have e0 : cmpI .eql x.Kind 0 = some false := by first | (simp [cmpI, *]; done) | (simp only [cmpI, Option.some.injEq, decide_eq_true_eq, decide_eq_false_iff_not]; omega)
        have e1 : cmpI .eql x.Kind 1 = some false := by first | (simp [cmpI, *]; done) | (simp only [cmpI, Option.some.injEq, decide_eq_true_eq, decide_eq_false_iff_not]; omega)
        have e2 : cmpI .eql x.Kind 2 = some false := by first | (simp [cmpI, *]; done) | (simp only [cmpI, Option.some.injEq, decide_eq_true_eq, decide_eq_false_iff_not]; omega)
        by_cases hn : x.N < 0 ∨ (b.length : Int) < x.N
        · have hr : rawS ⟨b, false⟩ x.N = ([], ⟨[], true⟩) := if_pos (.inr hn)
          have h1 : Ct Try.prog 46 [Ptr b25 0, I x.N] [cells b25 99 (OctaveSource.c ⟨b, false⟩)] (fun r σ' => r = S [] ∧ σ' = [cells b25 99 (OctaveSource.c ⟨[], true⟩)]) := by
            have := srcRaw b25 ⟨b, false⟩ x.N (by simp at *; omega); rwa [hr] at this
          rcases hn with hn | hn
          · have hz : cmpI .lss x.N 0 = some true := by first | (simp [cmpI, *]; done) | (simp only [cmpI, Option.some.injEq, decide_eq_true_eq, decide_eq_false_iff_not]; omega)
            apply Wp.seq
            apply Wp.region
            refine WpL.v (V.cmp) ?_
            apply WpL.nil
            apply Out.seqN
            apply Wp.seq
            refine Wp.c (fun h0 => ?_) (fun h0 => ?_)
            (try simp only [decide_eq_true_eq, decide_eq_false_iff_not, Bool.not_eq_true', Bool.not_eq_false', Bool.not_eq_true, Bool.not_eq_false, not_true_eq_false, not_false_eq_true, reduceCtorEq] at h0)
            apply Wp.skip
            apply Out.seqN
            apply Wp.seq
            apply Wp.block
            apply Wp.seq
            apply Wp.region
            refine WpL.v (V.ixR tb rfl rfl (by assumption)) ?_
            refine WpL.v (V.ldRA tb rfl (by assumption) (getMapS (by assumption))) ?_
            refine WpL.o (O.al tb (fun p8 => ?_))
            refine WpL.o (O.stA tb ?_)
            apply WpL.nil
            apply Out.seqN
            apply Wp.seq
            apply Wp.region
            refine WpL.v (V.mv) ?_
            refine WpL.v (V.fa tb) ?_
            refine WpL.v (V.ld1 tb) ?_
            refine WpL.o (Op1.fn rfl (taken _ _ ?_) ?_)
            (first | with_reducible assumption | omega | (simp only [List.length_append, List.length_cons, List.length_nil, List.length_map] at *; omega) | (focus (simp; done)))
            refine WpL.v (V.mv) ?_
            refine WpL.v (V.ex) ?_
            refine WpL.v (V.ex) ?_
            refine WpL.v (V.as) ?_
            refine WpL.v (V.as) ?_
            apply WpL.nil
            apply Out.seqN
            apply Wp.seq
            apply Wp.seq
            apply Wp.region
            refine WpL.v (V.fa tb) ?_
            refine WpL.v (V.ld1 tb) ?_
            refine WpL.v (V.cmp rfl rfl e1) ?_
            apply WpL.nil
            apply Out.seqN
            refine Wp.cF ?_
            apply Wp.skip
            apply Out.seqN
            apply Wp.seq
            apply Wp.region
            refine WpL.v (V.as) ?_
            apply WpL.nil
            apply Out.seqN
            apply Wp.seq
            apply Wp.region
            refine WpL.v (V.as) ?_
            apply WpL.nil
            apply Out.seqN
            apply Wp.seq
            apply Wp.seq
            apply Wp.region
            refine WpL.v (V.fa tb) ?_
            refine WpL.v (V.ld1 tb) ?_
            apply WpL.nil
            apply Out.seqN
            apply Wp.block
            apply Wp.seq
            apply Wp.seq
            apply Wp.region
            refine WpL.v (V.cmp rfl rfl e0) ?_
            refine WpL.v (V.as) ?_
            apply WpL.nil
            apply Out.seqN
            refine Wp.cF ?_
            apply Wp.region
            refine WpL.v (V.cmp rfl rfl e1) ?_
            refine WpL.v (V.as) ?_
            apply WpL.nil
            apply Out.seqN
            refine Wp.cF ?_
            apply Wp.seq
            apply Wp.region
            refine WpL.v (V.cmp rfl rfl e2) ?_
            refine WpL.v (V.as) ?_
            apply WpL.nil
            apply Out.seqN
            refine Wp.cF ?_
            apply Wp.seq
            apply Wp.region
            refine WpL.v (V.mv) ?_
            refine WpL.v (V.mv) ?_
            refine WpL.v (V.fa tb) ?_
            refine WpL.v (V.ld1 tb) ?_
            refine WpL.v (V.cmp rfl rfl hz) ?_
            refine WpL.v (V.pF) ?_
            refine WpL.v (V.mv) ?_
            refine WpL.sk ?_
            refine WpL.sk ?_
            refine WpL.sk ?_
            refine WpL.sk ?_
            refine WpL.sk ?_
            refine WpL.v (V.pT) ?_
            refine WpL.v (V.as) ?_
            apply WpL.nil
            apply Out.seqN
            apply Wp.seq
            apply Wp.region
            refine WpL.v (V.mv) ?_
            refine WpL.v (V.not) ?_
            apply WpL.nil
            apply Out.seqN
            refine Wp.cF ?_
            apply Wp.skip
            apply Out.blockN
            apply Out.seqN
            apply Wp.seq
            apply Wp.seq
            apply Wp.region
            refine WpL.v (V.mv) ?_
            apply WpL.nil
            apply Out.seqN
            refine Wp.cT ?_
            apply Wp.region
            refine WpL.v (V.as) ?_
            apply WpL.nil
            apply Out.seqN
            apply Wp.seq
            apply Wp.region
            refine WpL.v (V.as) ?_
            apply WpL.nil
            apply Out.seqN
            apply Wp.seq
            apply Wp.seq
            apply Wp.region
            refine WpL.v (V.fa tb) ?_
            refine WpL.v (V.ld1 tb) ?_
            apply WpL.nil
            apply Out.seqN
            apply Wp.block
            apply Wp.seq
            apply Wp.region
            refine WpL.v (V.cmp rfl rfl e0) ?_
            refine WpL.v (V.as) ?_
            apply WpL.nil
            apply Out.seqN
            refine Wp.cF ?_
            apply Wp.seq
            apply Wp.region
            refine WpL.v (V.cmp rfl rfl e1) ?_
            refine WpL.v (V.as) ?_
            apply WpL.nil
            apply Out.seqN
            refine Wp.cF ?_
            apply Wp.seq
            apply Wp.region
            refine WpL.v (V.cmp rfl rfl e2) ?_
            refine WpL.v (V.as) ?_
            apply WpL.nil
            apply Out.seqN
            refine Wp.cF ?_
            apply Wp.region
            refine WpL.v (V.mv) ?_
            refine WpL.v (V.fa tb) ?_
            refine WpL.v (V.ld1 tb) ?_
            refine WpL.o (Op1.callT rfl (h1) (by (repeat (first | exact Sel.nil | exact Rem.here | apply Sel.cons | apply Rem.there))) ?_)
            rintro v1 s2 ⟨rfl, rfl⟩
            refine incat ?_
            refine WpL.v (V.mv) ?_
            refine WpL.v (V.cmpS rfl rfl (eqlS_self _)) ?_
            refine WpL.v (V.as) ?_
            apply WpL.nil
            apply Out.blockN
            apply Out.seqN
            apply Wp.seq
            apply Wp.region
            refine WpL.v (V.mv) ?_
            refine WpL.v (V.not) ?_
            refine WpL.v (V.mv) ?_
            refine WpL.v (V.mv) ?_
            refine WpL.o (Op1.callT rfl (srcDry _ _) (by (repeat (first | exact Sel.nil | exact Rem.here | apply Sel.cons | apply Rem.there))) ?_)
            rintro v3 s4 ⟨rfl, rfl⟩
            refine incat ?_
            refine WpL.v (V.mv) ?_
            refine WpL.v (V.neBE tb rfl rfl hff) ?_
            refine WpL.v (V.pF) ?_
            refine WpL.v (V.mv) ?_
            refine WpL.v (V.mv) ?_
            refine WpL.o (Op1.callT rfl (srcLeft _ _) (by (repeat (first | exact Sel.nil | exact Rem.here | apply Sel.cons | apply Rem.there))) ?_)
            rintro v5 s6 ⟨rfl, rfl⟩
            refine incat ?_
            refine WpL.v (V.mv) ?_
            refine WpL.v (V.lenS tb) ?_
            refine WpL.v (V.cmp rfl rfl (neq_self _)) ?_
            refine WpL.v (V.pF) ?_
            refine WpL.v (V.mv) ?_
            refine WpL.v (V.mv) ?_
            refine WpL.o (Op1.callT rfl (srcOver _ _) (by (repeat (first | exact Sel.nil | exact Rem.here | apply Sel.cons | apply Rem.there))) ?_)
            rintro v7 s8 ⟨rfl, rfl⟩
            refine incat ?_
            refine WpL.v (V.mv) ?_
            refine WpL.v (V.not) ?_
            refine WpL.v (V.mv) ?_
            refine WpL.sk ?_
            refine WpL.sk ?_
            refine WpL.v (V.pF) ?_
            refine WpL.v (V.neBE tb rfl rfl hff) ?_
            refine WpL.v (V.pF) ?_
            apply WpL.nil
            apply Out.seqN
            refine Wp.cF ?_
            apply Wp.skip
            apply Out.blockN
            apply Out.seqN
            apply Wp.region
            refine WpL.v (V.add) ?_
            refine WpL.v (V.mv) ?_
            apply WpL.nil
            rotate_left
            (try simp only [decide_eq_true_eq, decide_eq_false_iff_not, Bool.not_eq_true', Bool.not_eq_false', Bool.not_eq_true, Bool.not_eq_false, not_true_eq_false, not_false_eq_true, reduceCtorEq] at h0)
            (exfalso; omega)
            exact Out.ag hK ⟨k + 1, [], true⟩ ⟨by dsimp only; omega, by simp, by simp⟩ (by dsimp only; omega)
          · by_cases hn0 : x.N < 0
            · exfalso; omega
            · have hz : cmpI .lss x.N 0 = some false := by first | (simp [cmpI, *]; done) | (simp only [cmpI, Option.some.injEq, decide_eq_true_eq, decide_eq_false_iff_not]; omega)
              have hg : cmpI .gtr x.N (b.length : Int) = some true := by first | (simp [cmpI, *]; done) | (simp only [cmpI, Option.some.injEq, decide_eq_true_eq, decide_eq_false_iff_not]; omega)
              apply Wp.seq
              apply Wp.region
              refine WpL.v (V.cmp) ?_
              apply WpL.nil
              apply Out.seqN
              apply Wp.seq
              refine Wp.c (fun h0 => ?_) (fun h0 => ?_)
              (try simp only [decide_eq_true_eq, decide_eq_false_iff_not, Bool.not_eq_true', Bool.not_eq_false', Bool.not_eq_true, Bool.not_eq_false, not_true_eq_false, not_false_eq_true, reduceCtorEq] at h0)
              apply Wp.skip
              apply Out.seqN
              apply Wp.seq
              apply Wp.block
              apply Wp.seq
              apply Wp.region
              refine WpL.v (V.ixR tb rfl rfl (by assumption)) ?_
              refine WpL.v (V.ldRA tb rfl (by assumption) (getMapS (by assumption))) ?_
              refine WpL.o (O.al tb (fun p8 => ?_))
              refine WpL.o (O.stA tb ?_)
              apply WpL.nil
              apply Out.seqN
              apply Wp.seq
              apply Wp.region
              refine WpL.v (V.mv) ?_
              refine WpL.v (V.fa tb) ?_
              refine WpL.v (V.ld1 tb) ?_
              refine WpL.o (Op1.fn rfl (taken _ _ ?_) ?_)
              (first | with_reducible assumption | omega | (simp only [List.length_append, List.length_cons, List.length_nil, List.length_map] at *; omega) | (focus (simp; done)))
              refine WpL.v (V.mv) ?_
              refine WpL.v (V.ex) ?_
              refine WpL.v (V.ex) ?_
              refine WpL.v (V.as) ?_
              refine WpL.v (V.as) ?_
              apply WpL.nil
              apply Out.seqN
              apply Wp.seq
              apply Wp.seq
              apply Wp.region
              refine WpL.v (V.fa tb) ?_
              refine WpL.v (V.ld1 tb) ?_
              refine WpL.v (V.cmp rfl rfl e1) ?_
              apply WpL.nil
              apply Out.seqN
              refine Wp.cF ?_
              apply Wp.skip
              apply Out.seqN
              apply Wp.seq
              apply Wp.region
              refine WpL.v (V.as) ?_
              apply WpL.nil
              apply Out.seqN
              apply Wp.seq
              apply Wp.region
              refine WpL.v (V.as) ?_
              apply WpL.nil
              apply Out.seqN
              apply Wp.seq
              apply Wp.seq
              apply Wp.region
              refine WpL.v (V.fa tb) ?_
              refine WpL.v (V.ld1 tb) ?_
              apply WpL.nil
              apply Out.seqN
              apply Wp.block
              apply Wp.seq
              apply Wp.seq
              apply Wp.region
              refine WpL.v (V.cmp rfl rfl e0) ?_
              refine WpL.v (V.as) ?_
              apply WpL.nil
              apply Out.seqN
              refine Wp.cF ?_
              apply Wp.region
              refine WpL.v (V.cmp rfl rfl e1) ?_
              refine WpL.v (V.as) ?_
              apply WpL.nil
              apply Out.seqN
              refine Wp.cF ?_
              apply Wp.seq
              apply Wp.region
              refine WpL.v (V.cmp rfl rfl e2) ?_
              refine WpL.v (V.as) ?_
              apply WpL.nil
              apply Out.seqN
              refine Wp.cF ?_
              apply Wp.seq
              apply Wp.region
              refine WpL.v (V.mv) ?_
              refine WpL.v (V.mv) ?_
              refine WpL.v (V.fa tb) ?_
              refine WpL.v (V.ld1 tb) ?_
              refine WpL.v (V.cmp rfl rfl hz) ?_
              refine WpL.v (V.pF) ?_
              refine WpL.v (V.mv) ?_
              refine WpL.v (V.fa tb) ?_
              refine WpL.v (V.ld1 tb) ?_
              refine WpL.v (V.mv) ?_
              refine WpL.v (V.lenS tb) ?_
              refine WpL.v (V.cmp rfl rfl hg) ?_
              refine WpL.v (V.pF) ?_
              refine WpL.v (V.as) ?_
              apply WpL.nil
              apply Out.seqN
              apply Wp.seq
              apply Wp.region
              refine WpL.v (V.mv) ?_
              refine WpL.v (V.not) ?_
              apply WpL.nil
              apply Out.seqN
              refine Wp.cF ?_
              apply Wp.skip
              apply Out.blockN
              apply Out.seqN
              apply Wp.seq
              apply Wp.seq
              apply Wp.region
              refine WpL.v (V.mv) ?_
              apply WpL.nil
              apply Out.seqN
              refine Wp.cT ?_
              apply Wp.region
              refine WpL.v (V.as) ?_
              apply WpL.nil
              apply Out.seqN
              apply Wp.seq
              apply Wp.region
              refine WpL.v (V.as) ?_
              apply WpL.nil
              apply Out.seqN
              apply Wp.seq
              apply Wp.seq
              apply Wp.region
              refine WpL.v (V.fa tb) ?_
              refine WpL.v (V.ld1 tb) ?_
              apply WpL.nil
              apply Out.seqN
              apply Wp.block
              apply Wp.seq
              apply Wp.region
              refine WpL.v (V.cmp rfl rfl e0) ?_
              refine WpL.v (V.as) ?_
              apply WpL.nil
              apply Out.seqN
              refine Wp.cF ?_
              apply Wp.seq
              apply Wp.region
              refine WpL.v (V.cmp rfl rfl e1) ?_
              refine WpL.v (V.as) ?_
              apply WpL.nil
              apply Out.seqN
              refine Wp.cF ?_
              apply Wp.seq
              apply Wp.region
              refine WpL.v (V.cmp rfl rfl e2) ?_
              refine WpL.v (V.as) ?_
              apply WpL.nil
              apply Out.seqN
              refine Wp.cF ?_
              apply Wp.region
              refine WpL.v (V.mv) ?_
              refine WpL.v (V.fa tb) ?_
              refine WpL.v (V.ld1 tb) ?_
              refine WpL.o (Op1.callT rfl (h1) (by (repeat (first | exact Sel.nil | exact Rem.here | apply Sel.cons | apply Rem.there))) ?_)
              rintro v1 s2 ⟨rfl, rfl⟩
              refine incat ?_
              refine WpL.v (V.mv) ?_
              refine WpL.v (V.cmpS rfl rfl (eqlS_self _)) ?_
              refine WpL.v (V.as) ?_
              apply WpL.nil
              apply Out.blockN
              apply Out.seqN
              apply Wp.seq
              apply Wp.region
              refine WpL.v (V.mv) ?_
              refine WpL.v (V.not) ?_
              refine WpL.v (V.mv) ?_
              refine WpL.v (V.mv) ?_
              refine WpL.o (Op1.callT rfl (srcDry _ _) (by (repeat (first | exact Sel.nil | exact Rem.here | apply Sel.cons | apply Rem.there))) ?_)
              rintro v3 s4 ⟨rfl, rfl⟩
              refine incat ?_
              refine WpL.v (V.mv) ?_
              refine WpL.v (V.neBE tb rfl rfl hff) ?_
              refine WpL.v (V.pF) ?_
              refine WpL.v (V.mv) ?_
              refine WpL.v (V.mv) ?_
              refine WpL.o (Op1.callT rfl (srcLeft _ _) (by (repeat (first | exact Sel.nil | exact Rem.here | apply Sel.cons | apply Rem.there))) ?_)
              rintro v5 s6 ⟨rfl, rfl⟩
              refine incat ?_
              refine WpL.v (V.mv) ?_
              refine WpL.v (V.lenS tb) ?_
              refine WpL.v (V.cmp rfl rfl (neq_self _)) ?_
              refine WpL.v (V.pF) ?_
              refine WpL.v (V.mv) ?_
              refine WpL.v (V.mv) ?_
              refine WpL.o (Op1.callT rfl (srcOver _ _) (by (repeat (first | exact Sel.nil | exact Rem.here | apply Sel.cons | apply Rem.there))) ?_)
              rintro v7 s8 ⟨rfl, rfl⟩
              refine incat ?_
              refine WpL.v (V.mv) ?_
              refine WpL.v (V.not) ?_
              refine WpL.v (V.mv) ?_
              refine WpL.sk ?_
              refine WpL.sk ?_
              refine WpL.v (V.pF) ?_
              refine WpL.v (V.neBE tb rfl rfl hff) ?_
              refine WpL.v (V.pF) ?_
              apply WpL.nil
              apply Out.seqN
              refine Wp.cF ?_
              apply Wp.skip
              apply Out.blockN
              apply Out.seqN
              apply Wp.region
              refine WpL.v (V.add) ?_
              refine WpL.v (V.mv) ?_
              apply WpL.nil
              rotate_left
              (try simp only [decide_eq_true_eq, decide_eq_false_iff_not, Bool.not_eq_true', Bool.not_eq_false', Bool.not_eq_true, Bool.not_eq_false, not_true_eq_false, not_false_eq_true, reduceCtorEq] at h0)
              (exfalso; omega)
              exact Out.ag hK ⟨k + 1, [], true⟩ ⟨by dsimp only; omega, by simp, by simp⟩ (by dsimp only; omega)
        · obtain ⟨q, rest, rfl, hq⟩ : ∃ q rest, b = q ++ rest ∧ (q.length : Int) = x.N := ⟨b.take x.N.toNat, b.drop x.N.toNat, (List.take_append_drop _ b).symm, by rw [List.length_take]; omega⟩
          have hl : (q ++ rest).length = q.length + rest.length := List.length_append
          have hr : rawS ⟨q ++ rest, false⟩ x.N = (q, ⟨rest, false⟩) := by
            unfold rawS
            rw [← hq, if_neg (by simp; omega)]
            simp
          have h1 : Ct Try.prog 46 [Ptr b25 0, I x.N] [cells b25 99 (OctaveSource.c ⟨q ++ rest, false⟩)] (fun r σ' => r = S q ∧ σ' = [cells b25 99 (OctaveSource.c ⟨rest, false⟩)]) := by
            have := srcRaw b25 ⟨q ++ rest, false⟩ x.N (by simp at *; omega); rwa [hr] at this
          have hz : cmpI .lss x.N 0 = some false := by first | (simp [cmpI, *]; done) | (simp only [cmpI, Option.some.injEq, decide_eq_true_eq, decide_eq_false_iff_not]; omega)
          have hg : cmpI .gtr x.N ((q ++ rest).length : Int) = some false := by first | (simp [cmpI, *]; done) | (simp only [cmpI, Option.some.injEq, decide_eq_true_eq, decide_eq_false_iff_not]; omega)
          have hs1 : (q ++ rest).take x.N.toNat = q := by rw [← hq]; simp
          have hs2 : (q ++ rest).drop x.N.toNat = rest := by rw [← hq]; simp
          apply Wp.seq
          apply Wp.region
          refine WpL.v (V.cmp) ?_
          apply WpL.nil
          apply Out.seqN
          apply Wp.seq
          refine Wp.c (fun h0 => ?_) (fun h0 => ?_)
          (try simp only [decide_eq_true_eq, decide_eq_false_iff_not, Bool.not_eq_true', Bool.not_eq_false', Bool.not_eq_true, Bool.not_eq_false, not_true_eq_false, not_false_eq_true, reduceCtorEq] at h0)
          apply Wp.skip
          apply Out.seqN
          apply Wp.seq
          apply Wp.block
          apply Wp.seq
          apply Wp.region
          refine WpL.v (V.ixR tb rfl rfl (by assumption)) ?_
          refine WpL.v (V.ldRA tb rfl (by assumption) (getMapS (by assumption))) ?_
          refine WpL.o (O.al tb (fun p8 => ?_))
          refine WpL.o (O.stA tb ?_)
          apply WpL.nil
          apply Out.seqN
          apply Wp.seq
          apply Wp.region
          refine WpL.v (V.mv) ?_
          refine WpL.v (V.fa tb) ?_
          refine WpL.v (V.ld1 tb) ?_
          refine WpL.o (Op1.fn rfl (taken _ _ ?_) ?_)
          (first | with_reducible assumption | omega | (simp only [List.length_append, List.length_cons, List.length_nil, List.length_map] at *; omega) | (focus (simp; done)))
          refine WpL.v (V.mv) ?_
          refine WpL.v (V.ex) ?_
          refine WpL.v (V.ex) ?_
          refine WpL.v (V.as) ?_
          refine WpL.v (V.as) ?_
          apply WpL.nil
          apply Out.seqN
          apply Wp.seq
          apply Wp.seq
          apply Wp.region
          refine WpL.v (V.fa tb) ?_
          refine WpL.v (V.ld1 tb) ?_
          refine WpL.v (V.cmp rfl rfl e1) ?_
          apply WpL.nil
          apply Out.seqN
          refine Wp.cF ?_
          apply Wp.skip
          apply Out.seqN
          apply Wp.seq
          apply Wp.region
          refine WpL.v (V.as) ?_
          apply WpL.nil
          apply Out.seqN
          apply Wp.seq
          apply Wp.region
          refine WpL.v (V.as) ?_
          apply WpL.nil
          apply Out.seqN
          apply Wp.seq
          apply Wp.seq
          apply Wp.region
          refine WpL.v (V.fa tb) ?_
          refine WpL.v (V.ld1 tb) ?_
          apply WpL.nil
          apply Out.seqN
          apply Wp.block
          apply Wp.seq
          apply Wp.seq
          apply Wp.region
          refine WpL.v (V.cmp rfl rfl e0) ?_
          refine WpL.v (V.as) ?_
          apply WpL.nil
          apply Out.seqN
          refine Wp.cF ?_
          apply Wp.region
          refine WpL.v (V.cmp rfl rfl e1) ?_
          refine WpL.v (V.as) ?_
          apply WpL.nil
          apply Out.seqN
          refine Wp.cF ?_
          apply Wp.seq
          apply Wp.region
          refine WpL.v (V.cmp rfl rfl e2) ?_
          refine WpL.v (V.as) ?_
          apply WpL.nil
          apply Out.seqN
          refine Wp.cF ?_
          apply Wp.seq
          apply Wp.region
          refine WpL.v (V.mv) ?_
          refine WpL.v (V.mv) ?_
          refine WpL.v (V.fa tb) ?_
          refine WpL.v (V.ld1 tb) ?_
          refine WpL.v (V.cmp rfl rfl hz) ?_
          refine WpL.v (V.pF) ?_
          refine WpL.v (V.mv) ?_
          refine WpL.v (V.fa tb) ?_
          refine WpL.v (V.ld1 tb) ?_
          refine WpL.v (V.mv) ?_
          refine WpL.v (V.lenS tb) ?_
          refine WpL.v (V.cmp rfl rfl hg) ?_
          refine WpL.v (V.pF) ?_
          refine WpL.v (V.as) ?_
          apply WpL.nil
          apply Out.seqN
          apply Wp.seq
          apply Wp.region
          refine WpL.v (V.mv) ?_
          refine WpL.v (V.not) ?_
          apply WpL.nil
          apply Out.seqN
          refine Wp.cT ?_
          apply Wp.seq
          apply Wp.region
          refine WpL.v (V.mv) ?_
          refine WpL.v (V.fa tb) ?_
          refine WpL.v (V.ld1 tb) ?_
          refine WpL.v (V.slHiE tb rfl rfl hs1) ?_
          refine WpL.v (V.as) ?_
          apply WpL.nil
          apply Out.seqN
          apply Wp.region
          refine WpL.v (V.mv) ?_
          refine WpL.v (V.fa tb) ?_
          refine WpL.v (V.ld1 tb) ?_
          refine WpL.v (V.slLoE tb rfl rfl hs2) ?_
          refine WpL.v (V.as) ?_
          apply WpL.nil
          apply Out.blockN
          apply Out.seqN
          apply Wp.seq
          apply Wp.seq
          apply Wp.region
          refine WpL.v (V.mv) ?_
          apply WpL.nil
          apply Out.seqN
          refine Wp.cF ?_
          apply Wp.skip
          apply Out.seqN
          apply Wp.seq
          apply Wp.region
          refine WpL.v (V.as) ?_
          apply WpL.nil
          apply Out.seqN
          apply Wp.seq
          apply Wp.seq
          apply Wp.region
          refine WpL.v (V.fa tb) ?_
          refine WpL.v (V.ld1 tb) ?_
          apply WpL.nil
          apply Out.seqN
          apply Wp.block
          apply Wp.seq
          apply Wp.region
          refine WpL.v (V.cmp rfl rfl e0) ?_
          refine WpL.v (V.as) ?_
          apply WpL.nil
          apply Out.seqN
          refine Wp.cF ?_
          apply Wp.seq
          apply Wp.region
          refine WpL.v (V.cmp rfl rfl e1) ?_
          refine WpL.v (V.as) ?_
          apply WpL.nil
          apply Out.seqN
          refine Wp.cF ?_
          apply Wp.seq
          apply Wp.region
          refine WpL.v (V.cmp rfl rfl e2) ?_
          refine WpL.v (V.as) ?_
          apply WpL.nil
          apply Out.seqN
          refine Wp.cF ?_
          apply Wp.region
          refine WpL.v (V.mv) ?_
          refine WpL.v (V.fa tb) ?_
          refine WpL.v (V.ld1 tb) ?_
          refine WpL.o (Op1.callT rfl (h1) (by (repeat (first | exact Sel.nil | exact Rem.here | apply Sel.cons | apply Rem.there))) ?_)
          rintro v1 s2 ⟨rfl, rfl⟩
          refine incat ?_
          refine WpL.v (V.mv) ?_
          refine WpL.v (V.cmpS rfl rfl (eqlS_self _)) ?_
          refine WpL.v (V.as) ?_
          apply WpL.nil
          apply Out.blockN
          apply Out.seqN
          apply Wp.seq
          apply Wp.region
          refine WpL.v (V.mv) ?_
          refine WpL.v (V.not) ?_
          refine WpL.v (V.mv) ?_
          refine WpL.v (V.mv) ?_
          refine WpL.o (Op1.callT rfl (srcDry _ _) (by (repeat (first | exact Sel.nil | exact Rem.here | apply Sel.cons | apply Rem.there))) ?_)
          rintro v3 s4 ⟨rfl, rfl⟩
          refine incat ?_
          refine WpL.v (V.mv) ?_
          refine WpL.v (V.neBE tb rfl rfl hff) ?_
          refine WpL.v (V.pF) ?_
          refine WpL.v (V.mv) ?_
          refine WpL.v (V.mv) ?_
          refine WpL.o (Op1.callT rfl (srcLeft _ _) (by (repeat (first | exact Sel.nil | exact Rem.here | apply Sel.cons | apply Rem.there))) ?_)
          rintro v5 s6 ⟨rfl, rfl⟩
          refine incat ?_
          refine WpL.v (V.mv) ?_
          refine WpL.v (V.lenS tb) ?_
          refine WpL.v (V.cmp rfl rfl (neq_self _)) ?_
          refine WpL.v (V.pF) ?_
          refine WpL.v (V.mv) ?_
          refine WpL.v (V.mv) ?_
          refine WpL.o (Op1.callT rfl (srcOver _ _) (by (repeat (first | exact Sel.nil | exact Rem.here | apply Sel.cons | apply Rem.there))) ?_)
          rintro v7 s8 ⟨rfl, rfl⟩
          refine incat ?_
          refine WpL.v (V.mv) ?_
          refine WpL.v (V.not) ?_
          refine WpL.v (V.mv) ?_
          refine WpL.v (V.mv) ?_
          refine WpL.v (V.cmpS) ?_
          refine WpL.v (V.pT) ?_
          refine WpL.v (V.neBE tb rfl rfl (hov _)) ?_
          refine WpL.v (V.pF) ?_
          apply WpL.nil
          apply Out.seqN
          refine Wp.cF ?_
          apply Wp.skip
          apply Out.blockN
          apply Out.seqN
          apply Wp.region
          refine WpL.v (V.add) ?_
          refine WpL.v (V.mv) ?_
          apply WpL.nil
          rotate_left
          (try simp only [decide_eq_true_eq, decide_eq_false_iff_not, Bool.not_eq_true', Bool.not_eq_false', Bool.not_eq_true, Bool.not_eq_false, not_true_eq_false, not_false_eq_true, reduceCtorEq] at h0)
          (exfalso; omega)
          exact Out.ag hK ⟨k + 1, rest, false⟩ ⟨by dsimp only; omega, by dsimp only; omega, by simp⟩ (by dsimp only; omega)
  · apply Wp.seq
    apply Wp.region
    refine WpL.v (V.cmp) ?_
    apply WpL.nil
    apply Out.seqN
    apply Wp.seq
    refine Wp.c (fun hc0 => ?_) (fun hc0 => ?_)
    (try simp only [decide_eq_true_eq, decide_eq_false_iff_not, Bool.not_eq_true', Bool.not_eq_false', Bool.not_eq_true, Bool.not_eq_false, not_true_eq_false, not_false_eq_true, reduceCtorEq] at hc0)
    (exfalso; omega)
    (try simp only [decide_eq_true_eq, decide_eq_false_iff_not, Bool.not_eq_true', Bool.not_eq_false', Bool.not_eq_true, Bool.not_eq_false, not_true_eq_false, not_false_eq_true, reduceCtorEq] at hc0)
    apply Wp.exit
    apply Out.seqE
    apply Out.seqE
    apply Out.blockE
    apply Out.seqN
    apply Wp.seq
    apply Wp.region
    refine WpL.v (V.as) ?_
    apply WpL.nil
    apply Out.seqN
    apply Wp.seq
    apply Wp.region
    refine WpL.v (V.mv) ?_
    refine WpL.o (Op1.fn rfl (srcStopN) ?_)
    apply WpL.nil
    apply Out.seqN
    apply Wp.seq
    apply Wp.region
    refine WpL.v (V.mv) ?_
    refine WpL.o (Op1.fn rfl (srcRawN _) ?_)
    refine WpL.v (V.cmpS) ?_
    refine WpL.v (V.mv) ?_
    refine WpL.v (V.mv) ?_
    refine WpL.o (Op1.fn rfl (srcNatN _) ?_)
    refine WpL.v (V.cmp) ?_
    refine WpL.v (V.pT) ?_
    refine WpL.v (V.mv) ?_
    refine WpL.v (V.mv) ?_
    refine WpL.o (Op1.fn rfl (srcBitN) ?_)
    refine WpL.v (V.not) ?_
    refine WpL.v (V.pT) ?_
    refine WpL.v (V.mv) ?_
    refine WpL.v (V.mv) ?_
    refine WpL.o (Op1.fn rfl (srcTextN _) ?_)
    refine WpL.v (V.cmpS) ?_
    refine WpL.v (V.pT) ?_
    refine WpL.v (V.mv) ?_
    refine WpL.v (V.mv) ?_
    refine WpL.o (Op1.fn rfl (srcDryN) ?_)
    refine WpL.v (V.pT) ?_
    refine WpL.v (V.mv) ?_
    refine WpL.v (V.mv) ?_
    refine WpL.o (Op1.fn rfl (srcOverN) ?_)
    refine WpL.v (V.not) ?_
    refine WpL.v (V.pT) ?_
    refine WpL.v (V.mv) ?_
    refine WpL.v (V.mv) ?_
    refine WpL.o (Op1.fn rfl (srcLeftN) ?_)
    refine WpL.v (V.cmp) ?_
    refine WpL.v (V.pT) ?_
    refine WpL.v (V.as) ?_
    apply WpL.nil
    apply Out.seqN
    apply Wp.ret
    refine Out.f1 rfl ResIs.t ⟨?_, rfl⟩
    exact rfl
open Go Go.ChangeShapes Go.WideShapes Go.ChangeAt Go.RowKit
theorem octaveGives_read : (Try.f14.params.toList.all fun t => Try.prog.readableRec t && decide (t < Try.prog.types.size)) = true := by kernel_rfl
theorem octaveGives_lifted (os : Go.Os) (started : os.Started) (H : Type) (enc : Go.TypeId × Go.Value → H) :
    ReturnsInHanded {} Try.checked os 14 .any (Rows.octaveGivesSpec.pre6 enc Try.prog Try.f14 Rows.octaveGivesRow.domain false) (Rows.octaveGivesSpec.post enc Try.prog Try.f14 false true false false) := by
  refine returnsInHanded_of_change_sized (C := Try.checked) own started (by kernel_rfl) Try.func14
    (ChangeSpec.witness6 (enc := enc) (C := Try.checked) false ⟨#[], #[S [], .slice none 0 0], []⟩ 8 (by kernel_rfl) (by kernel_rfl) (by kernel_rfl) (by kernel_rfl)) ?_
  intro W base args ds gs before hval0 hW hcnd hsz0 _
  have hsz : (DataW.weightsEach Try.prog (Try.f14.params.toList ++ Rows.octaveGivesSpec.plain.varTypes Try.prog) (ds ++ gs)).all (· ≤ reachBytes) = true := hsz0
  have hval : ∀ (j : Nat) t v, Try.f14.params[j]? = some t → args[j]? = some v → Value.okWide Try.prog W .any base t v := hval0
  have hW' := hW
  obtain ⟨p, q, hA0, hV, rfl, hfz, hnd⟩ := hW
  have hA1 : DataW.TrodAll enc Try.prog W 0 (fun _ => true) true Try.f14.params.toList args.toList ds p := hA0
  have hA := hA1
  rw [Try.params14] at hA hval hsz
  obtain ⟨v0, vs0, d0, ds0, p0, q0, hargs, rfl, rfl, h0, r0⟩ := trodAll_cons hA
  obtain ⟨v1, vs1, d1, ds1, p1, q1, rfl, rfl, rfl, h1, r1⟩ := trodAll_cons r0
  obtain ⟨rfl, rfl, rfl⟩ := trodAll_nil r1
  obtain rfl : args = #[v0, v1] := by cases args; simp_all
  obtain ⟨rfl, rfl⟩ := trodVars_none hV
  obtain ⟨x0, rfl, w0⟩ := open_str (P := Try.prog) Try.underlying9 h0 (string_cells (hval 0 9 v0 rfl rfl) Try.underlying9) (sizedAll hsz 0 rfl rfl)
  obtain ⟨ao1, b1, off1, len1, cap1, xs1, rfl, hl1, hlc1, hcm1, ha1, hs1, hf1, hby1⟩ := open_slice_plain Try.underlying30 Caucuslaw01Item.leaves (by kernel_rfl) (by decide) (hval 1 30 v1 rfl rfl) h1 (sizedAll hsz 1 rfl rfl)
  obtain ⟨x1, rfl, w1⟩ := fits_map Caucuslaw01Item.c Caucuslaw01Item.wf hf1 Caucuslaw01Item.fit
  obtain rfl : len1 = x1.length := by simpa using hl1.symm
  simp only [List.append_nil] at hW' hA1
  have hbl : ∀ p : Nat × Nat, p ∈ [(x1.length, b1)] → 0 < p.1 → p.2 < W.heap.size := by
    intro p hp h0
    simp only [List.mem_cons, List.mem_nil_iff, or_false] at hp
    rcases hp with rfl
    · exact (ha1 h0).2
  have hR1 : Rd (snap W (blocksOf [(x1.length, b1)])) ao1 x1.length b1 off1 4 (x1.map Caucuslaw01Item.c) := Rd.snap (by simp) (Nat.le_trans hlc1 hcm1) ha1 hs1 (fun h => blocksOf_mem (len := x1.length) (by simp) h)
  refine (Ct.runSnap (blocksOf_nodup _) (blocksOf_lt hbl) (octaveGives_walk _ _ _ _ _ x0 x1 hR1 (fun x hx => (w1 x hx).2.2))).mono fun e W' hh => ?_
  obtain ⟨rfl, hS⟩ := hh
  exact ⟨_, rfl, post_law (P := Try.prog) (f := Try.f14) (tbool := 4) hW' hA1 rfl rfl hS laid octaveGives_read rfl Try.underlying4⟩
theorem octaveGives_over : Rows.octaveGivesRow.holds Try.pinned (OpenSpec.ofChange Rows.octaveGivesSpec) :=
  OpenClaim.holds_of_wide 14 Try.f14 rfl rfl rfl rfl rfl rfl rfl ⟨rfl, rfl, rfl, rfl, rfl⟩ rfl rfl rfl rfl rfl (by kernel_rfl) Try.func14 (by kernel_rfl)
    (of_decide_eq_true (by kernel_rfl)) (by unfold Func.isWrapper; first | (rw [if_pos (by decide +kernel)]; kernel_rfl) | (rw [if_neg (by decide +kernel)]; exact ⟨rfl, rfl⟩))
    (fun os started H enc _ => octaveGives_lifted os started H enc)
/-- THE STATEMENT. -/
theorem octaveGives_proved : Rows.OctaveGivesSaid := octaveGives_over
#print axioms octaveGives_proved

end Go.Proofs.Ytienlncaffliaaa
