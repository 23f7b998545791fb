/-
  Layer 20: the registry's deeds.
-/
import Derived.Test.YtgihkocnmgkihaaReg
namespace Go.HL
open Go
section
variable {P : Program} {n : Fm} {env : Env} {σ : List Ent} {dst : Nat} {ty : TypeId} {pos : String} {af : Array Edge} {gd : Option (Nat × Bool)} {α β : Type} [DecidableEq α] {kf : α → Value} {vf : β → Value} {kt : TypeId} {l : List (α × β)}
/-- v, ok := m[k]. -/
theorem Val.look2D {t e : TypeId} {x y : Operand} {b : Nat} {k : α} (z0 : β) (hK : KeyOk P kt kf) (ht : mapTB P t kt e = true) (hz : ∀ w, (zeroValue e).run P w = .ok (vf z0) w)
    (hx : ev env x = some (.map (some b))) (hy : ev env y = some (kf k)) (hm : mapK kf vf b l ∈ σ) : Val P n env σ ⟨some dst, .lookup t x y true, ty, pos, af, gd⟩ (.tuple #[vf ((mget l k).getD z0), .bool (mget l k).isSome]) := by
  have h := Val.look2 (P := P) (n := n) (env := env) (σ := σ) (dst := dst) (ty := ty) (pos := pos) (af := af) (gd := gd) (l := l) (k := k) hK ht hz hx hy hm
  cases hg : mget l k with
  | none => rw [hg] at h; exact h
  | some v => rw [hg] at h; exact h
end
end Go.HL
namespace Go.Proofs.Ytgihkocnmgkihaa
open Go.HL
set_option linter.unusedSimpArgs false
set_option linter.unusedVariables false
set_option maxRecDepth 8000
def rep (err : Int) (v : List UInt8) (ver : Int) : RegistryReply := ⟨err, v, ver, .slice none 0 0⟩
/-- What a deed that lists nothing comes to. -/
def doN (l : PM) (d : TDeed) : RegistryReply × PM :=
  if d.Kind = 0 then (rep 0 [] 0, l)
  else if d.Kind = 2 then (rep 0 [] ((look l d.Key).Version + 1), putL l d.Key d.Value)
  else if d.Kind = 3 then (if (look l d.Key).Version = d.Version then (rep 0 [] ((look l d.Key).Version + 1), putL l d.Key d.Value) else (rep 8 [] (look l d.Key).Version, l))
  else if d.Kind = 1 ∨ d.Kind = 4 then (if (mget l d.Key).isSome = true then (if d.Kind = 4 then (rep 0 [] (look l d.Key).Version, mdel l d.Key) else (rep 0 (look l d.Key).Value (look l d.Key).Version, l)) else (rep 5 [] 0, l))
  else (rep 1 [] 0, l)
set_option maxHeartbeats 4000000 in
theorem reg_do (b m : Nat) (l : PM) (d : TDeed) (hk : d.Kind ≠ 5) (hv : 0 ≤ (look l d.Key).Version ∧ (look l d.Key).Version ≤ 1000000) :
    Ct Try.prog 15 [Ptr b 0, A d.c] (rgE b m l) (fun r σ' => r = A (doN l d).1.c ∧ σ' = rgE b m (doN l d).2) := by
  have hP := reg_put b m l d.Key d.Value hv
  have hlk : (mget l d.Key).getD RegistryPair.z = look l d.Key := rfl
  unfold doN rep
  unfold rgE mE at hP ⊢
  by_cases k0 : d.Kind = 0
  · rw [if_pos k0]
    refine Ct.enter Try.func15 rfl rfl fun W => ?_
    apply Wp.seq
    apply Wp.region
    refine WpL.o (O.bxA (fun p3 => ?_))
    refine WpL.o (O.al tb (fun p4 => ?_))
    apply WpL.nil
    apply Out.seqN
    apply Wp.seq
    apply Wp.seq
    apply Wp.region
    refine WpL.v (V.mv) ?_
    refine WpL.v (V.eqP) ?_
    apply WpL.nil
    apply Out.seqN
    refine Wp.cF ?_
    apply Wp.skip
    apply Out.seqN
    apply Wp.seq
    refine Wp.dG [] ?_ (List.Sublist.cons _ (List.Sublist.cons_cons _ (List.Sublist.cons_cons _ (List.Sublist.cons _ List.Sublist.slnil)))) (List.Sublist.cons _ (List.Sublist.cons_cons _ (List.Sublist.cons_cons _ (List.Sublist.cons _ List.Sublist.slnil))))
    refine WpA.tF 0 rfl (V.mv) ?_
    refine WpA.tF 1 rfl (V.nc) ?_
    refine WpA.tF 2 rfl (V.fa tb) ?_
    refine WpA.tF 3 rfl (V.ld1 tb) ?_
    refine WpA.tF 4 rfl (V.fa tb) ?_
    refine WpA.tF 5 rfl (V.ld1 tb) ?_
    refine WpA.e2 6 10 rfl rfl ?_ ?_
    refine Op1.vv (Val.look2D (l := l) (k := d.Key) (vf := vP) RegistryPair.z kokS map72 zero52 rfl rfl (by (repeat first | exact List.Mem.head _ | apply List.Mem.tail))) ⟨?_, ?_, ?_⟩
    exact holdT
    exact holdT
    refine WpA.tF 7 rfl (V.mv) ?_
    refine WpA.tF 8 rfl (V.ex) ?_
    refine WpA.tF 9 rfl (V.ex) ?_
    refine WpA.oS 10 rfl (O.al tb (fun p5 => ⟨?_, ?_, ?_⟩))
    exact holdT
    exact holdT
    refine WpA.oS 11 rfl (O.stA tb ⟨?_, ?_, ?_⟩)
    exact holdT
    exact holdT
    refine WpA.tF 12 rfl (V.as) ?_
    refine WpA.ou ?_
    apply Out.seqN
    apply Wp.seq
    apply Wp.seq
    apply Wp.region
    refine WpL.v (V.fa tb) ?_
    refine WpL.v (V.ld1 tb) ?_
    apply WpL.nil
    apply Out.seqN
    apply Wp.block
    apply Wp.seq
    apply Wp.region
    refine WpL.v (V.cmp) ?_
    refine WpL.v (V.as) ?_
    apply WpL.nil
    apply Out.seqN
    refine Wp.c (fun ha0 => ?_) (fun ha0 => ?_)
    (try simp only [decide_eq_true_eq, decide_eq_false_iff_not, Bool.not_eq_true', Bool.not_eq_false', Bool.not_eq_true, Bool.not_eq_false, not_true_eq_false, not_false_eq_true, reduceCtorEq] at ha0)
    apply Wp.seq
    apply Wp.region
    refine WpL.v (V.bld tb) ?_
    refine WpL.o (O.stA tb ?_)
    apply WpL.nil
    apply Out.seqN
    apply Wp.ret
    apply Out.blockR
    apply Out.seqR
    refine Out.f1 rfl (ResIs.ca tb) ⟨?_, rfl⟩
    exact rfl
    (try simp only [decide_eq_true_eq, decide_eq_false_iff_not, Bool.not_eq_true', Bool.not_eq_false', Bool.not_eq_true, Bool.not_eq_false, not_true_eq_false, not_false_eq_true, reduceCtorEq] at ha0)
    (exfalso; omega)
    refine O.al tb (fun p5 => ⟨?_, ?_, ?_⟩)
    exact holdT
    exact holdT
    refine WpA.oS 6 rfl (Op1.vv (Val.look2D (l := l) (k := d.Key) (vf := vP) RegistryPair.z kokS map72 zero52 rfl rfl (by (repeat first | exact List.Mem.head _ | apply List.Mem.tail))) ⟨?_, ?_, ?_⟩)
    exact holdT
    exact holdT
    refine WpA.tF 7 rfl (V.mv) ?_
    refine WpA.tF 8 rfl (V.ex) ?_
    refine WpA.tF 9 rfl (V.ex) ?_
    refine WpA.oS 11 rfl (O.stA tb ⟨?_, ?_, ?_⟩)
    exact holdT
    exact holdT
    refine WpA.tF 12 rfl (V.as) ?_
    refine WpA.ou ?_
    apply Out.seqN
    apply Wp.seq
    apply Wp.seq
    apply Wp.region
    refine WpL.v (V.fa tb) ?_
    refine WpL.v (V.ld1 tb) ?_
    apply WpL.nil
    apply Out.seqN
    apply Wp.block
    apply Wp.seq
    apply Wp.region
    refine WpL.v (V.cmp) ?_
    refine WpL.v (V.as) ?_
    apply WpL.nil
    apply Out.seqN
    refine Wp.c (fun ha1 => ?_) (fun ha1 => ?_)
    (try simp only [decide_eq_true_eq, decide_eq_false_iff_not, Bool.not_eq_true', Bool.not_eq_false', Bool.not_eq_true, Bool.not_eq_false, not_true_eq_false, not_false_eq_true, reduceCtorEq] at ha1)
    apply Wp.seq
    apply Wp.region
    refine WpL.v (V.bld tb) ?_
    refine WpL.o (O.stA tb ?_)
    apply WpL.nil
    apply Out.seqN
    apply Wp.ret
    apply Out.blockR
    apply Out.seqR
    refine Out.f1 rfl (ResIs.ca tb) ⟨?_, rfl⟩
    exact rfl
    (try simp only [decide_eq_true_eq, decide_eq_false_iff_not, Bool.not_eq_true', Bool.not_eq_false', Bool.not_eq_true, Bool.not_eq_false, not_true_eq_false, not_false_eq_true, reduceCtorEq] at ha1)
    (exfalso; omega)
  rw [if_neg k0]
  by_cases k2 : d.Kind = 2
  · rw [if_pos k2]
    refine Ct.enter Try.func15 rfl rfl fun W => ?_
    apply Wp.seq
    apply Wp.region
    refine WpL.o (O.bxA (fun p3 => ?_))
    refine WpL.o (O.al tb (fun p4 => ?_))
    apply WpL.nil
    apply Out.seqN
    apply Wp.seq
    apply Wp.seq
    apply Wp.region
    refine WpL.v (V.mv) ?_
    refine WpL.v (V.eqP) ?_
    apply WpL.nil
    apply Out.seqN
    refine Wp.cF ?_
    apply Wp.skip
    apply Out.seqN
    apply Wp.seq
    refine Wp.dG [] ?_ (List.Sublist.cons _ (List.Sublist.cons_cons _ (List.Sublist.cons_cons _ (List.Sublist.cons _ List.Sublist.slnil)))) (List.Sublist.cons _ (List.Sublist.cons_cons _ (List.Sublist.cons_cons _ (List.Sublist.cons _ List.Sublist.slnil))))
    refine WpA.tF 0 rfl (V.mv) ?_
    refine WpA.tF 1 rfl (V.nc) ?_
    refine WpA.tF 2 rfl (V.fa tb) ?_
    refine WpA.tF 3 rfl (V.ld1 tb) ?_
    refine WpA.tF 4 rfl (V.fa tb) ?_
    refine WpA.tF 5 rfl (V.ld1 tb) ?_
    refine WpA.e2 6 10 rfl rfl ?_ ?_
    refine Op1.vv (Val.look2D (l := l) (k := d.Key) (vf := vP) RegistryPair.z kokS map72 zero52 rfl rfl (by (repeat first | exact List.Mem.head _ | apply List.Mem.tail))) ⟨?_, ?_, ?_⟩
    exact holdT
    exact holdT
    refine WpA.tF 7 rfl (V.mv) ?_
    refine WpA.tF 8 rfl (V.ex) ?_
    refine WpA.tF 9 rfl (V.ex) ?_
    refine WpA.oS 10 rfl (O.al tb (fun p5 => ⟨?_, ?_, ?_⟩))
    exact holdT
    exact holdT
    refine WpA.oS 11 rfl (O.stA tb ⟨?_, ?_, ?_⟩)
    exact holdT
    exact holdT
    refine WpA.tF 12 rfl (V.as) ?_
    refine WpA.ou ?_
    apply Out.seqN
    apply Wp.seq
    apply Wp.seq
    apply Wp.region
    refine WpL.v (V.fa tb) ?_
    refine WpL.v (V.ld1 tb) ?_
    apply WpL.nil
    apply Out.seqN
    apply Wp.block
    apply Wp.seq
    apply Wp.region
    refine WpL.v (V.cmp) ?_
    refine WpL.v (V.as) ?_
    apply WpL.nil
    apply Out.seqN
    refine Wp.c (fun hc0 => ?_) (fun hc0 => ?_)
    (try simp only [decide_eq_true_eq, decide_eq_false_iff_not, Bool.not_eq_true', Bool.not_eq_false', Bool.not_eq_true, Bool.not_eq_false, not_true_eq_false, not_false_eq_true, reduceCtorEq] at hc0)
    (exfalso; omega)
    (try simp only [decide_eq_true_eq, decide_eq_false_iff_not, Bool.not_eq_true', Bool.not_eq_false', Bool.not_eq_true, Bool.not_eq_false, not_true_eq_false, not_false_eq_true, reduceCtorEq] at hc0)
    apply Wp.seq
    apply Wp.region
    refine WpL.v (V.cmp) ?_
    refine WpL.v (V.as) ?_
    apply WpL.nil
    apply Out.seqN
    refine Wp.c (fun hc1 => ?_) (fun hc1 => ?_)
    (try simp only [decide_eq_true_eq, decide_eq_false_iff_not, Bool.not_eq_true', Bool.not_eq_false', Bool.not_eq_true, Bool.not_eq_false, not_true_eq_false, not_false_eq_true, reduceCtorEq] at hc1)
    apply Wp.seq
    apply Wp.region
    refine WpL.v (V.mv) ?_
    refine WpL.v (V.fa tb) ?_
    refine WpL.v (V.ld1 tb) ?_
    refine WpL.v (V.fa tb) ?_
    refine WpL.v (V.ld1 tb) ?_
    refine WpL.o (Op1.callT rfl (hP) (by (repeat (first | exact Sel.nil | exact Rem.here | apply Sel.cons | apply Rem.there))) ?_)
    rintro v2 s3 ⟨rfl, rfl⟩
    refine incat ?_
    refine WpL.o (O.stA tb ?_)
    apply WpL.nil
    apply Out.seqN
    apply Wp.ret
    apply Out.blockR
    apply Out.seqR
    refine Out.f1 rfl (ResIs.ca tb) ⟨?_, rfl⟩
    exact rfl
    (try simp only [decide_eq_true_eq, decide_eq_false_iff_not, Bool.not_eq_true', Bool.not_eq_false', Bool.not_eq_true, Bool.not_eq_false, not_true_eq_false, not_false_eq_true, reduceCtorEq] at hc1)
    (exfalso; omega)
    refine O.al tb (fun p5 => ⟨?_, ?_, ?_⟩)
    exact holdT
    exact holdT
    refine WpA.oS 6 rfl (Op1.vv (Val.look2D (l := l) (k := d.Key) (vf := vP) RegistryPair.z kokS map72 zero52 rfl rfl (by (repeat first | exact List.Mem.head _ | apply List.Mem.tail))) ⟨?_, ?_, ?_⟩)
    exact holdT
    exact holdT
    refine WpA.tF 7 rfl (V.mv) ?_
    refine WpA.tF 8 rfl (V.ex) ?_
    refine WpA.tF 9 rfl (V.ex) ?_
    refine WpA.oS 11 rfl (O.stA tb ⟨?_, ?_, ?_⟩)
    exact holdT
    exact holdT
    refine WpA.tF 12 rfl (V.as) ?_
    refine WpA.ou ?_
    apply Out.seqN
    apply Wp.seq
    apply Wp.seq
    apply Wp.region
    refine WpL.v (V.fa tb) ?_
    refine WpL.v (V.ld1 tb) ?_
    apply WpL.nil
    apply Out.seqN
    apply Wp.block
    apply Wp.seq
    apply Wp.region
    refine WpL.v (V.cmp) ?_
    refine WpL.v (V.as) ?_
    apply WpL.nil
    apply Out.seqN
    refine Wp.c (fun hc4 => ?_) (fun hc4 => ?_)
    (try simp only [decide_eq_true_eq, decide_eq_false_iff_not, Bool.not_eq_true', Bool.not_eq_false', Bool.not_eq_true, Bool.not_eq_false, not_true_eq_false, not_false_eq_true, reduceCtorEq] at hc4)
    (exfalso; omega)
    (try simp only [decide_eq_true_eq, decide_eq_false_iff_not, Bool.not_eq_true', Bool.not_eq_false', Bool.not_eq_true, Bool.not_eq_false, not_true_eq_false, not_false_eq_true, reduceCtorEq] at hc4)
    apply Wp.seq
    apply Wp.region
    refine WpL.v (V.cmp) ?_
    refine WpL.v (V.as) ?_
    apply WpL.nil
    apply Out.seqN
    refine Wp.c (fun hc5 => ?_) (fun hc5 => ?_)
    (try simp only [decide_eq_true_eq, decide_eq_false_iff_not, Bool.not_eq_true', Bool.not_eq_false', Bool.not_eq_true, Bool.not_eq_false, not_true_eq_false, not_false_eq_true, reduceCtorEq] at hc5)
    apply Wp.seq
    apply Wp.region
    refine WpL.v (V.mv) ?_
    refine WpL.v (V.fa tb) ?_
    refine WpL.v (V.ld1 tb) ?_
    refine WpL.v (V.fa tb) ?_
    refine WpL.v (V.ld1 tb) ?_
    refine WpL.o (Op1.callT rfl (hP) (by (repeat (first | exact Sel.nil | exact Rem.here | apply Sel.cons | apply Rem.there))) ?_)
    rintro v6 s7 ⟨rfl, rfl⟩
    refine incat ?_
    refine WpL.o (O.stA tb ?_)
    apply WpL.nil
    apply Out.seqN
    apply Wp.ret
    apply Out.blockR
    apply Out.seqR
    refine Out.f1 rfl (ResIs.ca tb) ⟨?_, rfl⟩
    exact rfl
    (try simp only [decide_eq_true_eq, decide_eq_false_iff_not, Bool.not_eq_true', Bool.not_eq_false', Bool.not_eq_true, Bool.not_eq_false, not_true_eq_false, not_false_eq_true, reduceCtorEq] at hc5)
    (exfalso; omega)
  rw [if_neg k2]
  by_cases k3 : d.Kind = 3
  · rw [if_pos k3]
    by_cases hver : (look l d.Key).Version = d.Version
    · rw [if_pos hver]
      have hver2 : ((mget l d.Key).getD RegistryPair.z).Version = d.Version := hver
      refine Ct.enter Try.func15 rfl rfl fun W => ?_
      apply Wp.seq
      apply Wp.region
      refine WpL.o (O.bxA (fun p3 => ?_))
      refine WpL.o (O.al tb (fun p4 => ?_))
      apply WpL.nil
      apply Out.seqN
      apply Wp.seq
      apply Wp.seq
      apply Wp.region
      refine WpL.v (V.mv) ?_
      refine WpL.v (V.eqP) ?_
      apply WpL.nil
      apply Out.seqN
      refine Wp.cF ?_
      apply Wp.skip
      apply Out.seqN
      apply Wp.seq
      refine Wp.dG [] ?_ (List.Sublist.cons _ (List.Sublist.cons_cons _ (List.Sublist.cons_cons _ (List.Sublist.cons _ List.Sublist.slnil)))) (List.Sublist.cons _ (List.Sublist.cons_cons _ (List.Sublist.cons_cons _ (List.Sublist.cons _ List.Sublist.slnil))))
      refine WpA.tF 0 rfl (V.mv) ?_
      refine WpA.tF 1 rfl (V.nc) ?_
      refine WpA.tF 2 rfl (V.fa tb) ?_
      refine WpA.tF 3 rfl (V.ld1 tb) ?_
      refine WpA.tF 4 rfl (V.fa tb) ?_
      refine WpA.tF 5 rfl (V.ld1 tb) ?_
      refine WpA.e2 6 10 rfl rfl ?_ ?_
      refine Op1.vv (Val.look2D (l := l) (k := d.Key) (vf := vP) RegistryPair.z kokS map72 zero52 rfl rfl (by (repeat first | exact List.Mem.head _ | apply List.Mem.tail))) ⟨?_, ?_, ?_⟩
      exact holdT
      exact holdT
      refine WpA.tF 7 rfl (V.mv) ?_
      refine WpA.tF 8 rfl (V.ex) ?_
      refine WpA.tF 9 rfl (V.ex) ?_
      refine WpA.oS 10 rfl (O.al tb (fun p5 => ⟨?_, ?_, ?_⟩))
      exact holdT
      exact holdT
      refine WpA.oS 11 rfl (O.stA tb ⟨?_, ?_, ?_⟩)
      exact holdT
      exact holdT
      refine WpA.tF 12 rfl (V.as) ?_
      refine WpA.ou ?_
      apply Out.seqN
      apply Wp.seq
      apply Wp.seq
      apply Wp.region
      refine WpL.v (V.fa tb) ?_
      refine WpL.v (V.ld1 tb) ?_
      apply WpL.nil
      apply Out.seqN
      apply Wp.block
      apply Wp.seq
      apply Wp.region
      refine WpL.v (V.cmp) ?_
      refine WpL.v (V.as) ?_
      apply WpL.nil
      apply Out.seqN
      refine Wp.c (fun he0 => ?_) (fun he0 => ?_)
      (try simp only [decide_eq_true_eq, decide_eq_false_iff_not, Bool.not_eq_true', Bool.not_eq_false', Bool.not_eq_true, Bool.not_eq_false, not_true_eq_false, not_false_eq_true, reduceCtorEq] at he0)
      (exfalso; omega)
      (try simp only [decide_eq_true_eq, decide_eq_false_iff_not, Bool.not_eq_true', Bool.not_eq_false', Bool.not_eq_true, Bool.not_eq_false, not_true_eq_false, not_false_eq_true, reduceCtorEq] at he0)
      apply Wp.seq
      apply Wp.region
      refine WpL.v (V.cmp) ?_
      refine WpL.v (V.as) ?_
      apply WpL.nil
      apply Out.seqN
      refine Wp.c (fun he1 => ?_) (fun he1 => ?_)
      (try simp only [decide_eq_true_eq, decide_eq_false_iff_not, Bool.not_eq_true', Bool.not_eq_false', Bool.not_eq_true, Bool.not_eq_false, not_true_eq_false, not_false_eq_true, reduceCtorEq] at he1)
      (exfalso; omega)
      (try simp only [decide_eq_true_eq, decide_eq_false_iff_not, Bool.not_eq_true', Bool.not_eq_false', Bool.not_eq_true, Bool.not_eq_false, not_true_eq_false, not_false_eq_true, reduceCtorEq] at he1)
      apply Wp.seq
      apply Wp.region
      refine WpL.v (V.cmp) ?_
      refine WpL.v (V.as) ?_
      apply WpL.nil
      apply Out.seqN
      refine Wp.c (fun he2 => ?_) (fun he2 => ?_)
      (try simp only [decide_eq_true_eq, decide_eq_false_iff_not, Bool.not_eq_true', Bool.not_eq_false', Bool.not_eq_true, Bool.not_eq_false, not_true_eq_false, not_false_eq_true, reduceCtorEq] at he2)
      apply Wp.seq
      apply Wp.seq
      apply Wp.region
      refine WpL.v (V.fa tb) ?_
      refine WpL.v (V.ld1 tb) ?_
      refine WpL.v (V.fa tb) ?_
      refine WpL.v (V.ld1 tb) ?_
      refine WpL.v (V.cmp) ?_
      apply WpL.nil
      apply Out.seqN
      refine Wp.c (fun he3 => ?_) (fun he3 => ?_)
      (try simp only [decide_eq_true_eq, decide_eq_false_iff_not, Bool.not_eq_true', Bool.not_eq_false', Bool.not_eq_true, Bool.not_eq_false, not_true_eq_false, not_false_eq_true, reduceCtorEq] at he3)
      (exfalso; omega)
      (try simp only [decide_eq_true_eq, decide_eq_false_iff_not, Bool.not_eq_true', Bool.not_eq_false', Bool.not_eq_true, Bool.not_eq_false, not_true_eq_false, not_false_eq_true, reduceCtorEq] at he3)
      apply Wp.skip
      apply Out.seqN
      apply Wp.seq
      apply Wp.region
      refine WpL.v (V.mv) ?_
      refine WpL.v (V.fa tb) ?_
      refine WpL.v (V.ld1 tb) ?_
      refine WpL.v (V.fa tb) ?_
      refine WpL.v (V.ld1 tb) ?_
      refine WpL.o (Op1.callT rfl (hP) (by (repeat (first | exact Sel.nil | exact Rem.here | apply Sel.cons | apply Rem.there))) ?_)
      rintro v4 s5 ⟨rfl, rfl⟩
      refine incat ?_
      refine WpL.o (O.stA tb ?_)
      apply WpL.nil
      apply Out.seqN
      apply Wp.ret
      apply Out.blockR
      apply Out.seqR
      refine Out.f1 rfl (ResIs.ca tb) ⟨?_, rfl⟩
      exact rfl
      (try simp only [decide_eq_true_eq, decide_eq_false_iff_not, Bool.not_eq_true', Bool.not_eq_false', Bool.not_eq_true, Bool.not_eq_false, not_true_eq_false, not_false_eq_true, reduceCtorEq] at he2)
      (exfalso; omega)
      refine O.al tb (fun p5 => ⟨?_, ?_, ?_⟩)
      exact holdT
      exact holdT
      refine WpA.oS 6 rfl (Op1.vv (Val.look2D (l := l) (k := d.Key) (vf := vP) RegistryPair.z kokS map72 zero52 rfl rfl (by (repeat first | exact List.Mem.head _ | apply List.Mem.tail))) ⟨?_, ?_, ?_⟩)
      exact holdT
      exact holdT
      refine WpA.tF 7 rfl (V.mv) ?_
      refine WpA.tF 8 rfl (V.ex) ?_
      refine WpA.tF 9 rfl (V.ex) ?_
      refine WpA.oS 11 rfl (O.stA tb ⟨?_, ?_, ?_⟩)
      exact holdT
      exact holdT
      refine WpA.tF 12 rfl (V.as) ?_
      refine WpA.ou ?_
      apply Out.seqN
      apply Wp.seq
      apply Wp.seq
      apply Wp.region
      refine WpL.v (V.fa tb) ?_
      refine WpL.v (V.ld1 tb) ?_
      apply WpL.nil
      apply Out.seqN
      apply Wp.block
      apply Wp.seq
      apply Wp.region
      refine WpL.v (V.cmp) ?_
      refine WpL.v (V.as) ?_
      apply WpL.nil
      apply Out.seqN
      refine Wp.c (fun he6 => ?_) (fun he6 => ?_)
      (try simp only [decide_eq_true_eq, decide_eq_false_iff_not, Bool.not_eq_true', Bool.not_eq_false', Bool.not_eq_true, Bool.not_eq_false, not_true_eq_false, not_false_eq_true, reduceCtorEq] at he6)
      (exfalso; omega)
      (try simp only [decide_eq_true_eq, decide_eq_false_iff_not, Bool.not_eq_true', Bool.not_eq_false', Bool.not_eq_true, Bool.not_eq_false, not_true_eq_false, not_false_eq_true, reduceCtorEq] at he6)
      apply Wp.seq
      apply Wp.region
      refine WpL.v (V.cmp) ?_
      refine WpL.v (V.as) ?_
      apply WpL.nil
      apply Out.seqN
      refine Wp.c (fun he7 => ?_) (fun he7 => ?_)
      (try simp only [decide_eq_true_eq, decide_eq_false_iff_not, Bool.not_eq_true', Bool.not_eq_false', Bool.not_eq_true, Bool.not_eq_false, not_true_eq_false, not_false_eq_true, reduceCtorEq] at he7)
      (exfalso; omega)
      (try simp only [decide_eq_true_eq, decide_eq_false_iff_not, Bool.not_eq_true', Bool.not_eq_false', Bool.not_eq_true, Bool.not_eq_false, not_true_eq_false, not_false_eq_true, reduceCtorEq] at he7)
      apply Wp.seq
      apply Wp.region
      refine WpL.v (V.cmp) ?_
      refine WpL.v (V.as) ?_
      apply WpL.nil
      apply Out.seqN
      refine Wp.c (fun he8 => ?_) (fun he8 => ?_)
      (try simp only [decide_eq_true_eq, decide_eq_false_iff_not, Bool.not_eq_true', Bool.not_eq_false', Bool.not_eq_true, Bool.not_eq_false, not_true_eq_false, not_false_eq_true, reduceCtorEq] at he8)
      apply Wp.seq
      apply Wp.seq
      apply Wp.region
      refine WpL.v (V.fa tb) ?_
      refine WpL.v (V.ld1 tb) ?_
      refine WpL.v (V.fa tb) ?_
      refine WpL.v (V.ld1 tb) ?_
      refine WpL.v (V.cmp) ?_
      apply WpL.nil
      apply Out.seqN
      refine Wp.c (fun he9 => ?_) (fun he9 => ?_)
      (try simp only [decide_eq_true_eq, decide_eq_false_iff_not, Bool.not_eq_true', Bool.not_eq_false', Bool.not_eq_true, Bool.not_eq_false, not_true_eq_false, not_false_eq_true, reduceCtorEq] at he9)
      (exfalso; omega)
      (try simp only [decide_eq_true_eq, decide_eq_false_iff_not, Bool.not_eq_true', Bool.not_eq_false', Bool.not_eq_true, Bool.not_eq_false, not_true_eq_false, not_false_eq_true, reduceCtorEq] at he9)
      apply Wp.skip
      apply Out.seqN
      apply Wp.seq
      apply Wp.region
      refine WpL.v (V.mv) ?_
      refine WpL.v (V.fa tb) ?_
      refine WpL.v (V.ld1 tb) ?_
      refine WpL.v (V.fa tb) ?_
      refine WpL.v (V.ld1 tb) ?_
      refine WpL.o (Op1.callT rfl (hP) (by (repeat (first | exact Sel.nil | exact Rem.here | apply Sel.cons | apply Rem.there))) ?_)
      rintro v10 s11 ⟨rfl, rfl⟩
      refine incat ?_
      refine WpL.o (O.stA tb ?_)
      apply WpL.nil
      apply Out.seqN
      apply Wp.ret
      apply Out.blockR
      apply Out.seqR
      refine Out.f1 rfl (ResIs.ca tb) ⟨?_, rfl⟩
      exact rfl
      (try simp only [decide_eq_true_eq, decide_eq_false_iff_not, Bool.not_eq_true', Bool.not_eq_false', Bool.not_eq_true, Bool.not_eq_false, not_true_eq_false, not_false_eq_true, reduceCtorEq] at he8)
      (exfalso; omega)
    · rw [if_neg hver]
      have hver2 : ¬ ((mget l d.Key).getD RegistryPair.z).Version = d.Version := hver
      refine Ct.enter Try.func15 rfl rfl fun W => ?_
      apply Wp.seq
      apply Wp.region
      refine WpL.o (O.bxA (fun p3 => ?_))
      refine WpL.o (O.al tb (fun p4 => ?_))
      apply WpL.nil
      apply Out.seqN
      apply Wp.seq
      apply Wp.seq
      apply Wp.region
      refine WpL.v (V.mv) ?_
      refine WpL.v (V.eqP) ?_
      apply WpL.nil
      apply Out.seqN
      refine Wp.cF ?_
      apply Wp.skip
      apply Out.seqN
      apply Wp.seq
      refine Wp.dG [] ?_ (List.Sublist.cons _ (List.Sublist.cons_cons _ (List.Sublist.cons_cons _ (List.Sublist.cons _ List.Sublist.slnil)))) (List.Sublist.cons _ (List.Sublist.cons_cons _ (List.Sublist.cons_cons _ (List.Sublist.cons _ List.Sublist.slnil))))
      refine WpA.tF 0 rfl (V.mv) ?_
      refine WpA.tF 1 rfl (V.nc) ?_
      refine WpA.tF 2 rfl (V.fa tb) ?_
      refine WpA.tF 3 rfl (V.ld1 tb) ?_
      refine WpA.tF 4 rfl (V.fa tb) ?_
      refine WpA.tF 5 rfl (V.ld1 tb) ?_
      refine WpA.e2 6 10 rfl rfl ?_ ?_
      refine Op1.vv (Val.look2D (l := l) (k := d.Key) (vf := vP) RegistryPair.z kokS map72 zero52 rfl rfl (by (repeat first | exact List.Mem.head _ | apply List.Mem.tail))) ⟨?_, ?_, ?_⟩
      exact holdT
      exact holdT
      refine WpA.tF 7 rfl (V.mv) ?_
      refine WpA.tF 8 rfl (V.ex) ?_
      refine WpA.tF 9 rfl (V.ex) ?_
      refine WpA.oS 10 rfl (O.al tb (fun p5 => ⟨?_, ?_, ?_⟩))
      exact holdT
      exact holdT
      refine WpA.oS 11 rfl (O.stA tb ⟨?_, ?_, ?_⟩)
      exact holdT
      exact holdT
      refine WpA.tF 12 rfl (V.as) ?_
      refine WpA.ou ?_
      apply Out.seqN
      apply Wp.seq
      apply Wp.seq
      apply Wp.region
      refine WpL.v (V.fa tb) ?_
      refine WpL.v (V.ld1 tb) ?_
      apply WpL.nil
      apply Out.seqN
      apply Wp.block
      apply Wp.seq
      apply Wp.region
      refine WpL.v (V.cmp) ?_
      refine WpL.v (V.as) ?_
      apply WpL.nil
      apply Out.seqN
      refine Wp.c (fun hf0 => ?_) (fun hf0 => ?_)
      (try simp only [decide_eq_true_eq, decide_eq_false_iff_not, Bool.not_eq_true', Bool.not_eq_false', Bool.not_eq_true, Bool.not_eq_false, not_true_eq_false, not_false_eq_true, reduceCtorEq] at hf0)
      (exfalso; omega)
      (try simp only [decide_eq_true_eq, decide_eq_false_iff_not, Bool.not_eq_true', Bool.not_eq_false', Bool.not_eq_true, Bool.not_eq_false, not_true_eq_false, not_false_eq_true, reduceCtorEq] at hf0)
      apply Wp.seq
      apply Wp.region
      refine WpL.v (V.cmp) ?_
      refine WpL.v (V.as) ?_
      apply WpL.nil
      apply Out.seqN
      refine Wp.c (fun hf1 => ?_) (fun hf1 => ?_)
      (try simp only [decide_eq_true_eq, decide_eq_false_iff_not, Bool.not_eq_true', Bool.not_eq_false', Bool.not_eq_true, Bool.not_eq_false, not_true_eq_false, not_false_eq_true, reduceCtorEq] at hf1)
      (exfalso; omega)
      (try simp only [decide_eq_true_eq, decide_eq_false_iff_not, Bool.not_eq_true', Bool.not_eq_false', Bool.not_eq_true, Bool.not_eq_false, not_true_eq_false, not_false_eq_true, reduceCtorEq] at hf1)
      apply Wp.seq
      apply Wp.region
      refine WpL.v (V.cmp) ?_
      refine WpL.v (V.as) ?_
      apply WpL.nil
      apply Out.seqN
      refine Wp.c (fun hf2 => ?_) (fun hf2 => ?_)
      (try simp only [decide_eq_true_eq, decide_eq_false_iff_not, Bool.not_eq_true', Bool.not_eq_false', Bool.not_eq_true, Bool.not_eq_false, not_true_eq_false, not_false_eq_true, reduceCtorEq] at hf2)
      apply Wp.seq
      apply Wp.seq
      apply Wp.region
      refine WpL.v (V.fa tb) ?_
      refine WpL.v (V.ld1 tb) ?_
      refine WpL.v (V.fa tb) ?_
      refine WpL.v (V.ld1 tb) ?_
      refine WpL.v (V.cmp) ?_
      apply WpL.nil
      apply Out.seqN
      refine Wp.c (fun hf3 => ?_) (fun hf3 => ?_)
      (try simp only [decide_eq_true_eq, decide_eq_false_iff_not, Bool.not_eq_true', Bool.not_eq_false', Bool.not_eq_true, Bool.not_eq_false, not_true_eq_false, not_false_eq_true, reduceCtorEq] at hf3)
      apply Wp.seq
      apply Wp.region
      refine WpL.v (V.fa tb) ?_
      refine WpL.v (V.ld1 tb) ?_
      refine WpL.v (V.bld tb) ?_
      refine WpL.o (O.stA tb ?_)
      apply WpL.nil
      apply Out.seqN
      apply Wp.ret
      apply Out.seqR
      apply Out.blockR
      apply Out.seqR
      refine Out.f1 rfl (ResIs.ca tb) ⟨?_, rfl⟩
      exact rfl
      (try simp only [decide_eq_true_eq, decide_eq_false_iff_not, Bool.not_eq_true', Bool.not_eq_false', Bool.not_eq_true, Bool.not_eq_false, not_true_eq_false, not_false_eq_true, reduceCtorEq] at hf3)
      (exfalso; omega)
      (try simp only [decide_eq_true_eq, decide_eq_false_iff_not, Bool.not_eq_true', Bool.not_eq_false', Bool.not_eq_true, Bool.not_eq_false, not_true_eq_false, not_false_eq_true, reduceCtorEq] at hf2)
      (exfalso; omega)
      refine O.al tb (fun p5 => ⟨?_, ?_, ?_⟩)
      exact holdT
      exact holdT
      refine WpA.oS 6 rfl (Op1.vv (Val.look2D (l := l) (k := d.Key) (vf := vP) RegistryPair.z kokS map72 zero52 rfl rfl (by (repeat first | exact List.Mem.head _ | apply List.Mem.tail))) ⟨?_, ?_, ?_⟩)
      exact holdT
      exact holdT
      refine WpA.tF 7 rfl (V.mv) ?_
      refine WpA.tF 8 rfl (V.ex) ?_
      refine WpA.tF 9 rfl (V.ex) ?_
      refine WpA.oS 11 rfl (O.stA tb ⟨?_, ?_, ?_⟩)
      exact holdT
      exact holdT
      refine WpA.tF 12 rfl (V.as) ?_
      refine WpA.ou ?_
      apply Out.seqN
      apply Wp.seq
      apply Wp.seq
      apply Wp.region
      refine WpL.v (V.fa tb) ?_
      refine WpL.v (V.ld1 tb) ?_
      apply WpL.nil
      apply Out.seqN
      apply Wp.block
      apply Wp.seq
      apply Wp.region
      refine WpL.v (V.cmp) ?_
      refine WpL.v (V.as) ?_
      apply WpL.nil
      apply Out.seqN
      refine Wp.c (fun hf4 => ?_) (fun hf4 => ?_)
      (try simp only [decide_eq_true_eq, decide_eq_false_iff_not, Bool.not_eq_true', Bool.not_eq_false', Bool.not_eq_true, Bool.not_eq_false, not_true_eq_false, not_false_eq_true, reduceCtorEq] at hf4)
      (exfalso; omega)
      (try simp only [decide_eq_true_eq, decide_eq_false_iff_not, Bool.not_eq_true', Bool.not_eq_false', Bool.not_eq_true, Bool.not_eq_false, not_true_eq_false, not_false_eq_true, reduceCtorEq] at hf4)
      apply Wp.seq
      apply Wp.region
      refine WpL.v (V.cmp) ?_
      refine WpL.v (V.as) ?_
      apply WpL.nil
      apply Out.seqN
      refine Wp.c (fun hf5 => ?_) (fun hf5 => ?_)
      (try simp only [decide_eq_true_eq, decide_eq_false_iff_not, Bool.not_eq_true', Bool.not_eq_false', Bool.not_eq_true, Bool.not_eq_false, not_true_eq_false, not_false_eq_true, reduceCtorEq] at hf5)
      (exfalso; omega)
      (try simp only [decide_eq_true_eq, decide_eq_false_iff_not, Bool.not_eq_true', Bool.not_eq_false', Bool.not_eq_true, Bool.not_eq_false, not_true_eq_false, not_false_eq_true, reduceCtorEq] at hf5)
      apply Wp.seq
      apply Wp.region
      refine WpL.v (V.cmp) ?_
      refine WpL.v (V.as) ?_
      apply WpL.nil
      apply Out.seqN
      refine Wp.c (fun hf6 => ?_) (fun hf6 => ?_)
      (try simp only [decide_eq_true_eq, decide_eq_false_iff_not, Bool.not_eq_true', Bool.not_eq_false', Bool.not_eq_true, Bool.not_eq_false, not_true_eq_false, not_false_eq_true, reduceCtorEq] at hf6)
      apply Wp.seq
      apply Wp.seq
      apply Wp.region
      refine WpL.v (V.fa tb) ?_
      refine WpL.v (V.ld1 tb) ?_
      refine WpL.v (V.fa tb) ?_
      refine WpL.v (V.ld1 tb) ?_
      refine WpL.v (V.cmp) ?_
      apply WpL.nil
      apply Out.seqN
      refine Wp.c (fun hf7 => ?_) (fun hf7 => ?_)
      (try simp only [decide_eq_true_eq, decide_eq_false_iff_not, Bool.not_eq_true', Bool.not_eq_false', Bool.not_eq_true, Bool.not_eq_false, not_true_eq_false, not_false_eq_true, reduceCtorEq] at hf7)
      apply Wp.seq
      apply Wp.region
      refine WpL.v (V.fa tb) ?_
      refine WpL.v (V.ld1 tb) ?_
      refine WpL.v (V.bld tb) ?_
      refine WpL.o (O.stA tb ?_)
      apply WpL.nil
      apply Out.seqN
      apply Wp.ret
      apply Out.seqR
      apply Out.blockR
      apply Out.seqR
      refine Out.f1 rfl (ResIs.ca tb) ⟨?_, rfl⟩
      exact rfl
      (try simp only [decide_eq_true_eq, decide_eq_false_iff_not, Bool.not_eq_true', Bool.not_eq_false', Bool.not_eq_true, Bool.not_eq_false, not_true_eq_false, not_false_eq_true, reduceCtorEq] at hf7)
      (exfalso; omega)
      (try simp only [decide_eq_true_eq, decide_eq_false_iff_not, Bool.not_eq_true', Bool.not_eq_false', Bool.not_eq_true, Bool.not_eq_false, not_true_eq_false, not_false_eq_true, reduceCtorEq] at hf6)
      (exfalso; omega)
  rw [if_neg k3]
  by_cases k14 : d.Kind = 1 ∨ d.Kind = 4
  · rw [if_pos k14]
    cases hs : (mget l d.Key).isSome with
    | false =>
      rw [if_neg (by decide)]
      rcases k14 with k1 | k4
      · refine Ct.enter Try.func15 rfl rfl fun W => ?_
        apply Wp.seq
        apply Wp.region
        refine WpL.o (O.bxA (fun p3 => ?_))
        refine WpL.o (O.al tb (fun p4 => ?_))
        apply WpL.nil
        apply Out.seqN
        apply Wp.seq
        apply Wp.seq
        apply Wp.region
        refine WpL.v (V.mv) ?_
        refine WpL.v (V.eqP) ?_
        apply WpL.nil
        apply Out.seqN
        refine Wp.cF ?_
        apply Wp.skip
        apply Out.seqN
        apply Wp.seq
        refine Wp.dG [] ?_ (List.Sublist.cons _ (List.Sublist.cons_cons _ (List.Sublist.cons_cons _ (List.Sublist.cons _ List.Sublist.slnil)))) (List.Sublist.cons _ (List.Sublist.cons_cons _ (List.Sublist.cons_cons _ (List.Sublist.cons _ List.Sublist.slnil))))
        refine WpA.tF 0 rfl (V.mv) ?_
        refine WpA.tF 1 rfl (V.nc) ?_
        refine WpA.tF 2 rfl (V.fa tb) ?_
        refine WpA.tF 3 rfl (V.ld1 tb) ?_
        refine WpA.tF 4 rfl (V.fa tb) ?_
        refine WpA.tF 5 rfl (V.ld1 tb) ?_
        refine WpA.e2 6 10 rfl rfl ?_ ?_
        refine Op1.vv (Val.look2D (l := l) (k := d.Key) (vf := vP) RegistryPair.z kokS map72 zero52 rfl rfl (by (repeat first | exact List.Mem.head _ | apply List.Mem.tail))) ⟨?_, ?_, ?_⟩
        exact holdT
        exact holdT
        refine WpA.tF 7 rfl (V.mv) ?_
        refine WpA.tF 8 rfl (V.ex) ?_
        refine WpA.tF 9 rfl (V.ex) ?_
        refine WpA.oS 10 rfl (O.al tb (fun p5 => ⟨?_, ?_, ?_⟩))
        exact holdT
        exact holdT
        refine WpA.oS 11 rfl (O.stA tb ⟨?_, ?_, ?_⟩)
        exact holdT
        exact holdT
        refine WpA.tF 12 rfl (V.as) ?_
        refine WpA.ou ?_
        apply Out.seqN
        apply Wp.seq
        apply Wp.seq
        apply Wp.region
        refine WpL.v (V.fa tb) ?_
        refine WpL.v (V.ld1 tb) ?_
        apply WpL.nil
        apply Out.seqN
        apply Wp.block
        apply Wp.seq
        apply Wp.region
        refine WpL.v (V.cmp) ?_
        refine WpL.v (V.as) ?_
        apply WpL.nil
        apply Out.seqN
        refine Wp.c (fun hg0 => ?_) (fun hg0 => ?_)
        (try simp only [decide_eq_true_eq, decide_eq_false_iff_not, Bool.not_eq_true', Bool.not_eq_false', Bool.not_eq_true, Bool.not_eq_false, not_true_eq_false, not_false_eq_true, reduceCtorEq] at hg0)
        (exfalso; omega)
        (try simp only [decide_eq_true_eq, decide_eq_false_iff_not, Bool.not_eq_true', Bool.not_eq_false', Bool.not_eq_true, Bool.not_eq_false, not_true_eq_false, not_false_eq_true, reduceCtorEq] at hg0)
        apply Wp.seq
        apply Wp.region
        refine WpL.v (V.cmp) ?_
        refine WpL.v (V.as) ?_
        apply WpL.nil
        apply Out.seqN
        refine Wp.c (fun hg1 => ?_) (fun hg1 => ?_)
        (try simp only [decide_eq_true_eq, decide_eq_false_iff_not, Bool.not_eq_true', Bool.not_eq_false', Bool.not_eq_true, Bool.not_eq_false, not_true_eq_false, not_false_eq_true, reduceCtorEq] at hg1)
        (exfalso; omega)
        (try simp only [decide_eq_true_eq, decide_eq_false_iff_not, Bool.not_eq_true', Bool.not_eq_false', Bool.not_eq_true, Bool.not_eq_false, not_true_eq_false, not_false_eq_true, reduceCtorEq] at hg1)
        apply Wp.seq
        apply Wp.region
        refine WpL.v (V.cmp) ?_
        refine WpL.v (V.as) ?_
        apply WpL.nil
        apply Out.seqN
        refine Wp.c (fun hg2 => ?_) (fun hg2 => ?_)
        (try simp only [decide_eq_true_eq, decide_eq_false_iff_not, Bool.not_eq_true', Bool.not_eq_false', Bool.not_eq_true, Bool.not_eq_false, not_true_eq_false, not_false_eq_true, reduceCtorEq] at hg2)
        (exfalso; omega)
        (try simp only [decide_eq_true_eq, decide_eq_false_iff_not, Bool.not_eq_true', Bool.not_eq_false', Bool.not_eq_true, Bool.not_eq_false, not_true_eq_false, not_false_eq_true, reduceCtorEq] at hg2)
        apply Wp.seq
        apply Wp.region
        refine WpL.v (V.cmp) ?_
        refine WpL.v (V.as) ?_
        apply WpL.nil
        apply Out.seqN
        refine Wp.c (fun hg3 => ?_) (fun hg3 => ?_)
        (try simp only [decide_eq_true_eq, decide_eq_false_iff_not, Bool.not_eq_true', Bool.not_eq_false', Bool.not_eq_true, Bool.not_eq_false, not_true_eq_false, not_false_eq_true, reduceCtorEq] at hg3)
        (exfalso; omega)
        (try simp only [decide_eq_true_eq, decide_eq_false_iff_not, Bool.not_eq_true', Bool.not_eq_false', Bool.not_eq_true, Bool.not_eq_false, not_true_eq_false, not_false_eq_true, reduceCtorEq] at hg3)
        apply Wp.skip
        apply Out.blockN
        apply Out.seqN
        apply Wp.seq
        apply Wp.block
        apply Wp.seq
        apply Wp.region
        refine WpL.v (V.fa tb) ?_
        refine WpL.v (V.ld1 tb) ?_
        refine WpL.v (V.cmp) ?_
        refine WpL.v (V.mv) ?_
        refine WpL.pt (fun hg4 => ?_) (fun hg4 => ?_)
        (try simp only [decide_eq_true_eq, decide_eq_false_iff_not, Bool.not_eq_true', Bool.not_eq_false', Bool.not_eq_true, Bool.not_eq_false, not_true_eq_false, not_false_eq_true, reduceCtorEq] at hg4)
        (exfalso; omega)
        (try simp only [decide_eq_true_eq, decide_eq_false_iff_not, Bool.not_eq_true', Bool.not_eq_false', Bool.not_eq_true, Bool.not_eq_false, not_true_eq_false, not_false_eq_true, reduceCtorEq] at hg4)
        refine WpL.sk ?_
        refine WpL.sk ?_
        refine WpL.sk ?_
        refine WpL.v (V.pF) ?_
        refine WpL.v (V.as) ?_
        apply WpL.nil
        apply Out.seqN
        refine Wp.cF ?_
        apply Wp.seq
        apply Wp.region
        refine WpL.v (V.mv) ?_
        refine WpL.v (V.not) ?_
        refine WpL.v (V.as) ?_
        apply WpL.nil
        apply Out.seqN
        refine Wp.c (fun hg5 => ?_) (fun hg5 => ?_)
        (try simp only [decide_eq_true_eq, decide_eq_false_iff_not, Bool.not_eq_true', Bool.not_eq_false', Bool.not_eq_true, Bool.not_eq_false, not_true_eq_false, not_false_eq_true, reduceCtorEq] at hg5)
        apply Wp.seq
        apply Wp.region
        refine WpL.v (V.bld tb) ?_
        refine WpL.o (O.stA tb ?_)
        apply WpL.nil
        apply Out.seqN
        apply Wp.ret
        apply Out.blockR
        apply Out.seqR
        refine Out.f1 rfl (ResIs.ca tb) ⟨?_, rfl⟩
        exact rfl
        (try simp only [decide_eq_true_eq, decide_eq_false_iff_not, Bool.not_eq_true', Bool.not_eq_false', Bool.not_eq_true, Bool.not_eq_false, not_true_eq_false, not_false_eq_true, reduceCtorEq] at hg5)
        exact absurd (Eq.trans (Eq.symm hg5) (by assumption) : true = false) (by decide)
        refine O.al tb (fun p5 => ⟨?_, ?_, ?_⟩)
        exact holdT
        exact holdT
        refine WpA.oS 6 rfl (Op1.vv (Val.look2D (l := l) (k := d.Key) (vf := vP) RegistryPair.z kokS map72 zero52 rfl rfl (by (repeat first | exact List.Mem.head _ | apply List.Mem.tail))) ⟨?_, ?_, ?_⟩)
        exact holdT
        exact holdT
        refine WpA.tF 7 rfl (V.mv) ?_
        refine WpA.tF 8 rfl (V.ex) ?_
        refine WpA.tF 9 rfl (V.ex) ?_
        refine WpA.oS 11 rfl (O.stA tb ⟨?_, ?_, ?_⟩)
        exact holdT
        exact holdT
        refine WpA.tF 12 rfl (V.as) ?_
        refine WpA.ou ?_
        apply Out.seqN
        apply Wp.seq
        apply Wp.seq
        apply Wp.region
        refine WpL.v (V.fa tb) ?_
        refine WpL.v (V.ld1 tb) ?_
        apply WpL.nil
        apply Out.seqN
        apply Wp.block
        apply Wp.seq
        apply Wp.region
        refine WpL.v (V.cmp) ?_
        refine WpL.v (V.as) ?_
        apply WpL.nil
        apply Out.seqN
        refine Wp.c (fun hg6 => ?_) (fun hg6 => ?_)
        (try simp only [decide_eq_true_eq, decide_eq_false_iff_not, Bool.not_eq_true', Bool.not_eq_false', Bool.not_eq_true, Bool.not_eq_false, not_true_eq_false, not_false_eq_true, reduceCtorEq] at hg6)
        (exfalso; omega)
        (try simp only [decide_eq_true_eq, decide_eq_false_iff_not, Bool.not_eq_true', Bool.not_eq_false', Bool.not_eq_true, Bool.not_eq_false, not_true_eq_false, not_false_eq_true, reduceCtorEq] at hg6)
        apply Wp.seq
        apply Wp.region
        refine WpL.v (V.cmp) ?_
        refine WpL.v (V.as) ?_
        apply WpL.nil
        apply Out.seqN
        refine Wp.c (fun hg7 => ?_) (fun hg7 => ?_)
        (try simp only [decide_eq_true_eq, decide_eq_false_iff_not, Bool.not_eq_true', Bool.not_eq_false', Bool.not_eq_true, Bool.not_eq_false, not_true_eq_false, not_false_eq_true, reduceCtorEq] at hg7)
        (exfalso; omega)
        (try simp only [decide_eq_true_eq, decide_eq_false_iff_not, Bool.not_eq_true', Bool.not_eq_false', Bool.not_eq_true, Bool.not_eq_false, not_true_eq_false, not_false_eq_true, reduceCtorEq] at hg7)
        apply Wp.seq
        apply Wp.region
        refine WpL.v (V.cmp) ?_
        refine WpL.v (V.as) ?_
        apply WpL.nil
        apply Out.seqN
        refine Wp.c (fun hg8 => ?_) (fun hg8 => ?_)
        (try simp only [decide_eq_true_eq, decide_eq_false_iff_not, Bool.not_eq_true', Bool.not_eq_false', Bool.not_eq_true, Bool.not_eq_false, not_true_eq_false, not_false_eq_true, reduceCtorEq] at hg8)
        (exfalso; omega)
        (try simp only [decide_eq_true_eq, decide_eq_false_iff_not, Bool.not_eq_true', Bool.not_eq_false', Bool.not_eq_true, Bool.not_eq_false, not_true_eq_false, not_false_eq_true, reduceCtorEq] at hg8)
        apply Wp.seq
        apply Wp.region
        refine WpL.v (V.cmp) ?_
        refine WpL.v (V.as) ?_
        apply WpL.nil
        apply Out.seqN
        refine Wp.c (fun hg9 => ?_) (fun hg9 => ?_)
        (try simp only [decide_eq_true_eq, decide_eq_false_iff_not, Bool.not_eq_true', Bool.not_eq_false', Bool.not_eq_true, Bool.not_eq_false, not_true_eq_false, not_false_eq_true, reduceCtorEq] at hg9)
        (exfalso; omega)
        (try simp only [decide_eq_true_eq, decide_eq_false_iff_not, Bool.not_eq_true', Bool.not_eq_false', Bool.not_eq_true, Bool.not_eq_false, not_true_eq_false, not_false_eq_true, reduceCtorEq] at hg9)
        apply Wp.skip
        apply Out.blockN
        apply Out.seqN
        apply Wp.seq
        apply Wp.block
        apply Wp.seq
        apply Wp.region
        refine WpL.v (V.fa tb) ?_
        refine WpL.v (V.ld1 tb) ?_
        refine WpL.v (V.cmp) ?_
        refine WpL.v (V.mv) ?_
        refine WpL.pt (fun hg10 => ?_) (fun hg10 => ?_)
        (try simp only [decide_eq_true_eq, decide_eq_false_iff_not, Bool.not_eq_true', Bool.not_eq_false', Bool.not_eq_true, Bool.not_eq_false, not_true_eq_false, not_false_eq_true, reduceCtorEq] at hg10)
        (exfalso; omega)
        (try simp only [decide_eq_true_eq, decide_eq_false_iff_not, Bool.not_eq_true', Bool.not_eq_false', Bool.not_eq_true, Bool.not_eq_false, not_true_eq_false, not_false_eq_true, reduceCtorEq] at hg10)
        refine WpL.sk ?_
        refine WpL.sk ?_
        refine WpL.sk ?_
        refine WpL.v (V.pF) ?_
        refine WpL.v (V.as) ?_
        apply WpL.nil
        apply Out.seqN
        refine Wp.cF ?_
        apply Wp.seq
        apply Wp.region
        refine WpL.v (V.mv) ?_
        refine WpL.v (V.not) ?_
        refine WpL.v (V.as) ?_
        apply WpL.nil
        apply Out.seqN
        refine Wp.c (fun hg11 => ?_) (fun hg11 => ?_)
        (try simp only [decide_eq_true_eq, decide_eq_false_iff_not, Bool.not_eq_true', Bool.not_eq_false', Bool.not_eq_true, Bool.not_eq_false, not_true_eq_false, not_false_eq_true, reduceCtorEq] at hg11)
        apply Wp.seq
        apply Wp.region
        refine WpL.v (V.bld tb) ?_
        refine WpL.o (O.stA tb ?_)
        apply WpL.nil
        apply Out.seqN
        apply Wp.ret
        apply Out.blockR
        apply Out.seqR
        refine Out.f1 rfl (ResIs.ca tb) ⟨?_, rfl⟩
        exact rfl
        (try simp only [decide_eq_true_eq, decide_eq_false_iff_not, Bool.not_eq_true', Bool.not_eq_false', Bool.not_eq_true, Bool.not_eq_false, not_true_eq_false, not_false_eq_true, reduceCtorEq] at hg11)
        exact absurd (Eq.trans (Eq.symm hg11) (by assumption) : true = false) (by decide)
      · refine Ct.enter Try.func15 rfl rfl fun W => ?_
        apply Wp.seq
        apply Wp.region
        refine WpL.o (O.bxA (fun p3 => ?_))
        refine WpL.o (O.al tb (fun p4 => ?_))
        apply WpL.nil
        apply Out.seqN
        apply Wp.seq
        apply Wp.seq
        apply Wp.region
        refine WpL.v (V.mv) ?_
        refine WpL.v (V.eqP) ?_
        apply WpL.nil
        apply Out.seqN
        refine Wp.cF ?_
        apply Wp.skip
        apply Out.seqN
        apply Wp.seq
        refine Wp.dG [] ?_ (List.Sublist.cons _ (List.Sublist.cons_cons _ (List.Sublist.cons_cons _ (List.Sublist.cons _ List.Sublist.slnil)))) (List.Sublist.cons _ (List.Sublist.cons_cons _ (List.Sublist.cons_cons _ (List.Sublist.cons _ List.Sublist.slnil))))
        refine WpA.tF 0 rfl (V.mv) ?_
        refine WpA.tF 1 rfl (V.nc) ?_
        refine WpA.tF 2 rfl (V.fa tb) ?_
        refine WpA.tF 3 rfl (V.ld1 tb) ?_
        refine WpA.tF 4 rfl (V.fa tb) ?_
        refine WpA.tF 5 rfl (V.ld1 tb) ?_
        refine WpA.e2 6 10 rfl rfl ?_ ?_
        refine Op1.vv (Val.look2D (l := l) (k := d.Key) (vf := vP) RegistryPair.z kokS map72 zero52 rfl rfl (by (repeat first | exact List.Mem.head _ | apply List.Mem.tail))) ⟨?_, ?_, ?_⟩
        exact holdT
        exact holdT
        refine WpA.tF 7 rfl (V.mv) ?_
        refine WpA.tF 8 rfl (V.ex) ?_
        refine WpA.tF 9 rfl (V.ex) ?_
        refine WpA.oS 10 rfl (O.al tb (fun p5 => ⟨?_, ?_, ?_⟩))
        exact holdT
        exact holdT
        refine WpA.oS 11 rfl (O.stA tb ⟨?_, ?_, ?_⟩)
        exact holdT
        exact holdT
        refine WpA.tF 12 rfl (V.as) ?_
        refine WpA.ou ?_
        apply Out.seqN
        apply Wp.seq
        apply Wp.seq
        apply Wp.region
        refine WpL.v (V.fa tb) ?_
        refine WpL.v (V.ld1 tb) ?_
        apply WpL.nil
        apply Out.seqN
        apply Wp.block
        apply Wp.seq
        apply Wp.region
        refine WpL.v (V.cmp) ?_
        refine WpL.v (V.as) ?_
        apply WpL.nil
        apply Out.seqN
        refine Wp.c (fun hh0 => ?_) (fun hh0 => ?_)
        (try simp only [decide_eq_true_eq, decide_eq_false_iff_not, Bool.not_eq_true', Bool.not_eq_false', Bool.not_eq_true, Bool.not_eq_false, not_true_eq_false, not_false_eq_true, reduceCtorEq] at hh0)
        (exfalso; omega)
        (try simp only [decide_eq_true_eq, decide_eq_false_iff_not, Bool.not_eq_true', Bool.not_eq_false', Bool.not_eq_true, Bool.not_eq_false, not_true_eq_false, not_false_eq_true, reduceCtorEq] at hh0)
        apply Wp.seq
        apply Wp.region
        refine WpL.v (V.cmp) ?_
        refine WpL.v (V.as) ?_
        apply WpL.nil
        apply Out.seqN
        refine Wp.c (fun hh1 => ?_) (fun hh1 => ?_)
        (try simp only [decide_eq_true_eq, decide_eq_false_iff_not, Bool.not_eq_true', Bool.not_eq_false', Bool.not_eq_true, Bool.not_eq_false, not_true_eq_false, not_false_eq_true, reduceCtorEq] at hh1)
        (exfalso; omega)
        (try simp only [decide_eq_true_eq, decide_eq_false_iff_not, Bool.not_eq_true', Bool.not_eq_false', Bool.not_eq_true, Bool.not_eq_false, not_true_eq_false, not_false_eq_true, reduceCtorEq] at hh1)
        apply Wp.seq
        apply Wp.region
        refine WpL.v (V.cmp) ?_
        refine WpL.v (V.as) ?_
        apply WpL.nil
        apply Out.seqN
        refine Wp.c (fun hh2 => ?_) (fun hh2 => ?_)
        (try simp only [decide_eq_true_eq, decide_eq_false_iff_not, Bool.not_eq_true', Bool.not_eq_false', Bool.not_eq_true, Bool.not_eq_false, not_true_eq_false, not_false_eq_true, reduceCtorEq] at hh2)
        (exfalso; omega)
        (try simp only [decide_eq_true_eq, decide_eq_false_iff_not, Bool.not_eq_true', Bool.not_eq_false', Bool.not_eq_true, Bool.not_eq_false, not_true_eq_false, not_false_eq_true, reduceCtorEq] at hh2)
        apply Wp.seq
        apply Wp.region
        refine WpL.v (V.cmp) ?_
        refine WpL.v (V.as) ?_
        apply WpL.nil
        apply Out.seqN
        refine Wp.c (fun hh3 => ?_) (fun hh3 => ?_)
        (try simp only [decide_eq_true_eq, decide_eq_false_iff_not, Bool.not_eq_true', Bool.not_eq_false', Bool.not_eq_true, Bool.not_eq_false, not_true_eq_false, not_false_eq_true, reduceCtorEq] at hh3)
        (exfalso; omega)
        (try simp only [decide_eq_true_eq, decide_eq_false_iff_not, Bool.not_eq_true', Bool.not_eq_false', Bool.not_eq_true, Bool.not_eq_false, not_true_eq_false, not_false_eq_true, reduceCtorEq] at hh3)
        apply Wp.skip
        apply Out.blockN
        apply Out.seqN
        apply Wp.seq
        apply Wp.block
        apply Wp.seq
        apply Wp.region
        refine WpL.v (V.fa tb) ?_
        refine WpL.v (V.ld1 tb) ?_
        refine WpL.v (V.cmp) ?_
        refine WpL.v (V.mv) ?_
        refine WpL.pt (fun hh4 => ?_) (fun hh4 => ?_)
        (try simp only [decide_eq_true_eq, decide_eq_false_iff_not, Bool.not_eq_true', Bool.not_eq_false', Bool.not_eq_true, Bool.not_eq_false, not_true_eq_false, not_false_eq_true, reduceCtorEq] at hh4)
        refine WpL.v (V.fa tb) ?_
        refine WpL.v (V.ld1 tb) ?_
        refine WpL.v (V.cmp) ?_
        refine WpL.v (V.pT) ?_
        refine WpL.v (V.as) ?_
        apply WpL.nil
        apply Out.seqN
        refine Wp.c (fun hh5 => ?_) (fun hh5 => ?_)
        (try simp only [decide_eq_true_eq, decide_eq_false_iff_not, Bool.not_eq_true', Bool.not_eq_false', Bool.not_eq_true, Bool.not_eq_false, not_true_eq_false, not_false_eq_true, reduceCtorEq] at hh5)
        (exfalso; omega)
        (try simp only [decide_eq_true_eq, decide_eq_false_iff_not, Bool.not_eq_true', Bool.not_eq_false', Bool.not_eq_true, Bool.not_eq_false, not_true_eq_false, not_false_eq_true, reduceCtorEq] at hh5)
        apply Wp.seq
        apply Wp.region
        refine WpL.v (V.mv) ?_
        refine WpL.v (V.not) ?_
        refine WpL.v (V.as) ?_
        apply WpL.nil
        apply Out.seqN
        refine Wp.c (fun hh6 => ?_) (fun hh6 => ?_)
        (try simp only [decide_eq_true_eq, decide_eq_false_iff_not, Bool.not_eq_true', Bool.not_eq_false', Bool.not_eq_true, Bool.not_eq_false, not_true_eq_false, not_false_eq_true, reduceCtorEq] at hh6)
        apply Wp.seq
        apply Wp.region
        refine WpL.v (V.bld tb) ?_
        refine WpL.o (O.stA tb ?_)
        apply WpL.nil
        apply Out.seqN
        apply Wp.ret
        apply Out.blockR
        apply Out.seqR
        refine Out.f1 rfl (ResIs.ca tb) ⟨?_, rfl⟩
        exact rfl
        (try simp only [decide_eq_true_eq, decide_eq_false_iff_not, Bool.not_eq_true', Bool.not_eq_false', Bool.not_eq_true, Bool.not_eq_false, not_true_eq_false, not_false_eq_true, reduceCtorEq] at hh6)
        exact absurd (Eq.trans (Eq.symm hh6) (by assumption) : true = false) (by decide)
        (try simp only [decide_eq_true_eq, decide_eq_false_iff_not, Bool.not_eq_true', Bool.not_eq_false', Bool.not_eq_true, Bool.not_eq_false, not_true_eq_false, not_false_eq_true, reduceCtorEq] at hh4)
        (exfalso; omega)
        refine O.al tb (fun p5 => ⟨?_, ?_, ?_⟩)
        exact holdT
        exact holdT
        refine WpA.oS 6 rfl (Op1.vv (Val.look2D (l := l) (k := d.Key) (vf := vP) RegistryPair.z kokS map72 zero52 rfl rfl (by (repeat first | exact List.Mem.head _ | apply List.Mem.tail))) ⟨?_, ?_, ?_⟩)
        exact holdT
        exact holdT
        refine WpA.tF 7 rfl (V.mv) ?_
        refine WpA.tF 8 rfl (V.ex) ?_
        refine WpA.tF 9 rfl (V.ex) ?_
        refine WpA.oS 11 rfl (O.stA tb ⟨?_, ?_, ?_⟩)
        exact holdT
        exact holdT
        refine WpA.tF 12 rfl (V.as) ?_
        refine WpA.ou ?_
        apply Out.seqN
        apply Wp.seq
        apply Wp.seq
        apply Wp.region
        refine WpL.v (V.fa tb) ?_
        refine WpL.v (V.ld1 tb) ?_
        apply WpL.nil
        apply Out.seqN
        apply Wp.block
        apply Wp.seq
        apply Wp.region
        refine WpL.v (V.cmp) ?_
        refine WpL.v (V.as) ?_
        apply WpL.nil
        apply Out.seqN
        refine Wp.c (fun hh7 => ?_) (fun hh7 => ?_)
        (try simp only [decide_eq_true_eq, decide_eq_false_iff_not, Bool.not_eq_true', Bool.not_eq_false', Bool.not_eq_true, Bool.not_eq_false, not_true_eq_false, not_false_eq_true, reduceCtorEq] at hh7)
        (exfalso; omega)
        (try simp only [decide_eq_true_eq, decide_eq_false_iff_not, Bool.not_eq_true', Bool.not_eq_false', Bool.not_eq_true, Bool.not_eq_false, not_true_eq_false, not_false_eq_true, reduceCtorEq] at hh7)
        apply Wp.seq
        apply Wp.region
        refine WpL.v (V.cmp) ?_
        refine WpL.v (V.as) ?_
        apply WpL.nil
        apply Out.seqN
        refine Wp.c (fun hh8 => ?_) (fun hh8 => ?_)
        (try simp only [decide_eq_true_eq, decide_eq_false_iff_not, Bool.not_eq_true', Bool.not_eq_false', Bool.not_eq_true, Bool.not_eq_false, not_true_eq_false, not_false_eq_true, reduceCtorEq] at hh8)
        (exfalso; omega)
        (try simp only [decide_eq_true_eq, decide_eq_false_iff_not, Bool.not_eq_true', Bool.not_eq_false', Bool.not_eq_true, Bool.not_eq_false, not_true_eq_false, not_false_eq_true, reduceCtorEq] at hh8)
        apply Wp.seq
        apply Wp.region
        refine WpL.v (V.cmp) ?_
        refine WpL.v (V.as) ?_
        apply WpL.nil
        apply Out.seqN
        refine Wp.c (fun hh9 => ?_) (fun hh9 => ?_)
        (try simp only [decide_eq_true_eq, decide_eq_false_iff_not, Bool.not_eq_true', Bool.not_eq_false', Bool.not_eq_true, Bool.not_eq_false, not_true_eq_false, not_false_eq_true, reduceCtorEq] at hh9)
        (exfalso; omega)
        (try simp only [decide_eq_true_eq, decide_eq_false_iff_not, Bool.not_eq_true', Bool.not_eq_false', Bool.not_eq_true, Bool.not_eq_false, not_true_eq_false, not_false_eq_true, reduceCtorEq] at hh9)
        apply Wp.seq
        apply Wp.region
        refine WpL.v (V.cmp) ?_
        refine WpL.v (V.as) ?_
        apply WpL.nil
        apply Out.seqN
        refine Wp.c (fun hh10 => ?_) (fun hh10 => ?_)
        (try simp only [decide_eq_true_eq, decide_eq_false_iff_not, Bool.not_eq_true', Bool.not_eq_false', Bool.not_eq_true, Bool.not_eq_false, not_true_eq_false, not_false_eq_true, reduceCtorEq] at hh10)
        (exfalso; omega)
        (try simp only [decide_eq_true_eq, decide_eq_false_iff_not, Bool.not_eq_true', Bool.not_eq_false', Bool.not_eq_true, Bool.not_eq_false, not_true_eq_false, not_false_eq_true, reduceCtorEq] at hh10)
        apply Wp.skip
        apply Out.blockN
        apply Out.seqN
        apply Wp.seq
        apply Wp.block
        apply Wp.seq
        apply Wp.region
        refine WpL.v (V.fa tb) ?_
        refine WpL.v (V.ld1 tb) ?_
        refine WpL.v (V.cmp) ?_
        refine WpL.v (V.mv) ?_
        refine WpL.pt (fun hh11 => ?_) (fun hh11 => ?_)
        (try simp only [decide_eq_true_eq, decide_eq_false_iff_not, Bool.not_eq_true', Bool.not_eq_false', Bool.not_eq_true, Bool.not_eq_false, not_true_eq_false, not_false_eq_true, reduceCtorEq] at hh11)
        refine WpL.v (V.fa tb) ?_
        refine WpL.v (V.ld1 tb) ?_
        refine WpL.v (V.cmp) ?_
        refine WpL.v (V.pT) ?_
        refine WpL.v (V.as) ?_
        apply WpL.nil
        apply Out.seqN
        refine Wp.c (fun hh12 => ?_) (fun hh12 => ?_)
        (try simp only [decide_eq_true_eq, decide_eq_false_iff_not, Bool.not_eq_true', Bool.not_eq_false', Bool.not_eq_true, Bool.not_eq_false, not_true_eq_false, not_false_eq_true, reduceCtorEq] at hh12)
        (exfalso; omega)
        (try simp only [decide_eq_true_eq, decide_eq_false_iff_not, Bool.not_eq_true', Bool.not_eq_false', Bool.not_eq_true, Bool.not_eq_false, not_true_eq_false, not_false_eq_true, reduceCtorEq] at hh12)
        apply Wp.seq
        apply Wp.region
        refine WpL.v (V.mv) ?_
        refine WpL.v (V.not) ?_
        refine WpL.v (V.as) ?_
        apply WpL.nil
        apply Out.seqN
        refine Wp.c (fun hh13 => ?_) (fun hh13 => ?_)
        (try simp only [decide_eq_true_eq, decide_eq_false_iff_not, Bool.not_eq_true', Bool.not_eq_false', Bool.not_eq_true, Bool.not_eq_false, not_true_eq_false, not_false_eq_true, reduceCtorEq] at hh13)
        apply Wp.seq
        apply Wp.region
        refine WpL.v (V.bld tb) ?_
        refine WpL.o (O.stA tb ?_)
        apply WpL.nil
        apply Out.seqN
        apply Wp.ret
        apply Out.blockR
        apply Out.seqR
        refine Out.f1 rfl (ResIs.ca tb) ⟨?_, rfl⟩
        exact rfl
        (try simp only [decide_eq_true_eq, decide_eq_false_iff_not, Bool.not_eq_true', Bool.not_eq_false', Bool.not_eq_true, Bool.not_eq_false, not_true_eq_false, not_false_eq_true, reduceCtorEq] at hh13)
        exact absurd (Eq.trans (Eq.symm hh13) (by assumption) : true = false) (by decide)
        (try simp only [decide_eq_true_eq, decide_eq_false_iff_not, Bool.not_eq_true', Bool.not_eq_false', Bool.not_eq_true, Bool.not_eq_false, not_true_eq_false, not_false_eq_true, reduceCtorEq] at hh11)
        (exfalso; omega)
    | true =>
      rw [if_pos rfl]
      by_cases k4 : d.Kind = 4
      · rw [if_pos k4]
        refine Ct.enter Try.func15 rfl rfl fun W => ?_
        apply Wp.seq
        apply Wp.region
        refine WpL.o (O.bxA (fun p3 => ?_))
        refine WpL.o (O.al tb (fun p4 => ?_))
        apply WpL.nil
        apply Out.seqN
        apply Wp.seq
        apply Wp.seq
        apply Wp.region
        refine WpL.v (V.mv) ?_
        refine WpL.v (V.eqP) ?_
        apply WpL.nil
        apply Out.seqN
        refine Wp.cF ?_
        apply Wp.skip
        apply Out.seqN
        apply Wp.seq
        refine Wp.dG [] ?_ (List.Sublist.cons _ (List.Sublist.cons_cons _ (List.Sublist.cons_cons _ (List.Sublist.cons _ List.Sublist.slnil)))) (List.Sublist.cons _ (List.Sublist.cons_cons _ (List.Sublist.cons_cons _ (List.Sublist.cons _ List.Sublist.slnil))))
        refine WpA.tF 0 rfl (V.mv) ?_
        refine WpA.tF 1 rfl (V.nc) ?_
        refine WpA.tF 2 rfl (V.fa tb) ?_
        refine WpA.tF 3 rfl (V.ld1 tb) ?_
        refine WpA.tF 4 rfl (V.fa tb) ?_
        refine WpA.tF 5 rfl (V.ld1 tb) ?_
        refine WpA.e2 6 10 rfl rfl ?_ ?_
        refine Op1.vv (Val.look2D (l := l) (k := d.Key) (vf := vP) RegistryPair.z kokS map72 zero52 rfl rfl (by (repeat first | exact List.Mem.head _ | apply List.Mem.tail))) ⟨?_, ?_, ?_⟩
        exact holdT
        exact holdT
        refine WpA.tF 7 rfl (V.mv) ?_
        refine WpA.tF 8 rfl (V.ex) ?_
        refine WpA.tF 9 rfl (V.ex) ?_
        refine WpA.oS 10 rfl (O.al tb (fun p5 => ⟨?_, ?_, ?_⟩))
        exact holdT
        exact holdT
        refine WpA.oS 11 rfl (O.stA tb ⟨?_, ?_, ?_⟩)
        exact holdT
        exact holdT
        refine WpA.tF 12 rfl (V.as) ?_
        refine WpA.ou ?_
        apply Out.seqN
        apply Wp.seq
        apply Wp.seq
        apply Wp.region
        refine WpL.v (V.fa tb) ?_
        refine WpL.v (V.ld1 tb) ?_
        apply WpL.nil
        apply Out.seqN
        apply Wp.block
        apply Wp.seq
        apply Wp.region
        refine WpL.v (V.cmp) ?_
        refine WpL.v (V.as) ?_
        apply WpL.nil
        apply Out.seqN
        refine Wp.c (fun hi0 => ?_) (fun hi0 => ?_)
        (try simp only [decide_eq_true_eq, decide_eq_false_iff_not, Bool.not_eq_true', Bool.not_eq_false', Bool.not_eq_true, Bool.not_eq_false, not_true_eq_false, not_false_eq_true, reduceCtorEq] at hi0)
        (exfalso; omega)
        (try simp only [decide_eq_true_eq, decide_eq_false_iff_not, Bool.not_eq_true', Bool.not_eq_false', Bool.not_eq_true, Bool.not_eq_false, not_true_eq_false, not_false_eq_true, reduceCtorEq] at hi0)
        apply Wp.seq
        apply Wp.region
        refine WpL.v (V.cmp) ?_
        refine WpL.v (V.as) ?_
        apply WpL.nil
        apply Out.seqN
        refine Wp.c (fun hi1 => ?_) (fun hi1 => ?_)
        (try simp only [decide_eq_true_eq, decide_eq_false_iff_not, Bool.not_eq_true', Bool.not_eq_false', Bool.not_eq_true, Bool.not_eq_false, not_true_eq_false, not_false_eq_true, reduceCtorEq] at hi1)
        (exfalso; omega)
        (try simp only [decide_eq_true_eq, decide_eq_false_iff_not, Bool.not_eq_true', Bool.not_eq_false', Bool.not_eq_true, Bool.not_eq_false, not_true_eq_false, not_false_eq_true, reduceCtorEq] at hi1)
        apply Wp.seq
        apply Wp.region
        refine WpL.v (V.cmp) ?_
        refine WpL.v (V.as) ?_
        apply WpL.nil
        apply Out.seqN
        refine Wp.c (fun hi2 => ?_) (fun hi2 => ?_)
        (try simp only [decide_eq_true_eq, decide_eq_false_iff_not, Bool.not_eq_true', Bool.not_eq_false', Bool.not_eq_true, Bool.not_eq_false, not_true_eq_false, not_false_eq_true, reduceCtorEq] at hi2)
        (exfalso; omega)
        (try simp only [decide_eq_true_eq, decide_eq_false_iff_not, Bool.not_eq_true', Bool.not_eq_false', Bool.not_eq_true, Bool.not_eq_false, not_true_eq_false, not_false_eq_true, reduceCtorEq] at hi2)
        apply Wp.seq
        apply Wp.region
        refine WpL.v (V.cmp) ?_
        refine WpL.v (V.as) ?_
        apply WpL.nil
        apply Out.seqN
        refine Wp.c (fun hi3 => ?_) (fun hi3 => ?_)
        (try simp only [decide_eq_true_eq, decide_eq_false_iff_not, Bool.not_eq_true', Bool.not_eq_false', Bool.not_eq_true, Bool.not_eq_false, not_true_eq_false, not_false_eq_true, reduceCtorEq] at hi3)
        (exfalso; omega)
        (try simp only [decide_eq_true_eq, decide_eq_false_iff_not, Bool.not_eq_true', Bool.not_eq_false', Bool.not_eq_true, Bool.not_eq_false, not_true_eq_false, not_false_eq_true, reduceCtorEq] at hi3)
        apply Wp.skip
        apply Out.blockN
        apply Out.seqN
        apply Wp.seq
        apply Wp.block
        apply Wp.seq
        apply Wp.region
        refine WpL.v (V.fa tb) ?_
        refine WpL.v (V.ld1 tb) ?_
        refine WpL.v (V.cmp) ?_
        refine WpL.v (V.mv) ?_
        refine WpL.pt (fun hi4 => ?_) (fun hi4 => ?_)
        (try simp only [decide_eq_true_eq, decide_eq_false_iff_not, Bool.not_eq_true', Bool.not_eq_false', Bool.not_eq_true, Bool.not_eq_false, not_true_eq_false, not_false_eq_true, reduceCtorEq] at hi4)
        refine WpL.v (V.fa tb) ?_
        refine WpL.v (V.ld1 tb) ?_
        refine WpL.v (V.cmp) ?_
        refine WpL.v (V.pT) ?_
        refine WpL.v (V.as) ?_
        apply WpL.nil
        apply Out.seqN
        refine Wp.c (fun hi5 => ?_) (fun hi5 => ?_)
        (try simp only [decide_eq_true_eq, decide_eq_false_iff_not, Bool.not_eq_true', Bool.not_eq_false', Bool.not_eq_true, Bool.not_eq_false, not_true_eq_false, not_false_eq_true, reduceCtorEq] at hi5)
        (exfalso; omega)
        (try simp only [decide_eq_true_eq, decide_eq_false_iff_not, Bool.not_eq_true', Bool.not_eq_false', Bool.not_eq_true, Bool.not_eq_false, not_true_eq_false, not_false_eq_true, reduceCtorEq] at hi5)
        apply Wp.seq
        apply Wp.region
        refine WpL.v (V.mv) ?_
        refine WpL.v (V.not) ?_
        refine WpL.v (V.as) ?_
        apply WpL.nil
        apply Out.seqN
        refine Wp.c (fun hi6 => ?_) (fun hi6 => ?_)
        (try simp only [decide_eq_true_eq, decide_eq_false_iff_not, Bool.not_eq_true', Bool.not_eq_false', Bool.not_eq_true, Bool.not_eq_false, not_true_eq_false, not_false_eq_true, reduceCtorEq] at hi6)
        exact absurd (Eq.trans (Eq.symm hi6) (by assumption) : false = true) (by decide)
        (try simp only [decide_eq_true_eq, decide_eq_false_iff_not, Bool.not_eq_true', Bool.not_eq_false', Bool.not_eq_true, Bool.not_eq_false, not_true_eq_false, not_false_eq_true, reduceCtorEq] at hi6)
        apply Wp.seq
        apply Wp.region
        refine WpL.v (V.fa tb) ?_
        refine WpL.v (V.ld1 tb) ?_
        refine WpL.v (V.cmp) ?_
        refine WpL.v (V.as) ?_
        apply WpL.nil
        apply Out.seqN
        refine Wp.c (fun hi7 => ?_) (fun hi7 => ?_)
        (try simp only [decide_eq_true_eq, decide_eq_false_iff_not, Bool.not_eq_true', Bool.not_eq_false', Bool.not_eq_true, Bool.not_eq_false, not_true_eq_false, not_false_eq_true, reduceCtorEq] at hi7)
        apply Wp.seq
        refine Wp.dG [] ?_ (List.Sublist.cons _ (List.Sublist.cons _ (List.Sublist.cons_cons _ (List.Sublist.cons_cons _ (List.Sublist.cons _ List.Sublist.slnil))))) (List.Sublist.cons _ (List.Sublist.cons _ (List.Sublist.cons_cons _ (List.Sublist.cons_cons _ (List.Sublist.cons _ List.Sublist.slnil)))))
        refine WpA.tF 0 rfl (V.mv) ?_
        refine WpA.tF 1 rfl (V.nc) ?_
        refine WpA.tF 2 rfl (V.fa tb) ?_
        refine WpA.tF 3 rfl (V.ld1 tb) ?_
        refine WpA.tF 4 rfl (V.fa tb) ?_
        refine WpA.tF 5 rfl (V.ld1 tb) ?_
        refine WpA.oS 6 rfl (Op1.delM (l := l) (k := d.Key) (vf := vP) kokS map72 rfl rfl (by (repeat first | exact Upd.here _ _ _ | apply Upd.there)) ⟨?_, ?_, ?_⟩)
        exact holdT
        exact holdT
        refine WpA.ou ?_
        apply Out.seqN
        apply Wp.seq
        apply Wp.region
        refine WpL.v (V.fa tb) ?_
        refine WpL.v (V.ld1 tb) ?_
        refine WpL.v (V.bld tb) ?_
        refine WpL.o (O.stA tb ?_)
        apply WpL.nil
        apply Out.seqN
        apply Wp.ret
        apply Out.blockR
        apply Out.seqR
        refine Out.f1 rfl (ResIs.ca tb) ⟨?_, rfl⟩
        exact rfl
        (try simp only [decide_eq_true_eq, decide_eq_false_iff_not, Bool.not_eq_true', Bool.not_eq_false', Bool.not_eq_true, Bool.not_eq_false, not_true_eq_false, not_false_eq_true, reduceCtorEq] at hi7)
        (exfalso; omega)
        (try simp only [decide_eq_true_eq, decide_eq_false_iff_not, Bool.not_eq_true', Bool.not_eq_false', Bool.not_eq_true, Bool.not_eq_false, not_true_eq_false, not_false_eq_true, reduceCtorEq] at hi4)
        (exfalso; omega)
        refine O.al tb (fun p5 => ⟨?_, ?_, ?_⟩)
        exact holdT
        exact holdT
        refine WpA.oS 6 rfl (Op1.vv (Val.look2D (l := l) (k := d.Key) (vf := vP) RegistryPair.z kokS map72 zero52 rfl rfl (by (repeat first | exact List.Mem.head _ | apply List.Mem.tail))) ⟨?_, ?_, ?_⟩)
        exact holdT
        exact holdT
        refine WpA.tF 7 rfl (V.mv) ?_
        refine WpA.tF 8 rfl (V.ex) ?_
        refine WpA.tF 9 rfl (V.ex) ?_
        refine WpA.oS 11 rfl (O.stA tb ⟨?_, ?_, ?_⟩)
        exact holdT
        exact holdT
        refine WpA.tF 12 rfl (V.as) ?_
        refine WpA.ou ?_
        apply Out.seqN
        apply Wp.seq
        apply Wp.seq
        apply Wp.region
        refine WpL.v (V.fa tb) ?_
        refine WpL.v (V.ld1 tb) ?_
        apply WpL.nil
        apply Out.seqN
        apply Wp.block
        apply Wp.seq
        apply Wp.region
        refine WpL.v (V.cmp) ?_
        refine WpL.v (V.as) ?_
        apply WpL.nil
        apply Out.seqN
        refine Wp.c (fun hi8 => ?_) (fun hi8 => ?_)
        (try simp only [decide_eq_true_eq, decide_eq_false_iff_not, Bool.not_eq_true', Bool.not_eq_false', Bool.not_eq_true, Bool.not_eq_false, not_true_eq_false, not_false_eq_true, reduceCtorEq] at hi8)
        (exfalso; omega)
        (try simp only [decide_eq_true_eq, decide_eq_false_iff_not, Bool.not_eq_true', Bool.not_eq_false', Bool.not_eq_true, Bool.not_eq_false, not_true_eq_false, not_false_eq_true, reduceCtorEq] at hi8)
        apply Wp.seq
        apply Wp.region
        refine WpL.v (V.cmp) ?_
        refine WpL.v (V.as) ?_
        apply WpL.nil
        apply Out.seqN
        refine Wp.c (fun hi9 => ?_) (fun hi9 => ?_)
        (try simp only [decide_eq_true_eq, decide_eq_false_iff_not, Bool.not_eq_true', Bool.not_eq_false', Bool.not_eq_true, Bool.not_eq_false, not_true_eq_false, not_false_eq_true, reduceCtorEq] at hi9)
        (exfalso; omega)
        (try simp only [decide_eq_true_eq, decide_eq_false_iff_not, Bool.not_eq_true', Bool.not_eq_false', Bool.not_eq_true, Bool.not_eq_false, not_true_eq_false, not_false_eq_true, reduceCtorEq] at hi9)
        apply Wp.seq
        apply Wp.region
        refine WpL.v (V.cmp) ?_
        refine WpL.v (V.as) ?_
        apply WpL.nil
        apply Out.seqN
        refine Wp.c (fun hi10 => ?_) (fun hi10 => ?_)
        (try simp only [decide_eq_true_eq, decide_eq_false_iff_not, Bool.not_eq_true', Bool.not_eq_false', Bool.not_eq_true, Bool.not_eq_false, not_true_eq_false, not_false_eq_true, reduceCtorEq] at hi10)
        (exfalso; omega)
        (try simp only [decide_eq_true_eq, decide_eq_false_iff_not, Bool.not_eq_true', Bool.not_eq_false', Bool.not_eq_true, Bool.not_eq_false, not_true_eq_false, not_false_eq_true, reduceCtorEq] at hi10)
        apply Wp.seq
        apply Wp.region
        refine WpL.v (V.cmp) ?_
        refine WpL.v (V.as) ?_
        apply WpL.nil
        apply Out.seqN
        refine Wp.c (fun hi11 => ?_) (fun hi11 => ?_)
        (try simp only [decide_eq_true_eq, decide_eq_false_iff_not, Bool.not_eq_true', Bool.not_eq_false', Bool.not_eq_true, Bool.not_eq_false, not_true_eq_false, not_false_eq_true, reduceCtorEq] at hi11)
        (exfalso; omega)
        (try simp only [decide_eq_true_eq, decide_eq_false_iff_not, Bool.not_eq_true', Bool.not_eq_false', Bool.not_eq_true, Bool.not_eq_false, not_true_eq_false, not_false_eq_true, reduceCtorEq] at hi11)
        apply Wp.skip
        apply Out.blockN
        apply Out.seqN
        apply Wp.seq
        apply Wp.block
        apply Wp.seq
        apply Wp.region
        refine WpL.v (V.fa tb) ?_
        refine WpL.v (V.ld1 tb) ?_
        refine WpL.v (V.cmp) ?_
        refine WpL.v (V.mv) ?_
        refine WpL.pt (fun hi12 => ?_) (fun hi12 => ?_)
        (try simp only [decide_eq_true_eq, decide_eq_false_iff_not, Bool.not_eq_true', Bool.not_eq_false', Bool.not_eq_true, Bool.not_eq_false, not_true_eq_false, not_false_eq_true, reduceCtorEq] at hi12)
        refine WpL.v (V.fa tb) ?_
        refine WpL.v (V.ld1 tb) ?_
        refine WpL.v (V.cmp) ?_
        refine WpL.v (V.pT) ?_
        refine WpL.v (V.as) ?_
        apply WpL.nil
        apply Out.seqN
        refine Wp.c (fun hi13 => ?_) (fun hi13 => ?_)
        (try simp only [decide_eq_true_eq, decide_eq_false_iff_not, Bool.not_eq_true', Bool.not_eq_false', Bool.not_eq_true, Bool.not_eq_false, not_true_eq_false, not_false_eq_true, reduceCtorEq] at hi13)
        (exfalso; omega)
        (try simp only [decide_eq_true_eq, decide_eq_false_iff_not, Bool.not_eq_true', Bool.not_eq_false', Bool.not_eq_true, Bool.not_eq_false, not_true_eq_false, not_false_eq_true, reduceCtorEq] at hi13)
        apply Wp.seq
        apply Wp.region
        refine WpL.v (V.mv) ?_
        refine WpL.v (V.not) ?_
        refine WpL.v (V.as) ?_
        apply WpL.nil
        apply Out.seqN
        refine Wp.c (fun hi14 => ?_) (fun hi14 => ?_)
        (try simp only [decide_eq_true_eq, decide_eq_false_iff_not, Bool.not_eq_true', Bool.not_eq_false', Bool.not_eq_true, Bool.not_eq_false, not_true_eq_false, not_false_eq_true, reduceCtorEq] at hi14)
        exact absurd (Eq.trans (Eq.symm hi14) (by assumption) : false = true) (by decide)
        (try simp only [decide_eq_true_eq, decide_eq_false_iff_not, Bool.not_eq_true', Bool.not_eq_false', Bool.not_eq_true, Bool.not_eq_false, not_true_eq_false, not_false_eq_true, reduceCtorEq] at hi14)
        apply Wp.seq
        apply Wp.region
        refine WpL.v (V.fa tb) ?_
        refine WpL.v (V.ld1 tb) ?_
        refine WpL.v (V.cmp) ?_
        refine WpL.v (V.as) ?_
        apply WpL.nil
        apply Out.seqN
        refine Wp.c (fun hi15 => ?_) (fun hi15 => ?_)
        (try simp only [decide_eq_true_eq, decide_eq_false_iff_not, Bool.not_eq_true', Bool.not_eq_false', Bool.not_eq_true, Bool.not_eq_false, not_true_eq_false, not_false_eq_true, reduceCtorEq] at hi15)
        apply Wp.seq
        refine Wp.dG [] ?_ (List.Sublist.cons _ (List.Sublist.cons _ (List.Sublist.cons_cons _ (List.Sublist.cons_cons _ (List.Sublist.cons _ List.Sublist.slnil))))) (List.Sublist.cons _ (List.Sublist.cons _ (List.Sublist.cons_cons _ (List.Sublist.cons_cons _ (List.Sublist.cons _ List.Sublist.slnil)))))
        refine WpA.tF 0 rfl (V.mv) ?_
        refine WpA.tF 1 rfl (V.nc) ?_
        refine WpA.tF 2 rfl (V.fa tb) ?_
        refine WpA.tF 3 rfl (V.ld1 tb) ?_
        refine WpA.tF 4 rfl (V.fa tb) ?_
        refine WpA.tF 5 rfl (V.ld1 tb) ?_
        refine WpA.oS 6 rfl (Op1.delM (l := l) (k := d.Key) (vf := vP) kokS map72 rfl rfl (by (repeat first | exact Upd.here _ _ _ | apply Upd.there)) ⟨?_, ?_, ?_⟩)
        exact holdT
        exact holdT
        refine WpA.ou ?_
        apply Out.seqN
        apply Wp.seq
        apply Wp.region
        refine WpL.v (V.fa tb) ?_
        refine WpL.v (V.ld1 tb) ?_
        refine WpL.v (V.bld tb) ?_
        refine WpL.o (O.stA tb ?_)
        apply WpL.nil
        apply Out.seqN
        apply Wp.ret
        apply Out.blockR
        apply Out.seqR
        refine Out.f1 rfl (ResIs.ca tb) ⟨?_, rfl⟩
        exact rfl
        (try simp only [decide_eq_true_eq, decide_eq_false_iff_not, Bool.not_eq_true', Bool.not_eq_false', Bool.not_eq_true, Bool.not_eq_false, not_true_eq_false, not_false_eq_true, reduceCtorEq] at hi15)
        (exfalso; omega)
        (try simp only [decide_eq_true_eq, decide_eq_false_iff_not, Bool.not_eq_true', Bool.not_eq_false', Bool.not_eq_true, Bool.not_eq_false, not_true_eq_false, not_false_eq_true, reduceCtorEq] at hi12)
        (exfalso; omega)
      · rw [if_neg k4]
        have k1 : d.Kind = 1 := k14.resolve_right k4
        refine Ct.enter Try.func15 rfl rfl fun W => ?_
        apply Wp.seq
        apply Wp.region
        refine WpL.o (O.bxA (fun p3 => ?_))
        refine WpL.o (O.al tb (fun p4 => ?_))
        apply WpL.nil
        apply Out.seqN
        apply Wp.seq
        apply Wp.seq
        apply Wp.region
        refine WpL.v (V.mv) ?_
        refine WpL.v (V.eqP) ?_
        apply WpL.nil
        apply Out.seqN
        refine Wp.cF ?_
        apply Wp.skip
        apply Out.seqN
        apply Wp.seq
        refine Wp.dG [] ?_ (List.Sublist.cons _ (List.Sublist.cons_cons _ (List.Sublist.cons_cons _ (List.Sublist.cons _ List.Sublist.slnil)))) (List.Sublist.cons _ (List.Sublist.cons_cons _ (List.Sublist.cons_cons _ (List.Sublist.cons _ List.Sublist.slnil))))
        refine WpA.tF 0 rfl (V.mv) ?_
        refine WpA.tF 1 rfl (V.nc) ?_
        refine WpA.tF 2 rfl (V.fa tb) ?_
        refine WpA.tF 3 rfl (V.ld1 tb) ?_
        refine WpA.tF 4 rfl (V.fa tb) ?_
        refine WpA.tF 5 rfl (V.ld1 tb) ?_
        refine WpA.e2 6 10 rfl rfl ?_ ?_
        refine Op1.vv (Val.look2D (l := l) (k := d.Key) (vf := vP) RegistryPair.z kokS map72 zero52 rfl rfl (by (repeat first | exact List.Mem.head _ | apply List.Mem.tail))) ⟨?_, ?_, ?_⟩
        exact holdT
        exact holdT
        refine WpA.tF 7 rfl (V.mv) ?_
        refine WpA.tF 8 rfl (V.ex) ?_
        refine WpA.tF 9 rfl (V.ex) ?_
        refine WpA.oS 10 rfl (O.al tb (fun p5 => ⟨?_, ?_, ?_⟩))
        exact holdT
        exact holdT
        refine WpA.oS 11 rfl (O.stA tb ⟨?_, ?_, ?_⟩)
        exact holdT
        exact holdT
        refine WpA.tF 12 rfl (V.as) ?_
        refine WpA.ou ?_
        apply Out.seqN
        apply Wp.seq
        apply Wp.seq
        apply Wp.region
        refine WpL.v (V.fa tb) ?_
        refine WpL.v (V.ld1 tb) ?_
        apply WpL.nil
        apply Out.seqN
        apply Wp.block
        apply Wp.seq
        apply Wp.region
        refine WpL.v (V.cmp) ?_
        refine WpL.v (V.as) ?_
        apply WpL.nil
        apply Out.seqN
        refine Wp.c (fun hj0 => ?_) (fun hj0 => ?_)
        (try simp only [decide_eq_true_eq, decide_eq_false_iff_not, Bool.not_eq_true', Bool.not_eq_false', Bool.not_eq_true, Bool.not_eq_false, not_true_eq_false, not_false_eq_true, reduceCtorEq] at hj0)
        (exfalso; omega)
        (try simp only [decide_eq_true_eq, decide_eq_false_iff_not, Bool.not_eq_true', Bool.not_eq_false', Bool.not_eq_true, Bool.not_eq_false, not_true_eq_false, not_false_eq_true, reduceCtorEq] at hj0)
        apply Wp.seq
        apply Wp.region
        refine WpL.v (V.cmp) ?_
        refine WpL.v (V.as) ?_
        apply WpL.nil
        apply Out.seqN
        refine Wp.c (fun hj1 => ?_) (fun hj1 => ?_)
        (try simp only [decide_eq_true_eq, decide_eq_false_iff_not, Bool.not_eq_true', Bool.not_eq_false', Bool.not_eq_true, Bool.not_eq_false, not_true_eq_false, not_false_eq_true, reduceCtorEq] at hj1)
        (exfalso; omega)
        (try simp only [decide_eq_true_eq, decide_eq_false_iff_not, Bool.not_eq_true', Bool.not_eq_false', Bool.not_eq_true, Bool.not_eq_false, not_true_eq_false, not_false_eq_true, reduceCtorEq] at hj1)
        apply Wp.seq
        apply Wp.region
        refine WpL.v (V.cmp) ?_
        refine WpL.v (V.as) ?_
        apply WpL.nil
        apply Out.seqN
        refine Wp.c (fun hj2 => ?_) (fun hj2 => ?_)
        (try simp only [decide_eq_true_eq, decide_eq_false_iff_not, Bool.not_eq_true', Bool.not_eq_false', Bool.not_eq_true, Bool.not_eq_false, not_true_eq_false, not_false_eq_true, reduceCtorEq] at hj2)
        (exfalso; omega)
        (try simp only [decide_eq_true_eq, decide_eq_false_iff_not, Bool.not_eq_true', Bool.not_eq_false', Bool.not_eq_true, Bool.not_eq_false, not_true_eq_false, not_false_eq_true, reduceCtorEq] at hj2)
        apply Wp.seq
        apply Wp.region
        refine WpL.v (V.cmp) ?_
        refine WpL.v (V.as) ?_
        apply WpL.nil
        apply Out.seqN
        refine Wp.c (fun hj3 => ?_) (fun hj3 => ?_)
        (try simp only [decide_eq_true_eq, decide_eq_false_iff_not, Bool.not_eq_true', Bool.not_eq_false', Bool.not_eq_true, Bool.not_eq_false, not_true_eq_false, not_false_eq_true, reduceCtorEq] at hj3)
        (exfalso; omega)
        (try simp only [decide_eq_true_eq, decide_eq_false_iff_not, Bool.not_eq_true', Bool.not_eq_false', Bool.not_eq_true, Bool.not_eq_false, not_true_eq_false, not_false_eq_true, reduceCtorEq] at hj3)
        apply Wp.skip
        apply Out.blockN
        apply Out.seqN
        apply Wp.seq
        apply Wp.block
        apply Wp.seq
        apply Wp.region
        refine WpL.v (V.fa tb) ?_
        refine WpL.v (V.ld1 tb) ?_
        refine WpL.v (V.cmp) ?_
        refine WpL.v (V.mv) ?_
        refine WpL.pt (fun hj4 => ?_) (fun hj4 => ?_)
        (try simp only [decide_eq_true_eq, decide_eq_false_iff_not, Bool.not_eq_true', Bool.not_eq_false', Bool.not_eq_true, Bool.not_eq_false, not_true_eq_false, not_false_eq_true, reduceCtorEq] at hj4)
        (exfalso; omega)
        (try simp only [decide_eq_true_eq, decide_eq_false_iff_not, Bool.not_eq_true', Bool.not_eq_false', Bool.not_eq_true, Bool.not_eq_false, not_true_eq_false, not_false_eq_true, reduceCtorEq] at hj4)
        refine WpL.sk ?_
        refine WpL.sk ?_
        refine WpL.sk ?_
        refine WpL.v (V.pF) ?_
        refine WpL.v (V.as) ?_
        apply WpL.nil
        apply Out.seqN
        refine Wp.cF ?_
        apply Wp.seq
        apply Wp.region
        refine WpL.v (V.mv) ?_
        refine WpL.v (V.not) ?_
        refine WpL.v (V.as) ?_
        apply WpL.nil
        apply Out.seqN
        refine Wp.c (fun hj5 => ?_) (fun hj5 => ?_)
        (try simp only [decide_eq_true_eq, decide_eq_false_iff_not, Bool.not_eq_true', Bool.not_eq_false', Bool.not_eq_true, Bool.not_eq_false, not_true_eq_false, not_false_eq_true, reduceCtorEq] at hj5)
        exact absurd (Eq.trans (Eq.symm hj5) (by assumption) : false = true) (by decide)
        (try simp only [decide_eq_true_eq, decide_eq_false_iff_not, Bool.not_eq_true', Bool.not_eq_false', Bool.not_eq_true, Bool.not_eq_false, not_true_eq_false, not_false_eq_true, reduceCtorEq] at hj5)
        apply Wp.seq
        apply Wp.region
        refine WpL.v (V.fa tb) ?_
        refine WpL.v (V.ld1 tb) ?_
        refine WpL.v (V.cmp) ?_
        refine WpL.v (V.as) ?_
        apply WpL.nil
        apply Out.seqN
        refine Wp.c (fun hj6 => ?_) (fun hj6 => ?_)
        (try simp only [decide_eq_true_eq, decide_eq_false_iff_not, Bool.not_eq_true', Bool.not_eq_false', Bool.not_eq_true, Bool.not_eq_false, not_true_eq_false, not_false_eq_true, reduceCtorEq] at hj6)
        (exfalso; omega)
        (try simp only [decide_eq_true_eq, decide_eq_false_iff_not, Bool.not_eq_true', Bool.not_eq_false', Bool.not_eq_true, Bool.not_eq_false, not_true_eq_false, not_false_eq_true, reduceCtorEq] at hj6)
        apply Wp.skip
        apply Out.blockN
        apply Out.seqN
        apply Wp.seq
        apply Wp.region
        refine WpL.v (V.fa tb) ?_
        refine WpL.v (V.ld1 tb) ?_
        refine WpL.v (V.fa tb) ?_
        refine WpL.v (V.ld1 tb) ?_
        refine WpL.v (V.bld tb) ?_
        refine WpL.o (O.stA tb ?_)
        apply WpL.nil
        apply Out.seqN
        apply Wp.ret
        refine Out.f1 rfl (ResIs.ca tb) ⟨?_, rfl⟩
        exact rfl
        refine O.al tb (fun p5 => ⟨?_, ?_, ?_⟩)
        exact holdT
        exact holdT
        refine WpA.oS 6 rfl (Op1.vv (Val.look2D (l := l) (k := d.Key) (vf := vP) RegistryPair.z kokS map72 zero52 rfl rfl (by (repeat first | exact List.Mem.head _ | apply List.Mem.tail))) ⟨?_, ?_, ?_⟩)
        exact holdT
        exact holdT
        refine WpA.tF 7 rfl (V.mv) ?_
        refine WpA.tF 8 rfl (V.ex) ?_
        refine WpA.tF 9 rfl (V.ex) ?_
        refine WpA.oS 11 rfl (O.stA tb ⟨?_, ?_, ?_⟩)
        exact holdT
        exact holdT
        refine WpA.tF 12 rfl (V.as) ?_
        refine WpA.ou ?_
        apply Out.seqN
        apply Wp.seq
        apply Wp.seq
        apply Wp.region
        refine WpL.v (V.fa tb) ?_
        refine WpL.v (V.ld1 tb) ?_
        apply WpL.nil
        apply Out.seqN
        apply Wp.block
        apply Wp.seq
        apply Wp.region
        refine WpL.v (V.cmp) ?_
        refine WpL.v (V.as) ?_
        apply WpL.nil
        apply Out.seqN
        refine Wp.c (fun hj7 => ?_) (fun hj7 => ?_)
        (try simp only [decide_eq_true_eq, decide_eq_false_iff_not, Bool.not_eq_true', Bool.not_eq_false', Bool.not_eq_true, Bool.not_eq_false, not_true_eq_false, not_false_eq_true, reduceCtorEq] at hj7)
        (exfalso; omega)
        (try simp only [decide_eq_true_eq, decide_eq_false_iff_not, Bool.not_eq_true', Bool.not_eq_false', Bool.not_eq_true, Bool.not_eq_false, not_true_eq_false, not_false_eq_true, reduceCtorEq] at hj7)
        apply Wp.seq
        apply Wp.region
        refine WpL.v (V.cmp) ?_
        refine WpL.v (V.as) ?_
        apply WpL.nil
        apply Out.seqN
        refine Wp.c (fun hj8 => ?_) (fun hj8 => ?_)
        (try simp only [decide_eq_true_eq, decide_eq_false_iff_not, Bool.not_eq_true', Bool.not_eq_false', Bool.not_eq_true, Bool.not_eq_false, not_true_eq_false, not_false_eq_true, reduceCtorEq] at hj8)
        (exfalso; omega)
        (try simp only [decide_eq_true_eq, decide_eq_false_iff_not, Bool.not_eq_true', Bool.not_eq_false', Bool.not_eq_true, Bool.not_eq_false, not_true_eq_false, not_false_eq_true, reduceCtorEq] at hj8)
        apply Wp.seq
        apply Wp.region
        refine WpL.v (V.cmp) ?_
        refine WpL.v (V.as) ?_
        apply WpL.nil
        apply Out.seqN
        refine Wp.c (fun hj9 => ?_) (fun hj9 => ?_)
        (try simp only [decide_eq_true_eq, decide_eq_false_iff_not, Bool.not_eq_true', Bool.not_eq_false', Bool.not_eq_true, Bool.not_eq_false, not_true_eq_false, not_false_eq_true, reduceCtorEq] at hj9)
        (exfalso; omega)
        (try simp only [decide_eq_true_eq, decide_eq_false_iff_not, Bool.not_eq_true', Bool.not_eq_false', Bool.not_eq_true, Bool.not_eq_false, not_true_eq_false, not_false_eq_true, reduceCtorEq] at hj9)
        apply Wp.seq
        apply Wp.region
        refine WpL.v (V.cmp) ?_
        refine WpL.v (V.as) ?_
        apply WpL.nil
        apply Out.seqN
        refine Wp.c (fun hj10 => ?_) (fun hj10 => ?_)
        (try simp only [decide_eq_true_eq, decide_eq_false_iff_not, Bool.not_eq_true', Bool.not_eq_false', Bool.not_eq_true, Bool.not_eq_false, not_true_eq_false, not_false_eq_true, reduceCtorEq] at hj10)
        (exfalso; omega)
        (try simp only [decide_eq_true_eq, decide_eq_false_iff_not, Bool.not_eq_true', Bool.not_eq_false', Bool.not_eq_true, Bool.not_eq_false, not_true_eq_false, not_false_eq_true, reduceCtorEq] at hj10)
        apply Wp.skip
        apply Out.blockN
        apply Out.seqN
        apply Wp.seq
        apply Wp.block
        apply Wp.seq
        apply Wp.region
        refine WpL.v (V.fa tb) ?_
        refine WpL.v (V.ld1 tb) ?_
        refine WpL.v (V.cmp) ?_
        refine WpL.v (V.mv) ?_
        refine WpL.pt (fun hj11 => ?_) (fun hj11 => ?_)
        (try simp only [decide_eq_true_eq, decide_eq_false_iff_not, Bool.not_eq_true', Bool.not_eq_false', Bool.not_eq_true, Bool.not_eq_false, not_true_eq_false, not_false_eq_true, reduceCtorEq] at hj11)
        (exfalso; omega)
        (try simp only [decide_eq_true_eq, decide_eq_false_iff_not, Bool.not_eq_true', Bool.not_eq_false', Bool.not_eq_true, Bool.not_eq_false, not_true_eq_false, not_false_eq_true, reduceCtorEq] at hj11)
        refine WpL.sk ?_
        refine WpL.sk ?_
        refine WpL.sk ?_
        refine WpL.v (V.pF) ?_
        refine WpL.v (V.as) ?_
        apply WpL.nil
        apply Out.seqN
        refine Wp.cF ?_
        apply Wp.seq
        apply Wp.region
        refine WpL.v (V.mv) ?_
        refine WpL.v (V.not) ?_
        refine WpL.v (V.as) ?_
        apply WpL.nil
        apply Out.seqN
        refine Wp.c (fun hj12 => ?_) (fun hj12 => ?_)
        (try simp only [decide_eq_true_eq, decide_eq_false_iff_not, Bool.not_eq_true', Bool.not_eq_false', Bool.not_eq_true, Bool.not_eq_false, not_true_eq_false, not_false_eq_true, reduceCtorEq] at hj12)
        exact absurd (Eq.trans (Eq.symm hj12) (by assumption) : false = true) (by decide)
        (try simp only [decide_eq_true_eq, decide_eq_false_iff_not, Bool.not_eq_true', Bool.not_eq_false', Bool.not_eq_true, Bool.not_eq_false, not_true_eq_false, not_false_eq_true, reduceCtorEq] at hj12)
        apply Wp.seq
        apply Wp.region
        refine WpL.v (V.fa tb) ?_
        refine WpL.v (V.ld1 tb) ?_
        refine WpL.v (V.cmp) ?_
        refine WpL.v (V.as) ?_
        apply WpL.nil
        apply Out.seqN
        refine Wp.c (fun hj13 => ?_) (fun hj13 => ?_)
        (try simp only [decide_eq_true_eq, decide_eq_false_iff_not, Bool.not_eq_true', Bool.not_eq_false', Bool.not_eq_true, Bool.not_eq_false, not_true_eq_false, not_false_eq_true, reduceCtorEq] at hj13)
        (exfalso; omega)
        (try simp only [decide_eq_true_eq, decide_eq_false_iff_not, Bool.not_eq_true', Bool.not_eq_false', Bool.not_eq_true, Bool.not_eq_false, not_true_eq_false, not_false_eq_true, reduceCtorEq] at hj13)
        apply Wp.skip
        apply Out.blockN
        apply Out.seqN
        apply Wp.seq
        apply Wp.region
        refine WpL.v (V.fa tb) ?_
        refine WpL.v (V.ld1 tb) ?_
        refine WpL.v (V.fa tb) ?_
        refine WpL.v (V.ld1 tb) ?_
        refine WpL.v (V.bld tb) ?_
        refine WpL.o (O.stA tb ?_)
        apply WpL.nil
        apply Out.seqN
        apply Wp.ret
        refine Out.f1 rfl (ResIs.ca tb) ⟨?_, rfl⟩
        exact rfl
  · rw [if_neg k14]
    refine Ct.enter Try.func15 rfl rfl fun W => ?_
    apply Wp.seq
    apply Wp.region
    refine WpL.o (O.bxA (fun p3 => ?_))
    refine WpL.o (O.al tb (fun p4 => ?_))
    apply WpL.nil
    apply Out.seqN
    apply Wp.seq
    apply Wp.seq
    apply Wp.region
    refine WpL.v (V.mv) ?_
    refine WpL.v (V.eqP) ?_
    apply WpL.nil
    apply Out.seqN
    refine Wp.cF ?_
    apply Wp.skip
    apply Out.seqN
    apply Wp.seq
    refine Wp.dG [] ?_ (List.Sublist.cons _ (List.Sublist.cons_cons _ (List.Sublist.cons_cons _ (List.Sublist.cons _ List.Sublist.slnil)))) (List.Sublist.cons _ (List.Sublist.cons_cons _ (List.Sublist.cons_cons _ (List.Sublist.cons _ List.Sublist.slnil))))
    refine WpA.tF 0 rfl (V.mv) ?_
    refine WpA.tF 1 rfl (V.nc) ?_
    refine WpA.tF 2 rfl (V.fa tb) ?_
    refine WpA.tF 3 rfl (V.ld1 tb) ?_
    refine WpA.tF 4 rfl (V.fa tb) ?_
    refine WpA.tF 5 rfl (V.ld1 tb) ?_
    refine WpA.e2 6 10 rfl rfl ?_ ?_
    refine Op1.vv (Val.look2D (l := l) (k := d.Key) (vf := vP) RegistryPair.z kokS map72 zero52 rfl rfl (by (repeat first | exact List.Mem.head _ | apply List.Mem.tail))) ⟨?_, ?_, ?_⟩
    exact holdT
    exact holdT
    refine WpA.tF 7 rfl (V.mv) ?_
    refine WpA.tF 8 rfl (V.ex) ?_
    refine WpA.tF 9 rfl (V.ex) ?_
    refine WpA.oS 10 rfl (O.al tb (fun p5 => ⟨?_, ?_, ?_⟩))
    exact holdT
    exact holdT
    refine WpA.oS 11 rfl (O.stA tb ⟨?_, ?_, ?_⟩)
    exact holdT
    exact holdT
    refine WpA.tF 12 rfl (V.as) ?_
    refine WpA.ou ?_
    apply Out.seqN
    apply Wp.seq
    apply Wp.seq
    apply Wp.region
    refine WpL.v (V.fa tb) ?_
    refine WpL.v (V.ld1 tb) ?_
    apply WpL.nil
    apply Out.seqN
    apply Wp.block
    apply Wp.seq
    apply Wp.region
    refine WpL.v (V.cmp) ?_
    refine WpL.v (V.as) ?_
    apply WpL.nil
    apply Out.seqN
    refine Wp.c (fun hk0 => ?_) (fun hk0 => ?_)
    (try simp only [decide_eq_true_eq, decide_eq_false_iff_not, Bool.not_eq_true', Bool.not_eq_false', Bool.not_eq_true, Bool.not_eq_false, not_true_eq_false, not_false_eq_true, reduceCtorEq] at hk0)
    (exfalso; omega)
    (try simp only [decide_eq_true_eq, decide_eq_false_iff_not, Bool.not_eq_true', Bool.not_eq_false', Bool.not_eq_true, Bool.not_eq_false, not_true_eq_false, not_false_eq_true, reduceCtorEq] at hk0)
    apply Wp.seq
    apply Wp.region
    refine WpL.v (V.cmp) ?_
    refine WpL.v (V.as) ?_
    apply WpL.nil
    apply Out.seqN
    refine Wp.c (fun hk1 => ?_) (fun hk1 => ?_)
    (try simp only [decide_eq_true_eq, decide_eq_false_iff_not, Bool.not_eq_true', Bool.not_eq_false', Bool.not_eq_true, Bool.not_eq_false, not_true_eq_false, not_false_eq_true, reduceCtorEq] at hk1)
    (exfalso; omega)
    (try simp only [decide_eq_true_eq, decide_eq_false_iff_not, Bool.not_eq_true', Bool.not_eq_false', Bool.not_eq_true, Bool.not_eq_false, not_true_eq_false, not_false_eq_true, reduceCtorEq] at hk1)
    apply Wp.seq
    apply Wp.region
    refine WpL.v (V.cmp) ?_
    refine WpL.v (V.as) ?_
    apply WpL.nil
    apply Out.seqN
    refine Wp.c (fun hk2 => ?_) (fun hk2 => ?_)
    (try simp only [decide_eq_true_eq, decide_eq_false_iff_not, Bool.not_eq_true', Bool.not_eq_false', Bool.not_eq_true, Bool.not_eq_false, not_true_eq_false, not_false_eq_true, reduceCtorEq] at hk2)
    (exfalso; omega)
    (try simp only [decide_eq_true_eq, decide_eq_false_iff_not, Bool.not_eq_true', Bool.not_eq_false', Bool.not_eq_true, Bool.not_eq_false, not_true_eq_false, not_false_eq_true, reduceCtorEq] at hk2)
    apply Wp.seq
    apply Wp.region
    refine WpL.v (V.cmp) ?_
    refine WpL.v (V.as) ?_
    apply WpL.nil
    apply Out.seqN
    refine Wp.c (fun hk3 => ?_) (fun hk3 => ?_)
    (try simp only [decide_eq_true_eq, decide_eq_false_iff_not, Bool.not_eq_true', Bool.not_eq_false', Bool.not_eq_true, Bool.not_eq_false, not_true_eq_false, not_false_eq_true, reduceCtorEq] at hk3)
    (exfalso; omega)
    (try simp only [decide_eq_true_eq, decide_eq_false_iff_not, Bool.not_eq_true', Bool.not_eq_false', Bool.not_eq_true, Bool.not_eq_false, not_true_eq_false, not_false_eq_true, reduceCtorEq] at hk3)
    apply Wp.skip
    apply Out.blockN
    apply Out.seqN
    apply Wp.seq
    apply Wp.block
    apply Wp.seq
    apply Wp.region
    refine WpL.v (V.fa tb) ?_
    refine WpL.v (V.ld1 tb) ?_
    refine WpL.v (V.cmp) ?_
    refine WpL.v (V.mv) ?_
    refine WpL.pt (fun hk4 => ?_) (fun hk4 => ?_)
    (try simp only [decide_eq_true_eq, decide_eq_false_iff_not, Bool.not_eq_true', Bool.not_eq_false', Bool.not_eq_true, Bool.not_eq_false, not_true_eq_false, not_false_eq_true, reduceCtorEq] at hk4)
    refine WpL.v (V.fa tb) ?_
    refine WpL.v (V.ld1 tb) ?_
    refine WpL.v (V.cmp) ?_
    refine WpL.v (V.pT) ?_
    refine WpL.v (V.as) ?_
    apply WpL.nil
    apply Out.seqN
    refine Wp.c (fun hk5 => ?_) (fun hk5 => ?_)
    (try simp only [decide_eq_true_eq, decide_eq_false_iff_not, Bool.not_eq_true', Bool.not_eq_false', Bool.not_eq_true, Bool.not_eq_false, not_true_eq_false, not_false_eq_true, reduceCtorEq] at hk5)
    apply Wp.seq
    apply Wp.region
    refine WpL.v (V.bld tb) ?_
    refine WpL.o (O.stA tb ?_)
    apply WpL.nil
    apply Out.seqN
    apply Wp.ret
    apply Out.blockR
    apply Out.seqR
    refine Out.f1 rfl (ResIs.ca tb) ⟨?_, rfl⟩
    exact rfl
    (try simp only [decide_eq_true_eq, decide_eq_false_iff_not, Bool.not_eq_true', Bool.not_eq_false', Bool.not_eq_true, Bool.not_eq_false, not_true_eq_false, not_false_eq_true, reduceCtorEq] at hk5)
    (exfalso; omega)
    (try simp only [decide_eq_true_eq, decide_eq_false_iff_not, Bool.not_eq_true', Bool.not_eq_false', Bool.not_eq_true, Bool.not_eq_false, not_true_eq_false, not_false_eq_true, reduceCtorEq] at hk4)
    (exfalso; omega)
    refine O.al tb (fun p5 => ⟨?_, ?_, ?_⟩)
    exact holdT
    exact holdT
    refine WpA.oS 6 rfl (Op1.vv (Val.look2D (l := l) (k := d.Key) (vf := vP) RegistryPair.z kokS map72 zero52 rfl rfl (by (repeat first | exact List.Mem.head _ | apply List.Mem.tail))) ⟨?_, ?_, ?_⟩)
    exact holdT
    exact holdT
    refine WpA.tF 7 rfl (V.mv) ?_
    refine WpA.tF 8 rfl (V.ex) ?_
    refine WpA.tF 9 rfl (V.ex) ?_
    refine WpA.oS 11 rfl (O.stA tb ⟨?_, ?_, ?_⟩)
    exact holdT
    exact holdT
    refine WpA.tF 12 rfl (V.as) ?_
    refine WpA.ou ?_
    apply Out.seqN
    apply Wp.seq
    apply Wp.seq
    apply Wp.region
    refine WpL.v (V.fa tb) ?_
    refine WpL.v (V.ld1 tb) ?_
    apply WpL.nil
    apply Out.seqN
    apply Wp.block
    apply Wp.seq
    apply Wp.region
    refine WpL.v (V.cmp) ?_
    refine WpL.v (V.as) ?_
    apply WpL.nil
    apply Out.seqN
    refine Wp.c (fun hk6 => ?_) (fun hk6 => ?_)
    (try simp only [decide_eq_true_eq, decide_eq_false_iff_not, Bool.not_eq_true', Bool.not_eq_false', Bool.not_eq_true, Bool.not_eq_false, not_true_eq_false, not_false_eq_true, reduceCtorEq] at hk6)
    (exfalso; omega)
    (try simp only [decide_eq_true_eq, decide_eq_false_iff_not, Bool.not_eq_true', Bool.not_eq_false', Bool.not_eq_true, Bool.not_eq_false, not_true_eq_false, not_false_eq_true, reduceCtorEq] at hk6)
    apply Wp.seq
    apply Wp.region
    refine WpL.v (V.cmp) ?_
    refine WpL.v (V.as) ?_
    apply WpL.nil
    apply Out.seqN
    refine Wp.c (fun hk7 => ?_) (fun hk7 => ?_)
    (try simp only [decide_eq_true_eq, decide_eq_false_iff_not, Bool.not_eq_true', Bool.not_eq_false', Bool.not_eq_true, Bool.not_eq_false, not_true_eq_false, not_false_eq_true, reduceCtorEq] at hk7)
    (exfalso; omega)
    (try simp only [decide_eq_true_eq, decide_eq_false_iff_not, Bool.not_eq_true', Bool.not_eq_false', Bool.not_eq_true, Bool.not_eq_false, not_true_eq_false, not_false_eq_true, reduceCtorEq] at hk7)
    apply Wp.seq
    apply Wp.region
    refine WpL.v (V.cmp) ?_
    refine WpL.v (V.as) ?_
    apply WpL.nil
    apply Out.seqN
    refine Wp.c (fun hk8 => ?_) (fun hk8 => ?_)
    (try simp only [decide_eq_true_eq, decide_eq_false_iff_not, Bool.not_eq_true', Bool.not_eq_false', Bool.not_eq_true, Bool.not_eq_false, not_true_eq_false, not_false_eq_true, reduceCtorEq] at hk8)
    (exfalso; omega)
    (try simp only [decide_eq_true_eq, decide_eq_false_iff_not, Bool.not_eq_true', Bool.not_eq_false', Bool.not_eq_true, Bool.not_eq_false, not_true_eq_false, not_false_eq_true, reduceCtorEq] at hk8)
    apply Wp.seq
    apply Wp.region
    refine WpL.v (V.cmp) ?_
    refine WpL.v (V.as) ?_
    apply WpL.nil
    apply Out.seqN
    refine Wp.c (fun hk9 => ?_) (fun hk9 => ?_)
    (try simp only [decide_eq_true_eq, decide_eq_false_iff_not, Bool.not_eq_true', Bool.not_eq_false', Bool.not_eq_true, Bool.not_eq_false, not_true_eq_false, not_false_eq_true, reduceCtorEq] at hk9)
    (exfalso; omega)
    (try simp only [decide_eq_true_eq, decide_eq_false_iff_not, Bool.not_eq_true', Bool.not_eq_false', Bool.not_eq_true, Bool.not_eq_false, not_true_eq_false, not_false_eq_true, reduceCtorEq] at hk9)
    apply Wp.skip
    apply Out.blockN
    apply Out.seqN
    apply Wp.seq
    apply Wp.block
    apply Wp.seq
    apply Wp.region
    refine WpL.v (V.fa tb) ?_
    refine WpL.v (V.ld1 tb) ?_
    refine WpL.v (V.cmp) ?_
    refine WpL.v (V.mv) ?_
    refine WpL.pt (fun hk10 => ?_) (fun hk10 => ?_)
    (try simp only [decide_eq_true_eq, decide_eq_false_iff_not, Bool.not_eq_true', Bool.not_eq_false', Bool.not_eq_true, Bool.not_eq_false, not_true_eq_false, not_false_eq_true, reduceCtorEq] at hk10)
    refine WpL.v (V.fa tb) ?_
    refine WpL.v (V.ld1 tb) ?_
    refine WpL.v (V.cmp) ?_
    refine WpL.v (V.pT) ?_
    refine WpL.v (V.as) ?_
    apply WpL.nil
    apply Out.seqN
    refine Wp.c (fun hk11 => ?_) (fun hk11 => ?_)
    (try simp only [decide_eq_true_eq, decide_eq_false_iff_not, Bool.not_eq_true', Bool.not_eq_false', Bool.not_eq_true, Bool.not_eq_false, not_true_eq_false, not_false_eq_true, reduceCtorEq] at hk11)
    apply Wp.seq
    apply Wp.region
    refine WpL.v (V.bld tb) ?_
    refine WpL.o (O.stA tb ?_)
    apply WpL.nil
    apply Out.seqN
    apply Wp.ret
    apply Out.blockR
    apply Out.seqR
    refine Out.f1 rfl (ResIs.ca tb) ⟨?_, rfl⟩
    exact rfl
    (try simp only [decide_eq_true_eq, decide_eq_false_iff_not, Bool.not_eq_true', Bool.not_eq_false', Bool.not_eq_true, Bool.not_eq_false, not_true_eq_false, not_false_eq_true, reduceCtorEq] at hk11)
    (exfalso; omega)
    (try simp only [decide_eq_true_eq, decide_eq_false_iff_not, Bool.not_eq_true', Bool.not_eq_false', Bool.not_eq_true, Bool.not_eq_false, not_true_eq_false, not_false_eq_true, reduceCtorEq] at hk10)
    (exfalso; omega)
end Go.Proofs.Ytgihkocnmgkihaa
