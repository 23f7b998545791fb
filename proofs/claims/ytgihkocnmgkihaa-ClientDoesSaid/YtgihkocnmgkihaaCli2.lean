/-
  Layer 21: the client's machine: its functions.
-/
import Derived.Test.YtgihkocnmgkihaaCli
namespace Go.HL
open Go
section
variable {P : Program} {n : Fm} {env : Env} {σ : List Ent} {dst : Nat} {ty : TypeId} {pos : String} {af : Array Edge} {gd : Option (Nat × Bool)} {α β : Type} [DecidableEq α] {kf : α → Value} {vf : β → Value} {kt : TypeId} {l : List (α × β)}
/-- m[k], told as one wants it. -/
theorem Val.lookE {t e : TypeId} {x y : Operand} {b : Nat} {k : α} (z0 : β) {v0 : β} (hv : (mget l k).getD z0 = v0) (hK : KeyOk P kt kf) (ht : mapTB P t kt e = true) (hz : ∀ w, (zeroValue e).run P w = .ok (vf z0) w)
    (hx : ev env x = some (.map (some b))) (hy : ev env y = some (kf k)) (hm : mapK kf vf b l ∈ σ) : Val P n env σ ⟨some dst, .lookup t x y false, ty, pos, af, gd⟩ (vf v0) := by
  have h := Val.lookD (P := P) (n := n) (env := env) (σ := σ) (dst := dst) (ty := ty) (pos := pos) (af := af) (gd := gd) (l := l) (k := k) z0 hK ht hz hx hy hm
  rwa [hv] at h
end
end Go.HL
namespace Go.Proofs.Ytgihkocnmgkihaa
open Go.HL
set_option linter.unusedSimpArgs false
set_option linter.unusedVariables false
set_option maxRecDepth 8000
theorem client_new : Ct Try.prog 30 [] [] (fun r σ' => ∃ b rb rm sm, r = Ptr b 0 ∧ σ' = [cells b 96 (ClientMachine.c ⟨Ptr rb 0, .map (some sm), 0⟩), cells rb 74 (RegistryRegistry.c ⟨.map (some rm)⟩), mE rm [], mS sm []]) := by
  have hN := reg_new
  unfold rgE at hN
  refine Ct.enter Try.func30 rfl rfl fun W => ?_
  apply Wp.seq
  apply Wp.region
  refine WpL.v (V.as) ?_
  apply WpL.nil
  apply Out.seqN
  apply Wp.seq
  apply Wp.region
  refine WpL.o (Op1.callT rfl (hN) (by (repeat (first | exact Sel.nil | exact Rem.here | apply Sel.cons | apply Rem.there))) ?_)
  rintro v0 s1 ⟨b1, ⟨m1, ⟨rfl, rfl⟩⟩⟩
  refine incat ?_
  refine WpL.o (Op1.mkMap kI vL rfl (fun p2 => ?_))
  refine WpL.v (V.bld tb) ?_
  refine WpL.o (O.bxA (fun p4 => ?_))
  refine WpL.v (V.as) ?_
  apply WpL.nil
  apply Out.seqN
  apply Wp.ret
  refine Out.e1 rfl ResIs.t ?_
  focus (exact ⟨_, _, ⟨_, _, _, _, rfl, rfl⟩, (by (repeat (first | exact Sel.nil | exact Rem.here | apply Sel.cons | apply Rem.there)))⟩; done)
theorem client_count (b : Nat) (rg ss : Go.Value) (cnt : Int) : Ct Try.prog 32 [Ptr b 0] [cells b 96 (ClientMachine.c ⟨rg, ss, cnt⟩)] (fun r σ' => r = I cnt ∧ σ' = [cells b 96 (ClientMachine.c ⟨rg, ss, cnt⟩)]) := by
  refine Ct.enter Try.func32 rfl rfl fun W => ?_
  apply Wp.seq
  apply Wp.region
  refine WpL.v (V.as) ?_
  apply WpL.nil
  apply Out.seqN
  apply Wp.seq
  apply Wp.seq
  apply Wp.region
  refine WpL.v (V.mv) ?_
  refine WpL.v (V.eqP) ?_
  apply WpL.nil
  apply Out.seqN
  refine Wp.cF ?_
  apply Wp.skip
  apply Out.seqN
  apply Wp.seq
  apply Wp.region
  refine WpL.v (V.mv) ?_
  refine WpL.v (V.nc) ?_
  refine WpL.v (V.fa tb) ?_
  refine WpL.v (V.ld1 tb) ?_
  refine WpL.v (V.as) ?_
  apply WpL.nil
  apply Out.seqN
  apply Wp.ret
  refine Out.f1 rfl ResIs.t ⟨?_, rfl⟩
  exact rfl
theorem client_registry (b : Nat) (rg ss : Go.Value) (cnt : Int) : Ct Try.prog 33 [Ptr b 0] [cells b 96 (ClientMachine.c ⟨rg, ss, cnt⟩)] (fun r σ' => r = rg ∧ σ' = [cells b 96 (ClientMachine.c ⟨rg, ss, cnt⟩)]) := by
  refine Ct.enter Try.func33 rfl rfl fun W => ?_
  apply Wp.seq
  apply Wp.region
  refine WpL.v (V.as) ?_
  apply WpL.nil
  apply Out.seqN
  apply Wp.seq
  apply Wp.seq
  apply Wp.region
  refine WpL.v (V.mv) ?_
  refine WpL.v (V.eqP) ?_
  apply WpL.nil
  apply Out.seqN
  refine Wp.cF ?_
  apply Wp.skip
  apply Out.seqN
  apply Wp.seq
  apply Wp.region
  refine WpL.v (V.mv) ?_
  refine WpL.v (V.nc) ?_
  refine WpL.v (V.fa tb) ?_
  refine WpL.v (V.ld1 tb) ?_
  refine WpL.v (V.as) ?_
  apply WpL.nil
  apply Out.seqN
  apply Wp.ret
  refine Out.f1 rfl ResIs.t ⟨?_, rfl⟩
  exact rfl
theorem client_last (b m : Nat) (rg : Go.Value) (cnt : Int) (sl : SM) (k : Int) : Ct Try.prog 34 [Ptr b 0, I k] [cells b 96 (ClientMachine.c ⟨rg, .map (some m), cnt⟩), mS m sl] (fun r σ' => r = I (lookS sl k).num ∧ σ' = [cells b 96 (ClientMachine.c ⟨rg, .map (some m), cnt⟩), mS m sl]) := by
  refine Ct.enter Try.func34 rfl rfl fun W => ?_
  apply Wp.seq
  apply Wp.region
  refine WpL.v (V.as) ?_
  apply WpL.nil
  apply Out.seqN
  apply Wp.seq
  apply Wp.seq
  apply Wp.region
  refine WpL.v (V.mv) ?_
  refine WpL.v (V.eqP) ?_
  apply WpL.nil
  apply Out.seqN
  refine Wp.cF ?_
  apply Wp.skip
  apply Out.seqN
  apply Wp.seq
  apply Wp.region
  refine WpL.v (V.mv) ?_
  refine WpL.v (V.nc) ?_
  refine WpL.v (V.fa tb) ?_
  refine WpL.v (V.ld1 tb) ?_
  refine WpL.v (V.mv) ?_
  refine WpL.v (Val.lookD (l := sl) (k := k) (vf := vL) LV.z kokI map94 zero98 rfl rfl (by (repeat first | exact List.Mem.head _ | apply List.Mem.tail))) ?_
  refine WpL.v (V.fld1 tb (off := 0) (T := 3) rfl rfl (Reads.one (tb.oneAt (T := 3) rfl) rfl)) ?_
  refine WpL.v (V.as) ?_
  apply WpL.nil
  apply Out.seqN
  apply Wp.ret
  refine Out.f1 rfl ResIs.t ⟨?_, rfl⟩
  exact rfl
theorem client_nil (d : TDeed) : Fun Try.prog 31 [.pointer none, A d.c] (A (RegistryReply.c ⟨2, [], 0, .slice none 0 0⟩)) := by
  refine Ct.enter Try.func31 rfl rfl fun W => ?_
  apply Wp.seq
  apply Wp.region
  refine WpL.o (O.bxA (fun p3 => ?_))
  refine WpL.o (O.al tb (fun p4 => ?_))
  apply WpL.nil
  apply Out.seqN
  apply Wp.seq
  apply Wp.block
  apply Wp.seq
  apply Wp.region
  refine WpL.v (V.mv) ?_
  refine WpL.v (V.eqN) ?_
  refine WpL.v (V.as) ?_
  apply WpL.nil
  apply Out.seqN
  refine Wp.cT ?_
  apply Wp.seq
  apply Wp.region
  refine WpL.v (V.bld tb) ?_
  refine WpL.o (O.stA tb ?_)
  apply WpL.nil
  apply Out.seqN
  apply Wp.ret
  apply Out.blockR
  apply Out.seqR
  refine Out.f1 rfl (ResIs.ca tb) ⟨?_, rfl⟩
  exact rfl
theorem client_count_nil : Fun Try.prog 32 [.pointer none] (I 0) := by
  refine Ct.enter Try.func32 rfl rfl fun W => ?_
  apply Wp.seq
  apply Wp.region
  refine WpL.v (V.as) ?_
  apply WpL.nil
  apply Out.seqN
  apply Wp.seq
  apply Wp.seq
  apply Wp.region
  refine WpL.v (V.mv) ?_
  refine WpL.v (V.eqN) ?_
  apply WpL.nil
  apply Out.seqN
  refine Wp.cT ?_
  apply Wp.seq
  apply Wp.region
  refine WpL.v (V.as) ?_
  apply WpL.nil
  apply Out.seqN
  apply Wp.ret
  apply Out.seqR
  refine Out.f1 rfl ResIs.t ⟨?_, rfl⟩
  exact rfl
theorem client_registry_nil : Fun Try.prog 33 [.pointer none] (.pointer none) := by
  refine Ct.enter Try.func33 rfl rfl fun W => ?_
  apply Wp.seq
  apply Wp.region
  refine WpL.v (V.as) ?_
  apply WpL.nil
  apply Out.seqN
  apply Wp.seq
  apply Wp.seq
  apply Wp.region
  refine WpL.v (V.mv) ?_
  refine WpL.v (V.eqN) ?_
  apply WpL.nil
  apply Out.seqN
  refine Wp.cT ?_
  apply Wp.seq
  apply Wp.region
  refine WpL.v (V.as) ?_
  apply WpL.nil
  apply Out.seqN
  apply Wp.ret
  apply Out.seqR
  refine Out.f1 rfl ResIs.t ⟨?_, rfl⟩
  exact rfl
theorem client_last_nil (k : Int) : Fun Try.prog 34 [.pointer none, I k] (I 0) := by
  refine Ct.enter Try.func34 rfl rfl fun W => ?_
  apply Wp.seq
  apply Wp.region
  refine WpL.v (V.as) ?_
  apply WpL.nil
  apply Out.seqN
  apply Wp.seq
  apply Wp.seq
  apply Wp.region
  refine WpL.v (V.mv) ?_
  refine WpL.v (V.eqN) ?_
  apply WpL.nil
  apply Out.seqN
  refine Wp.cT ?_
  apply Wp.seq
  apply Wp.region
  refine WpL.v (V.as) ?_
  apply WpL.nil
  apply Out.seqN
  apply Wp.ret
  apply Out.seqR
  refine Out.f1 rfl ResIs.t ⟨?_, rfl⟩
  exact rfl
theorem HI.form {ss : SSL} {sl : SM} {g : GB} (hh : HI ss sl g) (k : Int) {W : Go.World} {D : List Nat} {σ : List Ent} (hg : gE g ∈ σ) : ∀ w, H W D σ w → ∃ ao len cap, (lookS sl k).kv = .slice ao len cap ∧ KR (gE g) (lookS sl k).kv (lookS sl k).keys ∧ ((lookS sl k).keys = [] → (lookS sl k).kv = .slice none 0 0) := fun w hw => by
  unfold lookS
  cases hm : mget sl k with
  | none => exact ⟨none, 0, 0, rfl, ⟨none, 0, 0, 0, rfl, Rd.nil⟩, fun _ => rfl⟩
  | some x =>
    have h1 := hh.mem k x hm
    have h2 := KR.of_bag h1.1 hg w hw
    have h3 := h2
    obtain ⟨ao, cap, b, off, e, _⟩ := h3
    exact ⟨ao, _, cap, e, h2, h1.2⟩
set_option maxHeartbeats 8000000 in
theorem client_do (b rb rm sm : Nat) (n : Nat) (s : CS) (sl : SM) (g : GB) (d : TDeed) (hi : CI n s) (hh : HI s.ss sl g) (hn : n ≤ 10000) :
    Ct Try.prog 31 [Ptr b 0, A d.c] (cmE b rb rm sm s.l sl g s.cnt) (fun r σ' => ∃ ao len cap sl' g', HI (doC s d).2.ss sl' g' ∧ r = A ((doC s d).1.c (.slice ao len cap)) ∧ σ' = rows strc (.slice ao len cap) 9 1 (doC s d).1.keys :: cmE b rb rm sm (doC s d).2.l sl' g' (doC s d).2.cnt) := by
  have hG := deed_good d
  have hA := reg_any2 rb rm n s.l d hi.reg hn
  have hcn := hi.cnt
  have hlk := hh.look s.l s.cnt d.Session
  unfold doC
  cases hg : goodD d with
  | false =>
    rw [if_pos rfl]
    rw [hg] at hG
    unfold cmE RV.c
    refine Ct.enter Try.func31 rfl rfl fun W => ?_
    refine Wp.nilRows strc 9 1 ?_
    apply Wp.seq
    apply Wp.region
    refine WpL.o (O.bxA (fun p3 => ?_))
    refine WpL.o (O.al tb (fun p4 => ?_))
    apply WpL.nil
    apply Out.seqN
    apply Wp.seq
    apply Wp.block
    apply Wp.seq
    apply Wp.region
    refine WpL.v (V.mv) ?_
    refine WpL.v (V.eqP) ?_
    refine WpL.v (V.as) ?_
    apply WpL.nil
    apply Out.seqN
    refine Wp.cF ?_
    apply Wp.seq
    apply Wp.region
    refine WpL.v (V.ldA tb) ?_
    refine WpL.o (Op1.fn rfl (hG) ?_)
    refine WpL.v (V.not) ?_
    refine WpL.v (V.as) ?_
    apply WpL.nil
    apply Out.seqN
    refine Wp.cT ?_
    apply Wp.seq
    apply Wp.region
    refine WpL.v (V.bld tb) ?_
    refine WpL.o (O.stA tb ?_)
    apply WpL.nil
    apply Out.seqN
    apply Wp.ret
    apply Out.blockR
    apply Out.seqR
    refine Out.e1 rfl (ResIs.ca tb) ?_
    focus (exact ⟨_, _, ⟨none, 0, 0, sl, g, hh, rfl, rfl⟩, (by (repeat (first | exact Sel.nil | exact Rem.here | apply Sel.cons | apply Rem.there)))⟩; done)
  | true =>
    rw [if_neg (by decide)]
    rw [hg] at hG
    by_cases hs : d.Session = 0
    · rw [if_pos hs]
      generalize doA s.l d = y at *
      unfold mE at hA
      unfold cmE RV.c DR.rv mE
      refine Ct.enter Try.func31 rfl rfl fun W => ?_
      apply Wp.seq
      apply Wp.region
      refine WpL.o (O.bxA (fun p3 => ?_))
      refine WpL.o (O.al tb (fun p4 => ?_))
      apply WpL.nil
      apply Out.seqN
      apply Wp.seq
      apply Wp.block
      apply Wp.seq
      apply Wp.region
      refine WpL.v (V.mv) ?_
      refine WpL.v (V.eqP) ?_
      refine WpL.v (V.as) ?_
      apply WpL.nil
      apply Out.seqN
      refine Wp.cF ?_
      apply Wp.seq
      apply Wp.region
      refine WpL.v (V.ldA tb) ?_
      refine WpL.o (Op1.fn rfl (hG) ?_)
      refine WpL.v (V.not) ?_
      refine WpL.v (V.as) ?_
      apply WpL.nil
      apply Out.seqN
      refine Wp.cF ?_
      apply Wp.seq
      apply Wp.region
      refine WpL.v (V.fa tb) ?_
      refine WpL.v (V.ld1 tb) ?_
      refine WpL.v (V.cmp) ?_
      refine WpL.v (V.as) ?_
      apply WpL.nil
      apply Out.seqN
      refine Wp.c (fun h0 => ?_) (fun h0 => ?_)
      (try simp only [decide_eq_true_eq, decide_eq_false_iff_not, Bool.not_eq_true', Bool.not_eq_false', Bool.not_eq_true, Bool.not_eq_false, not_true_eq_false, not_false_eq_true, reduceCtorEq] at h0)
      apply Wp.seq
      apply Wp.region
      refine WpL.v (V.mv) ?_
      refine WpL.v (V.nc) ?_
      refine WpL.v (V.fa tb) ?_
      refine WpL.v (V.ld1 tb) ?_
      refine WpL.v (V.add) ?_
      refine WpL.v (V.nc) ?_
      refine WpL.v (V.fa tb) ?_
      refine WpL.o (O.st1 tb ?_)
      apply WpL.nil
      apply Out.seqN
      apply Wp.seq
      refine Wp.dG [] ?_ (List.Sublist.cons _ (List.Sublist.cons_cons _ (List.Sublist.cons_cons _ (List.Sublist.cons _ (List.Sublist.cons _ (List.Sublist.cons _ (List.Sublist.cons _ List.Sublist.slnil))))))) (List.Sublist.cons _ (List.Sublist.cons_cons _ (List.Sublist.cons_cons _ (List.Sublist.cons _ (List.Sublist.cons _ (List.Sublist.cons _ (List.Sublist.cons _ List.Sublist.slnil)))))))
      refine WpA.tF 0 rfl (V.mv) ?_
      refine WpA.tF 1 rfl (V.nc) ?_
      refine WpA.tF 2 rfl (V.fa tb) ?_
      refine WpA.tF 3 rfl (V.ld1 tb) ?_
      refine WpA.tF 4 rfl (V.ldA tb) ?_
      refine WpA.oS 5 rfl (Op1.callT rfl (hA) (by (repeat (first | exact Sel.nil | exact Rem.here | apply Sel.cons | apply Rem.there))) ?_)
      rintro v2 s3 ⟨ao32, ⟨len32, ⟨cap32, ⟨hx1, ⟨rfl, rfl⟩⟩⟩⟩⟩
      refine incat ⟨?_, ?_, ?_⟩
      exact holdT
      exact holdT
      refine WpA.oS 6 rfl (O.stA tb ⟨?_, ?_, ?_⟩)
      exact holdT
      exact holdT
      refine WpA.ou ?_
      apply Out.seqN
      apply Wp.ret
      apply Out.blockR
      apply Out.seqR
      refine Out.e1 rfl (ResIs.ca tb) ?_
      focus (exact ⟨_, _, ⟨_, _, _, sl, g, hh, rfl, rfl⟩, (by (repeat (first | exact Sel.nil | exact Rem.here | apply Sel.cons | apply Rem.there)))⟩; done)
      (try simp only [decide_eq_true_eq, decide_eq_false_iff_not, Bool.not_eq_true', Bool.not_eq_false', Bool.not_eq_true, Bool.not_eq_false, not_true_eq_false, not_false_eq_true, reduceCtorEq] at h0)
      (exfalso; omega)
    · rw [if_neg hs]
      obtain ⟨⟨num0, err0, val0, ver0, keys0, kv0⟩, hx0⟩ : ∃ x, (mget sl d.Session).getD LV.z = x := ⟨_, rfl⟩
      have hx0' : lookS sl d.Session = ⟨num0, err0, val0, ver0, keys0, kv0⟩ := hx0
      have hform {W : Go.World} {D : List Nat} {σ : List Ent} (hg : gE g ∈ σ) : ∀ w, H W D σ w → ∃ ao len cap, kv0 = .slice ao len cap ∧ KR (gE g) kv0 keys0 ∧ (keys0 = [] → kv0 = .slice none 0 0) := fun w hw => by
        have := hh.form d.Session hg w hw
        rw [hx0'] at this
        exact this
      rw [hx0'] at hlk
      rw [show s.get d.Session = (num0, (⟨err0, val0, ver0, keys0⟩ : RV)) from hlk.symm]
      by_cases h1 : d.Number < num0
      · simp only [if_pos h1]
        unfold cmE RV.c
        refine Ct.enter Try.func31 rfl rfl fun W => ?_
        refine Wp.fact (hform (by repeat first | exact List.Mem.head _ | apply List.Mem.tail)) fun hfm => ?_
        obtain ⟨ao0, len0, cap0, rfl, hKR, hx3⟩ := hfm
        refine Wp.nilRows strc 9 1 ?_
        apply Wp.seq
        apply Wp.region
        refine WpL.o (O.bxA (fun p3 => ?_))
        refine WpL.o (O.al tb (fun p4 => ?_))
        apply WpL.nil
        apply Out.seqN
        apply Wp.seq
        apply Wp.block
        apply Wp.seq
        apply Wp.region
        refine WpL.v (V.mv) ?_
        refine WpL.v (V.eqP) ?_
        refine WpL.v (V.as) ?_
        apply WpL.nil
        apply Out.seqN
        refine Wp.cF ?_
        apply Wp.seq
        apply Wp.region
        refine WpL.v (V.ldA tb) ?_
        refine WpL.o (Op1.fn rfl (hG) ?_)
        refine WpL.v (V.not) ?_
        refine WpL.v (V.as) ?_
        apply WpL.nil
        apply Out.seqN
        refine Wp.cF ?_
        apply Wp.seq
        apply Wp.region
        refine WpL.v (V.fa tb) ?_
        refine WpL.v (V.ld1 tb) ?_
        refine WpL.v (V.cmp) ?_
        refine WpL.v (V.as) ?_
        apply WpL.nil
        apply Out.seqN
        refine Wp.c (fun h0 => ?_) (fun h0 => ?_)
        (try simp only [decide_eq_true_eq, decide_eq_false_iff_not, Bool.not_eq_true', Bool.not_eq_false', Bool.not_eq_true, Bool.not_eq_false, not_true_eq_false, not_false_eq_true, reduceCtorEq] at h0)
        (exfalso; omega)
        (try simp only [decide_eq_true_eq, decide_eq_false_iff_not, Bool.not_eq_true', Bool.not_eq_false', Bool.not_eq_true, Bool.not_eq_false, not_true_eq_false, not_false_eq_true, reduceCtorEq] at h0)
        apply Wp.skip
        apply Out.blockN
        apply Out.seqN
        apply Wp.seq
        refine Wp.dG [] ?_ (List.Sublist.cons _ (List.Sublist.cons_cons _ (List.Sublist.cons _ (List.Sublist.cons_cons _ (List.Sublist.cons _ (List.Sublist.cons _ (List.Sublist.cons _ (List.Sublist.cons _ List.Sublist.slnil)))))))) (List.Sublist.cons _ (List.Sublist.cons_cons _ (List.Sublist.cons _ (List.Sublist.cons_cons _ (List.Sublist.cons _ (List.Sublist.cons _ (List.Sublist.cons _ (List.Sublist.cons _ List.Sublist.slnil))))))))
        refine WpA.tF 0 rfl (V.mv) ?_
        refine WpA.tF 1 rfl (V.nc) ?_
        refine WpA.tF 2 rfl (V.fa tb) ?_
        refine WpA.tF 3 rfl (V.ld1 tb) ?_
        refine WpA.tF 4 rfl (V.fa tb) ?_
        refine WpA.tF 5 rfl (V.ld1 tb) ?_
        refine WpA.e2 6 7 rfl rfl ?_ ?_
        refine Op1.vv (Val.lookE (l := sl) (k := d.Session) (vf := vL) LV.z hx0 kokI map94 zero98 rfl rfl (by (repeat first | exact List.Mem.head _ | apply List.Mem.tail))) ⟨?_, ?_, ?_⟩
        exact holdT
        exact holdT
        refine WpA.oS 7 rfl (O.al tb (fun p5 => ⟨?_, ?_, ?_⟩))
        exact holdT
        exact holdT
        refine WpA.oS 8 rfl (O.stA tb ⟨?_, ?_, ?_⟩)
        exact holdT
        exact holdT
        refine WpA.ou ?_
        apply Out.seqN
        apply Wp.seq
        apply Wp.block
        apply Wp.seq
        apply Wp.region
        refine WpL.v (V.fa tb) ?_
        refine WpL.v (V.ld1 tb) ?_
        refine WpL.v (V.fa tb) ?_
        refine WpL.v (V.ld1 tb) ?_
        refine WpL.v (V.cmp) ?_
        refine WpL.v (V.as) ?_
        apply WpL.nil
        apply Out.seqN
        refine Wp.c (fun h1 => ?_) (fun h1 => ?_)
        (try simp only [decide_eq_true_eq, decide_eq_false_iff_not, Bool.not_eq_true', Bool.not_eq_false', Bool.not_eq_true, Bool.not_eq_false, not_true_eq_false, not_false_eq_true, reduceCtorEq] at h1)
        apply Wp.seq
        apply Wp.region
        refine WpL.v (V.bld tb) ?_
        refine WpL.o (O.stA tb ?_)
        apply WpL.nil
        apply Out.seqN
        apply Wp.ret
        apply Out.blockR
        apply Out.seqR
        refine Out.e1 rfl (ResIs.ca tb) ?_
        focus (exact ⟨_, _, ⟨none, 0, 0, sl, g, hh, rfl, rfl⟩, (by (repeat (first | exact Sel.nil | exact Rem.here | apply Sel.cons | apply Rem.there)))⟩; done)
        (try simp only [decide_eq_true_eq, decide_eq_false_iff_not, Bool.not_eq_true', Bool.not_eq_false', Bool.not_eq_true, Bool.not_eq_false, not_true_eq_false, not_false_eq_true, reduceCtorEq] at h1)
        (exfalso; omega)
        refine O.al tb (fun p5 => ⟨?_, ?_, ?_⟩)
        exact holdT
        exact holdT
        refine WpA.oS 6 rfl (Op1.vv (Val.lookE (l := sl) (k := d.Session) (vf := vL) LV.z hx0 kokI map94 zero98 rfl rfl (by (repeat first | exact List.Mem.head _ | apply List.Mem.tail))) ⟨?_, ?_, ?_⟩)
        exact holdT
        exact holdT
        refine WpA.oS 8 rfl (O.stA tb ⟨?_, ?_, ?_⟩)
        exact holdT
        exact holdT
        refine WpA.ou ?_
        apply Out.seqN
        apply Wp.seq
        apply Wp.block
        apply Wp.seq
        apply Wp.region
        refine WpL.v (V.fa tb) ?_
        refine WpL.v (V.ld1 tb) ?_
        refine WpL.v (V.fa tb) ?_
        refine WpL.v (V.ld1 tb) ?_
        refine WpL.v (V.cmp) ?_
        refine WpL.v (V.as) ?_
        apply WpL.nil
        apply Out.seqN
        refine Wp.c (fun h2 => ?_) (fun h2 => ?_)
        (try simp only [decide_eq_true_eq, decide_eq_false_iff_not, Bool.not_eq_true', Bool.not_eq_false', Bool.not_eq_true, Bool.not_eq_false, not_true_eq_false, not_false_eq_true, reduceCtorEq] at h2)
        apply Wp.seq
        apply Wp.region
        refine WpL.v (V.bld tb) ?_
        refine WpL.o (O.stA tb ?_)
        apply WpL.nil
        apply Out.seqN
        apply Wp.ret
        apply Out.blockR
        apply Out.seqR
        refine Out.e1 rfl (ResIs.ca tb) ?_
        focus (exact ⟨_, _, ⟨none, 0, 0, sl, g, hh, rfl, rfl⟩, (by (repeat (first | exact Sel.nil | exact Rem.here | apply Sel.cons | apply Rem.there)))⟩; done)
        (try simp only [decide_eq_true_eq, decide_eq_false_iff_not, Bool.not_eq_true', Bool.not_eq_false', Bool.not_eq_true, Bool.not_eq_false, not_true_eq_false, not_false_eq_true, reduceCtorEq] at h2)
        (exfalso; omega)
      · simp only [if_neg h1]
        by_cases h2 : num0 < d.Number
        · simp only [if_pos h2]
          have hkl := doA_keys_len hi.reg d
          refine Ct.postW (R := fun r σ' => ∃ ao len cap v, ((doA s.l d).keys = [] → v = .slice none 0 0) ∧ r = A ((doA s.l d).rv.c (.slice ao len cap)) ∧ σ' = [rows strc v 9 1 (doA s.l d).keys, gE g, rows strc (.slice ao len cap) 9 1 (doA s.l d).keys, cells b 96 (ClientMachine.c ⟨Ptr rb 0, .map (some sm), s.cnt + 1⟩), cells rb 74 (RegistryRegistry.c ⟨.map (some rm)⟩), mE rm (doA s.l d).l, mS sm (mput sl d.Session ⟨d.Number, (doA s.l d).err, (doA s.l d).val, (doA s.l d).ver, (doA s.l d).keys, v⟩)]) ?_ ?_
          · generalize doA s.l d = y at *
            unfold mE at hA
            unfold cmE RV.c DR.rv mE mS
            dsimp only
            refine Ct.enter Try.func31 rfl rfl fun W => ?_
            refine Wp.fact (hform (by repeat first | exact List.Mem.head _ | apply List.Mem.tail)) fun hfm => ?_
            obtain ⟨ao0, len0, cap0, rfl, hKR, hx3⟩ := hfm
            apply Wp.seq
            apply Wp.region
            refine WpL.o (O.bxA (fun p3 => ?_))
            refine WpL.o (O.al tb (fun p4 => ?_))
            apply WpL.nil
            apply Out.seqN
            apply Wp.seq
            apply Wp.block
            apply Wp.seq
            apply Wp.region
            refine WpL.v (V.mv) ?_
            refine WpL.v (V.eqP) ?_
            refine WpL.v (V.as) ?_
            apply WpL.nil
            apply Out.seqN
            refine Wp.cF ?_
            apply Wp.seq
            apply Wp.region
            refine WpL.v (V.ldA tb) ?_
            refine WpL.o (Op1.fn rfl (hG) ?_)
            refine WpL.v (V.not) ?_
            refine WpL.v (V.as) ?_
            apply WpL.nil
            apply Out.seqN
            refine Wp.cF ?_
            apply Wp.seq
            apply Wp.region
            refine WpL.v (V.fa tb) ?_
            refine WpL.v (V.ld1 tb) ?_
            refine WpL.v (V.cmp) ?_
            refine WpL.v (V.as) ?_
            apply WpL.nil
            apply Out.seqN
            refine Wp.c (fun h0 => ?_) (fun h0 => ?_)
            (try simp only [decide_eq_true_eq, decide_eq_false_iff_not, Bool.not_eq_true', Bool.not_eq_false', Bool.not_eq_true, Bool.not_eq_false, not_true_eq_false, not_false_eq_true, reduceCtorEq] at h0)
            (exfalso; omega)
            (try simp only [decide_eq_true_eq, decide_eq_false_iff_not, Bool.not_eq_true', Bool.not_eq_false', Bool.not_eq_true, Bool.not_eq_false, not_true_eq_false, not_false_eq_true, reduceCtorEq] at h0)
            apply Wp.skip
            apply Out.blockN
            apply Out.seqN
            refine Wp.mt [4, 3, 0] (fun z : Nat => True) (fun z => [(5, Ptr z 0)]) (fun z => [cells z 98 (ClientLast.c ⟨num0, ⟨err0, val0, ver0, .slice ao0 len0 cap0⟩⟩)]) (σ1 := []) ?_ ?_
            · intro K2 hK2
              refine Wp.dG [] ?_ (List.Sublist.cons _ (List.Sublist.cons_cons _ (List.Sublist.cons_cons _ (List.Sublist.cons _ (List.Sublist.cons _ (List.Sublist.cons _ (List.Sublist.cons _ List.Sublist.slnil))))))) (List.Sublist.cons _ (List.Sublist.cons_cons _ (List.Sublist.cons_cons _ (List.Sublist.cons _ (List.Sublist.cons _ (List.Sublist.cons _ (List.Sublist.cons _ List.Sublist.slnil)))))))
              refine WpA.tF 0 rfl (V.mv) ?_
              refine WpA.tF 1 rfl (V.nc) ?_
              refine WpA.tF 2 rfl (V.fa tb) ?_
              refine WpA.tF 3 rfl (V.ld1 tb) ?_
              refine WpA.tF 4 rfl (V.fa tb) ?_
              refine WpA.tF 5 rfl (V.ld1 tb) ?_
              refine WpA.e2 6 7 rfl rfl ?_ ?_
              refine Op1.vv (Val.lookE (l := sl) (k := d.Session) (vf := vL) LV.z hx0 kokI map94 zero98 rfl rfl (by (repeat first | exact List.Mem.head _ | apply List.Mem.tail))) ⟨?_, ?_, ?_⟩
              exact holdT
              exact holdT
              refine WpA.oS 7 rfl (O.al tb (fun p5 => ⟨?_, ?_, ?_⟩))
              exact holdT
              exact holdT
              refine WpA.oS 8 rfl (O.stA tb ⟨?_, ?_, ?_⟩)
              exact holdT
              exact holdT
              refine WpA.ou ?_
              rotate_left
              refine O.al tb (fun p5 => ⟨?_, ?_, ?_⟩)
              exact holdT
              exact holdT
              refine WpA.oS 6 rfl (Op1.vv (Val.lookE (l := sl) (k := d.Session) (vf := vL) LV.z hx0 kokI map94 zero98 rfl rfl (by (repeat first | exact List.Mem.head _ | apply List.Mem.tail))) ⟨?_, ?_, ?_⟩)
              exact holdT
              exact holdT
              refine WpA.oS 8 rfl (O.stA tb ⟨?_, ?_, ?_⟩)
              exact holdT
              exact holdT
              refine WpA.ou ?_
              rotate_left
              all_goals exact Out.ag hK2 _ trivial trivial
            · rintro q5 _
              dsimp only [List.cons_append, List.nil_append]
              apply Wp.seq
              apply Wp.block
              apply Wp.seq
              apply Wp.region
              refine WpL.v (V.fa tb) ?_
              refine WpL.v (V.ld1 tb) ?_
              refine WpL.v (V.fa tb) ?_
              refine WpL.v (V.ld1 tb) ?_
              refine WpL.v (V.cmp) ?_
              refine WpL.v (V.as) ?_
              apply WpL.nil
              apply Out.seqN
              refine Wp.c (fun h0 => ?_) (fun h0 => ?_)
              (try simp only [decide_eq_true_eq, decide_eq_false_iff_not, Bool.not_eq_true', Bool.not_eq_false', Bool.not_eq_true, Bool.not_eq_false, not_true_eq_false, not_false_eq_true, reduceCtorEq] at h0)
              (exfalso; omega)
              (try simp only [decide_eq_true_eq, decide_eq_false_iff_not, Bool.not_eq_true', Bool.not_eq_false', Bool.not_eq_true, Bool.not_eq_false, not_true_eq_false, not_false_eq_true, reduceCtorEq] at h0)
              apply Wp.seq
              apply Wp.region
              refine WpL.v (V.fa tb) ?_
              refine WpL.v (V.ld1 tb) ?_
              refine WpL.v (V.fa tb) ?_
              refine WpL.v (V.ld1 tb) ?_
              refine WpL.v (V.cmp) ?_
              refine WpL.v (V.as) ?_
              apply WpL.nil
              apply Out.seqN
              refine Wp.c (fun h1 => ?_) (fun h1 => ?_)
              (try simp only [decide_eq_true_eq, decide_eq_false_iff_not, Bool.not_eq_true', Bool.not_eq_false', Bool.not_eq_true, Bool.not_eq_false, not_true_eq_false, not_false_eq_true, reduceCtorEq] at h1)
              apply Wp.seq
              apply Wp.region
              refine WpL.v (V.mv) ?_
              refine WpL.v (V.nc) ?_
              refine WpL.v (V.fa tb) ?_
              refine WpL.v (V.ld1 tb) ?_
              refine WpL.v (V.add) ?_
              refine WpL.v (V.nc) ?_
              refine WpL.v (V.fa tb) ?_
              refine WpL.o (O.st1 tb ?_)
              apply WpL.nil
              apply Out.seqN
              apply Wp.seq
              refine Wp.dG [] ?_ (List.Sublist.cons _ (List.Sublist.cons _ (List.Sublist.cons_cons _ (List.Sublist.cons_cons _ (List.Sublist.cons _ (List.Sublist.cons _ (List.Sublist.cons _ (List.Sublist.cons _ List.Sublist.slnil)))))))) (List.Sublist.cons _ (List.Sublist.cons _ (List.Sublist.cons_cons _ (List.Sublist.cons_cons _ (List.Sublist.cons _ (List.Sublist.cons _ (List.Sublist.cons _ (List.Sublist.cons _ List.Sublist.slnil))))))))
              refine WpA.tF 0 rfl (V.fa tb) ?_
              refine WpA.tF 1 rfl (V.ld1 tb) ?_
              refine WpA.tF 2 rfl (V.mv) ?_
              refine WpA.tF 3 rfl (V.nc) ?_
              refine WpA.tF 4 rfl (V.fa tb) ?_
              refine WpA.tF 5 rfl (V.ld1 tb) ?_
              refine WpA.tF 6 rfl (V.ldA tb) ?_
              refine WpA.oS 7 rfl (Op1.callT rfl (hA) (by (repeat (first | exact Sel.nil | exact Rem.here | apply Sel.cons | apply Rem.there))) ?_)
              rintro v3 s4 ⟨ao67, ⟨len67, ⟨cap67, ⟨hx2, ⟨rfl, rfl⟩⟩⟩⟩⟩
              refine incat ⟨?_, ?_, ?_⟩
              exact holdT
              exact holdT
              refine WpA.tF 8 rfl (V.bld tb (c' := ClientLast.c ⟨d.Number, ⟨y.err, y.val, y.ver, _⟩⟩)) ?_
              refine WpA.oS 9 rfl (O.stA tb ⟨?_, ?_, ?_⟩)
              exact holdT
              exact holdT
              refine WpA.ou ?_
              apply Out.seqN
              refine Wp.dG [] ?_ (List.Sublist.cons _ (List.Sublist.cons _ (List.Sublist.cons _ (List.Sublist.cons_cons _ (List.Sublist.cons _ (List.Sublist.cons_cons _ (List.Sublist.cons_cons _ (List.Sublist.cons _ (List.Sublist.cons _ List.Sublist.slnil))))))))) (List.Sublist.cons _ (List.Sublist.cons _ (List.Sublist.cons _ (List.Sublist.cons_cons _ (List.Sublist.cons _ (List.Sublist.cons_cons _ (List.Sublist.cons_cons _ (List.Sublist.cons _ (List.Sublist.cons _ List.Sublist.slnil)))))))))
              refine WpA.tF 0 rfl (V.mv) ?_
              refine WpA.tF 1 rfl (V.nc) ?_
              refine WpA.tF 2 rfl (V.fa tb) ?_
              refine WpA.tF 3 rfl (V.ld1 tb) ?_
              refine WpA.tF 4 rfl (V.fa tb) ?_
              refine WpA.tF 5 rfl (V.ld1 tb) ?_
              refine WpA.tF 6 rfl (V.ldA tb) ?_
              refine WpA.oS 7 rfl (Op1.updM (l := sl) (k := d.Session) (v := (⟨d.Number, y.err, y.val, y.ver, y.keys, .slice ao67 len67 cap67⟩ : LV)) (vf := vL) kokI map94 rfl rfl rfl (by (repeat first | exact Upd.here _ _ _ | apply Upd.there)) ⟨?_, ?_, ?_⟩)
              exact holdT
              exact holdT
              refine WpA.ou ?_
              apply Out.blockN
              apply Out.seqN
              apply Wp.seq
              apply Wp.region
              refine WpL.v (V.fa tb) ?_
              refine WpL.v (V.ldA tb) ?_
              refine WpL.o (O.al tb (fun p6 => ?_))
              refine WpL.o (O.stA tb ?_)
              apply WpL.nil
              apply Out.seqN
              rotate_left
              (try simp only [decide_eq_true_eq, decide_eq_false_iff_not, Bool.not_eq_true', Bool.not_eq_false', Bool.not_eq_true, Bool.not_eq_false, not_true_eq_false, not_false_eq_true, reduceCtorEq] at h1)
              (exfalso; omega)
              refine Wp.fact (KR.one (v := .slice ao67 len67 cap67) (k := y.keys) (by repeat first | exact List.Mem.head _ | apply List.Mem.tail)) fun hK1 => ?_
              have hCl := keys_clone _ _ y.keys hK1 (by assumption) (by omega)
              apply Wp.seq
              apply Wp.region
              refine WpL.v (V.fa tb) ?_
              refine WpL.v (V.ld1 tb) ?_
              refine WpL.o (Op1.callT rfl (hCl) (by (repeat (first | exact Sel.nil | exact Rem.here | apply Sel.cons | apply Rem.there))) ?_)
              rintro v1 s2 ⟨ao80, ⟨len80, ⟨cap80, ⟨hx0, ⟨rfl, rfl⟩⟩⟩⟩⟩
              refine incat ?_
              refine WpL.v (V.fa tb) ?_
              refine WpL.o (O.st1 tb ?_)
              apply WpL.nil
              apply Out.seqN
              apply Wp.seq
              apply Wp.region
              refine WpL.v (V.ldA tb) ?_
              refine WpL.o (O.stA tb ?_)
              apply WpL.nil
              apply Out.seqN
              apply Wp.ret
              refine Out.e1 rfl (ResIs.ca tb) ?_
              focus (exact ⟨_, _, ⟨_, _, _, .slice ao67 len67 cap67, by assumption, rfl, rfl⟩, (by (repeat (first | exact Sel.nil | exact Rem.here | apply Sel.cons | apply Rem.there)))⟩; done)
          · rintro v σ' W D w ⟨ao, len, cap, kv, h0, rfl, rfl⟩ hH
            have hl := H.lay hH
            refine ⟨_, ⟨ao, len, cap, mput sl d.Session ⟨d.Number, (doA s.l d).err, (doA s.l d).val, (doA s.l d).ver, (doA s.l d).keys, kv⟩, (kv, (doA s.l d).keys) :: g, hh.put d.Session (⟨d.Number, (doA s.l d).err, (doA s.l d).val, (doA s.l d).ver, (doA s.l d).keys, kv⟩ : LV) h0, rfl, rfl⟩, hl.perm ?_⟩
            unfold cmE
            exact (List.perm_append_comm (l₁ := [_]) (l₂ := [_, _, _, _, _]))
        · simp only [if_neg h2]
          have hkl : keys0.length ≤ n := by
            have h3 := mget_fgt sl d.Session
            rw [hh.fo] at h3
            cases hm : mget sl d.Session with
            | none => rw [hm] at hx0; cases hx0; exact Nat.zero_le _
            | some x =>
              rw [hm] at hx0 h3
              have h4 := hi.ses d.Session x.f h3
              have h5 : x = ⟨num0, err0, val0, ver0, keys0, kv0⟩ := hx0
              rw [h5] at h4
              exact h4.2.2.2.2
          unfold cmE RV.c mE mS
          dsimp only
          refine Ct.enter Try.func31 rfl rfl fun W => ?_
          refine Wp.fact (hform (by repeat first | exact List.Mem.head _ | apply List.Mem.tail)) fun hfm => ?_
          obtain ⟨ao0, len0, cap0, rfl, hKR, hx3⟩ := hfm
          have hCl := keys_clone _ _ keys0 hKR hx3 (by omega)
          apply Wp.seq
          apply Wp.region
          refine WpL.o (O.bxA (fun p3 => ?_))
          refine WpL.o (O.al tb (fun p4 => ?_))
          apply WpL.nil
          apply Out.seqN
          apply Wp.seq
          apply Wp.block
          apply Wp.seq
          apply Wp.region
          refine WpL.v (V.mv) ?_
          refine WpL.v (V.eqP) ?_
          refine WpL.v (V.as) ?_
          apply WpL.nil
          apply Out.seqN
          refine Wp.cF ?_
          apply Wp.seq
          apply Wp.region
          refine WpL.v (V.ldA tb) ?_
          refine WpL.o (Op1.fn rfl (hG) ?_)
          refine WpL.v (V.not) ?_
          refine WpL.v (V.as) ?_
          apply WpL.nil
          apply Out.seqN
          refine Wp.cF ?_
          apply Wp.seq
          apply Wp.region
          refine WpL.v (V.fa tb) ?_
          refine WpL.v (V.ld1 tb) ?_
          refine WpL.v (V.cmp) ?_
          refine WpL.v (V.as) ?_
          apply WpL.nil
          apply Out.seqN
          refine Wp.c (fun h0 => ?_) (fun h0 => ?_)
          (try simp only [decide_eq_true_eq, decide_eq_false_iff_not, Bool.not_eq_true', Bool.not_eq_false', Bool.not_eq_true, Bool.not_eq_false, not_true_eq_false, not_false_eq_true, reduceCtorEq] at h0)
          (exfalso; omega)
          (try simp only [decide_eq_true_eq, decide_eq_false_iff_not, Bool.not_eq_true', Bool.not_eq_false', Bool.not_eq_true, Bool.not_eq_false, not_true_eq_false, not_false_eq_true, reduceCtorEq] at h0)
          apply Wp.skip
          apply Out.blockN
          apply Out.seqN
          refine Wp.mt [4, 3, 0] (fun z : Nat => True) (fun z => [(5, Ptr z 0)]) (fun z => [cells z 98 (ClientLast.c ⟨num0, ⟨err0, val0, ver0, .slice ao0 len0 cap0⟩⟩)]) (σ1 := []) ?_ ?_
          · intro K2 hK2
            refine Wp.dG [] ?_ (List.Sublist.cons _ (List.Sublist.cons_cons _ (List.Sublist.cons_cons _ (List.Sublist.cons _ (List.Sublist.cons _ (List.Sublist.cons _ (List.Sublist.cons _ List.Sublist.slnil))))))) (List.Sublist.cons _ (List.Sublist.cons_cons _ (List.Sublist.cons_cons _ (List.Sublist.cons _ (List.Sublist.cons _ (List.Sublist.cons _ (List.Sublist.cons _ List.Sublist.slnil)))))))
            refine WpA.tF 0 rfl (V.mv) ?_
            refine WpA.tF 1 rfl (V.nc) ?_
            refine WpA.tF 2 rfl (V.fa tb) ?_
            refine WpA.tF 3 rfl (V.ld1 tb) ?_
            refine WpA.tF 4 rfl (V.fa tb) ?_
            refine WpA.tF 5 rfl (V.ld1 tb) ?_
            refine WpA.e2 6 7 rfl rfl ?_ ?_
            refine Op1.vv (Val.lookE (l := sl) (k := d.Session) (vf := vL) LV.z hx0 kokI map94 zero98 rfl rfl (by (repeat first | exact List.Mem.head _ | apply List.Mem.tail))) ⟨?_, ?_, ?_⟩
            exact holdT
            exact holdT
            refine WpA.oS 7 rfl (O.al tb (fun p5 => ⟨?_, ?_, ?_⟩))
            exact holdT
            exact holdT
            refine WpA.oS 8 rfl (O.stA tb ⟨?_, ?_, ?_⟩)
            exact holdT
            exact holdT
            refine WpA.ou ?_
            rotate_left
            refine O.al tb (fun p5 => ⟨?_, ?_, ?_⟩)
            exact holdT
            exact holdT
            refine WpA.oS 6 rfl (Op1.vv (Val.lookE (l := sl) (k := d.Session) (vf := vL) LV.z hx0 kokI map94 zero98 rfl rfl (by (repeat first | exact List.Mem.head _ | apply List.Mem.tail))) ⟨?_, ?_, ?_⟩)
            exact holdT
            exact holdT
            refine WpA.oS 8 rfl (O.stA tb ⟨?_, ?_, ?_⟩)
            exact holdT
            exact holdT
            refine WpA.ou ?_
            rotate_left
            all_goals exact Out.ag hK2 _ trivial trivial
          · rintro q5 _
            dsimp only [List.cons_append, List.nil_append]
            apply Wp.seq
            apply Wp.block
            apply Wp.seq
            apply Wp.region
            refine WpL.v (V.fa tb) ?_
            refine WpL.v (V.ld1 tb) ?_
            refine WpL.v (V.fa tb) ?_
            refine WpL.v (V.ld1 tb) ?_
            refine WpL.v (V.cmp) ?_
            refine WpL.v (V.as) ?_
            apply WpL.nil
            apply Out.seqN
            refine Wp.c (fun h0 => ?_) (fun h0 => ?_)
            (try simp only [decide_eq_true_eq, decide_eq_false_iff_not, Bool.not_eq_true', Bool.not_eq_false', Bool.not_eq_true, Bool.not_eq_false, not_true_eq_false, not_false_eq_true, reduceCtorEq] at h0)
            (exfalso; omega)
            (try simp only [decide_eq_true_eq, decide_eq_false_iff_not, Bool.not_eq_true', Bool.not_eq_false', Bool.not_eq_true, Bool.not_eq_false, not_true_eq_false, not_false_eq_true, reduceCtorEq] at h0)
            apply Wp.seq
            apply Wp.region
            refine WpL.v (V.fa tb) ?_
            refine WpL.v (V.ld1 tb) ?_
            refine WpL.v (V.fa tb) ?_
            refine WpL.v (V.ld1 tb) ?_
            refine WpL.v (V.cmp) ?_
            refine WpL.v (V.as) ?_
            apply WpL.nil
            apply Out.seqN
            refine Wp.c (fun h1 => ?_) (fun h1 => ?_)
            (try simp only [decide_eq_true_eq, decide_eq_false_iff_not, Bool.not_eq_true', Bool.not_eq_false', Bool.not_eq_true, Bool.not_eq_false, not_true_eq_false, not_false_eq_true, reduceCtorEq] at h1)
            (exfalso; omega)
            (try simp only [decide_eq_true_eq, decide_eq_false_iff_not, Bool.not_eq_true', Bool.not_eq_false', Bool.not_eq_true, Bool.not_eq_false, not_true_eq_false, not_false_eq_true, reduceCtorEq] at h1)
            apply Wp.skip
            apply Out.blockN
            apply Out.seqN
            apply Wp.seq
            apply Wp.region
            refine WpL.v (V.fa tb) ?_
            refine WpL.v (V.ldA tb) ?_
            refine WpL.o (O.al tb (fun p6 => ?_))
            refine WpL.o (O.stA tb ?_)
            apply WpL.nil
            apply Out.seqN
            apply Wp.seq
            apply Wp.region
            refine WpL.v (V.fa tb) ?_
            refine WpL.v (V.ld1 tb) ?_
            refine WpL.o (Op1.callT rfl (hCl) (by (repeat (first | exact Sel.nil | exact Rem.here | apply Sel.cons | apply Rem.there))) ?_)
            rintro v3 s4 ⟨ao80, ⟨len80, ⟨cap80, ⟨hx2, ⟨rfl, rfl⟩⟩⟩⟩⟩
            refine incat ?_
            refine WpL.v (V.fa tb) ?_
            refine WpL.o (O.st1 tb ?_)
            apply WpL.nil
            apply Out.seqN
            apply Wp.seq
            apply Wp.region
            refine WpL.v (V.ldA tb) ?_
            refine WpL.o (O.stA tb ?_)
            apply WpL.nil
            apply Out.seqN
            apply Wp.ret
            refine Out.e1 rfl (ResIs.ca tb) ?_
            focus (exact ⟨_, _, ⟨_, _, _, sl, g, hh, rfl, rfl⟩, (by (repeat (first | exact Sel.nil | exact Rem.here | apply Sel.cons | apply Rem.there)))⟩; done)
end Go.Proofs.Ytgihkocnmgkihaa
