/-
  The statement ClientOnce of layer 21: each number of a session is done once at most, however often, and when, it is asked for: a deed of a number that isn't greater changes nothing. Proved for every input.
-/
import Derived.Test.YtgihkocnmgkihaaHead
import Derived.Test.YtgihkocnmgkihaaCap
namespace Go.HL
theorem H.lay2 {W : Go.World} {D : List Nat} {σ ρ : List Ent} {g : Go.Proofs.Ytgihkocnmgkihaa.GB} {v : Go.Value} {k : List (List UInt8)} (hs : Sel σ [rows strc v 9 1 k, Go.Proofs.Ytgihkocnmgkihaa.gE g] ρ) (w : Go.World) (h : H W D σ w) : H W D (Go.Proofs.Ytgihkocnmgkihaa.gE ((v, k) :: g) :: ρ) w :=
  Go.Proofs.Ytgihkocnmgkihaa.H.lay (h.sel' hs)
end Go.HL
namespace Go.Proofs.Ytgihkocnmgkihaa
open Go.HL
set_option linter.unusedSimpArgs false
set_option linter.unusedVariables false
set_option maxRecDepth 8000
structure CO21 where
  k : Nat
  s : CS
  sl : SM
  g : GB
  rl : SM
  g3 : GB
/-- The replies that were kept, and where their keys lie. -/
structure HJ (ss : SSL) (rl : SM) (g : GB) : Prop where
  fo : fgt rl = ss
  mem : ∀ k x, mget rl k = some x → (x.kv, x.keys) ∈ g
theorem HJ.zero : HJ [] [] [] := ⟨rfl, fun k x h => by rw [mget_nil] at h; cases h⟩
theorem HJ.more {ss : SSL} {rl : SM} {g : GB} (h : HJ ss rl g) (p : Go.Value × List (List UInt8)) : HJ ss rl (p :: g) := ⟨h.fo, fun k x hx => List.mem_cons_of_mem _ (h.mem k x hx)⟩
theorem HJ.put {ss : SSL} {rl : SM} {g : GB} (h : HJ ss rl g) (k : Int) (x : LV) (hx : (x.kv, x.keys) ∈ g) : HJ (mput ss k x.f) (mput rl k x) g :=
  ⟨by rw [mput_fgt, h.fo], fun k2 x2 hx2 => by
    rw [mget_mput] at hx2
    by_cases e : k2 = k
    · rw [if_pos e] at hx2
      cases hx2
      exact hx
    · rw [if_neg e] at hx2
      exact h.mem k2 x2 hx2⟩
theorem HJ.look {ss : SSL} {rl : SM} {g : GB} (h : HJ ss rl g) (l : PM) (cnt : Int) (k : Int) : (lookS rl k).f = CS.get ⟨l, ss, cnt⟩ k := by
  rw [lookS_f, h.fo]; rfl
theorem HJ.form {ss : SSL} {rl : SM} {g : GB} (hh : HJ ss rl g) (k : Int) {W : Go.World} {D : List Nat} {σ : List Ent} (hg : gE g ∈ σ) : ∀ w, H W D σ w → KR (gE g) (lookS rl k).kv (lookS rl k).keys := fun w hw => by
  unfold lookS
  cases hm : mget rl k with
  | none => exact ⟨none, 0, 0, 0, rfl, Rd.nil⟩
  | some x => exact KR.of_bag (hh.mem k x hm) hg w hw
abbrev vN : LV → Go.Value := fun p => I p.num
abbrev vR : LV → Go.Value := fun p => A (Caucusref20Reply.c ⟨p.err, p.val, p.ver, p.kv⟩)
theorem map70 : mapTB Try.prog 70 3 3 = true := rfl
theorem map71 : mapTB Try.prog 71 3 39 = true := rfl
theorem zero3 (w : Go.World) : (Go.zeroValue 3).run Try.prog w = .ok (vN LV.z) w := rfl
theorem zero39 (w : Go.World) : (Go.zeroValue 39).run Try.prog w = .ok (vR LV.z) w := rfl
theorem told21_at (x : RV) (ao : Option Go.Addr) (len cap : Nat) : Fun Try.prog 35 [A (RegistryReply.c ⟨x.err, x.val, x.ver, .slice ao len cap⟩)] (A (Caucusref20Reply.c ⟨x.err, x.val, x.ver, .slice ao len cap⟩)) := told21 ⟨x.err, x.val, x.ver, .slice ao len cap⟩ rfl
theorem refSame_self (e : Ent) (x : RV) (v v' : Go.Value) (h1 : KR e v x.keys) (h2 : KR e v' x.keys) : Ct Try.prog 17 [A (Caucusref20Reply.c ⟨x.err, x.val, x.ver, v⟩), A (Caucusref20Reply.c ⟨x.err, x.val, x.ver, v'⟩)] [e] (fun r σ' => r = B true ∧ σ' = [e]) := by
  refine Ct.mono (refSame e ⟨x.err, x.val, x.ver, v⟩ ⟨x.err, x.val, x.ver, v'⟩ x.keys x.keys h1 h2) ?_
  rintro r σ' ⟨rfl, rfl⟩
  exact ⟨by simp, rfl⟩
set_option maxHeartbeats 8000000 in
theorem clientOnce_walk (e : Ent) (ao : Option Go.Addr) (cap b off : Nat) (xs : List TDeed) (hw : ∀ x ∈ xs, x.Key.length ≤ 140737488351232 ∧ x.Value.length ≤ 140737488351232) (hR : Rd e ao xs.length b off 6 (xs.map TDeed.c)) :
    Ct Try.prog 10 [.slice ao xs.length cap] [e] (fun r σ' => r = B true ∧ σ' = [e]) := by
  have hm := hR.small
  simp only [Go.maxLen] at hm
  have hG := great21z e ao cap b off xs hw hR
  have hN := client_new2
  unfold cmE at hN
  refine Ct.enter Try.func10 rfl rfl fun W => ?_
  refine Wp.see (fun w h => H.layZ h) ?_
  apply Wp.seq
  apply Wp.region
  refine WpL.v (V.as) ?_
  apply WpL.nil
  apply Out.seqN
  apply Wp.seq
  apply Wp.seq
  apply Wp.region
  refine WpL.o (Op1.fn rfl (alive21) ?_)
  refine WpL.v (V.not) ?_
  apply WpL.nil
  apply Out.seqN
  refine Wp.cF ?_
  apply Wp.skip
  apply Out.seqN
  apply Wp.seq
  apply Wp.seq
  apply Wp.region
  refine WpL.v (V.mv) ?_
  refine WpL.o (Op1.callT rfl (hG) (by (repeat (first | exact Sel.nil | exact Rem.here | apply Sel.cons | apply Rem.there))) ?_)
  rintro v1 s2 ⟨t15, ⟨hx0, ⟨rfl, rfl⟩⟩⟩
  refine incat ?_
  apply WpL.nil
  apply Out.seqN
  refine Wp.c (fun hp03 => ?_) (fun hp03 => ?_)
  (try simp only [decide_eq_true_eq, decide_eq_false_iff_not, Bool.not_eq_true', Bool.not_eq_false', Bool.not_eq_true, Bool.not_eq_false, not_true_eq_false, not_false_eq_true, reduceCtorEq] at hp03)
  apply Wp.seq
  apply Wp.region
  refine WpL.v (V.as) ?_
  apply WpL.nil
  apply Out.seqN
  apply Wp.ret
  apply Out.seqR
  refine Out.f1 rfl ResIs.t ⟨?_, rfl⟩
  exact rfl
  (try simp only [decide_eq_true_eq, decide_eq_false_iff_not, Bool.not_eq_true', Bool.not_eq_false', Bool.not_eq_true, Bool.not_eq_false, not_true_eq_false, not_false_eq_true, reduceCtorEq] at hp03)
  apply Wp.skip
  apply Out.seqN
  apply Wp.seq
  apply Wp.region
  refine WpL.o (Op1.callT rfl (hN) (by (repeat (first | exact Sel.nil | exact Rem.here | apply Sel.cons | apply Rem.there))) ?_)
  rintro v4 s5 ⟨b16, ⟨rb16, ⟨rm16, ⟨sm16, ⟨rfl, rfl⟩⟩⟩⟩⟩
  refine incat ?_
  refine WpL.v (V.as) ?_
  apply WpL.nil
  apply Out.seqN
  apply Wp.seq
  apply Wp.region
  refine WpL.o (Op1.mkMap (t := 70) kI vN rfl (fun p17 => ?_))
  refine WpL.v (V.as) ?_
  apply WpL.nil
  apply Out.seqN
  apply Wp.seq
  apply Wp.region
  refine WpL.o (Op1.mkMap (t := 71) kI vR rfl (fun p18 => ?_))
  refine WpL.v (V.as) ?_
  apply WpL.nil
  apply Out.seqN
  apply Wp.seq
  apply Wp.seq
  apply Wp.region
  refine WpL.v (V.mv) ?_
  refine WpL.v (V.lenL tb) ?_
  refine WpL.v (V.mv) ?_
  apply WpL.nil
  apply Out.seqN
  apply Wp.block
  obtain ⟨hx80, hxs⟩ := hx0 (by assumption)
  refine Wp.lp [20, 19, 5, 4, 3] (fun y : CO21 => y.k ≤ xs.length ∧ CI y.k y.s ∧ CZ y.s ∧ HI y.s.ss y.sl y.g ∧ HJ y.s.ss y.rl y.g3) (fun y => [(21, I (y.k : Int))]) (fun y => [cells b16 96 (ClientMachine.c ⟨Ptr rb16 0, .map (some sm16), y.s.cnt⟩), cells rb16 74 (RegistryRegistry.c ⟨.map (some rm16)⟩), mE rm16 y.s.l, mS sm16 y.sl, gE y.g, mapK kI vR p18 y.rl, mapK kI vN p17 y.rl, gE y.g3]) (fun y => xs.length - y.k) ⟨0, CS.z, [], [], [], []⟩ ⟨Nat.zero_le _, CI.zero, CZ.zero, HI.zero, HJ.zero⟩ ?_
  rintro ⟨k, s, sl, g, rl, g3⟩ ⟨hk, hi, hz, hh, hj⟩ K hK
  dsimp only at hk hi hz hh hj
  dsimp only [List.cons_append, List.nil_append]
  by_cases hlt : k < xs.length
  · obtain ⟨x, hx⟩ := getS hlt
    have hA := client_do b16 rb16 rm16 sm16 k s sl g x hi hh (by omega)
    have hY := client_bytes b16 rb16 rm16 sm16 k s sl g hi hz hh (by omega)
    have hCn := client_count b16 (Ptr rb16 0) (.map (some sm16)) s.cnt
    have hGd := ref_good x
    have hi2 := hi.do_ x
    have hz2 := hz.do_ hi (by omega) (hxs x (List.mem_of_getElem? hx))
    have hY2 (sl : SM) (g : GB) (hh : HI (doC s x).2.ss sl g) := client_bytes b16 rb16 rm16 sm16 _ (doC s x).2 sl g hi2 hz2 hh (by omega)
    have hC2 := client_count b16 (Ptr rb16 0) (.map (some sm16)) (doC s x).2.cnt
    have hlk := hj.look s.l s.cnt x.Session
    have hT (ao : Option Go.Addr) (len cap : Nat) := told21_at (doC s x).1 ao len cap
    unfold RV.c at hA
    unfold cmE at hA hY hY2
    have hcn := hi.cnt
    apply Wp.seq
    apply Wp.region
    refine WpL.v (V.cmp) ?_
    apply WpL.nil
    apply Out.seqN
    apply Wp.seq
    refine Wp.c (fun hp10 => ?_) (fun hp10 => ?_)
    (try simp only [decide_eq_true_eq, decide_eq_false_iff_not, Bool.not_eq_true', Bool.not_eq_false', Bool.not_eq_true, Bool.not_eq_false, not_true_eq_false, not_false_eq_true, reduceCtorEq] at hp10)
    apply Wp.skip
    apply Out.seqN
    apply Wp.seq
    apply Wp.block
    apply Wp.seq
    apply Wp.region
    refine WpL.v (V.ixR tb rfl rfl (by assumption)) ?_
    refine WpL.v (V.ldRA tb rfl (by assumption) (getMapS (by assumption))) ?_
    refine WpL.o (O.al tb (fun p7 => ?_))
    refine WpL.o (O.stA tb ?_)
    apply WpL.nil
    apply Out.seqN
    apply Wp.seq
    apply Wp.region
    refine WpL.v (V.mv) ?_
    refine WpL.o (Op1.callT rfl (hY) (by (repeat (first | exact Sel.nil | exact Rem.here | apply Sel.cons | apply Rem.there))) ?_)
    rintro v1 s2 ⟨rfl, rfl⟩
    refine incat ?_
    refine WpL.v (V.mv) ?_
    refine WpL.o (Op1.callT rfl (hCn) (by (repeat (first | exact Sel.nil | exact Rem.here | apply Sel.cons | apply Rem.there))) ?_)
    rintro v3 s4 ⟨rfl, rfl⟩
    refine incat ?_
    refine WpL.v (V.as) ?_
    refine WpL.v (V.as) ?_
    apply WpL.nil
    apply Out.seqN
    apply Wp.seq
    apply Wp.region
    refine WpL.v (V.mv) ?_
    refine WpL.v (V.ldA tb) ?_
    refine WpL.o (Op1.callT rfl (hA) (by (repeat (first | exact Sel.nil | exact Rem.here | apply Sel.cons | apply Rem.there))) ?_)
    rintro v6 s7 ⟨ao31, ⟨len31, ⟨cap31, ⟨sl'31, ⟨g'31, ⟨hx5, ⟨rfl, rfl⟩⟩⟩⟩⟩⟩⟩
    refine incat ?_
    refine WpL.o (Op1.fn rfl (hT _ _ _) ?_)
    refine WpL.o (O.al tb (fun p10 => ?_))
    refine WpL.o (O.stA tb ?_)
    apply WpL.nil
    apply Out.seqN
    rotate_left
    (try simp only [decide_eq_true_eq, decide_eq_false_iff_not, Bool.not_eq_true', Bool.not_eq_false', Bool.not_eq_true, Bool.not_eq_false, not_true_eq_false, not_false_eq_true, reduceCtorEq] at hp10)
    (exfalso; omega)
    refine Wp.see (H.lay2 (g := g3) (v := .slice ao31 len31 cap31) (k := (doC s x).1.keys) (by (repeat (first | exact Sel.nil | exact Rem.here | apply Sel.cons | apply Rem.there)))) ?_
    have hj2 := hj.more (.slice ao31 len31 cap31, (doC s x).1.keys)
    refine Wp.fact (KR.of_bag (g := (.slice ao31 len31 cap31, (doC s x).1.keys) :: g3) List.mem_cons_self (by repeat first | exact List.Mem.head _ | apply List.Mem.tail)) fun hK1 => ?_
    refine Wp.fact (hj2.form x.Session (by repeat first | exact List.Mem.head _ | apply List.Mem.tail)) fun hK2 => ?_
    have hxl : (mget rl x.Session).getD LV.z = lookS rl x.Session := rfl
    generalize lookS rl x.Session = y at *
    obtain ⟨num0, err0, val0, ver0, keys0, kv0⟩ := y
    have hK3 := hK2
    obtain ⟨ao0, cap0, bk0, off0, hkv0, hRd0⟩ := hK3
    dsimp only at hkv0
    subst hkv0
    dsimp only at hK2
    have hl1 : (s.get x.Session).1 = num0 := (congrArg Prod.fst hlk).symm
    have hl2 : (s.get x.Session).2 = ⟨err0, val0, ver0, keys0⟩ := (congrArg Prod.snd hlk).symm
    have hh2 : HI (doC s x).2.ss sl'31 g'31 := by assumption
    have hYY := hY2 _ _ hh2
    clear hY2
    generalize hds : doC s x = ds at *
    cases hg : goodD x with
    | false =>
      have e1 := doC_bad (s := s) hg
      rw [hds] at e1
      subst e1
      rw [hg] at hGd
      dsimp only at *
      apply Wp.seq
      apply Wp.region
      refine WpL.v (V.ldA tb) ?_
      refine WpL.o (Op1.fn rfl (hGd) ?_)
      refine WpL.v (V.as) ?_
      apply WpL.nil
      apply Out.seqN
      apply Wp.seq
      apply Wp.seq
      apply Wp.region
      refine WpL.v (V.mv) ?_
      refine WpL.v (V.not) ?_
      refine WpL.v (V.mv) ?_
      refine WpL.sk ?_
      refine WpL.sk ?_
      refine WpL.sk ?_
      refine WpL.sk ?_
      refine WpL.sk ?_
      refine WpL.sk ?_
      refine WpL.sk ?_
      refine WpL.sk ?_
      refine WpL.sk ?_
      refine WpL.sk ?_
      refine WpL.sk ?_
      refine WpL.sk ?_
      refine WpL.v (V.pT) ?_
      apply WpL.nil
      apply Out.seqN
      refine Wp.cT ?_
      apply Wp.seq
      apply Wp.seq
      apply Wp.region
      refine WpL.v (V.mv) ?_
      refine WpL.o (Op1.callT rfl (hYY) (by (repeat (first | exact Sel.nil | exact Rem.here | apply Sel.cons | apply Rem.there))) ?_)
      rintro v0 s1 ⟨rfl, rfl⟩
      refine incat ?_
      refine WpL.v (V.mv) ?_
      refine WpL.v (V.cmpS) ?_
      refine WpL.v (V.mv) ?_
      refine WpL.pt (fun hpa2 => ?_) (fun hpa2 => ?_)
      (try simp only [decide_eq_true_eq, decide_eq_false_iff_not, Bool.not_eq_true', Bool.not_eq_false', Bool.not_eq_true, Bool.not_eq_false, not_true_eq_false, not_false_eq_true, reduceCtorEq] at hpa2)
      (try simp only [decide_eq_true_eq, decide_eq_false_iff_not, Bool.not_eq_true', Bool.not_eq_false', Bool.not_eq_true, Bool.not_eq_false, not_true_eq_false, not_false_eq_true, reduceCtorEq] at hpa2)
      refine WpL.v (V.mv) ?_
      refine WpL.o (Op1.callT rfl (hC2) (by (repeat (first | exact Sel.nil | exact Rem.here | apply Sel.cons | apply Rem.there))) ?_)
      rintro v3 s4 ⟨rfl, rfl⟩
      refine incat ?_
      refine WpL.v (V.mv) ?_
      refine WpL.v (V.cmp) ?_
      refine WpL.v (V.pF) ?_
      refine WpL.v (V.mv) ?_
      refine WpL.pt (fun hpa5 => ?_) (fun hpa5 => ?_)
      (try simp only [decide_eq_true_eq, decide_eq_false_iff_not, Bool.not_eq_true', Bool.not_eq_false', Bool.not_eq_true, Bool.not_eq_false, not_true_eq_false, not_false_eq_true, reduceCtorEq] at hpa5)
      (try simp only [decide_eq_true_eq, decide_eq_false_iff_not, Bool.not_eq_true', Bool.not_eq_false', Bool.not_eq_true, Bool.not_eq_false, not_true_eq_false, not_false_eq_true, reduceCtorEq] at hpa5)
      refine WpL.v (V.fa tb) ?_
      refine WpL.v (V.ld1 tb) ?_
      refine WpL.v (V.cmp) ?_
      refine WpL.v (V.mv) ?_
      refine WpL.pt (fun hpa6 => ?_) (fun hpa6 => ?_)
      (try simp only [decide_eq_true_eq, decide_eq_false_iff_not, Bool.not_eq_true', Bool.not_eq_false', Bool.not_eq_true, Bool.not_eq_false, not_true_eq_false, not_false_eq_true, reduceCtorEq] at hpa6)
      (exfalso; omega)
      (try simp only [decide_eq_true_eq, decide_eq_false_iff_not, Bool.not_eq_true', Bool.not_eq_false', Bool.not_eq_true, Bool.not_eq_false, not_true_eq_false, not_false_eq_true, reduceCtorEq] at hpa6)
      refine WpL.sk ?_
      refine WpL.sk ?_
      refine WpL.v (V.pF) ?_
      refine WpL.v (V.pF) ?_
      refine WpL.v (V.mv) ?_
      refine WpL.v (V.mv) ?_
      refine WpL.v (V.mv) ?_
      refine WpL.sk ?_
      refine WpL.sk ?_
      refine WpL.sk ?_
      refine WpL.sk ?_
      refine WpL.sk ?_
      refine WpL.sk ?_
      refine WpL.sk ?_
      refine WpL.v (V.pF) ?_
      refine WpL.v (V.mv) ?_
      refine WpL.sk ?_
      refine WpL.sk ?_
      refine WpL.sk ?_
      refine WpL.sk ?_
      refine WpL.sk ?_
      refine WpL.sk ?_
      refine WpL.sk ?_
      refine WpL.v (V.pF) ?_
      refine WpL.v (V.pF) ?_
      refine WpL.v (V.mv) ?_
      refine WpL.v (V.mv) ?_
      refine WpL.v (V.mv) ?_
      refine WpL.sk ?_
      refine WpL.sk ?_
      refine WpL.sk ?_
      refine WpL.sk ?_
      refine WpL.sk ?_
      refine WpL.sk ?_
      refine WpL.sk ?_
      refine WpL.v (V.pF) ?_
      refine WpL.v (V.mv) ?_
      refine WpL.sk ?_
      refine WpL.sk ?_
      refine WpL.sk ?_
      refine WpL.v (V.pF) ?_
      refine WpL.v (V.pF) ?_
      apply WpL.nil
      apply Out.seqN
      refine Wp.cF ?_
      apply Wp.skip
      apply Out.seqN
      apply Wp.exit
      apply Out.seqE
      apply Out.blockE
      apply Out.seqN
      apply Wp.region
      refine WpL.v (V.add) ?_
      refine WpL.v (V.mv) ?_
      apply WpL.nil
      all_goals exact Out.ag hK ⟨k + 1, s, sl'31, g'31, rl, (.slice ao31 len31 cap31, []) :: g3⟩ ⟨by show k + 1 ≤ _; omega, hi2, hz2, hh2, hj2⟩ (by show xs.length - (k + 1) < xs.length - k; omega)
    | true =>
      rw [hg] at hGd
      cases ha : acts s x with
      | false =>
        have e1 := doC_rest hg ha
        have h0 := of_decide_eq_false ha
        rw [hl1] at h0
        rw [hds] at e1
        unfold repC at e1
        rw [hl1, hl2] at e1
        by_cases h1 : x.Number < num0
        · rw [if_pos h1] at e1
          subst e1
          dsimp only at *
          apply Wp.seq
          apply Wp.region
          refine WpL.v (V.ldA tb) ?_
          refine WpL.o (Op1.fn rfl (hGd) ?_)
          refine WpL.v (V.as) ?_
          apply WpL.nil
          apply Out.seqN
          apply Wp.seq
          apply Wp.seq
          apply Wp.region
          refine WpL.v (V.mv) ?_
          refine WpL.v (V.not) ?_
          refine WpL.v (V.mv) ?_
          refine WpL.v (V.fa tb) ?_
          refine WpL.v (V.ld1 tb) ?_
          refine WpL.v (V.cmp) ?_
          refine WpL.v (V.mv) ?_
          refine WpL.pt (fun hpb0 => ?_) (fun hpb0 => ?_)
          (try simp only [decide_eq_true_eq, decide_eq_false_iff_not, Bool.not_eq_true', Bool.not_eq_false', Bool.not_eq_true, Bool.not_eq_false, not_true_eq_false, not_false_eq_true, reduceCtorEq] at hpb0)
          refine WpL.v (V.fa tb) ?_
          refine WpL.v (V.ld1 tb) ?_
          refine WpL.v (V.mv) ?_
          refine WpL.v (V.fa tb) ?_
          refine WpL.v (V.ld1 tb) ?_
          refine WpL.v (Val.lookE (l := rl) (k := x.Session) (vf := vN) LV.z hxl kokI map70 zero3 rfl rfl (by (repeat first | exact List.Mem.head _ | apply List.Mem.tail))) ?_
          refine WpL.v (V.cmp) ?_
          refine WpL.v (V.pT) ?_
          refine WpL.v (V.pF) ?_
          apply WpL.nil
          apply Out.seqN
          refine Wp.c (fun hpb1 => ?_) (fun hpb1 => ?_)
          (try simp only [decide_eq_true_eq, decide_eq_false_iff_not, Bool.not_eq_true', Bool.not_eq_false', Bool.not_eq_true, Bool.not_eq_false, not_true_eq_false, not_false_eq_true, reduceCtorEq] at hpb1)
          apply Wp.seq
          apply Wp.seq
          apply Wp.region
          refine WpL.v (V.mv) ?_
          refine WpL.o (Op1.callT rfl (hYY) (by (repeat (first | exact Sel.nil | exact Rem.here | apply Sel.cons | apply Rem.there))) ?_)
          rintro v2 s3 ⟨rfl, rfl⟩
          refine incat ?_
          refine WpL.v (V.mv) ?_
          refine WpL.v (V.cmpS) ?_
          refine WpL.v (V.mv) ?_
          refine WpL.pt (fun hpb4 => ?_) (fun hpb4 => ?_)
          (try simp only [decide_eq_true_eq, decide_eq_false_iff_not, Bool.not_eq_true', Bool.not_eq_false', Bool.not_eq_true, Bool.not_eq_false, not_true_eq_false, not_false_eq_true, reduceCtorEq] at hpb4)
          (try simp only [decide_eq_true_eq, decide_eq_false_iff_not, Bool.not_eq_true', Bool.not_eq_false', Bool.not_eq_true, Bool.not_eq_false, not_true_eq_false, not_false_eq_true, reduceCtorEq] at hpb4)
          refine WpL.v (V.mv) ?_
          refine WpL.o (Op1.callT rfl (hC2) (by (repeat (first | exact Sel.nil | exact Rem.here | apply Sel.cons | apply Rem.there))) ?_)
          rintro v5 s6 ⟨rfl, rfl⟩
          refine incat ?_
          refine WpL.v (V.mv) ?_
          refine WpL.v (V.cmp) ?_
          refine WpL.v (V.pF) ?_
          refine WpL.v (V.mv) ?_
          refine WpL.pt (fun hpb7 => ?_) (fun hpb7 => ?_)
          (try simp only [decide_eq_true_eq, decide_eq_false_iff_not, Bool.not_eq_true', Bool.not_eq_false', Bool.not_eq_true, Bool.not_eq_false, not_true_eq_false, not_false_eq_true, reduceCtorEq] at hpb7)
          (try simp only [decide_eq_true_eq, decide_eq_false_iff_not, Bool.not_eq_true', Bool.not_eq_false', Bool.not_eq_true, Bool.not_eq_false, not_true_eq_false, not_false_eq_true, reduceCtorEq] at hpb7)
          refine WpL.v (V.fa tb) ?_
          refine WpL.v (V.ld1 tb) ?_
          refine WpL.v (V.cmp) ?_
          refine WpL.v (V.mv) ?_
          refine WpL.pt (fun hpb8 => ?_) (fun hpb8 => ?_)
          (try simp only [decide_eq_true_eq, decide_eq_false_iff_not, Bool.not_eq_true', Bool.not_eq_false', Bool.not_eq_true, Bool.not_eq_false, not_true_eq_false, not_false_eq_true, reduceCtorEq] at hpb8)
          (exfalso; omega)
          (try simp only [decide_eq_true_eq, decide_eq_false_iff_not, Bool.not_eq_true', Bool.not_eq_false', Bool.not_eq_true, Bool.not_eq_false, not_true_eq_false, not_false_eq_true, reduceCtorEq] at hpb8)
          refine WpL.sk ?_
          refine WpL.sk ?_
          refine WpL.v (V.pF) ?_
          refine WpL.v (V.pF) ?_
          refine WpL.v (V.mv) ?_
          refine WpL.v (V.mv) ?_
          refine WpL.v (V.mv) ?_
          refine WpL.v (V.fa tb) ?_
          refine WpL.v (V.ld1 tb) ?_
          refine WpL.v (V.mv) ?_
          refine WpL.v (V.fa tb) ?_
          refine WpL.v (V.ld1 tb) ?_
          refine WpL.v (Val.lookE (l := rl) (k := x.Session) (vf := vN) LV.z hxl kokI map70 zero3 rfl rfl (by (repeat first | exact List.Mem.head _ | apply List.Mem.tail))) ?_
          refine WpL.v (V.cmp) ?_
          refine WpL.v (V.pT) ?_
          refine WpL.v (V.mv) ?_
          refine WpL.pt (fun hpb9 => ?_) (fun hpb9 => ?_)
          (try simp only [decide_eq_true_eq, decide_eq_false_iff_not, Bool.not_eq_true', Bool.not_eq_false', Bool.not_eq_true, Bool.not_eq_false, not_true_eq_false, not_false_eq_true, reduceCtorEq] at hpb9)
          (exfalso; omega)
          (try simp only [decide_eq_true_eq, decide_eq_false_iff_not, Bool.not_eq_true', Bool.not_eq_false', Bool.not_eq_true, Bool.not_eq_false, not_true_eq_false, not_false_eq_true, reduceCtorEq] at hpb9)
          refine WpL.sk ?_
          refine WpL.sk ?_
          refine WpL.sk ?_
          refine WpL.sk ?_
          refine WpL.sk ?_
          refine WpL.sk ?_
          refine WpL.sk ?_
          refine WpL.v (V.pF) ?_
          refine WpL.v (V.pF) ?_
          refine WpL.v (V.mv) ?_
          refine WpL.v (V.mv) ?_
          refine WpL.v (V.mv) ?_
          refine WpL.v (V.fa tb) ?_
          refine WpL.v (V.ld1 tb) ?_
          refine WpL.v (V.mv) ?_
          refine WpL.v (V.fa tb) ?_
          refine WpL.v (V.ld1 tb) ?_
          refine WpL.v (Val.lookE (l := rl) (k := x.Session) (vf := vN) LV.z hxl kokI map70 zero3 rfl rfl (by (repeat first | exact List.Mem.head _ | apply List.Mem.tail))) ?_
          refine WpL.v (V.cmp) ?_
          refine WpL.v (V.pT) ?_
          refine WpL.v (V.mv) ?_
          refine WpL.pt (fun hpb10 => ?_) (fun hpb10 => ?_)
          (try simp only [decide_eq_true_eq, decide_eq_false_iff_not, Bool.not_eq_true', Bool.not_eq_false', Bool.not_eq_true, Bool.not_eq_false, not_true_eq_false, not_false_eq_true, reduceCtorEq] at hpb10)
          refine WpL.v (V.fa tb) ?_
          refine WpL.v (V.ld1 tb) ?_
          refine WpL.v (V.cmp) ?_
          refine WpL.v (V.pT) ?_
          refine WpL.v (V.pF) ?_
          apply WpL.nil
          apply Out.seqN
          refine Wp.c (fun hpb11 => ?_) (fun hpb11 => ?_)
          (try simp only [decide_eq_true_eq, decide_eq_false_iff_not, Bool.not_eq_true', Bool.not_eq_false', Bool.not_eq_true, Bool.not_eq_false, not_true_eq_false, not_false_eq_true, reduceCtorEq] at hpb11)
          (try simp only [decide_eq_true_eq, decide_eq_false_iff_not, Bool.not_eq_true', Bool.not_eq_false', Bool.not_eq_true, Bool.not_eq_false, not_true_eq_false, not_false_eq_true, reduceCtorEq] at hpb11)
          apply Wp.skip
          apply Out.seqN
          apply Wp.exit
          apply Out.seqE
          apply Out.blockE
          apply Out.seqN
          apply Wp.region
          refine WpL.v (V.add) ?_
          refine WpL.v (V.mv) ?_
          apply WpL.nil
          rotate_left
          (try simp only [decide_eq_true_eq, decide_eq_false_iff_not, Bool.not_eq_true', Bool.not_eq_false', Bool.not_eq_true, Bool.not_eq_false, not_true_eq_false, not_false_eq_true, reduceCtorEq] at hpb10)
          (exfalso; omega)
          (try simp only [decide_eq_true_eq, decide_eq_false_iff_not, Bool.not_eq_true', Bool.not_eq_false', Bool.not_eq_true, Bool.not_eq_false, not_true_eq_false, not_false_eq_true, reduceCtorEq] at hpb1)
          (exfalso; omega)
          (try simp only [decide_eq_true_eq, decide_eq_false_iff_not, Bool.not_eq_true', Bool.not_eq_false', Bool.not_eq_true, Bool.not_eq_false, not_true_eq_false, not_false_eq_true, reduceCtorEq] at hpb0)
          (exfalso; omega)
          all_goals exact Out.ag hK ⟨k + 1, s, sl'31, g'31, rl, (.slice ao31 len31 cap31, []) :: g3⟩ ⟨by show k + 1 ≤ _; omega, hi2, hz2, hh2, hj2⟩ (by show xs.length - (k + 1) < xs.length - k; omega)
        · rw [if_neg h1] at e1
          subst e1
          have hS := refSame_self _ ⟨err0, val0, ver0, keys0⟩ _ _ hK1 hK2
          dsimp only at *
          apply Wp.seq
          apply Wp.region
          refine WpL.v (V.ldA tb) ?_
          refine WpL.o (Op1.fn rfl (hGd) ?_)
          refine WpL.v (V.as) ?_
          apply WpL.nil
          apply Out.seqN
          apply Wp.seq
          apply Wp.seq
          apply Wp.region
          refine WpL.v (V.mv) ?_
          refine WpL.v (V.not) ?_
          refine WpL.v (V.mv) ?_
          refine WpL.v (V.fa tb) ?_
          refine WpL.v (V.ld1 tb) ?_
          refine WpL.v (V.cmp) ?_
          refine WpL.v (V.mv) ?_
          refine WpL.pt (fun hpc0 => ?_) (fun hpc0 => ?_)
          (try simp only [decide_eq_true_eq, decide_eq_false_iff_not, Bool.not_eq_true', Bool.not_eq_false', Bool.not_eq_true, Bool.not_eq_false, not_true_eq_false, not_false_eq_true, reduceCtorEq] at hpc0)
          refine WpL.v (V.fa tb) ?_
          refine WpL.v (V.ld1 tb) ?_
          refine WpL.v (V.mv) ?_
          refine WpL.v (V.fa tb) ?_
          refine WpL.v (V.ld1 tb) ?_
          refine WpL.v (Val.lookE (l := rl) (k := x.Session) (vf := vN) LV.z hxl kokI map70 zero3 rfl rfl (by (repeat first | exact List.Mem.head _ | apply List.Mem.tail))) ?_
          refine WpL.v (V.cmp) ?_
          refine WpL.v (V.pT) ?_
          refine WpL.v (V.pF) ?_
          apply WpL.nil
          apply Out.seqN
          refine Wp.c (fun hpc1 => ?_) (fun hpc1 => ?_)
          (try simp only [decide_eq_true_eq, decide_eq_false_iff_not, Bool.not_eq_true', Bool.not_eq_false', Bool.not_eq_true, Bool.not_eq_false, not_true_eq_false, not_false_eq_true, reduceCtorEq] at hpc1)
          apply Wp.seq
          apply Wp.seq
          apply Wp.region
          refine WpL.v (V.mv) ?_
          refine WpL.o (Op1.callT rfl (hYY) (by (repeat (first | exact Sel.nil | exact Rem.here | apply Sel.cons | apply Rem.there))) ?_)
          rintro v2 s3 ⟨rfl, rfl⟩
          refine incat ?_
          refine WpL.v (V.mv) ?_
          refine WpL.v (V.cmpS) ?_
          refine WpL.v (V.mv) ?_
          refine WpL.pt (fun hpc4 => ?_) (fun hpc4 => ?_)
          (try simp only [decide_eq_true_eq, decide_eq_false_iff_not, Bool.not_eq_true', Bool.not_eq_false', Bool.not_eq_true, Bool.not_eq_false, not_true_eq_false, not_false_eq_true, reduceCtorEq] at hpc4)
          (try simp only [decide_eq_true_eq, decide_eq_false_iff_not, Bool.not_eq_true', Bool.not_eq_false', Bool.not_eq_true, Bool.not_eq_false, not_true_eq_false, not_false_eq_true, reduceCtorEq] at hpc4)
          refine WpL.v (V.mv) ?_
          refine WpL.o (Op1.callT rfl (hC2) (by (repeat (first | exact Sel.nil | exact Rem.here | apply Sel.cons | apply Rem.there))) ?_)
          rintro v5 s6 ⟨rfl, rfl⟩
          refine incat ?_
          refine WpL.v (V.mv) ?_
          refine WpL.v (V.cmp) ?_
          refine WpL.v (V.pF) ?_
          refine WpL.v (V.mv) ?_
          refine WpL.pt (fun hpc7 => ?_) (fun hpc7 => ?_)
          (try simp only [decide_eq_true_eq, decide_eq_false_iff_not, Bool.not_eq_true', Bool.not_eq_false', Bool.not_eq_true, Bool.not_eq_false, not_true_eq_false, not_false_eq_true, reduceCtorEq] at hpc7)
          (try simp only [decide_eq_true_eq, decide_eq_false_iff_not, Bool.not_eq_true', Bool.not_eq_false', Bool.not_eq_true, Bool.not_eq_false, not_true_eq_false, not_false_eq_true, reduceCtorEq] at hpc7)
          refine WpL.v (V.fa tb) ?_
          refine WpL.v (V.ld1 tb) ?_
          refine WpL.v (V.cmp) ?_
          refine WpL.v (V.mv) ?_
          refine WpL.pt (fun hpc8 => ?_) (fun hpc8 => ?_)
          (try simp only [decide_eq_true_eq, decide_eq_false_iff_not, Bool.not_eq_true', Bool.not_eq_false', Bool.not_eq_true, Bool.not_eq_false, not_true_eq_false, not_false_eq_true, reduceCtorEq] at hpc8)
          refine WpL.v (V.mv) ?_
          refine WpL.v (V.not) ?_
          refine WpL.v (V.pT) ?_
          refine WpL.v (V.pF) ?_
          refine WpL.v (V.mv) ?_
          refine WpL.v (V.mv) ?_
          refine WpL.v (V.mv) ?_
          refine WpL.v (V.fa tb) ?_
          refine WpL.v (V.ld1 tb) ?_
          refine WpL.v (V.mv) ?_
          refine WpL.v (V.fa tb) ?_
          refine WpL.v (V.ld1 tb) ?_
          refine WpL.v (Val.lookE (l := rl) (k := x.Session) (vf := vN) LV.z hxl kokI map70 zero3 rfl rfl (by (repeat first | exact List.Mem.head _ | apply List.Mem.tail))) ?_
          refine WpL.v (V.cmp) ?_
          refine WpL.v (V.pT) ?_
          refine WpL.v (V.mv) ?_
          refine WpL.pt (fun hpc9 => ?_) (fun hpc9 => ?_)
          (try simp only [decide_eq_true_eq, decide_eq_false_iff_not, Bool.not_eq_true', Bool.not_eq_false', Bool.not_eq_true, Bool.not_eq_false, not_true_eq_false, not_false_eq_true, reduceCtorEq] at hpc9)
          refine WpL.v (V.ldA tb) ?_
          refine WpL.v (V.mv) ?_
          refine WpL.v (V.fa tb) ?_
          refine WpL.v (V.ld1 tb) ?_
          refine WpL.v (Val.lookE (l := rl) (k := x.Session) (vf := vR) LV.z hxl kokI map71 zero39 rfl rfl (by (repeat first | exact List.Mem.head _ | apply List.Mem.tail))) ?_
          refine WpL.o (Op1.callT rfl (hS) (by (repeat (first | exact Sel.nil | exact Rem.here | apply Sel.cons | apply Rem.there))) ?_)
          rintro v10 s11 ⟨rfl, rfl⟩
          refine incat ?_
          refine WpL.v (V.not) ?_
          refine WpL.v (V.pT) ?_
          refine WpL.v (V.pF) ?_
          refine WpL.v (V.mv) ?_
          refine WpL.v (V.mv) ?_
          refine WpL.v (V.mv) ?_
          refine WpL.v (V.fa tb) ?_
          refine WpL.v (V.ld1 tb) ?_
          refine WpL.v (V.mv) ?_
          refine WpL.v (V.fa tb) ?_
          refine WpL.v (V.ld1 tb) ?_
          refine WpL.v (Val.lookE (l := rl) (k := x.Session) (vf := vN) LV.z hxl kokI map70 zero3 rfl rfl (by (repeat first | exact List.Mem.head _ | apply List.Mem.tail))) ?_
          refine WpL.v (V.cmp) ?_
          refine WpL.v (V.pT) ?_
          refine WpL.v (V.mv) ?_
          refine WpL.pt (fun hpc12 => ?_) (fun hpc12 => ?_)
          (try simp only [decide_eq_true_eq, decide_eq_false_iff_not, Bool.not_eq_true', Bool.not_eq_false', Bool.not_eq_true, Bool.not_eq_false, not_true_eq_false, not_false_eq_true, reduceCtorEq] at hpc12)
          (exfalso; omega)
          (try simp only [decide_eq_true_eq, decide_eq_false_iff_not, Bool.not_eq_true', Bool.not_eq_false', Bool.not_eq_true, Bool.not_eq_false, not_true_eq_false, not_false_eq_true, reduceCtorEq] at hpc12)
          refine WpL.sk ?_
          refine WpL.sk ?_
          refine WpL.sk ?_
          refine WpL.v (V.pF) ?_
          refine WpL.v (V.pF) ?_
          apply WpL.nil
          apply Out.seqN
          refine Wp.cF ?_
          apply Wp.skip
          apply Out.seqN
          apply Wp.exit
          apply Out.seqE
          apply Out.blockE
          apply Out.seqN
          apply Wp.region
          refine WpL.v (V.add) ?_
          refine WpL.v (V.mv) ?_
          apply WpL.nil
          rotate_left
          (try simp only [decide_eq_true_eq, decide_eq_false_iff_not, Bool.not_eq_true', Bool.not_eq_false', Bool.not_eq_true, Bool.not_eq_false, not_true_eq_false, not_false_eq_true, reduceCtorEq] at hpc9)
          (exfalso; omega)
          (try simp only [decide_eq_true_eq, decide_eq_false_iff_not, Bool.not_eq_true', Bool.not_eq_false', Bool.not_eq_true, Bool.not_eq_false, not_true_eq_false, not_false_eq_true, reduceCtorEq] at hpc8)
          refine WpL.sk ?_
          refine WpL.sk ?_
          refine WpL.v (V.pF) ?_
          refine WpL.v (V.pF) ?_
          refine WpL.v (V.mv) ?_
          refine WpL.v (V.mv) ?_
          refine WpL.v (V.mv) ?_
          refine WpL.v (V.fa tb) ?_
          refine WpL.v (V.ld1 tb) ?_
          refine WpL.v (V.mv) ?_
          refine WpL.v (V.fa tb) ?_
          refine WpL.v (V.ld1 tb) ?_
          refine WpL.v (Val.lookE (l := rl) (k := x.Session) (vf := vN) LV.z hxl kokI map70 zero3 rfl rfl (by (repeat first | exact List.Mem.head _ | apply List.Mem.tail))) ?_
          refine WpL.v (V.cmp) ?_
          refine WpL.v (V.pT) ?_
          refine WpL.v (V.mv) ?_
          refine WpL.pt (fun hpc13 => ?_) (fun hpc13 => ?_)
          (try simp only [decide_eq_true_eq, decide_eq_false_iff_not, Bool.not_eq_true', Bool.not_eq_false', Bool.not_eq_true, Bool.not_eq_false, not_true_eq_false, not_false_eq_true, reduceCtorEq] at hpc13)
          refine WpL.v (V.ldA tb) ?_
          refine WpL.v (V.mv) ?_
          refine WpL.v (V.fa tb) ?_
          refine WpL.v (V.ld1 tb) ?_
          refine WpL.v (Val.lookE (l := rl) (k := x.Session) (vf := vR) LV.z hxl kokI map71 zero39 rfl rfl (by (repeat first | exact List.Mem.head _ | apply List.Mem.tail))) ?_
          refine WpL.o (Op1.callT rfl (hS) (by (repeat (first | exact Sel.nil | exact Rem.here | apply Sel.cons | apply Rem.there))) ?_)
          rintro v14 s15 ⟨rfl, rfl⟩
          refine incat ?_
          refine WpL.v (V.not) ?_
          refine WpL.v (V.pT) ?_
          refine WpL.v (V.pF) ?_
          refine WpL.v (V.mv) ?_
          refine WpL.v (V.mv) ?_
          refine WpL.v (V.mv) ?_
          refine WpL.v (V.fa tb) ?_
          refine WpL.v (V.ld1 tb) ?_
          refine WpL.v (V.mv) ?_
          refine WpL.v (V.fa tb) ?_
          refine WpL.v (V.ld1 tb) ?_
          refine WpL.v (Val.lookE (l := rl) (k := x.Session) (vf := vN) LV.z hxl kokI map70 zero3 rfl rfl (by (repeat first | exact List.Mem.head _ | apply List.Mem.tail))) ?_
          refine WpL.v (V.cmp) ?_
          refine WpL.v (V.pT) ?_
          refine WpL.v (V.mv) ?_
          refine WpL.pt (fun hpc16 => ?_) (fun hpc16 => ?_)
          (try simp only [decide_eq_true_eq, decide_eq_false_iff_not, Bool.not_eq_true', Bool.not_eq_false', Bool.not_eq_true, Bool.not_eq_false, not_true_eq_false, not_false_eq_true, reduceCtorEq] at hpc16)
          (exfalso; omega)
          (try simp only [decide_eq_true_eq, decide_eq_false_iff_not, Bool.not_eq_true', Bool.not_eq_false', Bool.not_eq_true, Bool.not_eq_false, not_true_eq_false, not_false_eq_true, reduceCtorEq] at hpc16)
          refine WpL.sk ?_
          refine WpL.sk ?_
          refine WpL.sk ?_
          refine WpL.v (V.pF) ?_
          refine WpL.v (V.pF) ?_
          apply WpL.nil
          apply Out.seqN
          refine Wp.cF ?_
          apply Wp.skip
          apply Out.seqN
          apply Wp.exit
          apply Out.seqE
          apply Out.blockE
          apply Out.seqN
          apply Wp.region
          refine WpL.v (V.add) ?_
          refine WpL.v (V.mv) ?_
          apply WpL.nil
          rotate_left
          (try simp only [decide_eq_true_eq, decide_eq_false_iff_not, Bool.not_eq_true', Bool.not_eq_false', Bool.not_eq_true, Bool.not_eq_false, not_true_eq_false, not_false_eq_true, reduceCtorEq] at hpc13)
          (exfalso; omega)
          (try simp only [decide_eq_true_eq, decide_eq_false_iff_not, Bool.not_eq_true', Bool.not_eq_false', Bool.not_eq_true, Bool.not_eq_false, not_true_eq_false, not_false_eq_true, reduceCtorEq] at hpc1)
          (exfalso; omega)
          (try simp only [decide_eq_true_eq, decide_eq_false_iff_not, Bool.not_eq_true', Bool.not_eq_false', Bool.not_eq_true, Bool.not_eq_false, not_true_eq_false, not_false_eq_true, reduceCtorEq] at hpc0)
          (exfalso; omega)
          all_goals exact Out.ag hK ⟨k + 1, s, sl'31, g'31, rl, (.slice ao31 len31 cap31, keys0) :: g3⟩ ⟨by show k + 1 ≤ _; omega, hi2, hz2, hh2, hj2⟩ (by show xs.length - (k + 1) < xs.length - k; omega)
      | true =>
        have e1 := doC_act hg ha
        have h0 := of_decide_eq_true ha
        rw [hl1] at h0
        rw [hds] at e1
        subst e1
        dsimp only at *
        generalize hdA : doA s.l x = dA at *
        by_cases h9 : x.Session = 0
        · have hu : updC s.ss x dA.rv = s.ss := by unfold updC; rw [if_pos h9]
          rw [hu] at hi2 hz2 hh2
          apply Wp.seq
          apply Wp.region
          refine WpL.v (V.ldA tb) ?_
          refine WpL.o (Op1.fn rfl (hGd) ?_)
          refine WpL.v (V.as) ?_
          apply WpL.nil
          apply Out.seqN
          apply Wp.seq
          apply Wp.seq
          apply Wp.region
          refine WpL.v (V.mv) ?_
          refine WpL.v (V.not) ?_
          refine WpL.v (V.mv) ?_
          refine WpL.v (V.fa tb) ?_
          refine WpL.v (V.ld1 tb) ?_
          refine WpL.v (V.cmp) ?_
          refine WpL.v (V.mv) ?_
          refine WpL.pt (fun hpd0 => ?_) (fun hpd0 => ?_)
          (try simp only [decide_eq_true_eq, decide_eq_false_iff_not, Bool.not_eq_true', Bool.not_eq_false', Bool.not_eq_true, Bool.not_eq_false, not_true_eq_false, not_false_eq_true, reduceCtorEq] at hpd0)
          (exfalso; omega)
          (try simp only [decide_eq_true_eq, decide_eq_false_iff_not, Bool.not_eq_true', Bool.not_eq_false', Bool.not_eq_true, Bool.not_eq_false, not_true_eq_false, not_false_eq_true, reduceCtorEq] at hpd0)
          refine WpL.sk ?_
          refine WpL.sk ?_
          refine WpL.sk ?_
          refine WpL.sk ?_
          refine WpL.sk ?_
          refine WpL.sk ?_
          refine WpL.sk ?_
          refine WpL.v (V.pF) ?_
          refine WpL.v (V.pF) ?_
          apply WpL.nil
          apply Out.seqN
          refine Wp.cF ?_
          apply Wp.skip
          apply Out.seqN
          apply Wp.seq
          apply Wp.seq
          apply Wp.region
          refine WpL.v (V.mv) ?_
          refine WpL.o (Op1.callT rfl (hC2) (by (repeat (first | exact Sel.nil | exact Rem.here | apply Sel.cons | apply Rem.there))) ?_)
          rintro v1 s2 ⟨rfl, rfl⟩
          refine incat ?_
          refine WpL.v (V.mv) ?_
          refine WpL.v (V.add) ?_
          refine WpL.v (V.cmp) ?_
          apply WpL.nil
          apply Out.seqN
          refine Wp.c (fun hpd3 => ?_) (fun hpd3 => ?_)
          (try simp only [decide_eq_true_eq, decide_eq_false_iff_not, Bool.not_eq_true', Bool.not_eq_false', Bool.not_eq_true, Bool.not_eq_false, not_true_eq_false, not_false_eq_true, reduceCtorEq] at hpd3)
          (try simp only [decide_eq_true_eq, decide_eq_false_iff_not, Bool.not_eq_true', Bool.not_eq_false', Bool.not_eq_true, Bool.not_eq_false, not_true_eq_false, not_false_eq_true, reduceCtorEq] at hpd3)
          apply Wp.skip
          apply Out.seqN
          apply Wp.seq
          apply Wp.region
          refine WpL.v (V.fa tb) ?_
          refine WpL.v (V.ld1 tb) ?_
          refine WpL.v (V.cmp) ?_
          apply WpL.nil
          apply Out.seqN
          refine Wp.c (fun hpd4 => ?_) (fun hpd4 => ?_)
          (try simp only [decide_eq_true_eq, decide_eq_false_iff_not, Bool.not_eq_true', Bool.not_eq_false', Bool.not_eq_true, Bool.not_eq_false, not_true_eq_false, not_false_eq_true, reduceCtorEq] at hpd4)
          (exfalso; omega)
          (try simp only [decide_eq_true_eq, decide_eq_false_iff_not, Bool.not_eq_true', Bool.not_eq_false', Bool.not_eq_true, Bool.not_eq_false, not_true_eq_false, not_false_eq_true, reduceCtorEq] at hpd4)
          apply Wp.skip
          apply Out.blockN
          apply Out.seqN
          apply Wp.region
          refine WpL.v (V.add) ?_
          refine WpL.v (V.mv) ?_
          apply WpL.nil
          all_goals exact Out.ag hK ⟨k + 1, ⟨dA.l, s.ss, s.cnt + 1⟩, sl'31, g'31, rl, (.slice ao31 len31 cap31, dA.rv.keys) :: g3⟩ ⟨by show k + 1 ≤ _; omega, hi2, hz2, hh2, hj2⟩ (by show xs.length - (k + 1) < xs.length - k; omega)
        · have hu : updC s.ss x dA.rv = mput s.ss x.Session (x.Number, dA.rv) := by unfold updC; rw [if_neg h9]
          rw [hu] at hi2 hz2 hh2
          have hj3 := hj2.put x.Session (⟨x.Number, dA.rv.err, dA.rv.val, dA.rv.ver, dA.rv.keys, .slice ao31 len31 cap31⟩ : LV) List.mem_cons_self
          apply Wp.seq
          apply Wp.region
          refine WpL.v (V.ldA tb) ?_
          refine WpL.o (Op1.fn rfl (hGd) ?_)
          refine WpL.v (V.as) ?_
          apply WpL.nil
          apply Out.seqN
          apply Wp.seq
          apply Wp.seq
          apply Wp.region
          refine WpL.v (V.mv) ?_
          refine WpL.v (V.not) ?_
          refine WpL.v (V.mv) ?_
          refine WpL.v (V.fa tb) ?_
          refine WpL.v (V.ld1 tb) ?_
          refine WpL.v (V.cmp) ?_
          refine WpL.v (V.mv) ?_
          refine WpL.pt (fun hpe0 => ?_) (fun hpe0 => ?_)
          (try simp only [decide_eq_true_eq, decide_eq_false_iff_not, Bool.not_eq_true', Bool.not_eq_false', Bool.not_eq_true, Bool.not_eq_false, not_true_eq_false, not_false_eq_true, reduceCtorEq] at hpe0)
          refine WpL.v (V.fa tb) ?_
          refine WpL.v (V.ld1 tb) ?_
          refine WpL.v (V.mv) ?_
          refine WpL.v (V.fa tb) ?_
          refine WpL.v (V.ld1 tb) ?_
          refine WpL.v (Val.lookE (l := rl) (k := x.Session) (vf := vN) LV.z hxl kokI map70 zero3 rfl rfl (by (repeat first | exact List.Mem.head _ | apply List.Mem.tail))) ?_
          refine WpL.v (V.cmp) ?_
          refine WpL.v (V.pT) ?_
          refine WpL.v (V.pF) ?_
          apply WpL.nil
          apply Out.seqN
          refine Wp.c (fun hpe1 => ?_) (fun hpe1 => ?_)
          (try simp only [decide_eq_true_eq, decide_eq_false_iff_not, Bool.not_eq_true', Bool.not_eq_false', Bool.not_eq_true, Bool.not_eq_false, not_true_eq_false, not_false_eq_true, reduceCtorEq] at hpe1)
          (exfalso; omega)
          (try simp only [decide_eq_true_eq, decide_eq_false_iff_not, Bool.not_eq_true', Bool.not_eq_false', Bool.not_eq_true, Bool.not_eq_false, not_true_eq_false, not_false_eq_true, reduceCtorEq] at hpe1)
          apply Wp.skip
          apply Out.seqN
          apply Wp.seq
          apply Wp.seq
          apply Wp.region
          refine WpL.v (V.mv) ?_
          refine WpL.o (Op1.callT rfl (hC2) (by (repeat (first | exact Sel.nil | exact Rem.here | apply Sel.cons | apply Rem.there))) ?_)
          rintro v2 s3 ⟨rfl, rfl⟩
          refine incat ?_
          refine WpL.v (V.mv) ?_
          refine WpL.v (V.add) ?_
          refine WpL.v (V.cmp) ?_
          apply WpL.nil
          apply Out.seqN
          refine Wp.c (fun hpe4 => ?_) (fun hpe4 => ?_)
          (try simp only [decide_eq_true_eq, decide_eq_false_iff_not, Bool.not_eq_true', Bool.not_eq_false', Bool.not_eq_true, Bool.not_eq_false, not_true_eq_false, not_false_eq_true, reduceCtorEq] at hpe4)
          (try simp only [decide_eq_true_eq, decide_eq_false_iff_not, Bool.not_eq_true', Bool.not_eq_false', Bool.not_eq_true, Bool.not_eq_false, not_true_eq_false, not_false_eq_true, reduceCtorEq] at hpe4)
          apply Wp.skip
          apply Out.seqN
          apply Wp.seq
          apply Wp.region
          refine WpL.v (V.fa tb) ?_
          refine WpL.v (V.ld1 tb) ?_
          refine WpL.v (V.cmp) ?_
          apply WpL.nil
          apply Out.seqN
          refine Wp.c (fun hpe5 => ?_) (fun hpe5 => ?_)
          (try simp only [decide_eq_true_eq, decide_eq_false_iff_not, Bool.not_eq_true', Bool.not_eq_false', Bool.not_eq_true, Bool.not_eq_false, not_true_eq_false, not_false_eq_true, reduceCtorEq] at hpe5)
          apply Wp.seq
          apply Wp.region
          refine WpL.v (V.mv) ?_
          refine WpL.v (V.fa tb) ?_
          refine WpL.v (V.ld1 tb) ?_
          refine WpL.v (V.fa tb) ?_
          refine WpL.v (V.ld1 tb) ?_
          refine WpL.o (Op1.updM (l := rl) (k := x.Session) (v := (⟨x.Number, dA.rv.err, dA.rv.val, dA.rv.ver, dA.rv.keys, .slice ao31 len31 cap31⟩ : LV)) (vf := vN) kokI map70 rfl rfl rfl (by (repeat first | exact Upd.here _ _ _ | apply Upd.there)) ?_)
          apply WpL.nil
          apply Out.seqN
          apply Wp.region
          refine WpL.v (V.mv) ?_
          refine WpL.v (V.fa tb) ?_
          refine WpL.v (V.ld1 tb) ?_
          refine WpL.v (V.ldA tb) ?_
          refine WpL.o (Op1.updM (l := rl) (k := x.Session) (v := (⟨x.Number, dA.rv.err, dA.rv.val, dA.rv.ver, dA.rv.keys, .slice ao31 len31 cap31⟩ : LV)) (vf := vR) kokI map71 rfl rfl rfl (by (repeat first | exact Upd.here _ _ _ | apply Upd.there)) ?_)
          apply WpL.nil
          apply Out.blockN
          apply Out.seqN
          apply Wp.region
          refine WpL.v (V.add) ?_
          refine WpL.v (V.mv) ?_
          apply WpL.nil
          rotate_left
          (try simp only [decide_eq_true_eq, decide_eq_false_iff_not, Bool.not_eq_true', Bool.not_eq_false', Bool.not_eq_true, Bool.not_eq_false, not_true_eq_false, not_false_eq_true, reduceCtorEq] at hpe5)
          (exfalso; omega)
          (try simp only [decide_eq_true_eq, decide_eq_false_iff_not, Bool.not_eq_true', Bool.not_eq_false', Bool.not_eq_true, Bool.not_eq_false, not_true_eq_false, not_false_eq_true, reduceCtorEq] at hpe0)
          (exfalso; omega)
          all_goals exact Out.ag hK ⟨k + 1, ⟨dA.l, mput s.ss x.Session (x.Number, dA.rv), s.cnt + 1⟩, sl'31, g'31, mput rl x.Session ⟨x.Number, dA.rv.err, dA.rv.val, dA.rv.ver, dA.rv.keys, .slice ao31 len31 cap31⟩, (.slice ao31 len31 cap31, dA.rv.keys) :: g3⟩ ⟨by show k + 1 ≤ _; omega, hi2, hz2, hh2, hj3⟩ (by show xs.length - (k + 1) < xs.length - k; omega)
  · obtain rfl : k = xs.length := by omega
    clear hK
    apply Wp.seq
    apply Wp.region
    refine WpL.v (V.cmp) ?_
    apply WpL.nil
    apply Out.seqN
    apply Wp.seq
    refine Wp.c (fun hp90 => ?_) (fun hp90 => ?_)
    (try simp only [decide_eq_true_eq, decide_eq_false_iff_not, Bool.not_eq_true', Bool.not_eq_false', Bool.not_eq_true, Bool.not_eq_false, not_true_eq_false, not_false_eq_true, reduceCtorEq] at hp90)
    (exfalso; omega)
    (try simp only [decide_eq_true_eq, decide_eq_false_iff_not, Bool.not_eq_true', Bool.not_eq_false', Bool.not_eq_true, Bool.not_eq_false, not_true_eq_false, not_false_eq_true, reduceCtorEq] at hp90)
    apply Wp.exit
    apply Out.seqE
    apply Out.seqE
    apply Out.blockE
    apply Out.seqN
    apply Wp.seq
    apply Wp.region
    refine WpL.v (V.as) ?_
    apply WpL.nil
    apply Out.seqN
    apply Wp.ret
    refine Out.f1 rfl ResIs.t ⟨?_, rfl⟩
    exact rfl
open Go Go.ChangeShapes Go.WideShapes Go.ChangeAt Go.RowKit
theorem clientOnce_read : (Try.f10.params.toList.all fun t => Try.prog.readableRec t && decide (t < Try.prog.types.size)) = true := by kernel_rfl
theorem clientOnce_lifted (os : Go.Os) (started : os.Started) (H : Type) (enc : Go.TypeId × Go.Value → H) :
    ReturnsInHanded {} Try.checked os 10 .any (Rows.clientOnceSpec.pre6 enc Try.prog Try.f10 Rows.clientOnceRow.domain false) (Rows.clientOnceSpec.post enc Try.prog Try.f10 false true false false) := by
  refine returnsInHanded_of_change_sized (C := Try.checked) own started (by kernel_rfl) Try.func10
    (ChangeSpec.witness6 (enc := enc) (C := Try.checked) false ⟨#[], #[.slice none 0 0], []⟩ 8 (by kernel_rfl) (by kernel_rfl) (by kernel_rfl) (by kernel_rfl)) ?_
  intro W base args ds gs before hval0 hW hcnd hsz0 _
  have hsz : (DataW.weightsEach Try.prog (Try.f10.params.toList ++ Rows.clientOnceSpec.plain.varTypes Try.prog) (ds ++ gs)).all (· ≤ reachBytes) = true := hsz0
  have hval : ∀ (j : Nat) t v, Try.f10.params[j]? = some t → args[j]? = some v → Value.okWide Try.prog W .any base t v := hval0
  have hW' := hW
  obtain ⟨p, q, hA0, hV, rfl, hfz, hnd⟩ := hW
  have hA1 : DataW.TrodAll enc Try.prog W 0 (fun _ => true) true Try.f10.params.toList args.toList ds p := hA0
  have hA := hA1
  rw [Try.params10] at hA hval hsz
  obtain ⟨v0, vs0, d0, ds0, p0, q0, hargs, rfl, rfl, h0, r0⟩ := trodAll_cons hA
  obtain ⟨rfl, rfl, rfl⟩ := trodAll_nil r0
  obtain rfl : args = #[v0] := by cases args; simp_all
  obtain ⟨rfl, rfl⟩ := trodVars_none hV
  obtain ⟨ao0, b0, off0, len0, cap0, xs0, rfl, hl0, hlc0, hcm0, ha0, hs0, hf0, hby0⟩ := open_slice_plain Try.underlying22 TDeed.leaves (by kernel_rfl) (by decide) (hval 0 22 v0 rfl rfl) h0 (sizedAll hsz 0 rfl rfl)
  obtain ⟨x0, rfl, w0⟩ := fits_map TDeed.c TDeed.wf hf0 TDeed.fit
  obtain rfl : len0 = x0.length := by simpa using hl0.symm
  simp only [List.append_nil] at hW' hA1
  have hbl : ∀ p : Nat × Nat, p ∈ [(x0.length, b0)] → 0 < p.1 → p.2 < W.heap.size := by
    intro p hp h0
    simp only [List.mem_cons, List.mem_nil_iff, or_false] at hp
    rcases hp with rfl
    · exact (ha0 h0).2
  have hR0 : Rd (snap W (blocksOf [(x0.length, b0)])) ao0 x0.length b0 off0 6 (x0.map TDeed.c) := Rd.snap (by simp) (Nat.le_trans hlc0 hcm0) ha0 hs0 (fun h => blocksOf_mem (len := x0.length) (by simp) h)
  refine (Ct.runSnap (blocksOf_nodup _) (blocksOf_lt hbl) (clientOnce_walk _ _ _ _ _ x0 (fun x hx => ⟨(w0 x hx).2.1, (w0 x hx).2.2.1⟩) hR0)).mono fun e W' hh => ?_
  obtain ⟨rfl, hS⟩ := hh
  exact ⟨_, rfl, post_law (P := Try.prog) (f := Try.f10) (tbool := 4) hW' hA1 rfl rfl hS laid clientOnce_read rfl Try.underlying4⟩
theorem clientOnce_joined : joinedFacts Try.prog 10 Try.f10 Rows.clientOnceSpec Rows.clientOnceRow = true := by
  unfold joinedFacts
  rewrite [head_enter, head_lift, head_make]
  kernel_rfl
theorem clientOnce_over : Rows.clientOnceRow.holds Try.pinned (OpenSpec.ofChange Rows.clientOnceSpec) :=
  OpenClaim.holds_of_wide 10 Try.f10 rfl rfl rfl rfl rfl rfl rfl ⟨rfl, rfl, rfl, rfl, rfl⟩ rfl rfl rfl rfl rfl (by kernel_rfl) Try.func10 clientOnce_joined
    (of_decide_eq_true (by kernel_rfl)) (by unfold Func.isWrapper; first | (rw [if_pos (by decide +kernel)]; kernel_rfl) | (rw [if_neg (by decide +kernel)]; exact ⟨rfl, rfl⟩))
    (fun os started H enc _ => clientOnce_lifted os started H enc)
/-- THE STATEMENT. -/
theorem clientOnce_proved : Rows.ClientOnceSaid := clientOnce_over
#print axioms clientOnce_proved

end Go.Proofs.Ytgihkocnmgkihaa
