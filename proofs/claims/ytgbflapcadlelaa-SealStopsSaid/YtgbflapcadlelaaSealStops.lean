/-
  The statement SealStops of layer 6: All may be left at any time; a text that is too long is not sealed. Proved for every input.
-/
import Derived.Test.YtgbflapcadlelaaRowB
import Derived.Test.YtgbflapcadlelaaHeapD
namespace Go.Proofs.Ytgbflapcadlelaa
open Go.HL
set_option linter.unusedSimpArgs false
set_option linter.unusedVariables false
set_option maxRecDepth 8000
theorem eql_self (a : Int) : cmpI .eql a a = some true := by simp [cmpI]
theorem neq_self (a : Int) : cmpI .neq a a = some false := by simp [cmpI]
theorem endsS_split : ∀ (ts : List (List UInt8)) (i : Nat) (pre : List (Nat × List UInt8)) (x : Nat × List UInt8) (post : List (Nat × List UInt8)), endsS i ts = pre ++ x :: post → x.1 = lastD i pre + (sealB x.2).length
  | [], i, pre, x, post, h => by simp [endsS] at h
  | t :: ts, i, [], x, post, h => by
    rw [endsS, List.nil_append, List.cons.injEq] at h
    rw [← h.1]; rfl
  | t :: ts, i, y :: pre, x, post, h => by
    rw [endsS, List.cons_append, List.cons.injEq] at h
    rw [lastD_cons, ← h.1]
    exact endsS_split ts _ pre x post h.2
theorem sealB_more {t : List UInt8} (h : t.length ≤ 16384) : t.length < (sealB t).length := by
  rw [sealB, if_neg (by omega)]
  simp only [List.length_append, fourB, List.length_cons, List.length_nil]
  omega
theorem sealB_over {t : List UInt8} (h : 16384 < t.length) : sealB t = [] := by rw [sealB, if_pos h]
theorem sealStops_walk (e : Ent) (ao : Option Go.Addr) (cap b off : Nat) (xs : List (List UInt8)) (hR : Rd e ao xs.length b off 1 (xs.map strc)) (hw : ∀ t, t ∈ xs → t.length ≤ 140737488351232) (stop n : Int) :
    Ct Try.prog 17 [.slice ao xs.length cap, I stop, I n] [e] (fun r σ' => r = B true ∧ σ' = [e]) := by
  have hm := hR.len
  have hG := great_any e ao cap b off xs hR hw
  cases hg : greatB xs with
  | true =>
    rw [hg] at hG
    refine Ct.enter Try.func17 rfl rfl fun W => ?_
    apply Wp.seq
    apply Wp.region
    refine WpL.o (O.bx1 (fun p3 => ?_))
    refine WpL.o (O.bx1 (fun p4 => ?_))
    refine WpL.o (O.al tb (fun p6 => ?_))
    apply WpL.nil
    apply Out.seqN
    apply Wp.seq
    apply Wp.seq
    apply Wp.region
    refine WpL.o (Op1.fn rfl (alive06) ?_)
    refine WpL.v (V.not) ?_
    apply WpL.nil
    apply Out.seqN
    refine Wp.cF ?_
    apply Wp.skip
    apply Out.seqN
    apply Wp.seq
    apply Wp.seq
    apply Wp.region
    refine WpL.v (V.ld1 tb) ?_
    refine WpL.o (Op1.callT rfl (hG) (by (repeat (first | exact Sel.nil | exact Rem.here | apply Sel.cons | apply Rem.there))) ?_)
    rintro v0 s1 ⟨rfl, rfl⟩
    refine incat ?_
    refine WpL.v (V.mv) ?_
    refine WpL.sk ?_
    refine WpL.sk ?_
    refine WpL.v (V.pT) ?_
    refine WpL.v (V.mv) ?_
    refine WpL.sk ?_
    refine WpL.sk ?_
    refine WpL.v (V.pT) ?_
    apply WpL.nil
    apply Out.seqN
    refine Wp.cT ?_
    apply Wp.seq
    apply Wp.region
    refine WpL.o (O.st1 tb ?_)
    apply WpL.nil
    apply Out.seqN
    apply Wp.ret
    apply Out.seqR
    refine Out.f1 rfl (ResIs.c1 tb) ⟨?_, rfl⟩
    exact rfl
  | false =>
    rw [hg] at hG
    obtain ⟨hn, ht⟩ := great_no hg
    have hall : ∀ t, t ∈ xs → t.length ≤ 16384 := fun t h => by have := ht t h; omega
    have hA := seal_row e ao cap b off xs hR hall (by omega)
    have hrl := rowB_len hall
    have has := allS_row hall
    refine Ct.enter Try.func17 rfl rfl fun W => ?_
    apply Wp.seq
    apply Wp.region
    refine WpL.o (O.bx1 (fun p3 => ?_))
    refine WpL.o (O.bx1 (fun p4 => ?_))
    refine WpL.o (O.al tb (fun p6 => ?_))
    apply WpL.nil
    apply Out.seqN
    apply Wp.seq
    apply Wp.seq
    apply Wp.region
    refine WpL.o (Op1.fn rfl (alive06) ?_)
    refine WpL.v (V.not) ?_
    apply WpL.nil
    apply Out.seqN
    refine Wp.cF ?_
    apply Wp.skip
    apply Out.seqN
    apply Wp.seq
    apply Wp.seq
    apply Wp.region
    refine WpL.v (V.ld1 tb) ?_
    refine WpL.o (Op1.callT rfl (hG) (by (repeat (first | exact Sel.nil | exact Rem.here | apply Sel.cons | apply Rem.there))) ?_)
    rintro v0 s1 ⟨rfl, rfl⟩
    refine incat ?_
    refine WpL.v (V.mv) ?_
    refine WpL.v (V.mv) ?_
    refine WpL.v (V.cmp) ?_
    refine WpL.v (V.pF) ?_
    refine WpL.v (V.mv) ?_
    refine WpL.pt (fun hc2 => ?_) (fun hc2 => ?_)
    (try simp only [decide_eq_true_eq, decide_eq_false_iff_not, Bool.not_eq_true', Bool.not_eq_false', Bool.not_eq_true, Bool.not_eq_false, not_true_eq_false, not_false_eq_true, reduceCtorEq] at hc2)
    refine WpL.sk ?_
    refine WpL.sk ?_
    refine WpL.v (V.pT) ?_
    apply WpL.nil
    apply Out.seqN
    refine Wp.cT ?_
    apply Wp.seq
    apply Wp.region
    refine WpL.o (O.st1 tb ?_)
    apply WpL.nil
    apply Out.seqN
    apply Wp.ret
    apply Out.seqR
    refine Out.f1 rfl (ResIs.c1 tb) ⟨?_, rfl⟩
    exact rfl
    (try simp only [decide_eq_true_eq, decide_eq_false_iff_not, Bool.not_eq_true', Bool.not_eq_false', Bool.not_eq_true, Bool.not_eq_false, not_true_eq_false, not_false_eq_true, reduceCtorEq] at hc2)
    refine WpL.v (V.mv) ?_
    refine WpL.v (V.cmp) ?_
    refine WpL.v (V.pF) ?_
    apply WpL.nil
    apply Out.seqN
    refine Wp.c (fun hc3 => ?_) (fun hc3 => ?_)
    (try simp only [decide_eq_true_eq, decide_eq_false_iff_not, Bool.not_eq_true', Bool.not_eq_false', Bool.not_eq_true, Bool.not_eq_false, not_true_eq_false, not_false_eq_true, reduceCtorEq] at hc3)
    apply Wp.seq
    apply Wp.region
    refine WpL.o (O.st1 tb ?_)
    apply WpL.nil
    apply Out.seqN
    apply Wp.ret
    apply Out.seqR
    refine Out.f1 rfl (ResIs.c1 tb) ⟨?_, rfl⟩
    exact rfl
    (try simp only [decide_eq_true_eq, decide_eq_false_iff_not, Bool.not_eq_true', Bool.not_eq_false', Bool.not_eq_true, Bool.not_eq_false, not_true_eq_false, not_false_eq_true, reduceCtorEq] at hc3)
    apply Wp.skip
    apply Out.seqN
    apply Wp.seq
    apply Wp.region
    refine WpL.v (V.ld1 tb) ?_
    refine WpL.o (Op1.callT rfl (hA) (by (repeat (first | exact Sel.nil | exact Rem.here | apply Sel.cons | apply Rem.there))) ?_)
    rintro v4 s5 ⟨rfl, rfl⟩
    refine incat ?_
    refine WpL.v (V.as) ?_
    apply WpL.nil
    apply Out.seqN
    apply Wp.seq
    apply Wp.region
    refine WpL.o (O.al tb (fun p8 => ?_))
    refine WpL.o (O.st1 tb ?_)
    apply WpL.nil
    apply Out.seqN
    apply Wp.seq
    apply Wp.region
    refine WpL.o (O.al tb (fun p9 => ?_))
    refine WpL.o (O.st1 tb ?_)
    apply WpL.nil
    apply Out.seqN
    apply Wp.seq
    apply Wp.seq
    apply Wp.region
    refine WpL.v (V.mv) ?_
    refine WpL.o (Op1.callT rfl (seal_all _) (by (repeat (first | exact Sel.nil | exact Rem.here | apply Sel.cons | apply Rem.there))) ?_)
    rintro v6 s7 ⟨q30, ⟨rfl, rfl⟩⟩
    refine incat ?_
    apply WpL.nil
    apply Out.seqN
    apply Wp.block
    obtain ⟨m, rfl⟩ : ∃ m : Nat, n = (m : Int) := ⟨n.toNat, by omega⟩
    have hzl : (List.replicate m (0 : UInt8)).length = m := List.length_replicate
    have hZ := seal_any (List.replicate m 0) (by omega)
    have hO := sealOpen (sealB (List.replicate m 0)) (by
      by_cases h : m ≤ 16384
      · have := sealB_len (t := List.replicate m 0) (by omega)
        omega
      · rw [sealB_over (by omega)]; simp)
    refine Wp.rg (seal_iter _ (rowB xs) (by omega)) (fun y : Nat × Nat => [cells p8 3 [I (y.1 : Int)], cells p9 3 [I (y.2 : Int)], e, cells p6 4 [B false], cells p4 3 [I stop], cells p3 76 [.slice ao xs.length cap]])
      (fun pre y => y.1 = pre.length ∧ y.2 = lastS pre) (fun ex pre y => ex = .exit 0 ∧ y.1 = pre.length ∧ (y.1 : Int) = stop) (0, 0) ⟨rfl, rfl⟩ ?_ ?_ ?_
    · rintro pre x post ⟨k, at_⟩ lp rec hx ⟨hk, hat⟩ hr W' D' K1 hK1
      dsimp only at hk hat
      subst hk hat
      rw [has] at hx
      have hend : x.1 = lastS pre + (sealB x.2).length := endsS_split xs 0 pre x post hx
      have hsnd := endsS_snd xs 0
      have hget : xs[pre.length]? = some x.2 := by rw [← hsnd, hx]; simp
      have hpl : pre.length < xs.length := (List.getElem?_eq_some_iff.1 hget).1
      have hxl := hall x.2 (List.mem_of_getElem? hget)
      have hgd : xs.getD pre.length default = x.2 := by simp [List.getD, hget]
      have hS : Fun Try.prog 24 [S x.2] (S (sealB x.2)) := refSeal _ (by omega)
      have hq : ((x.1 : Nat) : Int) = (lastS pre : Int) + ((sealB x.2).length : Int) := by omega
      have hle : x.1 ≤ (rowB xs).length := by
        have := (allS_split (s := rowB xs) (pre := pre) (x := x) (post := post) (by rw [has]; exact hx)).2
        obtain ⟨k, _, _, h1, h2⟩ := this
        rw [h2]; show lastS pre + k ≤ _; omega
      have e1 : cmpI .neq ((x.1 : Nat) : Int) ((lastS pre : Int) + ((sealB x.2).length : Int)) = some false := by rw [hq]; exact neq_self _
      have e0 : HL.cmpS .neq x.2 (xs.getD pre.length default) = some false := by rw [hgd]; exact neqS_self _
      apply Wp.seq
      apply Wp.region
      refine WpL.v (V.as) ?_
      apply WpL.nil
      apply Out.seqN
      apply Wp.region
      refine WpL.v (V.as) ?_
      apply WpL.nil
      refine Out.bg (by assumption) ?_
      apply Wp.block
      apply Wp.seq
      apply Wp.seq
      refine Wp.dG [] ?_ (List.Sublist.cons_cons _ (List.Sublist.cons_cons _ (List.Sublist.cons_cons _ (List.Sublist.cons_cons _ (List.Sublist.cons _ (List.Sublist.cons _ (List.Sublist.cons_cons _ List.Sublist.slnil))))))) (List.Sublist.cons_cons _ (List.Sublist.cons_cons _ (List.Sublist.cons_cons _ (List.Sublist.cons_cons _ (List.Sublist.cons _ (List.Sublist.cons _ (List.Sublist.cons_cons _ List.Sublist.slnil)))))))
      refine WpA.tF 0 rfl (V.mv) ?_
      refine WpA.tF 1 rfl (V.ld1 tb) ?_
      refine WpA.tF 2 rfl (V.ld1 tb) ?_
      refine WpA.tF 3 rfl (V.ixR tb rfl rfl (by assumption)) ?_
      refine WpA.tF 4 rfl (V.ldR1 tb rfl (by assumption) (getMapD1 (by omega))) ?_
      refine WpA.tF 5 rfl (V.cmpS rfl rfl e0) ?_
      refine WpA.tF 6 rfl (V.mv) ?_
      refine WpA.tF 7 rfl (V.mv) ?_
      refine WpA.tF 8 rfl (V.ld1 tb) ?_
      refine WpA.tF 9 rfl (V.mv) ?_
      refine WpA.oS 10 rfl (Op1.fn rfl (hS) ⟨?_, ?_, ?_⟩)
      exact holdT
      exact holdT
      refine WpA.tF 11 rfl (V.lenS tb) ?_
      refine WpA.tF 12 rfl (V.add) ?_
      refine WpA.tF 13 rfl (V.cmp rfl rfl e1) ?_
      refine WpA.tF 14 rfl (V.pF) ?_
      refine WpA.ou ?_
      apply Out.seqN
      refine Wp.cF ?_
      apply Wp.skip
      apply Out.seqN
      apply Wp.seq
      apply Wp.region
      refine WpL.v (V.mv) ?_
      refine WpL.o (O.st1 tb ?_)
      apply WpL.nil
      apply Out.seqN
      apply Wp.seq
      apply Wp.region
      refine WpL.v (V.ld1 tb) ?_
      refine WpL.v (V.add) ?_
      refine WpL.o (O.st1 tb ?_)
      apply WpL.nil
      apply Out.seqN
      apply Wp.seq
      apply Wp.region
      refine WpL.v (V.ld1 tb) ?_
      refine WpL.v (V.ld1 tb) ?_
      refine WpL.v (V.cmp) ?_
      apply WpL.nil
      apply Out.seqN
      refine Wp.c (fun hd0 => ?_) (fun hd0 => ?_)
      (try simp only [decide_eq_true_eq, decide_eq_false_iff_not, Bool.not_eq_true', Bool.not_eq_false', Bool.not_eq_true, Bool.not_eq_false, not_true_eq_false, not_false_eq_true, reduceCtorEq] at hd0)
      apply Wp.exit
      refine Out.blockO' ?_
      rotate_left
      (try simp only [decide_eq_true_eq, decide_eq_false_iff_not, Bool.not_eq_true', Bool.not_eq_false', Bool.not_eq_true, Bool.not_eq_false, not_true_eq_false, not_false_eq_true, reduceCtorEq] at hd0)
      apply Wp.skip
      apply Out.blockN
      rotate_left
      · exact Out.rd hK1 (pre.length + 1, x.1) ⟨rfl, by simp, by push_cast; assumption⟩
      · exact Out.rd hK1 (pre.length + 1, x.1) ⟨by simp, (lastS_snoc pre x).symm⟩
    · rintro ⟨k, at_⟩ c ⟨hk, hat⟩
      dsimp only at hk hat
      have hkx : k = xs.length := by
        have := congrArg List.length (endsS_snd xs 0)
        rw [List.length_map] at this
        rw [hk, has, this]
      clear hk
      subst hkx
      by_cases h16 : m ≤ 16384
      · have hmore := sealB_more (t := List.replicate m 0) (by omega)
        have hop := openR_seal (t := List.replicate m 0) (by omega) []
        rw [List.append_nil] at hop
        rw [hop] at hO
        apply Out.blockN
        apply Out.seqN
        apply Wp.seq
        apply Wp.region
        refine WpL.v (V.mv) ?_
        refine WpL.o (Op1.mkBytes tb rfl rfl (by omega) (fun g55 => ?_))
        refine WpL.v (V.bstrL tb) ?_
        refine WpL.v (V.as) ?_
        apply WpL.nil
        apply Out.seqN
        apply Wp.seq
        apply Wp.region
        refine WpL.v (V.mv) ?_
        refine WpL.o (Op1.fn rfl (hZ) ?_)
        refine WpL.o (Op1.fn rfl (hO) ?_)
        refine WpL.v (V.mv) ?_
        refine WpL.v (V.ex) ?_
        refine WpL.v (V.ex) ?_
        refine WpL.v (V.as) ?_
        refine WpL.v (V.as) ?_
        apply WpL.nil
        apply Out.seqN
        apply Wp.seq
        apply Wp.seq
        apply Wp.region
        refine WpL.v (V.mv) ?_
        refine WpL.v (V.cmp) ?_
        apply WpL.nil
        apply Out.seqN
        refine Wp.c (fun he10 => ?_) (fun he10 => ?_)
        (try simp only [decide_eq_true_eq, decide_eq_false_iff_not, Bool.not_eq_true', Bool.not_eq_false', Bool.not_eq_true, Bool.not_eq_false, not_true_eq_false, not_false_eq_true, reduceCtorEq] at he10)
        (exfalso; omega)
        (try simp only [decide_eq_true_eq, decide_eq_false_iff_not, Bool.not_eq_true', Bool.not_eq_false', Bool.not_eq_true, Bool.not_eq_false, not_true_eq_false, not_false_eq_true, reduceCtorEq] at he10)
        apply Wp.skip
        apply Out.seqN
        apply Wp.seq
        apply Wp.region
        refine WpL.v (V.mv) ?_
        refine WpL.v (V.mv) ?_
        refine WpL.v (V.cmpS rfl rfl (eqlS_self _)) ?_
        refine WpL.v (V.mv) ?_
        refine WpL.v (V.mv) ?_
        refine WpL.v (V.mv) ?_
        refine WpL.v (V.cmp) ?_
        refine WpL.v (V.pT) ?_
        refine WpL.v (V.mv) ?_
        refine WpL.pt (fun he11 => ?_) (fun he11 => ?_)
        (try simp only [decide_eq_true_eq, decide_eq_false_iff_not, Bool.not_eq_true', Bool.not_eq_false', Bool.not_eq_true, Bool.not_eq_false, not_true_eq_false, not_false_eq_true, reduceCtorEq] at he11)
        refine WpL.v (V.ld1 tb) ?_
        refine WpL.v (V.ld1 tb) ?_
        refine WpL.v (V.lenL tb) ?_
        refine WpL.v (V.cmp) ?_
        refine WpL.v (V.mv) ?_
        refine WpL.pt (fun he12 => ?_) (fun he12 => ?_)
        (try simp only [decide_eq_true_eq, decide_eq_false_iff_not, Bool.not_eq_true', Bool.not_eq_false', Bool.not_eq_true, Bool.not_eq_false, not_true_eq_false, not_false_eq_true, reduceCtorEq] at he12)
        refine WpL.sk ?_
        refine WpL.sk ?_
        refine WpL.sk ?_
        refine WpL.v (V.pT) ?_
        refine WpL.v (V.pT) ?_
        refine WpL.o (O.st1 tb ?_)
        apply WpL.nil
        apply Out.seqN
        apply Wp.ret
        refine Out.f1 rfl (ResIs.c1 tb) ⟨?_, rfl⟩
        exact rfl
        (try simp only [decide_eq_true_eq, decide_eq_false_iff_not, Bool.not_eq_true', Bool.not_eq_false', Bool.not_eq_true, Bool.not_eq_false, not_true_eq_false, not_false_eq_true, reduceCtorEq] at he12)
        (try simp only [decide_eq_true_eq, decide_eq_false_iff_not, Bool.not_eq_true', Bool.not_eq_false', Bool.not_eq_true, Bool.not_eq_false, not_true_eq_false, not_false_eq_true, reduceCtorEq] at he11)
        (exfalso; omega)
      · rw [sealB_over (by omega)] at hZ hO
        rw [openR_nil] at hO
        apply Out.blockN
        apply Out.seqN
        apply Wp.seq
        apply Wp.region
        refine WpL.v (V.mv) ?_
        refine WpL.o (Op1.mkBytes tb rfl rfl (by omega) (fun g55 => ?_))
        refine WpL.v (V.bstrL tb) ?_
        refine WpL.v (V.as) ?_
        apply WpL.nil
        apply Out.seqN
        apply Wp.seq
        apply Wp.region
        refine WpL.v (V.mv) ?_
        refine WpL.o (Op1.fn rfl (hZ) ?_)
        refine WpL.o (Op1.fn rfl (hO) ?_)
        refine WpL.v (V.mv) ?_
        refine WpL.v (V.ex) ?_
        refine WpL.v (V.ex) ?_
        refine WpL.v (V.as) ?_
        refine WpL.v (V.as) ?_
        apply WpL.nil
        apply Out.seqN
        apply Wp.seq
        apply Wp.seq
        apply Wp.region
        refine WpL.v (V.mv) ?_
        refine WpL.v (V.cmp) ?_
        apply WpL.nil
        apply Out.seqN
        refine Wp.c (fun he20 => ?_) (fun he20 => ?_)
        (try simp only [decide_eq_true_eq, decide_eq_false_iff_not, Bool.not_eq_true', Bool.not_eq_false', Bool.not_eq_true, Bool.not_eq_false, not_true_eq_false, not_false_eq_true, reduceCtorEq] at he20)
        apply Wp.seq
        apply Wp.region
        refine WpL.v (V.mv) ?_
        refine WpL.o (Op1.fn rfl (hZ) ?_)
        refine WpL.v (V.cmpS rfl rfl (eqlS_self _)) ?_
        refine WpL.v (V.mv) ?_
        refine WpL.v (V.mv) ?_
        refine WpL.v (V.cmp) ?_
        refine WpL.v (V.pT) ?_
        refine WpL.v (V.mv) ?_
        refine WpL.v (V.ld1 tb) ?_
        refine WpL.v (V.ld1 tb) ?_
        refine WpL.v (V.lenL tb) ?_
        refine WpL.v (V.cmp) ?_
        refine WpL.v (V.mv) ?_
        refine WpL.pt (fun he21 => ?_) (fun he21 => ?_)
        (try simp only [decide_eq_true_eq, decide_eq_false_iff_not, Bool.not_eq_true', Bool.not_eq_false', Bool.not_eq_true, Bool.not_eq_false, not_true_eq_false, not_false_eq_true, reduceCtorEq] at he21)
        refine WpL.sk ?_
        refine WpL.sk ?_
        refine WpL.sk ?_
        refine WpL.v (V.pT) ?_
        refine WpL.v (V.pT) ?_
        refine WpL.o (O.st1 tb ?_)
        apply WpL.nil
        apply Out.seqN
        apply Wp.ret
        apply Out.seqR
        refine Out.f1 rfl (ResIs.c1 tb) ⟨?_, rfl⟩
        exact rfl
        (try simp only [decide_eq_true_eq, decide_eq_false_iff_not, Bool.not_eq_true', Bool.not_eq_false', Bool.not_eq_true, Bool.not_eq_false, not_true_eq_false, not_false_eq_true, reduceCtorEq] at he21)
        (try simp only [decide_eq_true_eq, decide_eq_false_iff_not, Bool.not_eq_true', Bool.not_eq_false', Bool.not_eq_true, Bool.not_eq_false, not_true_eq_false, not_false_eq_true, reduceCtorEq] at he20)
        (exfalso; omega)
    · rintro ⟨k, at_⟩ c2 ex pre hwy hgo hpre ⟨rfl, hk, hst⟩
      dsimp only at hk hst
      by_cases h16 : m ≤ 16384
      · have hmore := sealB_more (t := List.replicate m 0) (by omega)
        have hop := openR_seal (t := List.replicate m 0) (by omega) []
        rw [List.append_nil] at hop
        rw [hop] at hO
        apply Out.blockE
        apply Out.seqN
        apply Wp.seq
        apply Wp.region
        refine WpL.v (V.mv) ?_
        refine WpL.o (Op1.mkBytes tb rfl rfl (by omega) (fun g55 => ?_))
        refine WpL.v (V.bstrL tb) ?_
        refine WpL.v (V.as) ?_
        apply WpL.nil
        apply Out.seqN
        apply Wp.seq
        apply Wp.region
        refine WpL.v (V.mv) ?_
        refine WpL.o (Op1.fn rfl (hZ) ?_)
        refine WpL.o (Op1.fn rfl (hO) ?_)
        refine WpL.v (V.mv) ?_
        refine WpL.v (V.ex) ?_
        refine WpL.v (V.ex) ?_
        refine WpL.v (V.as) ?_
        refine WpL.v (V.as) ?_
        apply WpL.nil
        apply Out.seqN
        apply Wp.seq
        apply Wp.seq
        apply Wp.region
        refine WpL.v (V.mv) ?_
        refine WpL.v (V.cmp) ?_
        apply WpL.nil
        apply Out.seqN
        refine Wp.c (fun hf10 => ?_) (fun hf10 => ?_)
        (try simp only [decide_eq_true_eq, decide_eq_false_iff_not, Bool.not_eq_true', Bool.not_eq_false', Bool.not_eq_true, Bool.not_eq_false, not_true_eq_false, not_false_eq_true, reduceCtorEq] at hf10)
        (exfalso; omega)
        (try simp only [decide_eq_true_eq, decide_eq_false_iff_not, Bool.not_eq_true', Bool.not_eq_false', Bool.not_eq_true, Bool.not_eq_false, not_true_eq_false, not_false_eq_true, reduceCtorEq] at hf10)
        apply Wp.skip
        apply Out.seqN
        apply Wp.seq
        apply Wp.region
        refine WpL.v (V.mv) ?_
        refine WpL.v (V.mv) ?_
        refine WpL.v (V.cmpS rfl rfl (eqlS_self _)) ?_
        refine WpL.v (V.mv) ?_
        refine WpL.v (V.mv) ?_
        refine WpL.v (V.mv) ?_
        refine WpL.v (V.cmp) ?_
        refine WpL.v (V.pT) ?_
        refine WpL.v (V.mv) ?_
        refine WpL.pt (fun hf11 => ?_) (fun hf11 => ?_)
        (try simp only [decide_eq_true_eq, decide_eq_false_iff_not, Bool.not_eq_true', Bool.not_eq_false', Bool.not_eq_true, Bool.not_eq_false, not_true_eq_false, not_false_eq_true, reduceCtorEq] at hf11)
        refine WpL.v (V.ld1 tb) ?_
        refine WpL.v (V.ld1 tb) ?_
        refine WpL.v (V.lenL tb) ?_
        refine WpL.v (V.cmp) ?_
        refine WpL.v (V.mv) ?_
        refine WpL.pt (fun hf12 => ?_) (fun hf12 => ?_)
        (try simp only [decide_eq_true_eq, decide_eq_false_iff_not, Bool.not_eq_true', Bool.not_eq_false', Bool.not_eq_true, Bool.not_eq_false, not_true_eq_false, not_false_eq_true, reduceCtorEq] at hf12)
        refine WpL.sk ?_
        refine WpL.sk ?_
        refine WpL.sk ?_
        refine WpL.v (V.pT) ?_
        refine WpL.v (V.pT) ?_
        refine WpL.o (O.st1 tb ?_)
        apply WpL.nil
        apply Out.seqN
        apply Wp.ret
        refine Out.f1 rfl (ResIs.c1 tb) ⟨?_, rfl⟩
        exact rfl
        (try simp only [decide_eq_true_eq, decide_eq_false_iff_not, Bool.not_eq_true', Bool.not_eq_false', Bool.not_eq_true, Bool.not_eq_false, not_true_eq_false, not_false_eq_true, reduceCtorEq] at hf12)
        refine WpL.v (V.ld1 tb) ?_
        refine WpL.v (V.ld1 tb) ?_
        refine WpL.v (V.cmp) ?_
        refine WpL.v (V.pF) ?_
        refine WpL.v (V.pT) ?_
        refine WpL.o (O.st1 tb ?_)
        apply WpL.nil
        apply Out.seqN
        apply Wp.ret
        refine Out.f1 rfl (ResIs.c1 tb) ⟨?_, rfl⟩
        focus ((simp [*] <;> omega); done)
        (try simp only [decide_eq_true_eq, decide_eq_false_iff_not, Bool.not_eq_true', Bool.not_eq_false', Bool.not_eq_true, Bool.not_eq_false, not_true_eq_false, not_false_eq_true, reduceCtorEq] at hf11)
        (exfalso; omega)
      · rw [sealB_over (by omega)] at hZ hO
        rw [openR_nil] at hO
        apply Out.blockE
        apply Out.seqN
        apply Wp.seq
        apply Wp.region
        refine WpL.v (V.mv) ?_
        refine WpL.o (Op1.mkBytes tb rfl rfl (by omega) (fun g55 => ?_))
        refine WpL.v (V.bstrL tb) ?_
        refine WpL.v (V.as) ?_
        apply WpL.nil
        apply Out.seqN
        apply Wp.seq
        apply Wp.region
        refine WpL.v (V.mv) ?_
        refine WpL.o (Op1.fn rfl (hZ) ?_)
        refine WpL.o (Op1.fn rfl (hO) ?_)
        refine WpL.v (V.mv) ?_
        refine WpL.v (V.ex) ?_
        refine WpL.v (V.ex) ?_
        refine WpL.v (V.as) ?_
        refine WpL.v (V.as) ?_
        apply WpL.nil
        apply Out.seqN
        apply Wp.seq
        apply Wp.seq
        apply Wp.region
        refine WpL.v (V.mv) ?_
        refine WpL.v (V.cmp) ?_
        apply WpL.nil
        apply Out.seqN
        refine Wp.c (fun hf20 => ?_) (fun hf20 => ?_)
        (try simp only [decide_eq_true_eq, decide_eq_false_iff_not, Bool.not_eq_true', Bool.not_eq_false', Bool.not_eq_true, Bool.not_eq_false, not_true_eq_false, not_false_eq_true, reduceCtorEq] at hf20)
        apply Wp.seq
        apply Wp.region
        refine WpL.v (V.mv) ?_
        refine WpL.o (Op1.fn rfl (hZ) ?_)
        refine WpL.v (V.cmpS rfl rfl (eqlS_self _)) ?_
        refine WpL.v (V.mv) ?_
        refine WpL.v (V.mv) ?_
        refine WpL.v (V.cmp) ?_
        refine WpL.v (V.pT) ?_
        refine WpL.v (V.mv) ?_
        refine WpL.v (V.ld1 tb) ?_
        refine WpL.v (V.ld1 tb) ?_
        refine WpL.v (V.lenL tb) ?_
        refine WpL.v (V.cmp) ?_
        refine WpL.v (V.mv) ?_
        refine WpL.pt (fun hf21 => ?_) (fun hf21 => ?_)
        (try simp only [decide_eq_true_eq, decide_eq_false_iff_not, Bool.not_eq_true', Bool.not_eq_false', Bool.not_eq_true, Bool.not_eq_false, not_true_eq_false, not_false_eq_true, reduceCtorEq] at hf21)
        refine WpL.sk ?_
        refine WpL.sk ?_
        refine WpL.sk ?_
        refine WpL.v (V.pT) ?_
        refine WpL.v (V.pT) ?_
        refine WpL.o (O.st1 tb ?_)
        apply WpL.nil
        apply Out.seqN
        apply Wp.ret
        apply Out.seqR
        refine Out.f1 rfl (ResIs.c1 tb) ⟨?_, rfl⟩
        exact rfl
        (try simp only [decide_eq_true_eq, decide_eq_false_iff_not, Bool.not_eq_true', Bool.not_eq_false', Bool.not_eq_true, Bool.not_eq_false, not_true_eq_false, not_false_eq_true, reduceCtorEq] at hf21)
        refine WpL.v (V.ld1 tb) ?_
        refine WpL.v (V.ld1 tb) ?_
        refine WpL.v (V.cmp) ?_
        refine WpL.v (V.pF) ?_
        refine WpL.v (V.pT) ?_
        refine WpL.o (O.st1 tb ?_)
        apply WpL.nil
        apply Out.seqN
        apply Wp.ret
        apply Out.seqR
        refine Out.f1 rfl (ResIs.c1 tb) ⟨?_, rfl⟩
        focus ((simp [*] <;> omega); done)
        (try simp only [decide_eq_true_eq, decide_eq_false_iff_not, Bool.not_eq_true', Bool.not_eq_false', Bool.not_eq_true, Bool.not_eq_false, not_true_eq_false, not_false_eq_true, reduceCtorEq] at hf20)
        (exfalso; omega)
open Go Go.ChangeShapes Go.WideShapes Go.ChangeAt Go.RowKit
theorem sealStops_read : (Try.f17.params.toList.all fun t => Try.prog.readableRec t && decide (t < Try.prog.types.size)) = true := by kernel_rfl
theorem sealStops_lifted (os : Go.Os) (started : os.Started) (H : Type) (enc : Go.TypeId × Go.Value → H) :
    ReturnsInHanded {} Try.checked os 17 .any (Rows.sealStopsSpec.pre6 enc Try.prog Try.f17 Rows.sealStopsRow.domain false) (Rows.sealStopsSpec.post enc Try.prog Try.f17 false true false false) := by
  refine returnsInHanded_of_change_sized (C := Try.checked) own started (by kernel_rfl) Try.func17
    (ChangeSpec.witness6 (enc := enc) (C := Try.checked) false ⟨#[], #[.slice none 0 0, I 0, I 0], []⟩ 8 (by kernel_rfl) (by kernel_rfl) (by kernel_rfl) (by kernel_rfl)) ?_
  intro W base args ds gs before hval0 hW hcnd hsz0 _
  have hsz : (DataW.weightsEach Try.prog (Try.f17.params.toList ++ Rows.sealStopsSpec.plain.varTypes Try.prog) (ds ++ gs)).all (· ≤ reachBytes) = true := hsz0
  have hval : ∀ (j : Nat) t v, Try.f17.params[j]? = some t → args[j]? = some v → Value.okWide Try.prog W .any base t v := hval0
  have hW' := hW
  obtain ⟨p, q, hA0, hV, rfl, hfz, hnd⟩ := hW
  have hA1 : DataW.TrodAll enc Try.prog W 0 (fun _ => true) true Try.f17.params.toList args.toList ds p := hA0
  have hA := hA1
  rw [Try.params17] at hA hval hsz
  obtain ⟨v0, vs0, d0, ds0, p0, q0, hargs, rfl, rfl, h0, r0⟩ := trodAll_cons hA
  obtain ⟨v1, vs1, d1, ds1, p1, q1, rfl, rfl, rfl, h1, r1⟩ := trodAll_cons r0
  obtain ⟨v2, vs2, d2, ds2, p2, q2, rfl, rfl, rfl, h2, r2⟩ := trodAll_cons r1
  obtain ⟨rfl, rfl, rfl⟩ := trodAll_nil r2
  obtain rfl : args = #[v0, v1, v2] := by cases args; simp_all
  obtain ⟨rfl, rfl⟩ := trodVars_none hV
  obtain ⟨ao0, b0, off0, len0, cap0, xs0, rfl, hl0, hlc0, hcm0, ha0, hs0, hf0, hby0⟩ := open_slice_plain Try.underlying76 StrT.leaves (by kernel_rfl) (by decide) (hval 0 76 v0 rfl rfl) h0 (sizedAll hsz 0 rfl rfl)
  obtain ⟨x0, rfl, w0⟩ := fits_map StrT.c StrT.wf hf0 StrT.fit
  obtain rfl : len0 = x0.length := by simpa using hl0.symm
  obtain ⟨x1, rfl, rfl, rfl, w1⟩ := open_int Try.underlying3 (hval 1 3 v1 rfl rfl) h1
  obtain ⟨x2, rfl, rfl, rfl, w2⟩ := open_int Try.underlying3 (hval 2 3 v2 rfl rfl) h2
  simp only [List.append_nil] at hW' hA1
  have hbl : ∀ p : Nat × Nat, p ∈ [(x0.length, b0)] → 0 < p.1 → p.2 < W.heap.size := by
    intro p hp h0
    simp only [List.mem_cons, List.mem_nil_iff, or_false] at hp
    rcases hp with rfl
    · exact (ha0 h0).2
  have hR0 : Rd (snap W (blocksOf [(x0.length, b0)])) ao0 x0.length b0 off0 1 (x0.map StrT.c) := Rd.snap (by simp) (Nat.le_trans hlc0 hcm0) ha0 hs0 (fun h => blocksOf_mem (len := x0.length) (by simp) h)
  refine (Ct.runSnap (blocksOf_nodup _) (blocksOf_lt hbl) (sealStops_walk _ _ _ _ _ x0 hR0 w0 x1 x2)).mono fun e W' hh => ?_
  obtain ⟨rfl, hS⟩ := hh
  exact ⟨_, rfl, post_law (P := Try.prog) (f := Try.f17) (tbool := 4) hW' hA1 rfl rfl hS laid sealStops_read rfl Try.underlying4⟩
theorem sealStops_over : Rows.sealStopsRow.holds Try.pinned (OpenSpec.ofChange Rows.sealStopsSpec) :=
  OpenClaim.holds_of_wide 17 Try.f17 rfl rfl rfl rfl rfl rfl rfl ⟨rfl, rfl, rfl, rfl, rfl⟩ rfl rfl rfl rfl rfl (by kernel_rfl) Try.func17 (by kernel_rfl)
    (of_decide_eq_true (by kernel_rfl)) (by unfold Func.isWrapper; first | (rw [if_pos (by decide +kernel)]; kernel_rfl) | (rw [if_neg (by decide +kernel)]; exact ⟨rfl, rfl⟩))
    (fun os started H enc _ => sealStops_lifted os started H enc)
/-- THE STATEMENT. -/
theorem sealStops_proved : Rows.SealStopsSaid := sealStops_over
#print axioms sealStops_proved

end Go.Proofs.Ytgbflapcadlelaa
