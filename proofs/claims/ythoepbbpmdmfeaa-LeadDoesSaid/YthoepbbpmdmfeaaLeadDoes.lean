/-
  The statement LeadDoes of layer 14: in every row of messages each answer, the phase, the call, and what is said, are the document's; a nil lead. Proved for every input.
-/
import Derived.Test.YthoepbbpmdmfeaaHead
import Derived.Test.YthoepbbpmdmfeaaLead11
namespace Go.Proofs.Ythoepbbpmdmfeaa
open Go.HL
set_option linter.unusedSimpArgs false
set_option linter.unusedVariables false
set_option maxRecDepth 8000
def refR (c : Caucuslaw14Case) : RS := ⟨c.N, c.Self, c.Item, c.Ballot, c.Call, if c.Phase = 1 then 1 else 2, [], []⟩
theorem refC_eq (c : Caucuslaw14Case) : refC c = (refR c).s (.slice none 0 0) (.slice none 0 0) := rfl
theorem rel_zero (c : Caucuslaw14Case) : Rel (newC c) (refR c) := ⟨newL_wf _ _ _ _ _ _, rfl, rfl, rfl, rfl, rfl, rfl, .refl _, fun r hr => by
  show (List.replicate 7 false)[r]? = _
  rw [List.getElem?_replicate, if_pos hr]; simp [refR], rfl, fun r hr => by
  show (List.replicate 7 false)[r]? = _
  rw [List.getElem?_replicate, if_pos hr]; simp [refR], rfl⟩
def litM (kk : Int) (c : Caucuslaw14Case) (cl : TCall) (k : Nat) : TMsg := { TMsg.z with Kind := kk, From := c.Self, To := (k : Int), Item := c.Item, Ballot := c.Ballot, Call := cl }
theorem lit_eq {x : LeadS} {c : Caucuslaw14Case} {cl : TCall} (hk : Keeps x c.N c.Self c.Item c.Ballot) (hc : x.call = cl) (k : Nat) : sayM x k = litM (sayK x.phase) c cl k := by
  unfold sayM sayMk litM; rw [hk.self, hk.item, hk.ballot, hc]
structure DS where
  i : Nat
  x : LeadS
  y : RS
  vp : Go.Value
  vo : Go.Value
theorem Rel.small {x : LeadS} {y : RS} (h : Rel x y) : y.pres.length ≤ 7 ∧ y.oks.length ≤ 7 := by
  have h1 := h.wf.pb
  have h2 := h.wf.ob
  have h3 := h.pn
  have h4 := h.om
  omega
set_option maxHeartbeats 4000000 in
theorem leadDoes_walk (e : Ent) (ao : Option Go.Addr) (cap b off : Nat) (c : Caucuslaw14Case) (xs : List Caucuslaw14Step) (hR : Rd e ao xs.length b off 26 (xs.map Caucuslaw14Step.c)) :
    Ct Try.prog 13 [A c.c, .slice ao xs.length cap] [e] (fun r σ' => r = B true ∧ σ' = [e]) := by
  have hm := hR.small
  simp only [Go.maxLen] at hm
  have hG := great14 c ao xs.length cap
  have hBg := begin14 c
  by_cases hs : (c.N = 3 ∨ c.N = 5 ∨ c.N = 7) ∧ xs.length ≤ 60
  · rw [show (!(decide (c.N = 3) || (decide (c.N = 5) || decide (c.N = 7))) || decide (60 < xs.length)) = false by simp; omega] at hG
    obtain ⟨hs1, hs2⟩ := hs
    obtain ⟨nn, hnn⟩ : ∃ k : Nat, c.N = (k : Int) := ⟨c.N.toNat, by omega⟩
    refine Ct.enter Try.func13 rfl rfl fun W => ?_
    refine Wp.nilRows TMsg.c 44 25 ?_
    refine Wp.nilRows i64c 3 1 ?_
    apply Wp.seq
    apply Wp.region
    refine WpL.o (O.bxA (fun p2 => ?_))
    refine WpL.v (V.as) ?_
    apply WpL.nil
    apply Out.seqN
    apply Wp.seq
    apply Wp.seq
    apply Wp.region
    refine WpL.o (Op1.fn rfl (alive14) ?_)
    refine WpL.v (V.not) ?_
    apply WpL.nil
    apply Out.seqN
    refine Wp.cF ?_
    apply Wp.skip
    apply Out.seqN
    apply Wp.seq
    apply Wp.seq
    apply Wp.region
    refine WpL.v (V.ldA tb) ?_
    refine WpL.v (V.mv) ?_
    refine WpL.o (Op1.fn rfl (hG) ?_)
    apply WpL.nil
    apply Out.seqN
    refine Wp.cF ?_
    apply Wp.skip
    apply Out.seqN
    apply Wp.seq
    apply Wp.region
    refine WpL.v (V.ldA tb) ?_
    refine WpL.o (Op1.callT rfl (hBg) (by (repeat (first | exact Sel.nil | exact Rem.here | apply Sel.cons | apply Rem.there))) ?_)
    rintro v0 s1 ⟨q23, ⟨p23, ⟨rfl, rfl⟩⟩⟩
    refine incat ?_
    refine WpL.v (V.mv) ?_
    refine WpL.v (V.ex) ?_
    refine WpL.v (V.ex) ?_
    refine WpL.v (V.as) ?_
    refine WpL.v (V.as) ?_
    apply WpL.nil
    apply Out.seqN
    apply Wp.seq
    apply Wp.seq
    apply Wp.region
    refine WpL.v (V.mv) ?_
    refine WpL.v (V.lenL tb) ?_
    refine WpL.v (V.mv) ?_
    apply WpL.nil
    apply Out.seqN
    apply Wp.block
    refine Wp.lp [27, 26, 6, 5, 2] (fun y : DS => y.i ≤ xs.length ∧ Keeps y.x c.N c.Self c.Item c.Ballot ∧ Rel y.x y.y) (fun y => [(28, I (y.i : Int))]) (fun y => [cells q23 142 y.x.c, cells p23 88 (y.y.s y.vp y.vo).c, rows TMsg.c y.vp 44 25 y.y.pres, rows i64c y.vo 3 1 y.y.oks]) (fun y => xs.length - y.i) ⟨0, newC c, refR c, .slice none 0 0, .slice none 0 0⟩ ⟨Nat.zero_le _, newC_keeps c, rel_zero c⟩ ?_
    rintro ⟨i, x0, y0, vp, vo⟩ ⟨hi, hz0, hrel0⟩ K hK
    dsimp only at hi hz0 hrel0
    dsimp only [List.cons_append, List.nil_append]
    by_cases hlt : i < xs.length
    · obtain ⟨s, hs⟩ := getS hlt
      have hz0n := hz0.n
      have hy0n := hrel0.n
      have hsml := hrel0.small
      cases hsl : s.Late with
      | true =>
        have h1 := lead_late q23 x0 hz0.wf (by omega)
        have h2 := ref_late p23 y0 vp vo (by omega)
        obtain ⟨hr, hb⟩ := hrel0.late
        have hk := late_keeps hz0
        rw [hb] at h1
        unfold refE at h2
        generalize x0.late.1 = x at *
        generalize y0.late.1 = y at *
        generalize y0.late.2 = moved at *
        have hmv : (moved == moved) = true := by cases moved <;> rfl
        have hPh := lead_phase q23 x
        rw [hr.phase] at hPh
        have hCl := lead_call q23 x
        rw [hr.call] at hCl
        have hBl := lead_ballot q23 x
        rw [hr.ballot] at hBl
        have hIt := lead_item q23 x
        rw [hr.item] at hIt
        have hxn := hk.n
        have hS := lead_say_rd q23 x (by omega)
        by_cases hp : y.phase = 4
        · rw [say_lost (hr.phase.trans hp)] at hS
          dsimp only [List.length_nil] at hS
          apply Wp.seq
          apply Wp.region
          refine WpL.v (V.cmp) ?_
          apply WpL.nil
          apply Out.seqN
          apply Wp.seq
          refine Wp.c (fun hb0 => ?_) (fun hb0 => ?_)
          (try simp only [decide_eq_true_eq, decide_eq_false_iff_not, Bool.not_eq_true', Bool.not_eq_false', Bool.not_eq_true, Bool.not_eq_false, not_true_eq_false, not_false_eq_true, reduceCtorEq] at hb0)
          apply Wp.skip
          apply Out.seqN
          apply Wp.seq
          apply Wp.block
          apply Wp.seq
          apply Wp.region
          refine WpL.v (V.ixR tb rfl rfl (by assumption)) ?_
          refine WpL.v (V.ldRA tb rfl (by assumption) (getMapS (by assumption))) ?_
          refine WpL.o (O.al tb (fun p8 => ?_))
          refine WpL.o (O.stA tb ?_)
          apply WpL.nil
          apply Out.seqN
          apply Wp.seq
          apply Wp.region
          refine WpL.v (V.as) ?_
          refine WpL.v (V.as) ?_
          apply WpL.nil
          apply Out.seqN
          apply Wp.seq
          apply Wp.seq
          apply Wp.region
          refine WpL.v (V.fa tb) ?_
          refine WpL.v (V.ld1 tb (v := B true) (hr := by rw [← hsl]; rfl)) ?_
          apply WpL.nil
          apply Out.seqN
          refine Wp.cT ?_
          apply Wp.region
          refine WpL.v (V.mv) ?_
          refine WpL.o (Op1.callT rfl (h1) (by (repeat (first | exact Sel.nil | exact Rem.here | apply Sel.cons | apply Rem.there))) ?_)
          rintro v1 s2 ⟨rfl, rfl⟩
          refine incat ?_
          refine WpL.v (V.mv) ?_
          refine WpL.o (Op1.callT rfl (h2) (by (repeat (first | exact Sel.nil | exact Rem.here | apply Sel.cons | apply Rem.there))) ?_)
          rintro v3 s4 ⟨rfl, rfl⟩
          refine incat ?_
          refine WpL.v (V.as) ?_
          refine WpL.v (V.as) ?_
          apply WpL.nil
          apply Out.seqN
          apply Wp.seq
          apply Wp.seq
          refine Wp.dG [] ?_ (List.Sublist.cons_cons _ (List.Sublist.cons_cons _ (List.Sublist.cons_cons _ (List.Sublist.cons _ (List.Sublist.cons _ (List.Sublist.cons _ (List.Sublist.cons_cons _ List.Sublist.slnil))))))) (List.Sublist.cons_cons _ (List.Sublist.cons_cons _ (List.Sublist.cons_cons _ (List.Sublist.cons _ (List.Sublist.cons _ (List.Sublist.cons _ (List.Sublist.cons_cons _ List.Sublist.slnil)))))))
          refine WpA.tF 0 rfl (V.mv) ?_
          refine WpA.tF 1 rfl (V.mv) ?_
          refine WpA.tF 2 rfl (V.neB tb) ?_
          refine WpA.tF 3 rfl (V.mv) ?_
          refine WpA.pt 49 (fun hb5 => ?_) (fun hb5 => ?_)
          (try simp only [decide_eq_true_eq, decide_eq_false_iff_not, Bool.not_eq_true', Bool.not_eq_false', Bool.not_eq_true, Bool.not_eq_false, not_true_eq_false, not_false_eq_true, reduceCtorEq] at hb5)
          exact absurd (Eq.trans (Eq.symm hb5) (by assumption) : false = true) (by decide)
          (try simp only [decide_eq_true_eq, decide_eq_false_iff_not, Bool.not_eq_true', Bool.not_eq_false', Bool.not_eq_true, Bool.not_eq_false, not_true_eq_false, not_false_eq_true, reduceCtorEq] at hb5)
          refine WpA.tF 4 rfl (V.mv) ?_
          refine WpA.tF 6 rfl (V.mv) ?_
          refine WpA.tF 7 rfl (V.nc) ?_
          refine WpA.tF 8 rfl (V.fa tb) ?_
          refine WpA.tF 9 rfl (V.ld1 tb) ?_
          refine WpA.oS 5 rfl (Op1.callT rfl (hPh) (by (repeat (first | exact Sel.nil | exact Rem.here | apply Sel.cons | apply Rem.there))) ?_)
          rintro v6 s7 ⟨rfl, rfl⟩
          refine incat ⟨?_, ?_, ?_⟩
          exact holdT
          exact holdT
          refine WpA.tF 10 rfl (V.cmp) ?_
          refine WpA.tF 11 rfl (V.pF) ?_
          refine WpA.tF 12 rfl (V.mv) ?_
          refine WpA.pt 58 (fun hb8 => ?_) (fun hb8 => ?_)
          (try simp only [decide_eq_true_eq, decide_eq_false_iff_not, Bool.not_eq_true', Bool.not_eq_false', Bool.not_eq_true, Bool.not_eq_false, not_true_eq_false, not_false_eq_true, reduceCtorEq] at hb8)
          contradiction
          (try simp only [decide_eq_true_eq, decide_eq_false_iff_not, Bool.not_eq_true', Bool.not_eq_false', Bool.not_eq_true, Bool.not_eq_false, not_true_eq_false, not_false_eq_true, reduceCtorEq] at hb8)
          refine WpA.tF 13 rfl (V.mv) ?_
          refine WpA.tF 15 rfl (V.mv) ?_
          refine WpA.tF 16 rfl (V.nc) ?_
          refine WpA.tF 17 rfl (V.fa tb) ?_
          refine WpA.tF 18 rfl (V.ldA tb) ?_
          refine WpA.oS 14 rfl (Op1.callT rfl (hCl) (by (repeat (first | exact Sel.nil | exact Rem.here | apply Sel.cons | apply Rem.there))) ?_)
          rintro v9 s10 ⟨rfl, rfl⟩
          refine incat ⟨?_, ?_, ?_⟩
          exact holdT
          exact holdT
          refine WpA.tF 19 rfl (V.ne (TCall.eqT _ _ _)) ?_
          refine WpA.tF 20 rfl (V.pF) ?_
          refine WpA.tF 21 rfl (V.mv) ?_
          refine WpA.pt 67 (fun hb11 => ?_) (fun hb11 => ?_)
          (try simp only [decide_eq_true_eq, decide_eq_false_iff_not, Bool.not_eq_true', Bool.not_eq_false', Bool.not_eq_true, Bool.not_eq_false, not_true_eq_false, not_false_eq_true, reduceCtorEq] at hb11)
          contradiction
          (try simp only [decide_eq_true_eq, decide_eq_false_iff_not, Bool.not_eq_true', Bool.not_eq_false', Bool.not_eq_true, Bool.not_eq_false, not_true_eq_false, not_false_eq_true, reduceCtorEq] at hb11)
          refine WpA.tF 22 rfl (V.mv) ?_
          refine WpA.tF 24 rfl (V.mv) ?_
          refine WpA.tF 25 rfl (V.nc) ?_
          refine WpA.tF 26 rfl (V.fa tb) ?_
          refine WpA.tF 27 rfl (V.ldA tb) ?_
          refine WpA.oS 23 rfl (Op1.callT rfl (hBl) (by (repeat (first | exact Sel.nil | exact Rem.here | apply Sel.cons | apply Rem.there))) ?_)
          rintro v12 s13 ⟨rfl, rfl⟩
          refine incat ⟨?_, ?_, ?_⟩
          exact holdT
          exact holdT
          refine WpA.tF 28 rfl (V.ne (TBallot.eqT _ _ _)) ?_
          refine WpA.tF 29 rfl (V.pF) ?_
          refine WpA.tF 30 rfl (V.mv) ?_
          refine WpA.pt 76 (fun hb14 => ?_) (fun hb14 => ?_)
          (try simp only [decide_eq_true_eq, decide_eq_false_iff_not, Bool.not_eq_true', Bool.not_eq_false', Bool.not_eq_true, Bool.not_eq_false, not_true_eq_false, not_false_eq_true, reduceCtorEq] at hb14)
          contradiction
          (try simp only [decide_eq_true_eq, decide_eq_false_iff_not, Bool.not_eq_true', Bool.not_eq_false', Bool.not_eq_true, Bool.not_eq_false, not_true_eq_false, not_false_eq_true, reduceCtorEq] at hb14)
          refine WpA.tF 31 rfl (V.mv) ?_
          refine WpA.tF 33 rfl (V.mv) ?_
          refine WpA.tF 34 rfl (V.nc) ?_
          refine WpA.tF 35 rfl (V.fa tb) ?_
          refine WpA.tF 36 rfl (V.ldA tb) ?_
          refine WpA.oS 32 rfl (Op1.callT rfl (hIt) (by (repeat (first | exact Sel.nil | exact Rem.here | apply Sel.cons | apply Rem.there))) ?_)
          rintro v15 s16 ⟨rfl, rfl⟩
          refine incat ⟨?_, ?_, ?_⟩
          exact holdT
          exact holdT
          refine WpA.tF 37 rfl (V.ne (TItem.eqT _ _ _)) ?_
          refine WpA.tF 38 rfl (V.pF) ?_
          refine WpA.ou ?_
          apply Out.seqN
          refine Wp.c (fun hb17 => ?_) (fun hb17 => ?_)
          (try simp only [decide_eq_true_eq, decide_eq_false_iff_not, Bool.not_eq_true', Bool.not_eq_false', Bool.not_eq_true, Bool.not_eq_false, not_true_eq_false, not_false_eq_true, reduceCtorEq] at hb17)
          contradiction
          (try simp only [decide_eq_true_eq, decide_eq_false_iff_not, Bool.not_eq_true', Bool.not_eq_false', Bool.not_eq_true, Bool.not_eq_false, not_true_eq_false, not_false_eq_true, reduceCtorEq] at hb17)
          apply Wp.skip
          apply Out.seqN
          apply Wp.seq
          apply Wp.region
          refine WpL.v (V.mv) ?_
          refine WpL.o (Op1.callT rfl (hS) (by (repeat (first | exact Sel.nil | exact Rem.here | apply Sel.cons | apply Rem.there))) ?_)
          rintro v19 s20 ⟨ap86, ⟨cp86, ⟨g86, ⟨hx18, ⟨rfl, rfl⟩⟩⟩⟩⟩
          refine incat ?_
          refine WpL.v (V.as) ?_
          apply WpL.nil
          apply Out.seqN
          apply Wp.seq
          apply Wp.seq
          apply Wp.region
          refine WpL.v (V.mv) ?_
          refine WpL.v (V.nc) ?_
          refine WpL.v (V.fa tb) ?_
          refine WpL.v (V.ld1 tb) ?_
          refine WpL.v (V.cmp) ?_
          apply WpL.nil
          apply Out.seqN
          refine Wp.c (fun hb21 => ?_) (fun hb21 => ?_)
          (try simp only [decide_eq_true_eq, decide_eq_false_iff_not, Bool.not_eq_true', Bool.not_eq_false', Bool.not_eq_true, Bool.not_eq_false, not_true_eq_false, not_false_eq_true, reduceCtorEq] at hb21)
          apply Wp.seq
          apply Wp.seq
          apply Wp.region
          refine WpL.v (V.mv) ?_
          refine WpL.v (V.lenL tb) ?_
          refine WpL.v (V.cmp) ?_
          apply WpL.nil
          apply Out.seqN
          refine Wp.cF ?_
          apply Wp.skip
          apply Out.seqN
          apply Wp.exit
          apply Out.seqE
          apply Out.blockE
          apply Out.seqN
          apply Wp.region
          refine WpL.v (V.add) ?_
          refine WpL.v (V.mv) ?_
          apply WpL.nil
          rotate_left
          (try simp only [decide_eq_true_eq, decide_eq_false_iff_not, Bool.not_eq_true', Bool.not_eq_false', Bool.not_eq_true, Bool.not_eq_false, not_true_eq_false, not_false_eq_true, reduceCtorEq] at hb21)
          (exfalso; omega)
          (try simp only [decide_eq_true_eq, decide_eq_false_iff_not, Bool.not_eq_true', Bool.not_eq_false', Bool.not_eq_true, Bool.not_eq_false, not_true_eq_false, not_false_eq_true, reduceCtorEq] at hb0)
          (exfalso; omega)
          exact Out.ag hK ⟨i + 1, x, y, vp, vo⟩ ⟨by show i + 1 ≤ _; omega, hk, hr⟩ (by show xs.length - (i + 1) < xs.length - i; omega)
        · have hph : y.phase = 1 ∨ y.phase = 2 ∨ y.phase = 3 := by have := hk.phase; have := hr.phase; omega
          have hsy : x.say = x.says nn := by rw [say_at (by rw [hr.phase]; exact hph), hxn, hnn]; rfl
          have hll := x.says_len nn
          rw [hsy] at hS
          apply Wp.seq
          apply Wp.region
          refine WpL.v (V.cmp) ?_
          apply WpL.nil
          apply Out.seqN
          apply Wp.seq
          refine Wp.c (fun hd0 => ?_) (fun hd0 => ?_)
          (try simp only [decide_eq_true_eq, decide_eq_false_iff_not, Bool.not_eq_true', Bool.not_eq_false', Bool.not_eq_true, Bool.not_eq_false, not_true_eq_false, not_false_eq_true, reduceCtorEq] at hd0)
          apply Wp.skip
          apply Out.seqN
          apply Wp.seq
          apply Wp.block
          apply Wp.seq
          apply Wp.region
          refine WpL.v (V.ixR tb rfl rfl (by assumption)) ?_
          refine WpL.v (V.ldRA tb rfl (by assumption) (getMapS (by assumption))) ?_
          refine WpL.o (O.al tb (fun p8 => ?_))
          refine WpL.o (O.stA tb ?_)
          apply WpL.nil
          apply Out.seqN
          apply Wp.seq
          apply Wp.region
          refine WpL.v (V.as) ?_
          refine WpL.v (V.as) ?_
          apply WpL.nil
          apply Out.seqN
          apply Wp.seq
          apply Wp.seq
          apply Wp.region
          refine WpL.v (V.fa tb) ?_
          refine WpL.v (V.ld1 tb (v := B true) (hr := by rw [← hsl]; rfl)) ?_
          apply WpL.nil
          apply Out.seqN
          refine Wp.cT ?_
          apply Wp.region
          refine WpL.v (V.mv) ?_
          refine WpL.o (Op1.callT rfl (h1) (by (repeat (first | exact Sel.nil | exact Rem.here | apply Sel.cons | apply Rem.there))) ?_)
          rintro v1 s2 ⟨rfl, rfl⟩
          refine incat ?_
          refine WpL.v (V.mv) ?_
          refine WpL.o (Op1.callT rfl (h2) (by (repeat (first | exact Sel.nil | exact Rem.here | apply Sel.cons | apply Rem.there))) ?_)
          rintro v3 s4 ⟨rfl, rfl⟩
          refine incat ?_
          refine WpL.v (V.as) ?_
          refine WpL.v (V.as) ?_
          apply WpL.nil
          apply Out.seqN
          apply Wp.seq
          apply Wp.seq
          refine Wp.dG [] ?_ (List.Sublist.cons_cons _ (List.Sublist.cons_cons _ (List.Sublist.cons_cons _ (List.Sublist.cons _ (List.Sublist.cons _ (List.Sublist.cons _ (List.Sublist.cons_cons _ List.Sublist.slnil))))))) (List.Sublist.cons_cons _ (List.Sublist.cons_cons _ (List.Sublist.cons_cons _ (List.Sublist.cons _ (List.Sublist.cons _ (List.Sublist.cons _ (List.Sublist.cons_cons _ List.Sublist.slnil)))))))
          refine WpA.tF 0 rfl (V.mv) ?_
          refine WpA.tF 1 rfl (V.mv) ?_
          refine WpA.tF 2 rfl (V.neB tb) ?_
          refine WpA.tF 3 rfl (V.mv) ?_
          refine WpA.pt 49 (fun hd5 => ?_) (fun hd5 => ?_)
          (try simp only [decide_eq_true_eq, decide_eq_false_iff_not, Bool.not_eq_true', Bool.not_eq_false', Bool.not_eq_true, Bool.not_eq_false, not_true_eq_false, not_false_eq_true, reduceCtorEq] at hd5)
          exact absurd (Eq.trans (Eq.symm hd5) (by assumption) : false = true) (by decide)
          (try simp only [decide_eq_true_eq, decide_eq_false_iff_not, Bool.not_eq_true', Bool.not_eq_false', Bool.not_eq_true, Bool.not_eq_false, not_true_eq_false, not_false_eq_true, reduceCtorEq] at hd5)
          refine WpA.tF 4 rfl (V.mv) ?_
          refine WpA.tF 6 rfl (V.mv) ?_
          refine WpA.tF 7 rfl (V.nc) ?_
          refine WpA.tF 8 rfl (V.fa tb) ?_
          refine WpA.tF 9 rfl (V.ld1 tb) ?_
          refine WpA.oS 5 rfl (Op1.callT rfl (hPh) (by (repeat (first | exact Sel.nil | exact Rem.here | apply Sel.cons | apply Rem.there))) ?_)
          rintro v6 s7 ⟨rfl, rfl⟩
          refine incat ⟨?_, ?_, ?_⟩
          exact holdT
          exact holdT
          refine WpA.tF 10 rfl (V.cmp) ?_
          refine WpA.tF 11 rfl (V.pF) ?_
          refine WpA.tF 12 rfl (V.mv) ?_
          refine WpA.pt 58 (fun hd8 => ?_) (fun hd8 => ?_)
          (try simp only [decide_eq_true_eq, decide_eq_false_iff_not, Bool.not_eq_true', Bool.not_eq_false', Bool.not_eq_true, Bool.not_eq_false, not_true_eq_false, not_false_eq_true, reduceCtorEq] at hd8)
          contradiction
          (try simp only [decide_eq_true_eq, decide_eq_false_iff_not, Bool.not_eq_true', Bool.not_eq_false', Bool.not_eq_true, Bool.not_eq_false, not_true_eq_false, not_false_eq_true, reduceCtorEq] at hd8)
          refine WpA.tF 13 rfl (V.mv) ?_
          refine WpA.tF 15 rfl (V.mv) ?_
          refine WpA.tF 16 rfl (V.nc) ?_
          refine WpA.tF 17 rfl (V.fa tb) ?_
          refine WpA.tF 18 rfl (V.ldA tb) ?_
          refine WpA.oS 14 rfl (Op1.callT rfl (hCl) (by (repeat (first | exact Sel.nil | exact Rem.here | apply Sel.cons | apply Rem.there))) ?_)
          rintro v9 s10 ⟨rfl, rfl⟩
          refine incat ⟨?_, ?_, ?_⟩
          exact holdT
          exact holdT
          refine WpA.tF 19 rfl (V.ne (TCall.eqT _ _ _)) ?_
          refine WpA.tF 20 rfl (V.pF) ?_
          refine WpA.tF 21 rfl (V.mv) ?_
          refine WpA.pt 67 (fun hd11 => ?_) (fun hd11 => ?_)
          (try simp only [decide_eq_true_eq, decide_eq_false_iff_not, Bool.not_eq_true', Bool.not_eq_false', Bool.not_eq_true, Bool.not_eq_false, not_true_eq_false, not_false_eq_true, reduceCtorEq] at hd11)
          contradiction
          (try simp only [decide_eq_true_eq, decide_eq_false_iff_not, Bool.not_eq_true', Bool.not_eq_false', Bool.not_eq_true, Bool.not_eq_false, not_true_eq_false, not_false_eq_true, reduceCtorEq] at hd11)
          refine WpA.tF 22 rfl (V.mv) ?_
          refine WpA.tF 24 rfl (V.mv) ?_
          refine WpA.tF 25 rfl (V.nc) ?_
          refine WpA.tF 26 rfl (V.fa tb) ?_
          refine WpA.tF 27 rfl (V.ldA tb) ?_
          refine WpA.oS 23 rfl (Op1.callT rfl (hBl) (by (repeat (first | exact Sel.nil | exact Rem.here | apply Sel.cons | apply Rem.there))) ?_)
          rintro v12 s13 ⟨rfl, rfl⟩
          refine incat ⟨?_, ?_, ?_⟩
          exact holdT
          exact holdT
          refine WpA.tF 28 rfl (V.ne (TBallot.eqT _ _ _)) ?_
          refine WpA.tF 29 rfl (V.pF) ?_
          refine WpA.tF 30 rfl (V.mv) ?_
          refine WpA.pt 76 (fun hd14 => ?_) (fun hd14 => ?_)
          (try simp only [decide_eq_true_eq, decide_eq_false_iff_not, Bool.not_eq_true', Bool.not_eq_false', Bool.not_eq_true, Bool.not_eq_false, not_true_eq_false, not_false_eq_true, reduceCtorEq] at hd14)
          contradiction
          (try simp only [decide_eq_true_eq, decide_eq_false_iff_not, Bool.not_eq_true', Bool.not_eq_false', Bool.not_eq_true, Bool.not_eq_false, not_true_eq_false, not_false_eq_true, reduceCtorEq] at hd14)
          refine WpA.tF 31 rfl (V.mv) ?_
          refine WpA.tF 33 rfl (V.mv) ?_
          refine WpA.tF 34 rfl (V.nc) ?_
          refine WpA.tF 35 rfl (V.fa tb) ?_
          refine WpA.tF 36 rfl (V.ldA tb) ?_
          refine WpA.oS 32 rfl (Op1.callT rfl (hIt) (by (repeat (first | exact Sel.nil | exact Rem.here | apply Sel.cons | apply Rem.there))) ?_)
          rintro v15 s16 ⟨rfl, rfl⟩
          refine incat ⟨?_, ?_, ?_⟩
          exact holdT
          exact holdT
          refine WpA.tF 37 rfl (V.ne (TItem.eqT _ _ _)) ?_
          refine WpA.tF 38 rfl (V.pF) ?_
          refine WpA.ou ?_
          apply Out.seqN
          refine Wp.c (fun hd17 => ?_) (fun hd17 => ?_)
          (try simp only [decide_eq_true_eq, decide_eq_false_iff_not, Bool.not_eq_true', Bool.not_eq_false', Bool.not_eq_true, Bool.not_eq_false, not_true_eq_false, not_false_eq_true, reduceCtorEq] at hd17)
          contradiction
          (try simp only [decide_eq_true_eq, decide_eq_false_iff_not, Bool.not_eq_true', Bool.not_eq_false', Bool.not_eq_true, Bool.not_eq_false, not_true_eq_false, not_false_eq_true, reduceCtorEq] at hd17)
          apply Wp.skip
          apply Out.seqN
          apply Wp.seq
          apply Wp.region
          refine WpL.v (V.mv) ?_
          refine WpL.o (Op1.callT rfl (hS) (by (repeat (first | exact Sel.nil | exact Rem.here | apply Sel.cons | apply Rem.there))) ?_)
          rintro v19 s20 ⟨ap86, ⟨cp86, ⟨g86, ⟨hx18, ⟨rfl, rfl⟩⟩⟩⟩⟩
          refine incat ?_
          refine WpL.v (V.as) ?_
          apply WpL.nil
          apply Out.seqN
          apply Wp.seq
          apply Wp.seq
          apply Wp.region
          refine WpL.v (V.mv) ?_
          refine WpL.v (V.nc) ?_
          refine WpL.v (V.fa tb) ?_
          refine WpL.v (V.ld1 tb) ?_
          refine WpL.v (V.cmp) ?_
          apply WpL.nil
          apply Out.seqN
          refine Wp.c (fun hd21 => ?_) (fun hd21 => ?_)
          (try simp only [decide_eq_true_eq, decide_eq_false_iff_not, Bool.not_eq_true', Bool.not_eq_false', Bool.not_eq_true, Bool.not_eq_false, not_true_eq_false, not_false_eq_true, reduceCtorEq] at hd21)
          (exfalso; omega)
          (try simp only [decide_eq_true_eq, decide_eq_false_iff_not, Bool.not_eq_true', Bool.not_eq_false', Bool.not_eq_true, Bool.not_eq_false, not_true_eq_false, not_false_eq_true, reduceCtorEq] at hd21)
          apply Wp.skip
          apply Out.seqN
          apply Wp.seq
          apply Wp.seq
          apply Wp.region
          refine WpL.v (V.mv) ?_
          refine WpL.v (V.lenL tb) ?_
          refine WpL.v (V.fa tb) ?_
          refine WpL.v (V.ld1 tb) ?_
          refine WpL.v (V.cmp) ?_
          apply WpL.nil
          apply Out.seqN
          refine Wp.c (fun hd22 => ?_) (fun hd22 => ?_)
          (try simp only [decide_eq_true_eq, decide_eq_false_iff_not, Bool.not_eq_true', Bool.not_eq_false', Bool.not_eq_true, Bool.not_eq_false, not_true_eq_false, not_false_eq_true, reduceCtorEq] at hd22)
          (exfalso; omega)
          (try simp only [decide_eq_true_eq, decide_eq_false_iff_not, Bool.not_eq_true', Bool.not_eq_false', Bool.not_eq_true, Bool.not_eq_false, not_true_eq_false, not_false_eq_true, reduceCtorEq] at hd22)
          apply Wp.skip
          apply Out.seqN
          apply Wp.seq
          apply Wp.region
          refine WpL.v (V.mv) ?_
          refine WpL.v (V.lenL tb) ?_
          refine WpL.v (V.mv) ?_
          apply WpL.nil
          apply Out.seqN
          apply Wp.block
          rotate_left
          (try simp only [decide_eq_true_eq, decide_eq_false_iff_not, Bool.not_eq_true', Bool.not_eq_false', Bool.not_eq_true, Bool.not_eq_false, not_true_eq_false, not_false_eq_true, reduceCtorEq] at hd0)
          (exfalso; omega)
          have hgk : ∀ k, k < nn → (x.says nn)[k]? = some (litM (sayK y.phase) c y.call k) := fun k h => by rw [says_get h, lit_eq hk hr.call, hr.phase]
          refine Wp.lp [101, 100, 28, 27, 26, 6, 5, 2] (fun k : Nat => k ≤ nn) (fun k => [(102, I (k : Int))]) (fun _ => []) (fun k => nn - k) 0 (Nat.zero_le _) ?_
          intro k hkn K2 hK2
          dsimp only [List.cons_append, List.nil_append]
          by_cases hlk : k < nn
          · have hg := hgk k hlk
            rcases hph with hp1 | hp1 | hp1
            · rw [show sayK y.phase = 1 by unfold sayK; rw [hp1]; rfl] at hg
              apply Wp.seq
              apply Wp.region
              refine WpL.v (V.cmp) ?_
              apply WpL.nil
              apply Out.seqN
              apply Wp.seq
              refine Wp.c (fun hg0 => ?_) (fun hg0 => ?_)
              (try simp only [decide_eq_true_eq, decide_eq_false_iff_not, Bool.not_eq_true', Bool.not_eq_false', Bool.not_eq_true, Bool.not_eq_false, not_true_eq_false, not_false_eq_true, reduceCtorEq] at hg0)
              apply Wp.skip
              apply Out.seqN
              apply Wp.seq
              apply Wp.block
              apply Wp.seq
              apply Wp.region
              refine WpL.v (V.mv) ?_
              refine WpL.v (V.ixR tb rfl rfl (by assumption)) ?_
              refine WpL.v (V.ldRA tb rfl hx18 (getMapS hg)) ?_
              refine WpL.o (O.al tb (fun p13 => ?_))
              refine WpL.v (V.as) ?_
              refine WpL.o (O.stA tb ?_)
              apply WpL.nil
              apply Out.seqN
              apply Wp.seq
              apply Wp.region
              refine WpL.v (V.bldArr tb rfl (PartsFrom.one rfl (PartsFrom.one rfl (PartsFrom.one rfl (PartsFrom.one rfl PartsFrom.nil))))) ?_
              refine WpL.v (V.mv) ?_
              refine WpL.v (V.nc) ?_
              refine WpL.v (V.fa tb) ?_
              refine WpL.v (V.ld1 tb (v := I 1) (hr := by show some (I y.phase) = _; rw [hp1])) ?_
              refine WpL.v (V.ixAgg tb (m := 4) (k := 1) rfl rfl rfl (by decide)) ?_
              refine WpL.v (V.as) ?_
              apply WpL.nil
              apply Out.seqN
              apply Wp.seq
              refine Wp.dG [] ?_ (List.Sublist.cons_cons _ (List.Sublist.cons _ (List.Sublist.cons _ (List.Sublist.cons_cons _ (List.Sublist.cons _ (List.Sublist.cons _ (List.Sublist.cons _ (List.Sublist.cons_cons _ (List.Sublist.cons _ List.Sublist.slnil))))))))) (List.Sublist.cons_cons _ (List.Sublist.cons _ (List.Sublist.cons _ (List.Sublist.cons_cons _ (List.Sublist.cons _ (List.Sublist.cons _ (List.Sublist.cons _ (List.Sublist.cons_cons _ (List.Sublist.cons _ List.Sublist.slnil)))))))))
              refine WpA.tF 0 rfl (V.ldA tb) ?_
              refine WpA.tF 1 rfl (V.mv) ?_
              refine WpA.tF 2 rfl (V.fa tb) ?_
              refine WpA.tF 3 rfl (V.ld1 tb) ?_
              refine WpA.tF 4 rfl (V.mv) ?_
              refine WpA.tF 5 rfl (V.fa tb) ?_
              refine WpA.tF 6 rfl (V.ldA tb) ?_
              refine WpA.tF 7 rfl (V.fa tb) ?_
              refine WpA.tF 8 rfl (V.ldA tb) ?_
              refine WpA.tF 9 rfl (V.mv) ?_
              refine WpA.tF 10 rfl (V.nc) ?_
              refine WpA.tF 11 rfl (V.fa tb) ?_
              refine WpA.tF 12 rfl (V.ldA tb) ?_
              refine WpA.tF 13 rfl (V.bld tb (c' := (litM 1 c y.call k).c)) ?_
              refine WpA.tF 14 rfl (V.ne (TMsg.eqT _ _ _)) ?_
              refine WpA.ou ?_
              apply Out.seqN
              refine Wp.c (fun hg1 => ?_) (fun hg1 => ?_)
              (try simp only [decide_eq_true_eq, decide_eq_false_iff_not, Bool.not_eq_true', Bool.not_eq_false', Bool.not_eq_true, Bool.not_eq_false, not_true_eq_false, not_false_eq_true, reduceCtorEq] at hg1)
              (try simp only [decide_eq_true_eq, decide_eq_false_iff_not, Bool.not_eq_true', Bool.not_eq_false', Bool.not_eq_true, Bool.not_eq_false, not_true_eq_false, not_false_eq_true, reduceCtorEq] at hg1)
              apply Wp.skip
              apply Out.blockN
              apply Out.seqN
              apply Wp.region
              refine WpL.v (V.add) ?_
              refine WpL.v (V.mv) ?_
              apply WpL.nil
              rotate_left
              (try simp only [decide_eq_true_eq, decide_eq_false_iff_not, Bool.not_eq_true', Bool.not_eq_false', Bool.not_eq_true, Bool.not_eq_false, not_true_eq_false, not_false_eq_true, reduceCtorEq] at hg0)
              (exfalso; omega)
              exact Out.ag hK2 (k + 1) (by omega) (by show nn - (k + 1) < nn - k; omega)
            · rw [show sayK y.phase = 3 by unfold sayK; rw [hp1]; rfl] at hg
              apply Wp.seq
              apply Wp.region
              refine WpL.v (V.cmp) ?_
              apply WpL.nil
              apply Out.seqN
              apply Wp.seq
              refine Wp.c (fun hi0 => ?_) (fun hi0 => ?_)
              (try simp only [decide_eq_true_eq, decide_eq_false_iff_not, Bool.not_eq_true', Bool.not_eq_false', Bool.not_eq_true, Bool.not_eq_false, not_true_eq_false, not_false_eq_true, reduceCtorEq] at hi0)
              apply Wp.skip
              apply Out.seqN
              apply Wp.seq
              apply Wp.block
              apply Wp.seq
              apply Wp.region
              refine WpL.v (V.mv) ?_
              refine WpL.v (V.ixR tb rfl rfl (by assumption)) ?_
              refine WpL.v (V.ldRA tb rfl hx18 (getMapS hg)) ?_
              refine WpL.o (O.al tb (fun p13 => ?_))
              refine WpL.v (V.as) ?_
              refine WpL.o (O.stA tb ?_)
              apply WpL.nil
              apply Out.seqN
              apply Wp.seq
              apply Wp.region
              refine WpL.v (V.bldArr tb rfl (PartsFrom.one rfl (PartsFrom.one rfl (PartsFrom.one rfl (PartsFrom.one rfl PartsFrom.nil))))) ?_
              refine WpL.v (V.mv) ?_
              refine WpL.v (V.nc) ?_
              refine WpL.v (V.fa tb) ?_
              refine WpL.v (V.ld1 tb (v := I 2) (hr := by show some (I y.phase) = _; rw [hp1])) ?_
              refine WpL.v (V.ixAgg tb (m := 4) (k := 2) rfl rfl rfl (by decide)) ?_
              refine WpL.v (V.as) ?_
              apply WpL.nil
              apply Out.seqN
              apply Wp.seq
              refine Wp.dG [] ?_ (List.Sublist.cons_cons _ (List.Sublist.cons _ (List.Sublist.cons _ (List.Sublist.cons_cons _ (List.Sublist.cons _ (List.Sublist.cons _ (List.Sublist.cons _ (List.Sublist.cons_cons _ (List.Sublist.cons _ List.Sublist.slnil))))))))) (List.Sublist.cons_cons _ (List.Sublist.cons _ (List.Sublist.cons _ (List.Sublist.cons_cons _ (List.Sublist.cons _ (List.Sublist.cons _ (List.Sublist.cons _ (List.Sublist.cons_cons _ (List.Sublist.cons _ List.Sublist.slnil)))))))))
              refine WpA.tF 0 rfl (V.ldA tb) ?_
              refine WpA.tF 1 rfl (V.mv) ?_
              refine WpA.tF 2 rfl (V.fa tb) ?_
              refine WpA.tF 3 rfl (V.ld1 tb) ?_
              refine WpA.tF 4 rfl (V.mv) ?_
              refine WpA.tF 5 rfl (V.fa tb) ?_
              refine WpA.tF 6 rfl (V.ldA tb) ?_
              refine WpA.tF 7 rfl (V.fa tb) ?_
              refine WpA.tF 8 rfl (V.ldA tb) ?_
              refine WpA.tF 9 rfl (V.mv) ?_
              refine WpA.tF 10 rfl (V.nc) ?_
              refine WpA.tF 11 rfl (V.fa tb) ?_
              refine WpA.tF 12 rfl (V.ldA tb) ?_
              refine WpA.tF 13 rfl (V.bld tb (c' := (litM 3 c y.call k).c)) ?_
              refine WpA.tF 14 rfl (V.ne (TMsg.eqT _ _ _)) ?_
              refine WpA.ou ?_
              apply Out.seqN
              refine Wp.c (fun hi1 => ?_) (fun hi1 => ?_)
              (try simp only [decide_eq_true_eq, decide_eq_false_iff_not, Bool.not_eq_true', Bool.not_eq_false', Bool.not_eq_true, Bool.not_eq_false, not_true_eq_false, not_false_eq_true, reduceCtorEq] at hi1)
              (try simp only [decide_eq_true_eq, decide_eq_false_iff_not, Bool.not_eq_true', Bool.not_eq_false', Bool.not_eq_true, Bool.not_eq_false, not_true_eq_false, not_false_eq_true, reduceCtorEq] at hi1)
              apply Wp.skip
              apply Out.blockN
              apply Out.seqN
              apply Wp.region
              refine WpL.v (V.add) ?_
              refine WpL.v (V.mv) ?_
              apply WpL.nil
              rotate_left
              (try simp only [decide_eq_true_eq, decide_eq_false_iff_not, Bool.not_eq_true', Bool.not_eq_false', Bool.not_eq_true, Bool.not_eq_false, not_true_eq_false, not_false_eq_true, reduceCtorEq] at hi0)
              (exfalso; omega)
              exact Out.ag hK2 (k + 1) (by omega) (by show nn - (k + 1) < nn - k; omega)
            · rw [show sayK y.phase = 5 by unfold sayK; rw [hp1]; rfl] at hg
              apply Wp.seq
              apply Wp.region
              refine WpL.v (V.cmp) ?_
              apply WpL.nil
              apply Out.seqN
              apply Wp.seq
              refine Wp.c (fun hj0 => ?_) (fun hj0 => ?_)
              (try simp only [decide_eq_true_eq, decide_eq_false_iff_not, Bool.not_eq_true', Bool.not_eq_false', Bool.not_eq_true, Bool.not_eq_false, not_true_eq_false, not_false_eq_true, reduceCtorEq] at hj0)
              apply Wp.skip
              apply Out.seqN
              apply Wp.seq
              apply Wp.block
              apply Wp.seq
              apply Wp.region
              refine WpL.v (V.mv) ?_
              refine WpL.v (V.ixR tb rfl rfl (by assumption)) ?_
              refine WpL.v (V.ldRA tb rfl hx18 (getMapS hg)) ?_
              refine WpL.o (O.al tb (fun p13 => ?_))
              refine WpL.v (V.as) ?_
              refine WpL.o (O.stA tb ?_)
              apply WpL.nil
              apply Out.seqN
              apply Wp.seq
              apply Wp.region
              refine WpL.v (V.bldArr tb rfl (PartsFrom.one rfl (PartsFrom.one rfl (PartsFrom.one rfl (PartsFrom.one rfl PartsFrom.nil))))) ?_
              refine WpL.v (V.mv) ?_
              refine WpL.v (V.nc) ?_
              refine WpL.v (V.fa tb) ?_
              refine WpL.v (V.ld1 tb (v := I 3) (hr := by show some (I y.phase) = _; rw [hp1])) ?_
              refine WpL.v (V.ixAgg tb (m := 4) (k := 3) rfl rfl rfl (by decide)) ?_
              refine WpL.v (V.as) ?_
              apply WpL.nil
              apply Out.seqN
              apply Wp.seq
              refine Wp.dG [] ?_ (List.Sublist.cons_cons _ (List.Sublist.cons _ (List.Sublist.cons _ (List.Sublist.cons_cons _ (List.Sublist.cons _ (List.Sublist.cons _ (List.Sublist.cons _ (List.Sublist.cons_cons _ (List.Sublist.cons _ List.Sublist.slnil))))))))) (List.Sublist.cons_cons _ (List.Sublist.cons _ (List.Sublist.cons _ (List.Sublist.cons_cons _ (List.Sublist.cons _ (List.Sublist.cons _ (List.Sublist.cons _ (List.Sublist.cons_cons _ (List.Sublist.cons _ List.Sublist.slnil)))))))))
              refine WpA.tF 0 rfl (V.ldA tb) ?_
              refine WpA.tF 1 rfl (V.mv) ?_
              refine WpA.tF 2 rfl (V.fa tb) ?_
              refine WpA.tF 3 rfl (V.ld1 tb) ?_
              refine WpA.tF 4 rfl (V.mv) ?_
              refine WpA.tF 5 rfl (V.fa tb) ?_
              refine WpA.tF 6 rfl (V.ldA tb) ?_
              refine WpA.tF 7 rfl (V.fa tb) ?_
              refine WpA.tF 8 rfl (V.ldA tb) ?_
              refine WpA.tF 9 rfl (V.mv) ?_
              refine WpA.tF 10 rfl (V.nc) ?_
              refine WpA.tF 11 rfl (V.fa tb) ?_
              refine WpA.tF 12 rfl (V.ldA tb) ?_
              refine WpA.tF 13 rfl (V.bld tb (c' := (litM 5 c y.call k).c)) ?_
              refine WpA.tF 14 rfl (V.ne (TMsg.eqT _ _ _)) ?_
              refine WpA.ou ?_
              apply Out.seqN
              refine Wp.c (fun hj1 => ?_) (fun hj1 => ?_)
              (try simp only [decide_eq_true_eq, decide_eq_false_iff_not, Bool.not_eq_true', Bool.not_eq_false', Bool.not_eq_true, Bool.not_eq_false, not_true_eq_false, not_false_eq_true, reduceCtorEq] at hj1)
              (try simp only [decide_eq_true_eq, decide_eq_false_iff_not, Bool.not_eq_true', Bool.not_eq_false', Bool.not_eq_true, Bool.not_eq_false, not_true_eq_false, not_false_eq_true, reduceCtorEq] at hj1)
              apply Wp.skip
              apply Out.blockN
              apply Out.seqN
              apply Wp.region
              refine WpL.v (V.add) ?_
              refine WpL.v (V.mv) ?_
              apply WpL.nil
              rotate_left
              (try simp only [decide_eq_true_eq, decide_eq_false_iff_not, Bool.not_eq_true', Bool.not_eq_false', Bool.not_eq_true, Bool.not_eq_false, not_true_eq_false, not_false_eq_true, reduceCtorEq] at hj0)
              (exfalso; omega)
              exact Out.ag hK2 (k + 1) (by omega) (by show nn - (k + 1) < nn - k; omega)
          · obtain rfl : k = nn := by omega
            apply Wp.seq
            apply Wp.region
            refine WpL.v (V.cmp) ?_
            apply WpL.nil
            apply Out.seqN
            apply Wp.seq
            refine Wp.c (fun hh0 => ?_) (fun hh0 => ?_)
            (try simp only [decide_eq_true_eq, decide_eq_false_iff_not, Bool.not_eq_true', Bool.not_eq_false', Bool.not_eq_true, Bool.not_eq_false, not_true_eq_false, not_false_eq_true, reduceCtorEq] at hh0)
            (exfalso; omega)
            (try simp only [decide_eq_true_eq, decide_eq_false_iff_not, Bool.not_eq_true', Bool.not_eq_false', Bool.not_eq_true, Bool.not_eq_false, not_true_eq_false, not_false_eq_true, reduceCtorEq] at hh0)
            apply Wp.exit
            apply Out.seqE
            apply Out.seqE
            apply Out.blockE
            apply Out.blockN
            apply Out.seqN
            apply Wp.region
            refine WpL.v (V.add) ?_
            refine WpL.v (V.mv) ?_
            apply WpL.nil
            exact Out.ag hK ⟨i + 1, x, y, vp, vo⟩ ⟨by show i + 1 ≤ _; omega, hk, hr⟩ (by show xs.length - (i + 1) < xs.length - i; omega)
      | false =>
        have h1 := lead_hear q23 x0 hz0.wf s.Msg (by omega)
        have h2 := ref_hear p23 y0 vp vo s.Msg (by omega) (by omega) (by omega)
        obtain ⟨hr, hb⟩ := hrel0.hear (by omega) s.Msg
        have hk := hear_keeps hz0 s.Msg
        rw [hb] at h1
        unfold refE at h2
        generalize (x0.hear s.Msg).1 = x at *
        generalize (y0.hear s.Msg).1 = y at *
        generalize (y0.hear s.Msg).2 = moved at *
        have hmv : (moved == moved) = true := by cases moved <;> rfl
        have hPh := lead_phase q23 x
        rw [hr.phase] at hPh
        have hCl := lead_call q23 x
        rw [hr.call] at hCl
        have hBl := lead_ballot q23 x
        rw [hr.ballot] at hBl
        have hIt := lead_item q23 x
        rw [hr.item] at hIt
        have hxn := hk.n
        have hS := lead_say_rd q23 x (by omega)
        by_cases hp : y.phase = 4
        · rw [say_lost (hr.phase.trans hp)] at hS
          dsimp only [List.length_nil] at hS
          apply Wp.seq
          apply Wp.region
          refine WpL.v (V.cmp) ?_
          apply WpL.nil
          apply Out.seqN
          apply Wp.seq
          refine Wp.c (fun hb_0 => ?_) (fun hb_0 => ?_)
          (try simp only [decide_eq_true_eq, decide_eq_false_iff_not, Bool.not_eq_true', Bool.not_eq_false', Bool.not_eq_true, Bool.not_eq_false, not_true_eq_false, not_false_eq_true, reduceCtorEq] at hb_0)
          apply Wp.skip
          apply Out.seqN
          apply Wp.seq
          apply Wp.block
          apply Wp.seq
          apply Wp.region
          refine WpL.v (V.ixR tb rfl rfl (by assumption)) ?_
          refine WpL.v (V.ldRA tb rfl (by assumption) (getMapS (by assumption))) ?_
          refine WpL.o (O.al tb (fun p8 => ?_))
          refine WpL.o (O.stA tb ?_)
          apply WpL.nil
          apply Out.seqN
          apply Wp.seq
          apply Wp.region
          refine WpL.v (V.as) ?_
          refine WpL.v (V.as) ?_
          apply WpL.nil
          apply Out.seqN
          apply Wp.seq
          apply Wp.seq
          apply Wp.region
          refine WpL.v (V.fa tb) ?_
          refine WpL.v (V.ld1 tb (v := B false) (hr := by rw [← hsl]; rfl)) ?_
          apply WpL.nil
          apply Out.seqN
          refine Wp.cF ?_
          refine Wp.dG [] ?_ (List.Sublist.cons_cons _ (List.Sublist.cons _ (List.Sublist.cons _ (List.Sublist.cons _ (List.Sublist.cons _ (List.Sublist.cons _ (List.Sublist.cons _ List.Sublist.slnil))))))) (List.Sublist.cons_cons _ (List.Sublist.cons _ (List.Sublist.cons _ (List.Sublist.cons _ (List.Sublist.cons _ (List.Sublist.cons _ (List.Sublist.cons _ List.Sublist.slnil)))))))
          refine WpA.tF 0 rfl (V.mv) ?_
          refine WpA.tF 1 rfl (V.fa tb) ?_
          refine WpA.tF 2 rfl (V.ldA tb) ?_
          refine WpA.tF 4 rfl (V.mv) ?_
          refine WpA.tF 5 rfl (V.fa tb) ?_
          refine WpA.tF 6 rfl (V.ldA tb) ?_
          refine WpA.oS 3 rfl (Op1.callT rfl (h1) (by (repeat (first | exact Sel.nil | exact Rem.here | apply Sel.cons | apply Rem.there))) ?_)
          rintro v1 s2 ⟨rfl, rfl⟩
          refine incat ⟨?_, ?_, ?_⟩
          exact holdT
          exact holdT
          refine WpA.oS 7 rfl (Op1.callT rfl (h2) (by (repeat (first | exact Sel.nil | exact Rem.here | apply Sel.cons | apply Rem.there))) ?_)
          rintro v3 s4 ⟨vq45, ⟨vr45, ⟨rfl, rfl⟩⟩⟩
          refine incat ⟨?_, ?_, ?_⟩
          exact holdT
          exact holdT
          refine WpA.tF 8 rfl (V.as) ?_
          refine WpA.tF 9 rfl (V.as) ?_
          refine WpA.ou ?_
          apply Out.seqN
          apply Wp.seq
          apply Wp.seq
          refine Wp.dG [] ?_ (List.Sublist.cons_cons _ (List.Sublist.cons_cons _ (List.Sublist.cons_cons _ (List.Sublist.cons _ (List.Sublist.cons _ (List.Sublist.cons _ (List.Sublist.cons_cons _ List.Sublist.slnil))))))) (List.Sublist.cons_cons _ (List.Sublist.cons_cons _ (List.Sublist.cons_cons _ (List.Sublist.cons _ (List.Sublist.cons _ (List.Sublist.cons _ (List.Sublist.cons_cons _ List.Sublist.slnil)))))))
          refine WpA.tF 0 rfl (V.mv) ?_
          refine WpA.tF 1 rfl (V.mv) ?_
          refine WpA.tF 2 rfl (V.neB tb) ?_
          refine WpA.tF 3 rfl (V.mv) ?_
          refine WpA.pt 49 (fun hb_5 => ?_) (fun hb_5 => ?_)
          (try simp only [decide_eq_true_eq, decide_eq_false_iff_not, Bool.not_eq_true', Bool.not_eq_false', Bool.not_eq_true, Bool.not_eq_false, not_true_eq_false, not_false_eq_true, reduceCtorEq] at hb_5)
          exact absurd (Eq.trans (Eq.symm hb_5) (by assumption) : false = true) (by decide)
          (try simp only [decide_eq_true_eq, decide_eq_false_iff_not, Bool.not_eq_true', Bool.not_eq_false', Bool.not_eq_true, Bool.not_eq_false, not_true_eq_false, not_false_eq_true, reduceCtorEq] at hb_5)
          refine WpA.tF 4 rfl (V.mv) ?_
          refine WpA.tF 6 rfl (V.mv) ?_
          refine WpA.tF 7 rfl (V.nc) ?_
          refine WpA.tF 8 rfl (V.fa tb) ?_
          refine WpA.tF 9 rfl (V.ld1 tb) ?_
          refine WpA.oS 5 rfl (Op1.callT rfl (hPh) (by (repeat (first | exact Sel.nil | exact Rem.here | apply Sel.cons | apply Rem.there))) ?_)
          rintro v6 s7 ⟨rfl, rfl⟩
          refine incat ⟨?_, ?_, ?_⟩
          exact holdT
          exact holdT
          refine WpA.tF 10 rfl (V.cmp) ?_
          refine WpA.tF 11 rfl (V.pF) ?_
          refine WpA.tF 12 rfl (V.mv) ?_
          refine WpA.pt 58 (fun hb_8 => ?_) (fun hb_8 => ?_)
          (try simp only [decide_eq_true_eq, decide_eq_false_iff_not, Bool.not_eq_true', Bool.not_eq_false', Bool.not_eq_true, Bool.not_eq_false, not_true_eq_false, not_false_eq_true, reduceCtorEq] at hb_8)
          contradiction
          (try simp only [decide_eq_true_eq, decide_eq_false_iff_not, Bool.not_eq_true', Bool.not_eq_false', Bool.not_eq_true, Bool.not_eq_false, not_true_eq_false, not_false_eq_true, reduceCtorEq] at hb_8)
          refine WpA.tF 13 rfl (V.mv) ?_
          refine WpA.tF 15 rfl (V.mv) ?_
          refine WpA.tF 16 rfl (V.nc) ?_
          refine WpA.tF 17 rfl (V.fa tb) ?_
          refine WpA.tF 18 rfl (V.ldA tb) ?_
          refine WpA.oS 14 rfl (Op1.callT rfl (hCl) (by (repeat (first | exact Sel.nil | exact Rem.here | apply Sel.cons | apply Rem.there))) ?_)
          rintro v9 s10 ⟨rfl, rfl⟩
          refine incat ⟨?_, ?_, ?_⟩
          exact holdT
          exact holdT
          refine WpA.tF 19 rfl (V.ne (TCall.eqT _ _ _)) ?_
          refine WpA.tF 20 rfl (V.pF) ?_
          refine WpA.tF 21 rfl (V.mv) ?_
          refine WpA.pt 67 (fun hb_11 => ?_) (fun hb_11 => ?_)
          (try simp only [decide_eq_true_eq, decide_eq_false_iff_not, Bool.not_eq_true', Bool.not_eq_false', Bool.not_eq_true, Bool.not_eq_false, not_true_eq_false, not_false_eq_true, reduceCtorEq] at hb_11)
          contradiction
          (try simp only [decide_eq_true_eq, decide_eq_false_iff_not, Bool.not_eq_true', Bool.not_eq_false', Bool.not_eq_true, Bool.not_eq_false, not_true_eq_false, not_false_eq_true, reduceCtorEq] at hb_11)
          refine WpA.tF 22 rfl (V.mv) ?_
          refine WpA.tF 24 rfl (V.mv) ?_
          refine WpA.tF 25 rfl (V.nc) ?_
          refine WpA.tF 26 rfl (V.fa tb) ?_
          refine WpA.tF 27 rfl (V.ldA tb) ?_
          refine WpA.oS 23 rfl (Op1.callT rfl (hBl) (by (repeat (first | exact Sel.nil | exact Rem.here | apply Sel.cons | apply Rem.there))) ?_)
          rintro v12 s13 ⟨rfl, rfl⟩
          refine incat ⟨?_, ?_, ?_⟩
          exact holdT
          exact holdT
          refine WpA.tF 28 rfl (V.ne (TBallot.eqT _ _ _)) ?_
          refine WpA.tF 29 rfl (V.pF) ?_
          refine WpA.tF 30 rfl (V.mv) ?_
          refine WpA.pt 76 (fun hb_14 => ?_) (fun hb_14 => ?_)
          (try simp only [decide_eq_true_eq, decide_eq_false_iff_not, Bool.not_eq_true', Bool.not_eq_false', Bool.not_eq_true, Bool.not_eq_false, not_true_eq_false, not_false_eq_true, reduceCtorEq] at hb_14)
          contradiction
          (try simp only [decide_eq_true_eq, decide_eq_false_iff_not, Bool.not_eq_true', Bool.not_eq_false', Bool.not_eq_true, Bool.not_eq_false, not_true_eq_false, not_false_eq_true, reduceCtorEq] at hb_14)
          refine WpA.tF 31 rfl (V.mv) ?_
          refine WpA.tF 33 rfl (V.mv) ?_
          refine WpA.tF 34 rfl (V.nc) ?_
          refine WpA.tF 35 rfl (V.fa tb) ?_
          refine WpA.tF 36 rfl (V.ldA tb) ?_
          refine WpA.oS 32 rfl (Op1.callT rfl (hIt) (by (repeat (first | exact Sel.nil | exact Rem.here | apply Sel.cons | apply Rem.there))) ?_)
          rintro v15 s16 ⟨rfl, rfl⟩
          refine incat ⟨?_, ?_, ?_⟩
          exact holdT
          exact holdT
          refine WpA.tF 37 rfl (V.ne (TItem.eqT _ _ _)) ?_
          refine WpA.tF 38 rfl (V.pF) ?_
          refine WpA.ou ?_
          apply Out.seqN
          refine Wp.c (fun hb_17 => ?_) (fun hb_17 => ?_)
          (try simp only [decide_eq_true_eq, decide_eq_false_iff_not, Bool.not_eq_true', Bool.not_eq_false', Bool.not_eq_true, Bool.not_eq_false, not_true_eq_false, not_false_eq_true, reduceCtorEq] at hb_17)
          contradiction
          (try simp only [decide_eq_true_eq, decide_eq_false_iff_not, Bool.not_eq_true', Bool.not_eq_false', Bool.not_eq_true, Bool.not_eq_false, not_true_eq_false, not_false_eq_true, reduceCtorEq] at hb_17)
          apply Wp.skip
          apply Out.seqN
          apply Wp.seq
          apply Wp.region
          refine WpL.v (V.mv) ?_
          refine WpL.o (Op1.callT rfl (hS) (by (repeat (first | exact Sel.nil | exact Rem.here | apply Sel.cons | apply Rem.there))) ?_)
          rintro v19 s20 ⟨ap86, ⟨cp86, ⟨g86, ⟨hx18, ⟨rfl, rfl⟩⟩⟩⟩⟩
          refine incat ?_
          refine WpL.v (V.as) ?_
          apply WpL.nil
          apply Out.seqN
          apply Wp.seq
          apply Wp.seq
          apply Wp.region
          refine WpL.v (V.mv) ?_
          refine WpL.v (V.nc) ?_
          refine WpL.v (V.fa tb) ?_
          refine WpL.v (V.ld1 tb) ?_
          refine WpL.v (V.cmp) ?_
          apply WpL.nil
          apply Out.seqN
          refine Wp.c (fun hb_21 => ?_) (fun hb_21 => ?_)
          (try simp only [decide_eq_true_eq, decide_eq_false_iff_not, Bool.not_eq_true', Bool.not_eq_false', Bool.not_eq_true, Bool.not_eq_false, not_true_eq_false, not_false_eq_true, reduceCtorEq] at hb_21)
          apply Wp.seq
          apply Wp.seq
          apply Wp.region
          refine WpL.v (V.mv) ?_
          refine WpL.v (V.lenL tb) ?_
          refine WpL.v (V.cmp) ?_
          apply WpL.nil
          apply Out.seqN
          refine Wp.cF ?_
          apply Wp.skip
          apply Out.seqN
          apply Wp.exit
          apply Out.seqE
          apply Out.blockE
          apply Out.seqN
          apply Wp.region
          refine WpL.v (V.add) ?_
          refine WpL.v (V.mv) ?_
          apply WpL.nil
          rotate_left
          (try simp only [decide_eq_true_eq, decide_eq_false_iff_not, Bool.not_eq_true', Bool.not_eq_false', Bool.not_eq_true, Bool.not_eq_false, not_true_eq_false, not_false_eq_true, reduceCtorEq] at hb_21)
          (exfalso; omega)
          (try simp only [decide_eq_true_eq, decide_eq_false_iff_not, Bool.not_eq_true', Bool.not_eq_false', Bool.not_eq_true, Bool.not_eq_false, not_true_eq_false, not_false_eq_true, reduceCtorEq] at hb_0)
          (exfalso; omega)
          exact Out.ag hK ⟨i + 1, x, y, vq45, vr45⟩ ⟨by show i + 1 ≤ _; omega, hk, hr⟩ (by show xs.length - (i + 1) < xs.length - i; omega)
        · have hph : y.phase = 1 ∨ y.phase = 2 ∨ y.phase = 3 := by have := hk.phase; have := hr.phase; omega
          have hsy : x.say = x.says nn := by rw [say_at (by rw [hr.phase]; exact hph), hxn, hnn]; rfl
          have hll := x.says_len nn
          rw [hsy] at hS
          apply Wp.seq
          apply Wp.region
          refine WpL.v (V.cmp) ?_
          apply WpL.nil
          apply Out.seqN
          apply Wp.seq
          refine Wp.c (fun hd_0 => ?_) (fun hd_0 => ?_)
          (try simp only [decide_eq_true_eq, decide_eq_false_iff_not, Bool.not_eq_true', Bool.not_eq_false', Bool.not_eq_true, Bool.not_eq_false, not_true_eq_false, not_false_eq_true, reduceCtorEq] at hd_0)
          apply Wp.skip
          apply Out.seqN
          apply Wp.seq
          apply Wp.block
          apply Wp.seq
          apply Wp.region
          refine WpL.v (V.ixR tb rfl rfl (by assumption)) ?_
          refine WpL.v (V.ldRA tb rfl (by assumption) (getMapS (by assumption))) ?_
          refine WpL.o (O.al tb (fun p8 => ?_))
          refine WpL.o (O.stA tb ?_)
          apply WpL.nil
          apply Out.seqN
          apply Wp.seq
          apply Wp.region
          refine WpL.v (V.as) ?_
          refine WpL.v (V.as) ?_
          apply WpL.nil
          apply Out.seqN
          apply Wp.seq
          apply Wp.seq
          apply Wp.region
          refine WpL.v (V.fa tb) ?_
          refine WpL.v (V.ld1 tb (v := B false) (hr := by rw [← hsl]; rfl)) ?_
          apply WpL.nil
          apply Out.seqN
          refine Wp.cF ?_
          refine Wp.dG [] ?_ (List.Sublist.cons_cons _ (List.Sublist.cons _ (List.Sublist.cons _ (List.Sublist.cons _ (List.Sublist.cons _ (List.Sublist.cons _ (List.Sublist.cons _ List.Sublist.slnil))))))) (List.Sublist.cons_cons _ (List.Sublist.cons _ (List.Sublist.cons _ (List.Sublist.cons _ (List.Sublist.cons _ (List.Sublist.cons _ (List.Sublist.cons _ List.Sublist.slnil)))))))
          refine WpA.tF 0 rfl (V.mv) ?_
          refine WpA.tF 1 rfl (V.fa tb) ?_
          refine WpA.tF 2 rfl (V.ldA tb) ?_
          refine WpA.tF 4 rfl (V.mv) ?_
          refine WpA.tF 5 rfl (V.fa tb) ?_
          refine WpA.tF 6 rfl (V.ldA tb) ?_
          refine WpA.oS 3 rfl (Op1.callT rfl (h1) (by (repeat (first | exact Sel.nil | exact Rem.here | apply Sel.cons | apply Rem.there))) ?_)
          rintro v1 s2 ⟨rfl, rfl⟩
          refine incat ⟨?_, ?_, ?_⟩
          exact holdT
          exact holdT
          refine WpA.oS 7 rfl (Op1.callT rfl (h2) (by (repeat (first | exact Sel.nil | exact Rem.here | apply Sel.cons | apply Rem.there))) ?_)
          rintro v3 s4 ⟨vq45, ⟨vr45, ⟨rfl, rfl⟩⟩⟩
          refine incat ⟨?_, ?_, ?_⟩
          exact holdT
          exact holdT
          refine WpA.tF 8 rfl (V.as) ?_
          refine WpA.tF 9 rfl (V.as) ?_
          refine WpA.ou ?_
          apply Out.seqN
          apply Wp.seq
          apply Wp.seq
          refine Wp.dG [] ?_ (List.Sublist.cons_cons _ (List.Sublist.cons_cons _ (List.Sublist.cons_cons _ (List.Sublist.cons _ (List.Sublist.cons _ (List.Sublist.cons _ (List.Sublist.cons_cons _ List.Sublist.slnil))))))) (List.Sublist.cons_cons _ (List.Sublist.cons_cons _ (List.Sublist.cons_cons _ (List.Sublist.cons _ (List.Sublist.cons _ (List.Sublist.cons _ (List.Sublist.cons_cons _ List.Sublist.slnil)))))))
          refine WpA.tF 0 rfl (V.mv) ?_
          refine WpA.tF 1 rfl (V.mv) ?_
          refine WpA.tF 2 rfl (V.neB tb) ?_
          refine WpA.tF 3 rfl (V.mv) ?_
          refine WpA.pt 49 (fun hd_5 => ?_) (fun hd_5 => ?_)
          (try simp only [decide_eq_true_eq, decide_eq_false_iff_not, Bool.not_eq_true', Bool.not_eq_false', Bool.not_eq_true, Bool.not_eq_false, not_true_eq_false, not_false_eq_true, reduceCtorEq] at hd_5)
          exact absurd (Eq.trans (Eq.symm hd_5) (by assumption) : false = true) (by decide)
          (try simp only [decide_eq_true_eq, decide_eq_false_iff_not, Bool.not_eq_true', Bool.not_eq_false', Bool.not_eq_true, Bool.not_eq_false, not_true_eq_false, not_false_eq_true, reduceCtorEq] at hd_5)
          refine WpA.tF 4 rfl (V.mv) ?_
          refine WpA.tF 6 rfl (V.mv) ?_
          refine WpA.tF 7 rfl (V.nc) ?_
          refine WpA.tF 8 rfl (V.fa tb) ?_
          refine WpA.tF 9 rfl (V.ld1 tb) ?_
          refine WpA.oS 5 rfl (Op1.callT rfl (hPh) (by (repeat (first | exact Sel.nil | exact Rem.here | apply Sel.cons | apply Rem.there))) ?_)
          rintro v6 s7 ⟨rfl, rfl⟩
          refine incat ⟨?_, ?_, ?_⟩
          exact holdT
          exact holdT
          refine WpA.tF 10 rfl (V.cmp) ?_
          refine WpA.tF 11 rfl (V.pF) ?_
          refine WpA.tF 12 rfl (V.mv) ?_
          refine WpA.pt 58 (fun hd_8 => ?_) (fun hd_8 => ?_)
          (try simp only [decide_eq_true_eq, decide_eq_false_iff_not, Bool.not_eq_true', Bool.not_eq_false', Bool.not_eq_true, Bool.not_eq_false, not_true_eq_false, not_false_eq_true, reduceCtorEq] at hd_8)
          contradiction
          (try simp only [decide_eq_true_eq, decide_eq_false_iff_not, Bool.not_eq_true', Bool.not_eq_false', Bool.not_eq_true, Bool.not_eq_false, not_true_eq_false, not_false_eq_true, reduceCtorEq] at hd_8)
          refine WpA.tF 13 rfl (V.mv) ?_
          refine WpA.tF 15 rfl (V.mv) ?_
          refine WpA.tF 16 rfl (V.nc) ?_
          refine WpA.tF 17 rfl (V.fa tb) ?_
          refine WpA.tF 18 rfl (V.ldA tb) ?_
          refine WpA.oS 14 rfl (Op1.callT rfl (hCl) (by (repeat (first | exact Sel.nil | exact Rem.here | apply Sel.cons | apply Rem.there))) ?_)
          rintro v9 s10 ⟨rfl, rfl⟩
          refine incat ⟨?_, ?_, ?_⟩
          exact holdT
          exact holdT
          refine WpA.tF 19 rfl (V.ne (TCall.eqT _ _ _)) ?_
          refine WpA.tF 20 rfl (V.pF) ?_
          refine WpA.tF 21 rfl (V.mv) ?_
          refine WpA.pt 67 (fun hd_11 => ?_) (fun hd_11 => ?_)
          (try simp only [decide_eq_true_eq, decide_eq_false_iff_not, Bool.not_eq_true', Bool.not_eq_false', Bool.not_eq_true, Bool.not_eq_false, not_true_eq_false, not_false_eq_true, reduceCtorEq] at hd_11)
          contradiction
          (try simp only [decide_eq_true_eq, decide_eq_false_iff_not, Bool.not_eq_true', Bool.not_eq_false', Bool.not_eq_true, Bool.not_eq_false, not_true_eq_false, not_false_eq_true, reduceCtorEq] at hd_11)
          refine WpA.tF 22 rfl (V.mv) ?_
          refine WpA.tF 24 rfl (V.mv) ?_
          refine WpA.tF 25 rfl (V.nc) ?_
          refine WpA.tF 26 rfl (V.fa tb) ?_
          refine WpA.tF 27 rfl (V.ldA tb) ?_
          refine WpA.oS 23 rfl (Op1.callT rfl (hBl) (by (repeat (first | exact Sel.nil | exact Rem.here | apply Sel.cons | apply Rem.there))) ?_)
          rintro v12 s13 ⟨rfl, rfl⟩
          refine incat ⟨?_, ?_, ?_⟩
          exact holdT
          exact holdT
          refine WpA.tF 28 rfl (V.ne (TBallot.eqT _ _ _)) ?_
          refine WpA.tF 29 rfl (V.pF) ?_
          refine WpA.tF 30 rfl (V.mv) ?_
          refine WpA.pt 76 (fun hd_14 => ?_) (fun hd_14 => ?_)
          (try simp only [decide_eq_true_eq, decide_eq_false_iff_not, Bool.not_eq_true', Bool.not_eq_false', Bool.not_eq_true, Bool.not_eq_false, not_true_eq_false, not_false_eq_true, reduceCtorEq] at hd_14)
          contradiction
          (try simp only [decide_eq_true_eq, decide_eq_false_iff_not, Bool.not_eq_true', Bool.not_eq_false', Bool.not_eq_true, Bool.not_eq_false, not_true_eq_false, not_false_eq_true, reduceCtorEq] at hd_14)
          refine WpA.tF 31 rfl (V.mv) ?_
          refine WpA.tF 33 rfl (V.mv) ?_
          refine WpA.tF 34 rfl (V.nc) ?_
          refine WpA.tF 35 rfl (V.fa tb) ?_
          refine WpA.tF 36 rfl (V.ldA tb) ?_
          refine WpA.oS 32 rfl (Op1.callT rfl (hIt) (by (repeat (first | exact Sel.nil | exact Rem.here | apply Sel.cons | apply Rem.there))) ?_)
          rintro v15 s16 ⟨rfl, rfl⟩
          refine incat ⟨?_, ?_, ?_⟩
          exact holdT
          exact holdT
          refine WpA.tF 37 rfl (V.ne (TItem.eqT _ _ _)) ?_
          refine WpA.tF 38 rfl (V.pF) ?_
          refine WpA.ou ?_
          apply Out.seqN
          refine Wp.c (fun hd_17 => ?_) (fun hd_17 => ?_)
          (try simp only [decide_eq_true_eq, decide_eq_false_iff_not, Bool.not_eq_true', Bool.not_eq_false', Bool.not_eq_true, Bool.not_eq_false, not_true_eq_false, not_false_eq_true, reduceCtorEq] at hd_17)
          contradiction
          (try simp only [decide_eq_true_eq, decide_eq_false_iff_not, Bool.not_eq_true', Bool.not_eq_false', Bool.not_eq_true, Bool.not_eq_false, not_true_eq_false, not_false_eq_true, reduceCtorEq] at hd_17)
          apply Wp.skip
          apply Out.seqN
          apply Wp.seq
          apply Wp.region
          refine WpL.v (V.mv) ?_
          refine WpL.o (Op1.callT rfl (hS) (by (repeat (first | exact Sel.nil | exact Rem.here | apply Sel.cons | apply Rem.there))) ?_)
          rintro v19 s20 ⟨ap86, ⟨cp86, ⟨g86, ⟨hx18, ⟨rfl, rfl⟩⟩⟩⟩⟩
          refine incat ?_
          refine WpL.v (V.as) ?_
          apply WpL.nil
          apply Out.seqN
          apply Wp.seq
          apply Wp.seq
          apply Wp.region
          refine WpL.v (V.mv) ?_
          refine WpL.v (V.nc) ?_
          refine WpL.v (V.fa tb) ?_
          refine WpL.v (V.ld1 tb) ?_
          refine WpL.v (V.cmp) ?_
          apply WpL.nil
          apply Out.seqN
          refine Wp.c (fun hd_21 => ?_) (fun hd_21 => ?_)
          (try simp only [decide_eq_true_eq, decide_eq_false_iff_not, Bool.not_eq_true', Bool.not_eq_false', Bool.not_eq_true, Bool.not_eq_false, not_true_eq_false, not_false_eq_true, reduceCtorEq] at hd_21)
          (exfalso; omega)
          (try simp only [decide_eq_true_eq, decide_eq_false_iff_not, Bool.not_eq_true', Bool.not_eq_false', Bool.not_eq_true, Bool.not_eq_false, not_true_eq_false, not_false_eq_true, reduceCtorEq] at hd_21)
          apply Wp.skip
          apply Out.seqN
          apply Wp.seq
          apply Wp.seq
          apply Wp.region
          refine WpL.v (V.mv) ?_
          refine WpL.v (V.lenL tb) ?_
          refine WpL.v (V.fa tb) ?_
          refine WpL.v (V.ld1 tb) ?_
          refine WpL.v (V.cmp) ?_
          apply WpL.nil
          apply Out.seqN
          refine Wp.c (fun hd_22 => ?_) (fun hd_22 => ?_)
          (try simp only [decide_eq_true_eq, decide_eq_false_iff_not, Bool.not_eq_true', Bool.not_eq_false', Bool.not_eq_true, Bool.not_eq_false, not_true_eq_false, not_false_eq_true, reduceCtorEq] at hd_22)
          (exfalso; omega)
          (try simp only [decide_eq_true_eq, decide_eq_false_iff_not, Bool.not_eq_true', Bool.not_eq_false', Bool.not_eq_true, Bool.not_eq_false, not_true_eq_false, not_false_eq_true, reduceCtorEq] at hd_22)
          apply Wp.skip
          apply Out.seqN
          apply Wp.seq
          apply Wp.region
          refine WpL.v (V.mv) ?_
          refine WpL.v (V.lenL tb) ?_
          refine WpL.v (V.mv) ?_
          apply WpL.nil
          apply Out.seqN
          apply Wp.block
          rotate_left
          (try simp only [decide_eq_true_eq, decide_eq_false_iff_not, Bool.not_eq_true', Bool.not_eq_false', Bool.not_eq_true, Bool.not_eq_false, not_true_eq_false, not_false_eq_true, reduceCtorEq] at hd_0)
          (exfalso; omega)
          have hgk : ∀ k, k < nn → (x.says nn)[k]? = some (litM (sayK y.phase) c y.call k) := fun k h => by rw [says_get h, lit_eq hk hr.call, hr.phase]
          refine Wp.lp [101, 100, 28, 27, 26, 6, 5, 2] (fun k : Nat => k ≤ nn) (fun k => [(102, I (k : Int))]) (fun _ => []) (fun k => nn - k) 0 (Nat.zero_le _) ?_
          intro k hkn K2 hK2
          dsimp only [List.cons_append, List.nil_append]
          by_cases hlk : k < nn
          · have hg := hgk k hlk
            rcases hph with hp1 | hp1 | hp1
            · rw [show sayK y.phase = 1 by unfold sayK; rw [hp1]; rfl] at hg
              apply Wp.seq
              apply Wp.region
              refine WpL.v (V.cmp) ?_
              apply WpL.nil
              apply Out.seqN
              apply Wp.seq
              refine Wp.c (fun hg_0 => ?_) (fun hg_0 => ?_)
              (try simp only [decide_eq_true_eq, decide_eq_false_iff_not, Bool.not_eq_true', Bool.not_eq_false', Bool.not_eq_true, Bool.not_eq_false, not_true_eq_false, not_false_eq_true, reduceCtorEq] at hg_0)
              apply Wp.skip
              apply Out.seqN
              apply Wp.seq
              apply Wp.block
              apply Wp.seq
              apply Wp.region
              refine WpL.v (V.mv) ?_
              refine WpL.v (V.ixR tb rfl rfl (by assumption)) ?_
              refine WpL.v (V.ldRA tb rfl hx18 (getMapS hg)) ?_
              refine WpL.o (O.al tb (fun p13 => ?_))
              refine WpL.v (V.as) ?_
              refine WpL.o (O.stA tb ?_)
              apply WpL.nil
              apply Out.seqN
              apply Wp.seq
              apply Wp.region
              refine WpL.v (V.bldArr tb rfl (PartsFrom.one rfl (PartsFrom.one rfl (PartsFrom.one rfl (PartsFrom.one rfl PartsFrom.nil))))) ?_
              refine WpL.v (V.mv) ?_
              refine WpL.v (V.nc) ?_
              refine WpL.v (V.fa tb) ?_
              refine WpL.v (V.ld1 tb (v := I 1) (hr := by show some (I y.phase) = _; rw [hp1])) ?_
              refine WpL.v (V.ixAgg tb (m := 4) (k := 1) rfl rfl rfl (by decide)) ?_
              refine WpL.v (V.as) ?_
              apply WpL.nil
              apply Out.seqN
              apply Wp.seq
              refine Wp.dG [] ?_ (List.Sublist.cons_cons _ (List.Sublist.cons _ (List.Sublist.cons _ (List.Sublist.cons_cons _ (List.Sublist.cons _ (List.Sublist.cons _ (List.Sublist.cons _ (List.Sublist.cons_cons _ (List.Sublist.cons _ List.Sublist.slnil))))))))) (List.Sublist.cons_cons _ (List.Sublist.cons _ (List.Sublist.cons _ (List.Sublist.cons_cons _ (List.Sublist.cons _ (List.Sublist.cons _ (List.Sublist.cons _ (List.Sublist.cons_cons _ (List.Sublist.cons _ List.Sublist.slnil)))))))))
              refine WpA.tF 0 rfl (V.ldA tb) ?_
              refine WpA.tF 1 rfl (V.mv) ?_
              refine WpA.tF 2 rfl (V.fa tb) ?_
              refine WpA.tF 3 rfl (V.ld1 tb) ?_
              refine WpA.tF 4 rfl (V.mv) ?_
              refine WpA.tF 5 rfl (V.fa tb) ?_
              refine WpA.tF 6 rfl (V.ldA tb) ?_
              refine WpA.tF 7 rfl (V.fa tb) ?_
              refine WpA.tF 8 rfl (V.ldA tb) ?_
              refine WpA.tF 9 rfl (V.mv) ?_
              refine WpA.tF 10 rfl (V.nc) ?_
              refine WpA.tF 11 rfl (V.fa tb) ?_
              refine WpA.tF 12 rfl (V.ldA tb) ?_
              refine WpA.tF 13 rfl (V.bld tb (c' := (litM 1 c y.call k).c)) ?_
              refine WpA.tF 14 rfl (V.ne (TMsg.eqT _ _ _)) ?_
              refine WpA.ou ?_
              apply Out.seqN
              refine Wp.c (fun hg_1 => ?_) (fun hg_1 => ?_)
              (try simp only [decide_eq_true_eq, decide_eq_false_iff_not, Bool.not_eq_true', Bool.not_eq_false', Bool.not_eq_true, Bool.not_eq_false, not_true_eq_false, not_false_eq_true, reduceCtorEq] at hg_1)
              (try simp only [decide_eq_true_eq, decide_eq_false_iff_not, Bool.not_eq_true', Bool.not_eq_false', Bool.not_eq_true, Bool.not_eq_false, not_true_eq_false, not_false_eq_true, reduceCtorEq] at hg_1)
              apply Wp.skip
              apply Out.blockN
              apply Out.seqN
              apply Wp.region
              refine WpL.v (V.add) ?_
              refine WpL.v (V.mv) ?_
              apply WpL.nil
              rotate_left
              (try simp only [decide_eq_true_eq, decide_eq_false_iff_not, Bool.not_eq_true', Bool.not_eq_false', Bool.not_eq_true, Bool.not_eq_false, not_true_eq_false, not_false_eq_true, reduceCtorEq] at hg_0)
              (exfalso; omega)
              exact Out.ag hK2 (k + 1) (by omega) (by show nn - (k + 1) < nn - k; omega)
            · rw [show sayK y.phase = 3 by unfold sayK; rw [hp1]; rfl] at hg
              apply Wp.seq
              apply Wp.region
              refine WpL.v (V.cmp) ?_
              apply WpL.nil
              apply Out.seqN
              apply Wp.seq
              refine Wp.c (fun hi_0 => ?_) (fun hi_0 => ?_)
              (try simp only [decide_eq_true_eq, decide_eq_false_iff_not, Bool.not_eq_true', Bool.not_eq_false', Bool.not_eq_true, Bool.not_eq_false, not_true_eq_false, not_false_eq_true, reduceCtorEq] at hi_0)
              apply Wp.skip
              apply Out.seqN
              apply Wp.seq
              apply Wp.block
              apply Wp.seq
              apply Wp.region
              refine WpL.v (V.mv) ?_
              refine WpL.v (V.ixR tb rfl rfl (by assumption)) ?_
              refine WpL.v (V.ldRA tb rfl hx18 (getMapS hg)) ?_
              refine WpL.o (O.al tb (fun p13 => ?_))
              refine WpL.v (V.as) ?_
              refine WpL.o (O.stA tb ?_)
              apply WpL.nil
              apply Out.seqN
              apply Wp.seq
              apply Wp.region
              refine WpL.v (V.bldArr tb rfl (PartsFrom.one rfl (PartsFrom.one rfl (PartsFrom.one rfl (PartsFrom.one rfl PartsFrom.nil))))) ?_
              refine WpL.v (V.mv) ?_
              refine WpL.v (V.nc) ?_
              refine WpL.v (V.fa tb) ?_
              refine WpL.v (V.ld1 tb (v := I 2) (hr := by show some (I y.phase) = _; rw [hp1])) ?_
              refine WpL.v (V.ixAgg tb (m := 4) (k := 2) rfl rfl rfl (by decide)) ?_
              refine WpL.v (V.as) ?_
              apply WpL.nil
              apply Out.seqN
              apply Wp.seq
              refine Wp.dG [] ?_ (List.Sublist.cons_cons _ (List.Sublist.cons _ (List.Sublist.cons _ (List.Sublist.cons_cons _ (List.Sublist.cons _ (List.Sublist.cons _ (List.Sublist.cons _ (List.Sublist.cons_cons _ (List.Sublist.cons _ List.Sublist.slnil))))))))) (List.Sublist.cons_cons _ (List.Sublist.cons _ (List.Sublist.cons _ (List.Sublist.cons_cons _ (List.Sublist.cons _ (List.Sublist.cons _ (List.Sublist.cons _ (List.Sublist.cons_cons _ (List.Sublist.cons _ List.Sublist.slnil)))))))))
              refine WpA.tF 0 rfl (V.ldA tb) ?_
              refine WpA.tF 1 rfl (V.mv) ?_
              refine WpA.tF 2 rfl (V.fa tb) ?_
              refine WpA.tF 3 rfl (V.ld1 tb) ?_
              refine WpA.tF 4 rfl (V.mv) ?_
              refine WpA.tF 5 rfl (V.fa tb) ?_
              refine WpA.tF 6 rfl (V.ldA tb) ?_
              refine WpA.tF 7 rfl (V.fa tb) ?_
              refine WpA.tF 8 rfl (V.ldA tb) ?_
              refine WpA.tF 9 rfl (V.mv) ?_
              refine WpA.tF 10 rfl (V.nc) ?_
              refine WpA.tF 11 rfl (V.fa tb) ?_
              refine WpA.tF 12 rfl (V.ldA tb) ?_
              refine WpA.tF 13 rfl (V.bld tb (c' := (litM 3 c y.call k).c)) ?_
              refine WpA.tF 14 rfl (V.ne (TMsg.eqT _ _ _)) ?_
              refine WpA.ou ?_
              apply Out.seqN
              refine Wp.c (fun hi_1 => ?_) (fun hi_1 => ?_)
              (try simp only [decide_eq_true_eq, decide_eq_false_iff_not, Bool.not_eq_true', Bool.not_eq_false', Bool.not_eq_true, Bool.not_eq_false, not_true_eq_false, not_false_eq_true, reduceCtorEq] at hi_1)
              (try simp only [decide_eq_true_eq, decide_eq_false_iff_not, Bool.not_eq_true', Bool.not_eq_false', Bool.not_eq_true, Bool.not_eq_false, not_true_eq_false, not_false_eq_true, reduceCtorEq] at hi_1)
              apply Wp.skip
              apply Out.blockN
              apply Out.seqN
              apply Wp.region
              refine WpL.v (V.add) ?_
              refine WpL.v (V.mv) ?_
              apply WpL.nil
              rotate_left
              (try simp only [decide_eq_true_eq, decide_eq_false_iff_not, Bool.not_eq_true', Bool.not_eq_false', Bool.not_eq_true, Bool.not_eq_false, not_true_eq_false, not_false_eq_true, reduceCtorEq] at hi_0)
              (exfalso; omega)
              exact Out.ag hK2 (k + 1) (by omega) (by show nn - (k + 1) < nn - k; omega)
            · rw [show sayK y.phase = 5 by unfold sayK; rw [hp1]; rfl] at hg
              apply Wp.seq
              apply Wp.region
              refine WpL.v (V.cmp) ?_
              apply WpL.nil
              apply Out.seqN
              apply Wp.seq
              refine Wp.c (fun hj_0 => ?_) (fun hj_0 => ?_)
              (try simp only [decide_eq_true_eq, decide_eq_false_iff_not, Bool.not_eq_true', Bool.not_eq_false', Bool.not_eq_true, Bool.not_eq_false, not_true_eq_false, not_false_eq_true, reduceCtorEq] at hj_0)
              apply Wp.skip
              apply Out.seqN
              apply Wp.seq
              apply Wp.block
              apply Wp.seq
              apply Wp.region
              refine WpL.v (V.mv) ?_
              refine WpL.v (V.ixR tb rfl rfl (by assumption)) ?_
              refine WpL.v (V.ldRA tb rfl hx18 (getMapS hg)) ?_
              refine WpL.o (O.al tb (fun p13 => ?_))
              refine WpL.v (V.as) ?_
              refine WpL.o (O.stA tb ?_)
              apply WpL.nil
              apply Out.seqN
              apply Wp.seq
              apply Wp.region
              refine WpL.v (V.bldArr tb rfl (PartsFrom.one rfl (PartsFrom.one rfl (PartsFrom.one rfl (PartsFrom.one rfl PartsFrom.nil))))) ?_
              refine WpL.v (V.mv) ?_
              refine WpL.v (V.nc) ?_
              refine WpL.v (V.fa tb) ?_
              refine WpL.v (V.ld1 tb (v := I 3) (hr := by show some (I y.phase) = _; rw [hp1])) ?_
              refine WpL.v (V.ixAgg tb (m := 4) (k := 3) rfl rfl rfl (by decide)) ?_
              refine WpL.v (V.as) ?_
              apply WpL.nil
              apply Out.seqN
              apply Wp.seq
              refine Wp.dG [] ?_ (List.Sublist.cons_cons _ (List.Sublist.cons _ (List.Sublist.cons _ (List.Sublist.cons_cons _ (List.Sublist.cons _ (List.Sublist.cons _ (List.Sublist.cons _ (List.Sublist.cons_cons _ (List.Sublist.cons _ List.Sublist.slnil))))))))) (List.Sublist.cons_cons _ (List.Sublist.cons _ (List.Sublist.cons _ (List.Sublist.cons_cons _ (List.Sublist.cons _ (List.Sublist.cons _ (List.Sublist.cons _ (List.Sublist.cons_cons _ (List.Sublist.cons _ List.Sublist.slnil)))))))))
              refine WpA.tF 0 rfl (V.ldA tb) ?_
              refine WpA.tF 1 rfl (V.mv) ?_
              refine WpA.tF 2 rfl (V.fa tb) ?_
              refine WpA.tF 3 rfl (V.ld1 tb) ?_
              refine WpA.tF 4 rfl (V.mv) ?_
              refine WpA.tF 5 rfl (V.fa tb) ?_
              refine WpA.tF 6 rfl (V.ldA tb) ?_
              refine WpA.tF 7 rfl (V.fa tb) ?_
              refine WpA.tF 8 rfl (V.ldA tb) ?_
              refine WpA.tF 9 rfl (V.mv) ?_
              refine WpA.tF 10 rfl (V.nc) ?_
              refine WpA.tF 11 rfl (V.fa tb) ?_
              refine WpA.tF 12 rfl (V.ldA tb) ?_
              refine WpA.tF 13 rfl (V.bld tb (c' := (litM 5 c y.call k).c)) ?_
              refine WpA.tF 14 rfl (V.ne (TMsg.eqT _ _ _)) ?_
              refine WpA.ou ?_
              apply Out.seqN
              refine Wp.c (fun hj_1 => ?_) (fun hj_1 => ?_)
              (try simp only [decide_eq_true_eq, decide_eq_false_iff_not, Bool.not_eq_true', Bool.not_eq_false', Bool.not_eq_true, Bool.not_eq_false, not_true_eq_false, not_false_eq_true, reduceCtorEq] at hj_1)
              (try simp only [decide_eq_true_eq, decide_eq_false_iff_not, Bool.not_eq_true', Bool.not_eq_false', Bool.not_eq_true, Bool.not_eq_false, not_true_eq_false, not_false_eq_true, reduceCtorEq] at hj_1)
              apply Wp.skip
              apply Out.blockN
              apply Out.seqN
              apply Wp.region
              refine WpL.v (V.add) ?_
              refine WpL.v (V.mv) ?_
              apply WpL.nil
              rotate_left
              (try simp only [decide_eq_true_eq, decide_eq_false_iff_not, Bool.not_eq_true', Bool.not_eq_false', Bool.not_eq_true, Bool.not_eq_false, not_true_eq_false, not_false_eq_true, reduceCtorEq] at hj_0)
              (exfalso; omega)
              exact Out.ag hK2 (k + 1) (by omega) (by show nn - (k + 1) < nn - k; omega)
          · obtain rfl : k = nn := by omega
            apply Wp.seq
            apply Wp.region
            refine WpL.v (V.cmp) ?_
            apply WpL.nil
            apply Out.seqN
            apply Wp.seq
            refine Wp.c (fun hh_0 => ?_) (fun hh_0 => ?_)
            (try simp only [decide_eq_true_eq, decide_eq_false_iff_not, Bool.not_eq_true', Bool.not_eq_false', Bool.not_eq_true, Bool.not_eq_false, not_true_eq_false, not_false_eq_true, reduceCtorEq] at hh_0)
            (exfalso; omega)
            (try simp only [decide_eq_true_eq, decide_eq_false_iff_not, Bool.not_eq_true', Bool.not_eq_false', Bool.not_eq_true, Bool.not_eq_false, not_true_eq_false, not_false_eq_true, reduceCtorEq] at hh_0)
            apply Wp.exit
            apply Out.seqE
            apply Out.seqE
            apply Out.blockE
            apply Out.blockN
            apply Out.seqN
            apply Wp.region
            refine WpL.v (V.add) ?_
            refine WpL.v (V.mv) ?_
            apply WpL.nil
            exact Out.ag hK ⟨i + 1, x, y, vq45, vr45⟩ ⟨by show i + 1 ≤ _; omega, hk, hr⟩ (by show xs.length - (i + 1) < xs.length - i; omega)
    · obtain rfl : i = xs.length := by omega
      apply Wp.seq
      apply Wp.region
      refine WpL.v (V.cmp) ?_
      apply WpL.nil
      apply Out.seqN
      apply Wp.seq
      refine Wp.c (fun hf0 => ?_) (fun hf0 => ?_)
      (try simp only [decide_eq_true_eq, decide_eq_false_iff_not, Bool.not_eq_true', Bool.not_eq_false', Bool.not_eq_true, Bool.not_eq_false, not_true_eq_false, not_false_eq_true, reduceCtorEq] at hf0)
      (exfalso; omega)
      (try simp only [decide_eq_true_eq, decide_eq_false_iff_not, Bool.not_eq_true', Bool.not_eq_false', Bool.not_eq_true, Bool.not_eq_false, not_true_eq_false, not_false_eq_true, reduceCtorEq] at hf0)
      apply Wp.exit
      apply Out.seqE
      apply Out.seqE
      apply Out.blockE
      apply Out.seqN
      apply Wp.seq
      apply Wp.region
      refine WpL.v (V.as) ?_
      apply WpL.nil
      apply Out.seqN
      apply Wp.seq
      apply Wp.region
      refine WpL.v (V.mv) ?_
      refine WpL.v (V.bld tb) ?_
      refine WpL.o (Op1.fn rfl (lead_hear0 _) ?_)
      refine WpL.v (V.not) ?_
      refine WpL.v (V.mv) ?_
      refine WpL.v (V.mv) ?_
      refine WpL.o (Op1.fn rfl (lead_late0) ?_)
      refine WpL.v (V.not) ?_
      refine WpL.v (V.pT) ?_
      refine WpL.v (V.mv) ?_
      refine WpL.v (V.mv) ?_
      refine WpL.o (Op1.callT rfl (lead_say0) (by (repeat (first | exact Sel.nil | exact Rem.here | apply Sel.cons | apply Rem.there))) ?_)
      rintro v1 s2 ⟨rfl, rfl⟩
      refine incat ?_
      refine WpL.v (V.lenL tb) ?_
      refine WpL.v (V.cmp) ?_
      refine WpL.v (V.pT) ?_
      refine WpL.v (V.mv) ?_
      refine WpL.v (V.mv) ?_
      refine WpL.o (Op1.fn rfl (lead_phase0) ?_)
      refine WpL.v (V.cmp) ?_
      refine WpL.v (V.pT) ?_
      refine WpL.v (V.mv) ?_
      refine WpL.v (V.mv) ?_
      refine WpL.o (Op1.fn rfl (lead_call0) ?_)
      refine WpL.v (V.bld tb) ?_
      refine WpL.v (V.eq (TCall.eqT _ _ _)) ?_
      refine WpL.v (V.pT) ?_
      refine WpL.v (V.mv) ?_
      refine WpL.v (V.mv) ?_
      refine WpL.o (Op1.fn rfl (lead_ballot0) ?_)
      refine WpL.v (V.bld tb) ?_
      refine WpL.v (V.eq (TBallot.eqT _ _ _)) ?_
      refine WpL.v (V.pT) ?_
      refine WpL.v (V.mv) ?_
      refine WpL.v (V.mv) ?_
      refine WpL.o (Op1.fn rfl (lead_item0) ?_)
      refine WpL.v (V.bld tb) ?_
      refine WpL.v (V.eq (TItem.eqT _ _ _)) ?_
      refine WpL.v (V.pT) ?_
      refine WpL.v (V.as) ?_
      apply WpL.nil
      apply Out.seqN
      apply Wp.ret
      refine Out.f1 rfl ResIs.t ⟨?_, rfl⟩
      exact rfl
  · rw [show (!(decide (c.N = 3) || (decide (c.N = 5) || decide (c.N = 7))) || decide (60 < xs.length)) = true by simp; omega] at hG
    refine Ct.enter Try.func13 rfl rfl fun W => ?_
    apply Wp.seq
    apply Wp.region
    refine WpL.o (O.bxA (fun p2 => ?_))
    refine WpL.v (V.as) ?_
    apply WpL.nil
    apply Out.seqN
    apply Wp.seq
    apply Wp.seq
    apply Wp.region
    refine WpL.o (Op1.fn rfl (alive14) ?_)
    refine WpL.v (V.not) ?_
    apply WpL.nil
    apply Out.seqN
    refine Wp.cF ?_
    apply Wp.skip
    apply Out.seqN
    apply Wp.seq
    apply Wp.seq
    apply Wp.region
    refine WpL.v (V.ldA tb) ?_
    refine WpL.v (V.mv) ?_
    refine WpL.o (Op1.fn rfl (hG) ?_)
    apply WpL.nil
    apply Out.seqN
    refine Wp.cT ?_
    apply Wp.seq
    apply Wp.region
    refine WpL.v (V.as) ?_
    apply WpL.nil
    apply Out.seqN
    apply Wp.ret
    apply Out.seqR
    refine Out.f1 rfl ResIs.t ⟨?_, rfl⟩
    exact rfl
open Go Go.ChangeShapes Go.WideShapes Go.ChangeAt Go.RowKit
theorem leadDoes_read : (Try.f13.params.toList.all fun t => Try.prog.readableRec t && decide (t < Try.prog.types.size)) = true := by kernel_rfl
theorem leadDoes_lifted (os : Go.Os) (started : os.Started) (H : Type) (enc : Go.TypeId × Go.Value → H) :
    ReturnsInHanded {} Try.checked os 13 .any (Rows.leadDoesSpec.pre6 enc Try.prog Try.f13 Rows.leadDoesRow.domain false) (Rows.leadDoesSpec.post enc Try.prog Try.f13 false true false false) := by
  refine returnsInHanded_of_change_sized (C := Try.checked) own started (by kernel_rfl) Try.func13
    (ChangeSpec.witness6 (enc := enc) (C := Try.checked) false ⟨#[], #[A Caucuslaw14Case.z.c, .slice none 0 0], []⟩ 8 (by kernel_rfl) (by kernel_rfl) (by kernel_rfl) (by kernel_rfl)) ?_
  intro W base args ds gs before hval0 hW hcnd hsz0 _
  have hsz : (DataW.weightsEach Try.prog (Try.f13.params.toList ++ Rows.leadDoesSpec.plain.varTypes Try.prog) (ds ++ gs)).all (· ≤ reachBytes) = true := hsz0
  have hval : ∀ (j : Nat) t v, Try.f13.params[j]? = some t → args[j]? = some v → Value.okWide Try.prog W .any base t v := hval0
  have hW' := hW
  obtain ⟨p, q, hA0, hV, rfl, hfz, hnd⟩ := hW
  have hA1 : DataW.TrodAll enc Try.prog W 0 (fun _ => true) true Try.f13.params.toList args.toList ds p := hA0
  have hA := hA1
  rw [Try.params13] at hA hval hsz
  obtain ⟨v0, vs0, d0, ds0, p0, q0, hargs, rfl, rfl, h0, r0⟩ := trodAll_cons hA
  obtain ⟨v1, vs1, d1, ds1, p1, q1, rfl, rfl, rfl, h1, r1⟩ := trodAll_cons r0
  obtain ⟨rfl, rfl, rfl⟩ := trodAll_nil r1
  obtain rfl : args = #[v0, v1] := by cases args; simp_all
  obtain ⟨rfl, rfl⟩ := trodVars_none hV
  obtain ⟨c0, rfl, f0⟩ := open_plain Caucuslaw14Case.leaves ⟨_, Try.underlying69⟩ (hval 0 69 v0 rfl rfl) h0 (sizedAll hsz 0 rfl rfl)
  obtain ⟨x0, rfl, w0⟩ := Caucuslaw14Case.fit f0
  obtain ⟨ao1, b1, off1, len1, cap1, xs1, rfl, hl1, hlc1, hcm1, ha1, hs1, hf1, hby1⟩ := open_slice_plain Try.underlying82 Caucuslaw14Step.leaves (by kernel_rfl) (by decide) (hval 1 82 v1 rfl rfl) h1 (sizedAll hsz 1 rfl rfl)
  obtain ⟨x1, rfl, w1⟩ := fits_map Caucuslaw14Step.c Caucuslaw14Step.wf hf1 Caucuslaw14Step.fit
  obtain rfl : len1 = x1.length := by simpa using hl1.symm
  simp only [List.append_nil] at hW' hA1
  have hbl : ∀ p : Nat × Nat, p ∈ [(x1.length, b1)] → 0 < p.1 → p.2 < W.heap.size := by
    intro p hp h0
    simp only [List.mem_cons, List.mem_nil_iff, or_false] at hp
    rcases hp with rfl
    · exact (ha1 h0).2
  have hR1 : Rd (snap W (blocksOf [(x1.length, b1)])) ao1 x1.length b1 off1 26 (x1.map Caucuslaw14Step.c) := Rd.snap (by simp) (Nat.le_trans hlc1 hcm1) ha1 hs1 (fun h => blocksOf_mem (len := x1.length) (by simp) h)
  refine (Ct.runSnap (blocksOf_nodup _) (blocksOf_lt hbl) (leadDoes_walk _ _ _ _ _ x0 x1 hR1)).mono fun e W' hh => ?_
  obtain ⟨rfl, hS⟩ := hh
  exact ⟨_, rfl, post_law (P := Try.prog) (f := Try.f13) (tbool := 4) hW' hA1 rfl rfl hS laid leadDoes_read rfl Try.underlying4⟩
theorem leadDoes_joined : joinedFacts Try.prog 13 Try.f13 Rows.leadDoesSpec Rows.leadDoesRow = true := by
  unfold joinedFacts
  rewrite [head_enter, head_lift, head_make]
  kernel_rfl
theorem leadDoes_over : Rows.leadDoesRow.holds Try.pinned (OpenSpec.ofChange Rows.leadDoesSpec) :=
  OpenClaim.holds_of_wide 13 Try.f13 rfl rfl rfl rfl rfl rfl rfl ⟨rfl, rfl, rfl, rfl, rfl⟩ rfl rfl rfl rfl rfl (by kernel_rfl) Try.func13 leadDoes_joined
    (of_decide_eq_true (by kernel_rfl)) (by unfold Func.isWrapper; first | (rw [if_pos (by decide +kernel)]; kernel_rfl) | (rw [if_neg (by decide +kernel)]; exact ⟨rfl, rfl⟩))
    (fun os started H enc _ => leadDoes_lifted os started H enc)
/-- THE STATEMENT. -/
theorem leadDoes_proved : Rows.LeadDoesSaid := leadDoes_over
#print axioms leadDoes_proved

end Go.Proofs.Ythoepbbpmdmfeaa
