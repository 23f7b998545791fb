/-
  The statement LeadTurned of layer 14: in whatever order pre-acceptances come, the call reaches no further than all. Proved for every input.
-/
import Derived.Test.YthoepbbpmdmfeaaHead
import Derived.Test.YthoepbbpmdmfeaaLead8
namespace Go.HL
open Go
theorem V.remQ {P : Program} {n : Fm} {env : Env} {σ : List Ent} {dst : Nat} {ty : TypeId} {pos : String} {af : Array Edge} {gd : Option (Nat × Bool)} {t ty' : TypeId} {x y : Operand} {k : IntKind} {p q s : Int} (hq : p % q = s) (hx : ev env x = some (.int k p)) (hy : ev env y = some (.int k q)) (hb : 0 ≤ p ∧ 1 ≤ q := by omega) :
    Val P n env σ ⟨some dst, .binOp .rem t x y ty', ty, pos, af, gd⟩ (.int k s) := hq ▸ V.rem hx hy hb
def fieldIs (P : Program) (s f off T : Nat) : Bool := match P.underlying s with
  | some (.struct fs) => match fs[f]? with
    | some fd => fd.offset == off && fd.type == T
    | none => false
  | _ => false
/-- A part of a struct that is a value. -/
theorem V.fldA {P : Program} (tb : Tabs P) {n : Fm} {env : Env} {σ : List Ent} {dst : Nat} {ty : TypeId} {pos : String} {af : Array Edge} {gd : Option (Nat × Bool)} {s f off T q : Nat} {x : Operand} {cs c : List Value} (hx : ev env x = some (A cs)) (hf : fieldIs P s f off T = true)
    (h1 : lk1 tb.agg T = some q := by exact rfl) (hl : Nat.ble (off + q) cs.length = true := by exact rfl) (hs : SegOf off q cs c := by infer_instance) : Val P n env σ ⟨some dst, .field s x f, ty, pos, af, gd⟩ (A c) := Val.of fun a w hF _ => by
  unfold fieldIs at hf
  split at hf
  · rename_i fs hu
    split at hf
    · rename_i fd hfd
      simp only [Bool.and_eq_true, beq_iff_eq] at hf
      obtain ⟨h2, h3⟩ := hf
      have hr : Reads P T off cs (A c) := Reads.agg (tb.aggAt h1) hl hs.eq
      have hi : (Instr.field s (A cs) f).run P w = .ok (A c) w := by
        unfold Instr.field
        simp only [Sem.run_bind, run_underlying hu, Result.andThen_ok, hfd, asAgg, Sem.run_pure, h2, h3, hr.part w]
      simp only [execOp, hF.eval hx, hi, Sem.run_bind, Result.andThen_ok, Sem.run_pure]
    · cases hf
  · cases hf
end Go.HL
namespace Go.Proofs.Ythoepbbpmdmfeaa
open Go.HL
set_option linter.unusedSimpArgs false
set_option linter.unusedVariables false
set_option maxRecDepth 8000
section
variable (c : Caucuslaw14Case) (ys : List TCall) (nn fr : Nat)
def rj (j : Nat) : Nat := (fr % nn + j) % nn
def tM (j : Nat) : TMsg := { TMsg.z with Kind := 2, From := ((rj nn fr j : Nat) : Int), To := c.Self, Item := c.Item, Ballot := c.Ballot, Same := true, Call := ys[rj nn fr j]?.getD TCall.z }
def tMd (c : Caucuslaw14Case) (r : Nat) (d : TCall) : TMsg := { TMsg.z with Kind := 2, From := (r : Int), To := c.Self, Item := c.Item, Ballot := c.Ballot, Same := true, Call := d }
def tMs (i : Nat) : List TMsg := (List.range i).map (tM c ys nn fr)
def allD (i : Nat) : TDeps := (tMs c ys nn fr i).foldl (fun a m => joins [a, m.Call.Deps]) c.Call.Deps
structure TInv (i : Nat) (x : LeadS) : Prop where
  keeps : Keeps x c.N c.Self c.Item c.Ballot
  phase : x.phase = 1
  pn : x.pn = (i : Int)
  call : x.call = c.Call
  perm : ((vAll x.pl x.ph).map (·.2)).Perm (tMs c ys nn fr i)
  free : ∀ r : Nat, r < 7 → (∀ j, j < i → r ≠ rj nn fr j) → x.ph[r]? = some false
end
variable {c : Caucuslaw14Case} {ys : List TCall} {nn fr : Nat}
theorem rj_lt (hn : nn = 3 ∨ nn = 5 ∨ nn = 7) (j : Nat) : rj nn fr j < nn := Nat.mod_lt _ (by omega)
theorem rj_ne (hn : nn = 3 ∨ nn = 5 ∨ nn = 7) {i j : Nat} (hj : j < i) (hi : i < nn) : rj nn fr i ≠ rj nn fr j := by
  unfold rj
  rcases hn with rfl | rfl | rfl <;> omega
theorem tMs_succ (i : Nat) : tMs c ys nn fr (i + 1) = tMs c ys nn fr i ++ [tM c ys nn fr i] := by simp [tMs, List.range_succ]
theorem allD_succ (i : Nat) : allD c ys nn fr (i + 1) = joins [allD c ys nn fr i, (tM c ys nn fr i).Call.Deps] := by
  unfold allD; rw [tMs_succ, List.foldl_append]; rfl
theorem turn_zero (hp : c.Phase = 1) : TInv c ys nn fr 0 (newC c) := ⟨newC_keeps c, by show (if c.Phase = 1 then (1 : Int) else 2) = 1; rw [if_pos hp], rfl, rfl, .refl _, fun r hr _ => by
  show (List.replicate 7 false)[r]? = some false
  rw [List.getElem?_replicate, if_pos hr]⟩
theorem turn_can (hn : nn = 3 ∨ nn = 5 ∨ nn = 7) {i : Nat} {x : LeadS} (h : TInv c ys nn fr i x) (hi : i < nn) : x.can (tM c ys nn fr i).From = true := by
  have h1 := rj_lt (fr := fr) hn i
  rw [LeadS.can_iff]
  refine ⟨by show (0 : Int) ≤ ((rj nn fr i : Nat) : Int); omega, by show ((rj nn fr i : Nat) : Int) < 7; omega, ?_⟩
  show x.ph.getD (((rj nn fr i : Nat) : Int)).toNat true = false
  rw [Int.toNat_natCast, List.getD, h.free _ (by omega) (fun j hj => rj_ne hn hj hi)]
  rfl
theorem turn_put (hn : nn = 3 ∨ nn = 5 ∨ nn = 7) {i : Nat} {x : LeadS} (h : TInv c ys nn fr i x) (hi : i < nn) : TInv c ys nn fr (i + 1) (x.put (tM c ys nn fr i).From (tM c ys nn fr i)) := by
  have hc := turn_can hn h hi
  refine ⟨⟨h.keeps.wf.put hc _, h.keeps.n, h.keeps.self, h.keeps.item, h.keeps.ballot, h.keeps.phase⟩, h.phase, ?_, h.call, ?_, fun r hr hj => ?_⟩
  · show x.pn + 1 = ((i + 1 : Nat) : Int); rw [h.pn]; omega
  · rw [tMs_succ]; exact put_perm h.keeps.wf hc _ h.perm
  · show (x.ph.set (((rj nn fr i : Nat) : Int)).toNat true)[r]? = some false
    rw [Int.toNat_natCast, List.getElem?_set, if_neg (fun e => hj i (by omega) e.symm)]
    exact h.free r hr fun j hji => hj j (by omega)
theorem turn_hear (hn : nn = 3 ∨ nn = 5 ∨ nn = 7) (hN : c.N = (nn : Int)) (hr : c.Ballot.Round ≠ 0) {i : Nat} {x : LeadS} (h : TInv c ys nn fr i x) (hi : i < nn) :
    x.hear (tM c ys nn fr i) = (if (i : Int) < faults c.N then (x.put (tM c ys nn fr i).From (tM c ys nn fr i), false) else ((x.put (tM c ys nn fr i).From (tM c ys nn fr i)).slow, true)) := by
  have hc := turn_can hn h hi
  have h1 := rj_lt (fr := fr) hn i
  have hf : (x.put (tM c ys nn fr i).From (tM c ys nn fr i)).isFast = false := by
    show decide (x.ballot = ⟨0, x.item.Rep⟩) = false
    rw [h.keeps.ballot, decide_eq_false]
    intro e; exact hr (by rw [e])
  unfold LeadS.hear
  rw [if_neg, if_neg (by show ¬ ((2 : Int) = 5); decide), if_neg (by show ¬ ((2 : Int) = 8 ∧ _); rintro ⟨h, _⟩; cases h), if_neg (by show ¬ (c.Ballot ≠ x.ballot); rw [h.keeps.ballot]; simp), if_pos ⟨rfl, h.phase⟩]
  · unfold LeadS.hear1
    rw [if_pos hc, if_neg (by rw [hf]; rintro ⟨h, _⟩; cases h), h.keeps.n, h.pn]
    by_cases hl : (i : Int) < faults c.N
    · rw [if_pos hl, if_pos (by omega)]
    · rw [if_neg hl, if_neg (by omega), if_pos (.inl hf)]
  · rintro (g | g | g | g | g)
    · rw [h.phase] at g; omega
    · exact g (h.keeps.item.symm)
    · exact g (h.keeps.self.symm)
    · exact absurd g (by show ¬ (((rj nn fr i : Nat) : Int) < 0); omega)
    · rw [h.keeps.n, hN] at g
      exact absurd g (by show ¬ ((nn : Int) ≤ ((rj nn fr i : Nat) : Int)); omega)
theorem turn_end {i : Nat} {x : LeadS} (h : TInv c ys nn fr i x) : x.slow.call.Deps = allD c ys nn fr i ∧ x.slow.call.Deed = c.Call.Deed := by
  rw [slow_call h.perm, h.call]
  unfold allD
  generalize tMs c ys nn fr i = l
  suffices hh : ∀ (l : List TMsg) (a : TCall), (l.foldl (fun c m => mrg c m.Call) a).Deps = l.foldl (fun a m => joins [a, m.Call.Deps]) a.Deps ∧ (l.foldl (fun c m => mrg c m.Call) a).Deed = a.Deed from hh l c.Call
  intro l
  induction l with
  | nil => intro a; exact ⟨rfl, rfl⟩
  | cons m l ih =>
    intro a
    have := ih (mrg a m.Call)
    rw [List.foldl_cons, List.foldl_cons]
    refine ⟨this.1.trans ?_, this.2.trans ?_⟩
    · rw [mrg_eq]
    · rw [mrg_eq]
theorem leadTurned_walk (e : Ent) (ao : Option Go.Addr) (cap b off : Nat) (c : Caucuslaw14Case) (ys : List TCall) (from_ : Int) (hR : Rd e ao ys.length b off 14 (ys.map TCall.c)) :
    Ct Try.prog 9 [A c.c, .slice ao ys.length cap, I from_] [e] (fun r σ' => r = B true ∧ σ' = [e]) := by
  have hm := hR.small
  simp only [Go.maxLen] at hm
  have hG := great14 c none 0 0
  have hBg := begin14 c
  by_cases hs : (c.N = 3 ∨ c.N = 5 ∨ c.N = 7)
  · rw [show (!(decide (c.N = 3) || (decide (c.N = 5) || decide (c.N = 7))) || decide (60 < 0)) = false by simp; omega] at hG
    obtain ⟨nn, hN⟩ : ∃ k : Nat, c.N = (k : Int) := ⟨c.N.toNat, by omega⟩
    have hn : nn = 3 ∨ nn = 5 ∨ nn = 7 := by omega
    have hF := ref_faults c.N (by omega)
    have hfb : 1 ≤ faults c.N ∧ faults c.N < c.N := by unfold faults; omega
    by_cases hc : (ys.length : Int) = c.N ∧ c.Ballot.Round ≠ 0 ∧ c.Phase = 1 ∧ 0 ≤ from_
    · obtain ⟨hc1, hc2, hc3, hc4⟩ := hc
      obtain ⟨fr, rfl⟩ : ∃ k : Nat, from_ = (k : Int) := ⟨from_.toNat, by omega⟩
      refine Ct.enter Try.func9 rfl rfl fun W => ?_
      obtain ⟨ff, hff⟩ : ∃ k : Nat, faults c.N = (k : Int) := ⟨(faults c.N).toNat, by omega⟩
      apply Wp.seq
      apply Wp.region
      refine WpL.o (O.bxA (fun p3 => ?_))
      refine WpL.v (V.as) ?_
      apply WpL.nil
      apply Out.seqN
      apply Wp.seq
      apply Wp.seq
      apply Wp.region
      refine WpL.o (Op1.fn rfl (alive14) ?_)
      refine WpL.v (V.not) ?_
      apply WpL.nil
      apply Out.seqN
      refine Wp.cF ?_
      apply Wp.skip
      apply Out.seqN
      apply Wp.seq
      apply Wp.seq
      apply Wp.region
      refine WpL.v (V.ldA tb) ?_
      refine WpL.o (Op1.fn rfl (hG) ?_)
      refine WpL.v (V.mv) ?_
      refine WpL.v (V.mv) ?_
      refine WpL.v (V.lenL tb) ?_
      refine WpL.v (V.fa tb) ?_
      refine WpL.v (V.ld1 tb) ?_
      refine WpL.v (V.cmp) ?_
      refine WpL.v (V.pF) ?_
      refine WpL.v (V.mv) ?_
      refine WpL.pt (fun ha0 => ?_) (fun ha0 => ?_)
      (try simp only [decide_eq_true_eq, decide_eq_false_iff_not, Bool.not_eq_true', Bool.not_eq_false', Bool.not_eq_true, Bool.not_eq_false, not_true_eq_false, not_false_eq_true, reduceCtorEq] at ha0)
      (exfalso; omega)
      (try simp only [decide_eq_true_eq, decide_eq_false_iff_not, Bool.not_eq_true', Bool.not_eq_false', Bool.not_eq_true, Bool.not_eq_false, not_true_eq_false, not_false_eq_true, reduceCtorEq] at ha0)
      refine WpL.v (V.fa tb) ?_
      refine WpL.v (V.fa tb) ?_
      refine WpL.v (V.ld1 tb) ?_
      refine WpL.v (V.cmp) ?_
      refine WpL.v (V.pF) ?_
      refine WpL.v (V.mv) ?_
      refine WpL.pt (fun ha1 => ?_) (fun ha1 => ?_)
      (try simp only [decide_eq_true_eq, decide_eq_false_iff_not, Bool.not_eq_true', Bool.not_eq_false', Bool.not_eq_true, Bool.not_eq_false, not_true_eq_false, not_false_eq_true, reduceCtorEq] at ha1)
      (exfalso; omega)
      (try simp only [decide_eq_true_eq, decide_eq_false_iff_not, Bool.not_eq_true', Bool.not_eq_false', Bool.not_eq_true, Bool.not_eq_false, not_true_eq_false, not_false_eq_true, reduceCtorEq] at ha1)
      refine WpL.v (V.fa tb) ?_
      refine WpL.v (V.ld1 tb) ?_
      refine WpL.v (V.cmp) ?_
      refine WpL.v (V.pF) ?_
      refine WpL.v (V.mv) ?_
      refine WpL.pt (fun ha2 => ?_) (fun ha2 => ?_)
      (try simp only [decide_eq_true_eq, decide_eq_false_iff_not, Bool.not_eq_true', Bool.not_eq_false', Bool.not_eq_true, Bool.not_eq_false, not_true_eq_false, not_false_eq_true, reduceCtorEq] at ha2)
      (exfalso; omega)
      (try simp only [decide_eq_true_eq, decide_eq_false_iff_not, Bool.not_eq_true', Bool.not_eq_false', Bool.not_eq_true, Bool.not_eq_false, not_true_eq_false, not_false_eq_true, reduceCtorEq] at ha2)
      refine WpL.v (V.mv) ?_
      refine WpL.v (V.cmp) ?_
      refine WpL.v (V.pF) ?_
      apply WpL.nil
      apply Out.seqN
      refine Wp.c (fun ha3 => ?_) (fun ha3 => ?_)
      (try simp only [decide_eq_true_eq, decide_eq_false_iff_not, Bool.not_eq_true', Bool.not_eq_false', Bool.not_eq_true, Bool.not_eq_false, not_true_eq_false, not_false_eq_true, reduceCtorEq] at ha3)
      (exfalso; omega)
      (try simp only [decide_eq_true_eq, decide_eq_false_iff_not, Bool.not_eq_true', Bool.not_eq_false', Bool.not_eq_true, Bool.not_eq_false, not_true_eq_false, not_false_eq_true, reduceCtorEq] at ha3)
      apply Wp.skip
      apply Out.seqN
      apply Wp.seq
      apply Wp.region
      refine WpL.v (V.ldA tb) ?_
      refine WpL.o (Op1.callT rfl (hBg) (by (repeat (first | exact Sel.nil | exact Rem.here | apply Sel.cons | apply Rem.there))) ?_)
      rintro v4 s5 ⟨q42, ⟨p42, ⟨rfl, rfl⟩⟩⟩
      refine incat ?_
      refine WpL.v (V.mv) ?_
      refine WpL.v (V.ex) ?_
      refine WpL.v (V.ex) ?_
      refine WpL.v (V.as) ?_
      refine WpL.v (V.as) ?_
      apply WpL.nil
      apply Out.seqN
      apply Wp.seq
      apply Wp.region
      refine WpL.v (V.fa tb) ?_
      refine WpL.v (V.ld1 tb) ?_
      refine WpL.o (Op1.fn rfl (hF) ?_)
      refine WpL.v (V.as) ?_
      apply WpL.nil
      apply Out.seqN
      apply Wp.seq
      apply Wp.region
      refine WpL.v (V.fa tb) ?_
      refine WpL.v (V.fa tb) ?_
      refine WpL.v (V.ldA tb) ?_
      refine WpL.o (O.al tb (fun p10 => ?_))
      refine WpL.o (O.stA tb ?_)
      apply WpL.nil
      apply Out.seqN
      apply Wp.seq
      apply Wp.seq
      apply Wp.region
      refine WpL.v (V.as) ?_
      apply WpL.nil
      apply Out.seqN
      apply Wp.block
      rw [show splice 0 (seg (6 + 6) 7 c.c) TDeps.z.c = (allD c ys nn fr 0).c from rfl]
      refine Wp.lp [10, 9, 7, 3, 1, 2] (fun y : Nat × LeadS => (y.1 ≤ ff ∧ TInv c ys nn fr y.1 y.2) ∨ (y.1 = ff + 1 ∧ y.2.phase = 2 ∧ y.2.call.Deps = allD c ys nn fr (ff + 1) ∧ y.2.call.Deed = c.Call.Deed)) (fun y => [(11, I (y.1 : Int))]) (fun y => [cells p10 31 (allD c ys nn fr y.1).c, cells q42 142 y.2.c]) (fun y => ff + 1 - y.1) (0, newC c) (.inl ⟨Nat.zero_le _, turn_zero hc3⟩) ?_
      rintro ⟨i, x⟩ hJ K hK
      dsimp only at hJ
      dsimp only [List.cons_append, List.nil_append]
      rcases hJ with ⟨hi, hT⟩ | ⟨rfl, hp, hd1, hd2⟩
      · have hin : i < nn := by omega
        have hrl := rj_lt (fr := fr) hn i
        obtain ⟨d, hd⟩ := getS (xs := ys) (k := rj nn fr i) (by omega)
        have hq1 : (fr : Int) % c.N = ((fr % nn : Nat) : Int) := by rw [hN]; rfl
        have hq2 : (((fr % nn : Nat) : Int) + (i : Int)) % c.N = ((rj nn fr i : Nat) : Int) := by rw [hN]; rfl
        have hsm : fr % nn < nn := Nat.mod_lt _ (by omega)
        have hM : tM c ys nn fr i = tMd c (rj nn fr i) d := by unfold tM; rw [hd]; rfl
        have hA := allD_succ (c := c) (ys := ys) (nn := nn) (fr := fr) i
        rw [show (tM c ys nn fr i).Call = d by rw [hM]; rfl] at hA
        have hJn := ref_join (allD c ys nn fr i) d.Deps
        have hk := hT.keeps.n
        have hH := lead_hear q42 x hT.keeps.wf (tM c ys nn fr i) (by omega)
        have hP := turn_put hn hT hin
        have hE := turn_end hP
        rw [turn_hear hn hN hc2 hT hin] at hH
        by_cases hif : i < ff
        · rw [if_pos (by omega)] at hH
          dsimp only at hH
          generalize x.put (tM c ys nn fr i).From (tM c ys nn fr i) = x2 at *
          rw [hM] at hH
          have hkk : (false == decide ((i : Int) = faults c.N)) = true := by rw [decide_eq_false (by omega)]; rfl
          apply Wp.seq
          apply Wp.seq
          apply Wp.region
          refine WpL.v (V.mv) ?_
          refine WpL.v (V.mv) ?_
          refine WpL.v (V.cmp) ?_
          apply WpL.nil
          apply Out.seqN
          refine Wp.c (fun hc0 => ?_) (fun hc0 => ?_)
          (try simp only [decide_eq_true_eq, decide_eq_false_iff_not, Bool.not_eq_true', Bool.not_eq_false', Bool.not_eq_true, Bool.not_eq_false, not_true_eq_false, not_false_eq_true, reduceCtorEq] at hc0)
          apply Wp.skip
          apply Out.seqN
          apply Wp.seq
          apply Wp.block
          apply Wp.seq
          refine Wp.dG [] ?_ (List.Sublist.cons _ (List.Sublist.cons _ (List.Sublist.cons _ (List.Sublist.cons_cons _ (List.Sublist.cons _ List.Sublist.slnil))))) (List.Sublist.cons _ (List.Sublist.cons _ (List.Sublist.cons _ (List.Sublist.cons_cons _ (List.Sublist.cons _ List.Sublist.slnil)))))
          refine WpA.tF 0 rfl (V.mv) ?_
          refine WpA.tF 1 rfl (V.fa tb) ?_
          refine WpA.tF 2 rfl (V.ld1 tb) ?_
          refine WpA.tF 3 rfl (V.remQ hq1 rfl rfl) ?_
          refine WpA.tF 4 rfl (V.mv) ?_
          refine WpA.tF 5 rfl (V.add) ?_
          refine WpA.tF 6 rfl (V.fa tb) ?_
          refine WpA.tF 7 rfl (V.ld1 tb) ?_
          refine WpA.tF 8 rfl (V.remQ hq2 rfl rfl) ?_
          refine WpA.tF 9 rfl (V.as) ?_
          refine WpA.ou ?_
          apply Out.seqN
          apply Wp.seq
          refine Wp.dG [7] ?_ (List.Sublist.cons_cons _ (List.Sublist.cons _ (List.Sublist.cons _ (List.Sublist.cons _ (List.Sublist.cons_cons _ List.Sublist.slnil))))) (List.Sublist.cons _ (List.Sublist.cons _ (List.Sublist.cons _ (List.Sublist.cons _ (List.Sublist.cons_cons _ List.Sublist.slnil)))))
          refine WpA.tF 1 rfl (V.mv) ?_
          refine WpA.tF 2 rfl (V.mv) ?_
          refine WpA.tF 3 rfl (V.ixR tb rfl rfl (by assumption)) ?_
          refine WpA.tF 4 rfl (V.fa tb) ?_
          refine WpA.tF 5 rfl (V.rdFA tb (o := 6) (c := d.Deps.c) rfl hR (getMapS hd)) ?_
          refine WpA.t 0 rfl (V.ldA tb) ?_
          refine WpA.oS 6 rfl (Op1.fn rfl (hJn) ⟨?_, ?_, ?_⟩)
          exact holdT
          exact holdT
          refine WpA.l 7 rfl (O.stA tb ⟨?_, ?_⟩)
          exact holdT
          refine WpA.ou ?_
          apply Out.seqN
          apply Wp.seq
          refine Wp.dG [] ?_ (List.Sublist.cons _ (List.Sublist.cons _ (List.Sublist.cons _ (List.Sublist.cons_cons _ (List.Sublist.cons_cons _ List.Sublist.slnil))))) (List.Sublist.cons _ (List.Sublist.cons _ (List.Sublist.cons _ (List.Sublist.cons_cons _ (List.Sublist.cons_cons _ List.Sublist.slnil)))))
          refine WpA.tF 0 rfl (V.mv) ?_
          refine WpA.tF 1 rfl (V.mv) ?_
          refine WpA.tF 2 rfl (V.fa tb) ?_
          refine WpA.tF 3 rfl (V.ld1 tb) ?_
          refine WpA.tF 4 rfl (V.fa tb) ?_
          refine WpA.tF 5 rfl (V.ldA tb) ?_
          refine WpA.tF 6 rfl (V.fa tb) ?_
          refine WpA.tF 7 rfl (V.ldA tb) ?_
          refine WpA.tF 8 rfl (V.mv) ?_
          refine WpA.tF 9 rfl (V.mv) ?_
          refine WpA.tF 10 rfl (V.ixR tb rfl rfl (by assumption)) ?_
          refine WpA.tF 11 rfl (V.ldRA tb rfl hR (getMapS hd)) ?_
          refine WpA.tF 12 rfl (V.bld tb (c' := (tMd c (rj nn fr i) d).c)) ?_
          refine WpA.oS 13 rfl (Op1.callT rfl (hH) (by (repeat (first | exact Sel.nil | exact Rem.here | apply Sel.cons | apply Rem.there))) ?_)
          rintro v1 s2 ⟨rfl, rfl⟩
          refine incat ⟨?_, ?_, ?_⟩
          exact holdT
          exact holdT
          refine WpA.tF 14 rfl (V.as) ?_
          refine WpA.ou ?_
          apply Out.seqN
          apply Wp.seq
          apply Wp.region
          refine WpL.v (V.mv) ?_
          refine WpL.v (V.mv) ?_
          refine WpL.v (V.mv) ?_
          refine WpL.v (V.cmp) ?_
          refine WpL.v (V.neB tb) ?_
          apply WpL.nil
          apply Out.seqN
          refine Wp.c (fun hc3 => ?_) (fun hc3 => ?_)
          (try simp only [decide_eq_true_eq, decide_eq_false_iff_not, Bool.not_eq_true', Bool.not_eq_false', Bool.not_eq_true, Bool.not_eq_false, not_true_eq_false, not_false_eq_true, reduceCtorEq] at hc3)
          exact absurd (Eq.trans (Eq.symm hc3) (by assumption) : false = true) (by decide)
          (try simp only [decide_eq_true_eq, decide_eq_false_iff_not, Bool.not_eq_true', Bool.not_eq_false', Bool.not_eq_true, Bool.not_eq_false, not_true_eq_false, not_false_eq_true, reduceCtorEq] at hc3)
          apply Wp.skip
          apply Out.blockN
          apply Out.seqN
          apply Wp.region
          refine WpL.v (V.mv) ?_
          refine WpL.v (V.add) ?_
          refine WpL.v (V.as) ?_
          apply WpL.nil
          rotate_left
          (try simp only [decide_eq_true_eq, decide_eq_false_iff_not, Bool.not_eq_true', Bool.not_eq_false', Bool.not_eq_true, Bool.not_eq_false, not_true_eq_false, not_false_eq_true, reduceCtorEq] at hc0)
          (exfalso; omega)
          exact Out.ag hK (i + 1, x2) (.inl ⟨by show i + 1 ≤ ff; omega, hP⟩) (by show ff + 1 - (i + 1) < ff + 1 - i; omega) (hs := by rw [hA]; (repeat (first | exact Sel.nil | exact Rem.here | apply Sel.cons | apply Rem.there)))
        · obtain rfl : i = ff := by omega
          rw [if_neg (by omega)] at hH
          dsimp only at hH
          generalize x.put (tM c ys nn fr i).From (tM c ys nn fr i) = x2 at *
          rw [hM] at hH
          have hkk : (true == decide ((i : Int) = faults c.N)) = true := by rw [decide_eq_true (by omega)]; rfl
          apply Wp.seq
          apply Wp.seq
          apply Wp.region
          refine WpL.v (V.mv) ?_
          refine WpL.v (V.mv) ?_
          refine WpL.v (V.cmp) ?_
          apply WpL.nil
          apply Out.seqN
          refine Wp.c (fun hd0 => ?_) (fun hd0 => ?_)
          (try simp only [decide_eq_true_eq, decide_eq_false_iff_not, Bool.not_eq_true', Bool.not_eq_false', Bool.not_eq_true, Bool.not_eq_false, not_true_eq_false, not_false_eq_true, reduceCtorEq] at hd0)
          apply Wp.skip
          apply Out.seqN
          apply Wp.seq
          apply Wp.block
          apply Wp.seq
          refine Wp.dG [] ?_ (List.Sublist.cons _ (List.Sublist.cons _ (List.Sublist.cons _ (List.Sublist.cons_cons _ (List.Sublist.cons _ List.Sublist.slnil))))) (List.Sublist.cons _ (List.Sublist.cons _ (List.Sublist.cons _ (List.Sublist.cons_cons _ (List.Sublist.cons _ List.Sublist.slnil)))))
          refine WpA.tF 0 rfl (V.mv) ?_
          refine WpA.tF 1 rfl (V.fa tb) ?_
          refine WpA.tF 2 rfl (V.ld1 tb) ?_
          refine WpA.tF 3 rfl (V.remQ hq1 rfl rfl) ?_
          refine WpA.tF 4 rfl (V.mv) ?_
          refine WpA.tF 5 rfl (V.add) ?_
          refine WpA.tF 6 rfl (V.fa tb) ?_
          refine WpA.tF 7 rfl (V.ld1 tb) ?_
          refine WpA.tF 8 rfl (V.remQ hq2 rfl rfl) ?_
          refine WpA.tF 9 rfl (V.as) ?_
          refine WpA.ou ?_
          apply Out.seqN
          apply Wp.seq
          refine Wp.dG [7] ?_ (List.Sublist.cons_cons _ (List.Sublist.cons _ (List.Sublist.cons _ (List.Sublist.cons _ (List.Sublist.cons_cons _ List.Sublist.slnil))))) (List.Sublist.cons _ (List.Sublist.cons _ (List.Sublist.cons _ (List.Sublist.cons _ (List.Sublist.cons_cons _ List.Sublist.slnil)))))
          refine WpA.tF 1 rfl (V.mv) ?_
          refine WpA.tF 2 rfl (V.mv) ?_
          refine WpA.tF 3 rfl (V.ixR tb rfl rfl (by assumption)) ?_
          refine WpA.tF 4 rfl (V.fa tb) ?_
          refine WpA.tF 5 rfl (V.rdFA tb (o := 6) (c := d.Deps.c) rfl hR (getMapS hd)) ?_
          refine WpA.t 0 rfl (V.ldA tb) ?_
          refine WpA.oS 6 rfl (Op1.fn rfl (hJn) ⟨?_, ?_, ?_⟩)
          exact holdT
          exact holdT
          refine WpA.l 7 rfl (O.stA tb ⟨?_, ?_⟩)
          exact holdT
          refine WpA.ou ?_
          apply Out.seqN
          apply Wp.seq
          refine Wp.dG [] ?_ (List.Sublist.cons _ (List.Sublist.cons _ (List.Sublist.cons _ (List.Sublist.cons_cons _ (List.Sublist.cons_cons _ List.Sublist.slnil))))) (List.Sublist.cons _ (List.Sublist.cons _ (List.Sublist.cons _ (List.Sublist.cons_cons _ (List.Sublist.cons_cons _ List.Sublist.slnil)))))
          refine WpA.tF 0 rfl (V.mv) ?_
          refine WpA.tF 1 rfl (V.mv) ?_
          refine WpA.tF 2 rfl (V.fa tb) ?_
          refine WpA.tF 3 rfl (V.ld1 tb) ?_
          refine WpA.tF 4 rfl (V.fa tb) ?_
          refine WpA.tF 5 rfl (V.ldA tb) ?_
          refine WpA.tF 6 rfl (V.fa tb) ?_
          refine WpA.tF 7 rfl (V.ldA tb) ?_
          refine WpA.tF 8 rfl (V.mv) ?_
          refine WpA.tF 9 rfl (V.mv) ?_
          refine WpA.tF 10 rfl (V.ixR tb rfl rfl (by assumption)) ?_
          refine WpA.tF 11 rfl (V.ldRA tb rfl hR (getMapS hd)) ?_
          refine WpA.tF 12 rfl (V.bld tb (c' := (tMd c (rj nn fr i) d).c)) ?_
          refine WpA.oS 13 rfl (Op1.callT rfl (hH) (by (repeat (first | exact Sel.nil | exact Rem.here | apply Sel.cons | apply Rem.there))) ?_)
          rintro v1 s2 ⟨rfl, rfl⟩
          refine incat ⟨?_, ?_, ?_⟩
          exact holdT
          exact holdT
          refine WpA.tF 14 rfl (V.as) ?_
          refine WpA.ou ?_
          apply Out.seqN
          apply Wp.seq
          apply Wp.region
          refine WpL.v (V.mv) ?_
          refine WpL.v (V.mv) ?_
          refine WpL.v (V.mv) ?_
          refine WpL.v (V.cmp) ?_
          refine WpL.v (V.neB tb) ?_
          apply WpL.nil
          apply Out.seqN
          refine Wp.c (fun hd3 => ?_) (fun hd3 => ?_)
          (try simp only [decide_eq_true_eq, decide_eq_false_iff_not, Bool.not_eq_true', Bool.not_eq_false', Bool.not_eq_true, Bool.not_eq_false, not_true_eq_false, not_false_eq_true, reduceCtorEq] at hd3)
          exact absurd (Eq.trans (Eq.symm hd3) (by assumption) : false = true) (by decide)
          (try simp only [decide_eq_true_eq, decide_eq_false_iff_not, Bool.not_eq_true', Bool.not_eq_false', Bool.not_eq_true, Bool.not_eq_false, not_true_eq_false, not_false_eq_true, reduceCtorEq] at hd3)
          apply Wp.skip
          apply Out.blockN
          apply Out.seqN
          apply Wp.region
          refine WpL.v (V.mv) ?_
          refine WpL.v (V.add) ?_
          refine WpL.v (V.as) ?_
          apply WpL.nil
          rotate_left
          (try simp only [decide_eq_true_eq, decide_eq_false_iff_not, Bool.not_eq_true', Bool.not_eq_false', Bool.not_eq_true, Bool.not_eq_false, not_true_eq_false, not_false_eq_true, reduceCtorEq] at hd0)
          (exfalso; omega)
          exact Out.ag hK (i + 1, x2.slow) (.inr ⟨rfl, rfl, hE.1, hE.2⟩) (by show i + 1 - (i + 1) < i + 1 - i; omega) (hs := by rw [hA]; (repeat (first | exact Sel.nil | exact Rem.here | apply Sel.cons | apply Rem.there)))
      · have hP := lead_phase q42 x
        rw [hp] at hP
        have hC := lead_call q42 x
        clear hK
        apply Wp.seq
        apply Wp.seq
        apply Wp.region
        refine WpL.v (V.mv) ?_
        refine WpL.v (V.mv) ?_
        refine WpL.v (V.cmp) ?_
        apply WpL.nil
        apply Out.seqN
        refine Wp.c (fun hf0 => ?_) (fun hf0 => ?_)
        (try simp only [decide_eq_true_eq, decide_eq_false_iff_not, Bool.not_eq_true', Bool.not_eq_false', Bool.not_eq_true, Bool.not_eq_false, not_true_eq_false, not_false_eq_true, reduceCtorEq] at hf0)
        (exfalso; omega)
        (try simp only [decide_eq_true_eq, decide_eq_false_iff_not, Bool.not_eq_true', Bool.not_eq_false', Bool.not_eq_true, Bool.not_eq_false, not_true_eq_false, not_false_eq_true, reduceCtorEq] at hf0)
        apply Wp.exit
        apply Out.seqE
        apply Out.seqE
        apply Out.blockE
        apply Out.seqN
        apply Wp.seq
        refine Wp.dG [] ?_ (List.Sublist.cons_cons _ (List.Sublist.cons _ (List.Sublist.cons _ (List.Sublist.cons_cons _ (List.Sublist.cons_cons _ List.Sublist.slnil))))) (List.Sublist.cons_cons _ (List.Sublist.cons _ (List.Sublist.cons _ (List.Sublist.cons_cons _ (List.Sublist.cons_cons _ List.Sublist.slnil)))))
        refine WpA.tF 0 rfl (V.mv) ?_
        refine WpA.oS 1 rfl (Op1.callT rfl (hP) (by (repeat (first | exact Sel.nil | exact Rem.here | apply Sel.cons | apply Rem.there))) ?_)
        rintro v1 s2 ⟨rfl, rfl⟩
        refine incat ⟨?_, ?_, ?_⟩
        exact holdT
        exact holdT
        refine WpA.tF 2 rfl (V.cmp) ?_
        refine WpA.tF 3 rfl (V.mv) ?_
        refine WpA.tF 4 rfl (V.mv) ?_
        refine WpA.tF 7 rfl (V.ldA tb) ?_
        refine WpA.oS 5 rfl (Op1.callT rfl (hC) (by (repeat (first | exact Sel.nil | exact Rem.here | apply Sel.cons | apply Rem.there))) ?_)
        rintro v3 s4 ⟨rfl, rfl⟩
        refine incat ⟨?_, ?_, ?_⟩
        exact holdT
        exact holdT
        refine WpA.tF 6 rfl (V.fldA tb (off := 6) (T := 31) rfl rfl) ?_
        refine WpA.tF 8 rfl (V.eq (TDeps.eqT _ _ _)) ?_
        refine WpA.tF 9 rfl (V.pT) ?_
        refine WpA.tF 10 rfl (V.mv) ?_
        refine WpA.pt 101 (fun hf5 => ?_) (fun hf5 => ?_)
        (try simp only [decide_eq_true_eq, decide_eq_false_iff_not, Bool.not_eq_true', Bool.not_eq_false', Bool.not_eq_true, Bool.not_eq_false, not_true_eq_false, not_false_eq_true, reduceCtorEq] at hf5)
        refine WpA.tF 11 rfl (V.mv) ?_
        refine WpA.tF 14 rfl (V.fa tb) ?_
        refine WpA.tF 15 rfl (V.fa tb) ?_
        refine WpA.tF 16 rfl (V.ldA tb) ?_
        refine WpA.oS 12 rfl (Op1.callT rfl (hC) (by (repeat (first | exact Sel.nil | exact Rem.here | apply Sel.cons | apply Rem.there))) ?_)
        rintro v6 s7 ⟨rfl, rfl⟩
        refine incat ⟨?_, ?_, ?_⟩
        exact holdT
        exact holdT
        refine WpA.tF 13 rfl (V.fldA tb (off := 0) (T := 29) rfl rfl) ?_
        refine WpA.tF 17 rfl (V.eq (TDeed.eqT _ _ _)) ?_
        refine WpA.tF 18 rfl (V.pT) ?_
        refine WpA.tF 19 rfl (V.as) ?_
        refine WpA.ou ?_
        apply Out.seqN
        apply Wp.ret
        refine Out.f1 rfl ResIs.t ⟨?_, rfl⟩
        rotate_left
        (try simp only [decide_eq_true_eq, decide_eq_false_iff_not, Bool.not_eq_true', Bool.not_eq_false', Bool.not_eq_true, Bool.not_eq_false, not_true_eq_false, not_false_eq_true, reduceCtorEq] at hf5)
        contradiction
        rw [hd2]; simp
    · refine Ct.enter Try.func9 rfl rfl fun W => ?_
      apply Wp.seq
      apply Wp.region
      refine WpL.o (O.bxA (fun p3 => ?_))
      refine WpL.v (V.as) ?_
      apply WpL.nil
      apply Out.seqN
      apply Wp.seq
      apply Wp.seq
      apply Wp.region
      refine WpL.o (Op1.fn rfl (alive14) ?_)
      refine WpL.v (V.not) ?_
      apply WpL.nil
      apply Out.seqN
      refine Wp.cF ?_
      apply Wp.skip
      apply Out.seqN
      apply Wp.seq
      apply Wp.seq
      apply Wp.region
      refine WpL.v (V.ldA tb) ?_
      refine WpL.o (Op1.fn rfl (hG) ?_)
      refine WpL.v (V.mv) ?_
      refine WpL.v (V.mv) ?_
      refine WpL.v (V.lenL tb) ?_
      refine WpL.v (V.fa tb) ?_
      refine WpL.v (V.ld1 tb) ?_
      refine WpL.v (V.cmp) ?_
      refine WpL.v (V.pF) ?_
      refine WpL.v (V.mv) ?_
      refine WpL.pt (fun hb0 => ?_) (fun hb0 => ?_)
      (try simp only [decide_eq_true_eq, decide_eq_false_iff_not, Bool.not_eq_true', Bool.not_eq_false', Bool.not_eq_true, Bool.not_eq_false, not_true_eq_false, not_false_eq_true, reduceCtorEq] at hb0)
      refine WpL.sk ?_
      refine WpL.sk ?_
      refine WpL.sk ?_
      refine WpL.sk ?_
      refine WpL.v (V.pT) ?_
      refine WpL.v (V.mv) ?_
      refine WpL.sk ?_
      refine WpL.sk ?_
      refine WpL.sk ?_
      refine WpL.v (V.pT) ?_
      refine WpL.v (V.mv) ?_
      refine WpL.sk ?_
      refine WpL.sk ?_
      refine WpL.v (V.pT) ?_
      apply WpL.nil
      apply Out.seqN
      refine Wp.cT ?_
      apply Wp.seq
      apply Wp.region
      refine WpL.v (V.as) ?_
      apply WpL.nil
      apply Out.seqN
      apply Wp.ret
      apply Out.seqR
      refine Out.f1 rfl ResIs.t ⟨?_, rfl⟩
      exact rfl
      (try simp only [decide_eq_true_eq, decide_eq_false_iff_not, Bool.not_eq_true', Bool.not_eq_false', Bool.not_eq_true, Bool.not_eq_false, not_true_eq_false, not_false_eq_true, reduceCtorEq] at hb0)
      refine WpL.v (V.fa tb) ?_
      refine WpL.v (V.fa tb) ?_
      refine WpL.v (V.ld1 tb) ?_
      refine WpL.v (V.cmp) ?_
      refine WpL.v (V.pF) ?_
      refine WpL.v (V.mv) ?_
      refine WpL.pt (fun hb1 => ?_) (fun hb1 => ?_)
      (try simp only [decide_eq_true_eq, decide_eq_false_iff_not, Bool.not_eq_true', Bool.not_eq_false', Bool.not_eq_true, Bool.not_eq_false, not_true_eq_false, not_false_eq_true, reduceCtorEq] at hb1)
      refine WpL.sk ?_
      refine WpL.sk ?_
      refine WpL.sk ?_
      refine WpL.v (V.pT) ?_
      refine WpL.v (V.mv) ?_
      refine WpL.sk ?_
      refine WpL.sk ?_
      refine WpL.v (V.pT) ?_
      apply WpL.nil
      apply Out.seqN
      refine Wp.cT ?_
      apply Wp.seq
      apply Wp.region
      refine WpL.v (V.as) ?_
      apply WpL.nil
      apply Out.seqN
      apply Wp.ret
      apply Out.seqR
      refine Out.f1 rfl ResIs.t ⟨?_, rfl⟩
      exact rfl
      (try simp only [decide_eq_true_eq, decide_eq_false_iff_not, Bool.not_eq_true', Bool.not_eq_false', Bool.not_eq_true, Bool.not_eq_false, not_true_eq_false, not_false_eq_true, reduceCtorEq] at hb1)
      refine WpL.v (V.fa tb) ?_
      refine WpL.v (V.ld1 tb) ?_
      refine WpL.v (V.cmp) ?_
      refine WpL.v (V.pF) ?_
      refine WpL.v (V.mv) ?_
      refine WpL.pt (fun hb2 => ?_) (fun hb2 => ?_)
      (try simp only [decide_eq_true_eq, decide_eq_false_iff_not, Bool.not_eq_true', Bool.not_eq_false', Bool.not_eq_true, Bool.not_eq_false, not_true_eq_false, not_false_eq_true, reduceCtorEq] at hb2)
      refine WpL.sk ?_
      refine WpL.sk ?_
      refine WpL.v (V.pT) ?_
      apply WpL.nil
      apply Out.seqN
      refine Wp.cT ?_
      apply Wp.seq
      apply Wp.region
      refine WpL.v (V.as) ?_
      apply WpL.nil
      apply Out.seqN
      apply Wp.ret
      apply Out.seqR
      refine Out.f1 rfl ResIs.t ⟨?_, rfl⟩
      exact rfl
      (try simp only [decide_eq_true_eq, decide_eq_false_iff_not, Bool.not_eq_true', Bool.not_eq_false', Bool.not_eq_true, Bool.not_eq_false, not_true_eq_false, not_false_eq_true, reduceCtorEq] at hb2)
      refine WpL.v (V.mv) ?_
      refine WpL.v (V.cmp) ?_
      refine WpL.v (V.pF) ?_
      apply WpL.nil
      apply Out.seqN
      refine Wp.c (fun hb3 => ?_) (fun hb3 => ?_)
      (try simp only [decide_eq_true_eq, decide_eq_false_iff_not, Bool.not_eq_true', Bool.not_eq_false', Bool.not_eq_true, Bool.not_eq_false, not_true_eq_false, not_false_eq_true, reduceCtorEq] at hb3)
      apply Wp.seq
      apply Wp.region
      refine WpL.v (V.as) ?_
      apply WpL.nil
      apply Out.seqN
      apply Wp.ret
      apply Out.seqR
      refine Out.f1 rfl ResIs.t ⟨?_, rfl⟩
      exact rfl
      (try simp only [decide_eq_true_eq, decide_eq_false_iff_not, Bool.not_eq_true', Bool.not_eq_false', Bool.not_eq_true, Bool.not_eq_false, not_true_eq_false, not_false_eq_true, reduceCtorEq] at hb3)
      (exfalso; omega)
  · rw [show (!(decide (c.N = 3) || (decide (c.N = 5) || decide (c.N = 7))) || decide (60 < 0)) = true by simp; omega] at hG
    refine Ct.enter Try.func9 rfl rfl fun W => ?_
    apply Wp.seq
    apply Wp.region
    refine WpL.o (O.bxA (fun p3 => ?_))
    refine WpL.v (V.as) ?_
    apply WpL.nil
    apply Out.seqN
    apply Wp.seq
    apply Wp.seq
    apply Wp.region
    refine WpL.o (Op1.fn rfl (alive14) ?_)
    refine WpL.v (V.not) ?_
    apply WpL.nil
    apply Out.seqN
    refine Wp.cF ?_
    apply Wp.skip
    apply Out.seqN
    apply Wp.seq
    apply Wp.seq
    apply Wp.region
    refine WpL.v (V.ldA tb) ?_
    refine WpL.o (Op1.fn rfl (hG) ?_)
    refine WpL.v (V.mv) ?_
    refine WpL.sk ?_
    refine WpL.sk ?_
    refine WpL.sk ?_
    refine WpL.sk ?_
    refine WpL.sk ?_
    refine WpL.v (V.pT) ?_
    refine WpL.v (V.mv) ?_
    refine WpL.sk ?_
    refine WpL.sk ?_
    refine WpL.sk ?_
    refine WpL.sk ?_
    refine WpL.v (V.pT) ?_
    refine WpL.v (V.mv) ?_
    refine WpL.sk ?_
    refine WpL.sk ?_
    refine WpL.sk ?_
    refine WpL.v (V.pT) ?_
    refine WpL.v (V.mv) ?_
    refine WpL.sk ?_
    refine WpL.sk ?_
    refine WpL.v (V.pT) ?_
    apply WpL.nil
    apply Out.seqN
    refine Wp.cT ?_
    apply Wp.seq
    apply Wp.region
    refine WpL.v (V.as) ?_
    apply WpL.nil
    apply Out.seqN
    apply Wp.ret
    apply Out.seqR
    refine Out.f1 rfl ResIs.t ⟨?_, rfl⟩
    exact rfl
open Go Go.ChangeShapes Go.WideShapes Go.ChangeAt Go.RowKit
theorem leadTurned_read : (Try.f9.params.toList.all fun t => Try.prog.readableRec t && decide (t < Try.prog.types.size)) = true := by kernel_rfl
theorem leadTurned_lifted (os : Go.Os) (started : os.Started) (H : Type) (enc : Go.TypeId × Go.Value → H) :
    ReturnsInHanded {} Try.checked os 9 .any (Rows.leadTurnedSpec.pre6 enc Try.prog Try.f9 Rows.leadTurnedRow.domain false) (Rows.leadTurnedSpec.post enc Try.prog Try.f9 false true false false) := by
  refine returnsInHanded_of_change_sized (C := Try.checked) own started (by kernel_rfl) Try.func9
    (ChangeSpec.witness6 (enc := enc) (C := Try.checked) false ⟨#[], #[A Caucuslaw14Case.z.c, .slice none 0 0, I 0], []⟩ 8 (by kernel_rfl) (by kernel_rfl) (by kernel_rfl) (by kernel_rfl)) ?_
  intro W base args ds gs before hval0 hW hcnd hsz0 _
  have hsz : (DataW.weightsEach Try.prog (Try.f9.params.toList ++ Rows.leadTurnedSpec.plain.varTypes Try.prog) (ds ++ gs)).all (· ≤ reachBytes) = true := hsz0
  have hval : ∀ (j : Nat) t v, Try.f9.params[j]? = some t → args[j]? = some v → Value.okWide Try.prog W .any base t v := hval0
  have hW' := hW
  obtain ⟨p, q, hA0, hV, rfl, hfz, hnd⟩ := hW
  have hA1 : DataW.TrodAll enc Try.prog W 0 (fun _ => true) true Try.f9.params.toList args.toList ds p := hA0
  have hA := hA1
  rw [Try.params9] at hA hval hsz
  obtain ⟨v0, vs0, d0, ds0, p0, q0, hargs, rfl, rfl, h0, r0⟩ := trodAll_cons hA
  obtain ⟨v1, vs1, d1, ds1, p1, q1, rfl, rfl, rfl, h1, r1⟩ := trodAll_cons r0
  obtain ⟨v2, vs2, d2, ds2, p2, q2, rfl, rfl, rfl, h2, r2⟩ := trodAll_cons r1
  obtain ⟨rfl, rfl, rfl⟩ := trodAll_nil r2
  obtain rfl : args = #[v0, v1, v2] := by cases args; simp_all
  obtain ⟨rfl, rfl⟩ := trodVars_none hV
  obtain ⟨c0, rfl, f0⟩ := open_plain Caucuslaw14Case.leaves ⟨_, Try.underlying69⟩ (hval 0 69 v0 rfl rfl) h0 (sizedAll hsz 0 rfl rfl)
  obtain ⟨x0, rfl, w0⟩ := Caucuslaw14Case.fit f0
  obtain ⟨ao1, b1, off1, len1, cap1, xs1, rfl, hl1, hlc1, hcm1, ha1, hs1, hf1, hby1⟩ := open_slice_plain Try.underlying70 TCall.leaves (by kernel_rfl) (by decide) (hval 1 70 v1 rfl rfl) h1 (sizedAll hsz 1 rfl rfl)
  obtain ⟨x1, rfl, w1⟩ := fits_map TCall.c TCall.wf hf1 TCall.fit
  obtain rfl : len1 = x1.length := by simpa using hl1.symm
  obtain ⟨x2, rfl, rfl, rfl, w2⟩ := open_int Try.underlying3 (hval 2 3 v2 rfl rfl) h2
  simp only [List.append_nil] at hW' hA1
  have hbl : ∀ p : Nat × Nat, p ∈ [(x1.length, b1)] → 0 < p.1 → p.2 < W.heap.size := by
    intro p hp h0
    simp only [List.mem_cons, List.mem_nil_iff, or_false] at hp
    rcases hp with rfl
    · exact (ha1 h0).2
  have hR1 : Rd (snap W (blocksOf [(x1.length, b1)])) ao1 x1.length b1 off1 14 (x1.map TCall.c) := Rd.snap (by simp) (Nat.le_trans hlc1 hcm1) ha1 hs1 (fun h => blocksOf_mem (len := x1.length) (by simp) h)
  refine (Ct.runSnap (blocksOf_nodup _) (blocksOf_lt hbl) (leadTurned_walk _ _ _ _ _ x0 x1 x2 hR1)).mono fun e W' hh => ?_
  obtain ⟨rfl, hS⟩ := hh
  exact ⟨_, rfl, post_law (P := Try.prog) (f := Try.f9) (tbool := 4) hW' hA1 rfl rfl hS laid leadTurned_read rfl Try.underlying4⟩
theorem leadTurned_joined : joinedFacts Try.prog 9 Try.f9 Rows.leadTurnedSpec Rows.leadTurnedRow = true := by
  unfold joinedFacts
  rewrite [head_enter, head_lift, head_make]
  kernel_rfl
theorem leadTurned_over : Rows.leadTurnedRow.holds Try.pinned (OpenSpec.ofChange Rows.leadTurnedSpec) :=
  OpenClaim.holds_of_wide 9 Try.f9 rfl rfl rfl rfl rfl rfl rfl ⟨rfl, rfl, rfl, rfl, rfl⟩ rfl rfl rfl rfl rfl (by kernel_rfl) Try.func9 leadTurned_joined
    (of_decide_eq_true (by kernel_rfl)) (by unfold Func.isWrapper; first | (rw [if_pos (by decide +kernel)]; kernel_rfl) | (rw [if_neg (by decide +kernel)]; exact ⟨rfl, rfl⟩))
    (fun os started H enc _ => leadTurned_lifted os started H enc)
/-- THE STATEMENT. -/
theorem leadTurned_proved : Rows.LeadTurnedSaid := leadTurned_over
#print axioms leadTurned_proved

end Go.Proofs.Ythoepbbpmdmfeaa
