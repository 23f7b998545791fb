/-
  The statement LeadVotes of layer 14: votes note each replica's first word, and tell them by rising numbers. Proved for every input.
-/
import Derived.Test.YthoepbbpmdmfeaaHead
import Derived.Test.YthoepbbpmdmfeaaLead6
import Derived.Test.YthoepbbpmdmfeaaHeapH
namespace Go.HL
open Go
section
variable {P : Program} {n : Fm} {env : Env} {σ : List Ent} {dst : Nat} {ty : TypeId} {pos : String} {af : Array Edge} {gd : Option (Nat × Bool)} {α β : Type} [DecidableEq α] {kt : TypeId} {kf : α → Value} {vf : β → Value} {l : List (α × β)}
theorem Val.lookS {t e : TypeId} {x y : Operand} {b : Nat} {k : α} {v : β} {zv : Value} (hg : mget l k = some v) (hK : KeyOk P kt kf) (ht : mapTB P t kt e = true) (hz : ∀ w, (zeroValue e).run P w = .ok zv w)
    (hx : ev env x = some (.map (some b))) (hy : ev env y = some (kf k)) (hm : mapK kf vf b l ∈ σ) : Val P n env σ ⟨some dst, .lookup t x y true, ty, pos, af, gd⟩ (.tuple #[vf v, .bool true]) := by
  have h := Val.look2 (P := P) (n := n) (env := env) (σ := σ) (dst := dst) (ty := ty) (pos := pos) (af := af) (gd := gd) (l := l) (k := k) hK ht hz hx hy hm
  rw [hg] at h; exact h
theorem Val.lookN {t e : TypeId} {x y : Operand} {b : Nat} {k : α} {zv : Value} (hg : mget l k = none) (hK : KeyOk P kt kf) (ht : mapTB P t kt e = true) (hz : ∀ w, (zeroValue e).run P w = .ok zv w)
    (hx : ev env x = some (.map (some b))) (hy : ev env y = some (kf k)) (hm : mapK kf vf b l ∈ σ) : Val P n env σ ⟨some dst, .lookup t x y true, ty, pos, af, gd⟩ (.tuple #[zv, .bool false]) := by
  have h := Val.look2 (P := P) (n := n) (env := env) (σ := σ) (dst := dst) (ty := ty) (pos := pos) (af := af) (gd := gd) (l := l) (k := k) hK ht hz hx hy hm
  rw [hg] at h; exact h
theorem Val.lookV {t e : TypeId} {x y : Operand} {b : Nat} {k : α} {v : β} {zv : Value} (hg : mget l k = some v) (hK : KeyOk P kt kf) (ht : mapTB P t kt e = true) (hz : ∀ w, (zeroValue e).run P w = .ok zv w)
    (hx : ev env x = some (.map (some b))) (hy : ev env y = some (kf k)) (hm : mapK kf vf b l ∈ σ) : Val P n env σ ⟨some dst, .lookup t x y false, ty, pos, af, gd⟩ (vf v) := by
  have h := Val.look (P := P) (n := n) (env := env) (σ := σ) (dst := dst) (ty := ty) (pos := pos) (af := af) (gd := gd) (l := l) (k := k) hK ht hz hx hy hm
  rw [hg] at h; exact h
end
end Go.HL
namespace Go.Proofs.Ythoepbbpmdmfeaa
open Go.HL
set_option linter.unusedSimpArgs false
set_option linter.unusedVariables false
set_option maxRecDepth 8000
theorem und3 : Try.prog.underlying 3 = some (.int .i64) := rfl
theorem zero3 (w : Go.World) : (Go.zeroValue 3).run Try.prog w = .ok (I 0) w := rfl
theorem map58 : mapTB Try.prog 58 3 3 = true := rfl
abbrev vI (l : List Int) (h : List Bool) (n : Int) : List Go.Value := VS (fun z : Int => I z) [] l h n []
theorem vI_ok {l : List Int} {h : List Bool} (hl : l.length = 7) (hh : h.length = 7) : WOk ([] : List Go.Value) 0 l h := ⟨rfl, hl, hh⟩
theorem mput_len {α β : Type} [DecidableEq α] (l : List (α × β)) (k : α) (v : β) (h : mget l k = none) : (mput l k v).length = l.length + 1 := by
  induction l with
  | nil => rfl
  | cons p l ih =>
    rw [mget_cons] at h
    split at h
    · cases h
    · rename_i hk
      rw [mput_cons, if_neg hk, List.length_cons, ih h]; rfl
structure VInv (l : List Int) (h : List Bool) (n : Int) (m : List (Int × Int)) : Prop where
  hl : l.length = 7
  hh : h.length = 7
  hn : n = (h.count true : Int)
  len : (m.length : Int) = n
  get : ∀ r : Int, mget m r = if 0 ≤ r ∧ r < 7 ∧ h.getD r.toNat true = true then some (l.getD r.toNat 0) else none
theorem VInv.zero : VInv (List.replicate 7 0) (List.replicate 7 false) 0 [] := ⟨rfl, rfl, rfl, rfl, fun r => by
  rw [mget_nil, if_neg]
  rintro ⟨h1, h2, h3⟩
  rw [List.getD, List.getElem?_replicate, if_pos (by omega)] at h3
  cases h3⟩
theorem VInv.put {l : List Int} {h : List Bool} {n : Int} {m : List (Int × Int)} (v : VInv l h n m) {r : Int} (hr : 0 ≤ r ∧ r < 7) (hf : h.getD r.toNat true = false) (x : Int) : VInv (l.set r.toNat x) (h.set r.toNat true) (n + 1) (mput m r x) := by
  have hn : mget m r = none := by rw [v.get, if_neg]; rintro ⟨_, _, h3⟩; rw [hf] at h3; cases h3
  refine ⟨by rw [List.length_set, v.hl], by rw [List.length_set, v.hh], ?_, ?_, fun q => ?_⟩
  · have hk2 : h[r.toNat]? = some false := by
      cases hh : h[r.toNat]? with
      | none => simp [List.getD, hh] at hf
      | some v => simp [List.getD, hh] at hf; rw [hf]
    obtain ⟨e1, e2, e3⟩ := set_parts hk2
    have e4 : h.count true = (h.take r.toNat ++ ([false] ++ h.drop (r.toNat + 1))).count true := by rw [← e1]
    rw [v.hn, e3, e4]
    simp only [List.count_append, List.count_cons, List.count_nil]
    simp
    omega
  · rw [mput_len _ _ _ hn]; have := v.len; omega
  · rw [mget_mput]
    by_cases hq : q = r
    · subst hq
      rw [if_pos rfl, if_pos]
      · rw [List.getD, List.getElem?_set, if_pos rfl, if_pos (by rw [v.hl]; omega)]; rfl
      · refine ⟨hr.1, hr.2, ?_⟩
        rw [List.getD, List.getElem?_set, if_pos rfl, if_pos (by rw [v.hh]; omega)]; rfl
    · rw [if_neg hq, v.get]
      by_cases h7 : 0 ≤ q ∧ q < 7
      · have e1 : (h.set r.toNat true).getD q.toNat true = h.getD q.toNat true := by rw [List.getD, List.getD, List.getElem?_set, if_neg (by omega)]
        have e2 : (l.set r.toNat x).getD q.toNat 0 = l.getD q.toNat 0 := by rw [List.getD, List.getD, List.getElem?_set, if_neg (by omega)]
        rw [e1, e2]
      · rw [if_neg (by omega), if_neg (by omega)]
structure VS4 where
  l : List Int
  h : List Bool
  n : Int
  m : List (Int × Int)
theorem vAt_key {α : Type} {l : List α} {h : List Bool} {k : Nat} {p : Nat × α} (hp : vAt l h k = some p) : p.1 = k ∧ h.getD k false = true ∧ l[k]? = some p.2 := by
  unfold vAt at hp
  split at hp
  · rename_i hh
    cases hl : l[k]? with
    | none => rw [hl] at hp; cases hp
    | some z => rw [hl] at hp; cases hp; exact ⟨rfl, hh, rfl⟩
  · cases hp
theorem vUpto_rise {α : Type} (l : List α) (h : List Bool) : ∀ k : Nat, (vUpto l h k).Pairwise (fun a b => a.1 < b.1) ∧ ∀ p ∈ vUpto l h k, p.1 < k ∧ vAt l h p.1 = some p
  | 0 => ⟨List.Pairwise.nil, fun p hp => by cases hp⟩
  | k + 1 => by
    obtain ⟨h1, h2⟩ := vUpto_rise l h k
    rw [vUpto_succ]
    cases ha : vAt l h k with
    | none =>
      simp only [Option.toList_none, List.append_nil]
      exact ⟨h1, fun p hp => ⟨by have := (h2 p hp).1; omega, (h2 p hp).2⟩⟩
    | some q =>
      have hq := vAt_key ha
      simp only [Option.toList_some]
      refine ⟨List.pairwise_append.2 ⟨h1, List.pairwise_singleton _ _, fun a ha' b hb => ?_⟩, fun p hp => ?_⟩
      · simp only [List.mem_singleton] at hb
        subst hb
        have := (h2 a ha').1
        omega
      · rcases List.mem_append.1 hp with hp | hp
        · exact ⟨by have := (h2 p hp).1; omega, (h2 p hp).2⟩
        · simp only [List.mem_singleton] at hp
          subst hp
          exact ⟨by omega, by rw [hq.1]; exact ha⟩
def lastI (l : List (Nat × Int)) : Int := match l.getLast? with
  | some p => (p.1 : Int)
  | none => -1
theorem lastI_snoc (l : List (Nat × Int)) (p : Nat × Int) : lastI (l ++ [p]) = (p.1 : Int) := by unfold lastI; rw [List.getLast?_concat]
theorem vAll_at {l : List Int} {h : List Bool} {pre post : List (Nat × Int)} {p : Nat × Int} (hx : vAll l h = pre ++ p :: post) : lastI pre < (p.1 : Int) ∧ p.1 < 7 ∧ h.getD p.1 false = true ∧ l[p.1]? = some p.2 := by
  obtain ⟨h1, h2⟩ := vUpto_rise l h 7
  rw [show vUpto l h 7 = pre ++ p :: post from hx] at h1 h2
  have hp := h2 p (by simp)
  have hk := vAt_key hp.2
  refine ⟨?_, hp.1, hk.2.1, hk.2.2⟩
  unfold lastI
  cases hl : pre.getLast? with
  | none => simp; omega
  | some q =>
    have := (List.pairwise_append.1 h1).2.2 q (List.mem_of_getLast? hl) p (by simp)
    simp; omega
theorem vUpto_len {l : List Int} {h : List Bool} (hl : l.length = 7) (hh : h.length = 7) : ∀ k : Nat, k ≤ 7 → (vUpto l h k).length = (h.take k).count true
  | 0, _ => rfl
  | k + 1, hk => by
    obtain ⟨v, hv⟩ := getS (xs := h) (k := k) (by omega)
    obtain ⟨x, hx⟩ := getS (xs := l) (k := k) (by omega)
    rw [vUpto_succ, List.length_append, vUpto_len hl hh k (by omega), List.take_add_one, hv, List.count_append]
    unfold vAt
    rw [List.getD, hv, hx]
    cases v <;> simp
theorem vAll_cnt {l : List Int} {h : List Bool} (hl : l.length = 7) (hh : h.length = 7) : (vAll l h).length = h.count true := by
  rw [vAll, vUpto_len hl hh 7 (Nat.le_refl _), List.take_of_length_le (by omega)]
theorem votes_has0 (k : Int) : Fun Try.prog 34 [.pointer none, I k] (B false) := by
  refine Ct.enter Try.func34 rfl rfl fun W => ?_
  apply Wp.seq
  apply Wp.region
  refine WpL.v (V.as) ?_
  apply WpL.nil
  apply Out.seqN
  apply Wp.seq
  apply Wp.region
  refine WpL.v (V.mv) ?_
  refine WpL.v (V.neN) ?_
  refine WpL.v (V.mv) ?_
  refine WpL.sk ?_
  refine WpL.sk ?_
  refine WpL.v (V.pF) ?_
  refine WpL.v (V.mv) ?_
  refine WpL.sk ?_
  refine WpL.sk ?_
  refine WpL.v (V.pF) ?_
  refine WpL.v (V.mv) ?_
  refine WpL.sk ?_
  refine WpL.sk ?_
  refine WpL.sk ?_
  refine WpL.sk ?_
  refine WpL.sk ?_
  refine WpL.sk ?_
  refine WpL.v (V.pF) ?_
  refine WpL.v (V.as) ?_
  apply WpL.nil
  apply Out.seqN
  apply Wp.ret
  refine Out.f1 rfl ResIs.t ⟨?_, rfl⟩
  exact rfl
theorem votes_len0 : Fun Try.prog 33 [.pointer none] (I 0) := by
  refine Ct.enter Try.func33 rfl rfl fun W => ?_
  apply Wp.seq
  apply Wp.region
  refine WpL.v (V.as) ?_
  apply WpL.nil
  apply Out.seqN
  apply Wp.seq
  apply Wp.seq
  apply Wp.region
  refine WpL.v (V.mv) ?_
  refine WpL.v (V.eqN) ?_
  apply WpL.nil
  apply Out.seqN
  refine Wp.cT ?_
  apply Wp.seq
  apply Wp.region
  refine WpL.v (V.as) ?_
  apply WpL.nil
  apply Out.seqN
  apply Wp.ret
  apply Out.seqR
  refine Out.f1 rfl ResIs.t ⟨?_, rfl⟩
  exact rfl
theorem votes_put0 (k x : Int) : Fun Try.prog 31 [.pointer none, I k, I x] (B false) := by
  refine Ct.enter Try.func31 rfl rfl fun W => ?_
  apply Wp.seq
  apply Wp.region
  refine WpL.v (V.as) ?_
  apply WpL.nil
  apply Out.seqN
  apply Wp.seq
  apply Wp.seq
  apply Wp.region
  refine WpL.v (V.mv) ?_
  refine WpL.v (V.eqN) ?_
  refine WpL.v (V.mv) ?_
  refine WpL.sk ?_
  refine WpL.sk ?_
  refine WpL.v (V.pT) ?_
  refine WpL.v (V.mv) ?_
  refine WpL.sk ?_
  refine WpL.sk ?_
  refine WpL.v (V.pT) ?_
  refine WpL.v (V.mv) ?_
  refine WpL.sk ?_
  refine WpL.sk ?_
  refine WpL.sk ?_
  refine WpL.sk ?_
  refine WpL.sk ?_
  refine WpL.sk ?_
  refine WpL.v (V.pT) ?_
  apply WpL.nil
  apply Out.seqN
  refine Wp.cT ?_
  apply Wp.seq
  apply Wp.region
  refine WpL.v (V.as) ?_
  apply WpL.nil
  apply Out.seqN
  apply Wp.ret
  apply Out.seqR
  refine Out.f1 rfl ResIs.t ⟨?_, rfl⟩
  exact rfl
theorem votes_iter0 (q : Nat) : Iter Try.prog 83 [Ptr q 0] [cells q 54 [.pointer none]] encVI [] [cells q 54 [.pointer none]] := by
  intro y β G X S b0 hG0 hY
  refine Ct.enter Try.func83 rfl rfl fun W => ?_
  apply Wp.seq
  apply Wp.region
  refine WpL.v (V.mv) ?_
  apply WpL.nil
  apply Out.seqN
  apply Wp.block
  refine Wp.lp [0, 1] (fun k : Nat => k ≤ 7) (fun k => [(4, I (k : Int))]) (fun _ => []) (fun k => 7 - k) 0 (by omega) ?_
  intro k hk K hK
  dsimp only [List.cons_append, List.nil_append]
  by_cases hk7 : k < 7
  · apply Wp.seq
    apply Wp.region
    refine WpL.v (V.cmp) ?_
    apply WpL.nil
    apply Out.seqN
    apply Wp.seq
    refine Wp.c (fun hi10 => ?_) (fun hi10 => ?_)
    (try simp only [decide_eq_true_eq, decide_eq_false_iff_not, Bool.not_eq_true', Bool.not_eq_false', Bool.not_eq_true, Bool.not_eq_false, not_true_eq_false, not_false_eq_true, reduceCtorEq] at hi10)
    apply Wp.skip
    apply Out.seqN
    apply Wp.seq
    apply Wp.block
    apply Wp.seq
    apply Wp.region
    refine WpL.v (V.mv) ?_
    refine WpL.v (V.as) ?_
    apply WpL.nil
    apply Out.seqN
    apply Wp.seq
    apply Wp.region
    refine WpL.v (V.ld1 tb) ?_
    refine WpL.v (V.mv) ?_
    refine WpL.o (Op1.fn rfl (votes_has0 _) ?_)
    refine WpL.v (V.mv) ?_
    refine WpL.sk ?_
    refine WpL.sk ?_
    refine WpL.sk ?_
    refine WpL.sk ?_
    refine WpL.sk ?_
    refine WpL.sk ?_
    refine WpL.sk ?_
    refine WpL.sk ?_
    refine WpL.sk ?_
    refine WpL.sk ?_
    refine WpL.v (V.pF) ?_
    apply WpL.nil
    apply Out.seqN
    refine Wp.cF ?_
    apply Wp.skip
    apply Out.blockN
    apply Out.seqN
    apply Wp.region
    refine WpL.v (V.add) ?_
    refine WpL.v (V.mv) ?_
    apply WpL.nil
    rotate_left
    (try simp only [decide_eq_true_eq, decide_eq_false_iff_not, Bool.not_eq_true', Bool.not_eq_false', Bool.not_eq_true, Bool.not_eq_false, not_true_eq_false, not_false_eq_true, reduceCtorEq] at hi10)
    (exfalso; omega)
    exact Out.ag hK (k + 1) (by show k + 1 ≤ 7; omega) (by show 7 - (k + 1) < 7 - k; omega)
  · obtain rfl : k = 7 := by omega
    apply Wp.seq
    apply Wp.region
    refine WpL.v (V.cmp) ?_
    apply WpL.nil
    apply Out.seqN
    apply Wp.seq
    refine Wp.cF ?_
    apply Wp.exit
    apply Out.seqE
    apply Out.seqE
    apply Out.blockE
    refine Out.e0 rfl  ?_
    focus (exact ⟨_, _, ⟨b0, .inl hG0, rfl⟩, (by (repeat (first | exact Sel.nil | exact Rem.here | apply Sel.cons | apply Rem.there)))⟩; done)
theorem leadVotes_walk (e : Ent) (ao : Option Go.Addr) (cap b off : Nat) (xs : List Caucuslaw14Vote) (other : Int) (hR : Rd e ao xs.length b off 2 (xs.map Caucuslaw14Vote.c)) :
    Ct Try.prog 8 [.slice ao xs.length cap, I other] [e] (fun r σ' => r = B true ∧ σ' = [e]) := by
  have hm := hR.small
  simp only [Go.maxLen] at hm
  by_cases hs : xs.length ≤ 40
  · refine Ct.enter Try.func8 rfl rfl fun W => ?_
    apply Wp.seq
    apply Wp.region
    refine WpL.o (O.al tb (fun p4 => ?_))
    apply WpL.nil
    apply Out.seqN
    apply Wp.seq
    apply Wp.seq
    apply Wp.region
    refine WpL.o (Op1.fn rfl (alive14) ?_)
    refine WpL.v (V.not) ?_
    apply WpL.nil
    apply Out.seqN
    refine Wp.cF ?_
    apply Wp.skip
    apply Out.seqN
    apply Wp.seq
    apply Wp.seq
    apply Wp.region
    refine WpL.v (V.mv) ?_
    refine WpL.v (V.lenL tb) ?_
    refine WpL.v (V.cmp) ?_
    apply WpL.nil
    apply Out.seqN
    refine Wp.c (fun ha0 => ?_) (fun ha0 => ?_)
    (try simp only [decide_eq_true_eq, decide_eq_false_iff_not, Bool.not_eq_true', Bool.not_eq_false', Bool.not_eq_true, Bool.not_eq_false, not_true_eq_false, not_false_eq_true, reduceCtorEq] at ha0)
    (exfalso; omega)
    (try simp only [decide_eq_true_eq, decide_eq_false_iff_not, Bool.not_eq_true', Bool.not_eq_false', Bool.not_eq_true, Bool.not_eq_false, not_true_eq_false, not_false_eq_true, reduceCtorEq] at ha0)
    apply Wp.skip
    apply Out.seqN
    apply Wp.seq
    apply Wp.region
    refine WpL.v (V.bld tb) ?_
    refine WpL.o (O.bxA (fun p25 => ?_))
    refine WpL.v (V.as) ?_
    apply WpL.nil
    apply Out.seqN
    apply Wp.seq
    apply Wp.region
    refine WpL.o (Op1.mkMap (fun n : Int => I n) (fun n : Int => I n) rfl (fun p26 => ?_))
    refine WpL.o (O.al tb (fun p6 => ?_))
    refine WpL.o (O.st1 tb ?_)
    apply WpL.nil
    apply Out.seqN
    apply Wp.seq
    apply Wp.seq
    apply Wp.region
    refine WpL.v (V.mv) ?_
    refine WpL.v (V.lenL tb) ?_
    refine WpL.v (V.mv) ?_
    apply WpL.nil
    apply Out.seqN
    apply Wp.block
    refine Wp.lp [28, 27, 6, 5, 4, 1] (fun y : Nat × VS4 => y.1 ≤ xs.length ∧ VInv y.2.l y.2.h y.2.n y.2.m) (fun y => [(29, I (y.1 : Int))]) (fun y => [mapK (fun n : Int => I n) (fun n : Int => I n) p26 y.2.m, cells p25 57 (vI y.2.l y.2.h y.2.n)]) (fun y => xs.length - y.1) (0, ⟨List.replicate 7 0, List.replicate 7 false, 0, []⟩) ⟨Nat.zero_le _, VInv.zero⟩ ?_
    rintro ⟨i, ⟨l, h, n, m⟩⟩ ⟨hi, hV⟩ K hK
    dsimp only at hi hV
    dsimp only [List.cons_append, List.nil_append]
    have hok := vI_ok hV.hl hV.hh
    by_cases hlt : i < xs.length
    · obtain ⟨x, hx⟩ := getS hlt
      have hcl : h.count true ≤ 7 := by have := List.count_le_length (a := true) (l := h); rw [hV.hh] at this; exact this
      have hnb := hV.hn
      have hP := votes_putI (post := []) (n := n) p25 57 hok x.Rep x.N (by omega)
      have hg := hV.get x.Rep
      by_cases hr : 0 ≤ x.Rep ∧ x.Rep < 7
      · cases hh : h.getD x.Rep.toNat true with
        | true =>
          rw [hh, if_neg (by simp), show (decide (0 ≤ x.Rep ∧ x.Rep < 7) && !true) = false by simp] at hP
          rw [if_pos ⟨hr.1, hr.2, hh⟩] at hg
          apply Wp.seq
          apply Wp.region
          refine WpL.v (V.cmp) ?_
          apply WpL.nil
          apply Out.seqN
          apply Wp.seq
          refine Wp.c (fun hb0 => ?_) (fun hb0 => ?_)
          (try simp only [decide_eq_true_eq, decide_eq_false_iff_not, Bool.not_eq_true', Bool.not_eq_false', Bool.not_eq_true, Bool.not_eq_false, not_true_eq_false, not_false_eq_true, reduceCtorEq] at hb0)
          apply Wp.skip
          apply Out.seqN
          apply Wp.seq
          apply Wp.block
          apply Wp.seq
          apply Wp.region
          refine WpL.v (V.ixR tb rfl rfl (by assumption)) ?_
          refine WpL.v (V.ldRA tb rfl (by assumption) (getMapS (by assumption))) ?_
          refine WpL.o (O.al tb (fun p8 => ?_))
          refine WpL.o (O.stA tb ?_)
          apply WpL.nil
          apply Out.seqN
          apply Wp.seq
          apply Wp.region
          refine WpL.v (V.ld1 tb) ?_
          refine WpL.v (V.fa tb) ?_
          refine WpL.v (V.ld1 tb) ?_
          refine WpL.v (Val.lookS (vf := fun n : Int => I n) hg (KeyOk.int und3) map58 zero3 rfl rfl (by (repeat first | exact List.Mem.head _ | apply List.Mem.tail))) ?_
          refine WpL.v (V.mv) ?_
          refine WpL.v (V.ex) ?_
          refine WpL.v (V.ex) ?_
          refine WpL.v (V.as) ?_
          refine WpL.v (V.as) ?_
          apply WpL.nil
          apply Out.seqN
          apply Wp.seq
          apply Wp.region
          refine WpL.v (V.fa tb) ?_
          refine WpL.v (V.ld1 tb) ?_
          refine WpL.v (V.cmp) ?_
          refine WpL.v (V.mv) ?_
          refine WpL.pt (fun hb1 => ?_) (fun hb1 => ?_)
          (try simp only [decide_eq_true_eq, decide_eq_false_iff_not, Bool.not_eq_true', Bool.not_eq_false', Bool.not_eq_true, Bool.not_eq_false, not_true_eq_false, not_false_eq_true, reduceCtorEq] at hb1)
          refine WpL.v (V.fa tb) ?_
          refine WpL.v (V.ld1 tb) ?_
          refine WpL.v (V.cmp) ?_
          refine WpL.v (V.pT) ?_
          refine WpL.v (V.as) ?_
          apply WpL.nil
          apply Out.seqN
          apply Wp.seq
          apply Wp.seq
          apply Wp.region
          refine WpL.v (V.mv) ?_
          refine WpL.v (V.fa tb) ?_
          refine WpL.v (V.ld1 tb) ?_
          refine WpL.v (V.fa tb) ?_
          refine WpL.v (V.ld1 tb) ?_
          refine WpL.o (Op1.callT rfl (hP) (by (repeat (first | exact Sel.nil | exact Rem.here | apply Sel.cons | apply Rem.there))) ?_)
          rintro v2 s3 ⟨rfl, rfl⟩
          refine incat ?_
          refine WpL.v (V.mv) ?_
          refine WpL.v (V.mv) ?_
          refine WpL.pt (fun hb4 => ?_) (fun hb4 => ?_)
          (try simp only [decide_eq_true_eq, decide_eq_false_iff_not, Bool.not_eq_true', Bool.not_eq_false', Bool.not_eq_true, Bool.not_eq_false, not_true_eq_false, not_false_eq_true, reduceCtorEq] at hb4)
          refine WpL.v (V.mv) ?_
          refine WpL.v (V.not) ?_
          refine WpL.v (V.pT) ?_
          refine WpL.v (V.neB tb) ?_
          apply WpL.nil
          apply Out.seqN
          refine Wp.cF ?_
          apply Wp.skip
          apply Out.seqN
          apply Wp.seq
          apply Wp.region
          refine WpL.v (V.mv) ?_
          refine WpL.v (V.mv) ?_
          refine WpL.pt (fun hb5 => ?_) (fun hb5 => ?_)
          (try simp only [decide_eq_true_eq, decide_eq_false_iff_not, Bool.not_eq_true', Bool.not_eq_false', Bool.not_eq_true, Bool.not_eq_false, not_true_eq_false, not_false_eq_true, reduceCtorEq] at hb5)
          refine WpL.v (V.mv) ?_
          refine WpL.v (V.not) ?_
          refine WpL.v (V.pT) ?_
          apply WpL.nil
          apply Out.seqN
          refine Wp.cF ?_
          apply Wp.skip
          apply Out.blockN
          apply Out.seqN
          apply Wp.region
          refine WpL.v (V.add) ?_
          refine WpL.v (V.mv) ?_
          apply WpL.nil
          rotate_left
          (try simp only [decide_eq_true_eq, decide_eq_false_iff_not, Bool.not_eq_true', Bool.not_eq_false', Bool.not_eq_true, Bool.not_eq_false, not_true_eq_false, not_false_eq_true, reduceCtorEq] at hb5)
          (exfalso; omega)
          (try simp only [decide_eq_true_eq, decide_eq_false_iff_not, Bool.not_eq_true', Bool.not_eq_false', Bool.not_eq_true, Bool.not_eq_false, not_true_eq_false, not_false_eq_true, reduceCtorEq] at hb4)
          (exfalso; omega)
          (try simp only [decide_eq_true_eq, decide_eq_false_iff_not, Bool.not_eq_true', Bool.not_eq_false', Bool.not_eq_true, Bool.not_eq_false, not_true_eq_false, not_false_eq_true, reduceCtorEq] at hb1)
          (exfalso; omega)
          (try simp only [decide_eq_true_eq, decide_eq_false_iff_not, Bool.not_eq_true', Bool.not_eq_false', Bool.not_eq_true, Bool.not_eq_false, not_true_eq_false, not_false_eq_true, reduceCtorEq] at hb0)
          (exfalso; omega)
          all_goals exact Out.ag hK (i + 1, ⟨l, h, n, m⟩) ⟨by show i + 1 ≤ _; omega, hV⟩ (by show xs.length - (i + 1) < xs.length - i; omega)
        | false =>
          rw [hh, if_pos ⟨hr.1, hr.2, rfl⟩, show (decide (0 ≤ x.Rep ∧ x.Rep < 7) && !false) = true by simp; omega] at hP
          rw [if_neg (by rw [hh]; simp)] at hg
          apply Wp.seq
          apply Wp.region
          refine WpL.v (V.cmp) ?_
          apply WpL.nil
          apply Out.seqN
          apply Wp.seq
          refine Wp.c (fun hc0 => ?_) (fun hc0 => ?_)
          (try simp only [decide_eq_true_eq, decide_eq_false_iff_not, Bool.not_eq_true', Bool.not_eq_false', Bool.not_eq_true, Bool.not_eq_false, not_true_eq_false, not_false_eq_true, reduceCtorEq] at hc0)
          apply Wp.skip
          apply Out.seqN
          apply Wp.seq
          apply Wp.block
          apply Wp.seq
          apply Wp.region
          refine WpL.v (V.ixR tb rfl rfl (by assumption)) ?_
          refine WpL.v (V.ldRA tb rfl (by assumption) (getMapS (by assumption))) ?_
          refine WpL.o (O.al tb (fun p8 => ?_))
          refine WpL.o (O.stA tb ?_)
          apply WpL.nil
          apply Out.seqN
          apply Wp.seq
          apply Wp.region
          refine WpL.v (V.ld1 tb) ?_
          refine WpL.v (V.fa tb) ?_
          refine WpL.v (V.ld1 tb) ?_
          refine WpL.v (Val.lookN (vf := fun n : Int => I n) hg (KeyOk.int und3) map58 zero3 rfl rfl (by (repeat first | exact List.Mem.head _ | apply List.Mem.tail))) ?_
          refine WpL.v (V.mv) ?_
          refine WpL.v (V.ex) ?_
          refine WpL.v (V.ex) ?_
          refine WpL.v (V.as) ?_
          refine WpL.v (V.as) ?_
          apply WpL.nil
          apply Out.seqN
          apply Wp.seq
          apply Wp.region
          refine WpL.v (V.fa tb) ?_
          refine WpL.v (V.ld1 tb) ?_
          refine WpL.v (V.cmp) ?_
          refine WpL.v (V.mv) ?_
          refine WpL.pt (fun hc1 => ?_) (fun hc1 => ?_)
          (try simp only [decide_eq_true_eq, decide_eq_false_iff_not, Bool.not_eq_true', Bool.not_eq_false', Bool.not_eq_true, Bool.not_eq_false, not_true_eq_false, not_false_eq_true, reduceCtorEq] at hc1)
          refine WpL.v (V.fa tb) ?_
          refine WpL.v (V.ld1 tb) ?_
          refine WpL.v (V.cmp) ?_
          refine WpL.v (V.pT) ?_
          refine WpL.v (V.as) ?_
          apply WpL.nil
          apply Out.seqN
          apply Wp.seq
          apply Wp.seq
          apply Wp.region
          refine WpL.v (V.mv) ?_
          refine WpL.v (V.fa tb) ?_
          refine WpL.v (V.ld1 tb) ?_
          refine WpL.v (V.fa tb) ?_
          refine WpL.v (V.ld1 tb) ?_
          refine WpL.o (Op1.callT rfl (hP) (by (repeat (first | exact Sel.nil | exact Rem.here | apply Sel.cons | apply Rem.there))) ?_)
          rintro v2 s3 ⟨rfl, rfl⟩
          refine incat ?_
          refine WpL.v (V.mv) ?_
          refine WpL.v (V.mv) ?_
          refine WpL.pt (fun hc4 => ?_) (fun hc4 => ?_)
          (try simp only [decide_eq_true_eq, decide_eq_false_iff_not, Bool.not_eq_true', Bool.not_eq_false', Bool.not_eq_true, Bool.not_eq_false, not_true_eq_false, not_false_eq_true, reduceCtorEq] at hc4)
          refine WpL.v (V.mv) ?_
          refine WpL.v (V.not) ?_
          refine WpL.v (V.pT) ?_
          refine WpL.v (V.neB tb) ?_
          apply WpL.nil
          apply Out.seqN
          refine Wp.cF ?_
          apply Wp.skip
          apply Out.seqN
          apply Wp.seq
          apply Wp.region
          refine WpL.v (V.mv) ?_
          refine WpL.v (V.mv) ?_
          refine WpL.pt (fun hc5 => ?_) (fun hc5 => ?_)
          (try simp only [decide_eq_true_eq, decide_eq_false_iff_not, Bool.not_eq_true', Bool.not_eq_false', Bool.not_eq_true, Bool.not_eq_false, not_true_eq_false, not_false_eq_true, reduceCtorEq] at hc5)
          refine WpL.v (V.mv) ?_
          refine WpL.v (V.not) ?_
          refine WpL.v (V.pT) ?_
          apply WpL.nil
          apply Out.seqN
          refine Wp.cT ?_
          apply Wp.region
          refine WpL.v (V.ld1 tb) ?_
          refine WpL.v (V.fa tb) ?_
          refine WpL.v (V.ld1 tb) ?_
          refine WpL.v (V.fa tb) ?_
          refine WpL.v (V.ld1 tb) ?_
          refine WpL.o (Op1.updM (k := x.Rep) (v := x.N) (vf := fun n : Int => I n) (KeyOk.int und3) map58 rfl rfl rfl (by (repeat first | exact Upd.here _ _ _ | apply Upd.there)) ?_)
          apply WpL.nil
          apply Out.blockN
          apply Out.seqN
          apply Wp.region
          refine WpL.v (V.add) ?_
          refine WpL.v (V.mv) ?_
          apply WpL.nil
          rotate_left
          (try simp only [decide_eq_true_eq, decide_eq_false_iff_not, Bool.not_eq_true', Bool.not_eq_false', Bool.not_eq_true, Bool.not_eq_false, not_true_eq_false, not_false_eq_true, reduceCtorEq] at hc5)
          (exfalso; omega)
          (try simp only [decide_eq_true_eq, decide_eq_false_iff_not, Bool.not_eq_true', Bool.not_eq_false', Bool.not_eq_true, Bool.not_eq_false, not_true_eq_false, not_false_eq_true, reduceCtorEq] at hc4)
          (exfalso; omega)
          (try simp only [decide_eq_true_eq, decide_eq_false_iff_not, Bool.not_eq_true', Bool.not_eq_false', Bool.not_eq_true, Bool.not_eq_false, not_true_eq_false, not_false_eq_true, reduceCtorEq] at hc1)
          (exfalso; omega)
          (try simp only [decide_eq_true_eq, decide_eq_false_iff_not, Bool.not_eq_true', Bool.not_eq_false', Bool.not_eq_true, Bool.not_eq_false, not_true_eq_false, not_false_eq_true, reduceCtorEq] at hc0)
          (exfalso; omega)
          all_goals exact Out.ag hK (i + 1, ⟨l.set x.Rep.toNat x.N, h.set x.Rep.toNat true, n + 1, mput m x.Rep x.N⟩) ⟨by show i + 1 ≤ _; omega, hV.put hr hh x.N⟩ (by show xs.length - (i + 1) < xs.length - i; omega)
      · rw [if_neg (by omega), show (decide (0 ≤ x.Rep ∧ x.Rep < 7) && !(h.getD x.Rep.toNat true)) = false by simp; omega] at hP
        rw [if_neg (by omega)] at hg
        apply Wp.seq
        apply Wp.region
        refine WpL.v (V.cmp) ?_
        apply WpL.nil
        apply Out.seqN
        apply Wp.seq
        refine Wp.c (fun hd0 => ?_) (fun hd0 => ?_)
        (try simp only [decide_eq_true_eq, decide_eq_false_iff_not, Bool.not_eq_true', Bool.not_eq_false', Bool.not_eq_true, Bool.not_eq_false, not_true_eq_false, not_false_eq_true, reduceCtorEq] at hd0)
        apply Wp.skip
        apply Out.seqN
        apply Wp.seq
        apply Wp.block
        apply Wp.seq
        apply Wp.region
        refine WpL.v (V.ixR tb rfl rfl (by assumption)) ?_
        refine WpL.v (V.ldRA tb rfl (by assumption) (getMapS (by assumption))) ?_
        refine WpL.o (O.al tb (fun p8 => ?_))
        refine WpL.o (O.stA tb ?_)
        apply WpL.nil
        apply Out.seqN
        apply Wp.seq
        apply Wp.region
        refine WpL.v (V.ld1 tb) ?_
        refine WpL.v (V.fa tb) ?_
        refine WpL.v (V.ld1 tb) ?_
        refine WpL.v (Val.lookN (vf := fun n : Int => I n) hg (KeyOk.int und3) map58 zero3 rfl rfl (by (repeat first | exact List.Mem.head _ | apply List.Mem.tail))) ?_
        refine WpL.v (V.mv) ?_
        refine WpL.v (V.ex) ?_
        refine WpL.v (V.ex) ?_
        refine WpL.v (V.as) ?_
        refine WpL.v (V.as) ?_
        apply WpL.nil
        apply Out.seqN
        apply Wp.seq
        apply Wp.region
        refine WpL.v (V.fa tb) ?_
        refine WpL.v (V.ld1 tb) ?_
        refine WpL.v (V.cmp) ?_
        refine WpL.v (V.mv) ?_
        refine WpL.pt (fun hd1 => ?_) (fun hd1 => ?_)
        (try simp only [decide_eq_true_eq, decide_eq_false_iff_not, Bool.not_eq_true', Bool.not_eq_false', Bool.not_eq_true, Bool.not_eq_false, not_true_eq_false, not_false_eq_true, reduceCtorEq] at hd1)
        refine WpL.v (V.fa tb) ?_
        refine WpL.v (V.ld1 tb) ?_
        refine WpL.v (V.cmp) ?_
        refine WpL.v (V.pT) ?_
        refine WpL.v (V.as) ?_
        apply WpL.nil
        apply Out.seqN
        apply Wp.seq
        apply Wp.seq
        apply Wp.region
        refine WpL.v (V.mv) ?_
        refine WpL.v (V.fa tb) ?_
        refine WpL.v (V.ld1 tb) ?_
        refine WpL.v (V.fa tb) ?_
        refine WpL.v (V.ld1 tb) ?_
        refine WpL.o (Op1.callT rfl (hP) (by (repeat (first | exact Sel.nil | exact Rem.here | apply Sel.cons | apply Rem.there))) ?_)
        rintro v2 s3 ⟨rfl, rfl⟩
        refine incat ?_
        refine WpL.v (V.mv) ?_
        refine WpL.v (V.mv) ?_
        refine WpL.pt (fun hd4 => ?_) (fun hd4 => ?_)
        (try simp only [decide_eq_true_eq, decide_eq_false_iff_not, Bool.not_eq_true', Bool.not_eq_false', Bool.not_eq_true, Bool.not_eq_false, not_true_eq_false, not_false_eq_true, reduceCtorEq] at hd4)
        (exfalso; omega)
        (try simp only [decide_eq_true_eq, decide_eq_false_iff_not, Bool.not_eq_true', Bool.not_eq_false', Bool.not_eq_true, Bool.not_eq_false, not_true_eq_false, not_false_eq_true, reduceCtorEq] at hd4)
        refine WpL.sk ?_
        refine WpL.sk ?_
        refine WpL.v (V.pF) ?_
        refine WpL.v (V.neB tb) ?_
        apply WpL.nil
        apply Out.seqN
        refine Wp.cF ?_
        apply Wp.skip
        apply Out.seqN
        apply Wp.seq
        apply Wp.region
        refine WpL.v (V.mv) ?_
        refine WpL.v (V.mv) ?_
        refine WpL.pt (fun hd5 => ?_) (fun hd5 => ?_)
        (try simp only [decide_eq_true_eq, decide_eq_false_iff_not, Bool.not_eq_true', Bool.not_eq_false', Bool.not_eq_true, Bool.not_eq_false, not_true_eq_false, not_false_eq_true, reduceCtorEq] at hd5)
        (exfalso; omega)
        (try simp only [decide_eq_true_eq, decide_eq_false_iff_not, Bool.not_eq_true', Bool.not_eq_false', Bool.not_eq_true, Bool.not_eq_false, not_true_eq_false, not_false_eq_true, reduceCtorEq] at hd5)
        refine WpL.sk ?_
        refine WpL.sk ?_
        refine WpL.v (V.pF) ?_
        apply WpL.nil
        apply Out.seqN
        refine Wp.cF ?_
        apply Wp.skip
        apply Out.blockN
        apply Out.seqN
        apply Wp.region
        refine WpL.v (V.add) ?_
        refine WpL.v (V.mv) ?_
        apply WpL.nil
        rotate_left
        (try simp only [decide_eq_true_eq, decide_eq_false_iff_not, Bool.not_eq_true', Bool.not_eq_false', Bool.not_eq_true, Bool.not_eq_false, not_true_eq_false, not_false_eq_true, reduceCtorEq] at hd1)
        refine WpL.sk ?_
        refine WpL.sk ?_
        refine WpL.sk ?_
        refine WpL.v (V.pF) ?_
        refine WpL.v (V.as) ?_
        apply WpL.nil
        apply Out.seqN
        apply Wp.seq
        apply Wp.seq
        apply Wp.region
        refine WpL.v (V.mv) ?_
        refine WpL.v (V.fa tb) ?_
        refine WpL.v (V.ld1 tb) ?_
        refine WpL.v (V.fa tb) ?_
        refine WpL.v (V.ld1 tb) ?_
        refine WpL.o (Op1.callT rfl (hP) (by (repeat (first | exact Sel.nil | exact Rem.here | apply Sel.cons | apply Rem.there))) ?_)
        rintro v6 s7 ⟨rfl, rfl⟩
        refine incat ?_
        refine WpL.v (V.mv) ?_
        refine WpL.v (V.mv) ?_
        refine WpL.sk ?_
        refine WpL.sk ?_
        refine WpL.v (V.pF) ?_
        refine WpL.v (V.neB tb) ?_
        apply WpL.nil
        apply Out.seqN
        refine Wp.cF ?_
        apply Wp.skip
        apply Out.seqN
        apply Wp.seq
        apply Wp.region
        refine WpL.v (V.mv) ?_
        refine WpL.v (V.mv) ?_
        refine WpL.sk ?_
        refine WpL.sk ?_
        refine WpL.v (V.pF) ?_
        apply WpL.nil
        apply Out.seqN
        refine Wp.cF ?_
        apply Wp.skip
        apply Out.blockN
        apply Out.seqN
        apply Wp.region
        refine WpL.v (V.add) ?_
        refine WpL.v (V.mv) ?_
        apply WpL.nil
        rotate_left
        (try simp only [decide_eq_true_eq, decide_eq_false_iff_not, Bool.not_eq_true', Bool.not_eq_false', Bool.not_eq_true, Bool.not_eq_false, not_true_eq_false, not_false_eq_true, reduceCtorEq] at hd0)
        (exfalso; omega)
        all_goals exact Out.ag hK (i + 1, ⟨l, h, n, m⟩) ⟨by show i + 1 ≤ _; omega, hV⟩ (by show xs.length - (i + 1) < xs.length - i; omega)
    · obtain rfl : i = xs.length := by omega
      clear hK
      apply Wp.seq
      apply Wp.region
      refine WpL.v (V.cmp) ?_
      apply WpL.nil
      apply Out.seqN
      apply Wp.seq
      refine Wp.c (fun hf0 => ?_) (fun hf0 => ?_)
      (try simp only [decide_eq_true_eq, decide_eq_false_iff_not, Bool.not_eq_true', Bool.not_eq_false', Bool.not_eq_true, Bool.not_eq_false, not_true_eq_false, not_false_eq_true, reduceCtorEq] at hf0)
      (exfalso; omega)
      (try simp only [decide_eq_true_eq, decide_eq_false_iff_not, Bool.not_eq_true', Bool.not_eq_false', Bool.not_eq_true, Bool.not_eq_false, not_true_eq_false, not_false_eq_true, reduceCtorEq] at hf0)
      apply Wp.exit
      apply Out.seqE
      apply Out.seqE
      apply Out.blockE
      apply Out.seqN
      apply Wp.seq
      apply Wp.region
      refine WpL.o (O.al tb (fun p12 => ?_))
      refine WpL.o (O.st1 tb ?_)
      apply WpL.nil
      apply Out.seqN
      apply Wp.seq
      apply Wp.region
      refine WpL.o (O.al tb (fun p13 => ?_))
      refine WpL.o (O.st1 tb ?_)
      apply WpL.nil
      apply Out.seqN
      apply Wp.seq
      apply Wp.seq
      apply Wp.region
      refine WpL.v (V.mv) ?_
      refine WpL.o (Op1.callT rfl (votes_allI _ rfl) (by (repeat (first | exact Sel.nil | exact Rem.here | apply Sel.cons | apply Rem.there))) ?_)
      rintro v1 s2 ⟨q72, ⟨rfl, rfl⟩⟩
      refine incat ?_
      apply WpL.nil
      apply Out.seqN
      apply Wp.block
      refine Wp.rg (votes_iterI q72 p25 57 hok) (fun b : Int × Nat => [cells p13 3 [I (b.2 : Int)], cells p12 3 [I b.1], mapK (fun n : Int => I n) (fun n : Int => I n) p26 m, cells p6 58 [.map (some p26)], cells p4 4 [B false]]) (fun pre b => b = (lastI pre, pre.length)) (fun _ _ _ => False) (-1, 0) rfl ?_ ?_ ?_
      · rintro pre ⟨j, z⟩ post bb l' rec hx rfl hr W' D' K hK
        obtain ⟨k1, k2, k3, k4⟩ := vAll_at hx
        dsimp only at k1 k2 k3 k4
        have hlen := vAll_len l h
        rw [hx, List.length_append] at hlen
        simp only [List.length_cons] at hlen
        have hg : mget m (j : Int) = some z := by
          rw [hV.get, if_pos]
          · rw [show ((j : Int)).toNat = j by omega, List.getD, k4]; rfl
          · refine ⟨by omega, by omega, ?_⟩
            rw [show ((j : Int)).toNat = j by omega]
            cases hj : h[j]? with
            | none => simp [List.getD, hj]
            | some v => simp [List.getD, hj] at k3 ⊢; exact k3
        apply Wp.seq
        apply Wp.region
        refine WpL.v (V.as) ?_
        apply WpL.nil
        apply Out.seqN
        apply Wp.region
        refine WpL.v (V.as) ?_
        apply WpL.nil
        refine Out.bg (by assumption) ?_
        apply Wp.block
        apply Wp.seq
        apply Wp.seq
        apply Wp.region
        refine WpL.v (V.mv) ?_
        refine WpL.v (V.ld1 tb) ?_
        refine WpL.v (V.cmp) ?_
        refine WpL.v (V.mv) ?_
        refine WpL.pt (fun hg0 => ?_) (fun hg0 => ?_)
        (try simp only [decide_eq_true_eq, decide_eq_false_iff_not, Bool.not_eq_true', Bool.not_eq_false', Bool.not_eq_true, Bool.not_eq_false, not_true_eq_false, not_false_eq_true, reduceCtorEq] at hg0)
        (exfalso; omega)
        (try simp only [decide_eq_true_eq, decide_eq_false_iff_not, Bool.not_eq_true', Bool.not_eq_false', Bool.not_eq_true, Bool.not_eq_false, not_true_eq_false, not_false_eq_true, reduceCtorEq] at hg0)
        refine WpL.v (V.ld1 tb) ?_
        refine WpL.v (V.mv) ?_
        refine WpL.v (Val.lookV (vf := fun n : Int => I n) hg (KeyOk.int und3) map58 zero3 rfl rfl (by (repeat first | exact List.Mem.head _ | apply List.Mem.tail))) ?_
        refine WpL.v (V.mv) ?_
        refine WpL.v (V.cmp) ?_
        refine WpL.v (V.pF) ?_
        apply WpL.nil
        apply Out.seqN
        refine Wp.c (fun hg1 => ?_) (fun hg1 => ?_)
        (try simp only [decide_eq_true_eq, decide_eq_false_iff_not, Bool.not_eq_true', Bool.not_eq_false', Bool.not_eq_true, Bool.not_eq_false, not_true_eq_false, not_false_eq_true, reduceCtorEq] at hg1)
        (try simp only [decide_eq_true_eq, decide_eq_false_iff_not, Bool.not_eq_true', Bool.not_eq_false', Bool.not_eq_true, Bool.not_eq_false, not_true_eq_false, not_false_eq_true, reduceCtorEq] at hg1)
        apply Wp.skip
        apply Out.seqN
        apply Wp.seq
        apply Wp.region
        refine WpL.v (V.mv) ?_
        refine WpL.o (O.st1 tb ?_)
        apply WpL.nil
        apply Out.seqN
        apply Wp.region
        refine WpL.v (V.ld1 tb) ?_
        refine WpL.v (V.add) ?_
        refine WpL.o (O.st1 tb ?_)
        apply WpL.nil
        apply Out.blockN
        exact Out.rd hK ((j : Int), pre.length + 1) (by show _ = _; rw [lastI_snoc]; simp)
      · rintro bb cc rfl
        have hgo := hV.get other
        have hHo := votes_hasI (post := []) (n := n) p25 57 hok other
        have hLn := votes_lenI (post := []) (n := n) p25 57 hok
        have hcn := vAll_cnt hV.hl hV.hh
        have hvn := hV.hn
        have hvl := hV.len
        by_cases ho : 0 ≤ other ∧ other < 7 ∧ h.getD other.toNat true = true
        · rw [if_pos ho] at hgo
          have e : (decide (0 ≤ other ∧ other < 7) && h.getD other.toNat false) = true := by
            have h3 := ho.2.2
            rw [Bool.and_eq_true, decide_eq_true_eq]
            refine ⟨⟨ho.1, ho.2.1⟩, ?_⟩
            cases hj : h[other.toNat]? with
            | none => have := hV.hh; rw [List.getElem?_eq_none_iff] at hj; omega
            | some v => simp [List.getD, hj] at h3 ⊢; exact h3
          rw [e] at hHo
          apply Out.blockN
          apply Out.seqN
          apply Wp.seq
          apply Wp.region
          refine WpL.v (V.ld1 tb) ?_
          refine WpL.v (V.mv) ?_
          refine WpL.v (Val.lookS (vf := fun n : Int => I n) hgo (KeyOk.int und3) map58 zero3 rfl rfl (by (repeat first | exact List.Mem.head _ | apply List.Mem.tail))) ?_
          refine WpL.v (V.mv) ?_
          refine WpL.v (V.ex) ?_
          refine WpL.v (V.ex) ?_
          refine WpL.v (V.as) ?_
          refine WpL.v (V.as) ?_
          apply WpL.nil
          apply Out.seqN
          apply Wp.seq
          apply Wp.region
          refine WpL.v (V.as) ?_
          apply WpL.nil
          apply Out.seqN
          apply Wp.seq
          apply Wp.seq
          apply Wp.region
          refine WpL.v (V.mv) ?_
          refine WpL.o (Op1.callT rfl (votes_allI _ rfl) (by (repeat (first | exact Sel.nil | exact Rem.here | apply Sel.cons | apply Rem.there))) ?_)
          rintro v0 s1 ⟨q95, ⟨rfl, rfl⟩⟩
          refine incat ?_
          apply WpL.nil
          apply Out.seqN
          apply Wp.block
          refine Wp.rg (votes_iter0 _) (fun _ : Unit => [cells p4 4 [B false]]) (fun _ _ => True) (fun _ _ _ => False) () trivial ?_ ?_ ?_
          · rintro pre x post bb l' rec hx
            simp at hx
          · rintro _ cc2 _
            dsimp only [List.cons_append, List.nil_append, List.append_eq]
            apply Out.blockN
            apply Out.seqN
            apply Wp.seq
            refine Wp.dG [] ?_ (List.Sublist.cons_cons _ (List.Sublist.cons _ (List.Sublist.cons _ (List.Sublist.cons_cons _ (List.Sublist.cons_cons _ (List.Sublist.cons _ (List.Sublist.cons_cons _ (List.Sublist.cons_cons _ (List.Sublist.cons _ (List.Sublist.cons _ (List.Sublist.cons_cons _ List.Sublist.slnil))))))))))) (List.Sublist.cons_cons _ (List.Sublist.cons _ (List.Sublist.cons _ (List.Sublist.cons_cons _ (List.Sublist.cons_cons _ (List.Sublist.cons _ (List.Sublist.cons_cons _ (List.Sublist.cons_cons _ (List.Sublist.cons _ (List.Sublist.cons _ (List.Sublist.cons_cons _ List.Sublist.slnil)))))))))))
            refine WpA.tF 0 rfl (V.ld1 tb) ?_
            refine WpA.tF 1 rfl (V.ld1 tb) ?_
            refine WpA.tF 2 rfl (Val.lenM map58 rfl (by (repeat first | exact List.Mem.head _ | apply List.Mem.tail))) ?_
            refine WpA.tF 3 rfl (V.cmp) ?_
            refine WpA.tF 4 rfl (V.mv) ?_
            refine WpA.pt 102 (fun hkn0 => ?_) (fun hkn0 => ?_)
            (try simp only [decide_eq_true_eq, decide_eq_false_iff_not, Bool.not_eq_true', Bool.not_eq_false', Bool.not_eq_true, Bool.not_eq_false, not_true_eq_false, not_false_eq_true, reduceCtorEq] at hkn0)
            refine WpA.tF 5 rfl (V.mv) ?_
            refine WpA.tF 7 rfl (V.ld1 tb) ?_
            refine WpA.oS 6 rfl (Op1.callT rfl (hLn) (by (repeat (first | exact Sel.nil | exact Rem.here | apply Sel.cons | apply Rem.there))) ?_)
            rintro v1 s2 ⟨rfl, rfl⟩
            refine incat ⟨?_, ?_, ?_⟩
            exact holdT
            exact holdT
            refine WpA.tF 8 rfl (V.cmp) ?_
            refine WpA.tF 9 rfl (V.pT) ?_
            refine WpA.tF 10 rfl (V.mv) ?_
            refine WpA.pt 108 (fun hkn3 => ?_) (fun hkn3 => ?_)
            (try simp only [decide_eq_true_eq, decide_eq_false_iff_not, Bool.not_eq_true', Bool.not_eq_false', Bool.not_eq_true, Bool.not_eq_false, not_true_eq_false, not_false_eq_true, reduceCtorEq] at hkn3)
            refine WpA.tF 11 rfl (V.mv) ?_
            refine WpA.tF 12 rfl (V.mv) ?_
            refine WpA.tF 14 rfl (V.mv) ?_
            refine WpA.oS 13 rfl (Op1.callT rfl (hHo) (by (repeat (first | exact Sel.nil | exact Rem.here | apply Sel.cons | apply Rem.there))) ?_)
            rintro v4 s5 ⟨rfl, rfl⟩
            refine incat ⟨?_, ?_, ?_⟩
            exact holdT
            exact holdT
            refine WpA.tF 15 rfl (V.eqB tb) ?_
            refine WpA.tF 16 rfl (V.pT) ?_
            refine WpA.tF 17 rfl (V.mv) ?_
            refine WpA.tF 18 rfl (V.mv) ?_
            refine WpA.oS 19 rfl (Op1.fn rfl (votes_put0 _ _) ⟨?_, ?_, ?_⟩)
            exact holdT
            exact holdT
            refine WpA.tF 20 rfl (V.not) ?_
            refine WpA.tF 21 rfl (V.pT) ?_
            refine WpA.tF 22 rfl (V.mv) ?_
            refine WpA.tF 23 rfl (V.mv) ?_
            refine WpA.oS 24 rfl (Op1.fn rfl (votes_len0) ⟨?_, ?_, ?_⟩)
            exact holdT
            exact holdT
            refine WpA.tF 25 rfl (V.cmp) ?_
            refine WpA.tF 26 rfl (V.pT) ?_
            refine WpA.tF 27 rfl (V.mv) ?_
            refine WpA.tF 28 rfl (V.mv) ?_
            refine WpA.oS 29 rfl (Op1.fn rfl (votes_has0 _) ⟨?_, ?_, ?_⟩)
            exact holdT
            exact holdT
            refine WpA.tF 30 rfl (V.not) ?_
            refine WpA.tF 31 rfl (V.pT) ?_
            refine WpA.oS 32 rfl (O.st1 tb ⟨?_, ?_, ?_⟩)
            exact holdT
            exact holdT
            refine WpA.ou ?_
            apply Out.seqN
            apply Wp.ret
            refine Out.f1 rfl (ResIs.c1 tb) ⟨?_, rfl⟩
            exact rfl
            (try simp only [decide_eq_true_eq, decide_eq_false_iff_not, Bool.not_eq_true', Bool.not_eq_false', Bool.not_eq_true, Bool.not_eq_false, not_true_eq_false, not_false_eq_true, reduceCtorEq] at hkn3)
            (exfalso; omega)
            (try simp only [decide_eq_true_eq, decide_eq_false_iff_not, Bool.not_eq_true', Bool.not_eq_false', Bool.not_eq_true, Bool.not_eq_false, not_true_eq_false, not_false_eq_true, reduceCtorEq] at hkn0)
            (exfalso; omega)
          · rintro _ _ _ _ _ _ _ h
            exact h.elim
        · rw [if_neg ho] at hgo
          have e : (decide (0 ≤ other ∧ other < 7) && h.getD other.toNat false) = false := by
            rw [Bool.and_eq_false_iff]
            by_cases h7 : 0 ≤ other ∧ other < 7
            · right
              cases hj : h[other.toNat]? with
              | none => simp [List.getD, hj]
              | some v => cases v with
                | false => simp [List.getD, hj]
                | true => exact absurd ⟨h7.1, h7.2, by simp [List.getD, hj]⟩ ho
            · left; exact decide_eq_false h7
          rw [e] at hHo
          apply Out.blockN
          apply Out.seqN
          apply Wp.seq
          apply Wp.region
          refine WpL.v (V.ld1 tb) ?_
          refine WpL.v (V.mv) ?_
          refine WpL.v (Val.lookN (vf := fun n : Int => I n) hgo (KeyOk.int und3) map58 zero3 rfl rfl (by (repeat first | exact List.Mem.head _ | apply List.Mem.tail))) ?_
          refine WpL.v (V.mv) ?_
          refine WpL.v (V.ex) ?_
          refine WpL.v (V.ex) ?_
          refine WpL.v (V.as) ?_
          refine WpL.v (V.as) ?_
          apply WpL.nil
          apply Out.seqN
          apply Wp.seq
          apply Wp.region
          refine WpL.v (V.as) ?_
          apply WpL.nil
          apply Out.seqN
          apply Wp.seq
          apply Wp.seq
          apply Wp.region
          refine WpL.v (V.mv) ?_
          refine WpL.o (Op1.callT rfl (votes_allI _ rfl) (by (repeat (first | exact Sel.nil | exact Rem.here | apply Sel.cons | apply Rem.there))) ?_)
          rintro v0 s1 ⟨q95, ⟨rfl, rfl⟩⟩
          refine incat ?_
          apply WpL.nil
          apply Out.seqN
          apply Wp.block
          refine Wp.rg (votes_iter0 _) (fun _ : Unit => [cells p4 4 [B false]]) (fun _ _ => True) (fun _ _ _ => False) () trivial ?_ ?_ ?_
          · rintro pre x post bb l' rec hx
            simp at hx
          · rintro _ cc2 _
            dsimp only [List.cons_append, List.nil_append, List.append_eq]
            apply Out.blockN
            apply Out.seqN
            apply Wp.seq
            refine Wp.dG [] ?_ (List.Sublist.cons_cons _ (List.Sublist.cons _ (List.Sublist.cons _ (List.Sublist.cons_cons _ (List.Sublist.cons_cons _ (List.Sublist.cons _ (List.Sublist.cons_cons _ (List.Sublist.cons_cons _ (List.Sublist.cons _ (List.Sublist.cons _ (List.Sublist.cons_cons _ List.Sublist.slnil))))))))))) (List.Sublist.cons_cons _ (List.Sublist.cons _ (List.Sublist.cons _ (List.Sublist.cons_cons _ (List.Sublist.cons_cons _ (List.Sublist.cons _ (List.Sublist.cons_cons _ (List.Sublist.cons_cons _ (List.Sublist.cons _ (List.Sublist.cons _ (List.Sublist.cons_cons _ List.Sublist.slnil)))))))))))
            refine WpA.tF 0 rfl (V.ld1 tb) ?_
            refine WpA.tF 1 rfl (V.ld1 tb) ?_
            refine WpA.tF 2 rfl (Val.lenM map58 rfl (by (repeat first | exact List.Mem.head _ | apply List.Mem.tail))) ?_
            refine WpA.tF 3 rfl (V.cmp) ?_
            refine WpA.tF 4 rfl (V.mv) ?_
            refine WpA.pt 102 (fun hmn0 => ?_) (fun hmn0 => ?_)
            (try simp only [decide_eq_true_eq, decide_eq_false_iff_not, Bool.not_eq_true', Bool.not_eq_false', Bool.not_eq_true, Bool.not_eq_false, not_true_eq_false, not_false_eq_true, reduceCtorEq] at hmn0)
            refine WpA.tF 5 rfl (V.mv) ?_
            refine WpA.tF 7 rfl (V.ld1 tb) ?_
            refine WpA.oS 6 rfl (Op1.callT rfl (hLn) (by (repeat (first | exact Sel.nil | exact Rem.here | apply Sel.cons | apply Rem.there))) ?_)
            rintro v1 s2 ⟨rfl, rfl⟩
            refine incat ⟨?_, ?_, ?_⟩
            exact holdT
            exact holdT
            refine WpA.tF 8 rfl (V.cmp) ?_
            refine WpA.tF 9 rfl (V.pT) ?_
            refine WpA.tF 10 rfl (V.mv) ?_
            refine WpA.pt 108 (fun hmn3 => ?_) (fun hmn3 => ?_)
            (try simp only [decide_eq_true_eq, decide_eq_false_iff_not, Bool.not_eq_true', Bool.not_eq_false', Bool.not_eq_true, Bool.not_eq_false, not_true_eq_false, not_false_eq_true, reduceCtorEq] at hmn3)
            refine WpA.tF 11 rfl (V.mv) ?_
            refine WpA.tF 12 rfl (V.mv) ?_
            refine WpA.tF 14 rfl (V.mv) ?_
            refine WpA.oS 13 rfl (Op1.callT rfl (hHo) (by (repeat (first | exact Sel.nil | exact Rem.here | apply Sel.cons | apply Rem.there))) ?_)
            rintro v4 s5 ⟨rfl, rfl⟩
            refine incat ⟨?_, ?_, ?_⟩
            exact holdT
            exact holdT
            refine WpA.tF 15 rfl (V.eqB tb) ?_
            refine WpA.tF 16 rfl (V.pT) ?_
            refine WpA.tF 17 rfl (V.mv) ?_
            refine WpA.tF 18 rfl (V.mv) ?_
            refine WpA.oS 19 rfl (Op1.fn rfl (votes_put0 _ _) ⟨?_, ?_, ?_⟩)
            exact holdT
            exact holdT
            refine WpA.tF 20 rfl (V.not) ?_
            refine WpA.tF 21 rfl (V.pT) ?_
            refine WpA.tF 22 rfl (V.mv) ?_
            refine WpA.tF 23 rfl (V.mv) ?_
            refine WpA.oS 24 rfl (Op1.fn rfl (votes_len0) ⟨?_, ?_, ?_⟩)
            exact holdT
            exact holdT
            refine WpA.tF 25 rfl (V.cmp) ?_
            refine WpA.tF 26 rfl (V.pT) ?_
            refine WpA.tF 27 rfl (V.mv) ?_
            refine WpA.tF 28 rfl (V.mv) ?_
            refine WpA.oS 29 rfl (Op1.fn rfl (votes_has0 _) ⟨?_, ?_, ?_⟩)
            exact holdT
            exact holdT
            refine WpA.tF 30 rfl (V.not) ?_
            refine WpA.tF 31 rfl (V.pT) ?_
            refine WpA.oS 32 rfl (O.st1 tb ⟨?_, ?_, ?_⟩)
            exact holdT
            exact holdT
            refine WpA.ou ?_
            apply Out.seqN
            apply Wp.ret
            refine Out.f1 rfl (ResIs.c1 tb) ⟨?_, rfl⟩
            exact rfl
            (try simp only [decide_eq_true_eq, decide_eq_false_iff_not, Bool.not_eq_true', Bool.not_eq_false', Bool.not_eq_true, Bool.not_eq_false, not_true_eq_false, not_false_eq_true, reduceCtorEq] at hmn3)
            (exfalso; omega)
            (try simp only [decide_eq_true_eq, decide_eq_false_iff_not, Bool.not_eq_true', Bool.not_eq_false', Bool.not_eq_true, Bool.not_eq_false, not_true_eq_false, not_false_eq_true, reduceCtorEq] at hmn0)
            (exfalso; omega)
          · rintro _ _ _ _ _ _ _ h
            exact h.elim
      · rintro _ _ _ _ _ _ _ h
        exact h.elim
  · refine Ct.enter Try.func8 rfl rfl fun W => ?_
    apply Wp.seq
    apply Wp.region
    refine WpL.o (O.al tb (fun p4 => ?_))
    apply WpL.nil
    apply Out.seqN
    apply Wp.seq
    apply Wp.seq
    apply Wp.region
    refine WpL.o (Op1.fn rfl (alive14) ?_)
    refine WpL.v (V.not) ?_
    apply WpL.nil
    apply Out.seqN
    refine Wp.cF ?_
    apply Wp.skip
    apply Out.seqN
    apply Wp.seq
    apply Wp.seq
    apply Wp.region
    refine WpL.v (V.mv) ?_
    refine WpL.v (V.lenL tb) ?_
    refine WpL.v (V.cmp) ?_
    apply WpL.nil
    apply Out.seqN
    refine Wp.c (fun he0 => ?_) (fun he0 => ?_)
    (try simp only [decide_eq_true_eq, decide_eq_false_iff_not, Bool.not_eq_true', Bool.not_eq_false', Bool.not_eq_true, Bool.not_eq_false, not_true_eq_false, not_false_eq_true, reduceCtorEq] at he0)
    apply Wp.seq
    apply Wp.region
    refine WpL.o (O.st1 tb ?_)
    apply WpL.nil
    apply Out.seqN
    apply Wp.ret
    apply Out.seqR
    refine Out.f1 rfl (ResIs.c1 tb) ⟨?_, rfl⟩
    exact rfl
    (try simp only [decide_eq_true_eq, decide_eq_false_iff_not, Bool.not_eq_true', Bool.not_eq_false', Bool.not_eq_true, Bool.not_eq_false, not_true_eq_false, not_false_eq_true, reduceCtorEq] at he0)
    (exfalso; omega)
open Go Go.ChangeShapes Go.WideShapes Go.ChangeAt Go.RowKit
theorem leadVotes_read : (Try.f8.params.toList.all fun t => Try.prog.readableRec t && decide (t < Try.prog.types.size)) = true := by kernel_rfl
theorem leadVotes_lifted (os : Go.Os) (started : os.Started) (H : Type) (enc : Go.TypeId × Go.Value → H) :
    ReturnsInHanded {} Try.checked os 8 .any (Rows.leadVotesSpec.pre6 enc Try.prog Try.f8 Rows.leadVotesRow.domain false) (Rows.leadVotesSpec.post enc Try.prog Try.f8 false true false false) := by
  refine returnsInHanded_of_change_sized (C := Try.checked) own started (by kernel_rfl) Try.func8
    (ChangeSpec.witness6 (enc := enc) (C := Try.checked) false ⟨#[], #[.slice none 0 0, I 0], []⟩ 8 (by kernel_rfl) (by kernel_rfl) (by kernel_rfl) (by kernel_rfl)) ?_
  intro W base args ds gs before hval0 hW hcnd hsz0 _
  have hsz : (DataW.weightsEach Try.prog (Try.f8.params.toList ++ Rows.leadVotesSpec.plain.varTypes Try.prog) (ds ++ gs)).all (· ≤ reachBytes) = true := hsz0
  have hval : ∀ (j : Nat) t v, Try.f8.params[j]? = some t → args[j]? = some v → Value.okWide Try.prog W .any base t v := hval0
  have hW' := hW
  obtain ⟨p, q, hA0, hV, rfl, hfz, hnd⟩ := hW
  have hA1 : DataW.TrodAll enc Try.prog W 0 (fun _ => true) true Try.f8.params.toList args.toList ds p := hA0
  have hA := hA1
  rw [Try.params8] at hA hval hsz
  obtain ⟨v0, vs0, d0, ds0, p0, q0, hargs, rfl, rfl, h0, r0⟩ := trodAll_cons hA
  obtain ⟨v1, vs1, d1, ds1, p1, q1, rfl, rfl, rfl, h1, r1⟩ := trodAll_cons r0
  obtain ⟨rfl, rfl, rfl⟩ := trodAll_nil r1
  obtain rfl : args = #[v0, v1] := by cases args; simp_all
  obtain ⟨rfl, rfl⟩ := trodVars_none hV
  obtain ⟨ao0, b0, off0, len0, cap0, xs0, rfl, hl0, hlc0, hcm0, ha0, hs0, hf0, hby0⟩ := open_slice_plain Try.underlying53 Caucuslaw14Vote.leaves (by kernel_rfl) (by decide) (hval 0 53 v0 rfl rfl) h0 (sizedAll hsz 0 rfl rfl)
  obtain ⟨x0, rfl, w0⟩ := fits_map Caucuslaw14Vote.c Caucuslaw14Vote.wf hf0 Caucuslaw14Vote.fit
  obtain rfl : len0 = x0.length := by simpa using hl0.symm
  obtain ⟨x1, rfl, rfl, rfl, w1⟩ := open_int Try.underlying3 (hval 1 3 v1 rfl rfl) h1
  simp only [List.append_nil] at hW' hA1
  have hbl : ∀ p : Nat × Nat, p ∈ [(x0.length, b0)] → 0 < p.1 → p.2 < W.heap.size := by
    intro p hp h0
    simp only [List.mem_cons, List.mem_nil_iff, or_false] at hp
    rcases hp with rfl
    · exact (ha0 h0).2
  have hR0 : Rd (snap W (blocksOf [(x0.length, b0)])) ao0 x0.length b0 off0 2 (x0.map Caucuslaw14Vote.c) := Rd.snap (by simp) (Nat.le_trans hlc0 hcm0) ha0 hs0 (fun h => blocksOf_mem (len := x0.length) (by simp) h)
  refine (Ct.runSnap (blocksOf_nodup _) (blocksOf_lt hbl) (leadVotes_walk _ _ _ _ _ x0 x1 hR0)).mono fun e W' hh => ?_
  obtain ⟨rfl, hS⟩ := hh
  exact ⟨_, rfl, post_law (P := Try.prog) (f := Try.f8) (tbool := 4) hW' hA1 rfl rfl hS laid leadVotes_read rfl Try.underlying4⟩
theorem leadVotes_joined : joinedFacts Try.prog 8 Try.f8 Rows.leadVotesSpec Rows.leadVotesRow = true := by
  unfold joinedFacts
  rewrite [head_enter, head_lift, head_make]
  kernel_rfl
theorem leadVotes_over : Rows.leadVotesRow.holds Try.pinned (OpenSpec.ofChange Rows.leadVotesSpec) :=
  OpenClaim.holds_of_wide 8 Try.f8 rfl rfl rfl rfl rfl rfl rfl ⟨rfl, rfl, rfl, rfl, rfl⟩ rfl rfl rfl rfl rfl (by kernel_rfl) Try.func8 leadVotes_joined
    (of_decide_eq_true (by kernel_rfl)) (by unfold Func.isWrapper; first | (rw [if_pos (by decide +kernel)]; kernel_rfl) | (rw [if_neg (by decide +kernel)]; exact ⟨rfl, rfl⟩))
    (fun os started H enc _ => leadVotes_lifted os started H enc)
/-- THE STATEMENT. -/
theorem leadVotes_proved : Rows.LeadVotesSaid := leadVotes_over
#print axioms leadVotes_proved

end Go.Proofs.Ythoepbbpmdmfeaa
