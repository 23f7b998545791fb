/-
  Layer 14: what a lead's quorums are: laws.
-/
import Derived.Test.YthoepbbpmdmfeaaLead8
namespace Go.Proofs.Ythoepbbpmdmfeaa
open Go.HL
set_option linter.unusedSimpArgs false
set_option linter.unusedVariables false
set_option maxRecDepth 8000
def Own (c : Caucuslaw14Case) (m : TMsg) : Prop := m.Item = c.Item ∧ m.To = c.Self ∧ m.Ballot = c.Ballot ∧ 0 ≤ m.From ∧ m.From < c.N
def G1 (c : Caucuslaw14Case) (x : LeadS) (m : TMsg) : Prop := Own c m ∧ x.phase = 1 ∧ m.Kind = 2 ∧ x.ph.getD m.From.toNat true = false
def G2 (c : Caucuslaw14Case) (x : LeadS) (m : TMsg) : Prop := Own c m ∧ x.phase = 2 ∧ m.Kind = 4
def rj (r : TCall) (m : TMsg) : TCall := { r with Deps := joins [r.Deps, m.Call.Deps] }
structure QI (c : Caucuslaw14Case) (x : LeadS) (sames : List Bool) (reach : TCall) : Prop where
  sl : sames.length = 7
  sv : ∀ (r : Nat) (m : TMsg), x.ph[r]? = some true → x.pl[r]? = some m → sames[r]? = some m.Same
  s0 : ∀ r : Nat, x.ph[r]? = some false → sames[r]? = some false
  ms : ∃ ms : List TMsg, ((vAll x.pl x.ph).map (·.2)).Perm ms ∧ reach = ms.foldl rj c.Call ∧ x.pn = (ms.length : Int)
  cl : x.phase = 1 → x.call = c.Call
structure Tr (x y : LeadS) (moved : Bool) : Prop where
  mv : moved = !decide (y.phase = x.phase)
  t3 : x.phase = 1 → y.phase = 3 → x.ballot = ⟨0, x.item.Rep⟩ ∧ 2 * faults x.n ≤ (sameN (vAll y.pl y.ph) : Int) ∧ y.call = x.call
  t2 : x.phase = 1 → y.phase = 2 → faults x.n + 1 ≤ y.pn ∧ y.call = ((vAll y.pl y.ph).map (·.2)).foldl (fun c m => mrg c m.Call) x.call
  t4 : x.phase = 2 → y.phase = 3 → faults x.n + 1 ≤ y.om
  c1 : y.phase = 1 → x.phase = 1 ∧ y.call = x.call
theorem Tr.same (x : LeadS) : Tr x x false :=
  ⟨by simp, fun a b => by omega, fun a b => by omega, fun a b => by omega, fun a => ⟨a, rfl⟩⟩
theorem slow_fold (x : LeadS) : x.slow.call = ((vAll x.pl x.ph).map (·.2)).foldl (fun c m => mrg c m.Call) x.call := slow_call (List.Perm.refl _)
theorem hear_tr {x : LeadS} {n sf : Int} {it : TItem} {bb : TBallot} (k : Keeps x n sf it bb) (m : TMsg) (hk : m.Kind ≠ 5) : Tr x (x.hear m).1 (x.hear m).2 := by
  unfold LeadS.hear
  split
  · exact Tr.same x
  rename_i hA
  split
  · exact ⟨by show true = !decide ((4 : Int) = x.phase); simp; omega, fun a (b : (4 : Int) = 3) => by omega, fun a (b : (4 : Int) = 2) => by omega, fun a (b : (4 : Int) = 3) => by omega, fun (a : (4 : Int) = 1) => by omega⟩
  split
  · exact Tr.same x
  split
  · rename_i h1
    unfold LeadS.hear1
    split
    · split
      · rename_i hf
        refine ⟨by show true = !decide ((3 : Int) = x.phase); simp; omega, fun a b => ⟨?_, hf.2, rfl⟩, fun a (b : (3 : Int) = 2) => by omega, fun a b => by omega, fun (a : (3 : Int) = 1) => by omega⟩
        have := hf.1
        unfold LeadS.isFast at this
        exact of_decide_eq_true this
      · split
        · exact ⟨by show false = !decide (x.phase = x.phase); simp, fun a (b : x.phase = 3) => by omega, fun a (b : x.phase = 2) => by omega, fun a (b : x.phase = 3) => by omega, fun (a : x.phase = 1) => ⟨a, rfl⟩⟩
        · rename_i hq
          split
          · exact ⟨by show true = !decide ((2 : Int) = x.phase); simp; omega, fun a (b : (2 : Int) = 3) => by omega, fun a b => ⟨by show faults x.n + 1 ≤ x.pn + 1; omega, slow_fold _⟩, fun a (b : (2 : Int) = 3) => by omega, fun (a : (2 : Int) = 1) => by omega⟩
          · exact ⟨by show false = !decide (x.phase = x.phase); simp, fun a (b : x.phase = 3) => by omega, fun a (b : x.phase = 2) => by omega, fun a (b : x.phase = 3) => by omega, fun (a : x.phase = 1) => ⟨a, rfl⟩⟩
    · exact Tr.same x
  split
  · rename_i h1
    split
    · split
      · rename_i hq
        exact ⟨by show true = !decide ((3 : Int) = x.phase); simp; omega, fun a b => by omega, fun a b => by omega, fun a b => by show faults x.n + 1 ≤ x.om + 1; omega, fun (a : (3 : Int) = 1) => by omega⟩
      · exact ⟨by show false = !decide (x.phase = x.phase); simp, fun a (b : x.phase = 3) => by omega, fun a (b : x.phase = 2) => by omega, fun a (b : x.phase = 3) => by omega, fun (a : x.phase = 1) => by omega⟩
    · exact Tr.same x
  · exact Tr.same x
theorem late_tr (x : LeadS) : Tr x x.late.1 x.late.2 := by
  unfold LeadS.late
  split
  · rename_i h
    exact ⟨by show true = !decide ((2 : Int) = x.phase); simp; omega, fun a (b : (2 : Int) = 3) => by omega, fun a b => ⟨h.2, slow_fold _⟩, fun a (b : (2 : Int) = 3) => by omega, fun (a : (2 : Int) = 1) => by omega⟩
  · exact Tr.same x
theorem late_same (x : LeadS) : x.late.1.ph = x.ph ∧ x.late.1.pl = x.pl ∧ x.late.1.oh = x.oh ∧ x.late.1.pn = x.pn := by
  unfold LeadS.late
  split
  · exact ⟨rfl, rfl, rfl, rfl⟩
  · exact ⟨rfl, rfl, rfl, rfl⟩
theorem hear_q {x : LeadS} {c : Caucuslaw14Case} (k : Keeps x c.N c.Self c.Item c.Ballot) (hN : c.N ≤ 7) (m : TMsg) (hk : m.Kind ≠ 5) :
    (G1 c x m → (x.hear m).1.ph = x.ph.set m.From.toNat true ∧ (x.hear m).1.pl = x.pl.set m.From.toNat m ∧ (x.hear m).1.pn = x.pn + 1) ∧
    (¬ G1 c x m → (x.hear m).1.ph = x.ph ∧ (x.hear m).1.pl = x.pl ∧ (x.hear m).1.pn = x.pn) ∧
    (G2 c x m → (x.hear m).1.oh = x.oh.set m.From.toNat true) ∧ (¬ G2 c x m → (x.hear m).1.oh = x.oh) := by
  have e1 := k.n; have e2 := k.self; have e3 := k.item; have e4 := k.ballot
  have wo := k.wf.oh
  unfold LeadS.hear G1 G2 Own
  split
  · rename_i hA
    refine ⟨?_, fun _ => ⟨rfl, rfl, rfl⟩, ?_, fun _ => rfl⟩
    · rintro ⟨⟨a1, a2, a3, a4, a5⟩, b, _⟩
      exfalso
      rcases hA with h | h | h | h | h
      · omega
      · exact h (a1.trans e3.symm)
      · exact h (a2.trans e2.symm)
      · omega
      · omega
    · rintro ⟨⟨a1, a2, a3, a4, a5⟩, b, _⟩
      exfalso
      rcases hA with h | h | h | h | h
      · omega
      · exact h (a1.trans e3.symm)
      · exact h (a2.trans e2.symm)
      · omega
      · omega
  rename_i hA
  have hfr : 0 ≤ m.From ∧ m.From < x.n := ⟨by
    have : ¬ m.From < 0 := fun g => hA (.inr (.inr (.inr (.inl g)))); omega, by
    have : ¬ x.n ≤ m.From := fun g => hA (.inr (.inr (.inr (.inr g)))); omega⟩
  have hit : m.Item = c.Item := by rw [← e3]; exact Decidable.of_not_not fun g => hA (.inr (.inl g))
  have hto : m.To = c.Self := by rw [← e2]; exact Decidable.of_not_not fun g => hA (.inr (.inr (.inl g)))
  split
  · rename_i h8
    exact ⟨fun g => by have := g.2.2.1; omega, fun _ => ⟨rfl, rfl, rfl⟩, fun g => by have := g.2.2; omega, fun _ => rfl⟩
  split
  · rename_i hb
    exact ⟨fun g => absurd (g.1.2.2.1.trans e4.symm) hb, fun _ => ⟨rfl, rfl, rfl⟩, fun g => absurd (g.1.2.2.1.trans e4.symm) hb, fun _ => rfl⟩
  rename_i hb
  have hbl : m.Ballot = c.Ballot := by rw [← e4]; exact Decidable.of_not_not hb
  have hown : m.Item = c.Item ∧ m.To = c.Self ∧ m.Ballot = c.Ballot ∧ 0 ≤ m.From ∧ m.From < c.N := ⟨hit, hto, hbl, hfr.1, by omega⟩
  split
  · rename_i h1
    unfold LeadS.hear1
    split
    · rename_i hc
      have hcc := LeadS.can_iff.1 hc
      have hg : (m.Item = c.Item ∧ m.To = c.Self ∧ m.Ballot = c.Ballot ∧ 0 ≤ m.From ∧ m.From < c.N) ∧ x.phase = 1 ∧ m.Kind = 2 ∧ x.ph.getD m.From.toNat true = false := ⟨hown, h1.2, h1.1, hcc.2.2⟩
      refine ⟨fun _ => ?_, fun g => absurd hg g, fun g => by have := g.2.1; omega, fun _ => ?_⟩
      · split
        · exact ⟨rfl, rfl, rfl⟩
        · split
          · exact ⟨rfl, rfl, rfl⟩
          · split
            · exact ⟨rfl, rfl, rfl⟩
            · exact ⟨rfl, rfl, rfl⟩
      · split
        · rfl
        · split
          · rfl
          · split
            · rfl
            · rfl
    · rename_i hc
      exact ⟨fun g => absurd (LeadS.can_iff.2 ⟨hfr.1, by omega, g.2.2.2⟩) hc, fun _ => ⟨rfl, rfl, rfl⟩, fun g => by have := g.2.1; omega, fun _ => rfl⟩
  rename_i hn1
  split
  · rename_i h1
    refine ⟨fun g => by have := g.2.1; omega, fun _ => ?_, fun g => ?_, fun g => absurd ⟨hown, h1.2, h1.1⟩ g⟩
    · split
      · split
        · exact ⟨rfl, rfl, rfl⟩
        · exact ⟨rfl, rfl, rfl⟩
      · exact ⟨rfl, rfl, rfl⟩
    · split
      · split
        · rfl
        · rfl
      · rename_i hc
        have : x.oh[m.From.toNat]? = some true := by
          obtain ⟨v, hv⟩ := getS (xs := x.oh) (k := m.From.toNat) (by rw [wo]; omega)
          cases v with
          | true => exact hv
          | false => exact absurd (LeadS.canO_iff.2 ⟨hfr.1, by omega, by rw [List.getD, hv]; rfl⟩) hc
        show x.oh = _
        apply List.ext_getElem?
        intro j
        rw [List.getElem?_set]
        by_cases hj : m.From.toNat = j
        · subst hj; rw [if_pos rfl, this, if_pos (by rw [wo]; omega)]
        · rw [if_neg hj]
  · rename_i hn2
    exact ⟨fun g => absurd ⟨g.2.2.1, g.2.1⟩ hn1, fun _ => ⟨rfl, rfl, rfl⟩, fun g => absurd ⟨g.2.2, g.2.1⟩ hn2, fun _ => rfl⟩
theorem QI.new (c : Caucuslaw14Case) : QI c (newC c) (List.replicate 7 false) c.Call :=
  ⟨rfl, fun r m h _ => by
    have : (List.replicate 7 false)[r]? = some true := h
    rw [List.getElem?_replicate] at this
    split at this <;> simp at this, fun r h => h, ⟨[], by
    show ((vAll (newC c).pl (List.replicate 7 false)).map (·.2)).Perm []
    have : vAll (newC c).pl (List.replicate 7 false) = [] := rfl
    rw [this]; exact List.Perm.refl _, rfl, rfl⟩, fun _ => rfl⟩
theorem QI.keep {c : Caucuslaw14Case} {x y : LeadS} {ss : List Bool} {re : TCall} {mv : Bool} (q : QI c x ss re) (t : Tr x y mv) (h : y.ph = x.ph ∧ y.pl = x.pl ∧ y.pn = x.pn) : QI c y ss re := by
  obtain ⟨h1, h2, h3⟩ := h
  refine ⟨q.sl, by rw [h1, h2]; exact q.sv, by rw [h1]; exact q.s0, by rw [h1, h2, h3]; exact q.ms, fun hp => ?_⟩
  obtain ⟨a, b⟩ := t.c1 hp
  rw [b, q.cl a]
theorem QI.put {c : Caucuslaw14Case} {x y : LeadS} {ss : List Bool} {re : TCall} {mv : Bool} {m : TMsg} (q : QI c x ss re) (w : x.wf) (hN : c.N ≤ 7) (t : Tr x y mv) (g : G1 c x m) (h : y.ph = x.ph.set m.From.toNat true ∧ y.pl = x.pl.set m.From.toNat m ∧ y.pn = x.pn + 1) :
    QI c y (ss.set m.From.toNat m.Same) (rj re m) := by
  obtain ⟨h1, h2, h3⟩ := h
  have hf : m.From.toNat < 7 := by have := g.1.2.2.2; omega
  have hc : x.can m.From = true := LeadS.can_iff.2 ⟨g.1.2.2.2.1, by have := g.1.2.2.2; omega, g.2.2.2⟩
  refine ⟨by rw [List.length_set, q.sl], fun r z hr hz => ?_, fun r hr => ?_, ?_, fun hp => ?_⟩
  · rw [h1, List.getElem?_set] at hr
    rw [h2, List.getElem?_set] at hz
    rw [List.getElem?_set]
    by_cases e : m.From.toNat = r
    · rw [if_pos e, if_pos (by rw [w.pl]; exact hf)] at hz
      rw [if_pos e, if_pos (by rw [q.sl]; exact hf)]
      simp only [Option.some.injEq] at hz
      rw [hz]
    · rw [if_neg e] at hr hz ⊢
      exact q.sv r z hr hz
  · rw [h1, List.getElem?_set] at hr
    rw [List.getElem?_set]
    by_cases e : m.From.toNat = r
    · rw [if_pos e, if_pos (by rw [w.ph]; exact hf)] at hr; simp at hr
    · rw [if_neg e] at hr ⊢
      exact q.s0 r hr
  · obtain ⟨ms, p1, p2, p3⟩ := q.ms
    refine ⟨ms ++ [m], ?_, ?_, ?_⟩
    · rw [h1, h2]; exact put_perm w hc m p1
    · rw [List.foldl_append, ← p2]; rfl
    · rw [h3, p3]; simp
  · obtain ⟨a, b⟩ := t.c1 hp
    rw [b, q.cl a]
theorem same_upto {x : LeadS} (w : x.wf) {ss : List Bool} {c : Caucuslaw14Case} {re : TCall} (q : QI c x ss re) : ∀ k : Nat, k ≤ 7 → (ss.take k).count true = sameN (vUpto x.pl x.ph k)
  | 0, _ => rfl
  | k + 1, hk => by
    have ih := same_upto w q k (by omega)
    obtain ⟨b, hb⟩ := getS (xs := x.ph) (k := k) (by rw [w.ph]; omega)
    obtain ⟨m, hm⟩ := getS (xs := x.pl) (k := k) (by rw [w.pl]; omega)
    rw [vUpto_succ]
    cases b with
    | false =>
      have hs := q.s0 k hb
      rw [take_snocS hs, List.count_append, ih]
      have : vAt x.pl x.ph k = none := by unfold vAt; rw [List.getD, hb]; rfl
      rw [this]; simp
    | true =>
      have hs := q.sv k m hb hm
      rw [take_snocS hs, List.count_append, ih]
      have : vAt x.pl x.ph k = some (k, m) := by unfold vAt; rw [List.getD, hb, hm]; rfl
      rw [this]
      show _ = sameN (_ ++ [(k, m)])
      rw [sameN_snoc]
      cases hms : m.Same <;> simp
theorem same_count {x : LeadS} (w : x.wf) {ss : List Bool} {c : Caucuslaw14Case} {re : TCall} (q : QI c x ss re) : ss.count true = sameN (vAll x.pl x.ph) := by
  have := same_upto w q 7 (Nat.le_refl _)
  rwa [List.take_of_length_le (by rw [q.sl]; exact Nat.le_refl _)] at this
theorem joins_idem (a b : TDeps) : joins [joins [a, b], joins [a, b]] = joins [a, b] := by
  unfold joins mx
  simp only [List.foldl_cons, List.foldl_nil, TDeps.mk.injEq]
  simp only [TDeps.z]
  omega
theorem rj_deps : ∀ (ms : List TMsg) (a b : TCall), a.Deps = b.Deps → (ms.foldl rj a).Deps = (ms.foldl (fun c m => mrg c m.Call) b).Deps
  | [], _, _, h => h
  | m :: ms, a, b, h => rj_deps ms (rj a m) (mrg b m.Call) (by rw [mrg_eq]; show joins [a.Deps, m.Call.Deps] = joins [b.Deps, m.Call.Deps]; rw [h])
theorem rj_form : ∀ (ms : List TMsg) (a : TCall), ms ≠ [] → ∃ p q, (ms.foldl rj a).Deps = joins [p, q]
  | [], _, h => absurd rfl h
  | [m], a, _ => ⟨a.Deps, m.Call.Deps, rfl⟩
  | m :: m2 :: ms, a, _ => rj_form (m2 :: ms) _ (by simp)
theorem QI.reach {c : Caucuslaw14Case} {x y : LeadS} {ss : List Bool} {re : TCall} {mv : Bool} (hp : x.phase = 1) (hp2 : y.phase = 2) (q0 : x.call = c.Call) (q : QI c y ss re) (t : Tr x y mv) (hn : 1 ≤ y.pn) :
    joins [re.Deps, y.call.Deps] = y.call.Deps := by
  obtain ⟨ms, p1, p2, p3⟩ := q.ms
  have h2 := (t.t2 hp hp2).2
  have h3 : y.call = ms.foldl (fun c m => mrg c m.Call) x.call := by
    rw [h2]
    rw [← foldl_perm (fun b x y => mrg_rc b x.Call y.Call) p1]
  have h5 : (ms.foldl rj c.Call).Deps = (ms.foldl (fun c m => mrg c m.Call) c.Call).Deps := rj_deps ms c.Call c.Call rfl
  clear t h2
  have h4 : y.call.Deps = re.Deps := by rw [h3, q0, p2, h5]
  clear h3 h5
  rw [h4]
  obtain ⟨u, v, huv⟩ := rj_form ms c.Call (by rintro rfl; simp at p3; omega)
  rw [p2, huv, joins_idem]
end Go.Proofs.Ythoepbbpmdmfeaa
