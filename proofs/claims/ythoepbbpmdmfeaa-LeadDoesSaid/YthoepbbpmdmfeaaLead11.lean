/-
  Layer 14: the library's lead and the document's.
-/
import Derived.Test.YthoepbbpmdmfeaaLead10
namespace Go.Proofs.Ythoepbbpmdmfeaa
open Go.HL
set_option linter.unusedSimpArgs false
set_option linter.unusedVariables false
set_option maxRecDepth 8000
structure Rel (x : LeadS) (y : RS) : Prop where
  wf : x.wf
  n : x.n = y.n
  sf : x.self = y.self
  item : x.item = y.item
  ballot : x.ballot = y.ballot
  call : x.call = y.call
  phase : x.phase = y.phase
  perm : ((vAll x.pl x.ph).map (·.2)).Perm y.pres
  has : ∀ r : Nat, r < 7 → x.ph[r]? = some (decide (∃ z ∈ y.pres, z.From = (r : Int)))
  pn : x.pn = (y.pres.length : Int)
  hasO : ∀ r : Nat, r < 7 → x.oh[r]? = some (decide ((r : Int) ∈ y.oks))
  om : x.om = (y.oks.length : Int)
theorem Rel.can {x : LeadS} {y : RS} (h : Rel x y) {f : Int} (hf : 0 ≤ f ∧ f < 7) : x.can f = true ↔ ¬ ∃ z ∈ y.pres, z.From = f := by
  have h1 := h.has f.toNat (by omega)
  rw [show ((f.toNat : Nat) : Int) = f by omega] at h1
  rw [LeadS.can_iff, List.getD, h1]
  simp only [Option.getD_some, decide_eq_false_iff_not]
  exact ⟨fun g => g.2.2, fun g => ⟨hf.1, hf.2, g⟩⟩
theorem Rel.canO {x : LeadS} {y : RS} (h : Rel x y) {f : Int} (hf : 0 ≤ f ∧ f < 7) : x.canO f = true ↔ f ∉ y.oks := by
  have h1 := h.hasO f.toNat (by omega)
  rw [show ((f.toNat : Nat) : Int) = f by omega] at h1
  rw [LeadS.canO_iff, List.getD, h1]
  simp only [Option.getD_some, decide_eq_false_iff_not]
  exact ⟨fun g => g.2.2, fun g => ⟨hf.1, hf.2, g⟩⟩
theorem Rel.slow {x : LeadS} {y : RS} (h : Rel x y) : Rel x.slow y.slow :=
  ⟨LeadS.slow_wf h.wf, h.n, h.sf, h.item, h.ballot, by rw [slow_call h.perm, h.call]; rfl, rfl, h.perm, h.has, h.pn, h.hasO, h.om⟩
theorem Rel.ph {x : LeadS} {y : RS} (h : Rel x y) (p : Int) : Rel { x with phase := p } { y with phase := p } :=
  ⟨h.wf.phase p, h.n, h.sf, h.item, h.ballot, h.call, rfl, h.perm, h.has, h.pn, h.hasO, h.om⟩
theorem Rel.put {x : LeadS} {y : RS} (h : Rel x y) {m : TMsg} (hf : 0 ≤ m.From ∧ m.From < 7) (hc : x.can m.From = true) : Rel (x.put m.From m) (y.put m) := by
  refine ⟨h.wf.put hc m, h.n, h.sf, h.item, h.ballot, h.call, h.phase, put_perm h.wf hc m h.perm, fun r hr => ?_, ?_, h.hasO, h.om⟩
  · show (x.ph.set m.From.toNat true)[r]? = some (decide (∃ z ∈ y.pres ++ [m], z.From = (r : Int)))
    rw [List.getElem?_set]
    by_cases hrm : m.From.toNat = r
    · rw [if_pos hrm, if_pos (by rw [h.wf.ph]; omega), Option.some.injEq, eq_comm, decide_eq_true_eq]
      exact ⟨m, by simp, by omega⟩
    · rw [if_neg hrm, h.has r hr, Option.some.injEq, decide_eq_decide]
      constructor
      · rintro ⟨z, hz, hzf⟩; exact ⟨z, by simp [hz], hzf⟩
      · rintro ⟨z, hz, hzf⟩
        rcases List.mem_append.1 hz with hz | hz
        · exact ⟨z, hz, hzf⟩
        · simp only [List.mem_singleton] at hz; subst hz; omega
  · show x.pn + 1 = ((y.pres ++ [m]).length : Int)
    rw [h.pn]; simp
theorem Rel.fast {x : LeadS} {y : RS} (h : Rel x y) : x.isFast = y.isFast := by
  unfold LeadS.isFast RS.isFast
  rw [h.ballot, h.item, Bool.eq_iff_iff, Bool.and_eq_true, decide_eq_true_eq, decide_eq_true_eq, decide_eq_true_eq, bEq_iff]
theorem Rel.hear1 {x : LeadS} {y : RS} (h : Rel x y) {m : TMsg} (hf : 0 ≤ m.From ∧ m.From < 7) : Rel (x.hear1 m).1 (y.hear1 m).1 ∧ (x.hear1 m).2 = (y.hear1 m).2 := by
  unfold LeadS.hear1 RS.hear1
  by_cases hc : x.can m.From = true
  · have hp := h.put hf hc
    rw [if_pos hc, if_neg ((h.can hf).1 hc), same_perm hp.perm, show (x.put m.From m).isFast = y.isFast from h.fast, h.n, h.pn]
    have hl : ((y.put m).pres.length : Int) = (y.pres.length : Int) + 1 := by show ((y.pres ++ [m]).length : Int) = _; simp
    rw [hl]
    generalize ((y.put m).pres.filter (·.Same)).length = s
    split
    · exact ⟨hp.ph 3, rfl⟩
    · by_cases h2 : (y.pres.length : Int) + 1 < faults y.n + 1
      · rw [if_pos h2, if_neg (by omega)]; exact ⟨hp, rfl⟩
      · rw [if_neg h2]
        split
        · rename_i h3
          rw [if_pos ⟨by omega, h3⟩]; exact ⟨hp.slow, rfl⟩
        · rename_i h3
          rw [if_neg (fun g => h3 g.2)]; exact ⟨hp, rfl⟩
  · rw [if_neg hc, if_pos (Decidable.of_not_not fun g => hc ((h.can hf).2 g))]
    exact ⟨h, rfl⟩
theorem Rel.late {x : LeadS} {y : RS} (h : Rel x y) : Rel x.late.1 y.late.1 ∧ x.late.2 = y.late.2 := by
  unfold LeadS.late RS.late
  rw [h.phase, h.n, h.pn]
  split
  · exact ⟨h.slow, rfl⟩
  · exact ⟨h, rfl⟩
theorem Rel.putO {x : LeadS} {y : RS} (h : Rel x y) {f : Int} (hf : 0 ≤ f ∧ f < 7) (hc : x.canO f = true) : Rel (x.putO f) { y with oks := y.oks ++ [f] } := by
  refine ⟨h.wf.putO hc, h.n, h.sf, h.item, h.ballot, h.call, h.phase, h.perm, h.has, h.pn, fun r hr => ?_, ?_⟩
  · show (x.oh.set f.toNat true)[r]? = some (decide ((r : Int) ∈ y.oks ++ [f]))
    rw [List.getElem?_set]
    by_cases hrm : f.toNat = r
    · rw [if_pos hrm, if_pos (by rw [h.wf.oh]; omega), Option.some.injEq, eq_comm, decide_eq_true_eq, show (r : Int) = f by omega]
      simp
    · rw [if_neg hrm, h.hasO r hr, Option.some.injEq, decide_eq_decide, List.mem_append, List.mem_singleton]
      exact ⟨.inl, fun g => g.resolve_right (by omega)⟩
  · show x.om + 1 = ((y.oks ++ [f]).length : Int)
    rw [h.om]; simp
theorem Rel.hear {x : LeadS} {y : RS} (h : Rel x y) (hN : y.n ≤ 7) (m : TMsg) : Rel (x.hear m).1 (y.hear m).1 ∧ (x.hear m).2 = (y.hear m).2 := by
  obtain ⟨n, sf, it, bb, cl, p, pl, ph, pn, ol, oh, om⟩ := x
  obtain ⟨n', sf', it', bb', cl', p', pres, oks⟩ := y
  obtain rfl : n = n' := h.n
  obtain rfl : sf = sf' := h.sf
  obtain rfl : it = it' := h.item
  obtain rfl : bb = bb' := h.ballot
  obtain rfl : cl = cl' := h.call
  obtain rfl : p = p' := h.phase
  unfold LeadS.hear RS.hear
  dsimp only at hN ⊢
  split
  · exact ⟨h, rfl⟩
  rename_i h0
  have hf : 0 ≤ m.From ∧ m.From < 7 := ⟨by
    have : ¬ m.From < 0 := fun g => h0 (.inr (.inr (.inr (.inl g)))); omega, by
    have : ¬ n ≤ m.From := fun g => h0 (.inr (.inr (.inr (.inr g)))); omega⟩
  split
  · exact ⟨⟨(h.wf.call m.Call).phase 3, h.n, h.sf, h.item, h.ballot, rfl, rfl, h.perm, h.has, h.pn, h.hasO, h.om⟩, rfl⟩
  split
  · exact ⟨h.ph 4, rfl⟩
  split
  · exact ⟨h, rfl⟩
  split
  · exact h.hear1 hf
  split
  · by_cases hc : LeadS.canO ⟨n, sf, it, bb, cl, p, pl, ph, pn, ol, oh, om⟩ m.From = true
    · have hom : om = (oks.length : Int) := h.om
      rw [if_pos hc, if_neg ((h.canO hf).1 hc)]
      have hl : ((oks ++ [m.From]).length : Int) = om + 1 := by rw [hom]; simp
      rw [hl]
      split
      · exact ⟨(h.putO hf hc).ph 3, rfl⟩
      · exact ⟨h.putO hf hc, rfl⟩
    · rw [if_neg hc, if_pos (Decidable.of_not_not fun g => hc ((h.canO hf).2 g))]
      exact ⟨h, rfl⟩
  · exact ⟨h, rfl⟩
end Go.Proofs.Ythoepbbpmdmfeaa
