/-
  Layer 14: what a lead keeps.
-/
import Derived.Test.YthoepbbpmdmfeaaLead6
namespace Go.Proofs.Ythoepbbpmdmfeaa
open Go.HL
set_option linter.unusedSimpArgs false
set_option linter.unusedVariables false
set_option maxRecDepth 8000
structure Keeps (x : LeadS) (n sf : Int) (it : TItem) (bb : TBallot) : Prop where
  wf : x.wf
  n : x.n = n
  self : x.self = sf
  item : x.item = it
  ballot : x.ballot = bb
  phase : x.phase = 1 ∨ x.phase = 2 ∨ x.phase = 3 ∨ x.phase = 4
theorem LeadS.slow_wf {x : LeadS} (w : x.wf) : x.slow.wf := ⟨w.pl, w.ph, w.ol, w.oh, w.pn, w.om⟩
theorem hear1_keeps {x : LeadS} {n sf : Int} {it : TItem} {bb : TBallot} (k : Keeps x n sf it bb) (m : TMsg) : Keeps (x.hear1 m).1 n sf it bb := by
  unfold LeadS.hear1
  split
  · rename_i hc
    have wy := k.wf.put hc m
    split
    · exact ⟨wy.phase 3, k.n, k.self, k.item, k.ballot, .inr (.inr (.inl rfl))⟩
    · split
      · exact ⟨wy, k.n, k.self, k.item, k.ballot, k.phase⟩
      · split
        · exact ⟨LeadS.slow_wf wy, k.n, k.self, k.item, k.ballot, .inr (.inl rfl)⟩
        · exact ⟨wy, k.n, k.self, k.item, k.ballot, k.phase⟩
  · exact k
theorem hear_keeps {x : LeadS} {n sf : Int} {it : TItem} {bb : TBallot} (k : Keeps x n sf it bb) (m : TMsg) : Keeps (x.hear m).1 n sf it bb := by
  unfold LeadS.hear
  split
  · exact k
  split
  · exact ⟨(k.wf.call m.Call).phase 3, k.n, k.self, k.item, k.ballot, .inr (.inr (.inl rfl))⟩
  split
  · exact ⟨k.wf.phase 4, k.n, k.self, k.item, k.ballot, .inr (.inr (.inr rfl))⟩
  split
  · exact k
  split
  · exact hear1_keeps k m
  split
  · split
    · rename_i hc
      have wy := k.wf.putO hc
      split
      · exact ⟨wy.phase 3, k.n, k.self, k.item, k.ballot, .inr (.inr (.inl rfl))⟩
      · exact ⟨wy, k.n, k.self, k.item, k.ballot, k.phase⟩
    · exact k
  · exact k
theorem late_keeps {x : LeadS} {n sf : Int} {it : TItem} {bb : TBallot} (k : Keeps x n sf it bb) : Keeps x.late.1 n sf it bb := by
  unfold LeadS.late
  split
  · exact ⟨LeadS.slow_wf k.wf, k.n, k.self, k.item, k.ballot, .inr (.inl rfl)⟩
  · exact k
theorem newC_keeps (c : Caucuslaw14Case) : Keeps (newC c) c.N c.Self c.Item c.Ballot := ⟨newL_wf _ _ _ _ _ _, rfl, rfl, rfl, rfl, by
  show (if c.Phase = 1 then (1 : Int) else 2) = 1 ∨ (if c.Phase = 1 then (1 : Int) else 2) = 2 ∨ _
  split
  · exact .inl rfl
  · exact .inr (.inl rfl)⟩
theorem say_lost {x : LeadS} (h : x.phase = 4) : x.say = [] := by
  unfold LeadS.say; rw [if_neg (by omega)]
theorem say_at {x : LeadS} (h : x.phase = 1 ∨ x.phase = 2 ∨ x.phase = 3) : x.say = x.says x.n.toNat := by
  unfold LeadS.say; rw [if_pos h]
theorem says_get {x : LeadS} {k i : Nat} (h : i < k) : (x.says k)[i]? = some (sayM x i) := by
  unfold LeadS.says; rw [List.getElem?_map, List.getElem?_range h]; rfl
theorem rowsRd {α : Type} {f : α → List Go.Value} {W : Go.World} {D : List Nat} {σ : List Ent} {v : Go.Value} {E sz : Nat} {l : List α} (hz : ∀ x, (f x).length = sz) (hm : rows f v E sz l ∈ σ) :
    ∀ w, H W D σ w → ∃ ao cap b, v = .slice ao l.length cap ∧ Rd (rows f (.slice ao l.length cap) E sz l) ao l.length b 0 sz (l.map f) := fun w hw => by
  rcases rowsForm hm w hw with ⟨rfl, rfl⟩ | ⟨g, cap, rfl, h1, h2⟩
  · exact ⟨none, 0, 0, rfl, Rd.nil⟩
  · exact ⟨some ⟨g, 0, none⟩, cap, g, rfl, Rd.rows hz (by simp only [Go.maxLen] at h2; omega)⟩
theorem lead_say_rd (b : Nat) (x : LeadS) (hn : 0 ≤ x.n ∧ x.n ≤ 1000) : Ct Try.prog 41 [Ptr b 0] [cells b 142 x.c] (fun r σ' => ∃ ap cp g, Rd (rows TMsg.c (.slice ap x.say.length cp) 44 25 x.say) ap x.say.length g 0 25 (x.say.map TMsg.c) ∧ r = .slice ap x.say.length cp ∧ σ' = [rows TMsg.c (.slice ap x.say.length cp) 44 25 x.say, cells b 142 x.c]) := by
  refine Ct.facts (lead_say b x hn) ?_
  rintro v σ' W D w ⟨v', rfl, rfl⟩ hH
  obtain ⟨ap, cp, g, rfl, h⟩ := rowsRd (f := TMsg.c) (v := v) (l := x.say) (E := 44) (sz := 25) TMsg.len (by exact List.Mem.head _) w hH
  exact ⟨ap, cp, g, h, rfl, rfl⟩
end Go.Proofs.Ythoepbbpmdmfeaa
