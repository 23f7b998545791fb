/-
  An eighteenth part of the heap logic: slices.Sort of numbers, by the kit's contract.
-/
import Derived.Sort.OwnSortedInts
import Derived.Shelf.Sort.Plain
import Derived.Shelf.Slices.In.SortNone
import Derived.Test.YtgihkocnmgkihaaHeapB
namespace Go.HL
open Go Go.Proofs Go.RowKit Go.Sort Go.Shelf
section
variable {P : Program} {ρ : Ren}
theorem i64c_enc (ks : List Int) : ks.flatMap i64c = ks.map (Value.int .i64) := by
  induction ks with
  | nil => rfl
  | cons k ks ih => rw [List.flatMap_cons, List.map_cons, ih]; rfl
/-- slices.Sort of a row of numbers. -/
theorem ct_sortI (L : Lays.n189 P ρ) (E g cap : Nat) (ks : List Int) (hl : ks.length < 4611686018427387904) :
    Ct P (ρ.f 189) [.slice (some ⟨g, 0, none⟩) ks.length cap] [rows i64c (.slice (some ⟨g, 0, none⟩) ks.length cap) E 1 ks] (fun r σ' => r = .tuple #[] ∧ σ' = [rows i64c (.slice (some ⟨g, 0, none⟩) ks.length cap) E 1 (ks.mergeSort fun x y => decide (x ≤ y))]) := Ct.of fun w h0 => by
  have hown := h0.ents _ (List.mem_singleton.2 rfl)
  rw [rows_eq, row_holds, i64c_enc] at hown
  rcases hown.2 with ⟨he, _⟩ | ⟨g', cap', cur, he, _, hg, hnc, hcm, hcs, htake⟩
  · cases he
  · simp only [Value.slice.injEq, Option.some.injEq, Addr.mk.injEq] at he
    obtain ⟨⟨rfl, _⟩, _, rfl⟩ := he
    have hgl : g < w.heap.size := (Array.getElem?_eq_some_iff.1 hg).1
    have hH : Holds (Value.int .i64) w g 0 ks.toArray := holds_of_blockI hg (by simpa using htake)
    refine (Any.slices_Sort_int L g 0 cap ks w hH hgl hl).mono ?_
    rintro e w' ⟨rfl, n, os, rfl⟩
    refine ⟨_, _, rfl, ⟨rfl, rfl⟩, ?_⟩
    have hs := ownsRow_sortedI (n := n) (os := os) (ts := ks.mergeSort fun x y => decide (x ≤ y)) (by simp) (Nat.zero_le g) hg hnc hcm hcs
    have hgr := grownBy_sortedI (w := w) (g := g) (n := n) (os := os) (ks.mergeSort fun x y => decide (x ≤ y)).toArray
    refine ⟨fun e he => ?_, ?_, fun b hb => .inl ?_, fun b hb hn => ?_, ?_, ?_, ?_, ?_⟩
    · obtain rfl := List.mem_singleton.1 he
      rw [rows_eq, row_holds, i64c_enc]
      simpa using hs
    · have := h0.nodup
      simpa [doms, rows_eq, row_dom] using this
    · simpa [doms, rows_eq, row_dom] using hb
    · refine hgr.5 b hb ?_
      intro e
      obtain rfl := Option.some.inj e
      exact hn (by simp [doms, rows_eq, row_dom, Value.ownBlock])
    · exact hgr.4
    · exact hgr.1
    · exact hgr.2
    · exact hgr.3
/-- Of no texts. -/
theorem ct_sortI0 (L : Lays.n189 P ρ) (σ : List Ent) : Ct P (ρ.f 189) [.slice none 0 0] σ (fun r σ' => r = .tuple #[] ∧ σ' = σ) := Ct.of fun w h0 => by
  refine (Any.slices_Sort_int_none L none 0 w).mono ?_
  rintro e w' ⟨rfl, rfl⟩
  exact ⟨_, _, rfl, ⟨rfl, rfl⟩, h0.start⟩
end
end Go.HL
