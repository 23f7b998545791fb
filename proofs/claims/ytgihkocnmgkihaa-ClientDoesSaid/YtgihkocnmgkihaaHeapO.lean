/-
  A fifteenth part of the heap logic: slices.Sort of texts, by the kit's contract.
-/
import Derived.Sort.OwnSorted
import Derived.Shelf.Sort.Plain
import Derived.Shelf.Slices.In.SortNone
import Derived.Test.YtgihkocnmgkihaaHeapB
namespace Go.HL
open Go Go.Proofs Go.RowKit Go.Sort Go.Shelf
section
variable {P : Program} {ρ : Ren}
theorem strc_enc (ks : List (List UInt8)) : ks.flatMap strc = ks.map encStr := by
  induction ks with
  | nil => rfl
  | cons k ks ih => rw [List.flatMap_cons, List.map_cons, ih]; rfl
/-- slices.Sort of a row of texts. -/
theorem ct_sort (L : Lays.n190 P ρ) (E g cap : Nat) (ks : List (List UInt8)) (hl : ks.length < 4611686018427387904) :
    Ct P (ρ.f 190) [.slice (some ⟨g, 0, none⟩) ks.length cap] [rows strc (.slice (some ⟨g, 0, none⟩) ks.length cap) E 1 ks] (fun r σ' => r = .tuple #[] ∧ σ' = [rows strc (.slice (some ⟨g, 0, none⟩) ks.length cap) E 1 (ks.mergeSort fun x y => decide (x ≤ y))]) := Ct.of fun w h0 => by
  have hown := h0.ents _ (List.mem_singleton.2 rfl)
  rw [rows_eq, row_holds, strc_enc] at hown
  rcases hown.2 with ⟨he, _⟩ | ⟨g', cap', cur, he, _, hg, hnc, hcm, hcs, htake⟩
  · cases he
  · simp only [Value.slice.injEq, Option.some.injEq, Addr.mk.injEq] at he
    obtain ⟨⟨rfl, _⟩, _, rfl⟩ := he
    have hgl : g < w.heap.size := (Array.getElem?_eq_some_iff.1 hg).1
    have hH : Holds encStr w g 0 ks.toArray := holds_of_block hg (by simpa using htake)
    refine (Any.slices_Sort_string L g 0 cap ks w hH hgl hl).mono ?_
    rintro e w' ⟨rfl, n, os, rfl⟩
    refine ⟨_, _, rfl, ⟨rfl, rfl⟩, ?_⟩
    have hs := ownsRow_sorted (n := n) (os := os) (ts := ks.mergeSort fun x y => decide (x ≤ y)) (by simp) (Nat.zero_le g) hg hnc hcm hcs
    have hgr := grownBy_sorted (w := w) (g := g) (n := n) (os := os) (ks.mergeSort fun x y => decide (x ≤ y)).toArray
    refine ⟨fun e he => ?_, ?_, fun b hb => .inl ?_, fun b hb hn => ?_, ?_, ?_, ?_, ?_⟩
    · obtain rfl := List.mem_singleton.1 he
      rw [rows_eq, row_holds, strc_enc]
      simpa using hs
    · have := h0.nodup
      simpa [doms, rows_eq, row_dom] using this
    · simpa [doms, rows_eq, row_dom] using hb
    · refine hgr.5 b hb ?_
      intro e
      obtain rfl := Option.some.inj e
      exact hn (by simp [doms, rows_eq, row_dom, Value.ownBlock])
    · exact hgr.4
    · exact hgr.1
    · exact hgr.2
    · exact hgr.3
/-- Of no texts. -/
theorem ct_sort0 (L : Lays.n190 P ρ) (σ : List Ent) : Ct P (ρ.f 190) [.slice none 0 0] σ (fun r σ' => r = .tuple #[] ∧ σ' = σ) := Ct.of fun w h0 => by
  refine (Any.slices_Sort_string_none L none 0 w).mono ?_
  rintro e w' ⟨rfl, rfl⟩
  exact ⟨_, _, rfl, ⟨rfl, rfl⟩, h0.start⟩
end
end Go.HL
