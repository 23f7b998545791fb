/-
  A fourth part of the heap logic: make([]byte, m).
-/
import Derived.Laws.OwnMore
import Derived.Test.YtgbflapcadlelaaHeap
namespace Go.HL
open Go
section
variable {P : Program} {r : Option Nat} {W : World} {D : List Nat} {n : Fm} {env : Env} {σ σ' : List Ent}
variable {dst : Nat} {ty : TypeId} {pos : String} {af : Array Edge} {gd : Option (Nat × Bool)} {C : Env → List Ent → Prop}
theorem madeOne (v : Value) (m : Nat) : (madeCells #[v] m).toList = List.replicate m v := by
  unfold madeCells
  apply List.ext_getElem
  · simp
  · intro i h1 h2
    simp [Nat.mod_one]
/-- make([]byte, m). -/
theorem Op1.mkBytes (tb : Tabs P) {t E m : Nat} {x y : Operand} {k1 k2 : IntKind} (hx : ev env x = some (.int k1 (m : Int))) (hy : ev env y = some (.int k2 (m : Int))) (hm : m ≤ 1000000)
    (hC : ∀ g, C ((dst, .slice (some ⟨g, 0, none⟩) m m) :: env) (rows u8c (.slice (some ⟨g, 0, none⟩) m m) E 1 (List.replicate m 0) :: σ))
    (hd : Nat.blt dst n.n = true := by exact rfl) (ht : lk1 tb.slc t = some E := by exact rfl) (hs : lk1 tb.szs E = some 1 := by exact rfl) (hbt : lk1 tb.byt E = some 1 := by exact rfl) (hz : lkZ tb.zeros E = some [.int .u8 0] := by exact rfl) :
    Op1 P r W D n ⟨some dst, .makeSlice t x y, ty, pos, af, gd⟩ env σ C := Op1.of fun K Q hK a w hF hH => by
  obtain ⟨i, z, hi, hz', h1, h2, h3⟩ := tb.info hs hbt hz
  obtain ⟨w1, hr, ho, hg⟩ := run_make_full (P := P) w 0 t E i z 1 (sliceTB_spec (tb.slcAt ht)) hi hz' h1 k1 k2 m (by rw [h2]; omega) (by simp only [maxLen]; omega) (Nat.zero_le _)
  have hzc : z.cells = #[.int .u8 0] := by
    rw [← Array.toArray_toList (xs := z.cells), h3]
  rw [hzc, Nat.mul_one, madeOne] at ho
  have hcs : (List.replicate m (0 : UInt8)).flatMap u8c = List.replicate m (.int .u8 0) := by
    rw [u8c_map, List.map_replicate]; rfl
  have hH1 : H w [] [rows u8c (.slice (some ⟨w.heap.size, 0, none⟩) m m) E 1 (List.replicate m 0)] w1 := by
    refine ⟨fun e he => ?_, by simp [doms, rows_eq, row_dom, Value.ownBlock], fun b hb => ?_, fun b hb _ => hg.block b hb (fun e => by cases e), hg.size, hg.os, hg.tape, hg.output⟩
    · obtain rfl : e = _ := by simpa using he
      rw [rows_eq, row_holds, hcs, List.length_replicate]; exact ho
    · right
      have : b = w.heap.size := by simpa [doms, rows_eq, row_dom, Value.ownBlock] using hb
      omega
  refine opW_value rfl ?_ (hK _ _ (hC w.heap.size) _ _ (hF.put hd _) (hH.new hH1))
  simp only [execOp, hF.eval hx, hF.eval hy, Sem.run_bind, hr, Result.andThen_ok, Sem.run_pure]
end
end Go.HL
