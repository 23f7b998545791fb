/-
  A fifth part of the heap logic: a row of bytes that came from a text.
-/
import Derived.Lib.ConvBytes
import Derived.Deep.MidRow
import Derived.Test.YtgbflapcadlelaaHeap
namespace Go.HL
open Go
section
variable {P : Program} {r : Option Nat} {W : World} {D : List Nat} {n : Fm} {env : Env} {σ σ' : List Ent}
variable {dst : Nat} {ty : TypeId} {pos : String} {af : Array Edge} {gd : Option (Nat × Bool)} {C : Env → List Ent → Prop}
def ZRow (w : World) (g E : Nat) (l : List UInt8) : Prop :=
  (∃ m, w.shape? g = some (E, m)) ∧ ∀ k x, l[k]? = some x → w.cell? ⟨g, k, none⟩ = some (.int .u8 (x.toNat : Int)) ∧ w.frozen? ⟨g, k, none⟩ = false
theorem ZRow.same {w w' : World} {g E : Nat} {l : List UInt8} (h : w'.heap[g]? = w.heap[g]?) (hw : ZRow w g E l) : ZRow w' g E l := by
  have h1 : w'.shape? g = w.shape? g := by unfold World.shape?; rw [h]
  have h2 : ∀ k, w'.cell? ⟨g, k, none⟩ = w.cell? ⟨g, k, none⟩ := fun k => by unfold World.cell?; rw [h]
  have h3 : ∀ k, w'.frozen? ⟨g, k, none⟩ = w.frozen? ⟨g, k, none⟩ := fun k => by unfold World.frozen?; rw [h]
  refine ⟨by rw [h1]; exact hw.1, fun k x hx => ?_⟩
  rw [h2, h3]
  exact hw.2 k x hx
/-- A row of bytes that came from a text. -/
@[irreducible] def zrow (g E : Nat) (l : List UInt8) : Ent where
  dom := [g]
  holds w := ZRow w g E l
  loc w w' h hw := ZRow.same (h g (by simp)) hw
  lt w h x hx := by
    have : x = g := by simpa using hx
    subst this
    obtain ⟨m, hm⟩ := h.1
    unfold World.shape? at hm
    split at hm
    · rename_i c e f hc
      exact (Array.getElem?_eq_some_iff.1 hc).1
    · cases hm
theorem zrow_dom (g E l) : (zrow g E l).dom = [g] := by unfold zrow; rfl
theorem zrow_holds (g E l w) : (zrow g E l).holds w ↔ ZRow w g E l := by unfold zrow; rfl
theorem Rd.zrow {g E : Nat} {l : List UInt8} (hm : l.length ≤ 1000000) : Rd (zrow g E l) (some ⟨g, 0, none⟩) l.length g 0 1 (l.map u8c) :=
  ⟨by simp, by simp only [maxLen]; omega, fun _ => rfl, fun w hw i x hx => by
    rw [zrow_holds] at hw
    rw [List.getElem?_map] at hx
    obtain ⟨y, hy, rfl⟩ := Option.map_eq_some_iff.1 hx
    refine ⟨rfl, fun j u hu => ?_⟩
    cases j with
    | zero =>
      simp only [u8c, List.getElem?_cons_zero, Option.some.injEq] at hu
      subst hu
      have := (hw.2 i y hy).1
      simpa using this
    | succ j => simp [u8c] at hu⟩
/-- []byte(s). -/
theorem Op1.s2b (tb : Tabs P) {src dt E a : Nat} {x : Operand} {l : List UInt8} (hx : ev env x = some (S l)) (hC : ∀ g cap, C ((dst, .slice (some ⟨g, 0, none⟩) l.length cap) :: env) (zrow g E l :: σ))
    (hd : Nat.blt dst n.n = true := by exact rfl) (hs : lk1 tb.strs src = some a := by exact rfl) (ht : lk1 tb.slc dt = some E := by exact rfl) (he : lkK tb.ints E = some .u8 := by exact rfl) :
    Op1 P r W D n ⟨some dst, .convert src dt x, ty, pos, af, gd⟩ env σ C := Op1.of fun K Q hK a w hF hH => by
  have hrun := Lib.run_convert_string_bytes (P := P) w src dt E ⟨l.toArray⟩ (tb.strAt hs) (sliceTB_spec (tb.slcAt ht)) (tb.intAt he)
  have hsz : (⟨l.toArray⟩ : ByteArray).size = l.length := by simp [ByteArray.size]
  have hH1 : H w [] [zrow w.heap.size E l] (Lib.bytesWorld w E ⟨l.toArray⟩) := by
    refine ⟨fun e he => ?_, by simp [doms, zrow_dom], fun b hb => ?_, fun b hb _ => Lib.bytesWorld_at_old w E _ b hb, by rw [Lib.bytesWorld_size]; omega, ?_, ?_, ?_⟩
    · obtain rfl : e = _ := by simpa using he
      rw [zrow_holds]
      refine ⟨⟨_, by unfold World.shape?; rw [Lib.bytesWorld_at_new]⟩, fun k x hx => ?_⟩
      have hk := (List.getElem?_eq_some_iff.1 hx).1
      refine ⟨?_, ?_⟩
      · rw [Lib.bytesWorld_cell w E _ k (by rw [hsz]; exact hk)]
        simp [List.getD, hx]
      · unfold World.frozen?
        rw [Lib.bytesWorld_at_new]
        have : l.length ≤ (Lib.bytesCells w E ⟨l.toArray⟩).size := by simp [Lib.bytesCells]
        simp
        omega
    · right
      have : b = w.heap.size := by simpa [doms, zrow_dom] using hb
      omega
    all_goals (unfold Lib.bytesWorld World.freeze; rw [if_neg (by decide)]; rfl)
  refine opW_value rfl ?_ (hK _ _ (hC w.heap.size (grownCap w l.length 0 E)) _ _ (hF.put hd _) (hH.new hH1))
  rw [hsz] at hrun
  simp only [execOp, hF.eval hx, Sem.run_bind, hrun, Result.andThen_ok, Sem.run_pure]
theorem ZRow.set {w : World} {g E k : Nat} {l : List UInt8} {b : UInt8} (h : ZRow w g E l) (hk : k < l.length) : ZRow (w.setCell ⟨g, k, none⟩ (.int .u8 (b.toNat : Int))) g E (l.set k b) := by
  obtain ⟨⟨m, hm⟩, hc⟩ := h
  refine ⟨⟨m, ?_⟩, fun j x hx => ⟨?_, ?_⟩⟩
  · unfold World.shape? at hm ⊢
    simp only [World.setCell, Array.getElem?_modify, if_true]
    split at hm
    · rename_i c e f hg
      rw [hg]
      simpa using hm
    · cases hm
  · rw [List.getElem?_set] at hx
    by_cases e : k = j
    · subst e
      rw [if_pos rfl, if_pos hk] at hx
      have hx' := Option.some.inj hx
      subst hx'
      obtain ⟨y, hy⟩ : ∃ y, l[k]? = some y := ⟨_, List.getElem?_eq_getElem hk⟩
      exact World.cell?_setCell_same _ _ _ (hc k y hy).1
    · rw [if_neg e] at hx
      rw [World.cell?_setCell_other _ _ _ _ (fun h => e (congrArg Addr.off h))]
      exact (hc j x hx).1
  · have hj : j < l.length := by have := (List.getElem?_eq_some_iff.1 hx).1; simpa using this
    rw [World.frozen?_setCell]
    exact (hc j _ (List.getElem?_eq_getElem hj)).2
/-- A store into such a row. -/
theorem Op1.stZ (tb : Tabs P) {T u E g k : Nat} {x y : Operand} {l : List UInt8} {b : UInt8} (hx : ev env x = some (Ptr g (0 + k * 1))) (hy : ev env y = some (.int .u8 (b.toNat : Int)))
    (hm : Upd σ (zrow g E l) (zrow g E (l.set k b)) σ') (hk : k < l.length) (hC : C env σ') (h2 : lk1 tb.one T = some u := by exact rfl) : Op1 P r W D n ⟨none, .store T x y, ty, pos, af, gd⟩ env σ C := Op1.of fun K Q hK a w hF hH => by
  have hmem : zrow g E l ∈ σ := by obtain ⟨p, q, rfl, _⟩ := hm.split; simp
  have hz := hH.mem hmem
  rw [zrow_holds] at hz
  obtain ⟨y0, hy0⟩ : ∃ y, l[k]? = some y := ⟨_, List.getElem?_eq_getElem hk⟩
  obtain ⟨h3, h4⟩ := hz.2 k y0 hy0
  have hs : (P.info? T).map (·.size) = some 1 := tb.sizeOne h2
  obtain ⟨i, hi, hi'⟩ := Option.map_eq_some_iff.1 hs
  have hH1 : H W D σ' (w.setCell ⟨g, k, none⟩ (.int .u8 (b.toNat : Int))) := by
    refine hH.upd hm ⟨fun e he => ?_, by simp [doms, zrow_dom], fun x hx => ?_, fun j hj hn => ?_, by simp, rfl, rfl, rfl⟩
    · obtain rfl : e = _ := by simpa using he
      rw [zrow_holds]; exact hz.set hk
    · left; simpa [doms, zrow_dom] using hx
    · have : g ≠ j := by intro e; subst e; exact hn (by simp [zrow_dom])
      simp [World.setCell, Array.getElem?_modify, this]
  refine opW_skip rfl ?_ (hK _ _ hC _ _ (hF.putNone undef) hH1)
  have hst : (storeVar T ⟨g, 0 + k * 1, none⟩ (.int .u8 (b.toNat : Int))).run P w = .ok () (w.setCell ⟨g, k, none⟩ (.int .u8 (b.toNat : Int))) := by
    rw [Nat.zero_add, Nat.mul_one]
    have h5 := run_store P w ⟨g, k, none⟩ (.int .u8 (b.toNat : Int)) .plain rfl
    rw [h3, h4] at h5
    simp only [Bool.false_eq_true, if_false] at h5
    simp [storeVar, sizeOf, typeInfo, hi, hi', Value.cells, storeCells, Addr.add, h5]
  simp only [execOp, hF.eval hx, hF.eval hy, Instr.storeAt, Instr.sureAddr, Sem.run_bind, Sem.run_pure, Result.andThen_ok]
  rw [hst]
  rfl
/-- string(b). -/
theorem V.bstrZ (tb : Tabs P) {t u E e a g cap : Nat} {x : Operand} {l : List UInt8} (hx : ev env x = some (.slice (some ⟨g, 0, none⟩) l.length cap)) (hm : zrow g E l ∈ σ)
    (ht : lk1 tb.strs u = some a := by exact rfl) (hu : lk1 tb.slc t = some e := by exact rfl) (he : lkK tb.ints e = some .u8 := by exact rfl) : Val P n env σ ⟨some dst, .convert t u x, ty, pos, af, gd⟩ (S l) := Val.of fun a w hF hH => by
  have h := hH.get _ hm
  rw [zrow_holds] at h
  have hld : (loadCells ⟨g, 0, none⟩ l.length).run P w = .ok (l.map fun b => Value.int .u8 (b.toNat : Int)).toArray w := by
    have := run_firstCells_some (P := P) w 1 l.length ⟨g, 0, none⟩ l.length cap (l.map fun b => Value.int .u8 (b.toNat : Int)) (by simp) (fun j v hv => by
      rw [List.getElem?_map] at hv
      obtain ⟨y, hy, rfl⟩ := Option.map_eq_some_iff.1 hv
      have := (h.2 j y hy).1
      unfold Addr.add
      split
      · rename_i h0; subst h0; exact this
      · simpa using this)
    simpa [Builtin.firstCells] using this
  have key : ∀ (xs : List UInt8) (s : ByteArray), (xs.map fun b => (b.toNat : Int)).foldl (fun r n => r.push (UInt8.ofNat n.toNat)) s = ⟨s.data ++ xs.toArray⟩ := by
    intro xs
    induction xs with
    | nil => intro s; simp
    | cons x xs ih =>
      intro s
      simp only [List.map_cons, List.foldl_cons]
      rw [ih]
      apply ByteArray.ext
      simp [ByteArray.push]
  have hr : (Conv.bytesToString (.slice (some ⟨g, 0, none⟩) l.length cap)).run P w = .ok (S l) w := by
    rw [Go.run_bytesToString w ⟨g, 0, none⟩ l.length cap (l.map fun b => (b.toNat : Int)) (by simpa [Function.comp_def] using hld), key]
    simp
  simp only [execOp, hF.eval hx, convert, Sem.run_bind, run_underlying (tb.strAt ht), run_underlying (sliceTB_spec (tb.slcAt hu)), Result.andThen_ok, run_underlying (tb.intAt he), hr, Sem.run_pure]
end
end Go.HL
