/-
  A third part of the heap logic: what a strings.Builder needs.
-/
import Derived.Lib.Builder
import Derived.Lib.UnsafeStr
import Derived.Laws.Externs
import Derived.Test.YtgbflapcadlelaaHeap
/-! ### What a strings.Builder needs -/
namespace Go.HL
open Go
section
variable {P : Program} {r : Option Nat} {W : World} {D : List Nat} {n : Fm} {env : Env} {σ σ' : List Ent}
variable {dst : Nat} {ty : TypeId} {pos : String} {af : Array Edge} {gd : Option (Nat × Bool)} {C : Env → List Ent → Prop}
def ptrTB (P : Program) (t e : TypeId) : Bool := match P.underlying t with | some (.pointer e') => e == e' | _ => false
theorem ptrTB_spec {t e : TypeId} (h : ptrTB P t e = true) : P.underlying t = some (.pointer e) := by
  unfold ptrTB at h
  split at h
  · rename_i e' he
    simp only [beq_iff_eq] at h
    rw [he, h]
  · cases h
def unsB (P : Program) (t : TypeId) : Bool := match P.underlying t with | some .unsafePointer => true | _ => false
theorem unsB_spec {t : TypeId} (h : unsB P t = true) : P.underlying t = some .unsafePointer := by
  unfold unsB at h
  split at h
  · assumption
  · cases h
def sizedB (P : Program) (t : TypeId) : Bool := match P.info? t with | some j => j.size != 0 | none => false
theorem sizedB_spec {t : TypeId} (h : sizedB P t = true) : ∃ j, P.info? t = some j ∧ j.size ≠ 0 := by
  unfold sizedB at h
  split at h
  · rename_i j hj
    exact ⟨j, hj, by simpa using h⟩
  · cases h
theorem cellsShape {b E : Nat} {c : List Value} {w : World} (h : (cells b E c).holds w) : w.shape? b = some (E, c.length) := by
  rw [cells_holds] at h
  simp [World.shape?, h]
/-- A pointer becomes an unsafe pointer. -/
theorem V.toU {src dt : TypeId} {x : Operand} {b o E t : Nat} {c : List Value} (hx : ev env x = some (Ptr b o)) (hm : cells b E c ∈ σ) (hs : ptrTB P src t = true) (hd : unsB P dt = true) (ht : sizedB P t = true) (ho : o < c.length) :
    Val P n env σ ⟨some dst, .convert src dt x, ty, pos, af, gd⟩ (Ptr b o) := Val.of fun a w hF hH => by
  obtain ⟨j, hj, hj0⟩ := sizedB_spec ht
  simp only [execOp, hF.eval hx]
  rw [Sem.run_bind, Lib.run_to_unsafe (w := w) ⟨b, o, none⟩ (ptrTB_spec hs) (unsB_spec hd) hj hj0 (cellsShape (hH.get _ hm)) ho]
  simp
/-- And back. -/
theorem V.fromU {src dt : TypeId} {x : Operand} {b o E t : Nat} {c : List Value} (hx : ev env x = some (Ptr b o)) (hm : cells b E c ∈ σ) (hs : unsB P src = true) (hd : ptrTB P dt t = true) (ht : sizedB P t = true)
    (hl : liesAt P P.depth E (c.length / P.cellsOf E) o t 1 = true) :
    Val P n env σ ⟨some dst, .convert src dt x, ty, pos, af, gd⟩ (Ptr b o) := Val.of fun a w hF hH => by
  obtain ⟨j, hj, hj0⟩ := sizedB_spec ht
  simp only [execOp, hF.eval hx]
  rw [Sem.run_bind, Lib.run_from_unsafe (w := w) ⟨b, o, none⟩ (unsB_spec hs) (ptrTB_spec hd) hj (cellsShape (hH.get _ hm)) hl]
  simp
/-- internal/abi.NoEscape. -/
def noEscB (P : Program) (f : FuncId) : Bool := match P.funcs[f]? with | some fn => fn.name == "internal/abi.NoEscape" && fn.body.isNone | none => false
theorem V.noEsc {f : FuncId} {x : Operand} {ats : Array TypeId} {v : Value} {fn : Func} (hf : P.funcs[f]? = some fn) (hn : (fn.name == "runtime.NumGoroutine") = false) (hb : fn.body.isNone = true) (h1 : Extern.findNext fn = none) (h2 : Extern.find fn = some Extern.AbiNoEscape.same)
    (hx : ev env x = some v) : Val P n env σ ⟨some dst, .call ⟨.value (.func f), #[x], ats⟩, ty, pos, af, gd⟩ v := Val.of fun a w hF hH => by
  have hr := run_callFunc_extern (P := P) hf hn hb h1 h2 #[v] w
  rw [Lib.run_noEscape] at hr
  have he : (#[x].map a.eval) = #[v] := by simp [hF.eval hx]
  simp only [execOp, resolve, Sem.run_bind, he]
  simp [Act.eval, Deferred.ofValue, invoke, hr]
theorem EqT.ptrSelf {d : Nat} {T e : TypeId} {b o : Nat} (h : P.underlying T = some (.pointer e)) {j : TypeInfo} (hj : P.info? e = some j) : EqT P (d + 1) T (Ptr b o) (Ptr b o) true := by
  unfold EqT
  intro w
  simp [Op.equalIn, run_underlying h, sizeOf, typeInfo, hj, run_sameAddr_same]
/-- A pointer is the same as itself. -/
theorem V.neSelf {t ty' : TypeId} {x y : Operand} {b o : Nat} (hx : ev env x = some (Ptr b o)) {e : TypeId} (hy : ev env y = some (Ptr b o)) (ht : ptrTB P t e = true) (hs : sizedB P e = true) : Val P n env σ ⟨some dst, .binOp .neq t x y ty', ty, pos, af, gd⟩ (.bool false) := by
  obtain ⟨j, hj, _⟩ := sizedB_spec hs
  exact Val.neq hx hy rfl rfl (EqT.ptrSelf (d := 9999) (ptrTB_spec ht) hj)
theorem V.usd {ats : Array TypeId} {x : Operand} {g m cap : Nat} (hx : ev env x = some (.slice (some ⟨g, 0, none⟩) m cap)) (hc : cap ≠ 0) : Val P n env σ ⟨some dst, .call ⟨.builtin .unsafeSliceData, #[x], ats⟩, ty, pos, af, gd⟩ (Ptr g 0) := Val.of fun a w hF hH => by
  have := Lib.run_unsafeSliceData_row (P := P) (w := w) ats ty ⟨g, 0, none⟩ m cap hc
  simp [execOp, resolve, invoke, builtin, hF.eval hx, this]
theorem V.usdN {ats : Array TypeId} {x : Operand} (hx : ev env x = some (.slice none 0 0)) : Val P n env σ ⟨some dst, .call ⟨.builtin .unsafeSliceData, #[x], ats⟩, ty, pos, af, gd⟩ (.pointer none) := Val.of fun a w hF hH => by
  have := Lib.run_unsafeSliceData_nil (P := P) (w := w) ats ty 0 0
  simp [execOp, resolve, invoke, builtin, hF.eval hx, this]
theorem V.ustrN {pt it : TypeId} {x y : Operand} {p : Option Addr} (hx : ev env x = some (.pointer p)) (hy : ev env y = some (I 0)) : Val P n env σ ⟨some dst, .call ⟨.builtin .unsafeString, #[x, y], #[pt, it]⟩, ty, pos, af, gd⟩ (S []) := Val.of fun a w hF hH => by
  have := Lib.run_unsafeString_none (P := P) (w := w) pt it ty p
  simp [execOp, resolve, invoke, builtin, hF.eval hx, hF.eval hy, this]
  rfl
theorem Wp.rowsLe {α : Type} {f : α → List Value} {g m cap E sz : Nat} {l : List α} {c : Code} {Q : Post} (hm : rows f (.slice (some ⟨g, 0, none⟩) m cap) E sz l ∈ σ) (h : l.length ≤ cap → Wp P r W D n Q c env σ) : Wp P r W D n Q c env σ := Wp.of fun a w hF hH => by
  rcases rowsForm hm w hH with ⟨h2, _⟩ | ⟨g2, cap2, h2, h3, _⟩
  · cases h2
  · simp only [Value.slice.injEq] at h2
    obtain ⟨_, _, rfl⟩ := h2
    exact (h h3).get a w hF hH
/-- A block that is there, and no more is known. -/
@[irreducible] def junk (g : Nat) : Ent where
  dom := [g]
  holds w := g < w.heap.size
  loc w w' h hw := by
    have := h g (by simp)
    have h1 : w.heap[g]? ≠ none := by simp [hw]
    rw [← this] at h1
    simpa using h1
  lt w h x hx := by
    have : x = g := by simpa using hx
    subst this; exact h
theorem junk_dom (g) : (junk g).dom = [g] := by unfold junk; rfl
theorem junk_holds (g w) : (junk g).holds w ↔ g < w.heap.size := by unfold junk; rfl
/-- A row's bytes are handed out as a text: the row is given up. -/
theorem Op1.ustr {pt it : TypeId} {x y : Operand} {E g cap : Nat} {l : List UInt8} (hx : ev env x = some (Ptr g 0)) (hy : ev env y = some (I (l.length : Int))) (h0 : l ≠ []) (hp : ptrTB P pt E = true) (hc1 : P.cellsOf E = 1)
    (hm : Upd σ (rows u8c (.slice (some ⟨g, 0, none⟩) l.length cap) E 1 l) (junk g) σ') (hd : Nat.blt dst n.n = true) (hC : C ((dst, S l) :: env) σ') :
    Op1 P r W D n ⟨some dst, .call ⟨.builtin .unsafeString, #[x, y], #[pt, it]⟩, ty, pos, af, gd⟩ env σ C := Op1.of fun K Q hK a w hF hH => by
  have hmem : rows u8c (.slice (some ⟨g, 0, none⟩) l.length cap) E 1 l ∈ σ := by obtain ⟨p, q, rfl, _⟩ := hm.split; simp
  have hown := hH.mem hmem
  rw [rows_eq, row_holds] at hown
  rcases hown.2 with ⟨he, _⟩ | ⟨g', cap', cur, he, _, hg, hnc, hcm, hcs, htake⟩
  · cases he
  · simp only [Value.slice.injEq, Option.some.injEq, Addr.mk.injEq] at he
    obtain ⟨⟨rfl, _⟩, _, rfl⟩ := he
    have hsh : w.shape? g = some (E, cur.size) := by simp [World.shape?, hg]
    have hll : l.length ≤ cur.size := by omega
    have hcell : ∀ j x, l[j]? = some x → w.cell? ((⟨g, 0, none⟩ : Addr).add j) = some (.int .u8 x.toNat) := by
      intro j x hj
      have h1 : (l.flatMap u8c)[j]? = some (.int .u8 (x.toNat : Int)) := by
        rw [u8c_map, List.getElem?_map, hj]; rfl
      rw [← htake, Nat.mul_one, List.getElem?_take] at h1
      split at h1
      · have h2 : cur[j]? = some (.int .u8 (x.toNat : Int)) := by simpa using h1
        by_cases hj0 : j = 0
        · subst hj0
          simpa [World.cell?, Addr.add, hg] using h2
        · simpa [World.cell?, Addr.add, hg, hj0] using h2
      · cases h1
    have hrun := Lib.run_unsafeString_row (P := P) (w := w) pt it ty E (ptrTB_spec hp) hc1 g cur.size hsh l h0 hll (by simp only [maxLen] at hcm; omega) hcell
    have hlt : g < w.heap.size := (Array.getElem?_eq_some_iff.1 hg).1
    have hln : l.length ≠ 0 := by simpa using h0
    have hsz : (w.freeze ⟨g, 0, none⟩ l.length).heap.size = w.heap.size := by simp [World.freeze, hln]
    refine opW_value (v := S l) rfl ?_ (hK _ _ hC _ _ (hF.put hd _) (hH.upd hm ⟨fun e he => ?_, by simp [doms, junk_dom], fun b hb => ?_, fun b hb hn => ?_, by rw [hsz]; exact Nat.le_refl _, by simp [World.freeze, hln], by simp [World.freeze, hln], by simp [World.freeze, hln]⟩))
    · simp [execOp, resolve, invoke, builtin, hF.eval hx, hF.eval hy, hrun]
    · obtain rfl : e = _ := by simpa using he
      rw [junk_holds, hsz]; exact hlt
    · left
      have : b = g := by simpa [doms, junk_dom] using hb
      subst this
      simp [rows_eq, row_dom, Value.ownBlock]
    · have : b ≠ g := by
        intro e; subst e
        exact hn (by simp [rows_eq, row_dom, Value.ownBlock])
      simp [World.freeze, hln, Array.getElem?_modify, Ne.symm this]
end
end Go.HL
