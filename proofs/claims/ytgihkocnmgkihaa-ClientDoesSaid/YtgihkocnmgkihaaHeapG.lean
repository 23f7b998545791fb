/-
  A seventh part of the heap logic: arrays put together; what a row reads as.
-/
import Derived.Test.YtgihkocnmgkihaaHeapF
namespace Go.HL
open Go
section
variable {P : Program} {r : Option Nat} {W : World} {D : List Nat} {n : Fm} {env : Env} {σ σ' : List Ent} {α : Type} {f : α → List Value}
variable {dst : Nat} {ty : TypeId} {pos : String} {af : Array Edge} {gd : Option (Nat × Bool)} {C : Env → List Ent → Prop}
/-- An array put together from all its parts. -/
theorem V.bldArr (tb : Tabs P) {T E m sz : Nat} {parts : List (Nat × Operand)} {vs : List (Nat × Value)} {cs zc : List Value} (hx : HL.pevs env parts = some vs) (hp : PartsFrom sz 0 vs cs)
    (hA : lkA tb.arr T = some (m, E) := by exact rfl) (hs : lk1 tb.szs E = some sz := by exact rfl) (hz : lkZ tb.zeros T = some zc := by exact rfl) (hzl : zc.length = vs.length * sz := by exact rfl) :
    Val P n env σ ⟨some dst, .build T parts.toArray, ty, pos, af, gd⟩ (A cs) := Val.of fun a w hF _ => by
  obtain ⟨z, h1, h2⟩ := tb.zeroAt hz
  obtain ⟨i, hi, hz'⟩ := Option.bind_eq_some_iff.1 h1
  have hzv : (zeroValue T).run P w = .ok z w := by simp [zeroValue, typeInfo, hi, hz']
  have e : (parts.toArray.map fun (p : Nat × Operand) => (p.1, a.eval p.2)) = vs.toArray := by rw [← hF.pevs hx]; simp
  have e' : (parts.toArray.map fun (x : Nat × Operand) => match x with | (i, x) => (i, a.eval x)) = vs.toArray := e
  have hzs : z.cells.size = (0 + vs.length) * sz := by rw [Nat.zero_add, ← hzl, ← h2, Array.length_toList]
  have hfill := hp.fill z.cells hzs
  have hb : (Instr.build T vs.toArray).run P w = .ok (A cs) w := by
    unfold Instr.build
    simp only [Sem.run_bind, hzv, run_underlying (tb.arrAt hA), Result.andThen_ok, run_sizeOf (tb.szAt hs), hfill, Nat.zero_mul, List.take_zero, List.nil_append, Sem.run_pure]
  simp only [execOp, Sem.run_bind, e', hb, Result.andThen_ok, Sem.run_pure]
/-- An array value's element. -/
theorem V.ixAgg (tb : Tabs P) {t m E u k : Nat} {kk : IntKind} {x y : Operand} {cs : List Value} {v : Value} (hx : ev env x = some (A cs)) (hy : ev env y = some (.int kk (k : Int))) (hv : cs[k]? = some v) (hk : k < m)
    (hA : lkA tb.arr t = some (m, E) := by exact rfl) (h1 : lk1 tb.one E = some u := by exact rfl) (hs : lk1 tb.szs E = some 1 := by exact rfl) : Val P n env σ ⟨some dst, .index t x y, ty, pos, af, gd⟩ v := Val.of fun a w hF _ => by
  have hr : Reads P E (k * 1) cs v := Reads.one (tb.oneAt h1) (by rw [Nat.mul_one]; exact hv)
  have h2 : (0 : Int) ≤ (k : Int) ∧ (k : Int) < (m : Int) := ⟨by omega, by omega⟩
  simp only [execOp, hF.eval hx, hF.eval hy]
  have hi : (Instr.index t (A cs) (.int kk (k : Int))).run P w = .ok v w := by
    unfold Instr.index
    simp only [asIntOf, Sem.run_bind, Sem.run_pure, Result.andThen_ok, run_underlying (tb.arrAt hA), h2, and_self, if_true, run_sizeOf (tb.szAt hs), Int.toNat_natCast, hr.part w]
  simp only [hi, Sem.run_bind, Result.andThen_ok, Sem.run_pure]
/-- A field of a row's element: a part. -/
theorem V.rowFA (tb : Tabs P) {T E sz b k o q len cap : Nat} {x : Operand} {l : List α} {a : α} {c : List Value} (hx : ev env x = some (Ptr b (0 + k * sz + o))) (hm : rows f (.slice (some ⟨b, 0, none⟩) len cap) E sz l ∈ σ) (hz : ∀ x, (f x).length = sz) (hk : l[k]? = some a)
    (h1 : lk1 tb.agg T = some q := by exact rfl) (hl : Nat.ble (o + q) sz = true := by exact rfl) (hs : SegOf o q (f a) c := by infer_instance) : Val P n env σ ⟨some dst, .load T x, ty, pos, af, gd⟩ (A c) := Val.of fun a' w hF hH => by
  obtain ⟨d, hu, hd, hi⟩ := aggB_spec (tb.aggAt h1)
  have hl' := Nat.le_of_ble_eq_true hl
  have hc := hs.eq
  have hown := hH.get _ hm
  rw [rows_eq, row_holds] at hown
  simp only [execOp, hF.eval hx, Instr.loadAt, Instr.sureAddr, Sem.run_bind, Sem.run_pure, Result.andThen_ok]
  have hcl : c.length = q := by rw [← hc, seg, List.length_take, List.length_drop, hz]; omega
  rw [run_loadVar_mid w b (0 + k * sz + o) T c d (fun j v hv => ?_) hu hd (by rw [hi, hcl])]
  · rfl
  · have hv2 : (f a)[o + j]? = some v := by
      rw [← hc] at hv
      simp only [seg, List.getElem?_take, List.getElem?_drop] at hv
      split at hv
      · exact hv
      · cases hv
    have := hown.cells (g := b) rfl (k * sz + (o + j)) v (by
      rw [← flatMap_seg hz l k a hk] at hv2
      simp only [seg, List.getElem?_take, List.getElem?_drop] at hv2
      split at hv2
      · exact hv2
      · cases hv2)
    rw [cellAdd] at this
    simpa [Nat.add_assoc] using this
theorem V.rowF1 (tb : Tabs P) {T E u sz b k o len cap : Nat} {x : Operand} {l : List α} {a : α} {v : Value} (hx : ev env x = some (Ptr b (0 + k * sz + o))) (hm : rows f (.slice (some ⟨b, 0, none⟩) len cap) E sz l ∈ σ) (hz : ∀ x, (f x).length = sz) (hk : l[k]? = some a)
    (h1 : lk1 tb.one T = some u := by exact rfl) (hv : (f a)[o]? = some v := by exact rfl) : Val P n env σ ⟨some dst, .load T x, ty, pos, af, gd⟩ v := Val.of fun a' w hF hH => by
  have hown := hH.get _ hm
  rw [rows_eq, row_holds] at hown
  simp only [execOp, hF.eval hx, Instr.loadAt, Instr.sureAddr, Sem.run_bind, Sem.run_pure, Result.andThen_ok]
  have := hown.cells (g := b) rfl (k * sz + o) v (by
    have hv2 := hv
    rw [← flatMap_seg hz l k a hk] at hv2
    simp only [seg, List.getElem?_take, List.getElem?_drop] at hv2
    split at hv2
    · exact hv2
    · cases hv2)
  rw [cellAdd] at this
  rw [run_loadVar_one (tb.oneAt h1) (by simpa [Nat.add_assoc] using this)]
  rfl
/-- The same of a slice that reads. -/
theorem V.rdFA (tb : Tabs P) {T sz b k o q off len : Nat} {ao : Option Addr} {e : Ent} {x : Operand} {xs : List (List Value)} {c0 c : List Value} (hx : ev env x = some (Ptr b (off + k * sz + o))) (hR : Rd e ao len b off sz xs) (hk : xs[k]? = some c0)
    (hm : e ∈ σ := by (repeat first | exact List.Mem.head _ | apply List.Mem.tail)) (h1 : lk1 tb.agg T = some q := by exact rfl) (hl : Nat.ble (o + q) sz = true := by exact rfl) (hs : SegOf o q c0 c := by infer_instance) : Val P n env σ ⟨some dst, .load T x, ty, pos, af, gd⟩ (A c) := Val.of fun a' w hF hH => by
  obtain ⟨d, hu, hd, hi⟩ := aggB_spec (tb.aggAt h1)
  have hl' := Nat.le_of_ble_eq_true hl
  have hc := hs.eq
  have hr := hR.reads w (hH.get _ hm) k c0 hk
  simp only [execOp, hF.eval hx, Instr.loadAt, Instr.sureAddr, Sem.run_bind, Sem.run_pure, Result.andThen_ok]
  have hcl : c.length = q := by rw [← hc, seg, List.length_take, List.length_drop, hr.1]; omega
  rw [run_loadVar_mid w b (off + k * sz + o) T c d (fun j v hv => ?_) hu hd (by rw [hi, hcl])]
  · rfl
  · have hv2 : c0[o + j]? = some v := by
      rw [← hc] at hv
      simp only [seg, List.getElem?_take, List.getElem?_drop] at hv
      split at hv
      · exact hv
      · cases hv
    have := hr.2 (o + j) v hv2
    simpa [Nat.add_assoc] using this
theorem V.rdF1 (tb : Tabs P) {T u sz b k o off len : Nat} {ao : Option Addr} {e : Ent} {x : Operand} {xs : List (List Value)} {c0 : List Value} {v : Value} (hx : ev env x = some (Ptr b (off + k * sz + o))) (hR : Rd e ao len b off sz xs) (hk : xs[k]? = some c0)
    (hm : e ∈ σ := by (repeat first | exact List.Mem.head _ | apply List.Mem.tail)) (h1 : lk1 tb.one T = some u := by exact rfl) (hv : c0[o]? = some v := by exact rfl) : Val P n env σ ⟨some dst, .load T x, ty, pos, af, gd⟩ v := Val.of fun a' w hF hH => by
  have hr := hR.reads w (hH.get _ hm) k c0 hk
  simp only [execOp, hF.eval hx, Instr.loadAt, Instr.sureAddr, Sem.run_bind, Sem.run_pure, Result.andThen_ok]
  rw [run_loadVar_one (tb.oneAt h1) (by simpa [Nat.add_assoc] using hr.2 o v hv)]
  rfl
theorem splice_at (p o : Nat) (x c : List Value) {sz k : Nat} (hp : p = k * sz + o) (hl : k * sz + sz ≤ c.length) (ho : o + x.length ≤ sz) : splice p x c = splice (k * sz) (splice o x (seg (k * sz) sz c)) c := by
  subst hp
  have hsl : (seg (k * sz) sz c).length = sz := by rw [seg, List.length_take, List.length_drop]; omega
  apply List.ext_getElem?
  intro j
  rw [get_splice _ _ _ _ (by omega), get_splice _ _ _ _ (by omega), splice_length _ _ _ (by rw [hsl]; exact ho), hsl]
  by_cases h1 : j < k * sz
  · rw [if_pos (by omega), if_pos h1]
  · rw [if_neg h1]
    by_cases h2 : j < k * sz + sz
    · rw [if_pos h2, get_splice _ _ _ _ (by rw [hsl]; omega)]
      by_cases h3 : j < k * sz + o
      · rw [if_pos h3, if_pos (by omega), seg, List.getElem?_take, if_pos (by omega), List.getElem?_drop]
        congr 1; omega
      · rw [if_neg h3]
        by_cases h4 : j < k * sz + o + x.length
        · rw [if_pos h4, if_neg (by omega), if_pos (by omega)]
          congr 1; omega
        · rw [if_neg h4, if_neg (by omega), if_neg (by omega), seg, List.getElem?_take, if_pos (by omega), List.getElem?_drop]
          congr 1; omega
    · rw [if_neg (by omega), if_neg (by omega), if_neg h2]
/-- A store into a field of a row's element. -/
theorem O.stRowF1 (tb : Tabs P) {T u E g k o len cap sz : Nat} {x y : Operand} {l : List α} {a a' : α} {v : Value} (hx : ev env x = some (Ptr g (0 + k * sz + o))) (hy : ev env y = some v) (hv1 : v.oneCell' = true) (ha : l[k]? = some a) (hs : SplOf o [v] (f a) (f a'))
    (hm : Upd σ (rows f (.slice (some ⟨g, 0, none⟩) len cap) E sz l) (rows f (.slice (some ⟨g, 0, none⟩) len cap) E sz (l.set k a')) σ') (hl : l.length = len) (hz : ∀ x, (f x).length = sz) (ho : Nat.blt o sz = true)
    (hC : C env σ') (h2 : lk1 tb.one T = some u := by exact rfl) : Op1 P r W D n ⟨none, .store T x y, ty, pos, af, gd⟩ env σ C := Op1.of fun K Q hK a0 w hF hH => by
  subst hl
  have ho' : o < sz := by rw [Nat.blt_eq] at ho; exact ho
  have hk : k < l.length := (List.getElem?_eq_some_iff.1 ha).1
  have hle : (k + 1) * sz ≤ l.length * sz := Nat.mul_le_mul_right sz hk
  rw [Nat.add_mul] at hle
  have hfl : (l.flatMap f).length = l.length * sz := flatMap_len hz l
  have hm' : Upd σ (row (.slice (some ⟨g, 0, none⟩) l.length cap) E sz l.length (l.flatMap f)) (row (.slice (some ⟨g, 0, none⟩) l.length cap) E sz l.length (splice (k * sz + o) [v] (l.flatMap f))) σ' := by
    have := hm
    simp only [rows_eq, List.length_set] at this
    rw [splice_at (k * sz + o) o [v] (l.flatMap f) rfl (by omega) (by rw [List.length_singleton]; omega), flatMap_seg hz l k a ha, hs.eq, flatMap_set hz l k a' hk]
    exact this
  obtain ⟨w1, hr, hH1⟩ := H.setRowE (P := P) hH hm' (by rw [hfl, List.length_singleton]; omega) (by simp [hv1])
  refine opW_skip rfl ?_ (hK _ _ hC _ _ (hF.putNone undef) hH1)
  have hsz : (P.info? T).map (·.size) = some 1 := tb.sizeOne h2
  obtain ⟨i, hi, hi'⟩ := Option.map_eq_some_iff.1 hsz
  have hvc : v.cells = #[v] := by cases v <;> first | rfl | (cases hv1; done)
  simp only [execOp, hF.eval hx, hF.eval hy, Instr.storeAt, Instr.sureAddr, Sem.run_bind, Sem.run_pure, Result.andThen_ok]
  have hst : (storeVar T ⟨g, 0 + k * sz + o, none⟩ v).run P w = .ok () w1 := by
    rw [Nat.zero_add]
    simp [storeVar, sizeOf, typeInfo, hi, hvc, hi', hr]
  rw [hst]
  rfl
theorem O.stRowFA (tb : Tabs P) {T q E g k o len cap sz : Nat} {x y : Operand} {l : List α} {a a' : α} {c : List Value} (hx : ev env x = some (Ptr g (0 + k * sz + o))) (hy : ev env y = some (A c)) (ha : l[k]? = some a) (hs : SplOf o c (f a) (f a')) (hcl : c.length = q) (hc1 : c.all (·.oneCell') = true)
    (hm : Upd σ (rows f (.slice (some ⟨g, 0, none⟩) len cap) E sz l) (rows f (.slice (some ⟨g, 0, none⟩) len cap) E sz (l.set k a')) σ') (hl : l.length = len) (hz : ∀ x, (f x).length = sz) (ho : Nat.ble (o + q) sz = true)
    (hC : C env σ') (h2 : lk1 tb.agg T = some q := by exact rfl) : Op1 P r W D n ⟨none, .store T x y, ty, pos, af, gd⟩ env σ C := Op1.of fun K Q hK a0 w hF hH => by
  subst hl
  subst hcl
  have ho' := Nat.le_of_ble_eq_true ho
  have hk : k < l.length := (List.getElem?_eq_some_iff.1 ha).1
  have hle : (k + 1) * sz ≤ l.length * sz := Nat.mul_le_mul_right sz hk
  rw [Nat.add_mul] at hle
  have hfl : (l.flatMap f).length = l.length * sz := flatMap_len hz l
  have hm' : Upd σ (row (.slice (some ⟨g, 0, none⟩) l.length cap) E sz l.length (l.flatMap f)) (row (.slice (some ⟨g, 0, none⟩) l.length cap) E sz l.length (splice (k * sz + o) c (l.flatMap f))) σ' := by
    have := hm
    simp only [rows_eq, List.length_set] at this
    rw [splice_at (k * sz + o) o c (l.flatMap f) rfl (by omega) ho', flatMap_seg hz l k a ha, hs.eq, flatMap_set hz l k a' hk]
    exact this
  obtain ⟨w1, hr, hH1⟩ := H.setRowE (P := P) hH hm' (by omega) hc1
  refine opW_skip rfl ?_ (hK _ _ hC _ _ (hF.putNone undef) hH1)
  have hsz : (P.info? T).map (·.size) = some c.length := tb.sizeAgg h2
  obtain ⟨i, hi, hi'⟩ := Option.map_eq_some_iff.1 hsz
  simp only [execOp, hF.eval hx, hF.eval hy, Instr.storeAt, Instr.sureAddr, Sem.run_bind, Sem.run_pure, Result.andThen_ok]
  have hst : (storeVar T ⟨g, 0 + k * sz + o, none⟩ (A c)).run P w = .ok () w1 := by
    rw [Nat.zero_add]
    simp [storeVar, sizeOf, typeInfo, hi, Value.cells, hi', hr]
  rw [hst]
  rfl
end
end Go.HL
