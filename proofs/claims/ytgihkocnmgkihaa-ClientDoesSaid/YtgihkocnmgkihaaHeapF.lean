/-
  A sixth part of the heap logic: parts of rows: slices of slices; what is appended, or cleared, within a row.
-/
import Derived.Laws.OwnMore
import Derived.Test.YtgihkocnmgkihaaHeap
namespace Go.HL
open Go
section
variable {P : Program} {r : Option Nat} {W : World} {D : List Nat} {n : Fm} {env : Env} {σ σ' : List Ent} {α : Type} {f : α → List Value}
variable {dst : Nat} {ty : TypeId} {pos : String} {af : Array Edge} {gd : Option (Nat × Bool)} {C : Env → List Ent → Prop}
def ptrTB6 (P : Program) (t e : TypeId) : Bool := match P.underlying t with | some (.pointer e') => e == e' | _ => false
theorem ptrTB6_spec {t e : TypeId} (h : ptrTB6 P t e = true) : P.underlying t = some (.pointer e) := by
  unfold ptrTB6 at h
  split at h
  · rename_i e' he
    simp only [beq_iff_eq] at h
    rw [he, h]
  · cases h
/-- Where a part of a slice begins. -/
def partAt (a : Option Addr) (cap i sz : Nat) : Option Addr := if cap = i then a else a.map (·.add (i * sz))
theorem V.slPart (tb : Tabs P) {t E sz i j len cap : Nat} {k1 k2 : IntKind} {x lo hi : Operand} {a : Option Addr} (hx : ev env x = some (.slice a len cap)) (hl : ev env lo = some (.int k1 (i : Int))) (hh : ev env hi = some (.int k2 (j : Int)))
    (h1 : i ≤ j) (h2 : j ≤ cap) (ht : lk1 tb.slc t = some E := by exact rfl) (hs : lk1 tb.szs E = some sz := by exact rfl) : Val P n env σ ⟨some dst, .slice t x (some lo) (some hi) none, ty, pos, af, gd⟩ (.slice (partAt a cap i sz) (j - i) (cap - i)) := Val.of fun a' w hF _ => by
  have hi1 : (0 : Int) ≤ (i : Int) := by omega
  have hj1 : (0 : Int) ≤ (j : Int) := by omega
  simp only [execOp, Instr.sliceAt, Option.map_some, hF.eval hx, hF.eval hl, hF.eval hh]
  simp [Instr.slice, Instr.sliceBounds, Instr.sliceBound, asIntOf, run_underlying (sliceTB_spec (tb.slcAt ht)), h1, h2, hi1, hj1, run_sizeOf (tb.szAt hs), partAt]
theorem V.slFrom (tb : Tabs P) {t E sz i len cap : Nat} {k1 : IntKind} {x lo : Operand} {a : Option Addr} (hx : ev env x = some (.slice a len cap)) (hl : ev env lo = some (.int k1 (i : Int)))
    (h1 : i ≤ len) (ht : lk1 tb.slc t = some E := by exact rfl) (hs : lk1 tb.szs E = some sz := by exact rfl) : Val P n env σ ⟨some dst, .slice t x (some lo) none none, ty, pos, af, gd⟩ (.slice (partAt a cap i sz) (len - i) (cap - i)) := Val.of fun a' w hF _ => by
  have hi1 : (0 : Int) ≤ (i : Int) := by omega
  simp only [execOp, Instr.sliceAt, Option.map_some, hF.eval hx, hF.eval hl]
  simp [Instr.slice, Instr.sliceBounds, Instr.sliceBound, asIntOf, run_underlying (sliceTB_spec (tb.slcAt ht)), h1, hi1, run_sizeOf (tb.szAt hs), partAt]
theorem V.slTo (tb : Tabs P) {t E sz j len cap : Nat} {k2 : IntKind} {x hi : Operand} {a : Option Addr} (hx : ev env x = some (.slice a len cap)) (hh : ev env hi = some (.int k2 (j : Int)))
    (h2 : j ≤ cap) (ht : lk1 tb.slc t = some E := by exact rfl) (hs : lk1 tb.szs E = some sz := by exact rfl) : Val P n env σ ⟨some dst, .slice t x none (some hi) none, ty, pos, af, gd⟩ (.slice a j cap) := Val.of fun a' w hF _ => by
  have hj1 : (0 : Int) ≤ (j : Int) := by omega
  have e : (a.map fun x => x.add 0) = a := by cases a <;> simp [Addr.add]
  simp only [execOp, Instr.sliceAt, Option.map_some, hF.eval hx, hF.eval hh]
  simp [Instr.slice, Instr.sliceBounds, Instr.sliceBound, asIntOf, run_underlying (sliceTB_spec (tb.slcAt ht)), h2, hj1, run_sizeOf (tb.szAt hs), e]
theorem V.slPart3 (tb : Tabs P) {t E sz i j m len cap : Nat} {k1 k2 k3 : IntKind} {x lo hi mx : Operand} {a : Option Addr} (hx : ev env x = some (.slice a len cap)) (hl : ev env lo = some (.int k1 (i : Int))) (hh : ev env hi = some (.int k2 (j : Int))) (hm : ev env mx = some (.int k3 (m : Int)))
    (h1 : i ≤ j) (h2 : j ≤ m) (h3 : m ≤ cap) (ht : lk1 tb.slc t = some E := by exact rfl) (hs : lk1 tb.szs E = some sz := by exact rfl) : Val P n env σ ⟨some dst, .slice t x (some lo) (some hi) (some mx), ty, pos, af, gd⟩ (.slice (partAt a m i sz) (j - i) (m - i)) := Val.of fun a' w hF _ => by
  have hi1 : (0 : Int) ≤ (i : Int) := by omega
  have hj1 : (0 : Int) ≤ (j : Int) := by omega
  have hm1 : (0 : Int) ≤ (m : Int) := by omega
  simp only [execOp, Instr.sliceAt, Option.map_some, hF.eval hx, hF.eval hl, hF.eval hh, hF.eval hm]
  simp [Instr.slice, Instr.sliceBounds, Instr.sliceBound, asIntOf, run_underlying (sliceTB_spec (tb.slcAt ht)), h1, h2, h3, hi1, hj1, hm1, run_sizeOf (tb.szAt hs), partAt]

theorem flat_take {sz : Nat} (hz : ∀ x, (f x).length = sz) : ∀ (l : List α) (k : Nat), k ≤ l.length → (l.flatMap f).take (k * sz) = (l.take k).flatMap f
  | [], k, h => by simp
  | x :: l, 0, _ => by simp
  | x :: l, k + 1, h => by
    have e1 := hz x
    have ih := flat_take hz l k (by simpa using h)
    rw [List.take_succ_cons, List.flatMap_cons, List.flatMap_cons, List.take_append, e1, show (k + 1) * sz = sz + k * sz by rw [Nat.add_mul]; omega, show sz + k * sz - sz = k * sz by omega, ih]
    rw [List.take_of_length_le (by omega)]
theorem flat_drop {sz : Nat} (hz : ∀ x, (f x).length = sz) : ∀ (l : List α) (k : Nat), k ≤ l.length → (l.flatMap f).drop (k * sz) = (l.drop k).flatMap f
  | [], k, h => by simp
  | x :: l, 0, _ => by simp
  | x :: l, k + 1, h => by
    have e1 := hz x
    have ih := flat_drop hz l k (by simpa using h)
    rw [List.drop_succ_cons, List.flatMap_cons, List.drop_append, e1, show (k + 1) * sz = sz + k * sz by rw [Nat.add_mul]; omega, show sz + k * sz - sz = k * sz by omega, ih]
    rw [List.drop_of_length_le (by omega)]
    simp
theorem H.setRowR {w : World} {g cap E sz len len' : Nat} {l l' : List α} {cs : Array Value} (hH : H W D σ w) (hm : Upd σ (rows f (.slice (some ⟨g, 0, none⟩) len cap) E sz l) (rows f (.slice (some ⟨g, 0, none⟩) len' cap) E sz l') σ') (hl : len' = l'.length)
    (ho : (w.setRow g cs).ownsRow 0 E sz (.slice (some ⟨g, 0, none⟩) l'.length cap) l'.length (l'.flatMap f)) : H W D σ' (w.setRow g cs) := by
  subst hl
  refine hH.upd hm ⟨fun e he => ?_, ?_, fun y hy => ?_, fun b hlt hn => setRow_other w g b _ (fun e => hn ?_), by simp, rfl, rfl, rfl⟩
  · obtain rfl : e = _ := by simpa only [List.mem_singleton] using he
    rw [rows_eq, row_holds]; exact ho
  · rw [doms_cons, rows_eq, row_dom]; simp [doms, Value.ownBlock]
  · left
    rw [doms_cons, rows_eq, row_dom] at hy
    rw [rows_eq, row_dom]
    simpa [doms, Value.ownBlock] using hy
  · rw [rows_eq, row_dom]; simp [Value.ownBlock, e]
/-- append(s[:i], s[j:]...): within the row. -/
theorem O.apIn (tb : Tabs P) {t E sz bt g len cap i j : Nat} {x y : Operand} {l : List α} {zc : List Value} (hx : ev env x = some (.slice (some ⟨g, 0, none⟩) i cap)) (hy : ev env y = some (.slice (partAt (some ⟨g, 0, none⟩) cap j sz) (len - j) (cap - j)))
    (hm : Upd σ (rows f (.slice (some ⟨g, 0, none⟩) len cap) E sz l) (rows f (.slice (some ⟨g, 0, none⟩) (i + (len - j)) cap) E sz (l.take i ++ l.drop j)) σ')
    (hl : l.length = len) (hij : i ≤ j) (hj : j ≤ len) (hz : ∀ x, (f x).length = sz) (h1 : Ones f) (hC : C ((dst, .slice (some ⟨g, 0, none⟩) (i + (len - j)) cap) :: env) σ')
    (hd : Nat.blt dst n.n = true := by exact rfl) (ht : lk1 tb.slc t = some E := by exact rfl) (hsz : lk1 tb.szs E = some sz := by exact rfl) (hbt : lk1 tb.byt E = some bt := by exact rfl) (hzr : lkZ tb.zeros E = some zc := by exact rfl) :
    Op1 P r W D n ⟨some dst, .call ⟨.builtin .append, #[x, y], #[t, t]⟩, ty, pos, af, gd⟩ env σ C := Op1.of fun K Q hK a w hF hH => by
  obtain ⟨i0, z, hi, hz', hs1, hs2, hs3⟩ := tb.info hsz hbt hzr
  subst hl
  have hmem : rows f (.slice (some ⟨g, 0, none⟩) l.length cap) E sz l ∈ σ := by obtain ⟨p, q, rfl, _⟩ := hm.split; simp
  have hown := hH.mem hmem
  rw [rows_eq, row_holds] at hown
  rcases hown.2 with ⟨he, _⟩ | ⟨g', cap', cur, he, _, hg, hnc, hcm, hcs, htake⟩
  · cases he
  · simp only [Value.slice.injEq, Option.some.injEq, Addr.mk.injEq] at he
    obtain ⟨⟨rfl, _⟩, _, rfl⟩ := he
    have hcl : cur.toList.length = cap * sz := by simpa using hcs
    obtain ⟨news, hnews⟩ : ∃ news, news = (l.drop j).flatMap f := ⟨_, rfl⟩
    have hnl : news.length = (l.length - j) * sz := by rw [hnews, flatMap_len hz]; simp
    have hmul1 : i * sz + (l.length - j) * sz ≤ cap * sz := by rw [← Nat.add_mul]; exact Nat.mul_le_mul_right _ (by omega)
    have hone : ∀ u ∈ news, u.oneCell' = true := by rw [hnews]; exact List.all_eq_true.1 (h1.flat _)
    have hsrc : Src P sz t (.slice (partAt (some ⟨g, 0, none⟩) cap j sz) (l.length - j) (cap - j)) (l.length - j) news w := by
      unfold partAt
      split
      · rename_i hcj
        have h0 : l.length - j = 0 := by omega
        have hn0 : news = [] := List.eq_nil_of_length_eq_zero (by rw [hnl, h0, Nat.zero_mul])
        rw [hn0, h0]
        exact Src.ofSlice w (sliceTB_spec (tb.slcAt ht)) _ _ _ _ (by simp) (fun j u hu => by simp at hu) (fun u hu => by cases hu)
      · refine Src.ofSlice w (sliceTB_spec (tb.slcAt ht)) _ _ _ _ hnl (fun k u hu => ?_) hone
        have hd : news = (l.flatMap f).drop (j * sz) := by rw [hnews, flat_drop hz l j hj]
        have hk : k < news.length := (List.getElem?_eq_some_iff.1 hu).1
        rw [hd, List.getElem?_drop, ← htake, List.getElem?_take] at hu
        split at hu
        · have hu' : cur[j * sz + k]? = some u := by simpa using hu
          simp only [Addr.add_lit, Nat.zero_add, World.cell?, hg]
          simpa using hu'
        · cases hu
    have hst := run_storeCells_at P g (i * sz) E news 0 cur w hg (by simp only [Nat.add_zero, hnl]; omega) hone
    simp only [Nat.add_zero] at hst
    have hr : (Builtin.append_ #[t, t] ty #[.slice (some ⟨g, 0, none⟩) i cap, .slice (partAt (some ⟨g, 0, none⟩) cap j sz) (l.length - j) (cap - j)]).run P w =
        .ok (.slice (some ⟨g, 0, none⟩) (i + (l.length - j)) cap) (w.setRow g (cur.toList.take (i * sz) ++ news ++ cur.toList.drop (i * sz + news.length)).toArray) := by
      have hroom : i + (l.length - j) ≤ cap := by omega
      have hsrc' := hsrc
      rw [← hs1] at hsrc' hst ⊢
      simp [Builtin.append_, run_underlying (sliceTB_spec (tb.slcAt ht)), sizeOf, typeInfo, hi, hsrc'.len, hroom, hsrc'.cells, Addr.add_lit, hst]
    have hlen : (l.take i ++ l.drop j).length = i + (l.length - j) := by simp; omega
    have hfl : (l.take i ++ l.drop j).flatMap f = (l.take i).flatMap f ++ news := by rw [List.flatMap_append, hnews]
    have htk : cur.toList.take (i * sz) = (l.take i).flatMap f := by
      rw [← flat_take hz l i (by omega), ← htake, List.take_take, Nat.min_eq_left (Nat.mul_le_mul_right _ (by omega))]
    have hti : ((l.take i).flatMap f).length = i * sz := by rw [flatMap_len hz]; congr 1; simp; omega
    have hH' : H W D σ' (w.setRow g (cur.toList.take (i * sz) ++ news ++ cur.toList.drop (i * sz + news.length)).toArray) := by
      refine H.setRowR hH hm hlen.symm ⟨by rw [hlen, hfl, List.length_append, hti, hnl, Nat.add_mul], .inr ⟨g, cap, _, rfl, Nat.zero_le _, setRow_heap w g cur _ E _ hg, by omega, hcm, ?_, ?_⟩⟩
      · simp only [List.size_toArray, List.length_append, List.length_take, List.length_drop, hcl]
        omega
      · rw [htk, hfl, hlen, Nat.add_mul, ← hnl, ← hti, ← List.length_append]
        exact List.take_left
    refine opW_value (v := .slice (some ⟨g, 0, none⟩) (i + (l.length - j)) cap) rfl ?_ (hK _ _ hC _ _ (hF.put hd _) hH')
    simp only [execOp, resolve, invoke, builtin, List.map_toArray, List.map_cons, List.map_nil, hF.eval hx, hF.eval hy, Sem.run_bind, Sem.run_pure, Result.andThen_ok, hr]
/-- clear(s[k:m]), behind all that is known of the row. -/
theorem O.clrIn (tb : Tabs P) {t E sz bt g len cap o m c : Nat} {x : Operand} {l : List α} {zc : List Value} (hx : ev env x = some (.slice (partAt (some ⟨g, 0, none⟩) cap o sz) m c))
    (hm : Upd σ (rows f (.slice (some ⟨g, 0, none⟩) len cap) E sz l) (rows f (.slice (some ⟨g, 0, none⟩) len cap) E sz l) σ')
    (hl : l.length = len) (ho : len ≤ o) (hoc : o + m ≤ cap) (hC : C env σ')
    (ht : lk1 tb.slc t = some E := by exact rfl) (hsz : lk1 tb.szs E = some sz := by exact rfl) (hbt : lk1 tb.byt E = some bt := by exact rfl) (hzr : lkZ tb.zeros E = some zc := by exact rfl)
    (hzl : zc.length = sz := by exact rfl) (hz1 : zc.all (·.oneCell') = true := by exact rfl) :
    Op1 P r W D n ⟨none, .call ⟨.builtin .clear, #[x], #[t]⟩, ty, pos, af, gd⟩ env σ C := Op1.of fun K Q hK a w hF hH => by
  obtain ⟨i0, z, hi, hz', hs1, hs2, hs3⟩ := tb.info hsz hbt hzr
  subst hl
  have hmem : rows f (.slice (some ⟨g, 0, none⟩) l.length cap) E sz l ∈ σ := by obtain ⟨p, q, rfl, _⟩ := hm.split; simp
  have hσ : σ' = σ := by obtain ⟨p, q, rfl, rfl⟩ := hm.split; rfl
  by_cases hm0 : m = 0
  · subst hm0
    refine opW_value (v := .tuple #[]) rfl ?_ (hK _ _ hC _ _ (hF.putNone _) (by rw [hσ]; exact hH))
    have : (Builtin.clear_ #[t] ty #[.slice (partAt (some ⟨g, 0, none⟩) cap o sz) 0 c]).run P w = .ok (.tuple #[]) w := by
      simp only [partAt]
      split <;> simp [Builtin.clear_, run_underlying (sliceTB_spec (tb.slcAt ht))]
    simp [execOp, resolve, invoke, builtin, hF.eval hx, this]
  · have hown := hH.mem hmem
    rw [rows_eq, row_holds] at hown
    rcases hown.2 with ⟨he, _⟩ | ⟨g', cap', cur, he, _, hg, hnc, hcm, hcs, htake⟩
    · cases he
    · simp only [Value.slice.injEq, Option.some.injEq, Addr.mk.injEq] at he
      obtain ⟨⟨rfl, _⟩, _, rfl⟩ := he
      have hcl : cur.toList.length = cap * sz := by simpa using hcs
      have hzv : (zeroValue E).run P w = .ok z w := by simp [zeroValue, typeInfo, hi, hz']
      have hzc : z.cells.size = sz := by rw [← Array.length_toList, hs3, hzl]
      obtain ⟨zs, hzs⟩ : ∃ zs, zs = (Builtin.zeroCells z.cells m).toList := ⟨_, rfl⟩
      have hzsl : zs.length = m * sz := by rw [hzs]; simp [Builtin.zeroCells, hzc]
      have hone : ∀ u ∈ zs, u.oneCell' = true := by
        intro u hu
        rw [hzs] at hu
        have hsz0 : sz ≠ 0 := by
          intro h; rw [h] at hzsl
          have : zs = [] := List.eq_nil_of_length_eq_zero (by simpa using hzsl)
          rw [← hzs, this] at hu; cases hu
        simp only [Builtin.zeroCells, Array.toList_map, Array.toList_range, List.mem_map, List.mem_range] at hu
        obtain ⟨q, _, rfl⟩ := hu
        have hlt : q % z.cells.size < z.cells.size := Nat.mod_lt _ (by omega)
        rw [getElem!_pos z.cells _ hlt]
        exact List.all_eq_true.1 hz1 _ (by rw [← hs3]; simp)
      have hmul1 : o * sz + m * sz ≤ cap * sz := by rw [← Nat.add_mul]; exact Nat.mul_le_mul_right _ hoc
      have hmul2 : l.length * sz ≤ o * sz := Nat.mul_le_mul_right _ ho
      have hst := run_storeCells_at P g (o * sz) E zs 0 cur w hg (by simp only [Nat.add_zero, hzsl]; omega) hone
      simp only [Nat.add_zero] at hst
      have hpa : partAt (some ⟨g, 0, none⟩) cap o sz = some ⟨g, o * sz, none⟩ := by
        unfold partAt
        rw [if_neg (by omega)]
        simp [Addr.add_lit]
      have hr : (Builtin.clear_ #[t] ty #[.slice (some ⟨g, o * sz, none⟩) m c]).run P w = .ok (.tuple #[]) (w.setRow g (cur.toList.take (o * sz) ++ zs ++ cur.toList.drop (o * sz + zs.length)).toArray) := by
        obtain ⟨m', rfl⟩ : ∃ m', m = m' + 1 := ⟨m - 1, by omega⟩
        simp [Builtin.clear_, run_underlying (sliceTB_spec (tb.slcAt ht)), hzv, ← hzs, hst]
      have hH' : H W D σ' (w.setRow g (cur.toList.take (o * sz) ++ zs ++ cur.toList.drop (o * sz + zs.length)).toArray) := by
        refine H.setRowR hH hm rfl ⟨hown.1, .inr ⟨g, cap, _, rfl, Nat.zero_le _, setRow_heap w g cur _ E _ hg, hnc, hcm, ?_, ?_⟩⟩
        · simp only [List.size_toArray, List.length_append, List.length_take, List.length_drop, hcl]
          omega
        · rw [List.append_assoc, List.take_append_of_le_length (by simp only [List.length_take, hcl]; omega), List.take_take, Nat.min_eq_left hmul2]
          exact htake
      refine opW_value (v := .tuple #[]) rfl ?_ (hK _ _ hC _ _ (hF.putNone _) hH')
      simp only [execOp, resolve, invoke, builtin, List.map_toArray, List.map_cons, List.map_nil, hF.eval hx, hpa, Sem.run_bind, Sem.run_pure, Result.andThen_ok, hr]
/-- append to a slice that has no room: a new row. -/
theorem O.apNew (tb : Tabs P) {t tx E sz bt : Nat} {x y : Operand} {base : Option Addr} {u : Value} {l : List α} {zc : List Value} (hx : ev env x = some (.slice base 0 0)) (hy : ev env y = some u)
    (hs : SrcL P σ f sz tx u l) (h0 : l ≠ []) (hz : ∀ x, (f x).length = sz)
    (hC : ∀ g cap, C ((dst, .slice (some ⟨g, 0, none⟩) l.length cap) :: env) (rows f (.slice (some ⟨g, 0, none⟩) l.length cap) E sz l :: σ))
    (hd : Nat.blt dst n.n = true := by exact rfl) (ht : lk1 tb.slc t = some E := by exact rfl) (hsz : lk1 tb.szs E = some sz := by exact rfl) (hbt : lk1 tb.byt E = some bt := by exact rfl) (hzr : lkZ tb.zeros E = some zc := by exact rfl)
    (hzl : zc.length = sz := by exact rfl) (h63 : l.length ≤ 9223372036854775807 := by omega) (hbb : l.length * bt ≤ 140737488355328 := by omega) :
    Op1 P r W D n ⟨some dst, .call ⟨.builtin .append, #[x, y], #[t, tx]⟩, ty, pos, af, gd⟩ env σ C := Op1.of fun K Q hK a w hF hH => by
  obtain ⟨i, z, hi, hz', hs1, hs2, hs3⟩ := tb.info hsz hbt hzr
  have hsrc : Src P sz tx u l.length (l.flatMap f) w := hs w hH.hold
  have hpos : 0 < l.length := List.length_pos_iff.2 h0
  have hzc : z.cells.size = sz := by rw [← Array.length_toList, hs3, hzl]
  have hold : (Builtin.firstCells i.size 0 (.slice base 0 0)).run P w.drew = .ok (#[] : Array Value) w.drew := by
    cases base with
    | none => rfl
    | some b => exact run_firstCells_some w.drew i.size 0 b 0 0 [] (by simp) (by simp)
  have hfl : (l.flatMap f).length = l.length * sz := flatMap_len hz l
  subst hs1
  subst hs2
  have hr := run_append_grow_src (P := P) w t tx ty E i z (sliceTB_spec (tb.slcAt ht)) hi hz' base 0 0 [] hold u l.length (l.flatMap f) hsrc (by omega) (by omega) (growslice_fits (by omega) (by simpa using hbb))
  simp only [Nat.zero_add, List.nil_append] at hr
  have hge := grownCap_ge w l.length 0 E
  have hcm : grownCap w l.length 0 E ≤ maxLen := grownCap_le_maxLen w l.length 0 E (by simp only [maxLen]; omega)
  have hH' : H W D (rows f (.slice (some ⟨w.heap.size, 0, none⟩) l.length (grownCap w l.length 0 E)) E i.size l :: σ) (w.drew.alloc (.cells ((l.flatMap f).toArray ++ Builtin.zeroCells z.cells (grownCap w l.length 0 E - l.length)) E)) := by
    refine H.new (σf' := [rows f (.slice (some ⟨w.heap.size, 0, none⟩) l.length (grownCap w l.length 0 E)) E i.size l]) hH ⟨fun e he => ?_, ?_, fun b hb => ?_, fun k hk _ => heap_alloc_old w.drew _ hk, by simp, rfl, rfl, rfl⟩
    · obtain rfl : e = _ := by simpa only [List.mem_singleton] using he
      rw [rows_eq, row_holds]
      refine ⟨hfl, .inr ⟨w.heap.size, _, _, rfl, Nat.zero_le _, heap_alloc_new w.drew _, hge, hcm, ?_, ?_⟩⟩
      · simp only [Array.size_append, List.size_toArray, size_zeroCells, hzc, hfl, ← Nat.add_mul]
        congr 1
        omega
      · simp only [Array.toList_append]
        rw [← hfl]
        exact List.take_left
    · rw [doms_cons, rows_eq, row_dom]; simp [doms, Value.ownBlock]
    · rw [doms_cons, rows_eq, row_dom] at hb
      right
      have : b = w.heap.size := by simpa [doms, Value.ownBlock] using hb
      omega
  refine opW_value (v := .slice (some ⟨w.heap.size, 0, none⟩) l.length (grownCap w l.length 0 E)) rfl ?_ (hK _ _ (hC _ _) _ _ (hF.put hd _) hH')
  simp only [execOp, resolve, invoke, builtin, List.map_toArray, List.map_cons, List.map_nil, hF.eval hx, hF.eval hy, Sem.run_bind, Sem.run_pure, Result.andThen_ok, hr]
/-- append of nothing. -/
theorem V.apNone (tb : Tabs P) {t tx E sz bt len cap : Nat} {x y : Operand} {base : Option Addr} {u : Value} {zc : List Value} (hx : ev env x = some (.slice base len cap)) (hy : ev env y = some u)
    (hs : SrcL P σ f sz tx u []) (hle : len ≤ cap) (ht : lk1 tb.slc t = some E := by exact rfl) (hsz : lk1 tb.szs E = some sz := by exact rfl) (hbt : lk1 tb.byt E = some bt := by exact rfl) (hzr : lkZ tb.zeros E = some zc := by exact rfl) :
    Val P n env σ ⟨some dst, .call ⟨.builtin .append, #[x, y], #[t, tx]⟩, ty, pos, af, gd⟩ (.slice base len cap) := Val.of fun a w hF hH => by
  obtain ⟨i, z, hi, hz', hs1, hs2, hs3⟩ := tb.info hsz hbt hzr
  have hsrc : Src P sz tx u 0 [] w := hs w hH
  subst hs1
  have hr : (Builtin.append_ #[t, tx] ty #[.slice base len cap, u]).run P w = .ok (.slice base len cap) w := by
    have hc := hsrc.cells
    rcases hsrc.kind with ⟨e', hk⟩ | hk <;> cases base <;> simp [Builtin.append_, run_underlying (sliceTB_spec (tb.slcAt ht)), run_underlying hk, sizeOf, typeInfo, hi, hsrc.len, hle, hc, storeCells]
  simp only [execOp, resolve, invoke, builtin, List.map_toArray, List.map_cons, List.map_nil, hF.eval hx, hF.eval hy, Sem.run_bind, Sem.run_pure, Result.andThen_ok, hr]
/-- A part of a row, to be appended. -/
theorem SrcL.part (tb : Tabs P) {E tx e' sz g cap i j : Nat} {l : List α} {c : Nat} {v : Value} (hv : v = .slice (partAt (some ⟨g, 0, none⟩) cap i sz) (j - i) c) (hm : HL.rows f (.slice (some ⟨g, 0, none⟩) l.length cap) E sz l ∈ σ) (hij : i ≤ j) (hj : j ≤ l.length)
    (hz : ∀ x, (f x).length = sz) (h1 : Ones f) (ht : lk1 tb.slc tx = some e' := by exact rfl) : SrcL P σ f sz tx v ((l.drop i).take (j - i)) := by
  intro w hw
  subst hv
  have hown := hw.get _ hm
  rw [rows_eq, row_holds] at hown
  have hlen : ((l.drop i).take (j - i)).length = j - i := by simp; omega
  rw [hlen]
  rcases hown.2 with ⟨he, _⟩ | ⟨g', cap', cur, he, _, hg, hnc, hcm, hcs, htake⟩
  · cases he
  · simp only [Value.slice.injEq, Option.some.injEq, Addr.mk.injEq] at he
    obtain ⟨⟨rfl, _⟩, _, rfl⟩ := he
    obtain ⟨news, hnews⟩ : ∃ news, news = ((l.drop i).take (j - i)).flatMap f := ⟨_, rfl⟩
    have hnl : news.length = (j - i) * sz := by rw [hnews, flatMap_len hz, hlen]
    rw [← hnews]
    unfold partAt
    split
    · have h0 : j - i = 0 := by omega
      have hn0 : news = [] := List.eq_nil_of_length_eq_zero (by rw [hnl, h0, Nat.zero_mul])
      rw [hn0, h0]
      exact Src.ofSlice w (sliceTB_spec (tb.slcAt ht)) _ _ _ _ (by simp) (fun j u hu => by simp at hu) (fun u hu => by cases hu)
    · refine Src.ofSlice w (sliceTB_spec (tb.slcAt ht)) _ _ _ _ hnl (fun k u hu => ?_) (by rw [hnews]; exact List.all_eq_true.1 (h1.flat _))
      have hd : news = ((l.flatMap f).drop (i * sz)).take ((j - i) * sz) := by rw [hnews, flat_drop hz l i (by omega), flat_take hz (l.drop i) (j - i) (by simp; omega)]
      rw [hd, List.getElem?_take] at hu
      split at hu
      · rw [List.getElem?_drop, ← htake, List.getElem?_take] at hu
        split at hu
        · have hu' : cur[i * sz + k]? = some u := by simpa using hu
          simp only [Addr.add_lit, Nat.zero_add, World.cell?, hg]
          simpa using hu'
        · cases hu
      · cases hu
theorem EqT.sliceNil {d : Nat} {t E len cap len' cap' : Nat} {a : Option Addr} (h : P.underlying t = some (.slice E)) : EqT P (d + 1) t (.slice a len cap) (.slice none len' cap') a.isNone := by
  unfold EqT
  intro w
  cases a <;> simp [Op.equalIn, run_underlying h]
/-- A slice is nil, or it isn't. -/
theorem V.eqSN (tb : Tabs P) {t ty' E len cap len' cap' : Nat} {x y : Operand} (hx : ev env x = some (.slice none len cap) := by exact rfl) (hy : ev env y = some (.slice none len' cap') := by exact rfl) (ht : lk1 tb.slc t = some E := by exact rfl) :
    Val P n env σ ⟨some dst, .binOp .eql t x y ty', ty, pos, af, gd⟩ (.bool true) := Val.eql hx hy rfl rfl (EqT.sliceNil (d := 9999) (sliceTB_spec (tb.slcAt ht)))
theorem V.eqSS (tb : Tabs P) {t ty' E len cap len' cap' : Nat} {x y : Operand} {a : Addr} (hx : ev env x = some (.slice (some a) len cap) := by exact rfl) (hy : ev env y = some (.slice none len' cap') := by exact rfl) (ht : lk1 tb.slc t = some E := by exact rfl) :
    Val P n env σ ⟨some dst, .binOp .eql t x y ty', ty, pos, af, gd⟩ (.bool false) := Val.eql hx hy rfl rfl (EqT.sliceNil (d := 9999) (sliceTB_spec (tb.slcAt ht)))
/-- clear of a part of a block of cells, through an array. -/
theorem V.slArr (tb : Tabs P) {t m E b o : Nat} {x : Operand} (hx : ev env x = some (Ptr b o)) (hA : lkA tb.arr t = some (m, E) := by exact rfl) (hs : (lk1 tb.szs E).isSome = true := by exact rfl) :
    Val P n env σ ⟨some dst, .slice t x none none none, ty, pos, af, gd⟩ (.slice (some ⟨b, o, none⟩) m m) := Val.of fun a w hF _ => by
  obtain ⟨sz, hsz⟩ := Option.isSome_iff_exists.1 hs
  have e : ((⟨b, o, none⟩ : Addr).add 0) = ⟨b, o, none⟩ := by simp [Addr.add]
  simp only [execOp, Option.map_none, hF.eval hx]
  simp [Instr.sliceAt, Instr.sliceBounds, run_underlying (tb.arrAt hA), run_sizeOf (tb.szAt hsz), Instr.sureAddr, e]
theorem O.clrC (tb : Tabs P) {t E bt b T o m cp : Nat} {x : Operand} {c c' : List Value} {z : Value} (hx : ev env x = some (.slice (some ⟨b, o, none⟩) m cp)) (hm : Upd σ (cells b T c) (cells b T c') σ') (hm0 : 0 < m) (hl : o + m ≤ c.length) (hc : splice o (List.replicate m z) c = c')
    (hC : C env σ') (ht : lk1 tb.slc t = some E := by exact rfl) (hsz : lk1 tb.szs E = some 1 := by exact rfl) (hbt : lk1 tb.byt E = some bt := by exact rfl) (hzr : lkZ tb.zeros E = some [z] := by exact rfl) (hz1 : z.oneCell' = true := by exact rfl) :
    Op1 P r W D n ⟨none, .call ⟨.builtin .clear, #[x], #[t]⟩, ty, pos, af, gd⟩ env σ C := Op1.of fun K Q hK a w hF hH => by
  subst hc
  obtain ⟨i0, z0, hi, hz', hs1, hs2, hs3⟩ := tb.info hsz hbt hzr
  have hmem : cells b T c ∈ σ := by obtain ⟨p, q, rfl, _⟩ := hm.split; simp
  have hg := hH.mem hmem
  rw [cells_holds] at hg
  have hzv : (zeroValue E).run P w = .ok z0 w := by simp [zeroValue, typeInfo, hi, hz']
  have hzc : z0.cells = #[z] := by rw [← Array.toArray_toList (xs := z0.cells), hs3]
  have hzs : (Builtin.zeroCells z0.cells m).toList = List.replicate m z := by
    rw [hzc]
    simp [Builtin.zeroCells]
    apply List.ext_getElem
    · simp
    · intro i h1 h2
      simp [Nat.mod_one]
  have hst := run_storeCells_at P b o T (List.replicate m z) 0 c.toArray w hg (by simpa using hl) (fun u hu => by rw [List.eq_of_mem_replicate hu]; exact hz1)
  simp only [Nat.add_zero] at hst
  obtain ⟨m', rfl⟩ : ∃ m', m = m' + 1 := ⟨m - 1, by omega⟩
  have hr : (Builtin.clear_ #[t] ty #[.slice (some ⟨b, o, none⟩) (m' + 1) cp]).run P w = .ok (.tuple #[]) (w.setRow b (splice o (List.replicate (m' + 1) z) c).toArray) := by
    simp [Builtin.clear_, run_underlying (sliceTB_spec (tb.slcAt ht)), hzv, hzs, hst, splice]
  refine opW_value (v := .tuple #[]) rfl ?_ (hK _ _ hC _ _ (hF.putNone _) (hH.setRow hm))
  simp only [execOp, resolve, invoke, builtin, List.map_toArray, List.map_cons, List.map_nil, hF.eval hx, Sem.run_bind, Sem.run_pure, Result.andThen_ok, hr]
theorem rep_flat {sz : Nat} {a : α} (ha : (f a).length = sz) : ∀ (m i : Nat), i < m * sz → ((List.replicate m a).flatMap f)[i]? = (f a)[i % sz]?
  | 0, i, h => by simp at h
  | m + 1, i, h => by
    rw [List.replicate_succ, List.flatMap_cons]
    by_cases hi : i < sz
    · rw [List.getElem?_append_left (by omega), Nat.mod_eq_of_lt hi]
    · rw [List.getElem?_append_right (by omega), ha]
      have e : (m + 1) * sz = m * sz + sz := by rw [Nat.add_mul]; omega
      rw [rep_flat ha m (i - sz) (by omega), Nat.mod_eq_sub_mod (by omega : i ≥ sz)]
theorem rep_len {sz : Nat} {a : α} (ha : (f a).length = sz) : ∀ (m : Nat), ((List.replicate m a).flatMap f).length = m * sz
  | 0 => by simp
  | m + 1 => by rw [List.replicate_succ, List.flatMap_cons, List.length_append, rep_len ha m, ha, Nat.add_mul]; omega
/-- make([]T, m). -/
theorem Op1.mkRow (tb : Tabs P) {t E m sz bt : Nat} {x y : Operand} {k1 k2 : IntKind} {zc : List Value} (f : α → List Value) (z0 : α) (hx : ev env x = some (.int k1 (m : Int))) (hy : ev env y = some (.int k2 (m : Int))) (hm : m ≤ 1000000)
    (hC : ∀ g, C ((dst, .slice (some ⟨g, 0, none⟩) m m) :: env) (rows f (.slice (some ⟨g, 0, none⟩) m m) E sz (List.replicate m z0) :: σ))
    (hd : Nat.blt dst n.n = true := by exact rfl) (ht : lk1 tb.slc t = some E := by exact rfl) (hs : lk1 tb.szs E = some sz := by exact rfl) (hbt : lk1 tb.byt E = some bt := by exact rfl) (hz : lkZ tb.zeros E = some zc := by exact rfl)
    (hzz : zc = f z0 := by exact rfl) (hzl : (f z0).length = sz := by exact rfl) (hbl : Nat.ble bt 100000000 = true := by exact rfl) :
    Op1 P r W D n ⟨some dst, .makeSlice t x y, ty, pos, af, gd⟩ env σ C := Op1.of fun K Q hK a w hF hH => by
  have hbl' := Nat.le_of_ble_eq_true hbl
  obtain ⟨i, z, hi, hz', h1, h2, h3⟩ := tb.info hs hbt hz
  obtain ⟨w1, hr, ho, hg⟩ := run_make_full (P := P) w 0 t E i z sz (sliceTB_spec (tb.slcAt ht)) hi hz' h1 k1 k2 m (by rw [h2]; exact Nat.le_trans (Nat.mul_le_mul hbl' hm) (by decide)) (by simp only [maxLen]; omega) (Nat.zero_le _)
  have hzc : z.cells.toList = f z0 := by rw [h3, hzz]
  have hzsz : z.cells.size = sz := by rw [← Array.length_toList, hzc, hzl]
  have hmade : (madeCells z.cells (m * sz)).toList = (List.replicate m z0).flatMap f := by
    apply List.ext_getElem?
    intro j
    by_cases hj : j < m * sz
    · rw [rep_flat hzl m j hj]
      have hsz : 0 < sz := by
        rcases Nat.eq_zero_or_pos sz with h | h
        · rw [h] at hj; omega
        · exact h
      have hlt : j % sz < z.cells.size := by rw [hzsz]; exact Nat.mod_lt _ hsz
      rw [← hzc]
      simp [madeCells, hj, hzsz, getElem!_pos z.cells (j % sz) hlt]
    · rw [List.getElem?_eq_none (by simp [madeCells]; omega), List.getElem?_eq_none]
      have hall := rep_len hzl m
      omega
  rw [hmade] at ho
  have hH1 : H w [] [rows f (.slice (some ⟨w.heap.size, 0, none⟩) m m) E sz (List.replicate m z0)] w1 := by
    refine ⟨fun e he => ?_, ?_, fun b hb => ?_, fun b hb _ => hg.block b hb (fun e => by cases e), hg.size, hg.os, hg.tape, hg.output⟩
    · obtain rfl : e = _ := by simpa only [List.mem_singleton] using he
      rw [rows_eq, row_holds, List.length_replicate]; exact ho
    · rw [doms_cons, rows_eq, row_dom]; simp [doms, Value.ownBlock]
    · rw [doms_cons, rows_eq, row_dom] at hb
      right
      have : b = w.heap.size := by simpa [doms, Value.ownBlock] using hb
      omega
  refine opW_value rfl ?_ (hK _ _ (hC w.heap.size) _ _ (hF.put hd _) (hH.new hH1))
  simp only [execOp, hF.eval hx, hF.eval hy, Sem.run_bind, hr, Result.andThen_ok, Sem.run_pure]
end
end Go.HL
