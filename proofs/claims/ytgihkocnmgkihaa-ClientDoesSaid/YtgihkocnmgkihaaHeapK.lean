/-
  An eleventh part of the heap logic: copy, the room of a slice, an append of nothing but noughts, slices that don't overlap.
-/
import Derived.Lib.Overlaps
import Derived.Lib.AppendZerosOnto
import Derived.Test.YtgihkocnmgkihaaHeapF
namespace Go.HL
open Go
section
variable {P : Program} {r : Option Nat} {W : World} {D : List Nat} {n : Fm} {env : Env} {σ σ' : List Ent} {α : Type} {f : α → List Value}
variable {dst : Nat} {ty : TypeId} {pos : String} {af : Array Edge} {gd : Option (Nat × Bool)} {C : Env → List Ent → Prop}
theorem V.capL (tb : Tabs P) {t e : TypeId} {x : Operand} {ad : Option Addr} {len cap : Nat} (hx : ev env x = some (.slice ad len cap) := by exact rfl) (ht : lk1 tb.slc t = some e := by exact rfl) :
    Val P n env σ ⟨some dst, .call ⟨.builtin .cap, #[x], #[t]⟩, ty, pos, af, gd⟩ (I (cap : Int)) := Val.of fun a w hF _ => by
  have hr : (Builtin.cap_ #[t] ty #[.slice ad len cap]).run P w = .ok (I (cap : Int)) w := by
    simp [Builtin.cap_, run_underlying (sliceTB_spec (tb.slcAt ht)), goInt]
  simp only [execOp, resolve, invoke, builtin, List.map_toArray, List.map_cons, List.map_nil, hF.eval hx, Sem.run_bind, Sem.run_pure, Result.andThen_ok, hr]
theorem rowsOwn {g E sz len cap : Nat} {l : List α} {w : World} (h : (rows f (.slice (some ⟨g, 0, none⟩) len cap) E sz l).holds w) :
    l.length = len ∧ ∃ cur : Array Value, w.heap[g]? = some (.cells cur E (0, 0)) ∧ len ≤ cap ∧ cap ≤ maxLen ∧ cur.size = cap * sz ∧ cur.toList.take (len * sz) = l.flatMap f := by
  rw [rows_eq, row_holds] at h
  rcases h.2 with ⟨he, _⟩ | ⟨g', cap', cur, he, _, hg, hnc, hcm, hcs, htake⟩
  · cases he
  · simp only [Value.slice.injEq, Option.some.injEq, Addr.mk.injEq] at he
    obtain ⟨⟨rfl, _⟩, rfl, rfl⟩ := he
    exact ⟨rfl, cur, hg, hnc, hcm, hcs, htake⟩
theorem partAt_lt {g cap o sz : Nat} (h : o < cap) : partAt (some ⟨g, 0, none⟩) cap o sz = some ⟨g, o * sz, none⟩ := by
  unfold partAt
  rw [if_neg (by omega)]
  simp [Addr.add_lit]
/-- What is read at a place of a row. -/
theorem cur_get {g E sz len i : Nat} {l : List α} {w : World} {cur : Array Value} (hz : ∀ x, (f x).length = sz) (hg : w.heap[g]? = some (.cells cur E (0, 0))) (htake : cur.toList.take (len * sz) = l.flatMap f) (hi : i ≤ l.length) :
    ∀ (k : Nat) (u : Value), ((l.drop i).flatMap f)[k]? = some u → w.cell? ((⟨g, i * sz, none⟩ : Addr).add k) = some u := by
  intro k u hu
  rw [← flat_drop hz l i hi, List.getElem?_drop, ← htake, List.getElem?_take] at hu
  split at hu
  · have hu' : cur[i * sz + k]? = some u := by simpa using hu
    simp only [Addr.add_lit, World.cell?, hg]
    simpa using hu'
  · cases hu
theorem take_three (A B E : List Value) (m : Nat) (h : A.length + B.length ≤ m) : (A ++ (B ++ E)).take m = A ++ (B ++ E.take (m - (A.length + B.length))) := by
  rw [List.take_append, List.take_of_length_le (by omega), List.take_append, List.take_of_length_le (by omega), Nat.sub_sub]
/-- copy(d[o:], s), where all of s finds room. -/
theorem Op1.cpR (tb : Tabs P) {t tx E sz bt g ld cap o dl cp : Nat} {x y : Operand} {u : Value} {md s : List α} {zc : List Value} (hx : ev env x = some (.slice (partAt (some ⟨g, 0, none⟩) cap o sz) dl cp)) (hy : ev env y = some u)
    (hs : SrcL P σ f sz tx u s) (hm : Upd σ (rows f (.slice (some ⟨g, 0, none⟩) ld cap) E sz md) (rows f (.slice (some ⟨g, 0, none⟩) ld cap) E sz (md.take o ++ (s ++ md.drop (o + s.length)))) σ')
    (hsl : s.length ≤ dl) (ho : o + dl ≤ ld) (hoc : o < cap) (hz : ∀ x, (f x).length = sz) (h1 : Ones f) (hC : C ((dst, I (s.length : Int)) :: env) σ')
    (hd : Nat.blt dst n.n = true := by exact rfl) (ht : lk1 tb.slc t = some E := by exact rfl) (hsz : lk1 tb.szs E = some sz := by exact rfl) (hbt : lk1 tb.byt E = some bt := by exact rfl) (hzr : lkZ tb.zeros E = some zc := by exact rfl) :
    Op1 P r W D n ⟨some dst, .call ⟨.builtin .copy, #[x, y], #[t, tx]⟩, ty, pos, af, gd⟩ env σ C := Op1.of fun K Q hK a w hF hH => by
  obtain ⟨i0, z, hi, hz', hs1, hs2, hs3⟩ := tb.info hsz hbt hzr
  have hmem : rows f (.slice (some ⟨g, 0, none⟩) ld cap) E sz md ∈ σ := by obtain ⟨p, q, rfl, _⟩ := hm.split; simp
  obtain ⟨hml, cur, hg, hnc, hcm, hcs, htake⟩ := rowsOwn (hH.mem hmem)
  have hsrc : Src P sz tx u s.length (s.flatMap f) w := hs w hH.hold
  have hcl : cur.toList.length = cap * sz := by simpa using hcs
  obtain ⟨news, hnews⟩ : ∃ news, news = s.flatMap f := ⟨_, rfl⟩
  have hnl : news.length = s.length * sz := by rw [hnews, flatMap_len hz]
  have hone : ∀ u ∈ news, u.oneCell' = true := by rw [hnews]; exact List.all_eq_true.1 (h1.flat _)
  have hmul1 : o * sz + s.length * sz ≤ cap * sz := by rw [← Nat.add_mul]; exact Nat.mul_le_mul_right _ (by omega)
  have hst := run_storeCells_at P g (o * sz) E news 0 cur w hg (by simp only [Nat.add_zero, hnl]; omega) hone
  simp only [Nat.add_zero] at hst
  rw [← hnews] at hsrc
  have hr : (Builtin.copy_ #[t, tx] ty #[.slice (some ⟨g, o * sz, none⟩) dl cp, u]).run P w =
      .ok (I (s.length : Int)) (w.setRow g (cur.toList.take (o * sz) ++ news ++ cur.toList.drop (o * sz + news.length)).toArray) := by
    have hc := hsrc.cells
    rw [← hs1] at hc hst ⊢
    simp [Builtin.copy_, run_underlying (sliceTB_spec (tb.slcAt ht)), sizeOf, typeInfo, hi, hsrc.len, Nat.min_eq_left hsl, hc, hst, goInt]
  have hl2 : (md.take o ++ (s ++ md.drop (o + s.length))).length = ld := by simp; omega
  have hfl : (md.take o ++ (s ++ md.drop (o + s.length))).flatMap f = (md.take o).flatMap f ++ (news ++ (md.drop (o + s.length)).flatMap f) := by rw [List.flatMap_append, List.flatMap_append, hnews]
  have htk : cur.toList.take (o * sz) = (md.take o).flatMap f := by
    rw [← flat_take hz md o (by omega), ← htake, List.take_take, Nat.min_eq_left (Nat.mul_le_mul_right _ (by omega))]
  have hmul2 : o * sz + s.length * sz ≤ ld * sz := by rw [← Nat.add_mul]; exact Nat.mul_le_mul_right _ (by omega)
  have hmul3 : ld * sz ≤ cap * sz := Nat.mul_le_mul_right _ hnc
  have hdr : (cur.toList.drop (o * sz + news.length)).take (ld * sz - (o * sz + news.length)) = (md.drop (o + s.length)).flatMap f := by
    rw [← flat_drop hz md (o + s.length) (by omega), ← htake, List.drop_take, hnl, Nat.add_mul]
  have hH' : H W D σ' (w.setRow g (cur.toList.take (o * sz) ++ news ++ cur.toList.drop (o * sz + news.length)).toArray) := by
    refine H.setRowR hH hm hl2.symm ⟨flatMap_len hz _, .inr ⟨g, cap, _, rfl, Nat.zero_le _, setRow_heap w g cur _ E _ hg, by rw [hl2]; omega, hcm, ?_, ?_⟩⟩
    · simp only [List.size_toArray, List.length_append, List.length_take, List.length_drop, hcl]
      omega
    · have hA : (cur.toList.take (o * sz)).length = o * sz := by simp only [List.length_take, hcl]; omega
      rw [List.append_assoc, hl2, take_three _ _ _ _ (by rw [hA, hnl]; omega), hA, hfl, ← htk, ← hdr]
  rw [partAt_lt hoc] at hx
  refine opW_value (v := I (s.length : Int)) rfl ?_ (hK _ _ hC _ _ (hF.put hd _) hH')
  simp only [execOp, resolve, invoke, builtin, List.map_toArray, List.map_cons, List.map_nil, hF.eval hx, hF.eval hy, Sem.run_bind, Sem.run_pure, Result.andThen_ok, hr]
/-- copy(s[i+1:], s[i:]), s being longer by one than what is known of the row. -/
theorem Op1.cpUp (tb : Tabs P) {t E sz bt g len cap i dl sl cp1 cp2 : Nat} {x y : Operand} {l : List α} {zc : List Value} (hx : ev env x = some (.slice (partAt (some ⟨g, 0, none⟩) cap (i + 1) sz) dl cp1)) (hy : ev env y = some (.slice (partAt (some ⟨g, 0, none⟩) cap i sz) sl cp2))
    (hm : Upd σ (rows f (.slice (some ⟨g, 0, none⟩) len cap) E sz l) (rows f (.slice (some ⟨g, 0, none⟩) (len + 1) cap) E sz (l.take (i + 1) ++ l.drop i)) σ')
    (hdl : dl = len - i) (hsl : sl = len + 1 - i) (hi : i < len) (hn : len + 1 ≤ cap) (hz : ∀ x, (f x).length = sz) (h1 : Ones f) (hC : C ((dst, I ((len - i : Nat) : Int)) :: env) σ')
    (hd : Nat.blt dst n.n = true := by exact rfl) (ht : lk1 tb.slc t = some E := by exact rfl) (hsz : lk1 tb.szs E = some sz := by exact rfl) (hbt : lk1 tb.byt E = some bt := by exact rfl) (hzr : lkZ tb.zeros E = some zc := by exact rfl) :
    Op1 P r W D n ⟨some dst, .call ⟨.builtin .copy, #[x, y], #[t, t]⟩, ty, pos, af, gd⟩ env σ C := Op1.of fun K Q hK a w hF hH => by
  obtain ⟨i0, z, hii, hz', hs1, hs2, hs3⟩ := tb.info hsz hbt hzr
  have hmem : rows f (.slice (some ⟨g, 0, none⟩) len cap) E sz l ∈ σ := by obtain ⟨p, q, rfl, _⟩ := hm.split; simp
  obtain ⟨hml, cur, hg, hnc, hcm, hcs, htake⟩ := rowsOwn (hH.mem hmem)
  have hcl : cur.toList.length = cap * sz := by simpa using hcs
  obtain ⟨news, hnews⟩ : ∃ news, news = (l.drop i).flatMap f := ⟨_, rfl⟩
  have hnl : news.length = (len - i) * sz := by rw [hnews, flatMap_len hz, List.length_drop, hml]
  have hone : ∀ u ∈ news, u.oneCell' = true := by rw [hnews]; exact List.all_eq_true.1 (h1.flat _)
  have hmul1 : (i + 1) * sz + (len - i) * sz = (len + 1) * sz := by rw [← Nat.add_mul]; congr 1; omega
  have hmul2 : (len + 1) * sz ≤ cap * sz := Nat.mul_le_mul_right _ hn
  have hst := run_storeCells_at P g ((i + 1) * sz) E news 0 cur w hg (by simp only [Nat.add_zero, hnl]; omega) hone
  simp only [Nat.add_zero] at hst
  have hrd := run_firstCells_some (P := P) w sz (len - i) ⟨g, i * sz, none⟩ sl cp2 news hnl (by rw [hnews]; exact cur_get hz hg htake (by omega))
  have hr : (Builtin.copy_ #[t, t] ty #[.slice (some ⟨g, (i + 1) * sz, none⟩) dl cp1, .slice (some ⟨g, i * sz, none⟩) sl cp2]).run P w =
      .ok (I ((len - i : Nat) : Int)) (w.setRow g (cur.toList.take ((i + 1) * sz) ++ news ++ cur.toList.drop ((i + 1) * sz + news.length)).toArray) := by
    have hmin : Nat.min sl dl = len - i := by subst hdl hsl; exact Nat.min_eq_right (by omega)
    rw [← hs1] at hrd hst ⊢
    simp [Builtin.copy_, Builtin.lenOf, run_underlying (sliceTB_spec (tb.slcAt ht)), sizeOf, typeInfo, hii, hmin, hrd, hst, goInt]
  have hl2 : (l.take (i + 1) ++ l.drop i).length = len + 1 := by simp; omega
  have hfl : (l.take (i + 1) ++ l.drop i).flatMap f = (l.take (i + 1)).flatMap f ++ news := by rw [List.flatMap_append, hnews]
  have htk : cur.toList.take ((i + 1) * sz) = (l.take (i + 1)).flatMap f := by
    rw [← flat_take hz l (i + 1) (by omega), ← htake, List.take_take, Nat.min_eq_left (Nat.mul_le_mul_right _ (by omega))]
  have hti : ((l.take (i + 1)).flatMap f).length = (i + 1) * sz := by rw [flatMap_len hz]; congr 1; simp; omega
  have hH' : H W D σ' (w.setRow g (cur.toList.take ((i + 1) * sz) ++ news ++ cur.toList.drop ((i + 1) * sz + news.length)).toArray) := by
    refine H.setRowR hH hm hl2.symm ⟨flatMap_len hz _, .inr ⟨g, cap, _, rfl, Nat.zero_le _, setRow_heap w g cur _ E _ hg, by rw [hl2]; omega, hcm, ?_, ?_⟩⟩
    · simp only [List.size_toArray, List.length_append, List.length_take, List.length_drop, hcl]
      omega
    · rw [hl2, hfl, htk, ← hmul1, ← hnl, ← hti, ← List.length_append]
      exact List.take_left
  rw [partAt_lt (by omega)] at hx hy
  refine opW_value (v := I ((len - i : Nat) : Int)) rfl ?_ (hK _ _ hC _ _ (hF.put hd _) hH')
  simp only [execOp, resolve, invoke, builtin, List.map_toArray, List.map_cons, List.map_nil, hF.eval hx, hF.eval hy, Sem.run_bind, Sem.run_pure, Result.andThen_ok, hr]
/-- append(s[:i], make(S, k)...), where s has no room for that. -/
theorem Op1.apMk (tb : Tabs P) {t tn E sz bt g len cap i k : Nat} {kk : IntKind} {x y : Operand} {l : List α} {zc : List Value} (z0 : α) (hx : ev env x = some (.slice (some ⟨g, 0, none⟩) i cap)) (hy : ev env y = some (I (k : Int)))
    (hm : rows f (.slice (some ⟨g, 0, none⟩) len cap) E sz l ∈ σ) (hi : i ≤ len) (hk : cap < i + k) (hk1 : i + k ≤ 1000000) (hz : ∀ x, (f x).length = sz)
    (hC : ∀ g2 cap2, i + k ≤ cap2 → C ((dst, .slice (some ⟨g2, 0, none⟩) (i + k) cap2) :: env) (rows f (.slice (some ⟨g2, 0, none⟩) (i + k) cap2) E sz (l.take i ++ List.replicate k z0) :: σ))
    (hd : Nat.blt dst n.n = true := by exact rfl) (ht : lk1 tb.slc t = some E := by exact rfl) (htn : lkK tb.ints tn = some kk := by exact rfl) (hsz : lk1 tb.szs E = some sz := by exact rfl) (hbt : lk1 tb.byt E = some bt := by exact rfl) (hzr : lkZ tb.zeros E = some zc := by exact rfl)
    (hzz : zc = f z0 := by exact rfl) (hbl : Nat.ble bt 1000000 = true := by exact rfl) (hpos : Nat.blt 0 sz = true := by exact rfl) :
    Op1 P r W D n ⟨some dst, .call ⟨.builtin .append, #[x, y], #[t, tn]⟩, ty, pos, af, gd⟩ env σ C := Op1.of fun K Q hK a w hF hH => by
  obtain ⟨i0, z, hii, hz', hs1, hs2, hs3⟩ := tb.info hsz hbt hzr
  have hbl' := Nat.le_of_ble_eq_true hbl
  have hpos' : 0 < sz := by simpa using hpos
  obtain ⟨hml, cur, hg, hnc, hcm, hcs, htake⟩ := rowsOwn (hH.mem hm)
  obtain ⟨olds, holds⟩ : ∃ olds, olds = (l.take i).flatMap f := ⟨_, rfl⟩
  have hol : olds.length = i * sz := by rw [holds, flatMap_len hz]; congr 1; simp; omega
  have hrd := run_firstCells_some (P := P) w.drew sz i ⟨g, 0, none⟩ i cap olds hol (by
    intro j u hu
    have h0 := cur_get (i := 0) hz hg htake (Nat.zero_le _) j u (by
      rw [List.drop_zero]
      rw [holds, ← flat_take hz l i (by omega), List.getElem?_take] at hu
      split at hu
      · exact hu
      · cases hu)
    simpa using h0)
  have hzc : z.cells.size = sz := by rw [← Array.length_toList, hs3, hzz, hz]
  have hkb : (i + k) * bt ≤ 1000000 * 1000000 := Nat.mul_le_mul hk1 hbl'
  have hkb2 : k * bt ≤ (i + k) * bt := Nat.mul_le_mul_right _ (by omega)
  subst hs1
  subst hs2
  have hr := Lib.run_append_grow_zeros (P := P) w t tn ty E i0 z .i64 kk (sliceTB_spec (tb.slcAt ht)) (tb.intAt htn) hii hz' (some ⟨g, 0, none⟩) i cap olds hrd k (by omega) hpos' hk (by omega) (by omega) (growslice_fits (by omega) (by omega))
  have hge := grownCap_ge w (i + k) cap E
  have hcm2 : grownCap w (i + k) cap E ≤ maxLen := grownCap_le_maxLen w (i + k) cap E (by simp only [maxLen]; omega)
  have hzl : (Builtin.zeroCells z.cells k).toList = (List.replicate k z0).flatMap f := by
    apply List.ext_getElem?
    intro j
    by_cases hj : j < k * i0.size
    · rw [rep_flat (hz z0) k j hj]
      have hlt : j % i0.size < z.cells.size := by rw [hzc]; exact Nat.mod_lt _ hpos'
      have hgz : z.cells[j % i0.size]? = (f z0)[j % i0.size]? := by rw [← hzz, ← hs3]; simp
      rw [← hgz]
      simp [Builtin.zeroCells, hj, hzc, getElem!_pos z.cells (j % i0.size) hlt]
    · rw [List.getElem?_eq_none (by simp [Builtin.zeroCells, hzc]; omega), List.getElem?_eq_none]
      have hall := rep_len (hz z0) k
      omega
  have hlen : (l.take i ++ List.replicate k z0).length = i + k := by simp; omega
  have hH' : H W D (rows f (.slice (some ⟨w.heap.size, 0, none⟩) (i + k) (grownCap w (i + k) cap E)) E i0.size (l.take i ++ List.replicate k z0) :: σ)
      (w.drew.alloc (.cells (olds.toArray ++ Builtin.zeroCells z.cells k ++ Builtin.zeroCells z.cells (grownCap w (i + k) cap E - (i + k))) E)) := by
    refine H.new (σf' := [rows f (.slice (some ⟨w.heap.size, 0, none⟩) (i + k) (grownCap w (i + k) cap E)) E i0.size (l.take i ++ List.replicate k z0)]) hH ⟨fun e he => ?_, ?_, fun b hb => ?_, fun k' hk' _ => heap_alloc_old w.drew _ hk', by simp, rfl, rfl, rfl⟩
    · obtain rfl : e = _ := by simpa only [List.mem_singleton] using he
      rw [rows_eq, row_holds, hlen]
      have hall : ((l.take i ++ List.replicate k z0).flatMap f).length = (i + k) * i0.size := by rw [flatMap_len hz, hlen]
      refine ⟨hall, .inr ⟨w.heap.size, _, _, rfl, Nat.zero_le _, heap_alloc_new w.drew _, hge, hcm2, ?_, ?_⟩⟩
      · simp only [Array.size_append, List.size_toArray, size_zeroCells, hzc, hol, ← Nat.add_mul]
        congr 1
        omega
      · simp only [Array.toList_append, hzl]
        rw [show olds.toArray.toList ++ (List.replicate k z0).flatMap f = (l.take i ++ List.replicate k z0).flatMap f by rw [List.flatMap_append, holds], ← hall]
        exact List.take_left
    · rw [doms_cons, rows_eq, row_dom]; simp [doms, Value.ownBlock]
    · rw [doms_cons, rows_eq, row_dom] at hb
      right
      have : b = w.heap.size := by simpa [doms, Value.ownBlock] using hb
      omega
  refine opW_value (v := .slice (some ⟨w.heap.size, 0, none⟩) (i + k) (grownCap w (i + k) cap E)) rfl ?_ (hK _ _ (hC _ _ hge) _ _ (hF.put hd _) hH')
  simp only [execOp, resolve, invoke, builtin, List.map_toArray, List.map_cons, List.map_nil, hF.eval hx, hF.eval hy, Sem.run_bind, Sem.run_pure, Result.andThen_ok, hr]
/-- Rows in two blocks don't overlap. -/
theorem V.ovl (tb : Tabs P) {fid : FuncId} {fn : Func} {tS tR E sz g g2 len cap i sl cp : Nat} {x y : Operand} {ats : Array TypeId} {l l2 : List α} (hf : P.funcs[fid]? = some fn) (hnm : (fn.name == "runtime.NumGoroutine") = false) (hb : fn.body.isNone = true) (hn1 : Extern.findNext fn = none)
    (hn2 : Extern.find fn = some (Extern.SlicesOverlaps.overlaps #[tS, tS] #[tR])) (hx : ev env x = some (.slice (some ⟨g2, 0, none⟩) 1 1)) (hy : ev env y = some (.slice (partAt (some ⟨g, 0, none⟩) cap i sz) sl cp))
    (hm2 : rows f (.slice (some ⟨g2, 0, none⟩) 1 1) E sz l2 ∈ σ) (hm : rows f (.slice (some ⟨g, 0, none⟩) len cap) E sz l ∈ σ) (hne : g2 ≠ g) (hi : i < cap)
    (ht : lk1 tb.slc tS = some E := by exact rfl) (hsz : lk1 tb.szs E = some sz := by exact rfl) (hpos : Nat.blt 0 sz = true := by exact rfl) :
    Val P n env σ ⟨some dst, .call ⟨.value (.func fid), #[x, y], ats⟩, ty, pos, af, gd⟩ (.bool false) := Val.of fun a w hF hH => by
  have hpos' : 0 < sz := by simpa using hpos
  obtain ⟨_, c2, hg2, hnc2, _, hcs2, _⟩ := rowsOwn (hH.get _ hm2)
  obtain ⟨_, c1, hg1, hnc1, _, hcs1, _⟩ := rowsOwn (hH.get _ hm)
  rw [partAt_lt hi] at hy
  have hr := run_callFunc_extern (P := P) hf hnm hb hn1 hn2 #[.slice (some ⟨g2, 0, none⟩) 1 1, .slice (some ⟨g, i * sz, none⟩) sl cp] w
  rw [Lib.run_overlaps_apart w tS tR E (sliceTB_spec (tb.slcAt ht)) sz (fun w => run_sizeOf (tb.szAt hsz) w) ⟨g2, 0, none⟩ ⟨g, i * sz, none⟩ 1 1 sl cp hne E E c2.size c1.size (by simp [World.shape?, hg2]) (by simp [World.shape?, hg1])
    (by rw [hcs1]; exact Nat.ne_of_gt (Nat.mul_pos (by omega) hpos')) (by simp [World.frozen?, hg2]) (by simp [World.frozen?, hg2])] at hr
  have he : (#[x, y].map a.eval) = #[.slice (some ⟨g2, 0, none⟩) 1 1, .slice (some ⟨g, i * sz, none⟩) sl cp] := by simp [hF.eval hx, hF.eval hy]
  simp only [execOp, resolve, Sem.run_bind, he]
  simp [Act.eval, Deferred.ofValue, invoke, hr]
theorem rowsNe {w : World} {g g2 len cap len2 cap2 E E2 sz sz2 : Nat} {l l2 : List α} {f2 : α → List Value} (h : H W D (rows f (.slice (some ⟨g, 0, none⟩) len cap) E sz l :: rows f2 (.slice (some ⟨g2, 0, none⟩) len2 cap2) E2 sz2 l2 :: σ) w) : g2 ≠ g := by
  have := h.nodup
  rw [doms_cons, doms_cons, rows_eq, rows_eq, row_dom, row_dom] at this
  simp only [Value.ownBlock, Option.toList_some, List.singleton_append, List.nodup_cons, List.mem_cons, not_or] at this
  exact fun e => this.1.1 e.symm
theorem Ct.known {f : FuncId} {args : List Value} {R : Value → List Ent → Prop} {p : Prop} (hp : ∀ w, H w (doms σ) σ w → p) (h : p → Ct P f args σ R) : Ct P f args σ R :=
  Ct.of fun w h0 => (h (hp w h0.start)).get w h0
end
end Go.HL
