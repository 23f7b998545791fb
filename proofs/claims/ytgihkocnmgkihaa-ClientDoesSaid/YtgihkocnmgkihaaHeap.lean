/-
  A small heap logic over the kit's walk: entries (what is known of a block), frames, and the laws by which a walk steps over loads, stores, boxes. Over any program.
-/
import Derived.WalkKit
import Derived.Laws.StructEq
import Derived.ChangeKeysEq
import Derived.OpenShut
import Derived.ProofKit
import Derived.Deep.Slices
import Derived.WideKeyArgs
import Derived.OwnWalk
import Derived.Deep.Quiet
import Derived.Deep.MidRow
import Derived.OrdersHeld
import Derived.CallsIn
import Derived.TacticsIn
import Derived.OrdersIn
import Derived.Deep.AppendSrc
import Derived.Laws.BytesString
import Derived.SizedLaws
import Derived.RangeFuncRecord
import Derived.RangeFuncNested
namespace Go.HL
open Go

/-- What is known of some blocks. -/
structure Ent where
  dom : List Nat
  holds : World → Prop
  loc : ∀ (w w' : World), (∀ b, b ∈ dom → w'.heap[b]? = w.heap[b]?) → holds w → holds w'
  lt : ∀ (w : World), holds w → ∀ b, b ∈ dom → b < w.heap.size

/-- A block of cells, known whole. -/
@[irreducible] def cells (b : Nat) (T : TypeId) (c : List Value) : Ent where
  dom := [b]
  holds w := w.heap[b]? = some (.cells c.toArray T (0, 0))
  loc w w' h hw := by rw [h b (by simp)]; exact hw
  lt w h x hx := by
    have : x = b := by simpa using hx
    subst this
    exact (Array.getElem?_eq_some_iff.1 h).1

/-- The row that a slice value owns: nil, or at the head of a block of its own. -/
@[irreducible] def row (v : Value) (T : TypeId) (sz n : Nat) (xs : List Value) : Ent where
  dom := v.ownBlock.toList
  holds w := w.ownsRow 0 T sz v n xs
  loc w w' h hw := by
    refine ⟨hw.1, ?_⟩
    rcases hw.2 with hn | ⟨g, cap, cur, rfl, hb, hg, rest⟩
    · exact .inl hn
    · exact .inr ⟨g, cap, cur, rfl, hb, by rw [h g (by simp [Value.ownBlock])]; exact hg, rest⟩
  lt w h x hx := by
    have hk : v.ownBlock = some x := by simpa using hx
    exact (h.lt x hk).2

/-- A block that holds what isn't cells. -/
@[irreducible] def ob (b : Nat) (o : Obj) : Ent where
  dom := [b]
  holds w := w.heap[b]? = some o
  loc w w' h hw := by rw [h b (by simp)]; exact hw
  lt w h x hx := by
    have : x = b := by simpa using hx
    subst this
    exact (Array.getElem?_eq_some_iff.1 h).1
theorem ob_dom (b o) : (ob b o).dom = [b] := by unfold ob; rfl
theorem ob_holds (b o w) : (ob b o).holds w ↔ w.heap[b]? = some o := by unfold ob; rfl
/-- A block of rounds' deferred calls: there are none. -/
def dfr (b : Nat) : Ent := ob b (.deferred (some []))
def dfrs : List Nat → List Ent
  | [] => []
  | b :: l => dfr b :: dfrs l

theorem cells_dom (b T c) : (cells b T c).dom = [b] := by unfold cells; rfl
theorem cells_holds (b T c w) : (cells b T c).holds w ↔ w.heap[b]? = some (.cells c.toArray T (0, 0)) := by unfold cells; rfl
theorem row_dom (v T sz n xs) : (row v T sz n xs).dom = v.ownBlock.toList := by unfold row; rfl
theorem row_holds (v T sz n xs w) : (row v T sz n xs).holds w ↔ w.ownsRow 0 T sz v n xs := by unfold row; rfl

def doms (σ : List Ent) : List Nat := σ.flatMap (·.dom)
theorem doms_append (σ τ : List Ent) : doms (σ ++ τ) = doms σ ++ doms τ := by simp [doms]
theorem doms_cons (e : Ent) (τ : List Ent) : doms (e :: τ) = e.dom ++ doms τ := by simp [doms]
theorem mem_doms {σ : List Ent} {b : Nat} : b ∈ doms σ ↔ ∃ e ∈ σ, b ∈ e.dom := by simp [doms]

/-- What holds at a call's begin. -/
structure H0 (σ : List Ent) (w : World) : Prop where
  ents : ∀ e, e ∈ σ → e.holds w
  nodup : (doms σ).Nodup

/-- From W on, the blocks D being the call's own to turn: the entries σ hold now, and nothing else that was there has turned. -/
structure H (W : World) (D : List Nat) (σ : List Ent) (w : World) : Prop where
  ents : ∀ e, e ∈ σ → e.holds w
  nodup : (doms σ).Nodup
  own : ∀ b, b ∈ doms σ → b ∈ D ∨ W.heap.size ≤ b
  keep : ∀ b, b < W.heap.size → b ∉ D → w.heap[b]? = W.heap[b]?
  size : W.heap.size ≤ w.heap.size
  os : w.os = W.os
  tape : w.tape = W.tape
  output : w.output = W.output

theorem H0.start {σ : List Ent} {w : World} (h : H0 σ w) : H w (doms σ) σ w :=
  ⟨h.ents, h.nodup, fun _ hb => .inl hb, fun _ _ _ => rfl, Nat.le_refl _, rfl, rfl, rfl⟩
theorem H.nil (w : World) : H w [] [] w := ⟨fun _ h => (by cases h), by simp [doms], fun _ h => (by simp [doms] at h), fun _ _ _ => rfl, Nat.le_refl _, rfl, rfl, rfl⟩
theorem H.h0 {W : World} {D : List Nat} {σ : List Ent} {w : World} (h : H W D σ w) : H0 σ w := ⟨h.ents, h.nodup⟩
theorem H0.nil (w : World) : H0 [] w := ⟨fun _ h => (by cases h), by simp [doms]⟩

theorem H0.lt {σ : List Ent} {w : World} (h : H0 σ w) {b : Nat} (hb : b ∈ doms σ) : b < w.heap.size := by
  obtain ⟨e, he, hbe⟩ := mem_doms.1 hb
  exact e.lt w (h.ents e he) b hbe

section
variable {W : World} {D : List Nat} {σ σ' : List Ent} {w w1 : World}

theorem H.drew (h : H W D σ w) : H W D σ w.drew := ⟨fun e he => e.loc w _ (fun _ _ => rfl) (h.ents e he), h.nodup, h.own, h.keep, h.size, h.os, h.tape, h.output⟩
theorem H.drewAt (h : H W D σ w) (n : Nat) : H W D σ { w with drawn := n } := ⟨fun e he => e.loc w _ (fun _ _ => rfl) (h.ents e he), h.nodup, h.own, h.keep, h.size, h.os, h.tape, h.output⟩

theorem H.perm (h : H W D σ w) (hp : σ.Perm σ') : H W D σ' w :=
  ⟨fun e he => h.ents e (hp.mem_iff.2 he), (hp.flatMap_right _).nodup_iff.1 h.nodup, fun b hb => h.own b ((hp.flatMap_right _).mem_iff.2 hb), h.keep, h.size, h.os, h.tape, h.output⟩

theorem doms_sublist {σ τ : List Ent} (h : σ.Sublist τ) : (doms σ).Sublist (doms τ) := by
  induction h with
  | slnil => exact List.Sublist.refl _
  | cons a _ ih => rw [doms_cons]; exact ih.trans (List.sublist_append_right _ _)
  | cons_cons a _ ih => rw [doms_cons, doms_cons]; exact (List.Sublist.refl _).append ih

/-- Some entries are let go. -/
theorem H.sub (h : H W D σ w) (hs : σ'.Sublist σ) : H W D σ' w :=
  ⟨fun e he => h.ents e (hs.mem he), (doms_sublist hs).nodup h.nodup, fun b hb => h.own b ((doms_sublist hs).mem hb), h.keep, h.size, h.os, h.tape, h.output⟩

/-- THE FRAME: behind a call whose own are σf. -/
theorem H.call {σf σr σf' : List Ent} (h : H W D (σf ++ σr) w) (h1 : H w (doms σf) σf' w1) : H W D (σf' ++ σr) w1 := by
  have h0 := h.h0
  have nd := h.nodup
  rw [doms_append, List.nodup_append] at nd
  have rlt : ∀ b, b ∈ doms σr → b < w.heap.size := fun b hb => h0.lt (by rw [doms_append]; simp [hb])
  have rnot : ∀ b, b ∈ doms σr → b ∉ doms σf := fun b hb hb' => nd.2.2 b hb' b hb rfl
  refine ⟨?_, ?_, ?_, ?_, Nat.le_trans h.size h1.size, h1.os.trans h.os, h1.tape.trans h.tape, h1.output.trans h.output⟩
  · intro e he
    rcases List.mem_append.1 he with he | he
    · exact h1.ents e he
    · exact e.loc w w1 (fun b hb => h1.keep b (rlt b (mem_doms.2 ⟨e, he, hb⟩)) (rnot b (mem_doms.2 ⟨e, he, hb⟩))) (h.ents e (by simp [he]))
  · rw [doms_append, List.nodup_append]
    refine ⟨h1.nodup, nd.2.1, fun a ha b hb hab => ?_⟩
    subst hab
    rcases h1.own a ha with h2 | h2
    · exact rnot a hb h2
    · have := rlt a hb; omega
  · intro b hb
    rw [doms_append, List.mem_append] at hb
    rcases hb with hb | hb
    · rcases h1.own b hb with h2 | h2
      · exact h.own b (by rw [doms_append]; simp [h2])
      · exact .inr (Nat.le_trans h.size h2)
    · exact h.own b (by rw [doms_append]; simp [hb])
  · intro b hb hbD
    have hnf : b ∉ doms σf := fun hf => by
      rcases h.own b (by rw [doms_append]; simp [hf]) with h2 | h2
      · exact hbD h2
      · omega
    exact (h1.keep b (Nat.lt_of_lt_of_le hb h.size) hnf).trans (h.keep b hb hbD)

/-- Behind a call that owns nothing and hands new entries. -/
theorem H.new {σf' : List Ent} (h : H W D σ w) (h1 : H w [] σf' w1) : H W D (σf' ++ σ) w1 := by
  have h' : H W D ([] ++ σ) w := h
  exact h'.call (σf := []) (by simpa [doms] using h1)
theorem H.pure (h : H W D σ w) (h1 : H w [] [] w1) : H W D σ w1 := by simpa using h.new h1

theorem H.alloc (h : H W D σ w) (T : TypeId) (c : List Value) : H W D (cells w.heap.size T c :: σ) (w.alloc (.cells c.toArray T)) := by
  have : H w [] [cells w.heap.size T c] (w.alloc (.cells c.toArray T)) := by
    refine ⟨fun e he => ?_, by simp [doms, cells_dom], fun b hb => ?_, fun b hb _ => heap_alloc_old _ _ hb, by simp, rfl, rfl, rfl⟩
    · obtain rfl : e = _ := by simpa using he
      rw [cells_holds]
      exact heap_alloc_new _ _
    · obtain rfl : b = w.heap.size := by simpa [doms, cells_dom] using hb
      exact .inr (Nat.le_refl _)
  exact h.new this

/-- An entry at its place in the list is turned. -/
@[irreducible] def Upd (σ : List Ent) (e e' : Ent) (σ' : List Ent) : Prop := ∃ l r, σ = l ++ e :: r ∧ σ' = l ++ e' :: r
theorem Upd.here (e e' : Ent) (σ : List Ent) : Upd (e :: σ) e e' (e' :: σ) := by unfold Upd; exact ⟨[], σ, rfl, rfl⟩
theorem Upd.there (x e e' : Ent) (σ σ' : List Ent) (h : Upd σ e e' σ') : Upd (x :: σ) e e' (x :: σ') := by
  unfold Upd at *
  obtain ⟨l, r, rfl, rfl⟩ := h
  exact ⟨x :: l, r, rfl, rfl⟩
theorem Upd.split {e e' : Ent} (u : Upd σ e e' σ') : ∃ l r, σ = l ++ e :: r ∧ σ' = l ++ e' :: r := by unfold Upd at u; exact u

theorem H.upd {e e' : Ent} (h : H W D σ w) (u : Upd σ e e' σ') (h1 : H w e.dom [e'] w1) : H W D σ' w1 := by
  obtain ⟨l, r, rfl, rfl⟩ := u.split
  have hp : (l ++ e :: r).Perm ([e] ++ (l ++ r)) := by simp
  have hp' : ([e'] ++ (l ++ r)).Perm (l ++ e' :: r) := by simpa using (List.perm_middle (a := e') (l₁ := l) (l₂ := r)).symm
  exact ((h.perm hp).call (σf := [e]) (by simpa [doms] using h1)).perm hp'

/-- What was there and isn't the call's own reads as it did. -/
theorem H.cell (h : H W D σ w) {a : Addr} (hb : a.block < W.heap.size) (hD : a.block ∉ D) : w.cell? a = W.cell? a := World.cell?_of_block (h.keep a.block hb hD)

theorem H.mem {e : Ent} (h : H W D σ w) (he : e ∈ σ) : e.holds w := h.ents e he
end
end Go.HL

/-! ### Types -/
namespace Go.HL
open Go
def isRowB : TypeDesc → Bool
  | .struct _ | .array _ _ => true
  | _ => false
/-- A struct or an array of k cells. -/
def aggB (P : Program) (T : TypeId) (k : Nat) : Bool :=
  match P.underlying T with
  | some d => isRowB d && ((P.info? T).map (·.size) == some k)
  | none => false
/-- One cell. -/
def oneB (P : Program) (T : TypeId) : Bool :=
  match P.underlying T with
  | some d => !isRowB d && ((P.info? T).map (·.size) == some 1)
  | none => false

section
variable {P : Program}
theorem aggB_spec {T : TypeId} {k : Nat} (h : aggB P T k = true) : ∃ d, P.underlying T = some d ∧ d.isRow = true ∧ (P.info? T).map (·.size) = some k := by
  unfold aggB at h
  split at h
  · rename_i d hd
    simp only [Bool.and_eq_true, beq_iff_eq] at h
    exact ⟨d, hd, by cases d <;> simp_all [isRowB], h.2⟩
  · cases h
theorem oneB_spec {T : TypeId} (h : oneB P T = true) : ∃ d, P.underlying T = some d ∧ isRowB d = false ∧ (P.info? T).map (·.size) = some 1 := by
  unfold oneB at h
  split at h
  · rename_i d hd
    simp only [Bool.and_eq_true, beq_iff_eq, Bool.not_eq_true'] at h
    exact ⟨d, hd, h.1, h.2⟩
  · cases h

theorem run_loadVar_one {w : World} {T : TypeId} (h : oneB P T = true) {a : Addr} {v : Value} (hc : w.cell? a = some v) : (loadVar T a).run P w = .ok v w := by
  obtain ⟨d, hu, hd, _⟩ := oneB_spec h
  have hagg : (isAgg T).run P w = .ok false w := by
    unfold isAgg
    rw [Sem.run_bind, run_underlying hu w]
    cases d <;> simp_all [isRowB]
  simp [loadVar, Sem.run_bind, hagg, Go.load, Sem.run, hc]

theorem cell_of_cells {w : World} {b : Nat} {T : TypeId} {c : List Value} (h : (cells b T c).holds w) (i : Nat) : w.cell? ⟨b, i, none⟩ = c[i]? := by
  rw [cells_holds] at h
  rw [cell_of_row w b i _ T (0, 0) h]
  simp

/-- The cells from 'o' on, k of them. -/
def seg (o k : Nat) (c : List Value) : List Value := (c.drop o).take k

theorem run_loadVar_part {w : World} {T E : TypeId} {b o k : Nat} {c : List Value} (h : aggB P T k = true) (hc : (cells b E c).holds w) (hl : o + k ≤ c.length) :
    (loadVar T ⟨b, o, none⟩).run P w = .ok (.agg (seg o k c).toArray) w := by
  obtain ⟨d, hu, hd, hi⟩ := aggB_spec h
  refine run_loadVar_mid w b o T (seg o k c) d (fun j v hv => ?_) hu hd (by rw [hi]; simp [seg]; omega)
  rw [cell_of_cells hc]
  simp only [seg, List.getElem?_take, List.getElem?_drop] at hv
  split at hv
  · exact hv
  · cases hv

/-- What a load yields: a seg of the cells, or one. -/
def Reads (P : Program) (T : TypeId) (o : Nat) (c : List Value) (v : Value) : Prop :=
  (oneB P T = true ∧ c[o]? = some v) ∨ (∃ k, aggB P T k = true ∧ o + k ≤ c.length ∧ v = .agg (seg o k c).toArray)

theorem Reads.one {T : TypeId} {o : Nat} {c : List Value} {v : Value} (h : oneB P T = true) (hc : c[o]? = some v) : Reads P T o c v := .inl ⟨h, hc⟩
theorem Reads.agg {T : TypeId} {o k : Nat} {c c' : List Value} (h : aggB P T k = true) (hl : Nat.ble (o + k) c.length = true) (hc : seg o k c = c') : Reads P T o c (.agg c'.toArray) := .inr ⟨k, h, Nat.le_of_ble_eq_true hl, by rw [hc]⟩

theorem Reads.run {w : World} {T E : TypeId} {b o : Nat} {c : List Value} {v : Value} (h : Reads P T o c v) (hc : (cells b E c).holds w) :
    (loadVar T ⟨b, o, none⟩).run P w = .ok v w := by
  rcases h with ⟨h1, h2⟩ | ⟨k, h1, h2, rfl⟩
  · exact run_loadVar_one h1 (by rw [cell_of_cells hc]; exact h2)
  · exact run_loadVar_part h1 hc h2

/-- What a store leaves. -/
def splice (o : Nat) (n c : List Value) : List Value := c.take o ++ n ++ c.drop (o + n.length)

theorem run_storeVar_cells {w : World} {T E : TypeId} {b o : Nat} {c : List Value} {v : Value} (h : (P.info? T).map (·.size) = some v.cells.size) (hc : (cells b E c).holds w) (hl : o + v.cells.size ≤ c.length) (h1 : v.cells.all (·.oneCell') = true) :
    (storeVar T ⟨b, o, none⟩ v).run P w = .ok () (w.setRow b (splice o v.cells.toList c).toArray) := by
  rw [cells_holds] at hc
  cases hq : P.info? T with
  | none => simp [hq] at h
  | some i =>
    have hs : v.cells.size = i.size := by simp [hq] at h; omega
    have hst := run_storeCells_at P b o E v.cells.toList 0 c.toArray w hc (by simpa using hl) (fun u hu => (Array.all_eq_true_iff_forall_mem.1 h1) u (by simpa using hu))
    simp only [Nat.add_zero] at hst
    have e : (c.toArray.toList.take o ++ v.cells.toList ++ c.toArray.toList.drop (o + v.cells.toList.length)).toArray = (splice o v.cells.toList c).toArray := by simp [splice]
    rw [e] at hst
    simp [storeVar, sizeOf, typeInfo, hq, hs, hst]

variable {W : World} {D : List Nat} {σ σ' : List Ent} {w w1 : World} {ops : Array Oper} {rest : List Oper} {a : Act} {Q : Exit → Act → World → Prop}

theorem H.setRow (h : H W D σ w) {b : Nat} {T : TypeId} {c c' : List Value} (u : Upd σ (cells b T c) (cells b T c') σ') : H W D σ' (w.setRow b c'.toArray) := by
  have hm : cells b T c ∈ σ := by obtain ⟨l, r, rfl, _⟩ := u.split; simp
  have hc := h.mem hm
  rw [cells_holds] at hc
  refine h.upd u ⟨fun e he => ?_, by simp [doms, cells_dom], fun x hx => ?_, fun k hk hn => ?_, by simp, rfl, rfl, rfl⟩
  · obtain rfl : e = _ := by simpa using he
    rw [cells_holds]
    exact setRow_heap w b _ _ T _ hc
  · left; simpa [doms, cells_dom] using hx
  · exact setRow_other w b k _ (by simpa [cells_dom] using hn)

section
variable {dst : Option Tmp} {ty : TypeId} {pos : String} {af : Array Edge} {gd : Option (Nat × Bool)}

end
end
end Go.HL
/-
  The walk's calculus: what is known of a frame is a list of (slot, value), what is known of memory a list of entries; each law steps over one operation, or one piece of code.
-/
namespace Go.HL
open Go

abbrev Env := List (Nat × Value)
def lk : Env → Nat → Option Value
  | [], _ => none
  | (k, v) :: l, j => bif Nat.beq k j then some v else lk l j

/-- A frame's form: how many slots; the blocks of its ranges over functions. -/
structure Fm where
  n : Nat
  ds : List Nat
def mark (b : Nat) : Deferred := { target := .collected b, args := #[] }
/-- What is known of a frame. -/
structure Fr (n : Fm) (env : Env) (a : Act) : Prop where
  size : a.tmps.size = n.n
  defers : a.defers = n.ds.map mark
  get : ∀ j v, lk env j = some v → j < n.n ∧ a.tmps.getD j undef = v

def ev (env : Env) : Operand → Option Value
  | .tmp t => lk env t
  | .const v => some v
  | .global g => some (.pointer (some ⟨g, 0, none⟩))
  | .func f => some (.func (.func f) #[] #[])

theorem Fr.eval {n : Fm} {env : Env} {a : Act} (h : Fr n env a) {x : Operand} {v : Value} (hx : ev env x = some v) : a.eval x = v := by
  cases x with
  | tmp t => exact (h.get t v hx).2
  | const u => exact Option.some.inj hx
  | global g => exact Option.some.inj hx
  | func f => exact Option.some.inj hx

theorem Fr.put {n : Fm} {env : Env} {a : Act} (h : Fr n env a) {d : Nat} (hd : Nat.blt d n.n = true) (v : Value) : Fr n ((d, v) :: env) (a.put (some d) v) := by
  have hd' : d < n.n := Nat.le_of_ble_eq_true hd
  refine ⟨by simp [Act.put, h.size], by simp [Act.put, h.defers], fun j u hj => ?_⟩
  simp only [lk] at hj
  by_cases e : d = j
  · subst e
    rw [show Nat.beq d d = true from Nat.beq_refl d] at hj
    simp only [cond_true, Option.some.injEq] at hj
    subst hj
    exact ⟨hd', by simp [Act.put, h.size, hd']⟩
  · rw [show Nat.beq d j = false from by rw [← Bool.not_eq_true, Nat.beq_eq]; exact e] at hj
    simp only [cond_false] at hj
    obtain ⟨h1, h2⟩ := h.get j u hj
    refine ⟨h1, ?_⟩
    simp only [Array.getD_eq_getD_getElem?, Act.put] at h2 ⊢
    rw [Array.getElem?_setIfInBounds_ne e]
    exact h2

theorem Fr.putNone {n : Fm} {env : Env} {a : Act} (h : Fr n env a) (v : Value) : Fr n env (a.put none v) := h

/-- A slot is known still where it is asked for still. -/
theorem Fr.sub {n : Fm} {env env' : Env} {a : Act} (h : Fr n env a) (hs : ∀ j v, lk env' j = some v → lk env j = some v) : Fr n env' a :=
  ⟨h.size, h.defers, fun j v hj => h.get j v (hs j v hj)⟩

/-- All of a short list is in a longer one. -/
def subEnv (env : Env) : Env → Prop
  | [] => True
  | (k, v) :: l => lk env k = some v ∧ subEnv env l
theorem subEnv.get {env : Env} : ∀ {l : Env}, subEnv env l → ∀ j v, lk l j = some v → lk env j = some v
  | [], _, j, v, h => by cases h
  | (k, u) :: l, hs, j, v, h => by
    simp only [lk] at h
    by_cases e : k = j
    · subst e
      rw [show Nat.beq k k = true from Nat.beq_refl k] at h
      simp only [cond_true, Option.some.injEq] at h
      subst h
      exact hs.1
    · rw [show Nat.beq k j = false from by rw [← Bool.not_eq_true, Nat.beq_eq]; exact e] at h
      exact subEnv.get hs.2 j v h

abbrev WF (r : Option Nat) : Fence := { Fence.wide with round := r }

abbrev Post := Exit → Act → World → Prop

/-- One operation. -/
def opW (P : Program) (r : Option Nat) (o : Oper) (a : Act) (w : World) (K : Act → World → Prop) (Q : Post) : Prop :=
  o.uponIn (WF r) 0 P a K Q ((o.semAt r a.eval).run P w)

theorem wpIn_of_opW {P : Program} {r : Option Nat} {o : Oper} {a : Act} {w : World} {K : Act → World → Prop} {Q : Post} (h : opW P r o a w K Q) : o.wpIn (WF r) 0 P a w K Q :=
  ⟨fun _ _ => trivial, h⟩

section
variable (P : Program) (r : Option Nat) (W : World) (D : List Nat) (n : Fm)

def Wp (Q : Post) (c : Code) (env : Env) (σ : List Ent) : Prop := ∀ a w, Fr n env a → H W D σ w → c.wpIn (WF r) 0 P Q a w
def WpL (ops : Array Oper) (Q : Post) (l : List Oper) (env : Env) (σ : List Ent) : Prop := ∀ a w, Fr n env a → H W D σ w → wpListIn (WF r) 0 P ops Q l a w
/-- A way out. -/
def Out (Q : Post) (e : Exit) (env : Env) (σ : List Ent) : Prop := ∀ a w, Fr n env a → H W D σ w → Q e a w
/-- A single operation: from (env, σ) on it comes to states of which C holds. -/
def Op1 (o : Oper) (env : Env) (σ : List Ent) (C : Env → List Ent → Prop) : Prop :=
  ∀ (K : Act → World → Prop) (Q : Post), (∀ env' σ', C env' σ' → ∀ a w, Fr n env' a → H W D σ' w → K a w) → ∀ a w, Fr n env a → H W D σ w → opW P r o a w K Q
end

section
variable {P : Program} {r : Option Nat} {W : World} {D : List Nat} {n : Fm} {Q : Post} {env env' : Env} {σ σ' : List Ent} {ops : Array Oper} {rest : List Oper}

/-! ### Guards -/
def guardIs (env : Env) (ops : Array Oper) (g : Option (Nat × Bool)) : Option Bool :=
  match g with
  | none => some true
  | some (j, want) =>
    match ops[j]? with
    | some o => match o.dst with
      | some d => match lk env d with
        | some (.bool b) => some (b == want)
        | some (.tuple _) => some false
        | _ => none
      | none => none
    | none => none

theorem Fr.tmps? {a : Act} (h : Fr n env a) {j : Nat} {v : Value} (hv : lk env j = some v) : a.tmps[j]? = some v := by
  obtain ⟨h1, h2⟩ := h.get j v hv
  have : j < a.tmps.size := by rw [h.size]; exact h1
  simp [this] at h2 ⊢
  exact h2

theorem guard_wanted {a : Act} (h : Fr n env a) {o : Oper} {b : Bool} (hg : guardIs env ops o.guard = some b) : Region.wanted o (yielded ops a.tmps) = b := by
  unfold guardIs at hg
  unfold Region.wanted
  split at hg
  · rename_i e; rw [e]; simpa using hg
  · rename_i j want e
    rw [e]
    simp only
    split at hg
    · rename_i o' ho
      split at hg
      · rename_i d hd
        split at hg
        · rename_i b' hb
          have hy : yielded ops a.tmps j = some b' := by simp [yielded, ho, hd, h.tmps? hb]
          rw [hy]
          simp only [Option.some.injEq] at hg
          subst hg
          cases b' <;> cases want <;> rfl
        · rename_i vs hb
          have hy : yielded ops a.tmps j = none := by simp [yielded, ho, hd, h.tmps? hb]
          rw [hy]
          simp only [Option.some.injEq] at hg
          subst hg
          rfl
        · cases hg
      · cases hg
    · cases hg

theorem WpL.nil (h : Out W D n Q .normal env σ) : WpL P r W D n ops Q [] env σ := h
/-- An operation that is carried out. -/
theorem WpL.op {o : Oper} (hg : guardIs env ops o.guard = some true) (h : Op1 P r W D n o env σ (WpL P r W D n ops Q rest)) : WpL P r W D n ops Q (o :: rest) env σ := fun a w hF hH => by
  unfold wpListIn
  rw [if_pos (guard_wanted hF hg)]
  exact wpIn_of_opW (h _ _ (fun env' σ' hC a w hF hH => hC a w hF hH) a w hF hH)
/-- One that is passed over. -/
theorem WpL.skip {d : Nat} {op : Op} {ty : TypeId} {pos : String} {af : Array Edge} {g : Option (Nat × Bool)} (hg : guardIs env ops g = some false) (hd : Nat.blt d n.n = true)
    (h : WpL P r W D n ops Q rest ((d, undef) :: env) σ) : WpL P r W D n ops Q (⟨some d, op, ty, pos, af, g⟩ :: rest) env σ := fun a w hF hH => by
  unfold wpListIn
  rw [if_neg (by rw [guard_wanted hF hg]; simp)]
  exact ⟨fun _ _ => trivial, h _ w (hF.put hd undef) hH⟩
theorem WpL.skipNone {op : Op} {ty : TypeId} {pos : String} {af : Array Edge} {g : Option (Nat × Bool)} (hg : guardIs env ops g = some false)
    (h : WpL P r W D n ops Q rest env σ) : WpL P r W D n ops Q (⟨none, op, ty, pos, af, g⟩ :: rest) env σ := fun a w hF hH => by
  unfold wpListIn
  rw [if_neg (by rw [guard_wanted hF hg]; simp)]
  exact ⟨fun _ _ => trivial, h _ w (hF.putNone undef) hH⟩

/-- The slot in which a guard's answer lies. -/
def guardSlot (ops : Array Oper) (g : Option (Nat × Bool)) : Option Nat :=
  match g with
  | none => none
  | some (j, _) => (ops[j]?).bind (·.dst)
theorem Fr.turn {a : Act} (h : Fr n env a) {d : Nat} {v : Value} (hv : lk env d = some v) : Fr n ((d, v) :: env) a := by
  refine ⟨h.size, h.defers, fun j u hj => ?_⟩
  simp only [lk] at hj
  by_cases e : d = j
  · subst e
    rw [show Nat.beq d d = true from Nat.beq_refl d] at hj
    simp only [cond_true, Option.some.injEq] at hj
    subst hj
    exact h.get d v hv
  · rw [show Nat.beq d j = false from by rw [← Bool.not_eq_true, Nat.beq_eq]; exact e] at hj
    exact h.get j u hj
/-- A guard that isn't decided parts the walk. -/
theorem WpL.part {o : Oper} {d : Nat} {b : Bool} (hg : guardSlot ops o.guard = some d) (hv : lk env d = some (.bool b))
    (ht : b = true → WpL P r W D n ops Q (o :: rest) ((d, .bool true) :: env) σ) (hf : b = false → WpL P r W D n ops Q (o :: rest) ((d, .bool false) :: env) σ) :
    WpL P r W D n ops Q (o :: rest) env σ := fun a w hF hH => by
  have := hg
  cases b with
  | true => exact ht rfl a w (hF.turn hv) hH
  | false => exact hf rfl a w (hF.turn hv) hH

/-! ### Code -/
theorem Wp.region {id : Nat} {l : List Oper} (h : WpL P r W D n l.toArray Q l env σ) : Wp P r W D n Q (.region id l.toArray false) env σ := fun a w hF hH => wpIn_region_lit (h a w hF hH)
theorem Wp.seq {x y : Code} (h : Wp P r W D n (Exit.then (y.wpIn (WF r) 0 P Q) Q) x env σ) : Wp P r W D n Q (.seq x y) env σ := fun a w hF hH => wpIn_seq (h a w hF hH)
theorem Wp.block {id : Nat} {x : Code} (h : Wp P r W D n (Exit.inBlock id Q) x env σ) : Wp P r W D n Q (.block id x) env σ := fun a w hF hH => wpIn_block (h a w hF hH)
theorem Wp.skip (h : Out W D n Q .normal env σ) : Wp P r W D n Q .skip env σ := fun a w hF hH => wpIn_skip (h a w hF hH)
theorem Wp.ret (h : Out W D n Q .ret env σ) : Wp P r W D n Q .ret env σ := fun a w hF hH => wpIn_ret (h a w hF hH)
theorem Wp.exit {id : Nat} (h : Out W D n Q (.exit id) env σ) : Wp P r W D n Q (.exit id) env σ := fun a w hF hH => wpIn_exit (h a w hF hH)
theorem Wp.condT {c : Operand} {x y : Code} (hc : ev env c = some (.bool true)) (h : Wp P r W D n Q x env σ) : Wp P r W D n Q (.cond c x y) env σ := fun a w hF hH => wpIn_cond_true (hF.eval hc) (h a w hF hH)
theorem Wp.condF {c : Operand} {x y : Code} (hc : ev env c = some (.bool false)) (h : Wp P r W D n Q y env σ) : Wp P r W D n Q (.cond c x y) env σ := fun a w hF hH => wpIn_cond_false (hF.eval hc) (h a w hF hH)
theorem Wp.cond {c : Operand} {x y : Code} {b : Bool} (hc : ev env c = some (.bool b)) (hx : b = true → Wp P r W D n Q x env σ) (hy : b = false → Wp P r W D n Q y env σ) : Wp P r W D n Q (.cond c x y) env σ :=
  fun a w hF hH => wpIn_cond_split (hF.eval hc) (fun e => hx e a w hF hH) (fun e => hy e a w hF hH)

theorem Out.seqN {y : Code} (h : Wp P r W D n Q y env σ) : Out W D n (Exit.then (y.wpIn (WF r) 0 P Q) Q) .normal env σ := h
theorem Out.seqR {K : Act → World → Prop} (h : Out W D n Q .ret env σ) : Out W D n (Exit.then K Q) .ret env σ := h
theorem Out.seqE {K : Act → World → Prop} {id : Nat} (h : Out W D n Q (.exit id) env σ) : Out W D n (Exit.then K Q) (.exit id) env σ := h
theorem Out.blockN {id : Nat} (h : Out W D n Q .normal env σ) : Out W D n (Exit.inBlock id Q) .normal env σ := h
theorem Out.blockR {id : Nat} (h : Out W D n Q .ret env σ) : Out W D n (Exit.inBlock id Q) .ret env σ := h
theorem Out.blockE {id : Nat} (h : Out W D n Q .normal env σ) : Out W D n (Exit.inBlock id Q) (.exit id) env σ := fun a w hF hH => by
  simp only [Exit.inBlock, if_true]; exact h a w hF hH
theorem Out.blockO {id id' : Nat} (hne : Nat.beq id' id = false) (h : Out W D n Q (.exit id') env σ) : Out W D n (Exit.inBlock id Q) (.exit id') env σ := fun a w hF hH => by
  have hne' : id' ≠ id := by intro e; rw [e] at hne; rw [show Nat.beq id id = true from Nat.beq_refl id] at hne; cases hne
  simp only [Exit.inBlock, if_neg hne']; exact h a w hF hH

/-- From here on less is known. -/
theorem Wp.weak {c : Code} (h : Wp P r W D n Q c env' σ') (he : subEnv env env') (hσ : ∀ w, H W D σ w → H W D σ' w) : Wp P r W D n Q c env σ :=
  fun a w hF hH => h a w (hF.sub he.get) (hσ w hH)

theorem exists_min (N : Nat → Prop) : ∀ k, N k → ∃ m, N m ∧ ∀ j, j < m → ¬ N j := by
  intro k
  induction k using Nat.strongRecOn with
  | _ k ih =>
    intro hk
    by_cases h : ∃ j, j < k ∧ N j
    · obtain ⟨j, hj, hN⟩ := h
      exact ih j hj hN
    · exact ⟨k, hk, fun j hj hN => h ⟨j, hj, hN⟩⟩

/-- A LOOP: the families E, S say what is known at each round's head. -/
theorem Wp.loop {α : Type} {c : Code} (E : α → Env) (S : α → List Ent) (μ : α → Nat) (x0 : α) (he : subEnv env (E x0)) (hσ : ∀ w, H W D σ w → H W D (S x0) w)
    (h : ∀ x, Wp P r W D n (Exit.then (fun a w => ∃ y, μ y < μ x ∧ Fr n (E y) a ∧ H W D (S y) w) Q) c (E x) (S x)) : Wp P r W D n Q (.loop c) env σ := fun a w hF hH => by
  classical
  let I : Act → World → Prop := fun a w => ∃ x, Fr n (E x) a ∧ H W D (S x) w
  let N : Act → World → Nat → Prop := fun a w k => ∃ x, μ x = k ∧ Fr n (E x) a ∧ H W D (S x) w
  have ex : ∀ a w, I a w → ∃ k, N a w k ∧ ∀ j, j < k → ¬ N a w j := fun a w ⟨x, hx⟩ => exists_min _ (μ x) ⟨x, rfl, hx⟩
  let m : Act → World → Nat := fun a w => if h : I a w then Classical.choose (ex a w h) else 0
  have mspec : ∀ a w (h : I a w), N a w (m a w) ∧ ∀ j, j < m a w → ¬ N a w j := fun a w h => by
    simp only [m, dif_pos h]
    exact Classical.choose_spec (ex a w h)
  refine wpIn_loop I m ⟨x0, hF.sub he.get, hσ w hH⟩ fun a w hI => ?_
  obtain ⟨⟨x, hx, hf, hh⟩, _⟩ := mspec a w hI
  refine wpIn_mono (h x a w hf hh) fun e a' w' hq => ?_
  cases e with
  | normal =>
    obtain ⟨y, hy, hfy, hhy⟩ := hq
    refine ⟨⟨y, hfy, hhy⟩, ?_⟩
    have hI' : I a' w' := ⟨y, hfy, hhy⟩
    have := (mspec a' w' hI').2 (μ y)
    rcases Nat.lt_or_ge (μ y) (m a' w') with hlt | hge
    · exact absurd ⟨y, rfl, hfy, hhy⟩ (this hlt)
    · omega
  | _ => exact hq

/-- The round's end. -/
theorem Out.again {α : Type} {E : α → Env} {S : α → List Ent} {μ : α → Nat} {x : α} (y : α) (hμ : μ y < μ x) (he : subEnv env (E y)) (hσ : ∀ w, H W D σ w → H W D (S y) w) :
    Out W D n (Exit.then (fun a w => ∃ y, μ y < μ x ∧ Fr n (E y) a ∧ H W D (S y) w) Q) .normal env σ := fun _ w hF hH => ⟨y, hμ, hF.sub he.get, hσ w hH⟩
end
end Go.HL
/-
  The laws of single operations.
-/
namespace Go.HL
open Go

abbrev I (n : Int) : Value := .int .i64 n
abbrev S (l : List UInt8) : Value := .string ⟨l.toArray⟩
abbrev B (b : Bool) : Value := .bool b
abbrev A (c : List Value) : Value := .agg c.toArray
abbrev Ptr (b o : Nat) : Value := .pointer (some ⟨b, o, none⟩)

def notDefer : Op → Bool
  | .defer _ => false
  | _ => true

section
variable {P : Program} {r : Option Nat} {W : World} {D : List Nat} {n : Fm} {Q : Post} {env env' : Env} {σ σ' : List Ent} {ops : Array Oper} {rest : List Oper}
variable {dst : Nat} {ty : TypeId} {pos : String} {af : Array Edge} {gd : Option (Nat × Bool)} {C : Env → List Ent → Prop}

theorem semAt_nd {r : Option Nat} {o : Oper} (h : notDefer o.op = true) (ρ : Operand → Value) : o.semAt r ρ = execOp ρ o := by
  refine Oper.semAt_eq r ρ o fun c e => ?_
  rw [e] at h
  cases h

theorem opW_value {o : Oper} {a : Act} {w w' : World} {K : Act → World → Prop} {Q : Post} {v : Value} (hnd : notDefer o.op = true) (hr : (execOp a.eval o).run P w = .ok (.value v) w')
    (hk : K (a.put o.dst v) w') : opW P r o a w K Q := by
  unfold opW
  rw [semAt_nd hnd, hr]
  exact hk
theorem opW_skip {o : Oper} {a : Act} {w w' : World} {K : Act → World → Prop} {Q : Post} (hnd : notDefer o.op = true) (hr : (execOp a.eval o).run P w = .ok .skip w')
    (hk : K (a.put o.dst undef) w') : opW P r o a w K Q := by
  unfold opW
  rw [semAt_nd hnd, hr]
  exact hk
theorem opW_enter {o : Oper} {a : Act} {w w' : World} {K : Act → World → Prop} {Q : Post} {f : FuncId} {args : Array Value} (hnd : notDefer o.op = true) (hr : (execOp a.eval o).run P w = .ok (.enter f args) w')
    (hc : Calls P f args w' fun e w'' => ∃ v, e = .returned v ∧ K (a.put o.dst v) w'') : opW P r o a w K Q := by
  unfold opW
  rw [semAt_nd hnd, hr]
  refine ⟨fun h => (by cases h), ?_⟩
  have h1 : CallsIn Fence.wide 0 P f args w' fun e w'' => ∃ v, e = .returned v ∧ K (a.put o.dst v) w'' := callsIn_wide.2 hc
  have h2 : CallsIn (WF r) 0 P f args w' fun e w'' => ∃ v, e = .returned v ∧ K (a.put o.dst v) w'' := h1
  exact h2.mono fun e w'' ⟨v, he, hk⟩ => by subst he; exact hk

/-- Entries that hold. -/
def Hold (σS : List Ent) (w : World) : Prop := ∀ e, e ∈ σS → e.holds w
theorem H.hold {w : World} (h : H W D σ w) : Hold σ w := h.ents
/-- What an operation yields that leaves the world as it is, of what is known of the frame and of the entries σ. -/
def Val (P : Program) (n : Fm) (env : Env) (σ : List Ent) (o : Oper) (v : Value) : Prop :=
  ∀ a w, Fr n env a → Hold σ w → (execOp a.eval o).run P w = .ok (.value v) w
theorem Op1.ofVal {op : Op} {v : Value} (hnd : notDefer op = true) (hd : Nat.blt dst n.n = true) (h : Val P n env σ ⟨some dst, op, ty, pos, af, gd⟩ v) (hC : C ((dst, v) :: env) σ) :
    Op1 P r W D n ⟨some dst, op, ty, pos, af, gd⟩ env σ C := fun _ _ hK a w hF hH =>
  opW_value hnd (h a w hF hH.hold) (hK _ _ hC _ _ (hF.put hd v) hH)
/-- The commonest step. -/
theorem WpL.val {op : Op} {v : Value} (hg : guardIs env ops gd = some true) (hnd : notDefer op = true) (hd : Nat.blt dst n.n = true) (h : Val P n env σ ⟨some dst, op, ty, pos, af, gd⟩ v) (hC : WpL P r W D n ops Q rest ((dst, v) :: env) σ) :
    WpL P r W D n ops Q (⟨some dst, op, ty, pos, af, gd⟩ :: rest) env σ := WpL.op hg (Op1.ofVal hnd hd h hC)

theorem Val.move {x : Operand} {v : Value} (hx : ev env x = some v) : Val P n env σ ⟨some dst, .move x, ty, pos, af, gd⟩ (v) :=
  fun a w hF _ => by show Result.ok (Next.value (a.eval x)) w = _; rw [hF.eval hx]
theorem Val.assign {x : Operand} {v : Value} (hx : ev env x = some v) : Val P n env σ ⟨some dst, .assign x, ty, pos, af, gd⟩ (v) :=
  fun a w hF _ => by show Result.ok (Next.value (a.eval x)) w = _; rw [hF.eval hx]
theorem Val.pick {c x y : Operand} {b : Bool} {v : Value} (hc : ev env c = some (.bool b)) (hx : b = true → ev env x = some v) (hy : b = false → ev env y = some v) : Val P n env σ ⟨some dst, .pick c x y, ty, pos, af, gd⟩ (v) :=
  fun a w hF _ => by
    cases b with
    | true => simp [execOp, hF.eval hc, asBool, hF.eval (hx rfl)]
    | false => simp [execOp, hF.eval hc, asBool, hF.eval (hy rfl)]
/-- Comparisons and sums of integers. -/
def cmpI (op : BinOp) (p q : Int) : Option Bool :=
  match op with
  | .eql => some (decide (p = q))
  | .neq => some (!decide (p = q))
  | .lss => some (decide (p < q))
  | .leq => some (decide (p ≤ q))
  | .gtr => some (decide (q < p))
  | .geq => some (decide (q ≤ p))
  | _ => none
theorem Val.cmp {op : BinOp} {t ty' : TypeId} {x y : Operand} {k : IntKind} {p q : Int} {b : Bool} (hx : ev env x = some (.int k p)) (hy : ev env y = some (.int k q)) (hb : cmpI op p q = some b) : Val P n env σ ⟨some dst, .binOp op t x y ty', ty, pos, af, gd⟩ (.bool b) :=
  fun a w hF _ => by
    simp only [execOp, hF.eval hx, hF.eval hy]
    cases op <;> simp only [cmpI, Option.some.injEq, reduceCtorEq] at hb <;> subst hb <;> simp [eqGuard, binOp, Op.intCmp, bne, BEq.beq]
theorem Val.add {t ty' : TypeId} {x y : Operand} {p q : Int} (hx : ev env x = some (I p)) (hy : ev env y = some (I q)) (hb : -9223372036854775808 ≤ p + q ∧ p + q ≤ 9223372036854775807) : Val P n env σ ⟨some dst, .binOp .add t x y ty', ty, pos, af, gd⟩ (I (p + q)) :=
  fun a w hF _ => by
    simp [execOp, hF.eval hx, hF.eval hy, eqGuard, binOp, Op.intArith, IntWalk.i64_in _ hb]
theorem Val.sub {t ty' : TypeId} {x y : Operand} {p q : Int} (hx : ev env x = some (I p)) (hy : ev env y = some (I q)) (hb : -9223372036854775808 ≤ p - q ∧ p - q ≤ 9223372036854775807) : Val P n env σ ⟨some dst, .binOp .sub t x y ty', ty, pos, af, gd⟩ (I (p - q)) :=
  fun a w hF _ => by
    simp [execOp, hF.eval hx, hF.eval hy, eqGuard, binOp, Op.intArith, IntWalk.i64_in _ hb]
theorem Val.mul {t ty' : TypeId} {x y : Operand} {p q : Int} (hx : ev env x = some (I p)) (hy : ev env y = some (I q)) (hb : -9223372036854775808 ≤ p * q ∧ p * q ≤ 9223372036854775807) : Val P n env σ ⟨some dst, .binOp .mul t x y ty', ty, pos, af, gd⟩ (I (p * q)) :=
  fun a w hF _ => by
    simp [execOp, hF.eval hx, hF.eval hy, eqGuard, binOp, Op.intArith, IntWalk.i64_in _ hb]
/-- Of whatever kind, wrap and all. -/
theorem Val.arith {op : BinOp} {t ty' : TypeId} {x y : Operand} {k : IntKind} {p q u : Int} (hx : ev env x = some (.int k p)) (hy : ev env y = some (.int k q))
 (hb : (match op with | .add => some (k.wrap (p + q)) | .sub => some (k.wrap (p - q)) | .mul => some (k.wrap (p * q)) | _ => none) = some u) : Val P n env σ ⟨some dst, .binOp op t x y ty', ty, pos, af, gd⟩ (.int k u) :=
  fun a w hF _ => by
    simp only [execOp, hF.eval hx, hF.eval hy]
    cases op <;> simp only [Option.some.injEq, reduceCtorEq] at hb <;> subst hb <;> simp [eqGuard, binOp, Op.intArith]
theorem Val.quo {t ty' : TypeId} {x y : Operand} {p q : Int} (hx : ev env x = some (I p)) (hy : ev env y = some (I q)) (hb : 0 ≤ p ∧ p ≤ 9223372036854775807 ∧ 1 ≤ q) : Val P n env σ ⟨some dst, .binOp .quo t x y ty', ty, pos, af, gd⟩ (I (p / q)) :=
  fun a w hF _ => by
    have hq : q ≠ 0 := by omega
    simp [execOp, hF.eval hx, hF.eval hy, eqGuard, binOp, Op.intDiv, hq, IntWalk.i64_quo _ _ hb]
theorem Val.rem {t ty' : TypeId} {x y : Operand} {k : IntKind} {p q : Int} (hx : ev env x = some (.int k p)) (hy : ev env y = some (.int k q)) (hb : 0 ≤ p ∧ 1 ≤ q) : Val P n env σ ⟨some dst, .binOp .rem t x y ty', ty, pos, af, gd⟩ (.int k (p % q)) :=
  fun a w hF _ => by
    have hq : q ≠ 0 := by omega
    simp [execOp, hF.eval hx, hF.eval hy, eqGuard, binOp, Op.intDiv, hq, Int.tmod_eq_emod_of_nonneg hb.1]
/-- What '==' answers of two values of a type. -/
def EqT (P : Program) (d : Nat) (T : TypeId) (x y : Value) (b : Bool) : Prop := ∀ w, (Op.equalIn d T x y).run P w = .ok b w
def eqPlain : Value → Value → Bool
  | .int .., _ | .float .., _ | .complex .., _ | .string _, _ | .pointer _, .int .. | .nilIface, .nilIface => false
  | _, _ => true
theorem run_eql_plain {t : TypeId} {x y : Value} (h : eqPlain x y = true) (w : World) : (binOp .eql t x y).run P w = ((Op.equalIn 10000 t x y).run P w).andThen fun b w' => .ok (.bool b) w' := by
  have e : binOp .eql t x y = (do pure (.bool (← Op.equal t x y))) := by
    cases x <;> first | (cases h; done) | (cases y <;> first | rfl | (cases h; done))
  rw [e]
  show ((do pure (Value.bool (← Op.equal t x y)) : Sem Value)).run P w = _
  rw [Sem.run_bind]
  rfl
theorem run_neq_plain {t : TypeId} {x y : Value} (h : eqPlain x y = true) (w : World) : (binOp .neq t x y).run P w = ((Op.equalIn 10000 t x y).run P w).andThen fun b w' => .ok (.bool (!b)) w' := by
  have e : binOp .neq t x y = (do pure (.bool (!(← Op.equal t x y)))) := by
    cases x <;> first | (cases h; done) | (cases y <;> first | rfl | (cases h; done))
  rw [e]
  show ((do pure (Value.bool (!(← Op.equal t x y))) : Sem Value)).run P w = _
  rw [Sem.run_bind]
  rfl
def guardPlain (P : Program) (t : TypeId) : Value → Value → Bool
  | .nilIface, .nilIface => false
  | .agg _, .agg _ => !P.eqGuardType P.depth t
  | _, _ => true
theorem run_eqGuard_plain {op : BinOp} {t : TypeId} {x y : Operand} {a b : Value} (h : guardPlain P t a b = true) (w : World) : (eqGuard op t x y a b).run P w = .ok () w := by
  unfold guardPlain at h
  unfold eqGuard
  split at h
  · cases h
  · simp only [Bool.not_eq_true'] at h
    cases op <;> simp [h]
  · cases op <;> first | rfl | (simp only; split <;> first | rfl | simp_all)
theorem Val.eql {t ty' : TypeId} {x y : Operand} {u v : Value} {b : Bool} (hx : ev env x = some u) (hy : ev env y = some v) (hp : eqPlain u v = true) (hg : guardPlain P t u v = true) (hE : EqT P 10000 t u v b) : Val P n env σ ⟨some dst, .binOp .eql t x y ty', ty, pos, af, gd⟩ (.bool b) :=
  fun a w hF _ => by
    simp only [execOp, hF.eval hx, hF.eval hy, Sem.run_bind, run_eqGuard_plain hg, Result.andThen_ok, run_eql_plain hp, hE w, Sem.run_pure]
theorem Val.neq {t ty' : TypeId} {x y : Operand} {u v : Value} {b : Bool} (hx : ev env x = some u) (hy : ev env y = some v) (hp : eqPlain u v = true) (hg : guardPlain P t u v = true) (hE : EqT P 10000 t u v b) : Val P n env σ ⟨some dst, .binOp .neq t x y ty', ty, pos, af, gd⟩ (.bool (!b)) :=
  fun a w hF _ => by
    simp only [execOp, hF.eval hx, hF.eval hy, Sem.run_bind, run_eqGuard_plain hg, Result.andThen_ok, run_neq_plain hp, hE w, Sem.run_pure]
theorem EqT.bool {d : Nat} {t : TypeId} {p q : Bool} (ht : P.underlying t = some .bool) : EqT P (d + 1) t (.bool p) (.bool q) (p == q) := fun w => run_equalIn_bool w d t p q ht

theorem Val.not {t : TypeId} {x : Operand} {p : Bool} (hx : ev env x = some (.bool p)) : Val P n env σ ⟨some dst, .unOp .not t x, ty, pos, af, gd⟩ (.bool (!p)) :=
  fun a w hF _ => by simp [execOp, hF.eval hx, Op.unary]
theorem Val.neg {t : TypeId} {x : Operand} {p : Int} (hx : ev env x = some (I p)) (hb : -9223372036854775807 ≤ p ∧ p ≤ 9223372036854775807) : Val P n env σ ⟨some dst, .unOp .neg t x, ty, pos, af, gd⟩ (I (-p)) :=
  fun a w hF _ => by simp [execOp, hF.eval hx, Op.unary, Op.intArith, IntWalk.i64_in (-p) (by omega)]
/-- Between kinds of integers. -/
theorem Val.conv {t u : TypeId} {x : Operand} {k k' : IntKind} {p : Int} (hx : ev env x = some (.int k p)) (ht : P.underlying u = some (.int k'))
 (hu : (P.underlying t).isSome = true) : Val P n env σ ⟨some dst, .convert t u x, ty, pos, af, gd⟩ (.int k' (k'.wrap p)) :=
  fun a w hF _ => by
    obtain ⟨d, hd'⟩ := Option.isSome_iff_exists.1 hu
    simp [execOp, hF.eval hx, convert, run_underlying ht, run_underlying hd', Conv.intToInt]
/-- A string stays a string. -/
theorem Val.convS {t u : TypeId} {x : Operand} {s : ByteArray} (hx : ev env x = some (.string s)) (ht : P.underlying u = some .string) (hu : P.underlying t = some .string) : Val P n env σ ⟨some dst, .convert t u x, ty, pos, af, gd⟩ (.string s) :=
  fun a w hF _ => by
    simp [execOp, hF.eval hx, convert, run_underlying ht, run_underlying hu]
theorem Val.extract {x : Operand} {ix : Nat} {vs : List Value} {v : Value} (hx : ev env x = some (.tuple vs.toArray)) (hv : vs[ix]? = some v) : Val P n env σ ⟨some dst, .extract x ix, ty, pos, af, gd⟩ (v) :=
  fun a w hF _ => by simp [execOp, hF.eval hx, Instr.extract, hv]
theorem Val.nilCheck {x : Operand} {b o : Nat} (hx : ev env x = some (Ptr b o)) : Val P n env σ ⟨some dst, .nilCheck x, ty, pos, af, gd⟩ (Ptr b o) :=
  fun a w hF _ => by simp [execOp, hF.eval hx]
theorem Val.makeFunc {fn : Fn} {fs cs : Array Operand} {xs ys : List Value} (hf : fs.toList.mapM (ev env) = some xs) (hc : cs.toList.mapM (ev env) = some ys) : Val P n env σ ⟨some dst, .makeFunc fn fs cs, ty, pos, af, gd⟩ (.func fn xs.toArray ys.toArray) :=
  fun a w hF _ => by
    have key : ∀ (l : List Operand) (xs : List Value), l.mapM (ev env) = some xs → l.map a.eval = xs := by
      intro l
      induction l with
      | nil => intro xs h; simp at h; subst h; rfl
      | cons x l ih =>
        intro xs h
        rw [List.mapM_cons] at h
        cases hx : ev env x with
        | none => simp [hx] at h
        | some v =>
          cases hl : l.mapM (ev env) with
          | none => simp [hx, hl] at h
          | some vs =>
            simp [hx, hl] at h
            subst h
            simp [hF.eval hx, ih vs hl]
    have e1 : fs.map a.eval = xs.toArray := by apply Array.ext'; simpa using key _ _ hf
    have e2 : cs.map a.eval = ys.toArray := by apply Array.ext'; simpa using key _ _ hc
    simp [execOp, Instr.makeFunc, e1, e2]
/-- Where a field lies. -/
def fieldOff (P : Program) (s : TypeId) (f : Nat) : Option Nat :=
  match P.underlying s with
  | some (.struct fs) => match fs[f]? with
    | some fd => match P.info? fd.type with
      | some i => if i.size = 0 then none else some fd.offset
      | none => none
    | none => none
  | _ => none
theorem Addr.add0 (b o j : Nat) : (⟨b, o, none⟩ : Addr).add j = ⟨b, o + j, none⟩ := Addr.add_mid b o j
theorem run_fieldAt {s : TypeId} {f off b o : Nat} (h : fieldOff P s f = some off) (w : World) : (Instr.fieldAt s (Ptr b o) f).run P w = .ok (Ptr b (o + off)) w := by
  unfold fieldOff at h
  split at h
  · rename_i fs hs
    split at h
    · rename_i fd hfd
      split at h
      · rename_i i hi
        split at h
        · cases h
        · rename_i hz
          simp only [Option.some.injEq] at h
          subst h
          simp [Instr.fieldAt, run_underlying hs, hfd, Instr.sureAddr, fieldPlace, sizeOf, typeInfo, hi, hz, Addr.add0]
      · cases h
    · cases h
  · cases h
theorem Val.fieldAddr {s : TypeId} {x : Operand} {f b o off o' : Nat} (hx : ev env x = some (Ptr b o)) (hf : fieldOff P s f = some off) (ho : o + off = o') : Val P n env σ ⟨some dst, .fieldAddr s x f, ty, pos, af, gd⟩ (Ptr b o') :=
  fun a w hF _ => by subst ho; simp [execOp, hF.eval hx, run_fieldAt hf]
theorem Val.load {T E : TypeId} {x : Operand} {b o : Nat} {c : List Value} {v : Value} 
 (hx : ev env x = some (Ptr b o)) (hm : cells b E c ∈ σ) (hr : Reads P T o c v) : Val P n env σ ⟨some dst, .load T x, ty, pos, af, gd⟩ (v) :=
  fun a w hF hH => by
    simp only [execOp, hF.eval hx, Instr.loadAt, Instr.sureAddr, Sem.run_bind, Sem.run_pure, Result.andThen_ok, hr.run (hH _ hm)]
theorem Op1.store {T E : TypeId} {x y : Operand} {b o : Nat} {c c' : List Value} {v : Value}
    (hx : ev env x = some (Ptr b o)) (hy : ev env y = some v) (hm : Upd σ (cells b E c) (cells b E c') σ')
    (hs : (P.info? T).map (·.size) = some v.cells.size) (hl : Nat.ble (o + v.cells.size) c.length = true) (h1 : v.cells.all (·.oneCell') = true) (hc : splice o v.cells.toList c = c')
    (hC : C env σ') : Op1 P r W D n ⟨none, .store T x y, ty, pos, af, gd⟩ env σ C := fun K Q hK a w hF hH => by
  subst hc
  have hmem : cells b E c ∈ σ := by obtain ⟨l, r, rfl, _⟩ := hm.split; simp
  refine opW_skip rfl ?_ (hK _ _ hC _ _ (hF.putNone undef) (hH.setRow hm))
  simp only [execOp, hF.eval hx, hF.eval hy, Instr.storeAt, Instr.sureAddr, Sem.run_bind, Sem.run_pure, Result.andThen_ok, run_storeVar_cells hs (hH.mem hmem) (Nat.le_of_ble_eq_true hl) h1]

theorem Op1.box {T : TypeId} {x : Operand} {v : Value} {c : List Value} (hd : Nat.blt dst n.n = true) (hx : ev env x = some v) (hc : v.cells.toList = c)
    (hC : ∀ b, C ((dst, Ptr b 0) :: env) (cells b T c :: σ)) : Op1 P r W D n ⟨some dst, .box T x, ty, pos, af, gd⟩ env σ C := fun K Q hK a w hF hH => by
  subst hc
  have h1 := hH.alloc T v.cells.toList
  have hb : (Instr.box T v).run P w = .ok (Ptr w.heap.size 0) (w.alloc (.cells v.cells T)) := rfl
  refine opW_value rfl ?_ (hK _ _ (hC w.heap.size) _ _ (hF.put hd _) (by simpa using h1))
  simp only [execOp, hF.eval hx, Sem.run_bind, Sem.run_pure, Result.andThen_ok, hb]

theorem Op1.alloc {T : TypeId} {z : Value} {c : List Value} (hd : Nat.blt dst n.n = true) (hz : (P.info? T).bind (·.zero) = some z) (hc : z.cells.toList = c)
    (hC : ∀ b, C ((dst, Ptr b 0) :: env) (cells b T c :: σ)) : Op1 P r W D n ⟨some dst, .alloc T, ty, pos, af, gd⟩ env σ C := fun K Q hK a w hF hH => by
  subst hc
  have h1 := hH.alloc T z.cells.toList
  obtain ⟨i, hi, hz'⟩ := Option.bind_eq_some_iff.1 hz
  have hzv : (zeroValue T).run P w = .ok z w := by simp [zeroValue, typeInfo, hi, hz']
  have hb : (newVar T z).run P w = .ok ⟨w.heap.size, 0, none⟩ (w.alloc (.cells z.cells T)) := rfl
  refine opW_value rfl ?_ (hK _ _ (hC w.heap.size) _ _ (hF.put hd _) (by simpa using h1))
  simp only [execOp, Instr.alloc, Sem.run_bind, Sem.run_pure, Result.andThen_ok, hzv, hb]

/-! ### Calls -/
/-- A CONTRACT: called with these arguments, the entries σ being there, the function returns; R says of what is handed back and of the entries behind the call. -/
def Ct (P : Program) (f : FuncId) (args : List Value) (σ : List Ent) (R : Value → List Ent → Prop) : Prop :=
  ∀ w, H0 σ w → Calls P f args.toArray w fun e w' => ∃ v σ', e = .returned v ∧ R v σ' ∧ H w (doms σ) σ' w'

theorem Ct.mono {f : FuncId} {args : List Value} {R R' : Value → List Ent → Prop} (h : Ct P f args σ R) (hr : ∀ v σ', R v σ' → R' v σ') : Ct P f args σ R' :=
  fun w h0 => (h w h0).mono fun _ _ ⟨v, σ', he, hR, hH⟩ => ⟨v, σ', he, hr _ _ hR, hH⟩

def fnOk (P : Program) (f : FuncId) : Bool := match P.funcs[f]? with | some fn => fn.body.isSome && !(fn.name == "runtime.NumGoroutine") | none => false
theorem run_callFunc {f : FuncId} (h : fnOk P f = true) (args : Array Value) (w : World) : (callFunc f args).run P w = .ok (.enter f args) w := by
  unfold fnOk at h
  split at h
  · rename_i fn hf
    simp only [Bool.and_eq_true, Bool.not_eq_true', beq_eq_false_iff_ne] at h
    obtain ⟨h1, h2⟩ := h
    have h1' : fn.body ≠ none := by intro e; rw [e] at h1; cases h1
    simp [callFunc, hf, h2, h1']
  · cases h

def evs (env : Env) : List Operand → Option (List Value)
  | [] => some []
  | x :: xs => match ev env x, evs env xs with
    | some v, some vs => some (v :: vs)
    | _, _ => none
theorem Fr.evs {a : Act} (h : Fr n env a) : ∀ {xs : List Operand} {vs : List Value}, HL.evs env xs = some vs → xs.map a.eval = vs
  | [], vs, hx => by simp [HL.evs] at hx; subst hx; rfl
  | x :: xs, vs, hx => by
    simp only [HL.evs] at hx
    split at hx
    · rename_i v vs' h1 h2
      simp only [Option.some.injEq] at hx
      subst hx
      simp [h.eval h1, Fr.evs h h2]
    · cases hx

theorem Op1.call {f : FuncId} {xs : List Operand} {ats : Array TypeId} {args : List Value} {σf σr : List Ent} {R : Value → List Ent → Prop} (hd : Nat.blt dst n.n = true) (hok : fnOk P f = true)
    (hx : HL.evs env xs = some args) (hσ : σ.Perm (σf ++ σr)) (hf : Ct P f args σf R) (hC : ∀ v σ', R v σ' → C ((dst, v) :: env) (σ' ++ σr)) :
    Op1 P r W D n ⟨some dst, .call ⟨.value (.func f), xs.toArray, ats⟩, ty, pos, af, gd⟩ env σ C := fun K Q hK a w hF hH => by
  have hH' := hH.perm hσ
  have hev : xs.toArray.map a.eval = args.toArray := by rw [← hF.evs hx]; simp
  refine opW_enter (f := f) (args := args.toArray) (w' := w) rfl ?_ ?_
  · simp only [execOp, resolve, Sem.run_bind, hev]
    simp [Act.eval, Deferred.ofValue, invoke, run_callFunc hok]
  · refine (hf w ⟨fun e he => hH'.ents e (by simp [he]), ?_⟩).mono ?_
    · have := hH'.nodup
      rw [doms_append, List.nodup_append] at this
      exact this.1
    · rintro e w' ⟨v, σ', rfl, hR, hH1⟩
      exact ⟨v, rfl, hK _ _ (hC v σ' hR) _ _ (hF.put hd v) (hH'.call hH1)⟩
end
end Go.HL
/-
  A function's beginning and end.
-/
namespace Go.HL
open Go
section
variable {P : Program} {r : Option Nat} {W : World} {D : List Nat} {n : Fm} {Q : Post} {env env' : Env} {σ σ' : List Ent} {ops : Array Oper} {rest : List Oper}

def envOf : Nat → List Value → Env
  | _, [] => []
  | k, v :: vs => (k, v) :: envOf (k + 1) vs

theorem envOf_get : ∀ (vs : List Value) (k j : Nat) (v : Value), lk (envOf k vs) j = some v → ∃ i, j = k + i ∧ vs[i]? = some v
  | [], _, _, _, h => by cases h
  | u :: us, k, j, v, h => by
    simp only [envOf, lk] at h
    by_cases e : k = j
    · subst e
      rw [show Nat.beq k k = true from Nat.beq_refl k] at h
      simp only [cond_true, Option.some.injEq] at h
      subst h
      exact ⟨0, rfl, rfl⟩
    · rw [show Nat.beq k j = false from by rw [← Bool.not_eq_true, Nat.beq_eq]; exact e] at h
      obtain ⟨i, hi, hv⟩ := envOf_get us (k + 1) j v h
      exact ⟨i + 1, by omega, by simpa using hv⟩

/-- The frame in which a body begins. -/
theorem Fr.enter {args : List Value} {m : Nat} (h : Nat.ble args.length m = true) : Fr ⟨m, []⟩ (envOf 0 args) { tmps := args.toArray ++ Array.replicate (m - args.toArray.size) undef, defers := [] } := by
  have h' := Nat.le_of_ble_eq_true h
  refine ⟨by simp; omega, rfl, fun j v hj => ?_⟩
  obtain ⟨i, rfl, hv⟩ := envOf_get _ _ _ _ hj
  have hi : i < args.length := (List.getElem?_eq_some_iff.1 hv).1
  refine ⟨by show _ < m; omega, ?_⟩
  simp only [Nat.zero_add, Array.getD_eq_getD_getElem?]
  rw [Array.getElem?_append_left (by simpa using hi)]
  simp [hv]

/-- What a contract asks of the end. -/
def Ends (R : Value → List Ent → Prop) (W : World) (D : List Nat) (e : Ending) (w : World) : Prop := ∃ v σ', e = .returned v ∧ R v σ' ∧ H W D σ' w

/-- A body's end. -/
def endPost (P : Program) (fn : Func) (R : Ending → World → Prop) : Post := bodyPostM Fence.wide 0 P fn R
/-- The cells that are known hold. -/
def HC (σ : List Ent) (w : World) : Prop := ∀ b E c, cells b E c ∈ σ → (cells b E c).holds w
theorem H.hc {w : World} (h : H W D σ w) : HC σ w := fun _ _ _ hm => h.mem hm
theorem H.putOb {w : World} {e : Ent} {b : Nat} (o : Obj) (he : e.dom = [b]) (h : H W D (e :: σ) w) : H W D σ (w.putObj b o) := by
  have h' : H W D ([e] ++ σ) w := h
  have h1 : H w (doms [e]) [] (w.putObj b o) := by
    refine ⟨fun _ h => (by cases h), by simp [doms], fun _ h => (by simp [doms] at h), fun k _ hn => ?_, by simp, rfl, rfl, rfl⟩
    exact World.putObj_heap_other (by simpa [doms, he] using hn)
  simpa using h'.call h1
theorem leave {fn : Func} {tmps : Array Value} {R : Ending → World → Prop} {τ : List Ent} : ∀ (ds : List Nat) (σ' : List Ent) (w : World), H W D (dfrs ds ++ σ') w → HC τ w →
    (∀ w', H W D σ' w' → HC τ w' → ∃ v, (results fn tmps).run P w' = .ok v w' ∧ R (.returned v) w') → LeavesInM Fence.wide 0 P fn tmps R (ds.map mark) .returning w
  | [], _, w, h, hc, hk => hk w h hc
  | b :: ds, σ', w, h, hc, hk => by
    have hb : w.heap[b]? = some (.deferred (some [])) := by
      have := h.mem (e := dfr b) (by simp [dfrs])
      rwa [dfr, ob_holds] at this
    refine ⟨by simp, .inl ⟨b, _, rfl, run_takeDeferred hb, leave ds σ' _ (H.putOb (e := dfr b) _ (by rw [dfr, ob_dom]) h) ?_ hk⟩⟩
    intro c E cs hm
    have h1 := hc c E cs hm
    rw [cells_holds] at h1 ⊢
    rw [World.putObj_heap_other (fun e => by subst e; rw [hb] at h1; cases h1)]
    exact h1
theorem Ct.enter {f : FuncId} {fn : Func} {c : Code} {args : List Value} {R : Value → List Ent → Prop} (hf : P.funcs[f]? = some fn) (hb : fn.body = some c) (hn : Nat.ble args.length fn.ntmps = true)
    (h : ∀ W, Wp P none W (doms σ) ⟨fn.ntmps, []⟩ (endPost P fn (Ends R W (doms σ))) c (envOf 0 args) σ) : Ct P f args σ R := fun w h0 => by
  refine (callsIn_wide (n := 0)).1 (callsIn_of_wp_marks hf hb trivial ?_ rfl)
  exact h w _ w (Fr.enter hn) h0.start

/-- What a result variable holds. -/
def ResIs (P : Program) (env : Env) (σ : List Ent) : ResultVar → Value → Prop
  | .tmp t, v => lk env t = some v
  | .cell p T, v => ∃ b E c o, lk env p = some (Ptr b o) ∧ cells b E c ∈ σ ∧ Reads P T o c v
theorem ResIs.tmp {t : Tmp} {v : Value} (h : lk env t = some v) : ResIs P env σ (.tmp t) v := h
theorem ResIs.cell {p : Tmp} {T E : TypeId} {b o : Nat} {c : List Value} {v : Value} (h : lk env p = some (Ptr b o)) (hm : cells b E c ∈ σ) (hr : Reads P T o c v) : ResIs P env σ (.cell p T) v := ⟨b, E, c, o, h, hm, hr⟩

def resOf (tmps : Array Value) : ResultVar → Sem Value
  | .tmp t => pure (tmps.getD t undef)
  | .cell p T => do loadVar T (← asAddr (tmps.getD p undef))
theorem results_eq (fn : Func) (tmps : Array Value) : results fn tmps = (do let vs ← fn.results.mapM (resOf tmps); pure (if h : vs.size = 1 then vs[0] else .tuple vs)) := by
  unfold results
  congr 1
theorem ResIs.run {a : Act} {w : World} (hF : Fr n env a) (hH : HC σ w) {rv : ResultVar} {v : Value} (h : ResIs P env σ rv v) : (resOf a.tmps rv).run P w = .ok v w := by
  cases rv with
  | tmp t => simp only [resOf, Sem.run_pure]; rw [(hF.get t v h).2]
  | cell p T =>
    obtain ⟨b, E, c, o, hp, hm, hr⟩ := h
    simp only [resOf, (hF.get p _ hp).2, asAddr, Sem.run_bind, Sem.run_pure, Result.andThen_ok, hr.run (hH _ _ _ hm)]
theorem results1 {fn : Func} {rv : ResultVar} {v : Value} {a : Act} {w : World} (hr : fn.results = #[rv]) (hF : Fr n env a) (hH : HC σ w) (h : ResIs P env σ rv v) : (results fn a.tmps).run P w = .ok v w := by
  have e1 := h.run hF hH
  rw [results_eq, hr]
  simp [e1]
theorem results2 {fn : Func} {r1 r2 : ResultVar} {v1 v2 : Value} {a : Act} {w : World} (hr : fn.results = #[r1, r2]) (hF : Fr n env a) (hH : HC σ w) (h1 : ResIs P env σ r1 v1) (h2 : ResIs P env σ r2 v2) : (results fn a.tmps).run P w = .ok (.tuple #[v1, v2]) w := by
  have e1 := h1.run hF hH
  have e2 := h2.run hF hH
  rw [results_eq, hr]
  simp [Sem.run_bind, e1, e2]
theorem results3 {fn : Func} {r1 r2 r3 : ResultVar} {v1 v2 v3 : Value} {a : Act} {w : World} (hr : fn.results = #[r1, r2, r3]) (hF : Fr n env a) (hH : HC σ w) (h1 : ResIs P env σ r1 v1) (h2 : ResIs P env σ r2 v2) (h3 : ResIs P env σ r3 v3) : (results fn a.tmps).run P w = .ok (.tuple #[v1, v2, v3]) w := by
  have e1 := h1.run hF hH
  have e2 := h2.run hF hH
  have e3 := h3.run hF hH
  rw [results_eq, hr]
  simp [Sem.run_bind, e1, e2, e3]
theorem results4 {fn : Func} {r1 r2 r3 r4 : ResultVar} {v1 v2 v3 v4 : Value} {a : Act} {w : World} (hr : fn.results = #[r1, r2, r3, r4]) (hF : Fr n env a) (hH : HC σ w) (h1 : ResIs P env σ r1 v1) (h2 : ResIs P env σ r2 v2) (h3 : ResIs P env σ r3 v3) (h4 : ResIs P env σ r4 v4) : (results fn a.tmps).run P w = .ok (.tuple #[v1, v2, v3, v4]) w := by
  have e1 := h1.run hF hH
  have e2 := h2.run hF hH
  have e3 := h3.run hF hH
  have e4 := h4.run hF hH
  rw [results_eq, hr]
  simp [Sem.run_bind, e1, e2, e3, e4]

variable {fn : Func} {R : Value → List Ent → Prop}
variable {m : Nat}
end
end Go.HL
/-
  A program's tables, as the walk asks them: closed facts, looked up by number.
-/
namespace Go.HL
open Go

def lk2 : List (Nat × Nat × Nat) → Nat → Nat → Option Nat
  | [], _, _ => none
  | (a, b, v) :: l, i, j => bif Nat.beq a i && Nat.beq b j then some v else lk2 l i j
def lk1 : List (Nat × Nat) → Nat → Option Nat
  | [], _ => none
  | (a, v) :: l, i => bif Nat.beq a i then some v else lk1 l i
def lkZ : List (Nat × List Value) → Nat → Option (List Value)
  | [], _ => none
  | (a, v) :: l, i => bif Nat.beq a i then some v else lkZ l i
def lkK : List (Nat × IntKind) → Nat → Option IntKind
  | [], _ => none
  | (a, v) :: l, i => bif Nat.beq a i then some v else lkK l i

theorem lk2_mem : ∀ {l : List (Nat × Nat × Nat)} {i j v : Nat}, lk2 l i j = some v → (i, j, v) ∈ l
  | (a, b, u) :: l, i, j, v, h => by
    simp only [lk2] at h
    cases e : (Nat.beq a i && Nat.beq b j) with
    | true =>
      rw [e] at h
      simp only [cond_true, Option.some.injEq] at h
      simp only [Bool.and_eq_true] at e
      have e1 := Nat.eq_of_beq_eq_true e.1
      have e2 := Nat.eq_of_beq_eq_true e.2
      subst e1 e2 h
      simp
    | false => rw [e] at h; simp only [cond_false] at h; exact List.mem_cons_of_mem _ (lk2_mem h)
theorem lk1_mem : ∀ {l : List (Nat × Nat)} {i v : Nat}, lk1 l i = some v → (i, v) ∈ l
  | (a, u) :: l, i, v, h => by
    simp only [lk1] at h
    cases e : Nat.beq a i with
    | true =>
      rw [e] at h
      simp only [cond_true, Option.some.injEq] at h
      have e1 := Nat.eq_of_beq_eq_true e
      subst e1 h
      simp
    | false => rw [e] at h; simp only [cond_false] at h; exact List.mem_cons_of_mem _ (lk1_mem h)
theorem lkK_mem : ∀ {l : List (Nat × IntKind)} {i : Nat} {v : IntKind}, lkK l i = some v → (i, v) ∈ l
  | (a, u) :: l, i, v, h => by
    simp only [lkK] at h
    cases e : Nat.beq a i with
    | true =>
      rw [e] at h
      simp only [cond_true, Option.some.injEq] at h
      have e1 := Nat.eq_of_beq_eq_true e
      subst e1 h
      simp
    | false => rw [e] at h; simp only [cond_false] at h; exact List.mem_cons_of_mem _ (lkK_mem h)
theorem lkZ_mem : ∀ {l : List (Nat × List Value)} {i : Nat} {v : List Value}, lkZ l i = some v → (i, v) ∈ l
  | (a, u) :: l, i, v, h => by
    simp only [lkZ] at h
    cases e : Nat.beq a i with
    | true =>
      rw [e] at h
      simp only [cond_true, Option.some.injEq] at h
      have e1 := Nat.eq_of_beq_eq_true e
      subst e1 h
      simp
    | false => rw [e] at h; simp only [cond_false] at h; exact List.mem_cons_of_mem _ (lkZ_mem h)

def ZerosOk (P : Program) : List (Nat × List Value) → Prop
  | [] => True
  | (T, c) :: l => ((P.info? T).bind (·.zero)).map (·.cells.toList) = some c ∧ ZerosOk P l
theorem ZerosOk.get {P : Program} : ∀ {l : List (Nat × List Value)}, ZerosOk P l → ∀ e, e ∈ l → ((P.info? e.1).bind (·.zero)).map (·.cells.toList) = some e.2
  | (T, c) :: l, h, e, he => by
    rcases List.mem_cons.1 he with rfl | he
    · exact h.1
    · exact ZerosOk.get h.2 e he

def isIntB (P : Program) (t : TypeId) (k : IntKind) : Bool := match P.underlying t with | some (.int k') => k == k' | _ => false
def isStrB (P : Program) (t : TypeId) : Bool := match P.underlying t with | some .string => true | _ => false
def isBoolB (P : Program) (t : TypeId) : Bool := match P.underlying t with | some .bool => true | _ => false
def sliceB (P : Program) (t e sz by_ : Nat) : Bool := match P.underlying t, P.info? e with | some (.slice e'), some i => e == e' && i.size == sz && i.bytes == by_ && i.zero.isSome && !(sz == 0) && (match i.zero with | some z => z.cells.size == sz | none => false) | _, _ => false

/-- Where a struct's field lies, and how many cells it has. -/
def fieldPlaceB (P : Program) (T f off k : Nat) : Bool :=
  match P.underlying T with
  | some (.struct fs) => match fs[f]? with
    | some fd => fd.offset == off && ((P.info? fd.type).map (·.size) == some k)
    | none => false
  | _ => false
def sliceTB (P : Program) (t e : Nat) : Bool := match P.underlying t with | some (.slice e') => e == e' | _ => false
def fkB (P : Program) (fld : List (Nat × Nat × Nat)) (e : Nat × Nat × Nat) : Bool := match lk2 fld e.1 e.2.1 with | some off => fieldPlaceB P e.1 e.2.1 off e.2.2 | none => false
def arrB (P : Program) (T n E : Nat) : Bool := match P.underlying T with | some (.array n' e') => n == n' && E == e' | _ => false
def lkA : List (Nat × Nat × Nat) → Nat → Option (Nat × Nat)
  | [], _ => none
  | (a, v) :: l, i => bif Nat.beq a i then some v else lkA l i
theorem lkA_mem : ∀ {l : List (Nat × Nat × Nat)} {i : Nat} {v : Nat × Nat}, lkA l i = some v → (i, v) ∈ l
  | (a, u) :: l, i, v, h => by
    simp only [lkA] at h
    cases e : Nat.beq a i with
    | true =>
      rw [e] at h
      simp only [cond_true, Option.some.injEq] at h
      have e1 := Nat.eq_of_beq_eq_true e
      subst e1 h
      simp
    | false => rw [e] at h; simp only [cond_false] at h; exact List.mem_cons_of_mem _ (lkA_mem h)
/-- The tables. -/
structure Tabs (P : Program) where
  fld : List (Nat × Nat × Nat)
  fk : List (Nat × Nat × Nat)
  slc : List (Nat × Nat)
  szs : List (Nat × Nat)
  agg : List (Nat × Nat)
  one : List (Nat × Nat)
  zeros : List (Nat × List Value)
  ints : List (Nat × IntKind)
  strs : List (Nat × Nat)
  bools : List (Nat × Nat)
  byt : List (Nat × Nat)
  arr : List (Nat × Nat × Nat)
  fld_ok : (fld.all fun e => fieldOff P e.1 e.2.1 == some e.2.2) = true
  agg_ok : (agg.all fun e => aggB P e.1 e.2) = true
  one_ok : (one.all fun e => oneB P e.1 && e.2 == 1) = true
  ints_ok : (ints.all fun e => isIntB P e.1 e.2) = true
  strs_ok : (strs.all fun e => isStrB P e.1) = true
  fk_ok : (fk.all (fkB P fld)) = true
  slc_ok : (slc.all fun e => sliceTB P e.1 e.2) = true
  szs_ok : (szs.all fun e => (P.info? e.1).map (·.size) == some e.2) = true
  bools_ok : (bools.all fun e => isBoolB P e.1) = true
  byt_ok : (byt.all fun e => (P.info? e.1).map (·.bytes) == some e.2) = true
  arr_ok : (arr.all fun e => arrB P e.1 e.2.1 e.2.2) = true
  zeros_ok : ZerosOk P zeros

section
variable {P : Program} (tb : Tabs P)
theorem Tabs.fldAt {s f off : Nat} (h : lk2 tb.fld s f = some off) : fieldOff P s f = some off := by
  have := List.all_eq_true.1 tb.fld_ok _ (lk2_mem h)
  simpa using this
theorem Tabs.slcAt {T E : Nat} (h : lk1 tb.slc T = some E) : sliceTB P T E = true := List.all_eq_true.1 tb.slc_ok _ (lk1_mem h)
theorem Tabs.arrAt {T n E : Nat} (h : lkA tb.arr T = some (n, E)) : P.underlying T = some (.array n E) := by
  have := List.all_eq_true.1 tb.arr_ok _ (lkA_mem h)
  simp only [arrB] at this
  split at this
  · rename_i n' e' he
    simp only [Bool.and_eq_true, beq_iff_eq] at this
    rw [he, this.1, this.2]
  · cases this
theorem Tabs.szAt {T k : Nat} (h : lk1 tb.szs T = some k) : (P.info? T).map (·.size) = some k := by
  have := List.all_eq_true.1 tb.szs_ok _ (lk1_mem h)
  simpa using this
theorem Tabs.bytAt {T k : Nat} (h : lk1 tb.byt T = some k) : (P.info? T).map (·.bytes) = some k := by
  have := List.all_eq_true.1 tb.byt_ok _ (lk1_mem h)
  simpa using this
theorem Tabs.fkAt {T f off k : Nat} (h : lk2 tb.fld T f = some off) (hk : lk2 tb.fk T f = some k) : fieldPlaceB P T f off k = true := by
  have := List.all_eq_true.1 tb.fk_ok _ (lk2_mem hk)
  simp only [fkB, h] at this
  exact this
theorem Tabs.aggAt {T k : Nat} (h : lk1 tb.agg T = some k) : aggB P T k = true := List.all_eq_true.1 tb.agg_ok _ (lk1_mem h)
theorem Tabs.oneAt {T k : Nat} (h : lk1 tb.one T = some k) : oneB P T = true := by
  have := List.all_eq_true.1 tb.one_ok _ (lk1_mem h)
  simp only [Bool.and_eq_true] at this
  exact this.1
theorem Tabs.intAt {T : Nat} {k : IntKind} (h : lkK tb.ints T = some k) : P.underlying T = some (.int k) := by
  have := List.all_eq_true.1 tb.ints_ok _ (lkK_mem h)
  simp only [isIntB] at this
  split at this
  · rename_i k' e; rw [e]; simp at this; rw [this]
  · cases this
theorem Tabs.strAt {T k : Nat} (h : lk1 tb.strs T = some k) : P.underlying T = some .string := by
  have := List.all_eq_true.1 tb.strs_ok _ (lk1_mem h)
  simp only [isStrB] at this
  split at this
  · assumption
  · cases this
theorem Tabs.boolAt {T k : Nat} (h : lk1 tb.bools T = some k) : P.underlying T = some .bool := by
  have := List.all_eq_true.1 tb.bools_ok _ (lk1_mem h)
  simp only [isBoolB] at this
  split at this
  · assumption
  · cases this
theorem Tabs.zeroAt {T : Nat} {c : List Value} (h : lkZ tb.zeros T = some c) : ∃ z, (P.info? T).bind (·.zero) = some z ∧ z.cells.toList = c := by
  have := tb.zeros_ok.get _ (lkZ_mem h)
  obtain ⟨z, hz, hc⟩ := Option.map_eq_some_iff.1 this
  exact ⟨z, hz, hc⟩
theorem Tabs.sizeAgg {T k : Nat} (h : lk1 tb.agg T = some k) : (P.info? T).map (·.size) = some k := (aggB_spec (tb.aggAt h)).choose_spec.2.2
theorem Tabs.sizeOne {T k : Nat} (h : lk1 tb.one T = some k) : (P.info? T).map (·.size) = some 1 := (oneB_spec (tb.oneAt h)).choose_spec.2.2
end

/-- A part of a struct's cells, known by its name. -/
class SegOf (o k : Nat) (c : List Value) (c' : outParam (List Value)) : Prop where
  eq : seg o k c = c'
/-- A struct with a part put anew. -/
class SplOf (o : Nat) (x c : List Value) (c' : outParam (List Value)) : Prop where
  eq : splice o x c = c'

section
variable {P : Program} {r : Option Nat} {W : World} {D : List Nat} {n : Fm} {Q : Post} {env env' : Env} {σ σ' : List Ent} {ops : Array Oper} {rest : List Oper}
variable {dst : Nat} {ty : TypeId} {pos : String} {af : Array Edge} {gd : Option (Nat × Bool)} {C : Env → List Ent → Prop}

/-- A load of one cell. -/
theorem Val.load1 (tb : Tabs P) {T E : TypeId} {x : Operand} {b o u : Nat} {c : List Value} {v : Value} (h1 : lk1 tb.one T = some u)
 (hx : ev env x = some (Ptr b o)) (hm : cells b E c ∈ σ) (hr : c[o]? = some v) : Val P n env σ ⟨some dst, .load T x, ty, pos, af, gd⟩ (v) :=
  Val.load hx hm (Reads.one (tb.oneAt h1) hr)
/-- A load of a struct or an array. -/
theorem Val.loadA (tb : Tabs P) {T E : TypeId} {x : Operand} {b o k : Nat} {c c' : List Value} (h1 : lk1 tb.agg T = some k)
 (hx : ev env x = some (Ptr b o)) (hm : cells b E c ∈ σ) (hl : Nat.ble (o + k) c.length = true) (hs : SegOf o k c c') : Val P n env σ ⟨some dst, .load T x, ty, pos, af, gd⟩ (A c') :=
  Val.load hx hm (Reads.agg (tb.aggAt h1) hl hs.eq)
theorem Op1.store1 (tb : Tabs P) {T E : TypeId} {x y : Operand} {b o u : Nat} {c c' : List Value} {v : Value} (h1 : lk1 tb.one T = some u)
    (hx : ev env x = some (Ptr b o)) (hy : ev env y = some v) (hv : v.oneCell' = true) (hm : Upd σ (cells b E c) (cells b E c') σ')
    (hl : Nat.blt o c.length = true) (hs : SplOf o [v] c c') (hC : C env σ') : Op1 P r W D n ⟨none, .store T x y, ty, pos, af, gd⟩ env σ C := by
  have hvc : v.cells = #[v] := by cases v <;> first | rfl | (cases hv; done)
  refine Op1.store hx hy hm (by rw [tb.sizeOne h1, hvc]; rfl) (by rw [hvc]; exact hl) (by rw [hvc]; simp [hv]) ?_ hC
  rw [hvc]; exact hs.eq
theorem Op1.storeA (tb : Tabs P) {T E : TypeId} {x y : Operand} {b o k : Nat} {c c' u : List Value} (h1 : lk1 tb.agg T = some k)
    (hx : ev env x = some (Ptr b o)) (hy : ev env y = some (A u)) (hk : u.length = k) (hv : u.all (·.oneCell') = true) (hm : Upd σ (cells b E c) (cells b E c') σ')
    (hl : Nat.ble (o + k) c.length = true) (hs : SplOf o u c c') (hC : C env σ') : Op1 P r W D n ⟨none, .store T x y, ty, pos, af, gd⟩ env σ C := by
  subst hk
  exact Op1.store hx hy hm (by rw [tb.sizeAgg h1]; simp [Value.cells]) (by simpa [Value.cells] using hl) (by simpa [Value.cells] using hv) hs.eq hC
theorem Val.fieldAddrT (tb : Tabs P) {s : TypeId} {x : Operand} {f b o off o' : Nat} (hx : ev env x = some (Ptr b o)) (hf : lk2 tb.fld s f = some off) (ho : o + off = o') : Val P n env σ ⟨some dst, .fieldAddr s x f, ty, pos, af, gd⟩ (Ptr b o') :=
  Val.fieldAddr hx (tb.fldAt hf) ho
theorem Op1.boxA {T : TypeId} {x : Operand} {c : List Value} (hd : Nat.blt dst n.n = true) (hx : ev env x = some (A c))
    (hC : ∀ b, C ((dst, Ptr b 0) :: env) (cells b T c :: σ)) : Op1 P r W D n ⟨some dst, .box T x, ty, pos, af, gd⟩ env σ C := Op1.box hd hx rfl hC
theorem Op1.box1 {T : TypeId} {x : Operand} {v : Value} (hd : Nat.blt dst n.n = true) (hx : ev env x = some v) (hv : v.cells.toList = [v])
    (hC : ∀ b, C ((dst, Ptr b 0) :: env) (cells b T [v] :: σ)) : Op1 P r W D n ⟨some dst, .box T x, ty, pos, af, gd⟩ env σ C := Op1.box hd hx hv hC
theorem Op1.allocT (tb : Tabs P) {T : TypeId} {c : List Value} (hd : Nat.blt dst n.n = true) (hz : lkZ tb.zeros T = some c)
    (hC : ∀ b, C ((dst, Ptr b 0) :: env) (cells b T c :: σ)) : Op1 P r W D n ⟨some dst, .alloc T, ty, pos, af, gd⟩ env σ C := by
  obtain ⟨z, h1, h2⟩ := tb.zeroAt hz
  exact Op1.alloc hd h1 h2 hC
theorem Val.cmpBT (tb : Tabs P) {t ty' : TypeId} {x y : Operand} {p q : Bool} {u : Nat} (hx : ev env x = some (.bool p)) (hy : ev env y = some (.bool q)) (ht : lk1 tb.bools t = some u) : Val P n env σ ⟨some dst, .binOp .eql t x y ty', ty, pos, af, gd⟩ (.bool (p == q)) :=
  Val.eql hx hy rfl rfl (EqT.bool (tb.boolAt ht))
theorem Val.convT (tb : Tabs P) {t u : TypeId} {x : Operand} {k k' k'' : IntKind} {p : Int} (hx : ev env x = some (.int k p)) (ht : lkK tb.ints u = some k')
 (hu : lkK tb.ints t = some k'') : Val P n env σ ⟨some dst, .convert t u x, ty, pos, af, gd⟩ (.int k' (k'.wrap p)) :=
  Val.conv hx (tb.intAt ht) (by rw [tb.intAt hu]; rfl)
end
end Go.HL
/-
  Equality of structs, and structs built of parts.
-/
namespace Go.HL
open Go
section
variable {P : Program}

/-- What 'part' yields: as a load does. -/
theorem Reads.part {T : TypeId} {o : Nat} {c : List Value} {v : Value} (h : Reads P T o c v) (w : World) : (Go.part T c.toArray o).run P w = .ok v w := by
  rcases h with ⟨h1, h2⟩ | ⟨k, h1, h2, rfl⟩
  · obtain ⟨d, hu, hd, _⟩ := oneB_spec h1
    have hagg : (isAgg T).run P w = .ok false w := by
      unfold isAgg
      rw [Sem.run_bind, run_underlying hu w]
      cases d <;> simp_all [isRowB]
    simp [Go.part, Sem.run_bind, hagg, h2]
  · obtain ⟨d, hu, hd, hi⟩ := aggB_spec h1
    have hagg : (isAgg T).run P w = .ok true w := by
      unfold isAgg
      rw [Sem.run_bind, run_underlying hu w]
      cases d <;> simp_all
    cases hq : P.info? T with
    | none => simp [hq] at hi
    | some i =>
      have hs : i.size = k := by simpa [hq] using hi
      simp [Go.part, Sem.run_bind, hagg, sizeOf, typeInfo, hq, hs, seg, List.take_drop]

def EqFs (P : Program) (d : Nat) (xs ys : List Value) : List (Nat × Nat) → Bool → Prop
  | [], b => b = true
  | f :: fs, b => ∃ u v bf b', Reads P f.1 f.2 xs u ∧ Reads P f.1 f.2 ys v ∧ EqT P d f.1 u v bf ∧ EqFs P d xs ys fs b' ∧ b = (bf && b')

theorem EqFs.run {d : Nat} {xs ys : List Value} : ∀ {fs : List Field} {b : Bool}, (fs.all fun f => !(f.name == "_")) = true → EqFs P d xs ys (fs.map fun f => (f.type, f.offset)) b → ∀ w, (Op.eqFields d xs.toArray ys.toArray fs).run P w = .ok b w
  | [], b, _, h, w => by simp only [List.map_nil, EqFs] at h; subst h; simp [Op.eqFields]
  | f :: fs, b, hn, h, w => by
    obtain ⟨u, v, bf, b', hu, hv, he, hr, rfl⟩ := h
    simp only [List.all_cons, Bool.and_eq_true] at hn
    have hn1 : f.name ≠ "_" := by have := hn.1; simpa using this
    have ih := EqFs.run hn.2 hr w
    cases bf with
    | true => simp [Op.eqFields, hn1, Sem.run_bind, hu.part w, hv.part w, he w, ih]
    | false => simp [Op.eqFields, hn1, Sem.run_bind, hu.part w, hv.part w, he w]

def fieldsB (P : Program) (T : TypeId) (l : List (Nat × Nat)) : Bool :=
  match P.underlying T with
  | some (.struct fs) => (fs.toList.map fun f => (f.type, f.offset)) == l && fs.toList.all (fun f => !(f.name == "_")) && !P.stoodInHeld T
  | _ => false
theorem EqT.struct {d : Nat} {T : TypeId} {xs ys : List Value} {b : Bool} {l : List (Nat × Nat)} (hb : fieldsB P T l = true) (h : EqFs P d xs ys l b) :
    EqT P (d + 1) T (.agg xs.toArray) (.agg ys.toArray) b := fun w => by
  unfold fieldsB at hb
  split at hb
  · rename_i fs hu
    simp only [Bool.and_eq_true, beq_iff_eq, Bool.not_eq_true'] at hb
    obtain ⟨⟨rfl, hn⟩, hp⟩ := hb
    have hf : P.fieldsOf T = fs := by simp [Program.fieldsOf, hu]
    rw [run_equalIn_struct w d T _ _ (by rw [hf, hu]) hp, hf]
    exact EqFs.run hn h w
  · cases hb
theorem EqFs.runItems {d : Nat} {xs ys : List Value} {e c : Nat} : ∀ {is : List Nat} {b : Bool}, EqFs P d xs ys (is.map fun i => (e, i * c)) b → ∀ w, (Op.eqItems d e c xs.toArray ys.toArray is).run P w = .ok b w
  | [], b, h, w => by simp only [List.map_nil, EqFs] at h; subst h; simp [Op.eqItems]
  | i :: is, b, h, w => by
    obtain ⟨u, v, bf, b', hu, hv, he, hr, rfl⟩ := h
    have ih := EqFs.runItems hr w
    cases bf with
    | true => simp [Op.eqItems, Sem.run_bind, hu.part w, hv.part w, he w, ih]
    | false => simp [Op.eqItems, Sem.run_bind, hu.part w, hv.part w, he w]
def arrayB (P : Program) (T : TypeId) (l : List (Nat × Nat)) : Bool :=
  match P.underlying T with
  | some (.array n e) => ((List.range n).map fun i => (e, i * P.cellsOf e)) == l && (P.info? e).isSome
  | _ => false
theorem EqT.array {d : Nat} {T : TypeId} {xs ys : List Value} {b : Bool} {l : List (Nat × Nat)} (hb : arrayB P T l = true) (h : EqFs P d xs ys l b) :
    EqT P (d + 1) T (.agg xs.toArray) (.agg ys.toArray) b := fun w => by
  unfold arrayB at hb
  split at hb
  · rename_i n e hu
    simp only [Bool.and_eq_true, beq_iff_eq] at hb
    obtain ⟨rfl, hi⟩ := hb
    obtain ⟨i, hi⟩ := Option.isSome_iff_exists.1 hi
    rw [run_equalIn_array w d _ _ hu hi]
    exact EqFs.runItems h w
  · cases hb
theorem EqT.int {d : Nat} {T : TypeId} {k k' : IntKind} {p q : Int} (h : P.underlying T = some (.int k')) : EqT P (d + 1) T (.int k p) (.int k q) (decide (p = q)) := fun w => by
  rw [run_equalIn_int w d T k k' p q h]; rfl
theorem EqT.str {d : Nat} {T : TypeId} {p q : List UInt8} (h : P.underlying T = some .string) : EqT P (d + 1) T (S p) (S q) (decide (p = q)) := fun w => by
  rw [run_equalIn_string w d T _ _ h]
  congr 1
  rw [Bool.eq_iff_iff]
  simp [ByteArray.toList_eq]
end

theorem splice_set (o : Nat) (x : Value) (l c : List Value) (h : o < c.length) : splice (o + 1) l (c.set o x) = splice o (x :: l) c := by
  simp only [splice, List.length_cons]
  rw [show o + (l.length + 1) = o + 1 + l.length by omega]
  have e1 : (c.set o x).take (o + 1) = c.take o ++ [x] := by
    rw [List.take_succ_eq_append_getElem (by simpa using h), List.take_set_of_le (Nat.le_refl _)]
    simp
  have e2 : (c.set o x).drop (o + 1 + l.length) = c.drop (o + 1 + l.length) := by
    rw [List.drop_set_of_lt (by omega)]
  rw [e1, e2]
  simp

theorem fill_fold (off : Nat) : ∀ (l : List Value) (k : Nat) (c : Array Value), off + k + l.length ≤ c.size →
    (l.zipIdx k).foldl (fun cs (p : Value × Nat) => cs.setIfInBounds (off + p.2) p.1) c = (splice (off + k) l c.toList).toArray
  | [], k, c, _ => by simp [splice]
  | x :: l, k, c, h => by
    simp only [List.zipIdx_cons, List.foldl_cons]
    rw [fill_fold off l (k + 1) _ (by simp at h ⊢; omega)]
    rw [← splice_set (off + k) x l c.toList (by simp at h ⊢; omega)]
    simp [Nat.add_assoc]

section
variable {P : Program}
/-- Parts laid one behind the other into cells. -/
def Built (P : Program) (T : TypeId) : List (Nat × Value) → List Value → List Value → Prop
  | [], c, c' => c' = c
  | (f, v) :: l, c, c' => ∃ off c1, fieldPlaceB P T f off v.cells.size = true ∧ Nat.ble (off + v.cells.size) c.length = true ∧ splice off v.cells.toList c = c1 ∧ Built P T l c1 c'

theorem fillBuilt {T : TypeId} {fs : Array Field} {ks : Array (Nat × Nat)} (hu : P.underlying T = some (.struct fs)) (hk : ∀ (f : Nat) (fd : Field) (k : Nat), fs[f]? = some fd → (P.info? fd.type).map (·.size) = some k → ks[f]? = some (fd.offset, k)) :
    ∀ {l : List (Nat × Value)} {c c' : List Value}, Built P T l c c' → Instr.fill (ks[·]?) c.toArray l = some c'.toArray
  | [], c, c', h => by simp only [Built] at h; subst h; rfl
  | (f, v) :: l, c, c', h => by
    obtain ⟨off, c1, hp, hle, hs, hr⟩ := h
    unfold fieldPlaceB at hp
    rw [hu] at hp
    simp only at hp
    split at hp
    · rename_i fd hfd
      simp only [Bool.and_eq_true, beq_iff_eq] at hp
      have hks := hk f fd v.cells.size hfd hp.2
      have hle' := Nat.le_of_ble_eq_true hle
      subst hs
      unfold Instr.fill
      simp only [hks, hp.1]
      rw [if_neg (by simp; omega)]
      have hff := fill_fold off v.cells.toList 0 c.toArray (by simpa using hle')
      simp only [Nat.add_zero] at hff
      have e : (v.cells.zipIdx.foldl (fun cs (x : Value × Nat) => match x with | (c, j) => cs.setIfInBounds (off + j) c) c.toArray) = (splice off v.cells.toList c).toArray := by
        rw [← Array.foldl_toList]
        simpa using hff
      rw [e]
      exact fillBuilt hu hk hr
    · cases hp

def placeOf (f : Field) : Sem (Nat × Nat) := do pure (f.offset, ← sizeOf f.type)
theorem run_placeOf (w : World) {f : Field} (h : (P.info? f.type).isSome = true) : (placeOf f).run P w = .ok (f.offset, P.cellsOf f.type) w := by
  obtain ⟨i, hi⟩ := Option.isSome_iff_exists.1 h
  simp [placeOf, sizeOf, typeInfo, hi, Program.cellsOf]
theorem run_places (w : World) : ∀ (l : List Field), (l.all fun f => (P.info? f.type).isSome) = true →
    (l.mapM placeOf).run P w = .ok (l.map fun f => (f.offset, P.cellsOf f.type)) w
  | [], _ => by simp
  | f :: l, h => by
    simp only [List.all_cons, Bool.and_eq_true] at h
    rw [List.mapM_cons]
    simp only [Sem.run_bind, run_placeOf w h.1, run_places w l h.2, Result.andThen_ok, Sem.run_pure, List.map_cons]

def bldOk (P : Program) (T : TypeId) : Bool :=
  match P.underlying T with
  | some (.struct fs) => fs.toList.all fun f => (P.info? f.type).isSome
  | _ => false

theorem run_build {T : TypeId} {z : Value} {parts : List (Nat × Value)} {c' : List Value} (hok : bldOk P T = true) (hz : (P.info? T).bind (·.zero) = some z) (hb : Built P T parts z.cells.toList c') (w : World) :
    (Instr.build T parts.toArray).run P w = .ok (A c') w := by
  unfold bldOk at hok
  split at hok
  · rename_i fs hu
    obtain ⟨i, hi, hz'⟩ := Option.bind_eq_some_iff.1 hz
    have hzv : (zeroValue T).run P w = .ok z w := by simp [zeroValue, typeInfo, hi, hz']
    have hm : (fs.mapM placeOf).run P w = .ok (fs.map fun f => (f.offset, P.cellsOf f.type)) w := by
      rw [Array.mapM_eq_mapM_toList]
      have := run_places (P := P) w fs.toList hok
      simp only [Sem.run_map, this]
      simp [← Array.toList_map]
    have hf := fillBuilt (ks := fs.map fun f => (f.offset, P.cellsOf f.type)) hu (fun f fd k hfd hk => by
      have : P.cellsOf fd.type = k := by simp [Program.cellsOf, hk]
      simp [hfd, this]) hb
    simp only [Array.toArray_toList] at hf
    have hm' : (fs.mapM fun f => (do pure (f.offset, ← sizeOf f.type) : Sem (Nat × Nat))).run P w = .ok (fs.map fun f => (f.offset, P.cellsOf f.type)) w := hm
    unfold Instr.build
    simp only [Sem.run_bind, hzv, run_underlying hu, Result.andThen_ok, hm', hf, Sem.run_pure]
  · cases hok
end

section
variable {P : Program} {r : Option Nat} {W : World} {D : List Nat} {n : Fm} {Q : Post} {env env' : Env} {σ σ' : List Ent} {ops : Array Oper} {rest : List Oper}
variable {dst : Nat} {ty : TypeId} {pos : String} {af : Array Edge} {gd : Option (Nat × Bool)} {C : Env → List Ent → Prop}

def pevs (env : Env) : List (Nat × Operand) → Option (List (Nat × Value))
  | [] => some []
  | (i, x) :: xs => match ev env x, pevs env xs with
    | some v, some vs => some ((i, v) :: vs)
    | _, _ => none
theorem Fr.pevs {a : Act} (h : Fr n env a) : ∀ {xs : List (Nat × Operand)} {vs : List (Nat × Value)}, HL.pevs env xs = some vs → xs.map (fun p => (p.1, a.eval p.2)) = vs
  | [], vs, hx => by simp [HL.pevs] at hx; subst hx; rfl
  | (i, x) :: xs, vs, hx => by
    simp only [HL.pevs] at hx
    split at hx
    · rename_i v vs' h1 h2
      simp only [Option.some.injEq] at hx
      subst hx
      simp [h.eval h1, Fr.pevs h h2]
    · cases hx

theorem Val.build (tb : Tabs P) {T : TypeId} {parts : List (Nat × Operand)} {vs : List (Nat × Value)} {c c' : List Value} (hok : bldOk P T = true) (hz : lkZ tb.zeros T = some c)
    (hx : HL.pevs env parts = some vs) (hb : Built P T vs c c') : Val P n env σ ⟨some dst, .build T parts.toArray, ty, pos, af, gd⟩ (A c') := fun a w hF _ => by
  obtain ⟨z, h1, rfl⟩ := tb.zeroAt hz
  have e : (parts.toArray.map fun (p : Nat × Operand) => (p.1, a.eval p.2)) = vs.toArray := by rw [← hF.pevs hx]; simp
  have e' : (parts.toArray.map fun (x : Nat × Operand) => match x with | (i, x) => (i, a.eval x)) = vs.toArray := e
  simp only [execOp, Sem.run_bind, e', run_build hok h1 hb w, Result.andThen_ok, Sem.run_pure]

theorem Built.nil {T : TypeId} {c : List Value} : Built P T [] c c := rfl
theorem Built.oneT (tb : Tabs P) {T : TypeId} {f off k : Nat} {v : Value} {l : List (Nat × Value)} {c c1 c' : List Value} (hf : lk2 tb.fld T f = some off) (hk : lk2 tb.fk T f = some k) (h1 : k = 1) (hv : v.cells = #[v]) (hl : Nat.blt off c.length = true) (hs : SplOf off [v] c c1) (hr : Built P T l c1 c') : Built P T ((f, v) :: l) c c' := by
  subst h1
  exact ⟨off, c1, by rw [hv]; exact tb.fkAt hf hk, by rw [hv]; exact hl, by rw [hv]; exact hs.eq, hr⟩
theorem Built.aggT (tb : Tabs P) {T : TypeId} {f off k : Nat} {u : List Value} {l : List (Nat × Value)} {c c1 c' : List Value} (hf : lk2 tb.fld T f = some off) (hk : lk2 tb.fk T f = some k) (hu : u.length = k) (hl : Nat.ble (off + k) c.length = true) (hs : SplOf off u c c1) (hr : Built P T l c1 c') : Built P T ((f, A u) :: l) c c' := by
  subst hu
  exact ⟨off, c1, by simpa [Value.cells] using tb.fkAt hf hk, by simpa [Value.cells] using hl, hs.eq, hr⟩
theorem Built.one {T : TypeId} {f off : Nat} {v : Value} {l : List (Nat × Value)} {c c1 c' : List Value} (hp : fieldPlaceB P T f off 1 = true) (hv : v.cells = #[v]) (hl : Nat.blt off c.length = true) (hs : SplOf off [v] c c1) (hr : Built P T l c1 c') : Built P T ((f, v) :: l) c c' :=
  ⟨off, c1, by rw [hv]; exact hp, by rw [hv]; exact hl, by rw [hv]; exact hs.eq, hr⟩
theorem Built.agg {T : TypeId} {f off k : Nat} {u : List Value} {l : List (Nat × Value)} {c c1 c' : List Value} (hp : fieldPlaceB P T f off k = true) (hu : u.length = k) (hl : Nat.ble (off + k) c.length = true) (hs : SplOf off u c c1) (hr : Built P T l c1 c') : Built P T ((f, A u) :: l) c c' := by
  subst hu
  exact ⟨off, c1, by simpa [Value.cells] using hp, by simpa [Value.cells] using hl, hs.eq, hr⟩
end
end Go.HL
/-
  Strings; lengths; the greater of two; picks.
-/
namespace Go.HL
open Go
section
variable {P : Program} {r : Option Nat} {W : World} {D : List Nat} {n : Fm} {Q : Post} {env env' : Env} {σ σ' : List Ent} {ops : Array Oper} {rest : List Oper}
variable {dst : Nat} {ty : TypeId} {pos : String} {af : Array Edge} {gd : Option (Nat × Bool)} {C : Env → List Ent → Prop}

theorem Val.pickT {c x y : Operand} {v : Value} (hc : ev env c = some (.bool true)) (hx : ev env x = some v) : Val P n env σ ⟨some dst, .pick c x y, ty, pos, af, gd⟩ (v) :=
  Val.pick hc (fun _ => hx) (fun h => by cases h)
theorem Val.pickF {c x y : Operand} {v : Value} (hc : ev env c = some (.bool false)) (hy : ev env y = some v) : Val P n env σ ⟨some dst, .pick c x y, ty, pos, af, gd⟩ (v) :=
  Val.pick hc (fun h => by cases h) (fun _ => hy)
theorem size_mk (l : List UInt8) : (⟨l.toArray⟩ : ByteArray).size = l.length := rfl

def cmpS (op : BinOp) (p q : List UInt8) : Option Bool :=
  match op with
  | .eql => some (decide (p = q))
  | .neq => some (!decide (p = q))
  | .lss => some (Op.bytesLess p q)
  | .leq => some (Op.bytesLess p q || decide (p = q))
  | .gtr => some (!(Op.bytesLess p q || decide (p = q)))
  | .geq => some (!Op.bytesLess p q)
  | _ => none
theorem Val.cmpS {op : BinOp} {t ty' : TypeId} {x y : Operand} {p q : List UInt8} {b : Bool} (hx : ev env x = some (S p)) (hy : ev env y = some (S q)) (hb : HL.cmpS op p q = some b) : Val P n env σ ⟨some dst, .binOp op t x y ty', ty, pos, af, gd⟩ (.bool b) :=
  fun a w hF _ => by
    have e : (p == q) = decide (p = q) := by rw [Bool.eq_iff_iff]; simp
    simp only [execOp, hF.eval hx, hF.eval hy]
    cases op <;> simp only [HL.cmpS, Option.some.injEq, reduceCtorEq] at hb <;> subst hb <;> simp [eqGuard, binOp, Op.stringOp, e]
theorem Val.catS {t ty' : TypeId} {x y : Operand} {p q : List UInt8} (hx : ev env x = some (S p)) (hy : ev env y = some (S q)) (hb : (p.length : Int) + q.length ≤ 9223372036854775807) : Val P n env σ ⟨some dst, .binOp .add t x y ty', ty, pos, af, gd⟩ (S (p ++ q)) :=
  fun a w hF _ => by
    have e : (⟨p.toArray⟩ : ByteArray) ++ ⟨q.toArray⟩ = ⟨(p ++ q).toArray⟩ := by
      apply ByteArray.ext
      simp
    simp only [execOp, hF.eval hx, hF.eval hy]
    simp only [eqGuard, binOp, Op.stringOp, size_mk]
    simp [e]
    omega
theorem Val.lenS (tb : Tabs P) {t u : TypeId} {x : Operand} {p : List UInt8} (hx : ev env x = some (S p)) (ht : lk1 tb.strs t = some u) : Val P n env σ ⟨some dst, .call ⟨.builtin .len, #[x], #[t]⟩, ty, pos, af, gd⟩ (I (p.length : Int)) :=
  fun a w hF _ => by
    simp [execOp, resolve, invoke, builtin, Builtin.len_, hF.eval hx, run_underlying (tb.strAt ht), goInt, size_mk]
theorem sliceTB_spec {t e : Nat} (h : sliceTB P t e = true) : P.underlying t = some (.slice e) := by
  unfold sliceTB at h
  split at h
  · rename_i e' he; rw [he]; simp at h; rw [h]
  · cases h
theorem Val.lenL {t e : TypeId} {x : Operand} {a : Option Addr} {len cap : Nat} (hx : ev env x = some (.slice a len cap)) (ht : sliceTB P t e = true) : Val P n env σ ⟨some dst, .call ⟨.builtin .len, #[x], #[t]⟩, ty, pos, af, gd⟩ (I (len : Int)) :=
  fun a w hF _ => by
    simp [execOp, resolve, invoke, builtin, Builtin.len_, hF.eval hx, run_underlying (sliceTB_spec ht), goInt]
theorem Val.lenLT (tb : Tabs P) {t e : TypeId} {x : Operand} {a : Option Addr} {len cap : Nat} (hx : ev env x = some (.slice a len cap)) (ht : lk1 tb.slc t = some e) : Val P n env σ ⟨some dst, .call ⟨.builtin .len, #[x], #[t]⟩, ty, pos, af, gd⟩ (I (len : Int)) :=
  Val.lenL hx (tb.slcAt ht)
/-- The length of a slice that owns its row. -/
theorem Val.lenR {t e E : TypeId} {x : Operand} {v : Value} {sz k : Nat} {xs : List Value} (hx : ev env x = some v) (hm : row v E sz k xs ∈ σ) (ht : sliceTB P t e = true) : Val P n env σ ⟨some dst, .call ⟨.builtin .len, #[x], #[t]⟩, ty, pos, af, gd⟩ (I (k : Int)) :=
  fun a w hF hH => by
    have h := hH _ hm
    rw [row_holds] at h
    rcases h.2 with ⟨rfl, rfl⟩ | ⟨g, cap, cur, rfl, _⟩ <;>
    simp [execOp, resolve, invoke, builtin, Builtin.len_, hF.eval hx, run_underlying (sliceTB_spec ht), goInt]
theorem Val.max {ats : Array TypeId} {x y : Operand} {p q : Int} (hx : ev env x = some (I p)) (hy : ev env y = some (I q)) : Val P n env σ ⟨some dst, .call ⟨.builtin .max, #[x, y], ats⟩, ty, pos, af, gd⟩ (I (Max.max p q)) :=
  fun a w hF _ => by
    have e : (if q > p then q else p) = Max.max p q := by omega
    simp [execOp, resolve, invoke, builtin, Builtin.max_, Builtin.max2, hF.eval hx, hF.eval hy, e]
theorem Val.min {ats : Array TypeId} {x y : Operand} {p q : Int} (hx : ev env x = some (I p)) (hy : ev env y = some (I q)) : Val P n env σ ⟨some dst, .call ⟨.builtin .min, #[x, y], ats⟩, ty, pos, af, gd⟩ (I (Min.min p q)) :=
  fun a w hF _ => by
    have e : (if q < p then q else p) = Min.min p q := by omega
    simp [execOp, resolve, invoke, builtin, Builtin.min_, Builtin.min2, hF.eval hx, hF.eval hy, e]
/-- A byte of a string. -/
theorem Val.indexS (tb : Tabs P) {t u : TypeId} {x y : Operand} {p : List UInt8} {k : IntKind} {i : Int} {b : UInt8} (hx : ev env x = some (S p)) (hy : ev env y = some (.int k i)) (ht : lk1 tb.strs t = some u)
 (h0 : 0 ≤ i) (hb : p[i.toNat]? = some b) : Val P n env σ ⟨some dst, .index t x y, ty, pos, af, gd⟩ (.int .u8 (b.toNat : Int)) :=
  fun a w hF _ => by
    have hlt : i.toNat < p.length := (List.getElem?_eq_some_iff.1 hb).1
    have hg : (⟨p.toArray⟩ : ByteArray)[i.toNat]? = some b := by
      rw [getElem?_pos _ _ (by simpa [size_mk] using hlt)]
      have : p[i.toNat] = b := by simpa [hlt] using hb
      simp [ByteArray.getElem_eq_getElem_data, this]
    simp [execOp, Instr.index, hF.eval hx, hF.eval hy, asIntOf, run_underlying (tb.strAt ht), h0, hg]
theorem extract_mk (p : List UInt8) (l h : Nat) : (⟨p.toArray⟩ : ByteArray).extract l h = ⟨((p.drop l).take (h - l)).toArray⟩ := by
  apply ByteArray.ext
  simp [ByteArray.data_extract, List.take_drop]
theorem Val.sliceLo (tb : Tabs P) {t u : TypeId} {x lo : Operand} {p : List UInt8} {k : IntKind} {i : Int} (hx : ev env x = some (S p)) (hl : ev env lo = some (.int k i)) (ht : lk1 tb.strs t = some u)
 (h0 : 0 ≤ i) (h1 : i ≤ p.length) : Val P n env σ ⟨some dst, .slice t x (some lo) none none, ty, pos, af, gd⟩ (S (p.drop i.toNat)) :=
  fun a w hF _ => by
    have e : (p.drop i.toNat).take (p.length - i.toNat) = p.drop i.toNat := List.take_of_length_le (by simp)
    simp [execOp, Instr.sliceAt, Instr.slice, Instr.sliceBounds, Instr.sliceBound, hF.eval hx, hF.eval hl, asIntOf, run_underlying (tb.strAt ht), h0, h1, size_mk, extract_mk, e]
theorem Val.sliceHi (tb : Tabs P) {t u : TypeId} {x hi : Operand} {p : List UInt8} {k : IntKind} {i : Int} (hx : ev env x = some (S p)) (hl : ev env hi = some (.int k i)) (ht : lk1 tb.strs t = some u)
 (h0 : 0 ≤ i) (h1 : i ≤ p.length) : Val P n env σ ⟨some dst, .slice t x none (some hi) none, ty, pos, af, gd⟩ (S (p.take i.toNat)) :=
  fun a w hF _ => by
    simp [execOp, Instr.sliceAt, Instr.slice, Instr.sliceBounds, Instr.sliceBound, hF.eval hx, hF.eval hl, asIntOf, run_underlying (tb.strAt ht), h0, h1, size_mk, extract_mk]
theorem Val.sliceLH (tb : Tabs P) {t u : TypeId} {x lo hi : Operand} {p : List UInt8} {k k' : IntKind} {i j : Int} (hx : ev env x = some (S p)) (hl : ev env lo = some (.int k i)) (hh : ev env hi = some (.int k' j)) (ht : lk1 tb.strs t = some u)
 (h0 : 0 ≤ i) (h1 : i ≤ j) (h2 : j ≤ p.length) : Val P n env σ ⟨some dst, .slice t x (some lo) (some hi) none, ty, pos, af, gd⟩ (S ((p.drop i.toNat).take (j.toNat - i.toNat))) :=
  fun a w hF _ => by
    have hj : 0 ≤ j := by omega
    have hij' : i ≤ Max.max j 0 := by omega
    simp [execOp, Instr.sliceAt, Instr.slice, Instr.sliceBounds, Instr.sliceBound, hF.eval hx, hF.eval hl, hF.eval hh, asIntOf, run_underlying (tb.strAt ht), h0, h2, hj, hij', size_mk, extract_mk]
end
end Go.HL
/-
  Regions that draw their order: an operation that yields its value in every world that comes up may be taken first.
-/
namespace Go.HL
open Go
section
variable {P : Program} {r : Option Nat} {ops : Array Oper} {md : Region.Mode}

/-- One operation by its number. -/
def opN (P : Program) (r : Option Nat) (ops : Array Oper) (Q : Post) (i : Nat) (K : Act → World → Prop) (a : Act) (w : World) : Prop :=
  match ops[i]? with
  | none => K a w
  | some o => if Region.wanted o (yielded ops a.tmps) then opW P r o a w K Q else K (a.put o.dst undef) w

/-- Whatever order is picked; S holds behind each operation that isn't of the tail. -/
def Any (P : Program) (r : Option Nat) (md : Region.Mode) (ops : Array Oper) (Q : Post) (S T : World → Prop) (tl : List Nat) : Nat → Array Bool → Act → World → Prop
  | 0, listed, a, w => Region.ready md ops listed = [] ∧ Q .normal a w
  | fuel + 1, listed, a, w =>
    (Region.ready md ops listed = [] → Q .normal a w) ∧
    ∀ i ∈ Region.ready md ops listed, opN P r ops Q i (fun a' w' => T w' ∧ (S w → tl.contains i = false → S w') ∧ Any P r md ops Q S T tl fuel (listed.setIfInBounds i true) a' w') a w

theorem opW_mono {o : Oper} {a : Act} {w : World} {K K' : Act → World → Prop} {Q : Post} (h : ∀ a w, K a w → K' a w) (hh : opW P r o a w K Q) : opW P r o a w K' Q :=
  (Oper.wpIn_mono (F := WF r) (n := 0) h (wpIn_of_opW hh)).2

theorem wpOpIn_of_opN {Q : Post} {i : Nat} {K K' : Act → World → Prop} {a : Act} {w : World} (h : ∀ a w, K a w → K' a w) (hh : opN P r ops Q i K a w) : wpOpIn (WF r) 0 P ops Q i K' a w := by
  unfold opN at hh
  unfold wpOpIn
  split
  · rename_i e; rw [e] at hh; exact h _ _ hh
  · rename_i o e
    rw [e] at hh
    simp only at hh
    split
    · rename_i hw; rw [if_pos hw] at hh; exact wpIn_of_opW (opW_mono h hh)
    · rename_i hw; rw [if_neg hw] at hh; exact ⟨fun _ _ => trivial, h _ _ hh⟩

theorem wpAnyIn_of_Any {Q : Post} {S T : World → Prop} {tl : List Nat} : ∀ (fuel : Nat) (listed : Array Bool) (a : Act) (w : World), Any P r md ops Q S T tl fuel listed a w → wpAnyIn (WF r) 0 P md ops Q fuel listed a w
  | 0, _, _, _, h => h
  | fuel + 1, _, _, _, h => ⟨h.1, fun i hi => wpOpIn_of_opN (fun a w h' => wpAnyIn_of_Any fuel _ a w h'.2.2) (h.2 i hi)⟩

/-- In state a, in every world that may come up while i isn't done, o leaves v in its slot and does nothing else. -/
def YieldsW (P : Program) (ops : Array Oper) (U : World → Prop) (o : Oper) (v : Value) (a : Act) : Prop :=
  (Region.wanted o (yielded ops a.tmps) = true ∧ notDefer o.op = true ∧ ∀ w, U w → (execOp a.eval o).run P w = .ok (.value v) w) ∨
  (Region.wanted o (yielded ops a.tmps) = false ∧ v = undef)

theorem YieldsW.opN {Q : Post} {U : World → Prop} {i : Nat} {o : Oper} {v : Value} {a : Act} (hi : ops[i]? = some o) (hy : YieldsW P ops U o v a)
    {K : Act → World → Prop} {w : World} (hU : U w) (h : K (a.put o.dst v) w) : opN P r ops Q i K a w := by
  unfold HL.opN
  rw [hi]
  simp only
  rcases hy with ⟨hw, hnd, hv⟩ | ⟨hw, rfl⟩
  · rw [if_pos hw]; exact opW_value hnd (hv w hU) h
  · rw [if_neg (by rw [hw]; simp)]; exact h

theorem YieldsW.of_same {U : World → Prop} {o : Oper} {v : Value} {a a' : Act} (hy : YieldsW P ops U o v a) (he : execOp a'.eval o = execOp a.eval o)
    (hw : Region.wanted o (yielded ops a'.tmps) = Region.wanted o (yielded ops a.tmps)) : YieldsW P ops U o v a' := by
  unfold YieldsW at *
  rw [he, hw]
  exact hy

def allNd (ops : Array Oper) : Bool := ops.all fun o => notDefer o.op && (match o.op with | .select .. => false | _ => true)

theorem opN_put {M : Act → World → Prop} {U : World → Prop} {j : Nat} {oi oj : Oper} {v : Value} (hj : ops[j]? = some oj) (hap : oi.apart ops oj = true)
    (hsi : ∀ cs b, oi.op ≠ .select cs b) (hsj : ∀ cs b, oj.op ≠ .select cs b) (hdj : notDefer oj.op = true) {K : Act → World → Prop} {a : Act} {w : World}
    (hy : YieldsW P ops U oi v a) (h : opN P r ops (fun e a w => match e with | .normal => M a w | _ => False) j K (a.put oi.dst v) w) :
    opN P r ops (fun e a w => match e with | .normal => M a w | _ => False) j (fun a' w' => YieldsW P ops U oi v a' ∧ K (a'.put oi.dst v) w') a w := by
  obtain ⟨h1, h2, h3⟩ := Oper.apart_spec hap
  have keep : ∀ (a : Act), YieldsW P ops U oi v a → ∀ u, YieldsW P ops U oi v (a.put oj.dst u) := fun a hy u =>
    hy.of_same (execOp_put oi hsi a oj.dst u h3) (wanted_put oi a oj.dst u h3)
  unfold opN at *
  simp only [hj] at *
  rw [wanted_put oj a oi.dst v h1] at h
  split
  · rename_i hw
    simp only [hw, if_true] at h
    unfold opW at *
    rw [semAt_nd hdj, execOp_put oj hsj a oi.dst v h1] at h
    rw [semAt_nd hdj]
    generalize (execOp a.eval oj).run P w = x at *
    cases x with
    | ok x w' =>
      cases x <;> simp only [Oper.uponIn] at h ⊢
      case value u => exact ⟨keep a hy u, by rw [← Act.put_comm a v u h2]; exact h⟩
      case skip => exact ⟨keep a hy _, by rw [← Act.put_comm a v undef h2]; exact h⟩
      case defer d =>
        refine ⟨?_, ?_⟩
        · exact (hy.of_same (a' := { a with defers := d :: a.defers }) rfl rfl).of_same (execOp_put oi hsi _ oj.dst undef h3) (wanted_put oi _ oj.dst undef h3)
        · rw [← Act.put_comm _ v undef h2, ← Act.put_defers]; exact h
      case enter f args =>
        refine ⟨h.1, CallsIn.mono h.2 fun e w'' he => ?_⟩
        cases e with
        | returned u => exact ⟨keep a hy u, by rw [← Act.put_comm a v u h2]; exact he⟩
        | panicked c => exact he
        | outgrown => exact he
      case row row args => exact ⟨h.1, RowsIn.mono h.2 fun u w'' he => ⟨keep a hy u, by rw [← Act.put_comm a v u h2]; exact he⟩⟩
      case round l f tmps assign body =>
        refine ⟨h.1, RoundIn.mono h.2 fun e w'' he => ?_⟩
        cases e with
        | returned u => exact ⟨keep a hy u, by rw [← Act.put_comm a v u h2]; exact he⟩
        | panicked c => exact he
        | outgrown => exact he
    | halt x w' =>
      cases x <;> simp only [Oper.uponIn] at h ⊢
  · rename_i hw
    simp only [hw] at h
    exact ⟨keep a hy _, by rw [← Act.put_comm a v undef h2]; exact h⟩

theorem opN_mono {Q : Post} {i : Nat} {K K' : Act → World → Prop} {a : Act} {w : World} (h : ∀ a w, K a w → K' a w) (hh : opN P r ops Q i K a w) : opN P r ops Q i K' a w := by
  unfold opN at *
  split
  · rename_i e; rw [e] at hh; exact h _ _ hh
  · rename_i o e
    rw [e] at hh
    simp only at hh
    split
    · rename_i hw; rw [if_pos hw] at hh; exact opW_mono h hh
    · rename_i hw; rw [if_neg hw] at hh; exact h _ _ hh

abbrev OnlyN (M : Act → World → Prop) : Post := fun e a w => match e with | .normal => M a w | _ => False

/-- Whatever is of the tail waits for i. -/
def tailOk (md : Region.Mode) (ops : Array Oper) (tl : List Nat) (i : Nat) : Bool :=
  tl.all fun j => match ops[j]? with
    | some oj => oj.after.any fun e => Region.binds md e && (e.on == i || (match ops[e.on]? with
        | some om => om.after.any fun e' => Region.binds md e' && e'.on == i
        | none => false))
    | none => true
/-- What is listed, with it all that it waits for. -/
def closedB (md : Region.Mode) (ops : Array Oper) (listed : Array Bool) : Bool :=
  (List.range ops.size).all fun m => !listed.getD m false || (match ops[m]? with
    | some om => om.after.all fun e => !Region.binds md e || listed.getD e.on false
    | none => true)
def Closed (md : Region.Mode) (ops : Array Oper) (listed : Array Bool) : Prop :=
  ∀ (m : Nat) (om : Oper), ops[m]? = some om → listed.getD m false = true → ∀ e ∈ om.after, Region.binds md e = true → listed.getD e.on false = true
theorem Closed.of {listed : Array Bool} (h : closedB md ops listed = true) : Closed md ops listed := by
  intro m om hm hl e he hb
  have h1 := List.all_eq_true.1 h m (List.mem_range.2 (Array.getElem?_eq_some_iff.1 hm).1)
  simp only [hm, hl, Bool.not_true, Bool.false_or] at h1
  have h2 := Array.all_eq_true_iff_forall_mem.1 h1 e he
  simpa [hb] using h2
theorem Closed.step {listed : Array Bool} {j : Nat} (h : Closed md ops listed) (hj : j ∈ Region.ready md ops listed) : Closed md ops (listed.setIfInBounds j true) := by
  intro m om hm hl e he hb
  refine getD_set_true ?_
  by_cases hjm : j = m
  · subst hjm
    obtain ⟨_, oj, hoj, hall⟩ := mem_ready.1 hj
    rw [hm] at hoj
    obtain rfl := Option.some.inj hoj
    exact hall e he hb
  · rw [getD_set_ne false hjm] at hl
    exact h m om hm hl e he hb

theorem Any.first {M : Act → World → Prop} {S T : World → Prop} {tl : List Nat} {i : Nat} {oi : Oper} {v : Value} (hi : ops[i]? = some oi) (hnd : allNd ops = true) (ht : tailOk md ops tl i = true) :
    ∀ (fuel : Nat) (listed : Array Bool) (a : Act) (w : World),
      (∀ j oj, ops[j]? = some oj → j ≠ i → listed.getD j true = false → (∀ e ∈ oj.after, Region.binds md e = true → e.on ≠ i) → oi.apart ops oj = true) →
      i ∈ Region.ready md ops listed → Closed md ops listed → YieldsW P ops S oi v a → S w → T w →
      Any P r md ops (OnlyN M) S T tl fuel (listed.setIfInBounds i true) (a.put oi.dst v) w → Any P r md ops (OnlyN M) S T tl (fuel + 1) listed a w := by
  have hnd' : ∀ (j : Nat) (oj : Oper), ops[j]? = some oj → notDefer oj.op = true ∧ ∀ cs b, oj.op ≠ .select cs b := fun j oj hj => by
    have := Array.all_eq_true_iff_forall_mem.1 hnd oj (Array.mem_of_getElem? hj)
    simp only [Bool.and_eq_true] at this
    exact ⟨this.1, fun cs b e => by rw [e] at this; simp at this⟩
  intro fuel
  induction fuel with
  | zero =>
    intro listed a w _ hr _ hy hS hT H
    refine ⟨fun h => (by rw [h] at hr; cases hr), fun j hj => ?_⟩
    by_cases hji : j = i
    · subst hji; exact hy.opN hi hS ⟨hT, fun _ _ => hS, H⟩
    · have := ready_mono hj hji
      rw [H.1] at this
      cases this
  | succ fuel ih =>
    intro listed a w hfree hr hcl hy hS hT H
    have hun := (mem_ready.1 hr).1
    refine ⟨fun h => (by rw [h] at hr; cases hr), fun j hj => ?_⟩
    by_cases hji : j = i
    · subst hji; exact hy.opN hi hS ⟨hT, fun _ _ => hS, H⟩
    · have h1 := H.2 j (ready_mono hj hji)
      obtain ⟨hjun, oj, hoj, hall⟩ := mem_ready.1 hj
      have hnot : ∀ e ∈ oj.after, Region.binds md e = true → e.on ≠ i := fun e he hb heq => by
        have h1 := hall e he hb
        rw [heq] at h1
        rcases Nat.lt_or_ge i listed.size with h' | h'
        · simp [h'] at hun h1; rw [hun] at h1; cases h1
        · simp [Array.getElem?_eq_none h'] at h1
      have htj : tl.contains j = false := by
        cases hc : tl.contains j with
        | false => rfl
        | true =>
          have hm : j ∈ tl := by simpa using hc
          have := List.all_eq_true.1 ht j hm
          rw [hoj] at this
          obtain ⟨e, he, hb⟩ := Array.any_eq_true'.1 this
          simp only [Bool.and_eq_true, Bool.or_eq_true, beq_iff_eq] at hb
          rcases hb.2 with h2 | h2
          · exact absurd h2 (hnot e he hb.1)
          · split at h2
            · rename_i om hom
              obtain ⟨e', he', hb'⟩ := Array.any_eq_true'.1 h2
              simp only [Bool.and_eq_true, beq_iff_eq] at hb'
              have h3 := hcl e.on om hom (hall e he hb.1) e' he' hb'.1
              rw [hb'.2] at h3
              rcases Nat.lt_or_ge i listed.size with h' | h'
              · simp [h'] at hun h3; rw [hun] at h3; cases h3
              · simp [Array.getElem?_eq_none h'] at h3
            · cases h2
      have h2 := opN_put hoj (hfree j oj hoj hji hjun hnot) (hnd' i oi hi).2 (hnd' j oj hoj).2 (hnd' j oj hoj).1 hy h1
      have hfree' : ∀ k ok, ops[k]? = some ok → k ≠ i → (listed.setIfInBounds j true).getD k true = false →
          (∀ e ∈ ok.after, Region.binds md e = true → e.on ≠ i) → oi.apart ops ok = true := fun k ok hk hki hun hno => by
        refine hfree k ok hk hki ?_ hno
        by_cases hjk : j = k
        · subst hjk; exact hjun
        · rw [getD_set_ne true hjk] at hun; exact hun
      refine opN_mono (fun a' w' h3 => ⟨h3.2.1, h3.2.2.1, ih (listed.setIfInBounds j true) a' w' hfree' (ready_mono hr (Ne.symm hji)) (hcl.step hj) h3.1 (h3.2.2.1 hS htj) h3.2.1 ?_⟩) h2
      rw [Array.setIfInBounds_comm _ _ hji]
      exact h3.2.2.2

/-- What hangs on the frame, and on what holds throughout. -/
theorem Any.firstF {M : Act → World → Prop} {S T : World → Prop} {tl : List Nat} {i : Nat} {oi : Oper} {v : Value} (hi : ops[i]? = some oi) (hnd : allNd ops = true) :
    ∀ (fuel : Nat) (listed : Array Bool) (a : Act) (w : World),
      (∀ j oj, ops[j]? = some oj → j ≠ i → listed.getD j true = false → (∀ e ∈ oj.after, Region.binds md e = true → e.on ≠ i) → oi.apart ops oj = true) →
      i ∈ Region.ready md ops listed → YieldsW P ops T oi v a → T w →
      Any P r md ops (OnlyN M) S T tl fuel (listed.setIfInBounds i true) (a.put oi.dst v) w → Any P r md ops (OnlyN M) S T tl (fuel + 1) listed a w := by
  have hnd' : ∀ (j : Nat) (oj : Oper), ops[j]? = some oj → notDefer oj.op = true ∧ ∀ cs b, oj.op ≠ .select cs b := fun j oj hj => by
    have := Array.all_eq_true_iff_forall_mem.1 hnd oj (Array.mem_of_getElem? hj)
    simp only [Bool.and_eq_true] at this
    exact ⟨this.1, fun cs b e => by rw [e] at this; simp at this⟩
  intro fuel
  induction fuel with
  | zero =>
    intro listed a w _ hr hy hT H
    refine ⟨fun h => (by rw [h] at hr; cases hr), fun j hj => ?_⟩
    by_cases hji : j = i
    · subst hji; exact hy.opN hi hT ⟨hT, fun h _ => h, H⟩
    · have := ready_mono hj hji
      rw [H.1] at this
      cases this
  | succ fuel ih =>
    intro listed a w hfree hr hy hT H
    have hun := (mem_ready.1 hr).1
    refine ⟨fun h => (by rw [h] at hr; cases hr), fun j hj => ?_⟩
    by_cases hji : j = i
    · subst hji; exact hy.opN hi hT ⟨hT, fun h _ => h, H⟩
    · have h1 := H.2 j (ready_mono hj hji)
      obtain ⟨hjun, oj, hoj, hall⟩ := mem_ready.1 hj
      have hnot : ∀ e ∈ oj.after, Region.binds md e = true → e.on ≠ i := fun e he hb heq => by
        have h1 := hall e he hb
        rw [heq] at h1
        rcases Nat.lt_or_ge i listed.size with h' | h'
        · simp [h'] at hun h1; rw [hun] at h1; cases h1
        · simp [Array.getElem?_eq_none h'] at h1
      have h2 := opN_put hoj (hfree j oj hoj hji hjun hnot) (hnd' i oi hi).2 (hnd' j oj hoj).2 (hnd' j oj hoj).1 hy h1
      have hfree' : ∀ k ok, ops[k]? = some ok → k ≠ i → (listed.setIfInBounds j true).getD k true = false →
          (∀ e ∈ ok.after, Region.binds md e = true → e.on ≠ i) → oi.apart ops ok = true := fun k ok hk hki hun hno => by
        refine hfree k ok hk hki ?_ hno
        by_cases hjk : j = k
        · subst hjk; exact hjun
        · rw [getD_set_ne true hjk] at hun; exact hun
      refine opN_mono (fun a' w' h3 => ⟨h3.2.1, h3.2.2.1, ih (listed.setIfInBounds j true) a' w' hfree' (ready_mono hr (Ne.symm hji)) h3.1 h3.2.1 ?_⟩) h2
      rw [Array.setIfInBounds_comm _ _ hji]
      exact h3.2.2.2

section
variable {W : World} {D : List Nat} {n : Fm} {Q : Post} {env env' : Env} {σ σ' : List Ent}

/-- Whatever order is picked from here on. ('lv': the entries that hold throughout hold still.) -/
def WpA (P : Program) (r : Option Nat) (W : World) (D : List Nat) (n : Fm) (ops : Array Oper) (M : Act → World → Prop) (σS σT : List Ent) (tl : List Nat) (lv : Bool) (fuel : Nat) (listed : Array Bool) (env : Env) (σ : List Ent) : Prop :=
  ∀ a w, Fr n env a → H W D σ w → Hold σT w → (lv = true → Hold σS w) → Any P r .any ops (OnlyN M) (Hold σS) (Hold σT) tl fuel listed a w

/-- A region that draws its order. -/
theorem Wp.draw {id : Nat} {l : List Oper} (σS σT : List Ent) (tl : List Nat) (hm : P.follows .mixedOrders = true) (hS : ∀ w, H W D σ w → Hold σS w) (hT : ∀ w, H W D σ w → Hold σT w)
    (h : WpA P r W D n l.toArray (Q .normal) σS σT tl true l.length (Array.replicate l.length false) env σ) : Wp P r W D n Q (.region id l.toArray true) env σ := fun a w hF hH => by
  refine wpIn_mono (Q := OnlyN (Q .normal)) (wpIn_region_any hm ?_) ?_
  · have := wpAnyIn_of_Any _ _ _ _ (h a _ hF (hH.drewAt (w.drawn + 1)) (hT _ (hH.drewAt (w.drawn + 1))) (fun _ => hS _ (hH.drewAt (w.drawn + 1))))
    simpa using this
  · intro e a w hq
    cases e with
    | normal => exact hq
    | _ => exact hq.elim
def oneReady (md : Region.Mode) (ops : Array Oper) (listed : Array Bool) (i : Nat) : Bool := Region.ready md ops listed == [i]
def subB : List Nat → List Nat → Bool
  | [], _ => true
  | x :: xs, l => l.contains x && subB xs l

def takeOk (ops : Array Oper) (tl : List Nat) (listed : Array Bool) (i : Nat) : Bool :=
  allNd ops && tailOk .any ops tl i && Region.free .any ops listed i && (Region.ready .any ops listed).contains i && closedB .any ops listed
section
variable {M : Act → World → Prop} {σS σT : List Ent} {tl : List Nat} {fuel : Nat} {listed : Array Bool} {lv : Bool}
variable {dst : Nat} {op : Op} {ty : TypeId} {pos : String} {af : Array Edge} {gd : Option (Nat × Bool)}
/-- Taken first: what hangs on the frame and on entries that hold throughout. -/
theorem WpA.take {v : Value} (i : Nat) (hi : ops[i]? = some ⟨some dst, op, ty, pos, af, gd⟩) (hb : takeOk ops tl listed i = true)
    (hg : guardIs env ops gd = some true) (hnd : notDefer op = true) (hd : Nat.blt dst n.n = true) (hy : Val P n env σS ⟨some dst, op, ty, pos, af, gd⟩ v)
    (h : WpA P r W D n ops M σS σT tl true fuel (listed.setIfInBounds i true) ((dst, v) :: env) σ) : WpA P r W D n ops M σS σT tl true (fuel + 1) listed env σ := fun a w hF hH hT hS => by
  simp only [takeOk, Bool.and_eq_true] at hb
  obtain ⟨⟨⟨⟨h1, h2⟩, h3⟩, h4⟩, h5⟩ := hb
  exact Any.first hi h1 h2 fuel listed a w (Region.free_spec hi h3) (by simpa using h4) (Closed.of h5) (.inl ⟨guard_wanted hF hg, hnd, fun w' hw' => hy a w' hF hw'⟩) (hS rfl) hT (h _ _ (hF.put hd v) hH hT hS)
/-- One that is passed over. -/
theorem WpA.skip (i : Nat) (hi : ops[i]? = some ⟨some dst, op, ty, pos, af, gd⟩) (hb : takeOk ops tl listed i = true)
    (hg : guardIs env ops gd = some false) (hd : Nat.blt dst n.n = true)
    (h : WpA P r W D n ops M σS σT tl true fuel (listed.setIfInBounds i true) ((dst, undef) :: env) σ) : WpA P r W D n ops M σS σT tl true (fuel + 1) listed env σ := fun a w hF hH hT hS => by
  simp only [takeOk, Bool.and_eq_true] at hb
  obtain ⟨⟨⟨⟨h1, h2⟩, h3⟩, h4⟩, h5⟩ := hb
  exact Any.first hi h1 h2 fuel listed a w (Region.free_spec hi h3) (by simpa using h4) (Closed.of h5) (.inr ⟨guard_wanted hF hg, rfl⟩) (hS rfl) hT (h _ _ (hF.put hd undef) hH hT hS)
def takeOkF (ops : Array Oper) (listed : Array Bool) (i : Nat) : Bool :=
  allNd ops && Region.free .any ops listed i && (Region.ready .any ops listed).contains i
theorem WpA.takeF {v : Value} (i : Nat) (hi : ops[i]? = some ⟨some dst, op, ty, pos, af, gd⟩) (hb : takeOkF ops listed i = true)
    (hg : guardIs env ops gd = some true) (hnd : notDefer op = true) (hd : Nat.blt dst n.n = true) (hy : Val P n env σT ⟨some dst, op, ty, pos, af, gd⟩ v)
    (h : WpA P r W D n ops M σS σT tl lv fuel (listed.setIfInBounds i true) ((dst, v) :: env) σ) : WpA P r W D n ops M σS σT tl lv (fuel + 1) listed env σ := fun a w hF hH hT hS => by
  simp only [takeOkF, Bool.and_eq_true] at hb
  obtain ⟨⟨h1, h3⟩, h4⟩ := hb
  exact Any.firstF hi h1 fuel listed a w (Region.free_spec hi h3) (by simpa using h4) (.inl ⟨guard_wanted hF hg, hnd, fun w' hw' => hy a w' hF hw'⟩) hT (h _ _ (hF.put hd v) hH hT hS)
/-- An operation that is the only one that may come up; the entries hold on. -/
theorem WpA.only {o : Oper} (i : Nat) (hi : ops[i]? = some o) (hb : oneReady .any ops listed i = true) (hg : guardIs env ops o.guard = some true)
    (h : Op1 P r W D n o env σ (fun env' σ' => (∀ w, H W D σ' w → Hold σS w) ∧ (∀ w, H W D σ' w → Hold σT w) ∧ WpA P r W D n ops M σS σT tl true fuel (listed.setIfInBounds i true) env' σ')) :
    WpA P r W D n ops M σS σT tl lv (fuel + 1) listed env σ := fun a w hF hH hT _ => by
  have hr : Region.ready .any ops listed = [i] := by simpa [oneReady] using hb
  refine ⟨fun e => (by rw [hr] at e; cases e), fun j hj => ?_⟩
  rw [hr] at hj
  obtain rfl : j = i := by simpa using hj
  unfold opN
  rw [hi]
  simp only
  rw [if_pos (guard_wanted hF hg)]
  exact h _ _ (fun env' σ' hC a w hF hH => ⟨hC.2.1 w hH, fun _ _ => hC.1 w hH, hC.2.2 a w hF hH (hC.2.1 w hH) (fun _ => hC.1 w hH)⟩) a w hF hH
/-- One of the tail: from here on nothing need hold. -/
theorem WpA.last {o : Oper} (i : Nat) (hi : ops[i]? = some o) (hb : (oneReady .any ops listed i && tl.contains i) = true) (hg : guardIs env ops o.guard = some true)
    (h : Op1 P r W D n o env σ (fun env' σ' => (∀ w, H W D σ' w → Hold σT w) ∧ WpA P r W D n ops M σS σT tl false fuel (listed.setIfInBounds i true) env' σ')) :
    WpA P r W D n ops M σS σT tl lv (fuel + 1) listed env σ := fun a w hF hH hT _ => by
  simp only [Bool.and_eq_true] at hb
  have hr : Region.ready .any ops listed = [i] := by simpa [oneReady] using hb.1
  refine ⟨fun e => (by rw [hr] at e; cases e), fun j hj => ?_⟩
  rw [hr] at hj
  obtain rfl : j = i := by simpa using hj
  unfold opN
  rw [hi]
  simp only
  rw [if_pos (guard_wanted hF hg)]
  exact h _ _ (fun env' σ' hC a w hF hH => ⟨hC.1 w hH, fun _ ht => (by rw [hb.2] at ht; cases ht), hC.2 a w hF hH (hC.1 w hH) (fun e => by cases e)⟩) a w hF hH
/-- One of the tail that is passed over. -/
theorem WpA.lastSkip (i : Nat) (hi : ops[i]? = some ⟨some dst, op, ty, pos, af, gd⟩) (hb : (oneReady .any ops listed i && tl.contains i) = true) (hg : guardIs env ops gd = some false) (hd : Nat.blt dst n.n = true)
    (h : WpA P r W D n ops M σS σT tl false fuel (listed.setIfInBounds i true) ((dst, undef) :: env) σ) :
    WpA P r W D n ops M σS σT tl lv (fuel + 1) listed env σ := fun a w hF hH hT _ => by
  simp only [Bool.and_eq_true] at hb
  have hr : Region.ready .any ops listed = [i] := by simpa [oneReady] using hb.1
  refine ⟨fun e => (by rw [hr] at e; cases e), fun j hj => ?_⟩
  rw [hr] at hj
  obtain rfl : j = i := by simpa using hj
  unfold opN
  rw [hi]
  simp only
  rw [if_neg (by rw [guard_wanted hF hg]; simp)]
  exact ⟨hT, fun _ ht => (by rw [hb.2] at ht; cases ht), h _ _ (hF.put hd undef) hH hT (fun e => by cases e)⟩
/-- Whichever of those that may come up. -/
theorem WpA.each (rs : List Nat) (hb : (Region.ready .any ops listed == rs && !rs.isEmpty) = true)
    (h : ∀ i ∈ rs, ∃ o, ops[i]? = some o ∧ guardIs env ops o.guard = some true ∧ Op1 P r W D n o env σ (fun env' σ' => (∀ w, H W D σ' w → Hold σS w) ∧ (∀ w, H W D σ' w → Hold σT w) ∧ WpA P r W D n ops M σS σT tl true fuel (listed.setIfInBounds i true) env' σ')) :
    WpA P r W D n ops M σS σT tl lv (fuel + 1) listed env σ := fun a w hF hH hT _ => by
  simp only [Bool.and_eq_true, beq_iff_eq, Bool.not_eq_true'] at hb
  obtain ⟨hr, hne⟩ := hb
  refine ⟨fun e => (by rw [hr] at e; rw [e] at hne; cases hne), fun j hj => ?_⟩
  rw [hr] at hj
  obtain ⟨o, ho, hg, h1⟩ := h j hj
  unfold opN
  rw [ho]
  simp only
  rw [if_pos (guard_wanted hF hg)]
  exact h1 _ _ (fun env' σ' hC a w hF hH => ⟨hC.2.1 w hH, fun _ _ => hC.1 w hH, hC.2.2 a w hF hH (hC.2.1 w hH) (fun _ => hC.1 w hH)⟩) a w hF hH
theorem WpA.done (hb : (Region.ready .any ops listed).isEmpty = true) (h : ∀ a w, Fr n env a → H W D σ w → M a w) :
    ∀ {fuel : Nat}, WpA P r W D n ops M σS σT tl lv fuel listed env σ
  | 0 => fun a w hF hH _ _ => ⟨by simpa using hb, h a w hF hH⟩
  | _ + 1 => fun a w hF hH _ _ => ⟨fun _ => h a w hF hH, by rw [show Region.ready .any ops listed = [] by simpa using hb]; simp⟩
/-- Behind all of them. -/
theorem WpA.out {e : Exit} (hb : (Region.ready .any ops listed).isEmpty = true) (h : Out W D n Q e env σ) {fuel : Nat} : WpA P r W D n ops (Q e) σS σT tl lv fuel listed env σ := WpA.done hb h
/-- A guard that isn't decided parts the walk. -/
theorem WpA.part {d : Nat} {b : Bool} (hv : lk env d = some (.bool b))
    (ht : b = true → WpA P r W D n ops M σS σT tl lv fuel listed ((d, .bool true) :: env) σ) (hf : b = false → WpA P r W D n ops M σS σT tl lv fuel listed ((d, .bool false) :: env) σ) :
    WpA P r W D n ops M σS σT tl lv fuel listed env σ := fun a w hF hH hT hS => by
  cases b with
  | true => exact ht rfl a w (hF.turn hv) hH hT hS
  | false => exact hf rfl a w (hF.turn hv) hH hT hS
theorem hold_nil : ∀ w, H W D σ w → Hold [] w := fun _ _ _ h => by cases h
theorem hold_cons {e : Ent} {τ : List Ent} (h : e ∈ σ) (ht : ∀ w, H W D σ w → Hold τ w) : ∀ w, H W D σ w → Hold (e :: τ) w := fun w hH x hx => by
  rcases List.mem_cons.1 hx with rfl | hx
  · exact hH.mem h
  · exact ht w hH x hx
end
end
end
end Go.HL
/-
  From a contract to what a statement asks; calls of functions that only compute.
-/
namespace Go.HL
open Go
section
variable {P : Program} {r : Option Nat} {W : World} {D : List Nat} {n : Fm} {Q : Post} {env env' : Env} {σ σ' : List Ent} {ops : Array Oper} {rest : List Oper}
variable {dst : Nat} {ty : TypeId} {pos : String} {af : Array Edge} {gd : Option (Nat × Bool)} {C : Env → List Ent → Prop}
/-- What a function answers that only computes. -/
abbrev Fun (P : Program) (f : FuncId) (args : List Value) (x : Value) : Prop := Ct P f args [] (fun v σ' => v = x ∧ σ' = [])
theorem Op1.fun {f : FuncId} {xs : List Operand} {ats : Array TypeId} {args : List Value} {x : Value} (hd : Nat.blt dst n.n = true) (hok : fnOk P f = true)
    (hx : HL.evs env xs = some args) (hf : Fun P f args x) (hC : C ((dst, x) :: env) σ) :
    Op1 P r W D n ⟨some dst, .call ⟨.value (.func f), xs.toArray, ats⟩, ty, pos, af, gd⟩ env σ C :=
  Op1.call (σf := []) (σr := σ) hd hok hx (List.Perm.refl _) hf (fun v σ' ⟨h1, h2⟩ => by subst h1 h2; exact hC)
end
end Go.HL
/-
  Arguments: what reads as data of a plain type has cells of just the leaves that the type has; and it reads so still where nothing has turned.
-/
namespace Go.HL
open Go
inductive Leaf where
  | b | i (k : IntKind) | s
def Leaf.ok : Leaf → Value → Prop
  | .b, v => ∃ x, v = .bool x
  | .i k, v => ∃ n, v = .int k n ∧ (Lit.int k n).wf = true
  | .s, v => ∃ l : List UInt8, v = S l ∧ l.length ≤ 140737488351232
def Fits : List Leaf → List Value → Prop
  | [], [] => True
  | f :: fs, v :: vs => f.ok v ∧ Fits fs vs
  | _, _ => False
theorem Fits.cons {f : Leaf} {fs : List Leaf} {vs : List Value} (h : Fits (f :: fs) vs) : ∃ v vs', vs = v :: vs' ∧ f.ok v ∧ Fits fs vs' := by
  cases vs with
  | nil => exact h.elim
  | cons v vs => exact ⟨v, vs, rfl, h.1, h.2⟩
theorem Fits.nil {vs : List Value} (h : Fits [] vs) : vs = [] := by
  cases vs with
  | nil => rfl
  | cons v vs => exact h.elim
/-- An integer of a kind. -/
abbrev In (k : IntKind) (n : Int) : Prop := (Lit.int k n).wf = true
theorem In.i64 {n : Int} (h : In .i64 n) : -9223372036854775808 ≤ n ∧ n ≤ 9223372036854775807 := bounds_i64 h
theorem In.mk64 {n : Int} (h : -9223372036854775808 ≤ n ∧ n ≤ 9223372036854775807) : In .i64 n := WalkArith.wf_i64 h
theorem Fits.length : ∀ {fs : List Leaf} {vs : List Value}, Fits fs vs → vs.length = fs.length
  | [], [], _ => rfl
  | [], _ :: _, h => h.elim
  | _ :: _, [], h => h.elim
  | f :: fs, v :: vs, h => by simp [Fits.length h.2]
theorem Fits.append : ∀ {fs gs : List Leaf} {vs us : List Value}, Fits fs vs → Fits gs us → Fits (fs ++ gs) (vs ++ us)
  | [], _, [], _, _, h => h
  | [], _, _ :: _, _, h, _ => h.elim
  | _ :: _, _, [], _, h, _ => h.elim
  | _ :: _, _, _ :: _, _, h, k => ⟨h.1, Fits.append h.2 k⟩

section
variable {H' : Type} {enc : TypeId × Value → H'} {P : Program} {w : World} {base : Nat} {spare : Nat → Bool} {held : Bool}

/-- The leaves of a plain type, in order; none: it isn't plain, or not laid one behind the other. -/
def leaves (P : Program) : Nat → TypeId → Option (List Leaf)
  | 0, _ => none
  | m + 1, T =>
    match P.underlying T with
    | some .bool => some [.b]
    | some (.int k) => some [.i k]
    | some .string => some [.s]
    | some (.struct fs) => match fields m 0 fs.toList with
      | some ls => if ls.length = P.cellsOf T then some ls else none
      | none => none
    | some (.array n e) => match leaves P m e with
      | some ls => if ls.length = P.cellsOf e ∧ n * ls.length = P.cellsOf T then some (List.replicate n ls).flatten else none
      | none => none
    | _ => none
  where
  fields : Nat → Nat → List Field → Option (List Leaf)
    | _, _, [] => some []
    | 0, _, _ => none
    | m + 1, o, f :: fs =>
      match leaves P m f.type, fields m (o + P.cellsOf f.type) fs with
      | some ls, some rest => if f.offset = o ∧ ls.length = P.cellsOf f.type then some (ls ++ rest) else none
      | _, _ => none

theorem fits_replicate {ls : List Leaf} : ∀ (n : Nat) (cs : List Value), cs.length = n * ls.length → (∀ i, i < n → Fits ls ((cs.drop (i * ls.length)).take ls.length)) → Fits (List.replicate n ls).flatten cs
  | 0, cs, hl, _ => by
    have : cs = [] := List.eq_nil_of_length_eq_zero (by simpa using hl)
    subst this; exact trivial
  | n + 1, cs, hl, h => by
    have h0 := h 0 (by omega)
    simp only [Nat.zero_mul, List.drop_zero] at h0
    have hr := fits_replicate (ls := ls) n (cs.drop ls.length) (by simp [hl, Nat.add_mul]) (fun i hi => by
      have := h (i + 1) (by omega)
      rw [List.drop_drop]
      rw [show ls.length + i * ls.length = (i + 1) * ls.length by rw [Nat.add_mul]; omega]
      exact this)
    have := h0.append hr
    rw [List.take_append_drop] at this
    simpa [List.replicate_succ] using this

theorem weights_mem_all {e : TypeId} : ∀ {ds : List (DataW H')} {d : DataW H'}, d ∈ ds → ∀ n ∈ d.weights P e, n ∈ DataW.weightsAll P e ds
  | d0 :: ds, d, h, n, hn => by
    simp only [DataW.weightsAll, List.mem_append]
    rcases List.mem_cons.1 h with rfl | h
    · exact .inl hn
    · exact .inr (weights_mem_all h n hn)
/-- No part weighs more than there is memory. -/
def Light (P : Program) (T : TypeId) (d : DataW H') : Prop := ∀ k, k ∈ d.weights P T → k ≤ 140737488351232
mutual
theorem trod_fits : ∀ (m : Nat) (T : TypeId) (ls : List Leaf) (fuel : Nat) (cs : List Value) (x : DataW H' × List MemPlace), leaves P m T = some ls → DataW.trod enc P w base spare held fuel T cs = some x → Light P T x.1 → Fits ls cs
  | 0, _, _, _, _, _, h, _, _ => by simp [leaves] at h
  | m + 1, T, ls, fuel, cs, x, h, ht, hlt => by
    unfold leaves at h
    split at h
    · rename_i e
      obtain ⟨b, rfl, _⟩ := DataW.trod_bool e ht
      simp only [Option.some.injEq] at h; subst h
      exact ⟨⟨b, rfl⟩, trivial⟩
    · rename_i k e
      obtain ⟨q, rfl, _, hw⟩ := DataW.trod_int e ht
      simp only [Option.some.injEq] at h; subst h
      exact ⟨⟨q, rfl, hw⟩, trivial⟩
    · rename_i e
      obtain ⟨s, rfl, rfl, hs⟩ := DataW.trod_string e ht
      simp only [Option.some.injEq] at h; subst h
      exact ⟨⟨s.data.toList, by simp, hlt _ (by simp [DataW.weights])⟩, trivial⟩
    · rename_i fs e
      split at h
      · rename_i ls' hf
        split at h
        · rename_i hlen
          simp only [Option.some.injEq] at h; subst h
          obtain ⟨xs, q, rfl, rfl, hl, hxl, hx⟩ := DataW.trod_struct e ht
          have := fields_fits m 0 fs.toList ls' q cs (by omega) hf (fun i f hi => by
            have hi' : fs[i]? = some f := by simpa using hi
            have hltf : i < fs.size := (Array.getElem?_eq_some_iff.1 hi').1
            have hxi : xs[i]? = some (xs[i]'(by omega)) := List.getElem?_eq_getElem (by omega)
            refine ⟨xs[i]'(by omega), by rw [hx i f hi', hxi], fun k hk => hlt k ?_⟩
            have := DataW.weights_mem_each (P := P) (ts := fs.toList.map (·.type)) (ds := xs.map (·.1)) (j := i) (t := f.type) (d := (xs[i]'(by omega)).1) (by simp [hi']) (by simp [hxi]) k hk
            simpa [DataW.weights, e] using this)
          simpa using this
        · cases h
      · cases h
    · rename_i k e eT
      split at h
      · rename_i ls' hls
        split at h
        · rename_i hlen
          simp only [Option.some.injEq] at h; subst h
          obtain ⟨xs, q, rfl, rfl, hl, hxl, hx⟩ := DataW.trod_array eT ht
          rw [← hlen.1] at hx
          exact fits_replicate k cs (by rw [hl, hlen.2]) (fun i hi => trod_fits m e ls' q _ (xs[i]'(by omega)) hls (by rw [hx i hi]; simp [hxl, hi]) (fun n hn => hlt n (by
            have := weights_mem_all (P := P) (e := e) (ds := xs.map (·.1)) (d := (xs[i]'(by omega)).1) (List.mem_map.2 ⟨_, List.getElem_mem _, rfl⟩) n hn
            simpa [DataW.weights, eT] using this)))
        · cases h
      · cases h
    · cases h
theorem fields_fits : ∀ (m o : Nat) (fs : List Field) (ls : List Leaf) (fuel : Nat) (cs : List Value), cs.length = o + ls.length → leaves.fields P m o fs = some ls →
    (∀ (i : Nat) (f : Field), fs[i]? = some f → ∃ y : DataW H' × List MemPlace, DataW.trod enc P w base spare held fuel f.type ((cs.drop f.offset).take (P.cellsOf f.type)) = some y ∧ Light P f.type y.1) → Fits ls (cs.drop o)
  | m, o, [], ls, fuel, cs, hl, h, _ => by
    have : ls = [] := by cases m <;> simpa [leaves.fields] using h.symm
    subst this
    have : cs.drop o = [] := List.drop_eq_nil_of_le (by simp at hl; omega)
    rw [this]; exact trivial
  | 0, _, _ :: _, _, _, _, _, h, _ => by simp [leaves.fields] at h
  | m + 1, o, f :: fs, ls, fuel, cs, hl, h, hf => by
    simp only [leaves.fields] at h
    split at h
    · rename_i l1 rest h1 h2
      split at h
      · rename_i hc
        simp only [Option.some.injEq] at h; subst h
        obtain ⟨y, hy, hyl⟩ := hf 0 f rfl
        rw [hc.1] at hy
        have f1 := trod_fits m f.type l1 fuel _ y h1 hy hyl
        have f2 := fields_fits m (o + P.cellsOf f.type) fs rest fuel cs (by simp at hl; omega) h2 (fun i g hg => hf (i + 1) g hg)
        have := f1.append f2
        rw [← List.drop_drop, List.take_append_drop] at this
        exact this
      · cases h
    · cases h
end
end
end Go.HL
/-
  Arguments, opened; slices that are only read; the step from a contract to the row.
-/
namespace Go.HL
open Go Go.ChangeShapes Go.WideShapes Go.ChangeAt Go.RowKit
section
variable {H' : Type} {enc : TypeId × Value → H'} {P : Program} {w : World} {base : Nat} {spare : Nat → Bool} {held : Bool}

theorem open_plain {r' : Reach} {b0 m : Nat} {T : TypeId} {ls : List Leaf} {v : Value} {d : DataW H'} {ps : List MemPlace} (hls : leaves P m T = some ls)
    (hs : ∃ fs, P.underlying T = some (.struct fs)) (hval : Value.okWide P w r' b0 T v) (hd : DataW.Trod enc P w base spare held T v d ps) (hlt : Light P T d) : ∃ cs, v = A cs ∧ Fits ls cs := by
  obtain ⟨fs, hs⟩ := hs
  obtain ⟨cs, rfl, _⟩ := okWide_struct hs hval
  obtain ⟨fuel, hf⟩ := hd
  exact ⟨cs.toList, by simp, trod_fits m T ls fuel _ _ hls (by simpa [Value.cells] using hf) hlt⟩
theorem sizedAll {ts : List TypeId} {ds : List (DataW H')} (h : (DataW.weightsEach P ts ds).all (· ≤ reachBytes) = true) (j : Nat) {t : TypeId} {d : DataW H'} (ht : ts[j]? = some t) (hd : ds[j]? = some d) : Light P t d := fun k hk => by
  exact of_decide_eq_true (List.all_eq_true.1 h _ (DataW.weights_mem_each ht hd k hk))
theorem string_cells {r' : Reach} {b0 : Nat} {T : TypeId} {v : Value} (h : Value.okWide P w r' b0 T v) (hT : P.underlying T = some .string) : v.cells.toList = [v] := by
  obtain ⟨s, rfl⟩ := okWide_string hT h
  rfl
theorem open_str {T : TypeId} {v : Value} {d : DataW H'} {ps : List MemPlace} (hT : P.underlying T = some .string) (hd : DataW.Trod enc P w base spare held T v d ps) (hv : v.cells.toList = [v]) (hlt : Light P T d) : ∃ l, v = S l ∧ l.length ≤ 140737488351232 := by
  obtain ⟨fuel, hf⟩ := hd
  obtain ⟨s, h1, h2, _⟩ := DataW.trod_string hT hf
  simp only [Prod.mk.injEq] at h2
  rw [h2.1] at hlt
  have h3 := hlt _ (by simp [DataW.weights] : s.data.toList.length ∈ _)
  have h4 := h1.symm.trans hv
  simp only [List.cons.injEq, and_true] at h4
  exact ⟨s.data.toList, h4.symm, h3⟩

/-- A slice that reads as a list of rows of sz cells. -/
def Slc (w : World) (b off sz : Nat) (xs : List (List Value)) : Prop :=
  ∀ (i : Nat) (x : List Value), xs[i]? = some x → x.length = sz ∧ ∀ (j : Nat) (u : Value), x[j]? = some u → w.cell? ⟨b, off + i * sz + j, none⟩ = some u

theorem cells?_get {cs : List Value} {a : Addr} {k : Nat} {base : Nat} (h : w.cells? base a k = some cs) : cs.length = k ∧ ∀ j, j < k → w.cell? (a.add j) = cs[j]? := by
  obtain ⟨_, h1, h2⟩ := World.cells?_some h
  exact ⟨h1, h2⟩

/-- An argument that is a slice of a plain type. -/
theorem open_slice_plain {T e m : Nat} {ls : List Leaf} {v : Value} {d : DataW H'} {ps : List MemPlace} {r' : Reach} {b0 : Nat} (hT : P.underlying T = some (.slice e)) (hls : leaves P m e = some ls) (hsz : ls.length = P.cellsOf e) (hpos : 0 < ls.length)
    (hval : Value.okWide P w r' b0 T v) (hd : DataW.Trod enc P w base spare held T v d ps) (hlt : Light P T d) :
    ∃ (ao : Option Addr) (b off len cap : Nat) (xs : List (List Value)), v = .slice ao len cap ∧ xs.length = len ∧ len ≤ cap ∧ cap ≤ maxLen ∧ (0 < len → ao = some ⟨b, off, none⟩ ∧ b < w.heap.size) ∧ Slc w b off ls.length xs ∧ (∀ x, x ∈ xs → Fits ls x) ∧ len * P.bytesOf e ≤ 140737488351232 := by
  obtain ⟨fuel, hf⟩ := hd
  obtain ⟨ao, len, cap, rfl⟩ := okWide_slice hT hval
  have hf' : DataW.trod enc P w base spare held fuel T [.slice ao len cap] = some (d, ps) := by simpa [Value.cells] using hf
  rcases Go.Deep.open_slice hT hf' with ⟨h0, _⟩ | ⟨a, len', cap', q, n, Dd, Pl, hcs, _, hl, hm, hq, hdx, hi⟩
  · simp only [List.cons.injEq, Value.slice.injEq, and_true] at h0
    obtain ⟨rfl, rfl, rfl⟩ := h0
    exact ⟨none, 0, 0, 0, 0, [], rfl, rfl, Nat.le_refl _, Nat.zero_le _, fun h => absurd h (by omega), fun i x h => (by simp at h), fun x h => (by cases h), by simp⟩
  · simp only [List.cons.injEq, Value.slice.injEq, and_true] at hcs
    obtain ⟨rfl, rfl, rfl⟩ := hcs
    have hql : len ≤ q := by rw [hq]; split <;> omega
    rw [← hsz] at hi
    refine ⟨some a, a.block, a.off, len, cap, (List.range len).map fun i => (w.cells? base (a.add (i * ls.length)) ls.length).getD [], rfl, by simp, hl, hm, fun hpos' => ?_, fun i x hx => ?_, fun x hx => ?_, ?_⟩
    · obtain ⟨cs', hc, _⟩ := hi 0 (by omega)
      obtain ⟨hcl, hcg⟩ := cells?_get hc
      have h0 := hcg 0 hpos
      have ha : (a.add (0 * ls.length)).add 0 = a := by simp [Addr.add]
      rw [ha] at h0
      have hlt : 0 < cs'.length := by omega
      rw [List.getElem?_eq_getElem hlt] at h0
      have hsp : a.spot = none := by
        unfold World.cell? at h0
        split at h0
        · cases hs : a.spot with
          | none => rfl
          | some z => simp [hs] at h0
        · cases h0
      refine ⟨?_, block_lt_of_cell h0⟩
      obtain ⟨ab, ao', as⟩ := a
      simp only at hsp
      subst hsp
      rfl
    · have hil : i < len := by
        have := (List.getElem?_eq_some_iff.1 hx).1
        simpa using this
      obtain ⟨cs0, hc0, _⟩ := hi 0 (by omega)
      obtain ⟨cs', hc, _⟩ := hi i (by omega)
      obtain ⟨hcl, hcg⟩ := cells?_get hc
      have hx' : x = cs' := by
        rw [List.getElem?_map, List.getElem?_range hil] at hx
        simpa [hc] using hx.symm
      subst hx'
      refine ⟨hcl, fun j u hu => ?_⟩
      have hj : j < ls.length := by have := (List.getElem?_eq_some_iff.1 hu).1; omega
      have hg := hcg j hj
      rw [hu] at hg
      obtain ⟨hcl0, hcg0⟩ := cells?_get hc0
      have h0 := hcg0 0 hpos
      have ha : (a.add (0 * ls.length)).add 0 = a := by simp [Addr.add]
      rw [ha, List.getElem?_eq_getElem (by omega : 0 < cs0.length)] at h0
      have hsp : a.spot = none := by
        unfold World.cell? at h0
        split at h0
        · cases hs : a.spot with
          | none => rfl
          | some z => simp [hs] at h0
        · cases h0
      obtain ⟨ab, ao', as⟩ := a
      simp only at hsp
      subst hsp
      simpa [Addr.add_mid] using hg
    · obtain ⟨i, hir, rfl⟩ := List.mem_map.1 hx
      have hil : i < len := List.mem_range.1 hir
      obtain ⟨cs', hc, ht⟩ := hi i (by omega)
      rw [hc]
      refine trod_fits m e ls n cs' _ hls ht fun k hk => hlt k ?_
      simp only [Prod.mk.injEq] at hdx
      rw [hdx.1]
      have := weights_mem_all (P := P) (e := e) (ds := (List.range len).map Dd) (d := Dd i) (List.mem_map.2 ⟨i, hir, rfl⟩) k hk
      simp only [DataW.weights, hT, List.mem_cons, List.mem_append]
      exact .inr (.inl this)
    · simp only [Prod.mk.injEq] at hdx
      rw [hdx.1] at hlt
      have := hlt (((List.range len).map Dd).length + ((List.range (q - len)).map fun j => Dd (len + j)).length |> (· * P.bytesOf e)) (by simp [DataW.weights, hT])
      have h2 : len * P.bytesOf e ≤ (((List.range len).map Dd).length + ((List.range (q - len)).map fun j => Dd (len + j)).length) * P.bytesOf e := Nat.mul_le_mul_right _ (by simp)
      exact Nat.le_trans h2 this

theorem trodAll_stays (hl : laidOutB P = true) {W W' : World} {sp' : Nat → Bool} : ∀ {ts : List TypeId} {vs : List Value} {ds : List (DataW H')} {ps : List MemPlace}, (ts.all fun t => P.readableRec t && decide (t < P.types.size)) = true →
    DataW.TrodAll enc P W base (fun _ => true) true ts vs ds ps → (∀ p ∈ ps, W.sameAt W' p) → (∀ p ∈ ps, sp' p.block = true) → DataW.TrodAll enc P W' base sp' true ts vs ds ps
  | [], vs, ds, ps, _, h, _, _ => by
    obtain ⟨rfl, rfl, rfl⟩ := trodAll_nil h
    exact trodAll_mk0
  | t :: ts, vs, ds, ps, hr, h, hs, hp => by
    obtain ⟨v, vs', d, ds', p, q, rfl, rfl, rfl, h1, h2⟩ := trodAll_cons h
    simp only [List.all_cons, Bool.and_eq_true, decide_eq_true_eq] at hr
    exact trodAll_cons_mk (WideElems.Trod_stays hl hr.1.1 hr.1.2 h1 (fun x hx => hs x (by simp [hx])) (fun x hx => hp x (by simp [hx])))
      (trodAll_stays hl hr.2 h2 (fun x hx => hs x (by simp [hx])) (fun x hx => hp x (by simp [hx])))

/-- Of what was there nothing has turned. -/
structure Still (W W' : World) : Prop where
  block : ∀ b, b < W.heap.size → W'.heap[b]? = W.heap[b]?
  os : W'.os = W.os
  output : W'.output = W.output
theorem H.still {W W' : World} {σ : List Ent} (h : H W [] σ W') : Still W W' := ⟨fun b hb => h.keep b hb (by simp), h.os, h.output⟩
theorem Still.same {W W' : World} (h : Still W W') {p : MemPlace} (hp : p.block < W.heap.size) : W.sameAt W' p := by
  cases p with
  | cell b o => exact World.cell?_of_block (w := W) (h.block b hp)
  | map b => exact h.block b hp
theorem Still.frame {W W' : World} (h : Still W W') (may : MemPlace → Prop) : W.keptBut W' may := by
  refine ⟨h.os, h.output, fun i hi => ?_⟩
  rw [h.block i hi]
  split <;> simp_all

theorem post_law {f : Func} {s : ChangeSpec} {apart fresh handsOn again : Bool} {W W' : World} {args : Array Value} {ds : List (DataW H')} {before : List MemPlace} {tbool : TypeId}
    (hW : DataW.Whole enc P f.params.toList s.vars apart W args.toList ds [] before) (hA : DataW.TrodAll enc P W 0 (fun _ => true) true f.params.toList args.toList ds before) (hv : s.vars = [])
    (hspec : s.fn H' (ds ++ []) = { results := [.lit (.bool true)], args := ds }) (hs : Still W W') (hl : laidOutB P = true) (hr : (f.params.toList.all fun t => P.readableRec t && decide (t < P.types.size)) = true)
    (hres : f.resultTypes = #[tbool]) (htb : P.underlying tbool = some .bool) : s.post enc P f apart fresh handsOn again W args (.bool true) W' := by
  have hlt := hW.lt
  have hres' : ∀ (b : Nat) (sp : Nat → Bool) (hd : Bool), DataW.TrodAll enc P W' b sp hd f.resultTypes.toList ((Value.bool true).resultList f.resultTypes.size) (s.fn H' (ds ++ [])).results [] := fun _ _ _ => by
    rw [hspec, hres]
    exact trodAll_mk1 (shut_bool htb _)
  have hargs : ∀ sp : Nat → Bool, (∀ p ∈ before, sp p.block = true) → DataW.TrodAll enc P W' 0 sp true f.params.toList args.toList (s.fn H' (ds ++ [])).args before := fun sp hsp => by
    rw [hspec]
    exact trodAll_stays hl hr hA (fun p hp => hs.same (hlt p hp)) hsp
  have hvars : ∀ sp : Nat → Bool, DataW.TrodVars enc P W' sp s.vars (s.fn H' (ds ++ [])).vars [] := fun sp => by
    rw [hspec, hv]
    rfl
  have hold : ∀ p ∈ before, (fun b => decide (b < W.heap.size)) p.block = true := fun p hp => by simpa using hlt p hp
  refine ⟨ds, [], before, [], before, [], hW, hres' _ _ _, hargs _ hold, hvars _, World.keptBut_mono (fun p hp => ⟨hp, Or.inr (by simpa using hp)⟩) (hs.frame (· ∈ before)), fun _ => ?_⟩
  obtain ⟨_, _, _, _, _, hz, hn⟩ := hW
  refine ⟨ok_one hres rfl (okWide_bool_mk htb _), _, _, ([] ++ before) ++ [], ⟨[] ++ before, [], trodAll_append (hargs _ (fun _ _ => rfl)) (hres' _ _ _), hvars _, rfl, ?_, ?_⟩, ?_⟩
  · intro b off hp
    have hp' : MemPlace.cell b off ∈ before := by simpa using hp
    rw [World.frozen?_of_block (w := W) (hs.block b (hlt _ hp'))]
    exact hz b off hp'
  · intro ha
    have := hn ha
    simpa using this
  · intro p hp _
    simpa using hp

/-- The blocks bs as they lie in W0. -/
@[irreducible] def snap (W0 : World) (bs : List Nat) : Ent where
  dom := bs
  holds w := ∀ b, b ∈ bs → w.heap[b]? = W0.heap[b]? ∧ b < W0.heap.size
  loc w w' h hw := fun b hb => ⟨(h b hb).trans (hw b hb).1, (hw b hb).2⟩
  lt w hw b hb := by
    have := (hw b hb).1
    have h2 := (hw b hb).2
    rcases Nat.lt_or_ge b w.heap.size with h3 | h3
    · exact h3
    · rw [Array.getElem?_eq_none h3, Array.getElem?_eq_getElem h2] at this; cases this
theorem snap_dom (W0 bs) : (snap W0 bs).dom = bs := by unfold snap; rfl
theorem snap_holds (W0 bs w) : (snap W0 bs).holds w ↔ ∀ b, b ∈ bs → w.heap[b]? = W0.heap[b]? ∧ b < W0.heap.size := by unfold snap; rfl
theorem snap_h0 {W : World} {bs : List Nat} (hn : bs.Nodup) (hlt : ∀ b, b ∈ bs → b < W.heap.size) : H0 [snap W bs] W :=
  ⟨fun e he => by
    obtain rfl : e = _ := by simpa using he
    rw [snap_holds]; exact fun b hb => ⟨rfl, hlt b hb⟩, by simpa [doms, snap_dom] using hn⟩
theorem snap_still {W W' : World} {bs : List Nat} (h : H W (doms [snap W bs]) [snap W bs] W') : Still W W' := by
  refine ⟨fun b hb => ?_, h.os, h.output⟩
  by_cases hm : b ∈ bs
  · have := h.mem (e := snap W bs) (by simp)
    rw [snap_holds] at this
    exact (this b hm).1
  · exact h.keep b hb (by simpa [doms, snap_dom] using hm)
theorem Slc.of_snap {W0 w : World} {b off sz : Nat} {xs : List (List Value)} {bs : List Nat} (h : Slc W0 b off sz xs) (hs : (snap W0 bs).holds w) (hb : 0 < xs.length → b ∈ bs) : Slc w b off sz xs := by
  rw [snap_holds] at hs
  intro i x hx
  have hi : 0 < xs.length := by have := (List.getElem?_eq_some_iff.1 hx).1; omega
  obtain ⟨h1, h2⟩ := h i x hx
  exact ⟨h1, fun j u hu => (World.cell?_of_block (w := W0) (hs b (hb hi)).1).trans (h2 j u hu)⟩
end
end Go.HL
/-
  Regions that draw their order: which entries hold throughout, told by slots.
-/
namespace Go.HL
open Go
section
variable {P : Program} {r : Option Nat} {W : World} {D : List Nat} {n : Fm} {Q : Post} {env : Env} {σ : List Ent}
def Keeps (env : Env) (σ : List Ent) : List Nat → List Ent → Prop
  | [], τ => τ = []
  | d :: ds, τ => ∃ b o T c τ', lk env d = some (Ptr b o) ∧ cells b T c ∈ σ ∧ τ = cells b T c :: τ' ∧ Keeps env σ ds τ'
theorem Keeps.nil : Keeps env σ [] [] := rfl
theorem Keeps.cons {d : Nat} {ds : List Nat} {b o T : Nat} {c : List Value} {τ : List Ent} (hl : lk env d = some (Ptr b o)) (hm : cells b T c ∈ σ) (h : Keeps env σ ds τ) : Keeps env σ (d :: ds) (cells b T c :: τ) :=
  ⟨b, o, T, c, τ, hl, hm, rfl, h⟩
theorem Keeps.hold : ∀ {ds : List Nat} {τ : List Ent}, Keeps env σ ds τ → ∀ w, H W D σ w → Hold τ w
  | [], _, h => by
    obtain rfl : _ = [] := h
    exact hold_nil
  | _ :: _, _, h => by
    obtain ⟨b, o, T, c, τ', _, hm, rfl, h'⟩ := h
    exact hold_cons hm (Keeps.hold h')
theorem Val.cmpBN (tb : Tabs P) {dst : Nat} {ty : TypeId} {pos : String} {af : Array Edge} {gd : Option (Nat × Bool)} {t ty' : TypeId} {x y : Operand} {p q : Bool} {u : Nat} (hx : ev env x = some (.bool p)) (hy : ev env y = some (.bool q)) (ht : lk1 tb.bools t = some u) : Val P n env σ ⟨some dst, .binOp .neq t x y ty', ty, pos, af, gd⟩ (.bool (!(p == q))) :=
  Val.neq hx hy rfl rfl (EqT.bool (tb.boolAt ht))
theorem Ct.run {f : FuncId} {args : List Value} {R : Value → List Ent → Prop} (h : Ct P f args σ R) (w : World) (h0 : H0 σ w) : Calls P f args.toArray w fun e w' => ∃ v σ', e = .returned v ∧ R v σ' ∧ H w (doms σ) σ' w' := h w h0
theorem Fun.run {f : FuncId} {args : List Value} {x : Value} (h : Fun P f args x) (w : World) : Calls P f args.toArray w fun e w' => e = .returned x ∧ Still w w' :=
  (Ct.run h w (H0.nil w)).mono fun e w' hh => by
    obtain ⟨v, σ', rfl, ⟨rfl, rfl⟩, hH⟩ := hh
    exact ⟨rfl, H.still hH⟩
end
end Go.HL
/-
  Slices: read by index; put together from a list of parts; calls through a function value.
-/
namespace Go.HL
open Go
section
variable {P : Program} {r : Option Nat} {W : World} {D : List Nat} {n : Fm} {Q : Post} {env env' : Env} {σ σ' : List Ent} {ops : Array Oper} {rest : List Oper}
variable {dst : Nat} {ty : TypeId} {pos : String} {af : Array Edge} {gd : Option (Nat × Bool)} {C : Env → List Ent → Prop}

/-- An entry by which a slice value reads as a list of rows of sz cells. -/
structure Rd (e : Ent) (ao : Option Addr) (len b off sz : Nat) (xs : List (List Value)) : Prop where
  length : xs.length = len
  small : len ≤ maxLen
  addr : 0 < len → ao = some ⟨b, off, none⟩
  reads : ∀ w, e.holds w → Slc w b off sz xs

theorem Rd.snap {W0 : World} {ao : Option Addr} {len b off sz : Nat} {xs : List (List Value)} (hl : xs.length = len) (hm : len ≤ maxLen) (ha : 0 < len → ao = some ⟨b, off, none⟩ ∧ b < W0.heap.size) (hs : Slc W0 b off sz xs) {bs : List Nat} (hb : 0 < len → b ∈ bs) :
    Rd (snap W0 bs) ao len b off sz xs :=
  ⟨hl, hm, fun h => (ha h).1, fun w hw => hs.of_snap hw (by rw [hl]; exact hb)⟩

theorem cellAdd (b o j : Nat) : (⟨b, o, none⟩ : Addr).add j = ⟨b, o + j, none⟩ := Addr.add_mid b o j

theorem seg_flat {sz : Nat} : ∀ {xs : List (List Value)} {i : Nat} {x : List Value}, (∀ y, y ∈ xs → y.length = sz) → xs[i]? = some x → ∀ (j : Nat) (u : Value), x[j]? = some u → xs.flatten[i * sz + j]? = some u
  | [], _, _, _, h, _, _, _ => by simp at h
  | y :: ys, 0, x, hl, h, j, u, hu => by
    simp only [List.getElem?_cons_zero, Option.some.injEq] at h
    subst h
    have := (List.getElem?_eq_some_iff.1 hu).1
    rw [List.flatten_cons, List.getElem?_append_left (by omega)]
    simpa using hu
  | y :: ys, i + 1, x, hl, h, j, u, hu => by
    have hy : y.length = sz := hl y (by simp)
    simp only [List.getElem?_cons_succ] at h
    have ih := seg_flat (fun z hz => hl z (by simp [hz])) h j u hu
    rw [List.flatten_cons, List.getElem?_append_right (by rw [hy, Nat.add_mul]; omega), hy]
    rw [show (i + 1) * sz + j - sz = i * sz + j by rw [Nat.add_mul]; omega]
    exact ih

/-- The row that a slice value owns, read. -/
theorem Rd.row {g E sz k cap : Nat} {xs : List (List Value)} (hl : xs.length = k) (hz : ∀ y, y ∈ xs → y.length = sz) (hm : k ≤ maxLen) : Rd (row (.slice (some ⟨g, 0, none⟩) k cap) E sz k xs.flatten) (some ⟨g, 0, none⟩) k g 0 sz xs :=
  ⟨hl, hm, fun _ => rfl, fun w hw i x hx => by
    rw [row_holds] at hw
    refine ⟨hz x (List.mem_of_getElem? hx), fun j u hu => ?_⟩
    have hi : i < xs.length := (List.getElem?_eq_some_iff.1 hx).1
    have hj : j < sz := by have := (List.getElem?_eq_some_iff.1 hu).1; rw [hz x (List.mem_of_getElem? hx)] at this; exact this
    have hlt : i * sz + j < k * sz := by
      have : (i + 1) * sz ≤ k * sz := Nat.mul_le_mul_right sz (by omega)
      rw [Nat.add_mul] at this; omega
    have := hw.cellAt (i * sz + j) hlt
    rw [Nat.zero_add, this]
    exact seg_flat hz hx j u hu⟩

theorem run_sizeOf {T sz : Nat} (h : (P.info? T).map (·.size) = some sz) (w : World) : (sizeOf T).run P w = .ok sz w := by
  obtain ⟨i, hi, rfl⟩ := Option.map_eq_some_iff.1 h
  simp [sizeOf, typeInfo, hi]

theorem Val.indexR {t E : TypeId} {x y : Operand} {e : Ent} {ao : Option Addr} {len cap b off sz : Nat} {xs : List (List Value)} (k : Nat) (hx : ev env x = some (.slice ao len cap)) (hy : ev env y = some (I (k : Int)))
    (hR : Rd e ao len b off sz xs) (ht : sliceTB P t E = true) (hs : (P.info? E).map (·.size) = some sz) (hk : k < len) : Val P n env σ ⟨some dst, .indexAddr t x y, ty, pos, af, gd⟩ (Ptr b (off + k * sz)) := fun a w hF _ => by
  have ht' := sliceTB_spec ht
  have he : P.elem t = E := by simp [Program.elem, ht']
  have ha := hR.addr (by omega)
  simp only [execOp, hF.eval hx, hF.eval hy, ha]
  rw [Sem.run_bind, run_indexAt_slice w t _ _ _ _ _ (by rw [he]; exact ht')]
  have h0 : (0 : Int) ≤ (k : Int) ∧ (k : Int) < (len : Int) := ⟨by omega, by omega⟩
  rw [if_pos h0, he, run_sizeOf hs]
  simp [cellAdd]

theorem Val.indexRT (tb : Tabs P) {t E : TypeId} {x y : Operand} {e : Ent} {ao : Option Addr} {len cap b off sz : Nat} {xs : List (List Value)} {k : Nat} (hx : ev env x = some (.slice ao len cap)) (hy : ev env y = some (I (k : Int)))
    (hR : Rd e ao len b off sz xs) (ht : lk1 tb.slc t = some E) (hs : lk1 tb.szs E = some sz) (hk : k < len) : Val P n env σ ⟨some dst, .indexAddr t x y, ty, pos, af, gd⟩ (Ptr b (off + k * sz)) :=
  Val.indexR k hx hy hR (tb.slcAt ht) (tb.szAt hs) hk
theorem getMapD {α : Type} [Inhabited α] {f : α → List Value} {xs : List α} {k : Nat} (hk : k < xs.length) : (xs.map f)[k]? = some (f (xs.getD k default)) := by
  simp [hk]
theorem Val.loadRA (tb : Tabs P) {T : TypeId} {x : Operand} {e : Ent} {ao : Option Addr} {len b off sz k : Nat} {xs : List (List Value)} {c : List Value} (h1 : lk1 tb.agg T = some sz) (hx : ev env x = some (Ptr b (off + k * sz)))
    (hR : Rd e ao len b off sz xs) (hm : e ∈ σ) (hk : xs[k]? = some c) : Val P n env σ ⟨some dst, .load T x, ty, pos, af, gd⟩ (A c) := fun a w hF hH => by
  obtain ⟨d, hu, hd, hi⟩ := aggB_spec (tb.aggAt h1)
  obtain ⟨hl, hc⟩ := hR.reads w (hH _ hm) k c hk
  simp only [execOp, hF.eval hx, Instr.loadAt, Instr.sureAddr, Sem.run_bind, Sem.run_pure, Result.andThen_ok]
  rw [run_loadVar_mid w b (off + k * sz) T c d (fun j v hv => hc j v hv) hu hd (by rw [hi, hl])]
  rfl
theorem Val.loadR1 (tb : Tabs P) {T u : TypeId} {x : Operand} {e : Ent} {ao : Option Addr} {len b off k : Nat} {xs : List (List Value)} {v : Value} (h1 : lk1 tb.one T = some u) (hx : ev env x = some (Ptr b (off + k * 1)))
    (hR : Rd e ao len b off 1 xs) (hm : e ∈ σ) (hk : xs[k]? = some [v]) : Val P n env σ ⟨some dst, .load T x, ty, pos, af, gd⟩ v := fun a w hF hH => by
  obtain ⟨hl, hc⟩ := hR.reads w (hH _ hm) k [v] hk
  simp only [execOp, hF.eval hx, Instr.loadAt, Instr.sureAddr, Sem.run_bind, Sem.run_pure, Result.andThen_ok]
  have h0 := hc 0 v rfl
  rw [Nat.add_zero] at h0
  rw [run_loadVar_one (tb.oneAt h1) h0]
  rfl

/-- A call through a function value. -/
theorem Op1.callV {f : FuncId} {x : Operand} {xs : List Operand} {ats : Array TypeId} {args : List Value} {σf σr : List Ent} {R : Value → List Ent → Prop} (hd : Nat.blt dst n.n = true) (hv : ev env x = some (.func (.func f) #[] #[])) (hok : fnOk P f = true)
    (hx : HL.evs env xs = some args) (hσ : σ.Perm (σf ++ σr)) (hf : Ct P f args σf R) (hC : ∀ v σ', R v σ' → C ((dst, v) :: env) (σ' ++ σr)) :
    Op1 P r W D n ⟨some dst, .call ⟨.value x, xs.toArray, ats⟩, ty, pos, af, gd⟩ env σ C := fun K Q hK a w hF hH => by
  have hH' := hH.perm hσ
  have hev : xs.toArray.map a.eval = args.toArray := by rw [← hF.evs hx]; simp
  refine opW_enter (f := f) (args := args.toArray) (w' := w) rfl ?_ ?_
  · simp only [execOp, resolve, Sem.run_bind, hev, hF.eval hv]
    simp [Deferred.ofValue, invoke, run_callFunc hok]
  · refine (hf w ⟨fun e he => hH'.ents e (by simp [he]), ?_⟩).mono ?_
    · have := hH'.nodup
      rw [doms_append, List.nodup_append] at this
      exact this.1
    · rintro e w' ⟨v, σ', rfl, hR, hH1⟩
      exact ⟨_, rfl, hK _ _ (hC v σ' hR) _ _ (hF.put hd v) (hH'.call hH1)⟩
theorem Op1.funV {f : FuncId} {x : Operand} {xs : List Operand} {ats : Array TypeId} {args : List Value} {v : Value} (hd : Nat.blt dst n.n = true) (hv : ev env x = some (.func (.func f) #[] #[])) (hok : fnOk P f = true)
    (hx : HL.evs env xs = some args) (hf : Fun P f args v) (hC : C ((dst, v) :: env) σ) :
    Op1 P r W D n ⟨some dst, .call ⟨.value x, xs.toArray, ats⟩, ty, pos, af, gd⟩ env σ C :=
  Op1.callV (σf := []) (σr := σ) hd hv hok hx (List.Perm.refl _) hf (fun v σ' ⟨h1, h2⟩ => by subst h1 h2; exact hC)
theorem Op1.weakC {o : Oper} {C C' : Env → List Ent → Prop} (h : Op1 P r W D n o env σ C) (hk : ∀ env' σ', C env' σ' → ∃ σ'', C' env' σ'' ∧ ∀ w, H W D σ' w → H W D σ'' w) : Op1 P r W D n o env σ C' :=
  fun K Q hK => h K Q (fun env' σ' hC a w hF hH => by
    obtain ⟨σ'', hC', hh⟩ := hk env' σ' hC
    exact hK env' σ'' hC' a w hF (hh w hH))
/-- Parts that follow one another, each of sz cells. -/
def PartsFrom (sz : Nat) : Nat → List (Nat × Value) → List Value → Prop
  | _, [], cs => cs = []
  | k, (i, v) :: l, cs => i = k ∧ ∃ c cs', v.cells = c.toArray ∧ c.length = sz ∧ cs = c ++ cs' ∧ PartsFrom sz (k + 1) l cs'
theorem PartsFrom.nil {sz k : Nat} : PartsFrom sz k [] [] := rfl
theorem PartsFrom.agg {sz k : Nat} {c cs : List Value} {l : List (Nat × Value)} (hc : c.length = sz) (h : PartsFrom sz (k + 1) l cs) : PartsFrom sz k ((k, A c) :: l) (c ++ cs) := ⟨rfl, c, cs, rfl, hc, rfl, h⟩
theorem PartsFrom.one {k : Nat} {v : Value} {cs : List Value} {l : List (Nat × Value)} (hv : v.cells = #[v]) (h : PartsFrom 1 (k + 1) l cs) : PartsFrom 1 k ((k, v) :: l) (v :: cs) := ⟨rfl, [v], cs, hv, rfl, rfl, h⟩
theorem PartsFrom.length {sz : Nat} : ∀ {k : Nat} {l : List (Nat × Value)} {cs : List Value}, PartsFrom sz k l cs → cs.length = l.length * sz
  | _, [], cs, h => by
    obtain rfl : cs = [] := h
    simp
  | k, (i, v) :: l, cs, h => by
    obtain ⟨_, c, cs', _, hl, rfl, h'⟩ := h
    simp [hl, h'.length, Nat.add_mul]; omega
theorem PartsFrom.fill {sz : Nat} : ∀ {l : List (Nat × Value)} {k : Nat} {cs : List Value} (z : Array Value), PartsFrom sz k l cs → z.size = (k + l.length) * sz →
    Instr.fill (fun i => some (i * sz, sz)) z l = some (z.toList.take (k * sz) ++ cs).toArray
  | [], k, cs, z, h, hz => by
    obtain rfl : cs = [] := h
    simp only [Instr.fill, List.append_nil]
    rw [List.take_of_length_le (by simpa using Nat.le_of_eq hz)]
  | (i, v) :: l, k, cs, z, h, hz => by
    obtain ⟨rfl, c, cs', hv, hc, rfl, h'⟩ := h
    have hsz : i * sz + sz ≤ z.size := by
      rw [hz]
      simp only [List.length_cons]
      have : (i + (l.length + 1)) * sz = i * sz + sz + l.length * sz := by rw [Nat.add_mul, Nat.add_mul]; omega
      omega
    simp only [Instr.fill, hv, List.size_toArray, hc]
    rw [if_neg (by simp; omega)]
    have hf := fill_fold (i * sz) c 0 z (by omega)
    simp only [Nat.add_zero] at hf
    have e : ((c.toArray.zipIdx.foldl (fun cs (p : Value × Nat) => cs.setIfInBounds (i * sz + p.2) p.1) z)) = (splice (i * sz) c z.toList).toArray := by
      rw [← hf]
      simp
    have e' : (c.toArray.zipIdx.foldl (fun cs x => match x with | (c, j) => cs.setIfInBounds (i * sz + j) c) z) = (splice (i * sz) c z.toList).toArray := e
    rw [e']
    rw [PartsFrom.fill _ h' (by
      simp only [splice, List.size_toArray, List.length_append, List.length_take, List.length_drop, Array.length_toList, hc]
      rw [Nat.min_eq_left (by omega)]
      have : (i + 1 + l.length) * sz = (i + (l.length + 1)) * sz := by congr 1; omega
      rw [this, ← List.length_cons (a := (i, v)), ← hz]
      omega)]
    congr 2
    simp only [splice, List.append_assoc]
    rw [← List.append_assoc, List.take_append_of_le_length (by simp [hc]; rw [Nat.min_eq_left (by omega), Nat.add_mul]; omega)]
    rw [List.take_of_length_le (by simp [hc]; rw [Nat.min_eq_left (by omega), Nat.add_mul]; omega)]
    simp

theorem run_buildSlice {t E : TypeId} {len sz : Nat} {vs : List (Nat × Value)} {cs : List Value} {z : Value} (ht : sliceTB P t E = true) (hs : (P.info? E).map (·.size) = some sz) (hz : (P.info? E).bind (·.zero) = some z) (hp : PartsFrom sz 0 vs cs)
    (hl : vs.length = len) (hb : len * sz ≤ 1000) (w : World) :
    (Instr.buildSlice t len vs.toArray).run P w = .ok (.slice (some ⟨w.heap.size, 0, none⟩) len len) (w.alloc (.cells cs.toArray E)) := by
  have hzv : (zeroValue E).run P w = .ok z w := by
    obtain ⟨i, hi, hz'⟩ := Option.bind_eq_some_iff.1 hz
    simp [zeroValue, typeInfo, hi, hz']
  have hfill : ∀ (y : Array Value), Instr.fill (fun i => some (i * sz, sz)) ((Array.range (len * sz)).map (y[· % y.size]!)) vs = some cs.toArray := fun y => by
    rw [hp.fill _ (by simp [hl])]
    simp
  unfold Instr.buildSlice
  simp only [Sem.run_bind, run_underlying (sliceTB_spec ht), Result.andThen_ok, run_sizeOf hs]
  rw [if_neg (by omega)]
  by_cases h0 : len * sz = 0
  · simp only [Sem.run_pure, Result.andThen_ok, Sem.run_bind, if_pos h0, hfill]
    rfl
  · simp only [Sem.run_pure, Result.andThen_ok, Sem.run_bind, if_neg h0, hzv, hfill]
    rfl

/-- A slice put together from its parts. -/
theorem Op1.lit (tb : Tabs P) {t E : TypeId} {len sz : Nat} {parts : List (Nat × Operand)} {vs : List (Nat × Value)} {zc cs : List Value} (hd : Nat.blt dst n.n = true) (ht : sliceTB P t E = true) (hs : (P.info? E).map (·.size) = some sz) (hz : lkZ tb.zeros E = some zc)
    (hx : HL.pevs env parts = some vs) (hp : PartsFrom sz 0 vs cs) (hl : vs.length = len) (hb : Nat.ble (len * sz) 1000 = true) (hpos : Nat.ble 1 sz = true)
    (hC : ∀ b, C ((dst, .slice (some ⟨b, 0, none⟩) len len) :: env) (row (.slice (some ⟨b, 0, none⟩) len len) E sz len cs :: σ)) :
    Op1 P r W D n ⟨some dst, .buildSlice t len parts.toArray, ty, pos, af, gd⟩ env σ C := fun K Q hK a w hF hH => by
  obtain ⟨z, h1, rfl⟩ := tb.zeroAt hz
  have hb' : len * sz ≤ 1000 := Nat.le_of_ble_eq_true hb
  have hlen := hp.length
  have e : (parts.toArray.map fun (p : Nat × Operand) => (p.1, a.eval p.2)) = vs.toArray := by rw [← hF.pevs hx]; simp
  have e' : (parts.toArray.map fun (x : Nat × Operand) => match x with | (i, x) => (i, a.eval x)) = vs.toArray := e
  have hnew : H w [] [row (.slice (some ⟨w.heap.size, 0, none⟩) len len) E sz len cs] (w.alloc (.cells cs.toArray E)) := by
    refine ⟨fun x hx => ?_, by simp [doms, row_dom, Value.ownBlock], fun b hb => ?_, fun b hb _ => heap_alloc_old _ _ hb, by simp, rfl, rfl, rfl⟩
    · obtain rfl : x = _ := by simpa using hx
      rw [row_holds]
      have hm : len ≤ maxLen ∨ sz = 0 := by
        rcases Nat.eq_zero_or_pos sz with h | h
        · exact .inr h
        · left
          have := Nat.le_mul_of_pos_right len h
          simp only [maxLen]; omega
      rcases hm with hm | hm
      · have := World.ownsRow_lit (base := 0) (e := E) (size := sz) w cs.toArray len (Nat.zero_le _) hm (by simp [hlen, hl])
        simpa using this
      · exact absurd hm (by have := Nat.le_of_ble_eq_true hpos; omega)
    · obtain rfl : b = w.heap.size := by simpa [doms, row_dom, Value.ownBlock] using hb
      exact .inr (Nat.le_refl _)
  refine opW_value rfl ?_ (hK _ _ (hC w.heap.size) _ _ (hF.put hd _) (hH.new hnew))
  simp only [execOp, Sem.run_bind, e', run_buildSlice ht hs h1 hp hl hb' w, Result.andThen_ok, Sem.run_pure]
theorem Op1.litT (tb : Tabs P) {t E : TypeId} {len sz : Nat} {parts : List (Nat × Operand)} {vs : List (Nat × Value)} {zc cs : List Value} (hd : Nat.blt dst n.n = true) (ht : lk1 tb.slc t = some E) (hs : lk1 tb.szs E = some sz) (hz : lkZ tb.zeros E = some zc)
    (hx : HL.pevs env parts = some vs) (hp : PartsFrom sz 0 vs cs) (hl : vs.length = len) (hb : Nat.ble (len * sz) 1000 = true) (hpos : Nat.ble 1 sz = true)
    (hC : ∀ b, C ((dst, .slice (some ⟨b, 0, none⟩) len len) :: env) (row (.slice (some ⟨b, 0, none⟩) len len) E sz len cs :: σ)) :
    Op1 P r W D n ⟨some dst, .buildSlice t len parts.toArray, ty, pos, af, gd⟩ env σ C := Op1.lit tb hd (tb.slcAt ht) (tb.szAt hs) hz hx hp hl hb hpos hC

/-- Some entries less. -/
inductive Minus (env : Env) : List Ent → List Ent → Prop
  | nil : Minus env [] []
  | keep {e : Ent} {σ τ : List Ent} : Minus env σ τ → Minus env (e :: σ) (e :: τ)
  | drop {d b o T : Nat} {c : List Value} {σ τ : List Ent} : lk env d = some (Ptr b o) → Minus env σ τ → Minus env (cells b T c :: σ) τ
theorem Minus.sub {σ τ : List Ent} (h : Minus env σ τ) : τ.Sublist σ := by
  induction h with
  | nil => exact List.Sublist.refl _
  | keep _ ih => exact ih.cons_cons _
  | drop _ _ ih => exact ih.cons _
/-- A loop with an invariant. -/
theorem Wp.loopI {α : Type} {c : Code} (J : α → Prop) (E : α → Env) (S : α → List Ent) (μ : α → Nat) (x0 : α) (h0 : J x0) (he : subEnv env (E x0)) (hσ : ∀ w, H W D σ w → H W D (S x0) w)
    (h : ∀ x, J x → Wp P r W D n (Exit.then (fun a w => ∃ y, J y ∧ μ y < μ x ∧ Fr n (E y) a ∧ H W D (S y) w) Q) c (E x) (S x)) : Wp P r W D n Q (.loop c) env σ :=
  Wp.loop (α := { x : α // J x }) (fun x => E x.1) (fun x => S x.1) (fun x => μ x.1) ⟨x0, h0⟩ he hσ fun ⟨x, hx⟩ a w hF hH =>
    wpIn_mono (h x hx a w hF hH) fun e a' w' hq => by
      cases e with
      | normal =>
        obtain ⟨y, hy, h1, h2, h3⟩ := hq
        exact ⟨⟨y, hy⟩, h1, h2, h3⟩
      | _ => exact hq
theorem foldl_take {α β : Type} [Inhabited α] (f : β → α → β) (z : β) {xs : List α} {k : Nat} (hk : k < xs.length) : (xs.take (k + 1)).foldl f z = f ((xs.take k).foldl f z) (xs.getD k default) := by
  rw [List.take_succ_eq_append_getElem hk, List.foldl_append]
  simp [hk]
theorem fits_map {α : Type} (f : α → List Value) (wf : α → Prop) {ls : List Leaf} : ∀ {xs : List (List Value)}, (∀ x, x ∈ xs → Fits ls x) → (∀ {x : List Value}, Fits ls x → ∃ y, x = f y ∧ wf y) → ∃ ys : List α, xs = ys.map f ∧ ∀ y, y ∈ ys → wf y
  | [], _, _ => ⟨[], rfl, fun _ h => (by cases h)⟩
  | x :: xs, h, hf => by
    obtain ⟨y, rfl, hy⟩ := hf (h x (by simp))
    obtain ⟨ys, rfl, hys⟩ := fits_map f wf (xs := xs) (fun z hz => h z (by simp [hz])) hf
    exact ⟨y :: ys, rfl, fun z hz => by
      rcases List.mem_cons.1 hz with rfl | hz
      · exact hy
      · exact hys z hz⟩
theorem Ct.runSnap {f : FuncId} {args : List Value} {x : Value} {W0 : World} {bs : List Nat} (hn : bs.Nodup) (hb : ∀ b, b ∈ bs → b < W0.heap.size) (h : Ct P f args [snap W0 bs] (fun v σ' => v = x ∧ σ' = [snap W0 bs])) :
    Calls P f args.toArray W0 fun e w' => e = .returned x ∧ Still W0 w' :=
  (Ct.run h W0 (snap_h0 hn hb)).mono fun e w' hh => by
    obtain ⟨v, σ', rfl, ⟨rfl, rfl⟩, hH⟩ := hh
    exact ⟨rfl, snap_still hH⟩
/-- The blocks of slices that have something. -/
def blocksOf : List (Nat × Nat) → List Nat
  | [] => []
  | (len, b) :: l => if 0 < len ∧ b ∉ blocksOf l then b :: blocksOf l else blocksOf l
theorem blocksOf_nodup : ∀ l, (blocksOf l).Nodup
  | [] => by simp [blocksOf]
  | (len, b) :: l => by
    unfold blocksOf
    split
    · rename_i h; exact List.nodup_cons.2 ⟨h.2, blocksOf_nodup l⟩
    · exact blocksOf_nodup l
theorem blocksOf_mem : ∀ {l : List (Nat × Nat)} {len b : Nat}, (len, b) ∈ l → 0 < len → b ∈ blocksOf l
  | (len', b') :: l, len, b, h, hp => by
    unfold blocksOf
    rcases List.mem_cons.1 h with he | h
    · obtain ⟨rfl, rfl⟩ := Prod.mk.inj he
      split
      · simp
      · rename_i hn
        by_cases hm : b ∈ blocksOf l
        · exact hm
        · exact absurd ⟨hp, hm⟩ hn
    · have := blocksOf_mem h hp
      split <;> simp [this]
theorem blocksOf_lt {N : Nat} : ∀ {l : List (Nat × Nat)}, (∀ p, p ∈ l → 0 < p.1 → p.2 < N) → ∀ b, b ∈ blocksOf l → b < N
  | [], _, b, h => by simp [blocksOf] at h
  | (len', b') :: l, h, b, hb => by
    have ih := blocksOf_lt (l := l) (fun p hp => h p (by simp [hp]))
    unfold blocksOf at hb
    split at hb
    · rename_i hc
      rcases List.mem_cons.1 hb with rfl | hb
      · exact h (len', b) (by simp) hc.1
      · exact ih b hb
    · exact ih b hb
end
end Go.HL
/-
  Short forms of the laws (what can be reckoned is reckoned by themselves); entries picked out of a list; calls; loops over what a round turns.
-/
namespace Go.HL
open Go
/-- One entry taken out. -/
inductive Rem : List Ent → Ent → List Ent → Prop
  | here {e : Ent} {σ : List Ent} : Rem (e :: σ) e σ
  | there {x e : Ent} {σ σ' : List Ent} : Rem σ e σ' → Rem (x :: σ) e (x :: σ')
/-- Some entries taken out, in their order; the others. -/
inductive Sel : List Ent → List Ent → List Ent → Prop
  | nil {σ : List Ent} : Sel σ [] σ
  | cons {σ σ1 τ ρ : List Ent} {e : Ent} : Rem σ e σ1 → Sel σ1 τ ρ → Sel σ (e :: τ) ρ
theorem Rem.perm {σ : List Ent} {e : Ent} {σ' : List Ent} (h : Rem σ e σ') : σ.Perm (e :: σ') := by
  induction h with
  | here => exact List.Perm.refl _
  | there _ ih => exact (List.Perm.cons _ ih).trans (List.Perm.swap _ _ _)
theorem Sel.perm {σ τ ρ : List Ent} (h : Sel σ τ ρ) : σ.Perm (τ ++ ρ) := by
  induction h with
  | nil => exact List.Perm.refl _
  | cons h _ ih => exact h.perm.trans (List.Perm.cons _ ih)
/-- Lists joined, written out. -/
inductive Cat : List Ent → List Ent → List Ent → Prop
  | nil {σ : List Ent} : Cat [] σ σ
  | cons {e : Ent} {σ τ ρ : List Ent} : Cat σ τ ρ → Cat (e :: σ) τ (e :: ρ)
theorem Cat.eq {σ τ ρ : List Ent} (h : Cat σ τ ρ) : σ ++ τ = ρ := by
  induction h with
  | nil => rfl
  | cons _ ih => simp [ih]
/-- What is kept of an environment. -/
inductive Keep (env : Env) : List Nat → Env → Prop
  | nil : Keep env [] []
  | cons {k : Nat} {v : Value} {ks : List Nat} {e : Env} : lk env k = some v → Keep env ks e → Keep env (k :: ks) ((k, v) :: e)
theorem Keep.sub {env : Env} {ks : List Nat} {e : Env} (h : Keep env ks e) : subEnv env e := by
  induction h with
  | nil => trivial
  | cons h _ ih => exact ⟨h, ih⟩
theorem subEnv.app {env : Env} : ∀ {l m : Env}, subEnv env l → subEnv env m → subEnv env (l ++ m)
  | [], _, _, h => h
  | (_, _) :: _, _, h, hm => ⟨h.1, subEnv.app h.2 hm⟩
theorem subEnv.nil {env : Env} : subEnv env [] := trivial
theorem subEnv.cons {env l : Env} {k : Nat} {u v : Value} (h : lk env k = some u) (e : u = v) (hl : subEnv env l) : subEnv env ((k, v) :: l) := ⟨by rw [h, e], hl⟩

section
variable {P : Program} {r : Option Nat} {W : World} {D : List Nat} {n : Fm} {Q : Post} {env env' : Env} {σ σ' : List Ent} {ops : Array Oper} {rest : List Oper}
variable {dst : Nat} {op : Op} {ty : TypeId} {pos : String} {af : Array Edge} {gd : Option (Nat × Bool)} {C : Env → List Ent → Prop}
theorem H.sel {w : World} {τ ρ : List Ent} (hs : Sel σ τ ρ) (h : H W D σ w) : H W D τ w := (h.perm hs.perm).sub (List.sublist_append_left _ _)
theorem H.sel' {w : World} {τ ρ : List Ent} (hs : Sel σ τ ρ) (h : H W D σ w) : H W D (τ ++ ρ) w := h.perm hs.perm

/-! ### Steps -/
theorem WpL.v {v : Value} (h : Val P n env σ ⟨some dst, op, ty, pos, af, gd⟩ v) (hC : WpL P r W D n ops Q rest ((dst, v) :: env) σ)
    (hg : guardIs env ops gd = some true := by exact rfl) (hnd : notDefer op = true := by exact rfl) (hd : Nat.blt dst n.n = true := by exact rfl) :
    WpL P r W D n ops Q (⟨some dst, op, ty, pos, af, gd⟩ :: rest) env σ := WpL.val hg hnd hd h hC
theorem WpL.o {o : Oper} (h : Op1 P r W D n o env σ (WpL P r W D n ops Q rest)) (hg : guardIs env ops o.guard = some true := by exact rfl) : WpL P r W D n ops Q (o :: rest) env σ := WpL.op hg h
theorem WpL.sk {d : Nat} (h : WpL P r W D n ops Q rest ((d, undef) :: env) σ) (hg : guardIs env ops gd = some false := by exact rfl) (hd : Nat.blt d n.n = true := by exact rfl) :
    WpL P r W D n ops Q (⟨some d, op, ty, pos, af, gd⟩ :: rest) env σ := WpL.skip hg hd h
theorem WpL.skn (h : WpL P r W D n ops Q rest env σ) (hg : guardIs env ops gd = some false := by exact rfl) :
    WpL P r W D n ops Q (⟨none, op, ty, pos, af, gd⟩ :: rest) env σ := WpL.skipNone hg h
theorem WpL.pt {o : Oper} {d : Nat} {b : Bool} (ht : b = true → WpL P r W D n ops Q (o :: rest) ((d, .bool true) :: env) σ) (hf : b = false → WpL P r W D n ops Q (o :: rest) ((d, .bool false) :: env) σ)
    (hg : guardSlot ops o.guard = some d := by exact rfl) (hv : lk env d = some (.bool b) := by exact rfl) : WpL P r W D n ops Q (o :: rest) env σ := WpL.part hg hv ht hf
theorem Wp.cT {c : Operand} {x y : Code} (h : Wp P r W D n Q x env σ) (hc : ev env c = some (.bool true) := by exact rfl) : Wp P r W D n Q (.cond c x y) env σ := Wp.condT hc h
theorem Wp.cF {c : Operand} {x y : Code} (h : Wp P r W D n Q y env σ) (hc : ev env c = some (.bool false) := by exact rfl) : Wp P r W D n Q (.cond c x y) env σ := Wp.condF hc h
theorem Wp.c {c : Operand} {x y : Code} {b : Bool} (hx : b = true → Wp P r W D n Q x env σ) (hy : b = false → Wp P r W D n Q y env σ) (hc : ev env c = some (.bool b) := by exact rfl) : Wp P r W D n Q (.cond c x y) env σ := Wp.cond hc hx hy
theorem Out.blockO' {id id' : Nat} (h : Out W D n Q (.exit id') env σ) (hne : Nat.beq id' id = false := by exact rfl) : Out W D n (Exit.inBlock id Q) (.exit id') env σ := Out.blockO hne h

/-! ### Calls -/
theorem Op1.callT {f : FuncId} {xs : List Operand} {ats : Array TypeId} {args : List Value} {σf σr : List Ent} {R : Value → List Ent → Prop} (hx : HL.evs env xs = some args) (hf : Ct P f args σf R) (hσ : Sel σ σf σr)
    (hC : ∀ v σ', R v σ' → ∃ σ'', Cat σ' σr σ'' ∧ C ((dst, v) :: env) σ'') (hd : Nat.blt dst n.n = true := by exact rfl) (hok : fnOk P f = true := by kernel_rfl) :
    Op1 P r W D n ⟨some dst, .call ⟨.value (.func f), xs.toArray, ats⟩, ty, pos, af, gd⟩ env σ C :=
  Op1.call hd hok hx hσ.perm hf fun v σ' hR => by
    obtain ⟨σ'', hc, h⟩ := hC v σ' hR
    rw [hc.eq]; exact h
theorem Op1.callTV {f : FuncId} {x : Operand} {xs : List Operand} {ats : Array TypeId} {args : List Value} {σf σr : List Ent} {R : Value → List Ent → Prop} (hv : ev env x = some (.func (.func f) #[] #[])) (hx : HL.evs env xs = some args) (hf : Ct P f args σf R) (hσ : Sel σ σf σr)
    (hC : ∀ v σ', R v σ' → ∃ σ'', Cat σ' σr σ'' ∧ C ((dst, v) :: env) σ'') (hd : Nat.blt dst n.n = true := by exact rfl) (hok : fnOk P f = true := by kernel_rfl) :
    Op1 P r W D n ⟨some dst, .call ⟨.value x, xs.toArray, ats⟩, ty, pos, af, gd⟩ env σ C :=
  Op1.callV hd hv hok hx hσ.perm hf fun v σ' hR => by
    obtain ⟨σ'', hc, h⟩ := hC v σ' hR
    rw [hc.eq]; exact h
/-- A call of a function value that has captured something. -/
theorem Op1.callC {f : FuncId} {x : Operand} {xs : List Operand} {ats : Array TypeId} {args caps : List Value} {σf σr : List Ent} {R : Value → List Ent → Prop} (hv : ev env x = some (.func (.func f) #[] caps.toArray)) (hx : HL.evs env xs = some args) (hf : Ct P f (args ++ caps) σf R) (hσ : Sel σ σf σr)
    (hC : ∀ v σ', R v σ' → ∃ σ'', Cat σ' σr σ'' ∧ C ((dst, v) :: env) σ'') (hd : Nat.blt dst n.n = true := by exact rfl) (hok : fnOk P f = true := by kernel_rfl) :
    Op1 P r W D n ⟨some dst, .call ⟨.value x, xs.toArray, ats⟩, ty, pos, af, gd⟩ env σ C := fun K Q hK a w hF hH => by
  have hH' := hH.perm hσ.perm
  have hev : xs.toArray.map a.eval = args.toArray := by rw [← hF.evs hx]; simp
  refine opW_enter (f := f) (args := (args ++ caps).toArray) (w' := w) rfl ?_ ?_
  · simp only [execOp, resolve, Sem.run_bind, hev, hF.eval hv]
    simp [Deferred.ofValue, invoke, run_callFunc hok]
  · refine (hf w ⟨fun e he => hH'.ents e (by simp [he]), ?_⟩).mono ?_
    · have := hH'.nodup
      rw [doms_append, List.nodup_append] at this
      exact this.1
    · rintro e w' ⟨v, σ', rfl, hR, hH1⟩
      obtain ⟨σ'', hc, h⟩ := hC v σ' hR
      refine ⟨_, rfl, hK _ _ h _ _ (hF.put hd v) ?_⟩
      have := hH'.call hH1
      rwa [hc.eq] at this
theorem Op1.fn {f : FuncId} {xs : List Operand} {ats : Array TypeId} {args : List Value} {x : Value} (hx : HL.evs env xs = some args) (hf : Fun P f args x) (hC : C ((dst, x) :: env) σ) (hd : Nat.blt dst n.n = true := by exact rfl) (hok : fnOk P f = true := by kernel_rfl) :
    Op1 P r W D n ⟨some dst, .call ⟨.value (.func f), xs.toArray, ats⟩, ty, pos, af, gd⟩ env σ C := Op1.fun hd hok hx hf hC
theorem Op1.fnV {f : FuncId} {x : Operand} {xs : List Operand} {ats : Array TypeId} {args : List Value} {v : Value} (hv : ev env x = some (.func (.func f) #[] #[])) (hx : HL.evs env xs = some args) (hf : Fun P f args v) (hC : C ((dst, v) :: env) σ) (hd : Nat.blt dst n.n = true := by exact rfl) (hok : fnOk P f = true := by kernel_rfl) :
    Op1 P r W D n ⟨some dst, .call ⟨.value x, xs.toArray, ats⟩, ty, pos, af, gd⟩ env σ C := Op1.funV hd hv hok hx hf hC

/-! ### Loops -/
/-- A loop: what a round turns is told by E and S; the slots ks, and the entries σ0, stay as they are. -/
theorem Wp.lp {α : Type} {c : Code} (ks : List Nat) (J : α → Prop) (E : α → Env) (S : α → List Ent) (μ : α → Nat) (x0 : α) {env0 : Env} {σ0 : List Ent} (h0 : J x0)
    (h : ∀ x, J x → ∀ K : Act → World → Prop, (∀ y, J y → μ y < μ x → ∀ a w, Fr n (E y ++ env0) a → H W D (S y ++ σ0) w → K a w) → Wp P r W D n (Exit.then K Q) c (E x ++ env0) (S x ++ σ0))
    (hk : Keep env ks env0 := by (repeat (first | exact Keep.nil | apply Keep.cons rfl))) (he : subEnv env (E x0) := by (repeat (first | exact subEnv.nil | refine subEnv.cons rfl rfl ?_))) (hs : Sel σ (S x0) σ0 := by (repeat (first | exact Sel.nil | exact Rem.here | apply Sel.cons | apply Rem.there))) : Wp P r W D n Q (.loop c) env σ :=
  Wp.loopI J (fun x => E x ++ env0) (fun x => S x ++ σ0) μ x0 h0 (he.app hk.sub) (fun _ hw => hw.sel' hs) fun x hx => h x hx _ fun y h1 h2 _ _ h3 h4 => ⟨y, h1, h2, h3, h4⟩
/-- A round's end, or a meeting point's. -/
theorem Out.ag {α : Type} {J G : α → Prop} {E : α → Env} {S : α → List Ent} {env0 : Env} {σ0 ρ : List Ent} {K : Act → World → Prop} (hK : ∀ y, J y → G y → ∀ a w, Fr n (E y ++ env0) a → H W D (S y ++ σ0) w → K a w) (y : α) (hJ : J y) (hμ : G y) (he : subEnv env (E y ++ env0) := by (repeat (first | exact subEnv.nil | refine subEnv.cons rfl rfl ?_))) (hs : Sel σ (S y ++ σ0) ρ := by (repeat (first | exact Sel.nil | exact Rem.here | apply Sel.cons | apply Rem.there))) :
    Out W D n (Exit.then K Q) .normal env σ := fun _ _ hF hH => hK y hJ hμ _ _ (hF.sub he.get) (hH.sel hs)
/-- Where ways meet: what holds there is told by E and S. -/
theorem Wp.mt {α : Type} {x y : Code} (ks : List Nat) (J : α → Prop) (E : α → Env) (S : α → List Ent) {env0 : Env} {σ0 σ1 : List Ent}
    (hx : ∀ K : Act → World → Prop, (∀ z, J z → True → ∀ a w, Fr n (E z ++ env0) a → H W D (S z ++ σ0) w → K a w) → Wp P r W D n (Exit.then K Q) x env σ)
    (hy : ∀ z, J z → Wp P r W D n Q y (E z ++ env0) (S z ++ σ0))
    (hk : Keep env ks env0 := by (repeat (first | exact Keep.nil | apply Keep.cons rfl))) (hs : Sel σ σ1 σ0 := by (repeat (first | exact Sel.nil | exact Rem.here | apply Sel.cons | apply Rem.there))) : Wp P r W D n Q (.seq x y) env σ :=
  Wp.seq fun a w hF hH => wpIn_mono (hx (fun a w => ∃ z, J z ∧ Fr n (E z ++ env0) a ∧ H W D (S z ++ σ0) w) (fun z h1 _ _ _ h2 h3 => ⟨z, h1, h2, h3⟩) a w hF hH) fun e a' w' hq => by
    cases e with
    | normal =>
      obtain ⟨z, hM, hf, hh⟩ := hq
      exact hy z hM a' w' hf hh
    | _ => exact hq

/-! ### Ends -/
variable {fn : Func} {R : Value → List Ent → Prop}
theorem Out.endS {e : Exit} {v : Value} (he : e = .ret ∨ e = .normal) (hr : ∀ a w, Fr n env a → HC σ w → (results fn a.tmps).run P w = .ok v w)
    (h : ∃ σ' ρ, R v σ' ∧ Sel σ (dfrs n.ds ++ σ') ρ) : Out W D n (endPost P fn (Ends R W D)) e env σ := fun a w hF hH => by
  obtain ⟨σ', ρ, hR, hs⟩ := h
  have hb : LeavesInM Fence.wide 0 P fn a.tmps (Ends R W D) a.defers .returning w := by
    rw [hF.defers]
    exact leave n.ds σ' w (hH.sel hs) hH.hc fun w' h1 h2 => ⟨v, hr a w' hF h2, v, σ', rfl, hR, h1⟩
  rcases he with rfl | rfl <;> exact hb
theorem Out.e0 {e : Exit} (hr : fn.results = #[]) (h : ∃ σ' ρ, R (.tuple #[]) σ' ∧ Sel σ (dfrs n.ds ++ σ') ρ) (he : e = .ret ∨ e = .normal := by first | exact .inl rfl | exact .inr rfl) : Out W D n (endPost P fn (Ends R W D)) e env σ :=
  Out.endS he (fun _ _ _ _ => by simp [results, hr]) h
theorem Out.e1 {e : Exit} {rv : ResultVar} {v : Value} (hr : fn.results = #[rv]) (h1 : ResIs P env σ rv v) (h : ∃ σ' ρ, R v σ' ∧ Sel σ (dfrs n.ds ++ σ') ρ) (he : e = .ret ∨ e = .normal := by first | exact .inl rfl | exact .inr rfl) : Out W D n (endPost P fn (Ends R W D)) e env σ :=
  Out.endS he (fun _ _ hF hH => results1 hr hF hH h1) h
theorem Out.e2 {e : Exit} {r1 r2 : ResultVar} {v1 v2 : Value} (hr : fn.results = #[r1, r2]) (h1 : ResIs P env σ r1 v1) (h2 : ResIs P env σ r2 v2) (h : ∃ σ' ρ, R (.tuple #[v1, v2]) σ' ∧ Sel σ (dfrs n.ds ++ σ') ρ) (he : e = .ret ∨ e = .normal := by first | exact .inl rfl | exact .inr rfl) : Out W D n (endPost P fn (Ends R W D)) e env σ :=
  Out.endS he (fun _ _ hF hH => results2 hr hF hH h1 h2) h
theorem Out.e3 {e : Exit} {r1 r2 r3 : ResultVar} {v1 v2 v3 : Value} (hr : fn.results = #[r1, r2, r3]) (h1 : ResIs P env σ r1 v1) (h2 : ResIs P env σ r2 v2) (h3 : ResIs P env σ r3 v3) (h : ∃ σ' ρ, R (.tuple #[v1, v2, v3]) σ' ∧ Sel σ (dfrs n.ds ++ σ') ρ) (he : e = .ret ∨ e = .normal := by first | exact .inl rfl | exact .inr rfl) : Out W D n (endPost P fn (Ends R W D)) e env σ :=
  Out.endS he (fun _ _ hF hH => results3 hr hF hH h1 h2 h3) h
theorem Out.e4 {e : Exit} {r1 r2 r3 r4 : ResultVar} {v1 v2 v3 v4 : Value} (hr : fn.results = #[r1, r2, r3, r4]) (h1 : ResIs P env σ r1 v1) (h2 : ResIs P env σ r2 v2) (h3 : ResIs P env σ r3 v3) (h4 : ResIs P env σ r4 v4) (h : ∃ σ' ρ, R (.tuple #[v1, v2, v3, v4]) σ' ∧ Sel σ (dfrs n.ds ++ σ') ρ) (he : e = .ret ∨ e = .normal := by first | exact .inl rfl | exact .inr rfl) : Out W D n (endPost P fn (Ends R W D)) e env σ :=
  Out.endS he (fun _ _ hF hH => results4 hr hF hH h1 h2 h3 h4) h
theorem Out.f0 {e : Exit}  {τ ρ : List Ent} (hr : fn.results = #[])  (h : R (.tuple #[]) τ) (hs : Sel σ (dfrs n.ds ++ τ) ρ := by (repeat (first | exact Sel.nil | exact Rem.here | apply Sel.cons | apply Rem.there))) (he : e = .ret ∨ e = .normal := by first | exact .inl rfl | exact .inr rfl) : Out W D n (endPost P fn (Ends R W D)) e env σ := Out.e0 hr  ⟨τ, ρ, h, hs⟩ he
theorem Out.f1 {e : Exit} {rv : ResultVar} {v : Value} {τ ρ : List Ent} (hr : fn.results = #[rv]) (h1 : ResIs P env σ rv v) (h : R v τ) (hs : Sel σ (dfrs n.ds ++ τ) ρ := by (repeat (first | exact Sel.nil | exact Rem.here | apply Sel.cons | apply Rem.there))) (he : e = .ret ∨ e = .normal := by first | exact .inl rfl | exact .inr rfl) : Out W D n (endPost P fn (Ends R W D)) e env σ := Out.e1 hr h1 ⟨τ, ρ, h, hs⟩ he
theorem Out.f2 {e : Exit} {r1 : ResultVar} {v1 : Value} {r2 : ResultVar} {v2 : Value} {τ ρ : List Ent} (hr : fn.results = #[r1, r2]) (h1 : ResIs P env σ r1 v1) (h2 : ResIs P env σ r2 v2) (h : R (.tuple #[v1, v2]) τ) (hs : Sel σ (dfrs n.ds ++ τ) ρ := by (repeat (first | exact Sel.nil | exact Rem.here | apply Sel.cons | apply Rem.there))) (he : e = .ret ∨ e = .normal := by first | exact .inl rfl | exact .inr rfl) : Out W D n (endPost P fn (Ends R W D)) e env σ := Out.e2 hr h1 h2 ⟨τ, ρ, h, hs⟩ he
theorem Out.f3 {e : Exit} {r1 : ResultVar} {v1 : Value} {r2 : ResultVar} {v2 : Value} {r3 : ResultVar} {v3 : Value} {τ ρ : List Ent} (hr : fn.results = #[r1, r2, r3]) (h1 : ResIs P env σ r1 v1) (h2 : ResIs P env σ r2 v2) (h3 : ResIs P env σ r3 v3) (h : R (.tuple #[v1, v2, v3]) τ) (hs : Sel σ (dfrs n.ds ++ τ) ρ := by (repeat (first | exact Sel.nil | exact Rem.here | apply Sel.cons | apply Rem.there))) (he : e = .ret ∨ e = .normal := by first | exact .inl rfl | exact .inr rfl) : Out W D n (endPost P fn (Ends R W D)) e env σ := Out.e3 hr h1 h2 h3 ⟨τ, ρ, h, hs⟩ he
theorem Out.f4 {e : Exit} {r1 : ResultVar} {v1 : Value} {r2 : ResultVar} {v2 : Value} {r3 : ResultVar} {v3 : Value} {r4 : ResultVar} {v4 : Value} {τ ρ : List Ent} (hr : fn.results = #[r1, r2, r3, r4]) (h1 : ResIs P env σ r1 v1) (h2 : ResIs P env σ r2 v2) (h3 : ResIs P env σ r3 v3) (h4 : ResIs P env σ r4 v4) (h : R (.tuple #[v1, v2, v3, v4]) τ) (hs : Sel σ (dfrs n.ds ++ τ) ρ := by (repeat (first | exact Sel.nil | exact Rem.here | apply Sel.cons | apply Rem.there))) (he : e = .ret ∨ e = .normal := by first | exact .inl rfl | exact .inr rfl) : Out W D n (endPost P fn (Ends R W D)) e env σ := Out.e4 hr h1 h2 h3 h4 ⟨τ, ρ, h, hs⟩ he
theorem ResIs.t {t : Tmp} {v : Value} (h : lk env t = some v := by exact rfl) : ResIs P env σ (.tmp t) v := h
theorem ResIs.ca (tb : Tabs P) {p : Tmp} {T E : TypeId} {b o k : Nat} {c c' : List Value} (h : lk env p = some (Ptr b o) := by exact rfl) (hm : cells b E c ∈ σ := by (repeat first | exact List.Mem.head _ | apply List.Mem.tail)) (h1 : lk1 tb.agg T = some k := by exact rfl)
    (hl : Nat.ble (o + k) c.length = true := by exact rfl) (hs : SegOf o k c c' := by infer_instance) : ResIs P env σ (.cell p T) (A c') := ⟨b, E, c, o, h, hm, Reads.agg (tb.aggAt h1) hl hs.eq⟩
theorem ResIs.c1 (tb : Tabs P) {p : Tmp} {T E : TypeId} {b o u : Nat} {c : List Value} {v : Value} (h : lk env p = some (Ptr b o) := by exact rfl) (hm : cells b E c ∈ σ := by (repeat first | exact List.Mem.head _ | apply List.Mem.tail)) (h1 : lk1 tb.one T = some u := by exact rfl)
    (hr : c[o]? = some v := by exact rfl) : ResIs P env σ (.cell p T) v := ⟨b, E, c, o, h, hm, Reads.one (tb.oneAt h1) hr⟩
end
end Go.HL
/-
  Short forms of the values' laws; more operations: bits, shifts, conversions, nil tests.
-/
namespace Go.HL
open Go
section
variable {P : Program} {r : Option Nat} {W : World} {D : List Nat} {n : Fm} {Q : Post} {env env' : Env} {σ σ' : List Ent} {ops : Array Oper} {rest : List Oper}
variable {dst : Nat} {ty : TypeId} {pos : String} {af : Array Edge} {gd : Option (Nat × Bool)} {C : Env → List Ent → Prop}
theorem V.mv {x : Operand} {v : Value} (hx : ev env x = some v := by exact rfl) : Val P n env σ ⟨some dst, .move x, ty, pos, af, gd⟩ v := Val.move hx
theorem V.as {x : Operand} {v : Value} (hx : ev env x = some v := by exact rfl) : Val P n env σ ⟨some dst, .assign x, ty, pos, af, gd⟩ v := Val.assign hx
theorem V.pT {c x y : Operand} {v : Value} (hc : ev env c = some (.bool true) := by exact rfl) (hx : ev env x = some v := by exact rfl) : Val P n env σ ⟨some dst, .pick c x y, ty, pos, af, gd⟩ v := Val.pickT hc hx
theorem V.pF {c x y : Operand} {v : Value} (hc : ev env c = some (.bool false) := by exact rfl) (hy : ev env y = some v := by exact rfl) : Val P n env σ ⟨some dst, .pick c x y, ty, pos, af, gd⟩ v := Val.pickF hc hy
theorem V.cmp {op : BinOp} {t ty' : TypeId} {x y : Operand} {k : IntKind} {p q : Int} {b : Bool} (hx : ev env x = some (.int k p) := by exact rfl) (hy : ev env y = some (.int k q) := by exact rfl) (hb : cmpI op p q = some b := by exact rfl) : Val P n env σ ⟨some dst, .binOp op t x y ty', ty, pos, af, gd⟩ (.bool b) := Val.cmp hx hy hb
theorem V.cmpS {op : BinOp} {t ty' : TypeId} {x y : Operand} {p q : List UInt8} {b : Bool} (hx : ev env x = some (S p) := by exact rfl) (hy : ev env y = some (S q) := by exact rfl) (hb : HL.cmpS op p q = some b := by exact rfl) : Val P n env σ ⟨some dst, .binOp op t x y ty', ty, pos, af, gd⟩ (.bool b) := Val.cmpS hx hy hb
theorem V.eqB (tb : Tabs P) {t ty' : TypeId} {x y : Operand} {p q : Bool} {u : Nat} (hx : ev env x = some (.bool p) := by exact rfl) (hy : ev env y = some (.bool q) := by exact rfl) (ht : lk1 tb.bools t = some u := by exact rfl) : Val P n env σ ⟨some dst, .binOp .eql t x y ty', ty, pos, af, gd⟩ (.bool (p == q)) := Val.cmpBT tb hx hy ht
theorem V.neB (tb : Tabs P) {t ty' : TypeId} {x y : Operand} {p q : Bool} {u : Nat} (hx : ev env x = some (.bool p) := by exact rfl) (hy : ev env y = some (.bool q) := by exact rfl) (ht : lk1 tb.bools t = some u := by exact rfl) : Val P n env σ ⟨some dst, .binOp .neq t x y ty', ty, pos, af, gd⟩ (.bool (!(p == q))) := Val.cmpBN tb hx hy ht
theorem V.eq {t ty' : TypeId} {x y : Operand} {u v : Value} {b : Bool} (hE : EqT P 10000 t u v b) (hx : ev env x = some u := by exact rfl) (hy : ev env y = some v := by exact rfl) (hp : eqPlain u v = true := by exact rfl) (hg : guardPlain P t u v = true := by kernel_rfl) : Val P n env σ ⟨some dst, .binOp .eql t x y ty', ty, pos, af, gd⟩ (.bool b) := Val.eql hx hy hp hg hE
theorem V.ne {t ty' : TypeId} {x y : Operand} {u v : Value} {b : Bool} (hE : EqT P 10000 t u v b) (hx : ev env x = some u := by exact rfl) (hy : ev env y = some v := by exact rfl) (hp : eqPlain u v = true := by exact rfl) (hg : guardPlain P t u v = true := by kernel_rfl) : Val P n env σ ⟨some dst, .binOp .neq t x y ty', ty, pos, af, gd⟩ (.bool (!b)) := Val.neq hx hy hp hg hE
theorem V.add {t ty' : TypeId} {x y : Operand} {p q : Int} (hx : ev env x = some (I p) := by exact rfl) (hy : ev env y = some (I q) := by exact rfl) (hb : -9223372036854775808 ≤ p + q ∧ p + q ≤ 9223372036854775807 := by first | omega | (dsimp only; omega)) : Val P n env σ ⟨some dst, .binOp .add t x y ty', ty, pos, af, gd⟩ (I (p + q)) := Val.add hx hy hb
theorem V.sub {t ty' : TypeId} {x y : Operand} {p q : Int} (hx : ev env x = some (I p) := by exact rfl) (hy : ev env y = some (I q) := by exact rfl) (hb : -9223372036854775808 ≤ p - q ∧ p - q ≤ 9223372036854775807 := by first | omega | (dsimp only; omega)) : Val P n env σ ⟨some dst, .binOp .sub t x y ty', ty, pos, af, gd⟩ (I (p - q)) := Val.sub hx hy hb
theorem V.mul {t ty' : TypeId} {x y : Operand} {p q : Int} (hx : ev env x = some (I p) := by exact rfl) (hy : ev env y = some (I q) := by exact rfl) (hb : -9223372036854775808 ≤ p * q ∧ p * q ≤ 9223372036854775807 := by first | omega | (dsimp only; omega)) : Val P n env σ ⟨some dst, .binOp .mul t x y ty', ty, pos, af, gd⟩ (I (p * q)) := Val.mul hx hy hb
def ariI (op : BinOp) (k : IntKind) (p q : Int) : Option Int := match op with | .add => some (k.wrap (p + q)) | .sub => some (k.wrap (p - q)) | .mul => some (k.wrap (p * q)) | _ => none
theorem V.ari {op : BinOp} {t ty' : TypeId} {x y : Operand} {k : IntKind} {p q u : Int} (hx : ev env x = some (.int k p) := by exact rfl) (hy : ev env y = some (.int k q) := by exact rfl) (hb : ariI op k p q = some u := by exact rfl) : Val P n env σ ⟨some dst, .binOp op t x y ty', ty, pos, af, gd⟩ (.int k u) := Val.arith hx hy hb
theorem V.quo {t ty' : TypeId} {x y : Operand} {p q : Int} (hx : ev env x = some (I p) := by exact rfl) (hy : ev env y = some (I q) := by exact rfl) (hb : 0 ≤ p ∧ p ≤ 9223372036854775807 ∧ 1 ≤ q := by first | omega | (dsimp only; omega)) : Val P n env σ ⟨some dst, .binOp .quo t x y ty', ty, pos, af, gd⟩ (I (p / q)) := Val.quo hx hy hb
theorem V.rem {t ty' : TypeId} {x y : Operand} {k : IntKind} {p q : Int} (hx : ev env x = some (.int k p) := by exact rfl) (hy : ev env y = some (.int k q) := by exact rfl) (hb : 0 ≤ p ∧ 1 ≤ q := by first | omega | (dsimp only; omega)) : Val P n env σ ⟨some dst, .binOp .rem t x y ty', ty, pos, af, gd⟩ (.int k (p % q)) := Val.rem hx hy hb
theorem V.remT {t ty' : TypeId} {x y : Operand} {k : IntKind} {p q : Int} (hx : ev env x = some (.int k p) := by exact rfl) (hy : ev env y = some (.int k q) := by exact rfl) (hb : q ≠ 0 := by first | omega | (dsimp only; omega)) : Val P n env σ ⟨some dst, .binOp .rem t x y ty', ty, pos, af, gd⟩ (.int k (p.tmod q)) :=
  fun a w hF _ => by simp [execOp, hF.eval hx, hF.eval hy, eqGuard, binOp, Op.intDiv, hb]
theorem V.quoT {t ty' : TypeId} {x y : Operand} {k : IntKind} {p q : Int} (hx : ev env x = some (.int k p) := by exact rfl) (hy : ev env y = some (.int k q) := by exact rfl) (hb : q ≠ 0 := by first | omega | (dsimp only; omega)) : Val P n env σ ⟨some dst, .binOp .quo t x y ty', ty, pos, af, gd⟩ (.int k (k.wrap (p.tdiv q))) :=
  fun a w hF _ => by simp [execOp, hF.eval hx, hF.eval hy, eqGuard, binOp, Op.intDiv, hb]
/-- Bits. -/
def bitI (op : BinOp) (k : IntKind) (x y : Int) : Option Int :=
  match op with
  | .and => some (k.wrap (BitVec.ofInt k.bits x &&& BitVec.ofInt k.bits y).toNat)
  | .or => some (k.wrap (BitVec.ofInt k.bits x ||| BitVec.ofInt k.bits y).toNat)
  | .xor => some (k.wrap (BitVec.ofInt k.bits x ^^^ BitVec.ofInt k.bits y).toNat)
  | .andNot => some (k.wrap (BitVec.ofInt k.bits x &&& ~~~(BitVec.ofInt k.bits y)).toNat)
  | _ => none
theorem V.bit {op : BinOp} {t ty' : TypeId} {x y : Operand} {k : IntKind} {p q u v : Int} (hv : u = v) (hx : ev env x = some (.int k p) := by exact rfl) (hy : ev env y = some (.int k q) := by exact rfl) (hb : bitI op k p q = some u := by exact rfl) : Val P n env σ ⟨some dst, .binOp op t x y ty', ty, pos, af, gd⟩ (.int k v) :=
  fun a w hF _ => by
    subst hv
    simp only [execOp, hF.eval hx, hF.eval hy]
    cases op <;> simp only [bitI, Option.some.injEq, reduceCtorEq] at hb <;> subst hb <;> simp [eqGuard, binOp, Op.intBits]
theorem V.shl {t ty' : TypeId} {x y : Operand} {k k' : IntKind} {p q u : Int} (hx : ev env x = some (.int k p)  := by exact rfl) (hy : ev env y = some (.int k' q) := by exact rfl) (h0 : 0 ≤ q := by omega) (hu : k.wrap (p * 2 ^ (Min.min q.toNat k.bits)) = u := by exact rfl) : Val P n env σ ⟨some dst, .binOp .shl t x y ty', ty, pos, af, gd⟩ (.int k u) :=
  fun a w hF _ => by
    subst hu
    simp [execOp, hF.eval hx, hF.eval hy, eqGuard, binOp, Op.shift, show ¬ q < 0 by omega]
theorem V.shr {t ty' : TypeId} {x y : Operand} {k k' : IntKind} {p q u : Int} (hx : ev env x = some (.int k p)  := by exact rfl) (hy : ev env y = some (.int k' q) := by exact rfl) (h0 : 0 ≤ q := by omega) (hu : p.fdiv (2 ^ (Min.min q.toNat k.bits)) = u := by exact rfl) : Val P n env σ ⟨some dst, .binOp .shr t x y ty', ty, pos, af, gd⟩ (.int k u) :=
  fun a w hF _ => by
    subst hu
    simp [execOp, hF.eval hx, hF.eval hy, eqGuard, binOp, Op.shift, show ¬ q < 0 by omega]
theorem V.compl {t : TypeId} {x : Operand} {k : IntKind} {p u v : Int} (hv : u = v) (hx : ev env x = some (.int k p) := by exact rfl) (hb : bitI .xor k (if k.signed then -1 else k.max) p = some u := by exact rfl) : Val P n env σ ⟨some dst, .unOp .xor t x, ty, pos, af, gd⟩ (.int k v) :=
  fun a w hF _ => by
    subst hv
    simp only [bitI, Option.some.injEq] at hb
    subst hb
    simp [execOp, hF.eval hx, Op.unary, Op.intBits]
theorem V.not {t : TypeId} {x : Operand} {p : Bool} (hx : ev env x = some (.bool p) := by exact rfl) : Val P n env σ ⟨some dst, .unOp .not t x, ty, pos, af, gd⟩ (.bool (!p)) := Val.not hx
theorem V.neg {t : TypeId} {x : Operand} {p : Int} (hx : ev env x = some (I p) := by exact rfl) (hb : -9223372036854775807 ≤ p ∧ p ≤ 9223372036854775807 := by first | omega | (dsimp only; omega)) : Val P n env σ ⟨some dst, .unOp .neg t x, ty, pos, af, gd⟩ (I (-p)) := Val.neg hx hb
theorem V.cvI (tb : Tabs P) {t u : TypeId} {x : Operand} {k k' k'' : IntKind} {p : Int} (hx : ev env x = some (.int k p) := by exact rfl) (ht : lkK tb.ints u = some k' := by exact rfl) (hu : lkK tb.ints t = some k'' := by exact rfl) : Val P n env σ ⟨some dst, .convert t u x, ty, pos, af, gd⟩ (.int k' (k'.wrap p)) := Val.convT tb hx ht hu
theorem wrap_in {k : IntKind} {p : Int} (h : In k p) : k.wrap p = p := by
  unfold In Lit.wf at h
  simp only [Bool.and_eq_true, decide_eq_true_eq] at h
  obtain ⟨h1, h2⟩ := h
  cases k <;> simp_all [IntKind.wrap, IntKind.min, IntKind.max, IntKind.signed, IntKind.bits] <;> omega
/-- A number that fits stays. -/
theorem V.cvS (tb : Tabs P) {t u : TypeId} {x : Operand} {k k' k'' : IntKind} {p : Int} (hp : k'.wrap p = p) (hx : ev env x = some (.int k p) := by exact rfl) (ht : lkK tb.ints u = some k' := by exact rfl) (hu : lkK tb.ints t = some k'' := by exact rfl) : Val P n env σ ⟨some dst, .convert t u x, ty, pos, af, gd⟩ (.int k' p) := by
  have := Val.convT (n := n) (env := env) (σ := σ) (dst := dst) (ty := ty) (pos := pos) (af := af) (gd := gd) tb hx ht hu
  rwa [hp] at this
theorem V.cvStr (tb : Tabs P) {t u : TypeId} {x : Operand} {s : ByteArray} {a b : Nat} (hx : ev env x = some (.string s) := by exact rfl) (ht : lk1 tb.strs u = some a := by exact rfl) (hu : lk1 tb.strs t = some b := by exact rfl) : Val P n env σ ⟨some dst, .convert t u x, ty, pos, af, gd⟩ (.string s) := Val.convS hx (tb.strAt ht) (tb.strAt hu)
theorem V.ex {x : Operand} {ix : Nat} {vs : List Value} {v : Value} (hx : ev env x = some (.tuple vs.toArray) := by exact rfl) (hv : vs[ix]? = some v := by exact rfl) : Val P n env σ ⟨some dst, .extract x ix, ty, pos, af, gd⟩ v := Val.extract hx hv
theorem V.nc {x : Operand} {b o : Nat} (hx : ev env x = some (Ptr b o) := by exact rfl) : Val P n env σ ⟨some dst, .nilCheck x, ty, pos, af, gd⟩ (Ptr b o) := Val.nilCheck hx
theorem V.ncF {x : Operand} {f : Fn} {ys : Array Value} (hx : ev env x = some (.func f #[] ys) := by exact rfl) (hf : (match f with | .method _ => false | _ => true) = true := by exact rfl) : Val P n env σ ⟨some dst, .nilCheck x, ty, pos, af, gd⟩ (.func f #[] ys) :=
  fun a w hF _ => by
    cases f <;> first | (cases hf; done) | simp [execOp, hF.eval hx]
theorem V.mf {fn : Fn} {fs cs : List Operand} {xs ys : List Value} (hf : HL.evs env fs = some xs := by exact rfl) (hc : HL.evs env cs = some ys := by exact rfl) : Val P n env σ ⟨some dst, .makeFunc fn fs.toArray cs.toArray, ty, pos, af, gd⟩ (.func fn xs.toArray ys.toArray) :=
  fun a w hF _ => by
    have e1 : fs.toArray.map a.eval = xs.toArray := by rw [← hF.evs hf]; simp
    have e2 : cs.toArray.map a.eval = ys.toArray := by rw [← hF.evs hc]; simp
    simp only [execOp, Instr.makeFunc, e1, e2, Sem.run_bind, Sem.run_pure, Result.andThen_ok]
theorem V.fa (tb : Tabs P) {s : TypeId} {x : Operand} {f b o off o' : Nat} (hx : ev env x = some (Ptr b o) := by exact rfl) (hf : lk2 tb.fld s f = some off := by exact rfl) (ho : o + off = o' := by (first | exact Nat.zero_add _ | exact Nat.add_zero _ | (simp only [Nat.reduceAdd]; done) | exact rfl)) : Val P n env σ ⟨some dst, .fieldAddr s x f, ty, pos, af, gd⟩ (Ptr b o') := Val.fieldAddrT tb hx hf ho
theorem V.ld1 (tb : Tabs P) {T E : TypeId} {x : Operand} {b o u : Nat} {c : List Value} {v : Value} (h1 : lk1 tb.one T = some u := by exact rfl) (hx : ev env x = some (Ptr b o) := by exact rfl) (hm : cells b E c ∈ σ := by (repeat first | exact List.Mem.head _ | apply List.Mem.tail)) (hr : c[o]? = some v := by exact rfl) : Val P n env σ ⟨some dst, .load T x, ty, pos, af, gd⟩ v := Val.load1 tb h1 hx hm hr
theorem V.ldA (tb : Tabs P) {T E : TypeId} {x : Operand} {b o k : Nat} {c c' : List Value} (h1 : lk1 tb.agg T = some k := by exact rfl) (hx : ev env x = some (Ptr b o) := by exact rfl) (hm : cells b E c ∈ σ := by (repeat first | exact List.Mem.head _ | apply List.Mem.tail)) (hl : Nat.ble (o + k) c.length = true := by exact rfl) (hs : SegOf o k c c' := by infer_instance) : Val P n env σ ⟨some dst, .load T x, ty, pos, af, gd⟩ (A c') := Val.loadA tb h1 hx hm hl hs
theorem V.bld (tb : Tabs P) {T : TypeId} {parts : List (Nat × Operand)} {vs : List (Nat × Value)} {c c' : List Value} (hok : bldOk P T = true := by kernel_rfl) (hz : lkZ tb.zeros T = some c := by exact rfl)
    (hx : HL.pevs env parts = some vs := by exact rfl) (hb : Built P T vs c c' := by (repeat first | exact Built.nil | (apply Built.oneT tb; exact rfl; exact rfl; exact rfl; exact rfl; exact rfl; infer_instance) | (apply Built.aggT tb; exact rfl; exact rfl; exact rfl; exact rfl; infer_instance))) : Val P n env σ ⟨some dst, .build T parts.toArray, ty, pos, af, gd⟩ (A c') := Val.build tb hok hz hx hb
theorem V.cat {t ty' : TypeId} {x y : Operand} {p q : List UInt8} (hx : ev env x = some (S p) := by exact rfl) (hy : ev env y = some (S q) := by exact rfl) (hb : (p.length : Int) + q.length ≤ 9223372036854775807 := by first | omega | (simp only [List.length_append, List.length_cons, List.length_nil]; omega) | with_reducible assumption) : Val P n env σ ⟨some dst, .binOp .add t x y ty', ty, pos, af, gd⟩ (S (p ++ q)) := Val.catS hx hy hb
theorem V.lenS (tb : Tabs P) {t u : TypeId} {x : Operand} {p : List UInt8} (hx : ev env x = some (S p) := by exact rfl) (ht : lk1 tb.strs t = some u := by exact rfl) : Val P n env σ ⟨some dst, .call ⟨.builtin .len, #[x], #[t]⟩, ty, pos, af, gd⟩ (I (p.length : Int)) := Val.lenS tb hx ht
theorem V.lenL (tb : Tabs P) {t e : TypeId} {x : Operand} {a : Option Addr} {len cap : Nat} (hx : ev env x = some (.slice a len cap) := by exact rfl) (ht : lk1 tb.slc t = some e := by exact rfl) : Val P n env σ ⟨some dst, .call ⟨.builtin .len, #[x], #[t]⟩, ty, pos, af, gd⟩ (I (len : Int)) := Val.lenLT tb hx ht
theorem V.lenR (tb : Tabs P) {t e E : TypeId} {x : Operand} {v : Value} {sz k : Nat} {xs : List Value} (hx : ev env x = some v := by exact rfl) (hm : row v E sz k xs ∈ σ := by (repeat first | exact List.Mem.head _ | apply List.Mem.tail)) (ht : lk1 tb.slc t = some e := by exact rfl) : Val P n env σ ⟨some dst, .call ⟨.builtin .len, #[x], #[t]⟩, ty, pos, af, gd⟩ (I (k : Int)) := Val.lenR hx hm (tb.slcAt ht)
theorem V.max {ats : Array TypeId} {x y : Operand} {p q : Int} (hx : ev env x = some (I p) := by exact rfl) (hy : ev env y = some (I q) := by exact rfl) : Val P n env σ ⟨some dst, .call ⟨.builtin .max, #[x, y], ats⟩, ty, pos, af, gd⟩ (I (Max.max p q)) := Val.max hx hy
theorem V.min {ats : Array TypeId} {x y : Operand} {p q : Int} (hx : ev env x = some (I p) := by exact rfl) (hy : ev env y = some (I q) := by exact rfl) : Val P n env σ ⟨some dst, .call ⟨.builtin .min, #[x, y], ats⟩, ty, pos, af, gd⟩ (I (Min.min p q)) := Val.min hx hy
theorem V.ixS (tb : Tabs P) {t u : TypeId} {x y : Operand} {p : List UInt8} {k : IntKind} {i : Int} {b : UInt8} (hx : ev env x = some (S p)) (hy : ev env y = some (.int k i)) (h0 : 0 ≤ i) (hb : p[i.toNat]? = some b) (ht : lk1 tb.strs t = some u := by exact rfl) : Val P n env σ ⟨some dst, .index t x y, ty, pos, af, gd⟩ (.int .u8 (b.toNat : Int)) := Val.indexS tb hx hy ht h0 hb
/-- The same, the index a natural number's. -/
theorem V.ixN (tb : Tabs P) {t u : TypeId} {x y : Operand} {p : List UInt8} {k : IntKind} {i : Nat} {b : UInt8} (hx : ev env x = some (S p)) (hy : ev env y = some (.int k (i : Int))) (hb : p[i]? = some b) (ht : lk1 tb.strs t = some u := by exact rfl) : Val P n env σ ⟨some dst, .index t x y, ty, pos, af, gd⟩ (.int .u8 (b.toNat : Int)) := Val.indexS tb hx hy ht (by omega) (by simpa using hb)
theorem V.slLo (tb : Tabs P) {t u : TypeId} {x lo : Operand} {p : List UInt8} {k : IntKind} {i : Int} (hx : ev env x = some (S p) := by exact rfl) (hl : ev env lo = some (.int k i) := by exact rfl) (ht : lk1 tb.strs t = some u := by exact rfl) (h0 : 0 ≤ i := by first | omega | (dsimp only; omega)) (h1 : i ≤ p.length := by first | omega | (dsimp only; omega)) : Val P n env σ ⟨some dst, .slice t x (some lo) none none, ty, pos, af, gd⟩ (S (p.drop i.toNat)) := Val.sliceLo tb hx hl ht h0 h1
theorem V.slHi (tb : Tabs P) {t u : TypeId} {x hi : Operand} {p : List UInt8} {k : IntKind} {i : Int} (hx : ev env x = some (S p) := by exact rfl) (hl : ev env hi = some (.int k i) := by exact rfl) (ht : lk1 tb.strs t = some u := by exact rfl) (h0 : 0 ≤ i := by first | omega | (dsimp only; omega)) (h1 : i ≤ p.length := by first | omega | (dsimp only; omega)) : Val P n env σ ⟨some dst, .slice t x none (some hi) none, ty, pos, af, gd⟩ (S (p.take i.toNat)) := Val.sliceHi tb hx hl ht h0 h1
theorem V.slLH (tb : Tabs P) {t u : TypeId} {x lo hi : Operand} {p : List UInt8} {k k' : IntKind} {i j : Int} (hx : ev env x = some (S p) := by exact rfl) (hl : ev env lo = some (.int k i) := by exact rfl) (hh : ev env hi = some (.int k' j) := by exact rfl) (ht : lk1 tb.strs t = some u := by exact rfl) (h0 : 0 ≤ i := by first | omega | (dsimp only; omega)) (h1 : i ≤ j := by first | omega | (dsimp only; omega)) (h2 : j ≤ p.length := by first | omega | (dsimp only; omega)) : Val P n env σ ⟨some dst, .slice t x (some lo) (some hi) none, ty, pos, af, gd⟩ (S ((p.drop i.toNat).take (j.toNat - i.toNat))) := Val.sliceLH tb hx hl hh ht h0 h1 h2
theorem V.ixR (tb : Tabs P) {t E : TypeId} {x y : Operand} {e : Ent} {ao : Option Addr} {len cap b off sz : Nat} {xs : List (List Value)} {k : Nat} (hx : ev env x = some (.slice ao len cap)) (hy : ev env y = some (I (k : Int))) (hR : Rd e ao len b off sz xs)
    (ht : lk1 tb.slc t = some E := by exact rfl) (hs : lk1 tb.szs E = some sz := by exact rfl) (hk : k < len := by omega) : Val P n env σ ⟨some dst, .indexAddr t x y, ty, pos, af, gd⟩ (Ptr b (off + k * sz)) := Val.indexRT tb hx hy hR ht hs hk
theorem V.ldRA (tb : Tabs P) {T : TypeId} {x : Operand} {e : Ent} {ao : Option Addr} {len b off sz k : Nat} {xs : List (List Value)} {c : List Value} (hx : ev env x = some (Ptr b (off + k * sz))) (hR : Rd e ao len b off sz xs) (hk : xs[k]? = some c) (h1 : lk1 tb.agg T = some sz := by exact rfl)
    (hm : e ∈ σ := by (repeat first | exact List.Mem.head _ | apply List.Mem.tail)) : Val P n env σ ⟨some dst, .load T x, ty, pos, af, gd⟩ (A c) := Val.loadRA tb h1 hx hR hm hk
theorem V.ldR1 (tb : Tabs P) {T u : TypeId} {x : Operand} {e : Ent} {ao : Option Addr} {len b off k : Nat} {xs : List (List Value)} {v : Value} (hx : ev env x = some (Ptr b (off + k * 1))) (hR : Rd e ao len b off 1 xs) (hk : xs[k]? = some [v]) (h1 : lk1 tb.one T = some u := by exact rfl)
    (hm : e ∈ σ := by (repeat first | exact List.Mem.head _ | apply List.Mem.tail)) : Val P n env σ ⟨some dst, .load T x, ty, pos, af, gd⟩ v := Val.loadR1 tb h1 hx hR hm hk

/-! ### Nil tests -/
theorem EqT.ptrNil {d : Nat} {T e : TypeId} {b o : Nat} (h : P.underlying T = some (.pointer e)) : EqT P (d + 1) T (Ptr b o) (.pointer none) false := fun w => by
  simp [Op.equalIn, Sem.run_bind, run_underlying h]
theorem EqT.nilNil {d : Nat} {T e : TypeId} (h : P.underlying T = some (.pointer e)) : EqT P (d + 1) T (.pointer none) (.pointer none) true := fun w => by
  simp [Op.equalIn, Sem.run_bind, run_underlying h]
def ptrB (P : Program) (t : TypeId) : Bool := match P.underlying t with | some (.pointer _) => true | _ => false
theorem ptrB_spec {t : TypeId} (h : ptrB P t = true) : ∃ e, P.underlying t = some (.pointer e) := by
  unfold ptrB at h
  split at h
  · exact ⟨_, by assumption⟩
  · cases h
theorem V.eqP {t ty' : TypeId} {x y : Operand} {b o : Nat} (hx : ev env x = some (Ptr b o) := by exact rfl) (hy : ev env y = some (.pointer none) := by exact rfl) (ht : ptrB P t = true := by kernel_rfl) : Val P n env σ ⟨some dst, .binOp .eql t x y ty', ty, pos, af, gd⟩ (.bool false) := by
  obtain ⟨e, he⟩ := ptrB_spec ht
  exact Val.eql hx hy rfl rfl (EqT.ptrNil (d := 9999) he)
theorem V.neP {t ty' : TypeId} {x y : Operand} {b o : Nat} (hx : ev env x = some (Ptr b o) := by exact rfl) (hy : ev env y = some (.pointer none) := by exact rfl) (ht : ptrB P t = true := by kernel_rfl) : Val P n env σ ⟨some dst, .binOp .neq t x y ty', ty, pos, af, gd⟩ (.bool true) := by
  obtain ⟨e, he⟩ := ptrB_spec ht
  exact Val.neq hx hy rfl rfl (EqT.ptrNil (d := 9999) he)
theorem V.eqN {t ty' : TypeId} {x y : Operand} (hx : ev env x = some (.pointer none) := by exact rfl) (hy : ev env y = some (.pointer none) := by exact rfl) (ht : ptrB P t = true := by kernel_rfl) : Val P n env σ ⟨some dst, .binOp .eql t x y ty', ty, pos, af, gd⟩ (.bool true) := by
  obtain ⟨e, he⟩ := ptrB_spec ht
  exact Val.eql hx hy rfl rfl (EqT.nilNil (d := 9999) he)
theorem V.neN {t ty' : TypeId} {x y : Operand} (hx : ev env x = some (.pointer none) := by exact rfl) (hy : ev env y = some (.pointer none) := by exact rfl) (ht : ptrB P t = true := by kernel_rfl) : Val P n env σ ⟨some dst, .binOp .neq t x y ty', ty, pos, af, gd⟩ (.bool false) := by
  obtain ⟨e, he⟩ := ptrB_spec ht
  exact Val.neq hx hy rfl rfl (EqT.nilNil (d := 9999) he)

/-! ### Steps that turn memory -/
theorem cells1 {v : Value} (h : v.oneCell' = true) : v.cells.toList = [v] := by cases v <;> first | rfl | (cases h; done)
theorem O.st1 (tb : Tabs P) {T E : TypeId} {x y : Operand} {b o u : Nat} {c c' : List Value} {v : Value} (hC : C env σ') (h1 : lk1 tb.one T = some u := by exact rfl)
    (hx : ev env x = some (Ptr b o) := by exact rfl) (hy : ev env y = some v := by exact rfl) (hv : v.oneCell' = true := by first | exact rfl | with_reducible assumption) (hm : Upd σ (cells b E c) (cells b E c') σ' := by (repeat first | exact Upd.here _ _ _ | apply Upd.there))
    (hl : Nat.blt o c.length = true := by exact rfl) (hs : SplOf o [v] c c' := by infer_instance) : Op1 P r W D n ⟨none, .store T x y, ty, pos, af, gd⟩ env σ C := Op1.store1 tb h1 hx hy hv hm hl hs hC
theorem O.stA (tb : Tabs P) {T E : TypeId} {x y : Operand} {b o k : Nat} {c c' u : List Value} (hC : C env σ') (h1 : lk1 tb.agg T = some k := by exact rfl)
    (hx : ev env x = some (Ptr b o) := by exact rfl) (hy : ev env y = some (A u) := by exact rfl) (hk : u.length = k := by exact rfl) (hv : u.all (·.oneCell') = true := by exact rfl) (hm : Upd σ (cells b E c) (cells b E c') σ' := by (repeat first | exact Upd.here _ _ _ | apply Upd.there))
    (hl : Nat.ble (o + k) c.length = true := by exact rfl) (hs : SplOf o u c c' := by infer_instance) : Op1 P r W D n ⟨none, .store T x y, ty, pos, af, gd⟩ env σ C := Op1.storeA tb h1 hx hy hk hv hm hl hs hC
theorem O.bxA {T : TypeId} {x : Operand} {c : List Value} (hC : ∀ b, C ((dst, Ptr b 0) :: env) (cells b T c :: σ)) (hd : Nat.blt dst n.n = true := by exact rfl) (hx : ev env x = some (A c) := by exact rfl) : Op1 P r W D n ⟨some dst, .box T x, ty, pos, af, gd⟩ env σ C := Op1.boxA hd hx hC
theorem O.bx1 {T : TypeId} {x : Operand} {v : Value} (hC : ∀ b, C ((dst, Ptr b 0) :: env) (cells b T [v] :: σ)) (hd : Nat.blt dst n.n = true := by exact rfl) (hx : ev env x = some v := by exact rfl) (hv : v.cells.toList = [v] := by first | exact rfl | exact cells1 (by assumption)) : Op1 P r W D n ⟨some dst, .box T x, ty, pos, af, gd⟩ env σ C := Op1.box1 hd hx hv hC
theorem O.al (tb : Tabs P) {T : TypeId} {c : List Value} (hC : ∀ b, C ((dst, Ptr b 0) :: env) (cells b T c :: σ)) (hd : Nat.blt dst n.n = true := by exact rfl) (hz : lkZ tb.zeros T = some c := by exact rfl) : Op1 P r W D n ⟨some dst, .alloc T, ty, pos, af, gd⟩ env σ C := Op1.allocT tb hd hz hC
theorem O.lit (tb : Tabs P) {t E : TypeId} {len sz : Nat} {parts : List (Nat × Operand)} {vs : List (Nat × Value)} {zc cs : List Value}
    (hC : ∀ b, C ((dst, .slice (some ⟨b, 0, none⟩) len len) :: env) (row (.slice (some ⟨b, 0, none⟩) len len) E sz len cs :: σ))
    (hd : Nat.blt dst n.n = true := by exact rfl) (ht : lk1 tb.slc t = some E := by exact rfl) (hs : lk1 tb.szs E = some sz := by exact rfl) (hz : lkZ tb.zeros E = some zc := by exact rfl)
    (hx : HL.pevs env parts = some vs := by exact rfl) (hp : PartsFrom sz 0 vs cs := by (repeat first | exact PartsFrom.nil | (exact PartsFrom.last rfl) | (apply PartsFrom.agg; exact rfl) | (apply PartsFrom.one; exact rfl))) (hl : vs.length = len := by exact rfl) (hb : Nat.ble (len * sz) 1000 = true := by exact rfl) (hpos : Nat.ble 1 sz = true := by exact rfl) :
    Op1 P r W D n ⟨some dst, .buildSlice t len parts.toArray, ty, pos, af, gd⟩ env σ C := Op1.litT tb hd ht hs hz hx hp hl hb hpos hC
theorem Op1.vv {op : Op} {v : Value} (h : Val P n env σ ⟨some dst, op, ty, pos, af, gd⟩ v) (hC : C ((dst, v) :: env) σ) (hnd : notDefer op = true := by exact rfl) (hd : Nat.blt dst n.n = true := by exact rfl) :
    Op1 P r W D n ⟨some dst, op, ty, pos, af, gd⟩ env σ C := Op1.ofVal hnd hd h hC

/-! ### Drawn regions -/
variable {M : Act → World → Prop} {σS σT : List Ent} {tl : List Nat} {fuel : Nat} {listed : Array Bool} {lv : Bool} {op : Op}
theorem WpA.t {v : Value} (i : Nat) (hi : ops[i]? = some ⟨some dst, op, ty, pos, af, gd⟩) (hy : Val P n env σS ⟨some dst, op, ty, pos, af, gd⟩ v) (h : WpA P r W D n ops M σS σT tl true fuel (listed.setIfInBounds i true) ((dst, v) :: env) σ)
     (hb : takeOk ops tl listed i = true := by kernel_rfl)
    (hg : guardIs env ops gd = some true := by exact rfl) (hnd : notDefer op = true := by exact rfl) (hd : Nat.blt dst n.n = true := by exact rfl) : WpA P r W D n ops M σS σT tl true (fuel + 1) listed env σ := WpA.take i hi hb hg hnd hd hy h
theorem WpA.tF {v : Value} (i : Nat) (hi : ops[i]? = some ⟨some dst, op, ty, pos, af, gd⟩) (hy : Val P n env σT ⟨some dst, op, ty, pos, af, gd⟩ v) (h : WpA P r W D n ops M σS σT tl lv fuel (listed.setIfInBounds i true) ((dst, v) :: env) σ)
     (hb : takeOkF ops listed i = true := by kernel_rfl)
    (hg : guardIs env ops gd = some true := by exact rfl) (hnd : notDefer op = true := by exact rfl) (hd : Nat.blt dst n.n = true := by exact rfl) : WpA P r W D n ops M σS σT tl lv (fuel + 1) listed env σ := WpA.takeF i hi hb hg hnd hd hy h
theorem WpA.s (i : Nat) (hi : ops[i]? = some ⟨some dst, op, ty, pos, af, gd⟩) (h : WpA P r W D n ops M σS σT tl true fuel (listed.setIfInBounds i true) ((dst, undef) :: env) σ)  (hb : takeOk ops tl listed i = true := by kernel_rfl)
    (hg : guardIs env ops gd = some false := by exact rfl) (hd : Nat.blt dst n.n = true := by exact rfl) : WpA P r W D n ops M σS σT tl true (fuel + 1) listed env σ := WpA.skip i hi hb hg hd h
theorem WpA.oS {o : Oper} (i : Nat) (hi : ops[i]? = some o) (h : Op1 P r W D n o env σ (fun env' σ' => (∀ w, H W D σ' w → Hold σS w) ∧ (∀ w, H W D σ' w → Hold σT w) ∧ WpA P r W D n ops M σS σT tl true fuel (listed.setIfInBounds i true) env' σ'))
     (hb : oneReady .any ops listed i = true := by kernel_rfl) (hg : guardIs env ops o.guard = some true := by exact rfl) :
    WpA P r W D n ops M σS σT tl lv (fuel + 1) listed env σ := WpA.only i hi hb hg h
theorem WpA.l {o : Oper} (i : Nat) (hi : ops[i]? = some o) (h : Op1 P r W D n o env σ (fun env' σ' => (∀ w, H W D σ' w → Hold σT w) ∧ WpA P r W D n ops M σS σT tl false fuel (listed.setIfInBounds i true) env' σ'))  (hb : (oneReady .any ops listed i && tl.contains i) = true := by kernel_rfl) (hg : guardIs env ops o.guard = some true := by exact rfl) :
    WpA P r W D n ops M σS σT tl lv (fuel + 1) listed env σ := WpA.last i hi hb hg h
theorem WpA.lS (i : Nat) (hi : ops[i]? = some ⟨some dst, op, ty, pos, af, gd⟩) (h : WpA P r W D n ops M σS σT tl false fuel (listed.setIfInBounds i true) ((dst, undef) :: env) σ)  (hb : (oneReady .any ops listed i && tl.contains i) = true := by kernel_rfl) (hg : guardIs env ops gd = some false := by exact rfl) (hd : Nat.blt dst n.n = true := by exact rfl) :
    WpA P r W D n ops M σS σT tl lv (fuel + 1) listed env σ := WpA.lastSkip i hi hb hg hd h
theorem WpA.ou {e : Exit} (h : Out W D n Q e env σ) {fuel : Nat} (hb : (Region.ready .any ops listed).isEmpty = true := by kernel_rfl) : WpA P r W D n ops (Q e) σS σT tl lv fuel listed env σ := WpA.out hb h
theorem WpA.pt {b : Bool} (d : Nat) (ht : b = true → WpA P r W D n ops M σS σT tl lv fuel listed ((d, .bool true) :: env) σ) (hf : b = false → WpA P r W D n ops M σS σT tl lv fuel listed ((d, .bool false) :: env) σ) (hv : lk env d = some (.bool b) := by exact rfl) :
    WpA P r W D n ops M σS σT tl lv fuel listed env σ := WpA.part hv ht hf
inductive SubM (σ : List Ent) : List Ent → Prop
  | nil : SubM σ []
  | cons {e : Ent} {τ : List Ent} (h : e ∈ σ) (k : SubM σ τ) : SubM σ (e :: τ)
theorem SubM.mem {τ : List Ent} (h : SubM σ τ) : ∀ e, e ∈ τ → e ∈ σ := by
  induction h with
  | nil => intro e he; cases he
  | cons h _ ih => intro e he; rcases List.mem_cons.1 he with rfl | he <;> first | exact h | exact ih _ he
theorem holdT (hk : SubM σ σS := by (repeat (first | exact SubM.nil | refine SubM.cons (by (repeat first | exact List.Mem.head _ | apply List.Mem.tail)) ?_))) : ∀ w, H W D σ w → Hold σS w := fun _ hw e he => hw.ents e (hk.mem e he)
end
end Go.HL
namespace Go.HL
open Go
section
variable {P : Program} {r : Option Nat} {W : World} {D : List Nat} {n : Fm} {Q : Post} {env env' : Env} {σ σ' : List Ent}
theorem Wp.dG {id : Nat} {l : List Oper} {σS σT : List Ent} (tl : List Nat) (h : WpA P r W D n l.toArray (Q .normal) σS σT tl true l.length (Array.replicate l.length false) env σ) (hk : σS.Sublist σ) (ht : σT.Sublist σ) (hm : P.follows .mixedOrders = true := by kernel_rfl) : Wp P r W D n Q (.region id l.toArray true) env σ :=
  Wp.draw σS σT tl hm (fun _ hw => (hw.sub hk).hold) (fun _ hw => (hw.sub ht).hold) h
theorem incat {C : List Ent → Prop} {σ τ ρ : List Ent} (h : C ρ) (hc : Cat σ τ ρ := by (repeat (first | exact Cat.nil | apply Cat.cons))) : ∃ σ'', Cat σ τ σ'' ∧ C σ'' := ⟨_, hc, h⟩
end
end Go.HL
/-
  Rows that grow: append, of whatever is appended; facts that the entries tell.
-/
namespace Go.HL
open Go
section
variable {P : Program} {w : World}
theorem run_append_src (t tx ty e : TypeId) (i : TypeInfo) (z : Value) (size bytes : Nat) (ht : P.underlying t = some (.slice e)) (hi : P.info? e = some i) (hz : i.zero = some z)
    (hsize : i.size = size) (hby : i.bytes = bytes) (hzs : z.cells.size = size) (hsz : 0 < size)
    (v : Value) (n : Nat) (xs : List Value) (hown : w.ownsRow 0 e size v n xs) (x : Value) (m : Nat) (news : List Value) (hs : Src P size tx x m news w)
    (h63 : n + m ≤ maxLen) (hbytes : (n + m) * bytes ≤ 140737488355328) :
    ∃ v' w', (Builtin.append_ #[t, tx] ty #[v, x]).run P w = .ok v' w' ∧ w'.ownsRow 0 e size v' (n + m) (xs ++ news) ∧ w.grownBy w' v.ownBlock ∧
      (v' = .slice none 0 0 ↔ v = .slice none 0 0 ∧ m = 0) ∧ (v'.ownBlock = v.ownBlock ∨ v'.ownBlock = some w.heap.size) := by
  subst hsize
  subst hby
  have hl := hs.newsLen
  have hsmall : n + m ≤ 9223372036854775807 := by simp only [maxLen] at h63; omega
  have hlen : (xs ++ news).length = (n + m) * i.size := by rw [List.length_append, hown.1, hl, Nat.add_mul]
  have grown : ∀ (old : Nat), old < n + m → ∀ (row : Option Nat),
      (w.drew.alloc (.cells ((xs ++ news).toArray ++ Builtin.zeroCells z.cells (grownCap w (n + m) old e - (n + m))) e)).ownsRow 0 e i.size
        (.slice (some ⟨w.heap.size, 0, none⟩) (n + m) (grownCap w (n + m) old e)) (n + m) (xs ++ news) ∧
      w.grownBy (w.drew.alloc (.cells ((xs ++ news).toArray ++ Builtin.zeroCells z.cells (grownCap w (n + m) old e - (n + m))) e)) row := by
    intro old ho row
    have hge := grownCap_ge w (n + m) old e
    have hcm : grownCap w (n + m) old e ≤ maxLen := grownCap_le_maxLen w (n + m) old e h63
    refine ⟨⟨hlen, .inr ⟨w.heap.size, _, _, rfl, Nat.zero_le _, heap_alloc_new w.drew _, hge, hcm, ?_, ?_⟩⟩, ⟨rfl, rfl, rfl, by simp, fun k hk _ => heap_alloc_old w.drew _ hk⟩⟩
    · simp only [Array.size_append, List.size_toArray, size_zeroCells, hzs, hlen, ← Nat.add_mul]
      congr 1
      omega
    · simp only [Array.toList_append]
      rw [← hlen]
      exact List.take_left
  rcases hown.2 with ⟨rfl, rfl⟩ | ⟨g, cap, cur, rfl, hbg, hg, hnc, hcm, hcs, htake⟩
  · have hx : xs = [] := List.eq_nil_of_length_eq_zero (by simpa using hown.1)
    subst hx
    by_cases hm : m = 0
    · subst hm
      have hn : news = [] := List.eq_nil_of_length_eq_zero (by simpa using hl)
      subst hn
      refine ⟨.slice none 0 0, w, ?_, World.ownsRow_nil w 0 e i.size, ⟨rfl, rfl, rfl, Nat.le_refl _, fun _ _ _ => rfl⟩, by simp, .inl rfl⟩
      have hc := hs.cells
      rcases hs.kind with ⟨e', hk⟩ | hk <;> simp [Builtin.append_, run_underlying ht, run_underlying hk, sizeOf, typeInfo, hi, hs.len, hc]
    · have hr := run_append_grow_src (P := P) w t tx ty e i z ht hi hz none 0 0 [] (run_firstCells_none w.drew i.size 0 0 0) x m news hs (by omega) (by omega) (growslice_fits (by omega) (by simpa using hbytes))
      have hgr := grown 0 (by omega) (Value.ownBlock (.slice none 0 0))
      simp only [Nat.zero_add, List.nil_append] at hgr hr ⊢
      exact ⟨_, _, hr, hgr.1, hgr.2, by simp [hm], .inr rfl⟩
  · by_cases hroom : n + m ≤ cap
    · have hfit : n * i.size + news.length ≤ cur.size := by rw [hl, hcs, ← Nat.add_mul]; exact Nat.mul_le_mul_right _ hroom
      have hst := run_storeCells_at P g (n * i.size) e news 0 cur w hg (by simpa using hfit) hs.one
      simp only [Nat.add_zero] at hst
      have hr : (Builtin.append_ #[t, tx] ty #[.slice (some ⟨g, 0, none⟩) n cap, x]).run P w =
          .ok (.slice (some ⟨g, 0, none⟩) (n + m) cap) (w.setRow g (cur.toList.take (n * i.size) ++ news ++ cur.toList.drop (n * i.size + news.length)).toArray) := by
        rcases hs.kind with ⟨e', hk⟩ | hk <;> simp [Builtin.append_, run_underlying ht, run_underlying hk, sizeOf, typeInfo, hi, hs.len, hroom, hs.cells, Addr.add_lit, hst]
      refine ⟨_, _, hr, ⟨hlen, .inr ⟨g, cap, _, rfl, hbg, setRow_heap w g cur _ e _ hg, hroom, hcm, ?_, ?_⟩⟩, ⟨rfl, rfl, rfl, by simp, fun k _ hk => setRow_other w g k _ (fun e => hk (by simp [Value.ownBlock, e]))⟩, by simp, .inl rfl⟩
      · simp only [List.size_toArray, List.length_append, List.length_take, List.length_drop, Array.length_toList]
        omega
      · rw [htake, ← hlen]
        exact List.take_left
    · have holds : ∀ j u, xs[j]? = some u → w.cell? ((⟨g, 0, none⟩ : Addr).add j) = some u := hown.cells (g := g) rfl
      have hr := run_append_grow_src (P := P) w t tx ty e i z ht hi hz (some ⟨g, 0, none⟩) n cap xs (run_firstCells_some w.drew i.size n _ n cap xs hown.1 (by simpa using holds)) x m news hs (by omega) (by omega) (growslice_fits (by omega) hbytes)
      have hgr := grown cap (by omega) (Value.ownBlock (.slice (some ⟨g, 0, none⟩) n cap))
      exact ⟨_, _, hr, hgr.1, hgr.2, by simp, .inr rfl⟩
end

section
variable {P : Program} {r : Option Nat} {W : World} {D : List Nat} {n : Fm} {Q : Post} {env env' : Env} {σ σ' : List Ent} {ops : Array Oper} {rest : List Oper}
variable {dst : Nat} {op : Op} {ty : TypeId} {pos : String} {af : Array Edge} {gd : Option (Nat × Bool)} {C : Env → List Ent → Prop}
/-- What is appended, told by the entries. -/
def SrcE (P : Program) (σ : List Ent) (sz : Nat) (tx : TypeId) (x : Value) (m : Nat) (news : List Value) : Prop := ∀ w, Hold σ w → Src P sz tx x m news w
theorem SrcE.row (tb : Tabs P) {E tx e' sz m : Nat} {x : Value} {news : List Value} (hm : row x E sz m news ∈ σ) (ht : lk1 tb.slc tx = some e') (h1 : news.all (·.oneCell') = true) : SrcE P σ sz tx x m news := fun w hw => by
  have h := hw _ hm
  rw [row_holds] at h
  have h1' : ∀ u ∈ news, u.oneCell' = true := List.all_eq_true.1 h1
  rcases h.2 with ⟨rfl, rfl⟩ | ⟨g, cap, cur, rfl, _⟩
  · have hx : news = [] := List.eq_nil_of_length_eq_zero (by simpa using h.1)
    subst hx
    exact Src.ofNil w (sliceTB_spec (tb.slcAt ht)) 0
  · exact Src.ofSlice w (sliceTB_spec (tb.slcAt ht)) _ _ _ _ h.1 (h.cells (g := g) rfl) h1'
theorem SrcE.str (tb : Tabs P) {tx u : Nat} {l : List UInt8} (ht : lk1 tb.strs tx = some u) : SrcE P σ 1 tx (S l) l.length (l.map fun b => .int .u8 (b.toNat : Int)) := fun w _ => by
  have := Src.ofString (P := P) w (tb.strAt ht) ⟨l.toArray⟩
  simpa [byteCells, size_mk] using this
theorem SrcE.nil (tb : Tabs P) {tx e' sz : Nat} (ht : lk1 tb.slc tx = some e') : SrcE P σ sz tx (.slice none 0 0) 0 [] := fun w _ => Src.ofNil w (sliceTB_spec (tb.slcAt ht)) 0
theorem flat_get {sz : Nat} {xs : List (List Value)} (hl : ∀ x, x ∈ xs → x.length = sz) {j : Nat} {u : Value} (h : xs.flatten[j]? = some u) : ∃ i x k, xs[i]? = some x ∧ x[k]? = some u ∧ j = i * sz + k := by
  induction xs generalizing j with
  | nil => simp at h
  | cons y ys ih =>
    rw [List.flatten_cons] at h
    rcases Nat.lt_or_ge j y.length with hlt | hge
    · rw [List.getElem?_append_left hlt] at h
      exact ⟨0, y, j, rfl, h, by simp⟩
    · rw [List.getElem?_append_right hge] at h
      obtain ⟨i, x, k, h1, h2, h3⟩ := ih (fun x hx => hl x (by simp [hx])) h
      have hy := hl y (by simp)
      exact ⟨i + 1, x, k, by simpa using h1, h2, by rw [Nat.add_mul]; omega⟩
theorem SrcE.rd (tb : Tabs P) {e : Ent} {tx e' sz len cap b off : Nat} {ao : Option Addr} {xs : List (List Value)} (hR : Rd e ao len b off sz xs) (hm : e ∈ σ) (ht : lk1 tb.slc tx = some e') (h1 : xs.flatten.all (·.oneCell') = true) (hsz : ∀ x, x ∈ xs → x.length = sz) (hpos : 0 < len) : SrcE P σ sz tx (.slice ao len cap) len xs.flatten := fun w hw => by
  have ha := hR.addr hpos
  have hr := hR.reads w (hw _ hm)
  have hl : xs.flatten.length = len * sz := by
    rw [← hR.length]
    clear hr h1 hR
    induction xs with
    | nil => simp
    | cons y ys ih => rw [List.flatten_cons, List.length_append, hsz y (by simp), ih (fun x hx => hsz x (by simp [hx])), List.length_cons, Nat.add_mul]; omega
  subst ha
  refine Src.ofSlice w (sliceTB_spec (tb.slcAt ht)) _ _ _ _ hl (fun j u hu => ?_) (List.all_eq_true.1 h1)
  obtain ⟨i, x, k, h2, h3, rfl⟩ := flat_get hsz hu
  rw [cellAdd]
  have := (hr i x h2).2 k u h3
  rwa [Nat.add_assoc] at this

theorem H.append {E sz m k : Nat} {v v' : Value} {xs ys : List Value} {w w1 : World} (h : H W D σ w) (u : Upd σ (row v E sz k xs) (row v' E sz m ys) σ') (ho : w1.ownsRow 0 E sz v' m ys) (hg : w.grownBy w1 v.ownBlock) (hb : v'.ownBlock = v.ownBlock ∨ v'.ownBlock = some w.heap.size) : H W D σ' w1 := by
  refine h.upd u ⟨fun e he => ?_, ?_, fun x hx => ?_, fun b hlt hn => ?_, hg.size, hg.os, hg.tape, hg.output⟩
  · obtain rfl : e = _ := by simpa using he
    rw [row_holds]; exact ho
  · have : doms [row v' E sz m ys] = v'.ownBlock.toList := by simp [doms, row_dom]
    rw [this]; cases v'.ownBlock <;> simp
  · have hx' : v'.ownBlock = some x := by simpa [doms, row_dom] using hx
    rcases hb with hb | hb
    · left; rw [row_dom, ← hb, hx']; simp
    · right; rw [hb] at hx'; injection hx' with hx'; omega
  · refine hg.block b hlt fun e => hn ?_
    rw [row_dom, ← e]; simp

theorem Tabs.info (tb : Tabs P) {E sz bt : Nat} {zc : List Value} (hs : lk1 tb.szs E = some sz) (hb : lk1 tb.byt E = some bt) (hz : lkZ tb.zeros E = some zc) : ∃ i z, P.info? E = some i ∧ i.zero = some z ∧ i.size = sz ∧ i.bytes = bt ∧ z.cells.toList = zc := by
  have h1 := tb.szAt hs
  have h2 := tb.bytAt hb
  obtain ⟨z, h3, h4⟩ := tb.zeroAt hz
  obtain ⟨i, hi, hi'⟩ := Option.bind_eq_some_iff.1 h3
  rw [hi] at h1 h2
  exact ⟨i, z, hi, hi', by simpa using h1, by simpa using h2, h4⟩
/-- append, the new value a letter. -/
theorem O.apV (tb : Tabs P) {t tx E sz bt k m : Nat} {x y : Operand} {v u : Value} {xs news zc : List Value} {σ' : Value → List Ent} (hx : ev env x = some v) (hy : ev env y = some u) (hs : SrcE P σ sz tx u m news)
    (hC : ∀ v', v'.oneCell' = true → (v' = .slice none 0 0 ↔ v = .slice none 0 0 ∧ m = 0) → C ((dst, v') :: env) (σ' v'))
      (hm : ∀ v', Upd σ (row v E sz k xs) (row v' E sz (k + m) (xs ++ news)) (σ' v') := by (intro _; repeat first | exact Upd.here _ _ _ | apply Upd.there))
    (hd : Nat.blt dst n.n = true := by exact rfl) (ht : lk1 tb.slc t = some E := by exact rfl) (hsz : lk1 tb.szs E = some sz := by exact rfl) (hbt : lk1 tb.byt E = some bt := by exact rfl) (hz : lkZ tb.zeros E = some zc := by exact rfl)
    (hzl : zc.length = sz := by exact rfl) (hpos : Nat.blt 0 sz = true := by exact rfl) (h63 : k + m ≤ 9223372036854775807 := by omega) (hbb : (k + m) * bt ≤ 140737488355328 := by omega) :
    Op1 P r W D n ⟨some dst, .call ⟨.builtin .append, #[x, y], #[t, tx]⟩, ty, pos, af, gd⟩ env σ C := fun K Q hK a w hF hH => by
  obtain ⟨i, z, hi, hz', h1, h2, h3⟩ := tb.info hsz hbt hz
  obtain ⟨l, r', hl, _⟩ := (hm v).split
  have hown := hH.mem (e := row v E sz k xs) (by rw [hl]; simp)
  rw [row_holds] at hown
  have hpos' : 0 < sz := Nat.le_of_ble_eq_true hpos
  have hzc : z.cells.size = sz := by rw [← Array.length_toList, h3, hzl]
  obtain ⟨v', w1, hr, ho, hg, hn, hb⟩ := run_append_src (P := P) (w := w) t tx ty E i z sz bt (sliceTB_spec (tb.slcAt ht)) hi hz' h1 h2 hzc hpos' v k xs hown u m news (hs w hH.hold) (by simp only [maxLen]; omega) hbb
  have h1 : v'.oneCell' = true := by rcases ho.2 with ⟨rfl, _⟩ | ⟨g, cap, cur, rfl, _⟩ <;> rfl
  refine opW_value rfl ?_ (hK _ _ (hC v' h1 hn) _ _ (hF.put hd _) (hH.append (hm v') ho hg hb))
  simp [execOp, resolve, invoke, builtin, hF.eval hx, hF.eval hy, hr]
/-- append of something: the new value written out. -/
theorem O.ap (tb : Tabs P) {t tx E sz bt k m : Nat} {x y : Operand} {v u : Value} {xs news zc : List Value} {σ' : Value → List Ent} (hx : ev env x = some v) (hy : ev env y = some u) (hs : SrcE P σ sz tx u m news)
    (hC : ∀ g cap, C ((dst, .slice (some ⟨g, 0, none⟩) (k + m) cap) :: env) (σ' (.slice (some ⟨g, 0, none⟩) (k + m) cap))) (h0 : 0 < k + m := by omega)
      (hm : ∀ v', Upd σ (row v E sz k xs) (row v' E sz (k + m) (xs ++ news)) (σ' v') := by (intro _; repeat first | exact Upd.here _ _ _ | apply Upd.there))
    (hd : Nat.blt dst n.n = true := by exact rfl) (ht : lk1 tb.slc t = some E := by exact rfl) (hsz : lk1 tb.szs E = some sz := by exact rfl) (hbt : lk1 tb.byt E = some bt := by exact rfl) (hz : lkZ tb.zeros E = some zc := by exact rfl)
    (hzl : zc.length = sz := by exact rfl) (hpos : Nat.blt 0 sz = true := by exact rfl) (h63 : k + m ≤ 9223372036854775807 := by omega) (hbb : (k + m) * bt ≤ 140737488355328 := by omega) :
    Op1 P r W D n ⟨some dst, .call ⟨.builtin .append, #[x, y], #[t, tx]⟩, ty, pos, af, gd⟩ env σ C := fun K Q hK a w hF hH => by
  obtain ⟨i, z, hi, hz', h1, h2, h3⟩ := tb.info hsz hbt hz
  obtain ⟨l, r', hl, _⟩ := (hm v).split
  have hown := hH.mem (e := row v E sz k xs) (by rw [hl]; simp)
  rw [row_holds] at hown
  have hpos' : 0 < sz := Nat.le_of_ble_eq_true hpos
  have hzc : z.cells.size = sz := by rw [← Array.length_toList, h3, hzl]
  obtain ⟨v', w1, hr, ho, hg, hn, hb⟩ := run_append_src (P := P) (w := w) t tx ty E i z sz bt (sliceTB_spec (tb.slcAt ht)) hi hz' h1 h2 hzc hpos' v k xs hown u m news (hs w hH.hold) (by simp only [maxLen]; omega) hbb
  rcases ho.2 with ⟨_, he⟩ | ⟨g, cap, cur, rfl, _⟩
  · omega
  · refine opW_value rfl ?_ (hK _ _ (hC g cap) _ _ (hF.put hd _) (hH.append (hm _) ho hg hb))
    simp [execOp, resolve, invoke, builtin, hF.eval hx, hF.eval hy, hr]

/-! ### What the entries tell -/
theorem Wp.fact {c : Code} {p : Prop} (hp : ∀ w, H W D σ w → p) (h : p → Wp P r W D n Q c env σ) : Wp P r W D n Q c env σ := fun a w hF hH => h (hp w hH) a w hF hH
theorem WpL.fact {l : List Oper} {p : Prop} (hp : ∀ w, H W D σ w → p) (h : p → WpL P r W D n ops Q l env σ) : WpL P r W D n ops Q l env σ := fun a w hF hH => h (hp w hH) a w hF hH
theorem Out.fact {e : Exit} {p : Prop} (hp : ∀ w, H W D σ w → p) (h : p → Out W D n Q e env σ) : Out W D n Q e env σ := fun a w hF hH => h (hp w hH) a w hF hH
theorem rowLen {v : Value} {E sz k : Nat} {xs : List Value} (hm : row v E sz k xs ∈ σ) : ∀ w, H W D σ w → xs.length = k * sz := fun w hw => by
  have h := hw.mem hm
  rw [row_holds] at h
  exact h.1
theorem rowForm {v : Value} {E sz k : Nat} {xs : List Value} (hm : row v E sz k xs ∈ σ) : ∀ w, H W D σ w → (v = .slice none 0 0 ∧ k = 0 ∧ xs = []) ∨ ∃ g cap, v = .slice (some ⟨g, 0, none⟩) k cap ∧ k ≤ cap ∧ cap ≤ maxLen := fun w hw => by
  have h := hw.mem hm
  rw [row_holds] at h
  rcases h.2 with ⟨h1, h2⟩ | ⟨g, cap, cur, h1, _, _, h2, h3, _⟩
  · exact .inl ⟨h1, h2, List.eq_nil_of_length_eq_zero (by rw [h.1, h2]; simp)⟩
  · exact .inr ⟨g, cap, h1, h2, h3⟩
/-- A nil slice owns an empty row. -/
theorem H.rowNil {w : World} (E sz : Nat) (h : H W D σ w) : H W D (row (.slice none 0 0) E sz 0 [] :: σ) w := by
  have : H w [] [row (.slice none 0 0) E sz 0 []] w := by
    refine ⟨fun e he => ?_, by simp [doms, row_dom, Value.ownBlock], fun b hb => (by simp [doms, row_dom, Value.ownBlock] at hb), fun b _ _ => rfl, Nat.le_refl _, rfl, rfl, rfl⟩
    obtain rfl : e = _ := by simpa using he
    rw [row_holds]
    exact World.ownsRow_nil w 0 E sz
  exact h.new this
theorem Wp.nilRow {c : Code} (E sz : Nat) (h : Wp P r W D n Q c env (row (.slice none 0 0) E sz 0 [] :: σ)) : Wp P r W D n Q c env σ := fun a w hF hH => h a w hF (hH.rowNil E sz)
theorem WpL.nilRow {l : List Oper} (E sz : Nat) (h : WpL P r W D n ops Q l env (row (.slice none 0 0) E sz 0 [] :: σ)) : WpL P r W D n ops Q l env σ := fun a w hF hH => h a w hF (hH.rowNil E sz)
theorem Out.nilRow {e : Exit} (E sz : Nat) (h : Out W D n Q e env (row (.slice none 0 0) E sz 0 [] :: σ)) : Out W D n Q e env σ := fun a w hF hH => h a w hF (hH.rowNil E sz)

/-! ### Rows read -/
theorem V.ix (tb : Tabs P) {t E sz b o len cap : Nat} {x y : Operand} {k : IntKind} {i : Int} (hx : ev env x = some (.slice (some ⟨b, o, none⟩) len cap) := by exact rfl) (hy : ev env y = some (.int k i) := by exact rfl)
    (ht : lk1 tb.slc t = some E := by exact rfl) (hs : lk1 tb.szs E = some sz := by exact rfl) (h0 : 0 ≤ i ∧ i < (len : Int) := by omega) : Val P n env σ ⟨some dst, .indexAddr t x y, ty, pos, af, gd⟩ (Ptr b (o + i.toNat * sz)) := fun a w hF _ => by
  have ht' := sliceTB_spec (tb.slcAt ht)
  have he : P.elem t = E := by simp [Program.elem, ht']
  simp only [execOp, hF.eval hx, hF.eval hy]
  simp [Instr.indexAt, Sem.run_bind, asIntOf, run_underlying ht', h0, run_sizeOf (tb.szAt hs), cellAdd]
theorem V.ixk (tb : Tabs P) {t E sz b o len cap k : Nat} {x y : Operand} (hx : ev env x = some (.slice (some ⟨b, o, none⟩) len cap)) (hy : ev env y = some (I (k : Int)))
    (ht : lk1 tb.slc t = some E := by exact rfl) (hs : lk1 tb.szs E = some sz := by exact rfl) (h0 : k < len := by omega) : Val P n env σ ⟨some dst, .indexAddr t x y, ty, pos, af, gd⟩ (Ptr b (o + k * sz)) := by
  have := V.ix (n := n) (env := env) (σ := σ) (dst := dst) (ty := ty) (pos := pos) (af := af) (gd := gd) tb (t := t) hx hy ht hs (by omega)
  simpa using this
theorem Val.ldRow (tb : Tabs P) {T E sz b k : Nat} {len cap : Nat} {x : Operand} {c xs : List Value} (h1 : lk1 tb.agg T = some sz) (hx : ev env x = some (Ptr b (0 + k * sz))) (hm : row (.slice (some ⟨b, 0, none⟩) len cap) E sz len xs ∈ σ) (hl : c.length = sz) (hc : seg (k * sz) sz xs = c) : Val P n env σ ⟨some dst, .load T x, ty, pos, af, gd⟩ (A c) := fun a w hF hH => by
  obtain ⟨d, hu, hd, hi⟩ := aggB_spec (tb.aggAt h1)
  have hown := hH _ hm
  rw [row_holds] at hown
  simp only [execOp, hF.eval hx, Instr.loadAt, Instr.sureAddr, Sem.run_bind, Sem.run_pure, Result.andThen_ok]
  rw [run_loadVar_mid w b (0 + k * sz) T c d (fun j v hv => ?_) hu hd (by rw [hi, hl])]
  · rfl
  · have := hown.cells (g := b) rfl (k * sz + j) v (by
      rw [← hc] at hv
      simp only [seg, List.getElem?_take, List.getElem?_drop] at hv
      split at hv
      · exact hv
      · cases hv)
    rw [cellAdd] at this
    simpa [Nat.add_assoc] using this
theorem Val.ldRow1 (tb : Tabs P) {T u E b k : Nat} {len cap : Nat} {x : Operand} {v : Value} {xs : List Value} (h1 : lk1 tb.one T = some u) (hx : ev env x = some (Ptr b (0 + k * 1))) (hm : row (.slice (some ⟨b, 0, none⟩) len cap) E 1 len xs ∈ σ) (hc : xs[k]? = some v) : Val P n env σ ⟨some dst, .load T x, ty, pos, af, gd⟩ v := fun a w hF hH => by
  have hown := hH _ hm
  rw [row_holds] at hown
  simp only [execOp, hF.eval hx, Instr.loadAt, Instr.sureAddr, Sem.run_bind, Sem.run_pure, Result.andThen_ok]
  have := hown.cells (g := b) rfl k v hc
  rw [cellAdd] at this
  rw [run_loadVar_one (tb.oneAt h1) (by simpa using this)]
  rfl
/-- A string out of bytes. -/
theorem run_bytesToString {w : World} {E k : Nat} {v : Value} {l : List UInt8} (h : w.ownsRow 0 E 1 v k (l.map fun b => .int .u8 (b.toNat : Int))) : (Conv.bytesToString v).run P w = .ok (S l) w := by
  have hlen : l.length = k := by simpa using h.1
  rcases h.2 with ⟨rfl, rfl⟩ | ⟨g, cap, cur, rfl, _⟩
  · have : l = [] := List.eq_nil_of_length_eq_zero hlen
    subst this; rfl
  · have hc := h.cells (g := g) rfl
    have hld : (loadCells ⟨g, 0, none⟩ k).run P w = .ok (l.map fun b => Value.int .u8 (b.toNat : Int)).toArray w := by
      have := run_firstCells_some (P := P) w 1 k ⟨g, 0, none⟩ k cap _ h.1 hc
      simpa [Builtin.firstCells] using this
    have key : ∀ (xs : List UInt8) (s : ByteArray), (xs.map fun b => (b.toNat : Int)).foldl (fun r n => r.push (UInt8.ofNat n.toNat)) s = ⟨s.data ++ xs.toArray⟩ := by
      intro xs
      induction xs with
      | nil => intro s; simp
      | cons x xs ih =>
        intro s
        simp only [List.map_cons, List.foldl_cons]
        rw [ih]
        apply ByteArray.ext
        simp [ByteArray.push]
    rw [Go.run_bytesToString w ⟨g, 0, none⟩ k cap (l.map fun b => (b.toNat : Int)) (by simpa [Function.comp_def] using hld), key]
    simp
theorem V.bstr (tb : Tabs P) {t u E e k a : Nat} {x : Operand} {v : Value} {l : List UInt8} (hx : ev env x = some v := by exact rfl) (hm : row v E 1 k (l.map fun b => .int .u8 (b.toNat : Int)) ∈ σ := by (repeat first | exact List.Mem.head _ | apply List.Mem.tail))
    (ht : lk1 tb.strs u = some a := by exact rfl) (hu : lk1 tb.slc t = some e := by exact rfl) (he : lkK tb.ints e = some .u8 := by exact rfl) : Val P n env σ ⟨some dst, .convert t u x, ty, pos, af, gd⟩ (S l) := fun a w hF hH => by
  have h := hH _ hm
  rw [row_holds] at h
  have hr := run_bytesToString (P := P) h
  have hv : ∃ ao len cap, v = .slice ao len cap := by
    rcases h.2 with ⟨rfl, _⟩ | ⟨g, cap, cur, rfl, _⟩ <;> exact ⟨_, _, _, rfl⟩
  obtain ⟨ao, len, cap, rfl⟩ := hv
  simp only [execOp, hF.eval hx, convert, Sem.run_bind, run_underlying (tb.strAt ht), run_underlying (sliceTB_spec (tb.slcAt hu)), Result.andThen_ok, run_underlying (tb.intAt he), hr, Sem.run_pure]
end
end Go.HL
namespace Go.HL
open Go
theorem getMapD1 {α : Type} [Inhabited α] {f : α → Value} {xs : List α} {k : Nat} (hk : k < xs.length) : (xs.map fun x => [f x])[k]? = some [f (xs.getD k default)] := by
  simp [hk]
end Go.HL
/-
  Rows told as lists of what lies in them; numbers' conversions said as one wants them; slices that read.
-/
namespace Go.HL
open Go
/-- The row that a slice value owns, as a list of things. -/
@[irreducible] def rows {α : Type} (f : α → List Value) (v : Value) (E sz : Nat) (l : List α) : Ent := row v E sz l.length (l.flatMap f)
theorem rows_eq {α : Type} (f : α → List Value) (v : Value) (E sz : Nat) (l : List α) : rows f v E sz l = row v E sz l.length (l.flatMap f) := by unfold rows; rfl
def u8c (b : UInt8) : List Value := [.int .u8 (b.toNat : Int)]
def i64c (n : Int) : List Value := [I n]
def boolc (b : Bool) : List Value := [B b]
def strc (l : List UInt8) : List Value := [S l]
abbrev Ones {α : Type} (f : α → List Value) : Prop := ∀ x, (f x).all (·.oneCell') = true
theorem ones_u8c : Ones u8c := fun _ => rfl
theorem ones_i64c : Ones i64c := fun _ => rfl
theorem ones_boolc : Ones boolc := fun _ => rfl
theorem ones_strc : Ones strc := fun _ => rfl
theorem Ones.flat {α : Type} {f : α → List Value} (h : Ones f) (l : List α) : (l.flatMap f).all (·.oneCell') = true := by
  simp only [List.all_flatMap]
  exact List.all_eq_true.2 fun x _ => h x
theorem u8c_map (l : List UInt8) : l.flatMap u8c = l.map fun b => .int .u8 (b.toNat : Int) := by
  induction l with
  | nil => rfl
  | cons x l ih => rw [List.flatMap_cons, ih]; rfl
theorem Rd.len {e : Ent} {ao : Option Addr} {len b off sz : Nat} {xs : List (List Value)} (h : Rd e ao len b off sz xs) : len ≤ 9223372036854775807 := by
  have := h.small; simp only [maxLen] at this; omega
theorem PartsFrom.last {sz k : Nat} {c : List Value} (hc : c.length = sz) : PartsFrom sz k [(k, A c)] c := ⟨rfl, c, [], rfl, hc, by simp, rfl⟩
theorem flatten_map {α : Type} (f : α → List Value) (l : List α) : (l.map f).flatten = l.flatMap f := by
  rw [List.flatMap_def]
/-- A literal's row reads. -/
theorem Rd.lits {α : Type} (f : α → List Value) {g E sz k cap : Nat} {cs : List Value} (l : List α) (hl : l.length = k) (hc : l.flatMap f = cs) (hz : ∀ x, (f x).length = sz) (hm : k ≤ 1000000 := by first | omega | decide) :
    Rd (HL.row (.slice (some ⟨g, 0, none⟩) k cap) E sz k cs) (some ⟨g, 0, none⟩) k g 0 sz (l.map f) := by
  have := Rd.row (g := g) (E := E) (sz := sz) (k := k) (cap := cap) (xs := l.map f) (by simpa using hl) (fun y hy => by
    obtain ⟨x, _, rfl⟩ := List.mem_map.1 hy; exact hz x) (by simp only [maxLen]; omega)
  rwa [flatten_map, hc] at this
/-- A row told as a list reads. -/
theorem Rd.rows {α : Type} {f : α → List Value} {g E sz cap : Nat} {l : List α} (hz : ∀ x, (f x).length = sz) (hm : l.length ≤ 9223372036854775807) :
    Rd (HL.rows f (.slice (some ⟨g, 0, none⟩) l.length cap) E sz l) (some ⟨g, 0, none⟩) l.length g 0 sz (l.map f) := by
  rw [rows_eq]
  have := Rd.row (g := g) (E := E) (sz := sz) (k := l.length) (cap := cap) (xs := l.map f) (by simp) (fun y hy => by
    obtain ⟨x, _, rfl⟩ := List.mem_map.1 hy; exact hz x) (by simp only [maxLen]; omega)
  rwa [flatten_map] at this

section
variable {P : Program} {r : Option Nat} {W : World} {D : List Nat} {n : Fm} {Q : Post} {env env' : Env} {σ σ' : List Ent} {ops : Array Oper} {rest : List Oper}
variable {dst : Nat} {op : Op} {ty : TypeId} {pos : String} {af : Array Edge} {gd : Option (Nat × Bool)} {C : Env → List Ent → Prop}
variable {α : Type} {f : α → List Value}
/-- What is appended, as a list. -/
def SrcL (P : Program) (σ : List Ent) (f : α → List Value) (sz : Nat) (tx : TypeId) (x : Value) (l : List α) : Prop := SrcE P σ sz tx x l.length (l.flatMap f)
theorem SrcL.one (tb : Tabs P) {E tx e' sz : Nat} {x : Value} {a : α} (hm : row x E sz 1 (f a) ∈ σ) (h1 : Ones f) (ht : lk1 tb.slc tx = some e' := by exact rfl) : SrcL P σ f sz tx x [a] := by
  have := SrcE.row tb hm ht (h1 a)
  unfold SrcL
  simpa using this
theorem SrcL.rows (tb : Tabs P) {E tx e' sz : Nat} {x : Value} {l : List α} (hm : HL.rows f x E sz l ∈ σ) (h1 : Ones f) (ht : lk1 tb.slc tx = some e' := by exact rfl) : SrcL P σ f sz tx x l := by
  rw [rows_eq] at hm
  exact SrcE.row tb hm ht (h1.flat l)
theorem SrcL.str (tb : Tabs P) {tx u : Nat} {l : List UInt8} (ht : lk1 tb.strs tx = some u := by exact rfl) : SrcL P σ u8c 1 tx (S l) l := by
  unfold SrcL
  rw [u8c_map]
  exact SrcE.str tb ht
theorem SrcL.nil (tb : Tabs P) {tx e' sz : Nat} (ht : lk1 tb.slc tx = some e' := by exact rfl) : SrcL P σ f sz tx (.slice none 0 0) [] := SrcE.nil tb ht
theorem SrcL.rd (tb : Tabs P) {e : Ent} {tx e' sz cap b off : Nat} {ao : Option Addr} {l : List α} (hR : Rd e ao l.length b off sz (l.map f)) (hm : e ∈ σ) (h1 : Ones f) (hz : ∀ x, (f x).length = sz) (hpos : 0 < l.length) (ht : lk1 tb.slc tx = some e' := by exact rfl) : SrcL P σ f sz tx (.slice ao l.length cap) l := by
  unfold SrcL
  have := SrcE.rd (cap := cap) tb hR hm ht (by rw [flatten_map]; exact h1.flat l) (fun y hy => by
    obtain ⟨x, _, rfl⟩ := List.mem_map.1 hy; exact hz x) hpos
  rwa [flatten_map] at this
/-- append of something. -/
theorem O.apL (tb : Tabs P) {t tx E sz bt : Nat} {x y : Operand} {v u : Value} {l m : List α} {zc : List Value} {σ' : Value → List Ent} (hx : ev env x = some v) (hy : ev env y = some u)
    (hm : ∀ v', Upd σ (rows f v E sz l) (rows f v' E sz (l ++ m)) (σ' v')) (hs : SrcL P σ f sz tx u m)
    (hC : ∀ g cap, C ((dst, .slice (some ⟨g, 0, none⟩) (l ++ m).length cap) :: env) (σ' (.slice (some ⟨g, 0, none⟩) (l ++ m).length cap)))
   
    (hd : Nat.blt dst n.n = true := by exact rfl) (ht : lk1 tb.slc t = some E := by exact rfl) (hsz : lk1 tb.szs E = some sz := by exact rfl) (hbt : lk1 tb.byt E = some bt := by exact rfl) (hz : lkZ tb.zeros E = some zc := by exact rfl)
    (hzl : zc.length = sz := by exact rfl) (hpos : Nat.blt 0 sz = true := by exact rfl) (hbb : (l.length + m.length) * bt ≤ 140737488355328 := by (first | omega | (simp only [List.length_append, List.length_cons, List.length_nil, List.length_map]; omega))) (h63 : l.length + m.length ≤ 9223372036854775807 := by (first | omega | (simp only [List.length_append, List.length_cons, List.length_nil, List.length_map]; omega))) (h0 : 0 < l.length + m.length := by (first | omega | (simp only [List.length_append, List.length_cons, List.length_nil, List.length_map]; omega))) :
    Op1 P r W D n ⟨some dst, .call ⟨.builtin .append, #[x, y], #[t, tx]⟩, ty, pos, af, gd⟩ env σ C :=
  O.ap (n := n) (env := env) (σ := σ) (dst := dst) (k := l.length) (m := m.length) (xs := l.flatMap f) (news := m.flatMap f) (σ' := σ') tb hx hy hs (fun g cap => by have := hC g cap; rwa [List.length_append] at this) h0
    (fun v' => by have := hm v'; simp only [rows_eq, List.length_append, List.flatMap_append] at this; exact this) hd ht hsz hbt hz hzl hpos h63 hbb
/-- append, whatever it comes to. -/
theorem O.apLV (tb : Tabs P) {t tx E sz bt : Nat} {x y : Operand} {v u : Value} {l m : List α} {zc : List Value} {σ' : Value → List Ent} (hx : ev env x = some v) (hy : ev env y = some u)
    (hm : ∀ v', Upd σ (rows f v E sz l) (rows f v' E sz (l ++ m)) (σ' v')) (hs : SrcL P σ f sz tx u m)
    (hC : ∀ v', v'.oneCell' = true → (v' = .slice none 0 0 ↔ v = .slice none 0 0 ∧ m.length = 0) → C ((dst, v') :: env) (σ' v'))
   
    (hd : Nat.blt dst n.n = true := by exact rfl) (ht : lk1 tb.slc t = some E := by exact rfl) (hsz : lk1 tb.szs E = some sz := by exact rfl) (hbt : lk1 tb.byt E = some bt := by exact rfl) (hz : lkZ tb.zeros E = some zc := by exact rfl)
    (hzl : zc.length = sz := by exact rfl) (hpos : Nat.blt 0 sz = true := by exact rfl) (hbb : (l.length + m.length) * bt ≤ 140737488355328 := by (first | omega | (simp only [List.length_append, List.length_cons, List.length_nil, List.length_map]; omega))) (h63 : l.length + m.length ≤ 9223372036854775807 := by (first | omega | (simp only [List.length_append, List.length_cons, List.length_nil, List.length_map]; omega))) :
    Op1 P r W D n ⟨some dst, .call ⟨.builtin .append, #[x, y], #[t, tx]⟩, ty, pos, af, gd⟩ env σ C :=
  O.apV (n := n) (env := env) (σ := σ) (dst := dst) (k := l.length) (m := m.length) (xs := l.flatMap f) (news := m.flatMap f) (σ' := σ') tb hx hy hs hC
    (fun v' => by have := hm v'; simp only [rows_eq, List.length_append, List.flatMap_append] at this; exact this) hd ht hsz hbt hz hzl hpos h63 hbb
theorem V.lenRows (tb : Tabs P) {t e E : TypeId} {x : Operand} {v : Value} {sz : Nat} {l : List α} (hx : ev env x = some v := by exact rfl) (hm : rows f v E sz l ∈ σ := by (repeat first | exact List.Mem.head _ | apply List.Mem.tail)) (ht : lk1 tb.slc t = some e := by exact rfl) : Val P n env σ ⟨some dst, .call ⟨.builtin .len, #[x], #[t]⟩, ty, pos, af, gd⟩ (I (l.length : Int)) := by
  rw [rows_eq] at hm
  exact Val.lenR hx hm (tb.slcAt ht)
/-- A load out of a row: a struct. -/
theorem flatMap_seg {sz : Nat} (hz : ∀ x, (f x).length = sz) : ∀ (l : List α) (k : Nat) (a : α), l[k]? = some a → seg (k * sz) sz (l.flatMap f) = f a
  | [], _, _, h => by simp at h
  | x :: l, 0, a, h => by
    simp only [List.getElem?_cons_zero, Option.some.injEq] at h
    subst h
    show ((f x ++ l.flatMap f).drop (0 * sz)).take sz = f x
    rw [Nat.zero_mul, List.drop_zero, List.take_append_of_le_length (by rw [hz]; omega), List.take_of_length_le (by rw [hz]; omega)]
  | x :: l, k + 1, a, h => by
    have ih := flatMap_seg hz l k a (by simpa using h)
    rw [← ih]
    have e : (k + 1) * sz = (f x).length + k * sz := by rw [hz x, Nat.add_mul]; omega
    simp only [seg, List.flatMap_cons, e]
    rw [← List.drop_drop]
    simp
theorem V.ldRow (tb : Tabs P) {T E sz b k : Nat} {len cap : Nat} {x : Operand} {l : List α} {a : α} (hx : ev env x = some (Ptr b (0 + k * sz))) (hm : rows f (.slice (some ⟨b, 0, none⟩) len cap) E sz l ∈ σ) (hz : ∀ x, (f x).length = sz) (hk : l[k]? = some a) (h1 : lk1 tb.agg T = some sz := by exact rfl) : Val P n env σ ⟨some dst, .load T x, ty, pos, af, gd⟩ (A (f a)) := fun a' w hF hH => by
  obtain ⟨d, hu, hd, hi⟩ := aggB_spec (tb.aggAt h1)
  have hown := hH _ hm
  rw [rows_eq, row_holds] at hown
  simp only [execOp, hF.eval hx, Instr.loadAt, Instr.sureAddr, Sem.run_bind, Sem.run_pure, Result.andThen_ok]
  rw [run_loadVar_mid w b (0 + k * sz) T (f a) d (fun j v hv => ?_) hu hd (by rw [hi, hz])]
  · rfl
  · have := hown.cells (g := b) rfl (k * sz + j) v (by
      rw [← flatMap_seg hz l k a hk] at hv
      simp only [seg, List.getElem?_take, List.getElem?_drop] at hv
      split at hv
      · exact hv
      · cases hv)
    rw [cellAdd] at this
    simpa [Nat.add_assoc] using this
theorem V.ldRow1 (tb : Tabs P) {T u E b k : Nat} {len cap : Nat} {x : Operand} {v : Value} {l : List α} {a : α} (hx : ev env x = some (Ptr b (0 + k * 1))) (hm : rows f (.slice (some ⟨b, 0, none⟩) len cap) E 1 l ∈ σ) (hz : ∀ x, (f x).length = 1) (hk : l[k]? = some a) (hv : (f a)[0]? = some v := by exact rfl) (h1 : lk1 tb.one T = some u := by exact rfl) : Val P n env σ ⟨some dst, .load T x, ty, pos, af, gd⟩ v := fun a' w hF hH => by
  have hown := hH _ hm
  rw [rows_eq, row_holds] at hown
  simp only [execOp, hF.eval hx, Instr.loadAt, Instr.sureAddr, Sem.run_bind, Sem.run_pure, Result.andThen_ok]
  have hs := flatMap_seg hz l k a hk
  have := hown.cells (g := b) rfl (k * 1) v (by
    have h2 := hv
    rw [← hs] at h2
    simpa [seg, List.getElem?_take, List.getElem?_drop] using h2)
  rw [cellAdd] at this
  rw [run_loadVar_one (tb.oneAt h1) (by simpa using this)]
  rfl
theorem V.bstrL (tb : Tabs P) {t u E e a : Nat} {x : Operand} {v : Value} {l : List UInt8} (hx : ev env x = some v := by exact rfl) (hm : rows u8c v E 1 l ∈ σ := by (repeat first | exact List.Mem.head _ | apply List.Mem.tail))
    (ht : lk1 tb.strs u = some a := by exact rfl) (hu : lk1 tb.slc t = some e := by exact rfl) (he : lkK tb.ints e = some .u8 := by exact rfl) : Val P n env σ ⟨some dst, .convert t u x, ty, pos, af, gd⟩ (S l) := by
  rw [rows_eq, u8c_map] at hm
  exact V.bstr tb hx hm ht hu he
theorem rowsForm {v : Value} {E sz : Nat} {l : List α} (hm : rows f v E sz l ∈ σ) : ∀ w, H W D σ w → (v = .slice none 0 0 ∧ l = []) ∨ ∃ g cap, v = .slice (some ⟨g, 0, none⟩) l.length cap ∧ l.length ≤ cap ∧ cap ≤ maxLen := fun w hw => by
  rw [rows_eq] at hm
  rcases rowForm hm w hw with ⟨h1, h2, _⟩ | h
  · exact .inl ⟨h1, List.eq_nil_of_length_eq_zero h2⟩
  · exact .inr h
theorem H.rowsNil {w : World} (f : α → List Value) (E sz : Nat) (h : H W D σ w) : H W D (rows f (.slice none 0 0) E sz [] :: σ) w := by
  rw [rows_eq]; exact h.rowNil E sz
theorem Wp.nilRows {c : Code} (f : α → List Value) (E sz : Nat) (h : Wp P r W D n Q c env (rows f (.slice none 0 0) E sz [] :: σ)) : Wp P r W D n Q c env σ := fun a w hF hH => h a w hF (hH.rowsNil f E sz)
theorem WpL.nilRows {l : List Oper} (f : α → List Value) (E sz : Nat) (h : WpL P r W D n ops Q l env (rows f (.slice none 0 0) E sz [] :: σ)) : WpL P r W D n ops Q l env σ := fun a w hF hH => h a w hF (hH.rowsNil f E sz)
theorem Out.nilRows {e : Exit} (f : α → List Value) (E sz : Nat) (h : Out W D n Q e env (rows f (.slice none 0 0) E sz [] :: σ)) : Out W D n Q e env σ := fun a w hF hH => h a w hF (hH.rowsNil f E sz)
/-- One entry is seen as another one. -/
theorem Wp.see {c : Code} {σ' : List Ent} (hs : ∀ w, H W D σ w → H W D σ' w) (h : Wp P r W D n Q c env σ') : Wp P r W D n Q c env σ := fun a w hF hH => h a w hF (hs w hH)
theorem WpL.see {l : List Oper} {σ' : List Ent} (hs : ∀ w, H W D σ w → H W D σ' w) (h : WpL P r W D n ops Q l env σ') : WpL P r W D n ops Q l env σ := fun a w hF hH => h a w hF (hs w hH)
theorem Out.see {e : Exit} {σ' : List Ent} (hs : ∀ w, H W D σ w → H W D σ' w) (h : Out W D n Q e env σ') : Out W D n Q e env σ := fun a w hF hH => h a w hF (hs w hH)
/-- A conversion, said as one wants it. -/
theorem V.cvE (tb : Tabs P) {t u : TypeId} {x : Operand} {k k' k'' : IntKind} {p q : Int} (hx : ev env x = some (.int k p)) (ht : lkK tb.ints u = some k') (hq : k'.wrap p = q) (hu : lkK tb.ints t = some k'' := by exact rfl) : Val P n env σ ⟨some dst, .convert t u x, ty, pos, af, gd⟩ (.int k' q) := by
  have := Val.convT (n := n) (env := env) (σ := σ) (dst := dst) (ty := ty) (pos := pos) (af := af) (gd := gd) tb hx ht hu
  rwa [hq] at this
theorem V.bitE {op : BinOp} {t ty' : TypeId} {x y : Operand} {k : IntKind} {p q v : Int} (hx : ev env x = some (.int k p)) (hy : ev env y = some (.int k q)) (hb : bitI op k p q = some v) : Val P n env σ ⟨some dst, .binOp op t x y ty', ty, pos, af, gd⟩ (.int k v) := V.bit rfl hx hy hb
theorem V.shrE {t ty' : TypeId} {x y : Operand} {k k' : IntKind} {p q u : Int} (hx : ev env x = some (.int k p)) (hy : ev env y = some (.int k' q)) (hu : p.fdiv (2 ^ (Min.min q.toNat k.bits)) = u) (h0 : 0 ≤ q := by omega) : Val P n env σ ⟨some dst, .binOp .shr t x y ty', ty, pos, af, gd⟩ (.int k u) := V.shr hx hy h0 hu
theorem V.shlE {t ty' : TypeId} {x y : Operand} {k k' : IntKind} {p q u : Int} (hx : ev env x = some (.int k p)) (hy : ev env y = some (.int k' q)) (hu : k.wrap (p * 2 ^ (Min.min q.toNat k.bits)) = u) (h0 : 0 ≤ q := by omega) : Val P n env σ ⟨some dst, .binOp .shl t x y ty', ty, pos, af, gd⟩ (.int k u) := V.shl hx hy h0 hu
theorem V.ariE {op : BinOp} {t ty' : TypeId} {x y : Operand} {k : IntKind} {p q u : Int} (hx : ev env x = some (.int k p)) (hy : ev env y = some (.int k q)) (hb : ariI op k p q = some u) : Val P n env σ ⟨some dst, .binOp op t x y ty', ty, pos, af, gd⟩ (.int k u) := V.ari hx hy hb
end
end Go.HL
namespace Go.HL
theorem getD_some {α : Type} [Inhabited α] {l : List α} {k : Nat} (hk : k < l.length) : l[k]? = some (l.getD k default) := by
  simp [hk]
end Go.HL
/-
  Rows stored into; literals' rows; sources of no length.
-/
namespace Go.HL
open Go
section
variable {P : Program} {r : Option Nat} {W : World} {D : List Nat} {n : Fm} {Q : Post} {env env' : Env} {σ σ' : List Ent} {ops : Array Oper} {rest : List Oper}
variable {dst : Nat} {op : Op} {ty : TypeId} {pos : String} {af : Array Edge} {gd : Option (Nat × Bool)} {C : Env → List Ent → Prop}
variable {α : Type} {f : α → List Value}
theorem Rd.nil {e : Ent} {ao : Option Addr} {b off sz : Nat} : Rd e ao 0 b off sz [] := ⟨rfl, Nat.zero_le _, fun h => absurd h (by omega), fun _ _ i x hx => by simp at hx⟩
/-- What is appended out of a slice that reads, whether it has something or not. -/
theorem SrcL.rdz (tb : Tabs P) {e : Ent} {tx e' sz cap b off : Nat} {ao : Option Addr} {l : List α} (hR : Rd e ao l.length b off sz (l.map f)) (hm : e ∈ σ) (h1 : Ones f) (hz : ∀ x, (f x).length = sz) (ht : lk1 tb.slc tx = some e' := by exact rfl) : SrcL P σ f sz tx (.slice ao l.length cap) l := by
  cases l with
  | cons x l => exact SrcL.rd tb hR hm h1 hz (by simp) ht
  | nil =>
    intro w _
    cases ao with
    | none => exact Src.ofNil w (sliceTB_spec (tb.slcAt ht)) cap
    | some a => exact Src.ofSlice w (sliceTB_spec (tb.slcAt ht)) a 0 cap [] (by simp) (fun j u h => by simp at h) (fun u h => by cases h)
/-- A literal, its row told as a list. -/
theorem O.litL (tb : Tabs P) {t E : TypeId} {len sz : Nat} {parts : List (Nat × Operand)} {vs : List (Nat × Value)} {zc cs : List Value} (f : α → List Value) (l : List α)
    (hx : HL.pevs env parts = some vs) (hp : PartsFrom sz 0 vs cs) (hcs : l.flatMap f = cs) (hln : l.length = len)
    (hC : ∀ b, C ((dst, .slice (some ⟨b, 0, none⟩) len len) :: env) (rows f (.slice (some ⟨b, 0, none⟩) len len) E sz l :: σ))
    (hd : Nat.blt dst n.n = true := by exact rfl) (ht : lk1 tb.slc t = some E := by exact rfl) (hs : lk1 tb.szs E = some sz := by exact rfl) (hz : lkZ tb.zeros E = some zc := by exact rfl)
    (hl : vs.length = len := by exact rfl) (hb : Nat.ble (len * sz) 1000 = true := by exact rfl) (hpos : Nat.ble 1 sz = true := by exact rfl) :
    Op1 P r W D n ⟨some dst, .buildSlice t len parts.toArray, ty, pos, af, gd⟩ env σ C := by
  refine Op1.litT tb hd ht hs hz hx hp hl hb hpos fun b => ?_
  have := hC b
  rw [rows_eq, hcs, hln] at this
  exact this
theorem get_splice (o i : Nat) (c x : List Value) (h : o ≤ c.length) : (splice o x c)[i]? = if i < o then c[i]? else if i < o + x.length then x[i - o]? else c[i]? := by
  simp only [splice, List.append_assoc]
  have e1 : (c.take o).length = o := by rw [List.length_take]; omega
  by_cases h1 : i < o
  · rw [if_pos h1, List.getElem?_append_left (by omega), List.getElem?_take, if_pos h1]
  · rw [if_neg h1, List.getElem?_append_right (by omega), e1]
    by_cases h2 : i < o + x.length
    · rw [if_pos h2, List.getElem?_append_left (by omega)]
    · rw [if_neg h2, List.getElem?_append_right (by omega), List.getElem?_drop]; congr 1; omega
theorem take_splice (o m : Nat) (c x : List Value) (h : o + x.length ≤ m) (hm : m ≤ c.length) : (splice o x c).take m = splice o x (c.take m) := by
  apply List.ext_getElem?
  intro i
  rw [List.getElem?_take, get_splice o i c x (by omega), get_splice o i (c.take m) x (by rw [List.length_take]; omega)]
  simp only [List.getElem?_take]
  by_cases hi : i < m
  · simp [hi]
  · rw [if_neg hi, if_neg (by omega), if_neg (by omega), if_neg hi]
theorem splice_length (o : Nat) (c x : List Value) (h : o + x.length ≤ c.length) : (splice o x c).length = c.length := by
  simp [splice]; omega
theorem H.setRowE {w : World} {g cap k E sz off : Nat} {xs x : List Value} (h : H W D σ w) (u : Upd σ (row (.slice (some ⟨g, 0, none⟩) k cap) E sz k xs) (row (.slice (some ⟨g, 0, none⟩) k cap) E sz k (splice off x xs)) σ') (hx : off + x.length ≤ xs.length) (h1 : x.all (·.oneCell') = true) :
    ∃ w1, (storeCells ⟨g, off, none⟩ x).run P w = .ok () w1 ∧ H W D σ' w1 := by
  obtain ⟨l, r', hl, _⟩ := u.split
  have hown := h.mem (e := row (.slice (some ⟨g, 0, none⟩) k cap) E sz k xs) (by rw [hl]; simp)
  rw [row_holds] at hown
  rcases hown.2 with ⟨he, _⟩ | ⟨g', cap', cur, he, hb, hg, hnc, hcm, hcs, htake⟩
  · cases he
  · simp only [Value.slice.injEq, Option.some.injEq, Addr.mk.injEq] at he
    obtain ⟨⟨rfl, _, _⟩, _, rfl⟩ := he
    have hxl := hown.1
    have hcl : cur.toList.length = cap * sz := by simpa using hcs
    have hkc : k * sz ≤ cap * sz := Nat.mul_le_mul_right _ hnc
    have hst := run_storeCells_at P g off E x 0 cur w hg (by simp only [Nat.add_zero]; omega) (fun u hu => List.all_eq_true.1 h1 u hu)
    simp only [Nat.add_zero] at hst
    refine ⟨_, hst, h.upd u ⟨fun e he => ?_, by simp [doms, row_dom, Value.ownBlock], fun y hy => ?_, fun b hlt hn => setRow_other w g b _ (fun e => hn (by simp [row_dom, Value.ownBlock, e])), by simp, rfl, rfl, rfl⟩⟩
    · obtain rfl : e = _ := by simpa using he
      rw [row_holds]
      refine ⟨by rw [splice_length _ _ _ hx]; exact hxl, .inr ⟨g, cap, _, rfl, hb, setRow_heap w g cur _ E _ hg, hnc, hcm, ?_, ?_⟩⟩
      · have := splice_length off cur.toList x (by omega)
        simp only [splice] at this
        simpa [hcs] using this
      · have := take_splice off (k * sz) cur.toList x (by omega) (by omega)
        rw [htake] at this
        simpa [splice] using this
    · left
      have : y = g := by simpa [doms, row_dom, Value.ownBlock] using hy
      subst this
      simp [row_dom, Value.ownBlock]
theorem flatMap_set {sz : Nat} (hz : ∀ x, (f x).length = sz) : ∀ (l : List α) (k : Nat) (a : α), k < l.length → splice (k * sz) (f a) (l.flatMap f) = (l.set k a).flatMap f
  | [], _, _, h => by simp at h
  | x :: l, 0, a, _ => by
    have e1 := hz x
    have e2 := hz a
    simp only [splice, Nat.zero_mul, List.take_zero, List.nil_append, Nat.zero_add, List.flatMap_cons, List.set_cons_zero, e2]
    rw [List.drop_append, List.drop_of_length_le (by omega), e1]
    simp
  | x :: l, k + 1, a, h => by
    have ih := flatMap_set hz l k a (by simpa using h)
    have e1 := hz x
    have e : (k + 1) * sz = sz + k * sz := by rw [Nat.add_mul]; omega
    simp only [List.flatMap_cons, List.set_cons_succ, ← ih]
    simp only [splice, e]
    rw [List.take_append, List.drop_append, e1]
    have e3 : (f x).take (sz + k * sz) = f x := List.take_of_length_le (by omega)
    have e4 : (f x).drop (sz + k * sz + (f a).length) = [] := List.drop_of_length_le (by omega)
    rw [e3, e4, show sz + k * sz - sz = k * sz by omega, show sz + k * sz + (f a).length - sz = k * sz + (f a).length by omega]
    simp
theorem flatMap_len {sz : Nat} (hz : ∀ x, (f x).length = sz) (l : List α) : (l.flatMap f).length = l.length * sz := by
  induction l with
  | nil => simp
  | cons x l ih => rw [List.flatMap_cons, List.length_append, ih, hz, List.length_cons, Nat.add_mul]; omega
/-- A store into a row: a struct. -/
theorem O.stRowA (tb : Tabs P) {T E g k len cap sz : Nat} {x y : Operand} {l : List α} {a : α} (hx : ev env x = some (Ptr g (0 + k * sz))) (hy : ev env y = some (A (f a)))
    (hm : Upd σ (rows f (.slice (some ⟨g, 0, none⟩) len cap) E sz l) (rows f (.slice (some ⟨g, 0, none⟩) len cap) E sz (l.set k a)) σ') (hl : l.length = len) (hk : k < l.length) (hz : ∀ x, (f x).length = sz) (h1 : Ones f)
    (hC : C env σ') (h2 : lk1 tb.agg T = some sz := by exact rfl) : Op1 P r W D n ⟨none, .store T x y, ty, pos, af, gd⟩ env σ C := fun K Q hK a' w hF hH => by
  subst hl
  have hm' : Upd σ (row (.slice (some ⟨g, 0, none⟩) l.length cap) E sz l.length (l.flatMap f)) (row (.slice (some ⟨g, 0, none⟩) l.length cap) E sz l.length (splice (k * sz) (f a) (l.flatMap f))) σ' := by
    have := hm
    simp only [rows_eq, List.length_set] at this
    rwa [flatMap_set hz l k a hk]
  have hle : (k + 1) * sz ≤ l.length * sz := Nat.mul_le_mul_right sz hk
  rw [Nat.add_mul] at hle
  obtain ⟨w1, hr, hH1⟩ := H.setRowE (P := P) hH hm' (by rw [flatMap_len hz, hz]; omega) (h1 a)
  refine opW_skip rfl ?_ (hK _ _ hC _ _ (hF.putNone undef) hH1)
  have hs : (P.info? T).map (·.size) = some sz := tb.sizeAgg h2
  obtain ⟨i, hi, hi'⟩ := Option.map_eq_some_iff.1 hs
  simp only [execOp, hF.eval hx, hF.eval hy, Instr.storeAt, Instr.sureAddr, Sem.run_bind, Sem.run_pure, Result.andThen_ok]
  have hst : (storeVar T ⟨g, 0 + k * sz, none⟩ (A (f a))).run P w = .ok () w1 := by
    rw [Nat.zero_add]
    simp [storeVar, sizeOf, typeInfo, hi, Value.cells, hz, hi', hr]
  rw [hst]
  rfl
theorem O.stRow1 (tb : Tabs P) {T u E g k len cap : Nat} {x y : Operand} {l : List α} {a : α} {v : Value} (hx : ev env x = some (Ptr g (0 + k * 1))) (hy : ev env y = some v) (hv : f a = [v]) (hv1 : v.oneCell' = true)
    (hm : Upd σ (rows f (.slice (some ⟨g, 0, none⟩) len cap) E 1 l) (rows f (.slice (some ⟨g, 0, none⟩) len cap) E 1 (l.set k a)) σ') (hl : l.length = len) (hk : k < l.length) (hz : ∀ x, (f x).length = 1)
    (hC : C env σ') (h2 : lk1 tb.one T = some u := by exact rfl) : Op1 P r W D n ⟨none, .store T x y, ty, pos, af, gd⟩ env σ C := fun K Q hK a' w hF hH => by
  subst hl
  have hm' : Upd σ (row (.slice (some ⟨g, 0, none⟩) l.length cap) E 1 l.length (l.flatMap f)) (row (.slice (some ⟨g, 0, none⟩) l.length cap) E 1 l.length (splice (k * 1) [v] (l.flatMap f))) σ' := by
    have := hm
    simp only [rows_eq, List.length_set] at this
    rwa [← hv, flatMap_set hz l k a hk]
  obtain ⟨w1, hr, hH1⟩ := H.setRowE (P := P) hH hm' (by rw [flatMap_len hz]; simp; omega) (by simp [hv1])
  refine opW_skip rfl ?_ (hK _ _ hC _ _ (hF.putNone undef) hH1)
  have hs : (P.info? T).map (·.size) = some 1 := tb.sizeOne h2
  obtain ⟨i, hi, hi'⟩ := Option.map_eq_some_iff.1 hs
  have hvc : v.cells = #[v] := by cases v <;> first | rfl | (cases hv1; done)
  simp only [execOp, hF.eval hx, hF.eval hy, Instr.storeAt, Instr.sureAddr, Sem.run_bind, Sem.run_pure, Result.andThen_ok]
  have hst : (storeVar T ⟨g, 0 + k * 1, none⟩ v).run P w = .ok () w1 := by
    rw [Nat.zero_add]
    have hr' : (storeCells ⟨g, k * 1, none⟩ v.cells.toList).run P w = .ok () w1 := by rw [hvc]; exact hr
    simp [storeVar, sizeOf, typeInfo, hi, hi', hvc] at hr' ⊢
    exact hr'
  rw [hst]
  rfl
end
end Go.HL
namespace Go.HL
theorem getMapS {α β : Type} {f : α → β} {xs : List α} {k : Nat} {x : α} (h : xs[k]? = some x) : (xs.map f)[k]? = some (f x) := by simp [h]
theorem take_snocS {α : Type} {xs : List α} {k : Nat} {x : α} (h : xs[k]? = some x) : xs.take (k + 1) = xs.take k ++ [x] := by rw [List.take_add_one, h]; rfl
theorem getS {α : Type} {xs : List α} {k : Nat} (h : k < xs.length) : ∃ x, xs[k]? = some x := ⟨_, List.getElem?_eq_getElem h⟩
end Go.HL
/-
  A range over a function: calls of yield, rounds, the statement. Each piece by a contract with entries.
-/
namespace Go.HL
open Go

/-- Several entries as one. -/
@[irreducible] def bag (τ : List Ent) : Ent where
  dom := doms τ
  holds w := (∀ e, e ∈ τ → e.holds w) ∧ (doms τ).Nodup
  loc w w' h hw := ⟨fun e he => e.loc w w' (fun b hb => h b (mem_doms.2 ⟨e, he, hb⟩)) (hw.1 e he), hw.2⟩
  lt w h x hx := by
    obtain ⟨e, he, hb⟩ := mem_doms.1 hx
    exact e.lt w (h.1 e he) x hb
theorem bag_dom (τ) : (bag τ).dom = doms τ := by unfold bag; rfl
theorem bag_holds (τ w) : (bag τ).holds w ↔ (∀ e, e ∈ τ → e.holds w) ∧ (doms τ).Nodup := by unfold bag; rfl

section
variable {P : Program} {r : Option Nat} {W : World} {D : List Nat} {n : Fm} {Q : Post} {env env' : Env} {σ σ' τ : List Ent} {ops : Array Oper} {rest : List Oper} {w : World}
variable {dst : Nat} {op : Op} {ty : TypeId} {pos : String} {af : Array Edge} {gd : Option (Nat × Bool)} {C : Env → List Ent → Prop}

theorem H.unbag (h : H W D (bag τ :: σ) w) : H W D (τ ++ σ) w := by
  have hd : doms (bag τ :: σ) = doms (τ ++ σ) := by rw [doms_cons, doms_append, bag_dom]
  refine ⟨fun e he => ?_, hd ▸ h.nodup, hd ▸ h.own, h.keep, h.size, h.os, h.tape, h.output⟩
  rcases List.mem_append.1 he with he | he
  · have := h.mem (e := bag τ) (by simp)
    rw [bag_holds] at this
    exact this.1 e he
  · exact h.mem (by simp [he])
theorem H.toBag (h : H W D (τ ++ σ) w) : H W D (HL.bag τ :: σ) w := by
  have hd : doms (HL.bag τ :: σ) = doms (τ ++ σ) := by rw [doms_cons, doms_append, bag_dom]
  refine ⟨fun e he => ?_, hd ▸ h.nodup, hd ▸ h.own, h.keep, h.size, h.os, h.tape, h.output⟩
  rcases List.mem_cons.1 he with rfl | he
  · rw [bag_holds]
    refine ⟨fun e he => h.mem (by simp [he]), ?_⟩
    have := h.nodup
    rw [doms_append, List.nodup_append] at this
    exact this.1
  · exact h.mem (by simp [he])
theorem H0.unbag (h : H0 (HL.bag τ :: σ) w) : H0 (τ ++ σ) w := (h.start.unbag).h0
theorem H0.toBag (h : H0 (τ ++ σ) w) : H0 (HL.bag τ :: σ) w := (h.start.toBag).h0
theorem doms_bag : doms (HL.bag τ :: σ) = doms (τ ++ σ) := by rw [doms_cons, doms_append, bag_dom]
theorem Wp.toBag {c : Code} (h : Wp P r W D n Q c env (HL.bag τ :: σ)) : Wp P r W D n Q c env (τ ++ σ) := fun a w hF hH => h a w hF hH.toBag
theorem Wp.unbag {c : Code} (h : Wp P r W D n Q c env (τ ++ σ)) : Wp P r W D n Q c env (HL.bag τ :: σ) := fun a w hF hH => h a w hF hH.unbag
theorem Out.toBag {e : Exit} (h : Out W D n Q e env (HL.bag τ :: σ)) : Out W D n Q e env (τ ++ σ) := fun a w hF hH => h a w hF hH.toBag
theorem Out.unbag {e : Exit} (h : Out W D n Q e env (τ ++ σ)) : Out W D n Q e env (HL.bag τ :: σ) := fun a w hF hH => h a w hF hH.unbag

/-! ### yield -/
/-- What a call of yield does: as a contract. -/
def Yd (P : Program) (l : Nat) (args : List Value) (σ : List Ent) (R : Value → List Ent → Prop) : Prop :=
  ∀ w, H0 σ w → ∃ fn tmps assign body, (Instr.yield l args.toArray).run P w = .ok (.round l fn tmps assign body) w ∧
    RoundIn Fence.wide 0 P l fn tmps assign body w fun e w' => ∃ v σ', e = .returned v ∧ R v σ' ∧ H w (doms σ) σ' w'
theorem Yd.mono {l : Nat} {args : List Value} {R R' : Value → List Ent → Prop} (h : Yd P l args σ R) (hr : ∀ v σ', R v σ' → R' v σ') : Yd P l args σ R' := fun w h0 => by
  obtain ⟨fn, tmps, assign, body, h1, h2⟩ := h w h0
  exact ⟨fn, tmps, assign, body, h1, h2.mono fun e w' ⟨v, σ', he, hR, hH⟩ => ⟨v, σ', he, hr _ _ hR, hH⟩⟩
theorem opW_round {o : Oper} {a : Act} {w w' : World} {K : Act → World → Prop} {Q : Post} {l : Nat} {f : FuncId} {tmps : Array Value} {assign body : Code} (hnd : notDefer o.op = true) (hr : (execOp a.eval o).run P w = .ok (.round l f tmps assign body) w')
    (hc : RoundIn Fence.wide 0 P l f tmps assign body w' fun e w'' => ∃ v, e = .returned v ∧ K (a.put o.dst v) w'') : opW P r o a w K Q := by
  unfold opW
  rw [semAt_nd hnd, hr]
  refine ⟨fun h => (by cases h), ?_⟩
  have h2 : RoundIn (WF r) 0 P l f tmps assign body w' fun e w'' => ∃ v, e = .returned v ∧ K (a.put o.dst v) w'' := hc
  exact h2.mono fun e w'' ⟨v, he, hk⟩ => by subst he; exact hk
theorem Op1.callY {l : Nat} {x : Operand} {xs : List Operand} {ats : Array TypeId} {args : List Value} {σf σr : List Ent} {R : Value → List Ent → Prop} (hv : ev env x = some (.func (.yield l) #[] #[])) (hx : HL.evs env xs = some args) (hf : Yd P l args σf R) (hσ : Sel σ σf σr)
    (hC : ∀ v σ', R v σ' → ∃ σ'', Cat σ' σr σ'' ∧ C ((dst, v) :: env) σ'') (hd : Nat.blt dst n.n = true := by exact rfl) :
    Op1 P r W D n ⟨some dst, .call ⟨.value x, xs.toArray, ats⟩, ty, pos, af, gd⟩ env σ C := fun K Q hK a w hF hH => by
  have hH' := hH.perm hσ.perm
  have hev : xs.toArray.map a.eval = args.toArray := by rw [← hF.evs hx]; simp
  have h0 : H0 σf w := ⟨fun e he => hH'.ents e (by simp [he]), by
    have := hH'.nodup
    rw [doms_append, List.nodup_append] at this
    exact this.1⟩
  obtain ⟨fn, tmps, assign, body, h1, h2⟩ := hf w h0
  refine opW_round (w' := w) rfl ?_ (h2.mono ?_)
  · simp only [execOp, resolve, Sem.run_bind, hev, hF.eval hv]
    simp [Deferred.ofValue, invoke, h1]
  · rintro e w' ⟨v, σ', rfl, hR, hH1⟩
    obtain ⟨σ'', hc, h⟩ := hC v σ' hR
    refine ⟨_, rfl, hK _ _ h _ _ (hF.put hd v) ?_⟩
    have := hH'.call hH1
    rwa [hc.eq] at this

/-! ### Rounds -/
/-- The ways in which a round's body may be left. -/
def jumpOf : Exit → Option Code
  | .ret => some .ret
  | .exit id => some (.exit id)
  | _ => none
def goesOn : Exit → Bool
  | .normal => true
  | _ => false
def isWay : Exit → Bool
  | .normal | .ret | .exit _ => true
  | _ => false
/-- The loop's record behind a round that was left so. -/
@[irreducible] def lpD (l : Nat) (rec : LoopState → Option Code → Loop) (e : Exit) : Ent := ob l (.loop (rec (if goesOn e then .ready else .done) (jumpOf e)))
/-- The record while a round is under way. -/
@[irreducible] def lpB (l : Nat) (rec : LoopState → Option Code → Loop) : Ent := ob l (.loop (rec .busy none))
theorem lpD_eq (l rec e) : lpD l rec e = ob l (.loop (rec (if goesOn e then .ready else .done) (jumpOf e))) := by unfold lpD; rfl
theorem lpB_eq (l rec) : lpB l rec = ob l (.loop (rec .busy none)) := by unfold lpB; rfl

/-- What follows the assignment to the loop's left sides. -/
def beginK (P : Program) (l : Nat) (body : Code) (Q : Post) (a : Act) (w : World) : Prop :=
  ∃ w₂, (Instr.beginRound l).run P w = .ok () w₂ ∧ body.wpIn (WF (some l)) 0 P Q a w₂
def noWay : Post := fun _ _ _ => False

theorem H.setOb {l : Nat} {o o' : Obj} (h : H W D σ w) (u : Upd σ (ob l o) (ob l o') σ') : H W D σ' (w.putObj l o') := by
  have hm : ob l o ∈ σ := by obtain ⟨p, q, rfl, _⟩ := u.split; simp
  have hc := h.mem hm
  rw [ob_holds] at hc
  refine h.upd u ⟨fun e he => ?_, by simp [doms, ob_dom], fun x hx => ?_, fun k hk hn => ?_, by simp, rfl, rfl, rfl⟩
  · obtain rfl : e = _ := by simpa using he
    rw [ob_holds]
    exact World.putObj_heap_same (Array.getElem?_eq_some_iff.1 hc).1
  · left; simpa [doms, ob_dom] using hx
  · exact World.putObj_heap_other (by simpa [ob_dom] using hn)

/-- The form of a loop's record. -/
structure RecIs (rec : LoopState → Option Code → Loop) : Prop where
  state : ∀ s j, (rec s j).state = s
  pending : ∀ s j, (rec s j).pending = j
  upd1 : ∀ s j s', { rec s j with state := s' } = rec s' j
  upd : ∀ s j s' j', { rec s j with state := s', pending := j' } = rec s' j'

theorem Out.bg {l : Nat} {rec : LoopState → Option Code → Loop} {body : Code} {Q' : Post} (hr : RecIs rec) (h : Wp P (some l) W D n Q body env σ') (u : Upd σ (lpD l rec .normal) (lpB l rec) σ' := by (repeat first | exact Upd.here _ _ _ | apply Upd.there)) :
    Out W D n (Exit.then (beginK P l body Q) Q') .normal env σ := fun a w hF hH => by
  rw [lpD_eq, lpB_eq] at u
  have hm : ob l (.loop (rec .ready none)) ∈ σ := by obtain ⟨p, q, rfl, _⟩ := u.split; simp [goesOn, jumpOf]
  have hc := hH.mem hm
  rw [ob_holds] at hc
  refine ⟨_, run_beginRound hc (hr.state _ _), h a _ hF ?_⟩
  rw [hr.upd1]
  exact hH.setOb u

def zipEnv : List Tmp → List Value → Env → Env
  | p :: ps, v :: vs, e => zipEnv ps vs ((p, v) :: e)
  | _, _, e => e
theorem Fr.zip {ds : List Nat} : ∀ (ps : List Tmp) (vs : List Value) (env : Env) (tmps : Array Value), (ps.all fun p => Nat.blt p n.n) = true → ps.length = vs.length → Fr ⟨n.n, ds⟩ env { tmps := tmps, defers := ds.map mark } →
    Fr ⟨n.n, ds⟩ (zipEnv ps vs env) { tmps := (ps.zip vs).foldl (fun t (p, v) => t.setIfInBounds p v) tmps, defers := ds.map mark }
  | [], [], env, tmps, _, _, h => h
  | p :: ps, v :: vs, env, tmps, hp, hl, h => by
    simp only [List.all_cons, Bool.and_eq_true] at hp
    exact Fr.zip ps vs _ _ hp.2 (by simpa using hl) (h.put hp.1 v)
  | [], _ :: _, _, _, _, hl, _ => by simp at hl
  | _ :: _, [], _, _, _, hl, _ => by simp at hl

theorem jumpOf_none {e : Exit} (h : isWay e = true) : (jumpOf e).isNone = goesOn e := by cases e <;> first | rfl | cases h

/-- ONE ROUND, out of the walk of its body. -/
theorem Yd.of_round {l fn : Nat} {rec : LoopState → Option Code → Loop} {tmps : Array Value} {ps : List Tmp} {assign body : Code} {args : List Value} {m : Nat} {s : Ent} {R : Exit → Ent → Prop}
    (hr : RecIs rec) (hf : ∀ st j, (rec st j).fn = fn ∧ (rec st j).tmps = tmps ∧ (rec st j).params = ps.toArray ∧ (rec st j).assign = assign ∧ (rec st j).body = body)
    (hF : Fr ⟨m, []⟩ env { tmps := tmps, defers := [] }) (hp : (ps.all fun p => Nat.blt p m) = true) (hl : ps.length = args.length)
    (h : ∀ (W' : World) (K : Post), (∀ e s', isWay e = true → R e s' → ∀ a w, H W' (doms [lpD l rec .normal, s]) [lpB l rec, s'] w → K e a w) →
      Wp P (some l) W' (doms [lpD l rec .normal, s]) ⟨m, []⟩ (Exit.then (beginK P l body K) noWay) assign (zipEnv ps args env) [lpD l rec .normal, s]) :
    Yd P l args [lpD l rec .normal, s] (fun v σ' => ∃ e s', v = .bool (goesOn e) ∧ isWay e = true ∧ R e s' ∧ σ' = [lpD l rec e, s']) := fun w h0 => by
  have hc := h0.ents (lpD l rec .normal) (by simp)
  rw [lpD_eq, ob_holds] at hc
  obtain ⟨e1, e2, e3, e4, e5⟩ := hf .ready none
  have hy := run_yield (P := P) (args := args.toArray) hc (by simp only [goesOn, jumpOf, if_true]; rw [e3]; simp [hl])
  simp only [goesOn, jumpOf, if_true] at hy
  rw [e1, e2, e3, e4, e5] at hy
  refine ⟨_, _, _, _, hy, ?_⟩
  have hz := Fr.zip (n := ⟨m, []⟩) (ds := []) ps args env tmps hp hl hF
  have key := h w (fun e a w' => isWay e = true ∧ ∃ s', R e s' ∧ H w (doms [lpD l rec .normal, s]) [lpB l rec, s'] w')
    (fun e s' hw hR a w' hH => ⟨hw, s', hR, hH⟩) _ w hz h0.start
  refine roundIn_of_wpIn trivial ?_
  have e0 : ((ps.toArray.zip args.toArray).foldl (fun tmps (x : Tmp × Value) => match x with | (t, a) => tmps.setIfInBounds t a) tmps) = (ps.zip args).foldl (fun t (p, v) => t.setIfInBounds p v) tmps := by
    rw [← Array.foldl_toList]; simp
  rw [e0]
  refine wpIn_mono key ?_
  intro e a1 w1 hq
  cases e with
  | normal =>
    obtain ⟨w2, hb, hbody⟩ := hq
    refine ⟨w2, hb, wpIn_mono hbody ?_⟩
    intro e a2 w3 ⟨hw, s', hR, hH⟩
    have hc3 := hH.mem (e := lpB l rec) (by simp)
    rw [lpB_eq, ob_holds] at hc3
    have fin : ∀ j : Option Code, (Instr.endRound l j).run P w3 = .ok (.bool j.isNone) (w3.putObj l (.loop (rec (if j.isNone then .ready else .done) j))) := fun j => by
      have := run_endRound (P := P) j hc3
      rw [hr.upd] at this
      exact this
    have hH' : H w (doms [lpD l rec .normal, s]) [lpD l rec e, s'] (w3.putObj l (.loop (rec (if (jumpOf e).isNone then .ready else .done) (jumpOf e)))) := by
      rw [lpB_eq] at hH
      rw [lpD_eq l rec e, ← jumpOf_none hw]
      exact hH.setOb (Upd.here _ _ _)
    have out : ∀ v, v = Value.bool (goesOn e) → ∃ v' σ', Ending.returned v = .returned v' ∧ (∃ e s', v' = .bool (goesOn e) ∧ isWay e = true ∧ R e s' ∧ σ' = [lpD l rec e, s']) ∧ H w (doms [lpD l rec .normal, s]) σ' (w3.putObj l (.loop (rec (if (jumpOf e).isNone then .ready else .done) (jumpOf e)))) :=
      fun v hv => ⟨v, _, rfl, ⟨e, s', hv, hw, hR, rfl⟩, hH'⟩
    cases e with
    | normal => exact ⟨_, _, fin none, out _ rfl⟩
    | ret => exact ⟨_, _, fin (some .ret), out _ rfl⟩
    | exit id => exact ⟨_, _, fin (some (.exit id)), out _ rfl⟩
    | _ => cases hw
  | _ => exact hq.elim

/-! ### The statement -/
theorem H.allocOb (h : H W D σ w) (o : Obj) : H W D (ob w.heap.size o :: σ) (w.alloc o) := by
  have : H w [] [ob w.heap.size o] (w.alloc o) := by
    refine ⟨fun e he => ?_, by simp [doms, ob_dom], fun b hb => ?_, fun b hb _ => heap_alloc_old _ _ hb, by simp, rfl, rfl, rfl⟩
    · obtain rfl : e = _ := by simpa using he
      rw [ob_holds]
      exact World.alloc_heap_new _ _
    · obtain rfl : b = w.heap.size := by simpa [doms, ob_dom] using hb
      exact .inr (Nat.le_refl _)
  exact h.new this

theorem Code.way {e : Exit} (hw : isWay e = true) {a : Act} {w : World} (h : Q e a w) : match jumpOf e with | none => Q .normal a w | some c => c.wpIn (WF r) 0 P Q a w := by
  cases e with
  | normal => exact h
  | ret => exact wpIn_ret h
  | exit id => exact wpIn_exit h
  | _ => cases hw

/-- A RANGE OVER A FUNCTION, the outermost one. -/
theorem Wp.rf0 {g : Operand} {ps : List Tmp} {assign body : Code} {gf : FuncId} {caps : List Value} {ι : Type} {σc σr : List Ent}
    (A : ι → List Value) (s0 : Ent) (S : ι → Ent) (T : ι → Exit → Ent → Prop) (R : Exit → List Ent → Prop)
    (hg : ev env g = some (.func (.func gf) #[] caps.toArray)) (hok : fnOk P gf = true) (hσ : Sel σ (s0 :: σc) σr) (hA : ∀ i, ps.length = (A i).length) (hp : (ps.all fun p => Nat.blt p n.n) = true)
    (round : ∀ (i : ι) (l : Nat) (rec : LoopState → Option Code → Loop), RecIs rec → ∀ (W' : World) (K : Post), (∀ e s', isWay e = true → T i e s' → ∀ a w, H W' (doms [lpD l rec .normal, S i]) [lpB l rec, s'] w → K e a w) →
      Wp P (some l) W' (doms [lpD l rec .normal, S i]) ⟨n.n, []⟩ (Exit.then (beginK P l body K) noWay) assign (zipEnv ps (A i) env) [lpD l rec .normal, S i])
    (call : ∀ (l : Nat) (rec : LoopState → Option Code → Loop), (∀ i, Yd P l (A i) [lpD l rec .normal, S i] (fun v σ' => ∃ e s', v = .bool (goesOn e) ∧ isWay e = true ∧ T i e s' ∧ σ' = [lpD l rec e, s'])) →
      Ct P gf (.func (.yield l) #[] #[] :: caps) (lpD l rec .normal :: s0 :: σc) (fun _ σ' => ∃ e σ'', isWay e = true ∧ R e σ'' ∧ σ' = lpD l rec e :: σ''))
    (cont : ∀ (b : Nat) (e : Exit) (σ'' : List Ent), isWay e = true → R e σ'' → Out W D ⟨n.n, b :: n.ds⟩ Q e env (dfr b :: (σ'' ++ σr))) :
    Wp P none W D n Q (.rangeFunc g ps.toArray assign body) env σ := fun a w hF hH => by
  have hH1 := ((hH.sel' hσ).allocOb (.deferred (some [])))
  refine wpIn_rangeFunc fun fn _ => ?_
  obtain ⟨rec, hrec⟩ : ∃ rec : LoopState → Option Code → Loop, rec = fun st pe => { state := st, pending := pe, fn, tmps := a.tmps, params := ps.toArray, assign, body, defers := w.heap.size } := ⟨_, rfl⟩
  have hr : RecIs rec := by subst hrec; exact ⟨fun _ _ => rfl, fun _ _ => rfl, fun _ _ _ => rfl, fun _ _ _ _ => rfl⟩
  have hH2 := hH1.allocOb (.loop (rec .ready none))
  rw [World.size_alloc] at hH2
  have hev : a.eval g = .func (.func gf) #[] caps.toArray := hF.eval hg
  have hgf : ∀ (args : Array Value) (w : World), (callFunc gf args).run P w = .ok (.enter gf args) w := fun args w => run_callFunc hok args w
  refine ⟨w.heap.size + 1, [mark w.heap.size], (w.alloc (.deferred (some []))).alloc (.loop (rec .ready none)), { target := .fn (.func gf) caps.toArray, args := #[.func (.yield (w.heap.size + 1)) #[] #[]] }, (w.alloc (.deferred (some []))).alloc (.loop (rec .ready none)), gf,
    #[.func (.yield (w.heap.size + 1)) #[] #[]] ++ caps.toArray, (w.alloc (.deferred (some []))).alloc (.loop (rec .ready none)), ?_, ?_, ?_, ?_, fun h => (by cases h), ?_⟩
  · subst hrec; exact run_enterLoop_outer _ _ _ _ _
  · simp only [resolve, hev]
    simp [Deferred.ofValue, Act.eval]
  · intro f' _; trivial
  · simp [invoke, hgf]
  · have hF0 : Fr ⟨n.n, []⟩ env { tmps := a.tmps, defers := [] } := ⟨hF.size, rfl, hF.get⟩
    have hy : ∀ i, Yd P (w.heap.size + 1) (A i) [lpD (w.heap.size + 1) rec .normal, S i] (fun v σ' => ∃ e s', v = .bool (goesOn e) ∧ isWay e = true ∧ T i e s' ∧ σ' = [lpD (w.heap.size + 1) rec e, s']) := fun i =>
      Yd.of_round (fn := fn) (tmps := a.tmps) (ps := ps) (assign := assign) (body := body) hr (fun st j => by subst hrec; exact ⟨rfl, rfl, rfl, rfl, rfl⟩) hF0 hp (hA i) (fun W' K hK => round i _ rec hr W' K hK)
    have hcall := call (w.heap.size + 1) rec hy
    have e1 : lpD (w.heap.size + 1) rec .normal = ob (w.heap.size + 1) (.loop (rec .ready none)) := by rw [lpD_eq]; rfl
    have hH3 : H W D ((lpD (w.heap.size + 1) rec .normal :: s0 :: σc) ++ (dfr w.heap.size :: σr)) ((w.alloc (.deferred (some []))).alloc (.loop (rec .ready none))) := by
      rw [e1, dfr]
      refine hH2.perm ?_
      simp only [List.cons_append]
      refine List.Perm.cons _ ?_
      have := (List.perm_middle (a := ob w.heap.size (.deferred (some []))) (l₁ := s0 :: σc) (l₂ := σr)).symm
      simpa using this
    have h0 : H0 (lpD (w.heap.size + 1) rec .normal :: s0 :: σc) ((w.alloc (.deferred (some []))).alloc (.loop (rec .ready none))) := by
      refine ⟨fun e he => hH3.ents e (by simp only [List.mem_append]; exact .inl he), ?_⟩
      have := hH3.nodup
      rw [doms_append, List.nodup_append] at this
      exact this.1
    have hc1 := hcall _ h0
    have hc2 := (callsIn_wide (n := 0)).2 hc1
    have e2 : (#[Value.func (.yield (w.heap.size + 1)) #[] #[]] ++ caps.toArray) = (Value.func (.yield (w.heap.size + 1)) #[] #[] :: caps).toArray := by simp
    rw [e2]
    refine CallsIn.mono (F := WF none) (n := 0 - 1) hc2 ?_
    rintro e w' ⟨v, σ', rfl, ⟨e, σ'', hw, hR, rfl⟩, hHc⟩
    have hH4 := hH3.call hHc
    have hl := hH4.mem (e := lpD (w.heap.size + 1) rec e) (by simp)
    rw [lpD_eq, ob_holds] at hl
    have hend := run_endLoop (P := P) hl (by rw [hr.state]; split <;> simp)
    rw [hr.upd1, hr.pending] at hend
    refine ⟨jumpOf e, _, hend, ?_⟩
    have hF5 : Fr ⟨n.n, w.heap.size :: n.ds⟩ env { a with defers := [mark w.heap.size] ++ a.defers } := ⟨hF.size, by simp [hF.defers], hF.get⟩
    have hH5 : H W D (dfr w.heap.size :: (σ'' ++ σr)) (w'.putObj (w.heap.size + 1) (.loop (rec .exhausted (jumpOf e)))) := by
      have h6 : H W D (lpD (w.heap.size + 1) rec e :: (σ'' ++ (dfr w.heap.size :: σr))) w' := by simpa using hH4
      have h7 := H.putOb (e := lpD (w.heap.size + 1) rec e) (.loop (rec .exhausted (jumpOf e))) (by rw [lpD_eq, ob_dom]) h6
      refine h7.perm ?_
      exact List.perm_middle
    have := cont w.heap.size e σ'' hw hR _ _ hF5 hH5
    exact Code.way hw this

end
end Go.HL
/-
  Iterators by contract; a range over one.
-/
namespace Go.HL
open Go
section
variable {P : Program} {r : Option Nat} {W : World} {D : List Nat} {n : Fm} {Q : Post} {env env' : Env} {σ σ' τ : List Ent} {ops : Array Oper} {rest : List Oper} {w : World}

theorem Ct.conv {f : FuncId} {args : List Value} {R R' : Value → List Ent → Prop} (h : Ct P f args σ R) (h0 : ∀ w, H0 τ w → H0 σ w) (hd : doms τ = doms σ)
    (hr : ∀ v σ', R v σ' → ∃ τ', R' v τ' ∧ ∀ W D w, H W D σ' w → H W D τ' w) : Ct P f args τ R' := fun w hw =>
  (h w (h0 w hw)).mono fun _ _ ⟨v, σ', he, hR, hH⟩ => by
    obtain ⟨τ', h1, h2⟩ := hr v σ' hR
    exact ⟨v, τ', he, h1, by rw [hd]; exact h2 _ _ _ hH⟩
theorem Yd.conv {l : Nat} {args : List Value} {R R' : Value → List Ent → Prop} (h : Yd P l args σ R) (h0 : ∀ w, H0 τ w → H0 σ w) (hd : doms τ = doms σ)
    (hr : ∀ v σ', R v σ' → ∃ τ', R' v τ' ∧ ∀ W D w, H W D σ' w → H W D τ' w) : Yd P l args τ R' := fun w hw => by
  obtain ⟨fn, tmps, assign, body, h1, h2⟩ := h w (h0 w hw)
  refine ⟨fn, tmps, assign, body, h1, h2.mono fun e w' ⟨v, σ', he, hR, hH⟩ => ?_⟩
  obtain ⟨τ', h1, h2⟩ := hr v σ' hR
  exact ⟨v, τ', he, h1, by rw [hd]; exact h2 _ _ _ hH⟩

/-- What a function does that hands a sequence to yield, one by one, until yield says no. -/
def Iter (P : Program) (gf : FuncId) (caps : List Value) (σ0 : List Ent) {α : Type} (enc : α → List Value) (xs : List α) (σ1 : List Ent) : Prop :=
  ∀ (l : Nat) (β : Type) (G X : List α → β → Prop) (S : β → Ent) (b0 : β), G [] b0 →
    (∀ pre x post b, xs = pre ++ x :: post → G pre b → Yd P l (enc x) [S b] (fun v σ' => ∃ b' t, v = .bool t ∧ (t = true → G (pre ++ [x]) b') ∧ (t = false → X (pre ++ [x]) b') ∧ σ' = [S b'])) →
    Ct P gf (.func (.yield l) #[] #[] :: caps) (S b0 :: σ0) (fun _ σ' => ∃ b', (G xs b' ∨ ∃ pre, pre <+: xs ∧ X pre b') ∧ σ' = S b' :: σ1)

def Way {α β : Type} (G : List α → β → Prop) (X : Exit → List α → β → Prop) (pre : List α) (e : Exit) (b : β) : Prop :=
  match e with
  | .normal => G pre b
  | e => X e pre b

/-- A round's end. -/
theorem Out.rd {β : Type} {l : Nat} {rec : LoopState → Option Code → Loop} {T : Exit → β → Prop} {S : β → List Ent} {K : Post} {e : Exit} {ρ : List Ent}
    (hK : ∀ e b, isWay e = true → T e b → ∀ a w, H W D (lpB l rec :: S b) w → K e a w) (b : β) (hT : T e b)
    (hs : Sel σ (lpB l rec :: S b) ρ := by (repeat (first | exact Sel.nil | exact Rem.here | apply Sel.cons | apply Rem.there))) (hw : isWay e = true := by exact rfl) :
    Out W D n K e env σ := fun a w _ hH => hK e b hw hT a w (hH.sel hs)

/-- A RANGE OVER AN ITERATOR, the outermost one. -/
theorem Wp.rg {α β : Type} {g : Operand} {ps : List Tmp} {assign body : Code} {gf : FuncId} {caps : List Value} {enc : α → List Value} {xs : List α} {σ0 σ1 σr : List Ent}
    (hI : Iter P gf caps σ0 enc xs σ1) (S : β → List Ent) (G : List α → β → Prop) (X : Exit → List α → β → Prop) (b0 : β) (h0 : G [] b0)
    (round : ∀ pre x post b l rec, xs = pre ++ x :: post → G pre b → RecIs rec → ∀ (W' : World) (D' : List Nat) (K : Post), (∀ e b', isWay e = true → Way G X (pre ++ [x]) e b' → ∀ a w, H W' D' (lpB l rec :: S b') w → K e a w) →
      Wp P (some l) W' D' ⟨n.n, []⟩ (Exit.then (beginK P l body K) noWay) assign (zipEnv ps (enc x) env) (lpD l rec .normal :: S b))
    (done : ∀ b c, G xs b → Out W D ⟨n.n, c :: n.ds⟩ Q .normal env (dfr c :: (S b ++ (σ1 ++ σr))))
    (left : ∀ b c e pre, isWay e = true → goesOn e = false → pre <+: xs → X e pre b → Out W D ⟨n.n, c :: n.ds⟩ Q e env (dfr c :: (S b ++ (σ1 ++ σr))))
    (hg : ev env g = some (.func (.func gf) #[] caps.toArray) := by exact rfl) (hok : fnOk P gf = true := by kernel_rfl) (hσ : Sel σ (S b0 ++ σ0) σr := by (repeat (first | exact Sel.nil | exact Rem.here | apply Sel.cons | apply Rem.there)))
    (hA : ∀ x, ps.length = (enc x).length := by intro _; rfl) (hp : (ps.all fun p => Nat.blt p n.n) = true := by exact rfl) :
    Wp P none W D n Q (.rangeFunc g ps.toArray assign body) env σ := by
  have key : Wp P none W D n Q (.rangeFunc g ps.toArray assign body) env (bag (S b0) :: (σ0 ++ σr)) := by
    have hw0 : ∀ {e : Exit} {pre : List α} {b : β}, isWay e = true → Way G X pre e b → (goesOn e = true ∧ G pre b) ∨ (goesOn e = false ∧ X e pre b) := by
      intro e pre b hw h
      cases e with
      | normal => exact .inl ⟨rfl, h⟩
      | ret => exact .inr ⟨rfl, h⟩
      | exit id => exact .inr ⟨rfl, h⟩
      | _ => cases hw
    refine Wp.rf0 (ι := { p : List α × α × List α × β // xs = p.1 ++ p.2.1 :: p.2.2.1 ∧ G p.1 p.2.2.2 }) (σc := σ0) (σr := σr) (fun i => enc i.1.2.1) (bag (S b0)) (fun i => bag (S i.1.2.2.2)) (fun i e s' => ∃ b', s' = bag (S b') ∧ Way G X (i.1.1 ++ [i.1.2.1]) e b')
      (fun e σ'' => ∃ b', σ'' = bag (S b') :: σ1 ∧ ((e = .normal ∧ G xs b') ∨ (goesOn e = false ∧ ∃ pre, pre <+: xs ∧ X e pre b'))) hg hok ?_ (fun i => hA _) hp ?_ ?_ ?_
    · have : ∀ (l : List Ent) (s : Ent), Sel (s :: (l ++ σr)) (s :: l) σr := by
        intro l s
        refine Sel.cons Rem.here ?_
        induction l with
        | nil => exact Sel.nil
        | cons x l ih => exact Sel.cons Rem.here ih
      exact this σ0 _
    · rintro ⟨⟨pre, x, post, b⟩, hx, hG⟩ l rec hr W' K hK
      have hd : doms [lpD l rec .normal, bag (S b)] = doms (lpD l rec .normal :: S b) := by
        simp only [doms_cons, bag_dom]; simp [doms]
      have := round pre x post b l rec hx hG hr W' (doms [lpD l rec .normal, bag (S b)]) K (fun e b' hw hT a w hH => hK e (bag (S b')) hw ⟨b', rfl, hT⟩ a w (by
        have h1 : H W' (doms [lpD l rec .normal, bag (S b)]) (S b' ++ [lpB l rec]) w := hH.perm (by simpa using (List.perm_append_comm (l₁ := [lpB l rec]) (l₂ := S b')))
        exact (h1.toBag).perm (List.Perm.swap ..)))
      intro a w hF hH
      refine this a w hF ?_
      have h1 := (hH.perm (List.Perm.swap ..)).unbag
      exact h1.perm (by simp)
    · intro l rec hy
      have hc := hI l (Exit × β) (fun pre p => p.1 = .normal ∧ G pre p.2) (fun pre p => isWay p.1 = true ∧ goesOn p.1 = false ∧ X p.1 pre p.2) (fun p => bag [lpD l rec p.1, bag (S p.2)]) (.normal, b0) ⟨rfl, h0⟩ ?_
      · refine hc.conv (fun w h => ?_) ?_ ?_
        · exact H0.toBag (τ := [lpD l rec .normal, bag (S b0)]) h
        · exact (doms_bag (τ := [lpD l rec .normal, bag (S b0)])).symm
        · rintro v σ' ⟨⟨e, b'⟩, hb, rfl⟩
          refine ⟨lpD l rec e :: bag (S b') :: σ1, ⟨e, _, ?_, ⟨b', rfl, ?_⟩, rfl⟩, fun W D w h => h.unbag (τ := [lpD l rec e, bag (S b')])⟩
          · rcases hb with ⟨h, _⟩ | ⟨_, _, h, _⟩
            · simp only at h; subst h; rfl
            · exact h
          · rcases hb with ⟨h, h2⟩ | ⟨pre, hp, _, h3, h4⟩
            · exact .inl ⟨h, h2⟩
            · exact .inr ⟨h3, pre, hp, h4⟩
      · rintro pre x post ⟨e, b⟩ hx ⟨he, hG⟩
        simp only at he hG
        subst he
        refine (hy ⟨(pre, x, post, b), hx, hG⟩).conv (fun w h => ?_) ?_ ?_
        · have := H0.unbag (τ := [lpD l rec .normal, bag (S b)]) (σ := []) h
          simpa using this
        · have := (doms_bag (τ := [lpD l rec .normal, bag (S b)]) (σ := []))
          simpa using this
        · rintro v σ' ⟨e, s', rfl, hw, ⟨b', rfl, hT⟩, rfl⟩
          refine ⟨[bag [lpD l rec e, bag (S b')]], ⟨(e, b'), goesOn e, rfl, fun h => ?_, fun h => ?_, rfl⟩, fun W D w h => H.toBag (τ := [lpD l rec e, bag (S b')]) (σ := []) (by simpa using h)⟩
          · rcases hw0 hw hT with ⟨h1, h2⟩ | ⟨h1, h2⟩
            · refine ⟨?_, h2⟩
              cases e <;> first | rfl | cases h1
            · rw [h1] at h; cases h
          · rcases hw0 hw hT with ⟨h1, h2⟩ | ⟨h1, h2⟩
            · rw [h1] at h; cases h
            · exact ⟨hw, h1, h2⟩
    · rintro c e σ'' hw ⟨b', rfl, hb⟩
      have conv : ∀ {e : Exit}, Out W D ⟨n.n, c :: n.ds⟩ Q e env (dfr c :: (S b' ++ (σ1 ++ σr))) → Out W D ⟨n.n, c :: n.ds⟩ Q e env (dfr c :: (bag (S b') :: σ1 ++ σr)) := fun h a w hF hH => by
        refine h a w hF ?_
        have h1 : H W D (bag (S b') :: (dfr c :: (σ1 ++ σr))) w := hH.perm (by simpa using List.Perm.swap ..)
        exact h1.unbag.perm List.perm_middle
      rcases hb with ⟨rfl, hG⟩ | ⟨hg', pre, hpre, hX⟩
      · exact conv (done b' c hG)
      · exact conv (left b' c e pre hw hg' hpre hX)
  intro a w hF hH
  refine key a w hF ?_
  have h1 := hH.sel' hσ
  rw [List.append_assoc] at h1
  exact h1.toBag
end
end Go.HL
/-
  Arrays by a reckoned index; rows that lie in an array; entries seen otherwise; two effects that may come either way.
-/
namespace Go.HL
open Go
section
variable {P : Program} {r : Option Nat} {W : World} {D : List Nat} {n : Fm} {Q : Post} {env env' : Env} {σ σ' τ : List Ent} {ops : Array Oper} {rest : List Oper} {w : World}
variable {dst : Nat} {op : Op} {ty : TypeId} {pos : String} {af : Array Edge} {gd : Option (Nat × Bool)} {C : Env → List Ent → Prop}

instance {x y : Value} : SplOf 0 [x] [y] [x] := ⟨rfl⟩
instance (priority := low) {o k : Nat} {c : List Value} : SegOf o k c (seg o k c) := ⟨rfl⟩
instance (priority := low) {o : Nat} {x c : List Value} : SplOf o x c (splice o x c) := ⟨rfl⟩
/-- An array's element, by a reckoned index. -/
theorem V.ixA (tb : Tabs P) {t E sz b o m k : Nat} {kk : IntKind} {x y : Operand} (hx : ev env x = some (Ptr b o)) (hy : ev env y = some (.int kk (k : Int)))
    (ht : lkA tb.arr t = some (m, E) := by exact rfl) (hs : lk1 tb.szs E = some sz := by exact rfl) (h0 : k < m := by omega) : Val P n env σ ⟨some dst, .indexAddr t x y, ty, pos, af, gd⟩ (Ptr b (o + k * sz)) := fun a w hF _ => by
  have ht' := tb.arrAt ht
  have h1 : (0 : Int) ≤ (k : Int) ∧ (k : Int) < (m : Int) := ⟨by omega, by omega⟩
  simp only [execOp, hF.eval hx, hF.eval hy]
  simp [Instr.indexAt, Sem.run_bind, asIntOf, run_underlying ht', Instr.sureAddr, h1, run_sizeOf (tb.szAt hs), cellAdd]
  omega

theorem V.ixA2 (tb : Tabs P) {t E sz b o m k : Nat} {kk : IntKind} {i : Int} {x y : Operand} (hx : ev env x = some (Ptr b o)) (hy : ev env y = some (.int kk i)) (hi : i = (k : Int))
    (ht : lkA tb.arr t = some (m, E) := by exact rfl) (hs : lk1 tb.szs E = some sz := by exact rfl) (h0 : k < m := by omega) : Val P n env σ ⟨some dst, .indexAddr t x y, ty, pos, af, gd⟩ (Ptr b (o + k * sz)) := by
  subst hi; exact V.ixA tb hx hy ht hs h0
/-! ### Entries seen otherwise -/
/-- Two lists of entries that say the same. -/
structure Eqv (σ τ : List Ent) : Prop where
  doms : (doms σ).Perm (doms τ)
  holds : ∀ w, (HL.doms σ).Nodup → ((∀ e, e ∈ σ → e.holds w) ↔ (∀ e, e ∈ τ → e.holds w))
theorem Eqv.refl (σ : List Ent) : Eqv σ σ := ⟨List.Perm.refl _, fun _ _ => Iff.rfl⟩
theorem Eqv.symm (h : Eqv σ τ) : Eqv τ σ := ⟨h.doms.symm, fun w hn => (h.holds w (h.doms.nodup_iff.2 hn)).symm⟩
theorem Eqv.trans {ρ : List Ent} (h : Eqv σ τ) (k : Eqv τ ρ) : Eqv σ ρ := ⟨h.doms.trans k.doms, fun w hn => (h.holds w hn).trans (k.holds w (h.doms.nodup_iff.1 hn))⟩
theorem Eqv.of_perm (h : σ.Perm τ) : Eqv σ τ := ⟨h.flatMap_right _, fun _ _ => ⟨fun k e he => k e (h.mem_iff.2 he), fun k e he => k e (h.mem_iff.1 he)⟩⟩
theorem Eqv.append {σ' τ' : List Ent} (h : Eqv σ τ) (k : Eqv σ' τ') : Eqv (σ ++ σ') (τ ++ τ') := by
  refine ⟨by rw [doms_append, doms_append]; exact h.doms.append k.doms, fun w hn => ?_⟩
  rw [doms_append, List.nodup_append] at hn
  have h1 := h.holds w hn.1
  have h2 := k.holds w hn.2.1
  constructor
  · intro q e he
    rcases List.mem_append.1 he with he | he
    · exact h1.1 (fun e he => q e (by simp [he])) e he
    · exact h2.1 (fun e he => q e (by simp [he])) e he
  · intro q e he
    rcases List.mem_append.1 he with he | he
    · exact h1.2 (fun e he => q e (by simp [he])) e he
    · exact h2.2 (fun e he => q e (by simp [he])) e he
theorem Eqv.cons (e : Ent) (h : Eqv σ τ) : Eqv (e :: σ) (e :: τ) := (Eqv.refl [e]).append h
theorem Eqv.bag : Eqv [HL.bag τ] τ := by
  refine ⟨by rw [doms_bag]; simp, fun w hn => ?_⟩
  rw [doms_bag, List.append_nil] at hn
  constructor
  · intro q e he
    have := q (HL.bag τ) (by simp)
    rw [bag_holds] at this
    exact this.1 e he
  · intro q e he
    obtain rfl : e = HL.bag τ := by simpa using he
    rw [bag_holds]
    exact ⟨q, hn⟩
theorem H.eqv (h : Eqv σ τ) (k : H W D σ w) : H W D τ w :=
  ⟨(h.holds w k.nodup).1 k.ents, h.doms.nodup_iff.1 k.nodup, fun b hb => k.own b (h.doms.mem_iff.2 hb), k.keep, k.size, k.os, k.tape, k.output⟩
theorem H.domD {D' : List Nat} (hd : ∀ b, b ∈ D ↔ b ∈ D') (k : H W D σ w) : H W D' σ w :=
  ⟨k.ents, k.nodup, fun b hb => (k.own b hb).imp (hd b).1 id, fun b h1 h2 => k.keep b h1 (fun h => h2 ((hd b).1 h)), k.size, k.os, k.tape, k.output⟩
theorem Wp.eqv {c : Code} (h : Eqv σ τ) (k : Wp P r W D n Q c env τ) : Wp P r W D n Q c env σ := fun a w hF hH => k a w hF (hH.eqv h)
theorem WpL.eqv {l : List Oper} (h : Eqv σ τ) (k : WpL P r W D n ops Q l env τ) : WpL P r W D n ops Q l env σ := fun a w hF hH => k a w hF (hH.eqv h)
theorem Out.eqv {e : Exit} (h : Eqv σ τ) (k : Out W D n Q e env τ) : Out W D n Q e env σ := fun a w hF hH => k a w hF (hH.eqv h)
theorem Ct.eqv {f : FuncId} {args : List Value} {R R' : Value → List Ent → Prop} (h : Eqv σ τ) (k : Ct P f args τ R) (hr : ∀ v σ', R v σ' → ∃ τ', R' v τ' ∧ Eqv σ' τ') : Ct P f args σ R' := fun w h0 => by
  have h1 : H0 τ w := (h0.start.eqv h).h0
  refine (k w h1).mono fun e w' ⟨v, σ', he, hR, hH⟩ => ?_
  obtain ⟨τ', hR', hE⟩ := hr v σ' hR
  exact ⟨v, τ', he, hR', (hH.eqv hE).domD (fun b => h.doms.symm.mem_iff)⟩
theorem Yd.eqv {l : Nat} {args : List Value} {R R' : Value → List Ent → Prop} (h : Eqv σ τ) (k : Yd P l args τ R) (hr : ∀ v σ', R v σ' → ∃ τ', R' v τ' ∧ Eqv σ' τ') : Yd P l args σ R' := fun w h0 => by
  have h1 : H0 τ w := (h0.start.eqv h).h0
  obtain ⟨fn, tmps, assign, body, hy, hR⟩ := k w h1
  refine ⟨fn, tmps, assign, body, hy, hR.mono fun e w' ⟨v, σ', he, hR, hH⟩ => ?_⟩
  obtain ⟨τ', hR', hE⟩ := hr v σ' hR
  exact ⟨v, τ', he, hR', (hH.eqv hE).domD (fun b => h.doms.symm.mem_iff)⟩

/-! ### Rows whose slices lie in an array -/
section
variable {α : Type}
def many (f : α → List Value) (E sz : Nat) : List Value → List (List α) → List Ent
  | v :: vs, l :: ls => rows f v E sz l :: many f E sz vs ls
  | _, _ => []
variable {f : α → List Value} {E sz : Nat}
theorem many_perm : ∀ {k : Nat} {vs : List Value} {ls : List (List α)} {v : Value} {l : List α}, vs[k]? = some v → ls[k]? = some l →
    (many f E sz vs ls).Perm (rows f v E sz l :: many f E sz (vs.eraseIdx k) (ls.eraseIdx k))
  | 0, v :: vs, l :: ls, _, _, hv, hl => by
    simp only [List.getElem?_cons_zero, Option.some.injEq] at hv hl
    subst hv hl
    exact List.Perm.refl _
  | k + 1, u :: vs, m :: ls, v, l, hv, hl => by
    simp only [List.getElem?_cons_succ] at hv hl
    simp only [many, List.eraseIdx_cons_succ]
    exact ((many_perm hv hl).cons _).trans (List.Perm.swap ..)
  | 0, [], _, _, _, hv, _ => by simp at hv
  | 0, _ :: _, [], _, _, _, hl => by simp at hl
  | k + 1, [], _, _, _, hv, _ => by simp at hv
  | k + 1, _ :: _, [], _, _, _, hl => by simp at hl
theorem many_set {k : Nat} {vs : List Value} {ls : List (List α)} {v' : Value} {l' : List α} (hv : k < vs.length) (hl : k < ls.length) :
    (many f E sz (vs.set k v') (ls.set k l')).Perm (rows f v' E sz l' :: many f E sz (vs.eraseIdx k) (ls.eraseIdx k)) := by
  have := many_perm (f := f) (E := E) (sz := sz) (k := k) (vs := vs.set k v') (ls := ls.set k l') (v := v') (l := l') (by simp [hv]) (by simp [hl])
  simpa [List.eraseIdx_set_eq] using this
/-- All rows of an array of slices. -/
def manyE (f : α → List Value) (E sz : Nat) (vs : List Value) (ls : List (List α)) : Ent := HL.bag (many f E sz vs ls)
theorem manyE.open {k : Nat} {vs : List Value} {ls : List (List α)} {v : Value} {l : List α} (hv : vs[k]? = some v) (hl : ls[k]? = some l) :
    Eqv [manyE f E sz vs ls] [rows f v E sz l, manyE f E sz (vs.eraseIdx k) (ls.eraseIdx k)] :=
  Eqv.bag.trans ((Eqv.of_perm (many_perm hv hl)).trans (Eqv.cons _ Eqv.bag.symm))
theorem manyE.shut {k : Nat} {vs : List Value} {ls : List (List α)} {v' : Value} {l' : List α} (hv : k < vs.length) (hl : k < ls.length) :
    Eqv [rows f v' E sz l', manyE f E sz (vs.eraseIdx k) (ls.eraseIdx k)] [manyE f E sz (vs.set k v') (ls.set k l')] :=
  (Eqv.bag.trans ((Eqv.of_perm (many_set hv hl)).trans (Eqv.cons _ Eqv.bag.symm))).symm
end

/-! ### Two effects that may come either way -/
theorem WpA.e2 {M : Act → World → Prop} {σS σT : List Ent} {tl : List Nat} {fuel : Nat} {listed : Array Bool} {lv : Bool} {oi oj : Oper} (i j : Nat) (hi : ops[i]? = some oi) (hj : ops[j]? = some oj)
    (h1 : Op1 P r W D n oi env σ (fun env' σ' => (∀ w, H W D σ' w → Hold σS w) ∧ (∀ w, H W D σ' w → Hold σT w) ∧ WpA P r W D n ops M σS σT tl true fuel (listed.setIfInBounds i true) env' σ'))
    (h2 : Op1 P r W D n oj env σ (fun env' σ' => (∀ w, H W D σ' w → Hold σS w) ∧ (∀ w, H W D σ' w → Hold σT w) ∧ WpA P r W D n ops M σS σT tl true fuel (listed.setIfInBounds j true) env' σ'))
    (hb : (Region.ready .any ops listed == [i, j] && ![i, j].isEmpty) = true := by kernel_rfl) (hgi : guardIs env ops oi.guard = some true := by exact rfl) (hgj : guardIs env ops oj.guard = some true := by exact rfl) :
    WpA P r W D n ops M σS σT tl lv (fuel + 1) listed env σ :=
  WpA.each [i, j] hb (by
    intro k hk
    rcases List.mem_cons.1 hk with rfl | hk
    · exact ⟨oi, hi, hgi, h1⟩
    · obtain rfl : k = j := by simpa using hk
      exact ⟨oj, hj, hgj, h2⟩)
end
end Go.HL
namespace Go.HL
open Go
section
variable {P : Program} {r : Option Nat} {W : World} {D : List Nat} {n : Fm} {Q : Post} {env : Env} {σ : List Ent}
/-- A row's slice value is nil, or it isn't. -/
theorem Wp.form {α : Type} {f : α → List Value} {v : Value} {E sz : Nat} {l : List α} {c : Code} (hm : rows f v E sz l ∈ σ) (h0 : v = .slice none 0 0 → l = [] → Wp P r W D n Q c env σ)
    (h1 : ∀ g cap, v = .slice (some ⟨g, 0, none⟩) l.length cap → Wp P r W D n Q c env σ) : Wp P r W D n Q c env σ := fun a w hF hH => by
  rcases rowsForm hm w hH with ⟨h2, h3⟩ | ⟨g, cap, h2, _⟩
  · exact h0 h2 h3 a w hF hH
  · exact h1 g cap h2 a w hF hH
end
end Go.HL
namespace Go.HL
open Go
section
variable {P : Program} {r : Option Nat} {W : World} {D : List Nat} {n : Fm} {Q : Post} {env : Env} {σ : List Ent} {ops : Array Oper}
/-! The judgements' meaning, for modules behind this one. -/
theorem Wp.of {c : Code} (h : ∀ a w, Fr n env a → H W D σ w → c.wpIn (WF r) 0 P Q a w) : Wp P r W D n Q c env σ := h
theorem Wp.get {c : Code} (h : Wp P r W D n Q c env σ) : ∀ a w, Fr n env a → H W D σ w → c.wpIn (WF r) 0 P Q a w := h
theorem WpL.of {l : List Oper} (h : ∀ a w, Fr n env a → H W D σ w → wpListIn (WF r) 0 P ops Q l a w) : WpL P r W D n ops Q l env σ := h
theorem WpL.get {l : List Oper} (h : WpL P r W D n ops Q l env σ) : ∀ a w, Fr n env a → H W D σ w → wpListIn (WF r) 0 P ops Q l a w := h
theorem Out.of {e : Exit} (h : ∀ a w, Fr n env a → H W D σ w → Q e a w) : Out W D n Q e env σ := h
theorem Out.get {e : Exit} (h : Out W D n Q e env σ) : ∀ a w, Fr n env a → H W D σ w → Q e a w := h
theorem Val.of {o : Oper} {v : Value} (h : ∀ a w, Fr n env a → Hold σ w → (execOp a.eval o).run P w = .ok (.value v) w) : Val P n env σ o v := h
theorem Val.get {o : Oper} {v : Value} (h : Val P n env σ o v) : ∀ a w, Fr n env a → Hold σ w → (execOp a.eval o).run P w = .ok (.value v) w := h
theorem Hold.get {w : World} (h : Hold σ w) : ∀ e, e ∈ σ → e.holds w := h
theorem Op1.of {o : Oper} {C : Env → List Ent → Prop} (h : ∀ (K : Act → World → Prop) (Q : Post), (∀ env' σ', C env' σ' → ∀ a w, Fr n env' a → H W D σ' w → K a w) → ∀ a w, Fr n env a → H W D σ w → opW P r o a w K Q) : Op1 P r W D n o env σ C := h
theorem Op1.get {o : Oper} {C : Env → List Ent → Prop} (h : Op1 P r W D n o env σ C) : ∀ (K : Act → World → Prop) (Q : Post), (∀ env' σ', C env' σ' → ∀ a w, Fr n env' a → H W D σ' w → K a w) → ∀ a w, Fr n env a → H W D σ w → opW P r o a w K Q := h
theorem Ct.of {f : FuncId} {args : List Value} {R : Value → List Ent → Prop} (h : ∀ w, H0 σ w → Calls P f args.toArray w fun e w' => ∃ v σ', e = .returned v ∧ R v σ' ∧ H w (doms σ) σ' w') : Ct P f args σ R := h
theorem Ct.get {f : FuncId} {args : List Value} {R : Value → List Ent → Prop} (h : Ct P f args σ R) : ∀ w, H0 σ w → Calls P f args.toArray w fun e w' => ∃ v σ', e = .returned v ∧ R v σ' ∧ H w (doms σ) σ' w' := h
end
end Go.HL
attribute [irreducible] Go.HL.Wp Go.HL.WpL Go.HL.WpA Go.HL.Out Go.HL.Op1 Go.HL.Ct Go.HL.Val Go.HL.Hold Go.HL.EqT
