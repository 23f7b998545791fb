/-
  An eighth part of the heap logic: maps whose keys are structs.
-/
import Derived.Test.YtgihkocnmgkihaaHeapB
namespace Go.HL
open Go
section
variable {P : Program}
/-- A key that may be one. -/
def CheckT (P : Program) (n : Nat) (T : TypeId) (v : Value) : Prop := ∀ e w, (Instr.checkKey e n T v).run P w = .ok () w
theorem CheckT.int {n : Nat} {T : TypeId} {k k' : IntKind} {x : Int} (h : P.underlying T = some (.int k')) : CheckT P (n + 1) T (.int k x) := fun e w => by
  simp [Instr.checkKey, run_underlying h]
theorem CheckT.str {n : Nat} {T : TypeId} {x : ByteArray} (h : P.underlying T = some .string) : CheckT P (n + 1) T (.string x) := fun e w => by
  simp [Instr.checkKey, run_underlying h]
theorem CheckT.bool {n : Nat} {T : TypeId} {x : Bool} (h : P.underlying T = some .bool) : CheckT P (n + 1) T (.bool x) := fun e w => by
  simp [Instr.checkKey, run_underlying h]
def CheckFs (P : Program) (n : Nat) (xs : List Value) : List (Nat × Nat) → Prop
  | [] => True
  | f :: fs => (∃ u, Reads P f.1 f.2 xs u ∧ CheckT P n f.1 u) ∧ CheckFs P n xs fs
theorem run_forIn_unit {α : Type} {g : α → PUnit → Sem (ForInStep PUnit)} {w : World} : ∀ (l : List α), (∀ x, x ∈ l → (g x PUnit.unit).run P w = .ok (ForInStep.yield PUnit.unit) w) →
    (forIn l PUnit.unit g : Sem PUnit).run P w = .ok PUnit.unit w
  | [], _ => by simp
  | x :: l, h => by
    rw [List.forIn_cons]
    simp only [Sem.run_bind, h x (List.mem_cons_self ..), Result.andThen_ok]
    exact run_forIn_unit l (fun y hy => h y (List.mem_cons_of_mem _ hy))
theorem CheckFs.get {n : Nat} {xs : List Value} : ∀ {l : List (Nat × Nat)}, CheckFs P n xs l → ∀ f, f ∈ l → ∃ u, Reads P f.1 f.2 xs u ∧ CheckT P n f.1 u
  | [], _, _, h => by cases h
  | _ :: _, hc, f, h => by
    rcases List.mem_cons.1 h with rfl | h
    · exact hc.1
    · exact CheckFs.get hc.2 f h
theorem CheckT.struct {n : Nat} {T : TypeId} {xs : List Value} {l : List (Nat × Nat)} (hb : fieldsB P T l = true) (h : CheckFs P n xs l) : CheckT P (n + 1) T (.agg xs.toArray) := fun e w => by
  unfold fieldsB at hb
  split at hb
  · rename_i fs hu
    simp only [Bool.and_eq_true, beq_iff_eq, Bool.not_eq_true'] at hb
    obtain ⟨⟨rfl, hn⟩, hp⟩ := hb
    unfold Instr.checkKey
    rw [Sem.run_bind, run_underlying hu]
    simp only [Result.andThen_ok]
    rw [← Array.forIn_toList]
    rw [Sem.run_bind, run_forIn_unit fs.toList (fun f hf => ?_)]
    · rfl
    obtain ⟨u, hr, hc⟩ := h.get (f.type, f.offset) (List.mem_map.2 ⟨f, hf, rfl⟩)
    have hnm : f.name ≠ "_" := by simpa using List.all_eq_true.1 hn f hf
    simp only [hnm, ne_eq, not_false_eq_true, if_true]
    simp only [Sem.run_bind, hr.part w, Result.andThen_ok, hc e w, Sem.run_pure]
  · cases hb
def plainV : Value → Bool
  | .int .. | .string _ | .bool _ => true
  | _ => false
theorem sameBits_plain {v : Value} (h : plainV v = true) (n : Nat) : Instr.sameBits n v v = true := by
  cases v <;> simp_all [plainV, Instr.sameBits]
  case string s => exact (MapKept.bytes_beq _ _).2 rfl
theorem sameBits_agg {xs : List Value} (h : xs.all plainV = true) (n : Nat) : Instr.sameBits (n + 1) (.agg xs.toArray) (.agg xs.toArray) = true := by
  simp only [Instr.sameBits, BEq.rfl, Bool.true_and, List.all_eq_true]
  rintro ⟨a, b⟩ hab
  have hz : ∀ (l : List Value) (p : Value × Value), p ∈ l.zip l → p.1 = p.2 ∧ p.1 ∈ l := by
    intro l
    induction l with
    | nil => intro p hp; simp at hp
    | cons y l ih =>
      intro p hp
      rw [List.zip_cons_cons] at hp
      rcases List.mem_cons.1 hp with rfl | hp
      · exact ⟨rfl, List.mem_cons_self ..⟩
      · exact ⟨(ih p hp).1, List.mem_cons_of_mem _ (ih p hp).2⟩
  obtain ⟨h1, h2⟩ := hz xs (a, b) (by simpa using hab)
  simp only at h1 h2
  subst h1
  exact sameBits_plain (List.all_eq_true.1 h a h2) n
theorem KeyOk.struct {α : Type} [DecidableEq α] {kt : TypeId} {fs : Array Field} {c : α → List Value} (hu : P.underlying kt = some (.struct fs)) (heq : ∀ a b, EqT P 10000 kt (A (c a)) (A (c b)) (decide (a = b)))
    (hc : ∀ a, CheckT P 10000 kt (A (c a))) (hp : ∀ a, (c a).all plainV = true) : KeyOk P kt (fun a => A (c a)) where
  check e a w := hc a e w
  eq a b w := by
    have := heq a b
    unfold EqT at this
    exact this w
  und := ⟨_, hu, .inr fun a b => by simp [Instr.sameNow]⟩
  bits a := sameBits_agg (hp a) 9999
end
section
variable {α β : Type} [DecidableEq α]
theorem fnd_shift (k : α) : ∀ (l : List (α × β)) (i : Nat), fnd k l i = (fnd k l 0).map fun p => (p.1 + i, p.2)
  | [], i => by simp [fnd]
  | p :: l, i => by
    simp only [fnd]
    split
    · simp
    · rw [fnd_shift k l (i + 1), fnd_shift k l (0 + 1)]
      cases fnd k l 0 with
      | none => rfl
      | some q => simp; omega
theorem mget_nil (k : α) : mget ([] : List (α × β)) k = none := rfl
theorem mget_cons (p : α × β) (l : List (α × β)) (k : α) : mget (p :: l) k = if k = p.1 then some p.2 else mget l k := by
  unfold mget
  simp only [fnd]
  split
  · rfl
  · rw [fnd_shift k l (0 + 1)]
    cases fnd k l 0 <;> simp
theorem mput_nil (k : α) (v : β) : mput ([] : List (α × β)) k v = [(k, v)] := rfl
theorem mput_cons (p : α × β) (l : List (α × β)) (k : α) (v : β) : mput (p :: l) k v = if k = p.1 then (k, v) :: l else p :: mput l k v := by
  unfold mput
  simp only [fnd]
  by_cases h : k = p.1
  · simp [h]
  · rw [if_neg h, if_neg h, fnd_shift k l (0 + 1)]
    cases fnd k l 0 with
    | none => simp
    | some q => simp
theorem mget_mput (l : List (α × β)) (k k' : α) (v : β) : mget (mput l k v) k' = if k' = k then some v else mget l k' := by
  induction l with
  | nil => rw [mput_nil, mget_cons]
  | cons p l ih =>
    rw [mput_cons]
    by_cases h : k = p.1
    · rw [if_pos h, mget_cons, mget_cons]
      by_cases h' : k' = k
      · simp [h']
      · rw [if_neg h', if_neg h', if_neg (by rw [← h]; exact h')]
    · rw [if_neg h, mget_cons, mget_cons, ih]
      by_cases h' : k' = k
      · subst h'; simp [h]
      · simp [h']
/-- Where a key stands, or will stand. -/
def mix (l : List (α × β)) (k : α) : Nat := match fnd k l 0 with | some (i, _) => i | none => l.length
theorem mput_at (l : List (α × β)) (k : α) (v : β) : (mput l k v)[mix l k]? = some (k, v) := by
  unfold mput mix
  cases h : fnd k l 0 with
  | none => simp
  | some p =>
    have := (fnd_some h).2
    simp only [Nat.sub_zero] at this
    have hlt := (List.getElem?_eq_some_iff.1 this).1
    simp [hlt]
theorem mput_set (l : List (α × β)) (k : α) (v0 v : β) : (mput l k v0).set (mix l k) (k, v) = mput l k v := by
  unfold mput mix
  cases h : fnd k l 0 with
  | none => simp
  | some p => simp
variable {P : Program} {kf : α → Value} {vf : β → Value} {kt : TypeId}
variable {r : Option Nat} {W : World} {D : List Nat} {n : Fm} {env : Env} {σ σ' : List Ent} {w : World} {l : List (α × β)}
variable {dst : Nat} {ty : TypeId} {pos : String} {af : Array Edge} {gd : Option (Nat × Bool)} {C : Env → List Ent → Prop}
/-- A map's block, the stamp of one entry known. -/
def MapStamp (w : World) (b : Nat) (l : List (Value × Value)) (i s : Nat) : Prop :=
  ∃ es clock, w.heap[b]? = some (.map es clock) ∧ es.toList.map (fun e => (e.key, e.val)) = l ∧ (∀ e, e ∈ es.toList → e.born < clock) ∧ (es.toList.map (·.born)).Nodup ∧ (es.toList.map (·.born))[i]? = some s
@[irreducible] def mapSt (b : Nat) (l : List (Value × Value)) (i s : Nat) : Ent where
  dom := [b]
  holds w := MapStamp w b l i s
  loc w w' h hw := by
    obtain ⟨es, clock, hb, rest⟩ := hw
    exact ⟨es, clock, by rw [h b (by simp)]; exact hb, rest⟩
  lt w h x hx := by
    have : x = b := by simpa using hx
    subst this
    obtain ⟨es, clock, hb, _⟩ := h
    exact (Array.getElem?_eq_some_iff.1 hb).1
theorem mapSt_dom (b l i s) : (mapSt b l i s).dom = [b] := by unfold mapSt; rfl
theorem mapSt_holds (b l i s w) : (mapSt b l i s).holds w ↔ MapStamp w b l i s := by unfold mapSt; rfl
/-- A map whose entry at k is under way. -/
def mapP (kf : α → Value) (vf : β → Value) (b : Nat) (l : List (α × β)) (k : α) (v0 : β) (s : Nat) : Ent := mapSt b ((mput l k v0).map fun p => (kf p.1, vf p.2)) (mix l k) s
omit [DecidableEq α] in
theorem mapK_dom (b : Nat) : (mapK kf vf b l).dom = [b] := by unfold mapK; rw [mapB_dom]
theorem mapP_dom (b : Nat) (k : α) (v0 : β) (s : Nat) : (mapP kf vf b l k v0 s).dom = [b] := by unfold mapP; rw [mapSt_dom]
theorem H.putE {e e' : Ent} {b : Nat} {o : Obj} (h : H W D σ w) (u : Upd σ e e' σ') (hd : e.dom = [b]) (hd' : e'.dom = [b]) (ho : e'.holds (w.putObj b o)) : H W D σ' (w.putObj b o) := by
  refine h.upd u ⟨fun x hx => ?_, by simp [doms, hd'], fun x hx => ?_, fun k hk hn => ?_, by simp, rfl, rfl, rfl⟩
  · obtain rfl : x = _ := by simpa using hx
    exact ho
  · left; rw [hd]; simpa [doms, hd'] using hx
  · exact World.putObj_heap_other (by simpa [hd] using hn)
theorem run_mapEntry {t e : TypeId} (z0 : β) (hK : KeyOk P kt kf) (ht : mapTB P t kt e = true) (hz : ∀ w, (zeroValue e).run P w = .ok (vf z0) w) {b : Nat} {k : α} (h : MapHolds w b (l.map fun p => (kf p.1, vf p.2))) :
    ∃ o s, (Instr.mapEntry t (.map (some b)) (kf k)).run P w = .ok (.tuple #[vf ((mget l k).getD z0), I (s : Nat)]) (w.putObj b o) ∧ MapStamp (w.putObj b o) b ((mput l k ((mget l k).getD z0)).map fun p => (kf p.1, vf p.2)) (mix l k) s := by
  obtain ⟨es, clock, hb, hl, h1, h2⟩ := h
  have hlt := (Array.getElem?_eq_some_iff.1 hb).1
  have hset : ∀ o, (setObj b o).run P w = .ok () (w.putObj b o) := fun o => by simp [setObj, Sem.run, hb, World.putObj]
  have hes : es.toList.length = l.length := by have := congrArg List.length hl; simpa using this
  unfold Instr.mapEntry mput mix mget
  simp only [Sem.run_bind, run_underlying (mapTB_spec ht), Result.andThen_ok, MapKept.run_getObj_map hb, hK.check, run_findKey hK k w hl]
  cases hf : fnd k l 0 with
  | none =>
    refine ⟨.map (es.push { key := kf k, val := vf z0, born := clock }) (clock + 1), clock, by simp [hset, hz, goInt], ?_⟩
    refine ⟨_, _, World.putObj_heap_same hlt, by simp [hl], ?_, ?_, ?_⟩
    · intro x hx
      simp only [Array.toList_push, List.mem_append, List.mem_singleton] at hx
      rcases hx with hx | rfl
      · have := h1 x hx; omega
      · simp
    · simp only [Array.toList_push, List.map_append, List.map_cons, List.map_nil]
      rw [List.nodup_append]
      refine ⟨h2, by simp, ?_⟩
      intro x hx y hy
      simp only [List.mem_singleton] at hy
      subst hy
      obtain ⟨z, hz, rfl⟩ := List.mem_map.1 hx
      have := h1 z hz
      omega
    · simp only [Array.toList_push, List.map_append, List.map_cons, List.map_nil]
      have hs : es.size = l.length := by simpa using hes
      rw [List.getElem?_append_right (by simp [hs])]
      simp [hs]
  | some q =>
    obtain ⟨i, v0⟩ := q
    have hi := (fnd_some hf).2
    simp only [Nat.sub_zero] at hi
    have hil := (List.getElem?_eq_some_iff.1 hi).1
    have hlt2 : i < es.size := by rw [← Array.length_toList, hes]; exact hil
    have hex : ∃ x, es[i]? = some x := ⟨_, Array.getElem?_eq_getElem hlt2⟩
    obtain ⟨x0, hx0⟩ := hex
    have h3 : (es.toList.map (fun e => (e.key, e.val)))[i]? = some (kf k, vf v0) := by rw [hl]; simp [hi]
    have hx0' : es.toList[i]? = some x0 := by simpa using hx0
    have hk0 : x0.key = kf k := by
      rw [List.getElem?_map, hx0'] at h3
      simp at h3; exact h3.1
    have hv0 : x0.val = vf v0 := by
      rw [List.getElem?_map, hx0'] at h3
      simp at h3; exact h3.2
    refine ⟨.map (es.modify i fun e => { e with key := kf k }) clock, x0.born, ?_, ?_⟩
    · simp [hx0, hk0, Instr.keyThatStays, hK.bits k, hset, goInt]
    · refine ⟨_, _, World.putObj_heap_same hlt, ?_, ?_, ?_, ?_⟩
      · rw [modify_toList]
        apply List.ext_getElem?
        intro j
        have hj : (es.toList.map (fun e => (e.key, e.val)))[j]? = (l.map fun p => (kf p.1, vf p.2))[j]? := by rw [hl]
        simp only [List.getElem?_map, List.getElem?_modify, List.getElem?_set, Option.map_some, Option.getD_some] at hj ⊢
        by_cases e : i = j
        · subst e
          simp [hx0', hil, hv0]
        · simp only [e, if_false]
          cases hq : es.toList[j]? with
          | none => rw [hq] at hj; simpa using hj
          | some x => rw [hq] at hj; simpa using hj
      · intro x hx
        rw [modify_toList] at hx
        obtain ⟨j, hj⟩ := List.getElem?_of_mem hx
        rw [List.getElem?_modify] at hj
        cases hq : es.toList[j]? with
        | none => rw [hq] at hj; simp at hj
        | some y =>
          rw [hq] at hj
          have hy := h1 y (List.mem_of_getElem? hq)
          split at hj <;> (simp only [Option.map_eq_map, Option.map_some, Option.some.injEq] at hj; subst hj; exact hy)
      · have : (es.modify i fun e => { e with key := kf k }).toList.map (·.born) = es.toList.map (·.born) := by
          rw [modify_toList]
          apply List.ext_getElem?
          intro j
          simp only [List.getElem?_map, List.getElem?_modify]
          cases es.toList[j]? with
          | none => rfl
          | some y => split <;> rfl
        rw [this]; exact h2
      · rw [modify_toList]
        simp only [List.getElem?_map, List.getElem?_modify, hx0']
        simp
theorem run_entryStore {t : TypeId} {b s : Nat} {k : α} {v0 v : β} (h : MapStamp w b ((mput l k v0).map fun p => (kf p.1, vf p.2)) (mix l k) s) :
    ∃ o, (Instr.entryStore t (.map (some b)) (I (s : Nat)) (vf v)).run P w = .ok () (w.putObj b o) ∧ MapHolds (w.putObj b o) b ((mput l k v).map fun p => (kf p.1, vf p.2)) := by
  obtain ⟨es, clock, hb, hl, h1, h2, h3⟩ := h
  have hlt := (Array.getElem?_eq_some_iff.1 hb).1
  have hset : ∀ o, (setObj b o).run P w = .ok () (w.putObj b o) := fun o => by simp [setObj, Sem.run, hb, World.putObj]
  have hat := mput_at l k v0
  have hmx := (List.getElem?_eq_some_iff.1 hat).1
  have hes : es.toList.length = (mput l k v0).length := by have := congrArg List.length hl; simpa using this
  have hlt2 : mix l k < es.size := by rw [← Array.length_toList, hes]; exact hmx
  have hex : ∃ x, es[mix l k]? = some x := ⟨_, Array.getElem?_eq_getElem hlt2⟩
  obtain ⟨x0, hx0⟩ := hex
  have hx0' : es.toList[mix l k]? = some x0 := by simpa using hx0
  have hb0 : x0.born = s := by
    rw [List.getElem?_map, hx0'] at h3
    simpa using h3
  have hfi : es.findIdx? (fun e => (e.born : Int) == (s : Int)) = some (mix l k) := by
    cases hq : es.findIdx? (fun e => (e.born : Int) == (s : Int)) with
    | none =>
      have := Array.findIdx?_eq_none_iff.1 hq x0 (Array.mem_of_getElem? hx0)
      rw [hb0] at this
      simp at this
    | some j =>
      obtain ⟨hj, hp, _⟩ := Array.findIdx?_eq_some_iff_getElem.1 hq
      have hbj : es[j].born = s := by
        have : ((es[j].born : Nat) : Int) = (s : Int) := by simpa using hp
        exact_mod_cast this
      have hj1 : (es.toList.map (·.born))[j]? = some s := by
        rw [List.getElem?_map]
        have : es.toList[j]? = some es[j] := by simp [hj]
        rw [this]; simp [hbj]
      have hnd := (List.getElem?_inj (i := j) (j := mix l k) (by simpa using hj) h2).1 (by rw [hj1, h3])
      rw [hnd]
  refine ⟨.map (es.modify (mix l k) fun e => { e with val := vf v }) clock, ?_, ?_⟩
  · unfold Instr.entryStore
    simp only [Sem.run_bind, MapKept.run_getObj_map hb, Result.andThen_ok]
    simp [asInt, asIntOf, hfi, hset]
  · refine ⟨_, _, World.putObj_heap_same hlt, ?_, ?_, ?_⟩
    · rw [modify_toList, ← mput_set l k v0 v]
      apply List.ext_getElem?
      intro j
      have hj : (es.toList.map (fun e => (e.key, e.val)))[j]? = ((mput l k v0).map fun p => (kf p.1, vf p.2))[j]? := by rw [hl]
      simp only [List.getElem?_map, List.getElem?_modify, List.getElem?_set] at hj ⊢
      by_cases e : mix l k = j
      · subst e
        rw [hx0', hat] at hj
        simp at hj
        simp [hx0', hmx, hj.1]
      · simp only [e, if_false]
        cases hq : es.toList[j]? with
        | none => rw [hq] at hj; simpa using hj
        | some x => rw [hq] at hj; simpa using hj
    · intro x hx
      rw [modify_toList] at hx
      obtain ⟨j, hj⟩ := List.getElem?_of_mem hx
      rw [List.getElem?_modify] at hj
      cases hq : es.toList[j]? with
      | none => rw [hq] at hj; simp at hj
      | some y =>
        rw [hq] at hj
        have hy := h1 y (List.mem_of_getElem? hq)
        split at hj <;> (simp only [Option.map_eq_map, Option.map_some, Option.some.injEq] at hj; subst hj; exact hy)
    · have : (es.modify (mix l k) fun e => { e with val := vf v }).toList.map (·.born) = es.toList.map (·.born) := by
        rw [modify_toList]
        apply List.ext_getElem?
        intro j
        simp only [List.getElem?_map, List.getElem?_modify]
        cases es.toList[j]? with
        | none => rfl
        | some y => split <;> rfl
      rw [this]; exact h2
/-- The entry at k is made ready. -/
theorem Op1.entM {t e : TypeId} {x y : Operand} {b : Nat} {k : α} {l : List (α × β)} {σ' : Nat → List Ent} (z0 : β) (hK : KeyOk P kt kf) (ht : mapTB P t kt e = true) (hz : ∀ w, (zeroValue e).run P w = .ok (vf z0) w) (hx : ev env x = some (.map (some b))) (hy : ev env y = some (kf k))
    (hm : ∀ s, Upd σ (mapK kf vf b l) (mapP kf vf b l k ((mget l k).getD z0) s) (σ' s)) (hC : ∀ s : Nat, C ((dst, .tuple #[vf ((mget l k).getD z0), I (s : Int)]) :: env) (σ' s)) (hd : Nat.blt dst n.n = true := by exact rfl) :
    Op1 P r W D n ⟨some dst, .mapEntry t x y, ty, pos, af, gd⟩ env σ C := Op1.of fun K Q hK' a w hF hH => by
  have hmem : mapK kf vf b l ∈ σ := by obtain ⟨l, r, rfl, _⟩ := (hm 0).split; simp
  have h := hH.mem hmem
  unfold mapK at h
  rw [mapB_holds] at h
  obtain ⟨o, s, hrun, ho⟩ := run_mapEntry (k := k) z0 hK ht hz h
  refine opW_value rfl ?_ (hK' _ _ (hC s) _ _ (hF.put hd _) (H.putE hH (hm s) (mapK_dom b) (mapP_dom b k _ s) (by unfold mapP; rw [mapSt_holds]; exact ho)))
  simp only [execOp, hF.eval hx, hF.eval hy, Sem.run_bind, hrun, Result.andThen_ok, Sem.run_pure]
/-- And stored. -/
theorem Op1.entS {t : TypeId} {x y z : Operand} {b s : Nat} {k : α} {v0 v : β} {l : List (α × β)} (hx : ev env x = some (.map (some b))) (hy : ev env y = some (I (s : Int))) (hz : ev env z = some (vf v))
    (hm : Upd σ (mapP kf vf b l k v0 s) (mapK kf vf b (mput l k v)) σ') (hC : C env σ') : Op1 P r W D n ⟨none, .entryStore t x y z, ty, pos, af, gd⟩ env σ C := Op1.of fun K Q hK' a w hF hH => by
  have hmem : mapP kf vf b l k v0 s ∈ σ := by obtain ⟨l, r, rfl, _⟩ := hm.split; simp
  have h := hH.mem hmem
  unfold mapP at h
  rw [mapSt_holds] at h
  obtain ⟨o, hrun, ho⟩ := run_entryStore (P := P) (t := t) (v := v) h
  refine opW_skip rfl ?_ (hK' _ _ hC _ _ (hF.putNone undef) (H.putE hH hm (mapP_dom b k v0 s) (mapK_dom b) (by unfold mapK; rw [mapB_holds]; exact ho)))
  simp only [execOp, hF.eval hx, hF.eval hy, hF.eval hz, Sem.run_bind, hrun, Result.andThen_ok, Sem.run_pure]
theorem Val.lookD {l : List (α × β)} {t e : TypeId} {x y : Operand} {b : Nat} {k : α} (z0 : β) (hK : KeyOk P kt kf) (ht : mapTB P t kt e = true) (hz : ∀ w, (zeroValue e).run P w = .ok (vf z0) w)
    (hx : ev env x = some (.map (some b))) (hy : ev env y = some (kf k)) (hm : mapK kf vf b l ∈ σ) : Val P n env σ ⟨some dst, .lookup t x y false, ty, pos, af, gd⟩ (vf ((mget l k).getD z0)) := by
  have h := Val.look (P := P) (n := n) (env := env) (σ := σ) (dst := dst) (ty := ty) (pos := pos) (af := af) (gd := gd) (l := l) (k := k) hK ht hz hx hy hm
  cases hg : mget l k with
  | none => rw [hg] at h; exact h
  | some v => rw [hg] at h; exact h
/-- m[k], the entry at k being under way. -/
theorem Val.lookP {l : List (α × β)} {t e : TypeId} {x y : Operand} {b s : Nat} {k : α} {v0 : β} (hK : KeyOk P kt kf) (ht : mapTB P t kt e = true)
    (hx : ev env x = some (.map (some b))) (hy : ev env y = some (kf k)) (hm : mapP kf vf b l k v0 s ∈ σ) : Val P n env σ ⟨some dst, .lookup t x y false, ty, pos, af, gd⟩ (vf v0) := Val.of fun a w hF hH => by
  have h := hH.get _ hm
  unfold mapP at h
  rw [mapSt_holds] at h
  obtain ⟨es, clock, hb, hl, _⟩ := h
  have hg : mget (mput l k v0) k = some v0 := by rw [mget_mput]; simp
  unfold mget at hg
  obtain ⟨q, hq, hq2⟩ := Option.map_eq_some_iff.1 hg
  simp only [execOp, hF.eval hx, hF.eval hy]
  unfold Instr.lookup
  simp only [Sem.run_bind, run_underlying (mapTB_spec ht), Result.andThen_ok, MapKept.run_getObj_map hb, Sem.run_pure, hK.check, run_findKey hK k w hl, hq, Option.map_some, hq2]
  simp
end
end Go.HL
