/-
  A fourteenth part of the heap logic: what is taken out of a map.
-/
import Derived.Test.YtgihkocnmgkihaaHeapH
namespace Go.HL
open Go
section
variable {α β : Type} [DecidableEq α]
theorem mdel_nil (k : α) : mdel ([] : List (α × β)) k = [] := rfl
theorem mdel_cons (p : α × β) (l : List (α × β)) (k : α) : mdel (p :: l) k = if k = p.1 then l else p :: mdel l k := by
  unfold mdel
  simp only [fnd]
  by_cases h : k = p.1
  · simp [h]
  · rw [if_neg h, if_neg h, fnd_shift k l (0 + 1)]
    cases fnd k l 0 with
    | none => simp
    | some q => simp
theorem mget_out {l : List (α × β)} {k : α} (h : k ∉ l.map (·.1)) : mget l k = none := by
  induction l with
  | nil => rfl
  | cons p l ih =>
    rw [List.map_cons, List.mem_cons, not_or] at h
    rw [mget_cons, if_neg h.1, ih h.2]
theorem mdel_sub (l : List (α × β)) (k : α) : (mdel l k).Sublist l := by
  induction l with
  | nil => exact List.Sublist.slnil
  | cons p l ih =>
    rw [mdel_cons]
    split
    · exact List.sublist_cons_self _ _
    · exact ih.cons_cons _
theorem mdel_nodup {l : List (α × β)} {k : α} (h : (l.map (·.1)).Nodup) : ((mdel l k).map (·.1)).Nodup := h.sublist ((mdel_sub l k).map _)
theorem mput_mem {l : List (α × β)} {k x : α} {v : β} (h : x ∈ (mput l k v).map (·.1)) : x = k ∨ x ∈ l.map (·.1) := by
  induction l with
  | nil => rw [mput_nil] at h; exact .inl (by simpa using h)
  | cons p l ih =>
    rw [mput_cons] at h
    split at h
    · rcases List.mem_cons.1 h with h | h
      · exact .inl h
      · exact .inr (List.mem_cons_of_mem _ h)
    · rcases List.mem_cons.1 h with h | h
      · exact .inr (by rw [h]; exact List.mem_cons_self ..)
      · rcases ih h with h | h
        · exact .inl h
        · exact .inr (List.mem_cons_of_mem _ h)
theorem mput_nodup {l : List (α × β)} {k : α} {v : β} (h : (l.map (·.1)).Nodup) : ((mput l k v).map (·.1)).Nodup := by
  induction l with
  | nil => rw [mput_nil]; simp
  | cons p l ih =>
    rw [List.map_cons, List.nodup_cons] at h
    rw [mput_cons]
    split
    · rename_i e
      subst e
      rw [List.map_cons, List.nodup_cons]; exact h
    · rename_i e
      rw [List.map_cons, List.nodup_cons]
      refine ⟨fun hc => ?_, ih h.2⟩
      rcases mput_mem hc with hc | hc
      · exact e hc.symm
      · exact h.1 hc
theorem mget_mdel {l : List (α × β)} {k k' : α} (h : (l.map (·.1)).Nodup) : mget (mdel l k) k' = if k' = k then none else mget l k' := by
  induction l with
  | nil => rw [mdel_nil, mget_nil]; split <;> rfl
  | cons p l ih =>
    rw [List.map_cons, List.nodup_cons] at h
    rw [mdel_cons]
    by_cases hk : k = p.1
    · rw [if_pos hk, mget_cons]
      by_cases h' : k' = k
      · rw [if_pos h', h', hk]; exact mget_out h.1
      · rw [if_neg h', if_neg (by rw [← hk]; exact h')]
    · rw [if_neg hk, mget_cons, mget_cons, ih h.2]
      by_cases h' : k' = k
      · subst h'; simp [hk]
      · simp [h']
end
section
variable {P : Program} {r : Option Nat} {W : World} {D : List Nat} {n : Fm} {Q : Post} {env : Env} {σ σ' : List Ent} {w : World} {dst : Nat} {ty : TypeId} {pos : String} {af : Array Edge} {gd : Option (Nat × Bool)} {C : Env → List Ent → Prop}
variable {α β : Type} [DecidableEq α] {kf : α → Value} {vf : β → Value} {kt : TypeId} {l : List (α × β)}
/-- delete(m, k). -/
theorem run_delete {t t2 e ty : TypeId} (hK : KeyOk P kt kf) (ht : mapTB P t kt e = true) {b : Nat} {k : α} (h : MapHolds w b (l.map fun p => (kf p.1, vf p.2))) :
    ∃ o, (Builtin.delete_ #[t, t2] ty #[.map (some b), kf k]).run P w = .ok (.tuple #[]) (w.putObj b o) ∧ MapHolds (w.putObj b o) b ((mdel l k).map fun p => (kf p.1, vf p.2)) := by
  obtain ⟨es, clock, hb, hl, h1, h2⟩ := h
  have hlt := (Array.getElem?_eq_some_iff.1 hb).1
  have hset : ∀ o, (setObj b o).run P w = .ok () (w.putObj b o) := fun o => by simp [setObj, Sem.run, hb, World.putObj]
  have hes : es.toList.length = l.length := by have := congrArg List.length hl; simpa using this
  unfold Builtin.delete_ mdel
  simp only [List.getElem?_toArray, List.getElem?_cons_zero, List.getElem?_cons_succ, Sem.run_bind, run_underlying (mapTB_spec ht), Result.andThen_ok, MapKept.run_getObj_map hb, hK.check, run_findKey hK k w hl]
  cases hf : fnd k l 0 with
  | none =>
    refine ⟨.map es clock, by simp [hset], ?_⟩
    exact ⟨_, _, World.putObj_heap_same hlt, hl, h1, h2⟩
  | some q =>
    obtain ⟨i, v0⟩ := q
    have hi := (fnd_some hf).2
    simp only [Nat.sub_zero] at hi
    have hil := (List.getElem?_eq_some_iff.1 hi).1
    refine ⟨.map (es.eraseIdxIfInBounds i) clock, by simp [hset], ?_⟩
    have hts : (es.eraseIdxIfInBounds i).toList = es.toList.eraseIdx i := by simp
    refine ⟨_, _, World.putObj_heap_same hlt, ?_, fun x hx => ?_, ?_⟩
    · dsimp only
      rw [hts, Go.ChangeMaps.map_eraseIdx, hl, Go.ChangeMaps.map_eraseIdx]
    · rw [hts] at hx
      exact h1 x ((List.eraseIdx_sublist _ _).subset hx)
    · rw [hts]
      exact h2.sublist ((List.eraseIdx_sublist _ _).map _)
theorem Op1.delM {t t2 e : TypeId} {x y : Operand} {b : Nat} {k : α} (hK : KeyOk P kt kf) (ht : mapTB P t kt e = true) (hx : ev env x = some (.map (some b))) (hy : ev env y = some (kf k))
    (hm : Upd σ (mapK kf vf b l) (mapK kf vf b (mdel l k)) σ') (hC : C env σ') : Op1 P r W D n ⟨none, .call ⟨.builtin .delete, #[x, y], #[t, t2]⟩, ty, pos, af, gd⟩ env σ C := Op1.of fun K Q hK' a w hF hH => by
  have hmem : mapK kf vf b l ∈ σ := by obtain ⟨l, r, rfl, _⟩ := hm.split; simp
  have h := hH.mem hmem
  unfold mapK at h
  rw [mapB_holds] at h
  obtain ⟨o, hrun, ho⟩ := run_delete (k := k) (t2 := t2) (ty := ty) hK ht h
  refine opW_value (v := .tuple #[]) rfl ?_ (hK' _ _ hC _ _ (hF.putNone _) (hH.setMap hm ho))
  simp [execOp, resolve, invoke, builtin, hF.eval hx, hF.eval hy, hrun]
end
end Go.HL
