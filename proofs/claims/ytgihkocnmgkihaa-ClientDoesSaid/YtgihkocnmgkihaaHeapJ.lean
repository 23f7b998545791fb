/-
  A tenth part of the heap logic: a range over a map.
-/
import Derived.Maps.RangeRun
import Derived.Test.YtgihkocnmgkihaaHeapB
namespace Go.HL
open Go
section
variable {α β : Type}
variable {P : Program} {kf : α → Value} {vf : β → Value} {kt : TypeId}
variable {r : Option Nat} {W : World} {D : List Nat} {n : Fm} {env : Env} {σ σ' : List Ent} {w : World} {l todo : List (α × β)} {Q : Post}
variable {dst : Nat} {ty : TypeId} {pos : String} {af : Array Edge} {gd : Option (Nat × Bool)} {C : Env → List Ent → Prop}
/-- A map's block, and a range over it under way: what is still to come. -/
def MapTodo (w : World) (b q : Nat) (l todo : List (Value × Value)) (last : Option (Value × Value)) : Prop :=
  ∃ es clock since seen c0, w.heap[b]? = some (.map es clock) ∧ es.toList.map (fun e => (e.key, e.val)) = l ∧ (∀ e, e ∈ es.toList → e.born < clock) ∧ (es.toList.map (·.born)).Nodup ∧
    w.heap[q]? = some (.mapIter (some b) since seen c0) ∧ (∀ e, e ∈ es.toList → e.born < since) ∧ since ≤ c0 ∧ since ≤ clock ∧ (leftOf es seen).toList.map (fun e => (e.key, e.val)) = todo ∧
    ∀ p, last = some p → c0 = clock ∧ ∃ (e : MapEntry) (seen' : Array Nat), e ∈ es.toList ∧ seen = seen'.push e.born ∧ (e.key, e.val) = p
@[irreducible] def mapT (b q : Nat) (l todo : List (Value × Value)) (last : Option (Value × Value)) : Ent where
  dom := [b, q]
  holds w := MapTodo w b q l todo last
  loc w w' h hw := by
    obtain ⟨es, clock, since, seen, c0, hb, h1, h2, h3, hq, rest⟩ := hw
    exact ⟨es, clock, since, seen, c0, by rw [h b (by simp)]; exact hb, h1, h2, h3, by rw [h q (by simp)]; exact hq, rest⟩
  lt w h x hx := by
    obtain ⟨es, clock, since, seen, c0, hb, h1, h2, h3, hq, rest⟩ := h
    have : x = b ∨ x = q := by simpa using hx
    rcases this with rfl | rfl
    · exact (Array.getElem?_eq_some_iff.1 hb).1
    · exact (Array.getElem?_eq_some_iff.1 hq).1
theorem mapT_dom (b q l todo last) : (mapT b q l todo last).dom = [b, q] := by unfold mapT; rfl
theorem mapT_holds (b q l todo last w) : (mapT b q l todo last).holds w ↔ MapTodo w b q l todo last := by unfold mapT; rfl
def mapR (kf : α → Value) (vf : β → Value) (b q : Nat) (l todo : List (α × β)) (last : Option (α × β)) : Ent := mapT b q (l.map fun p => (kf p.1, vf p.2)) (todo.map fun p => (kf p.1, vf p.2)) (last.map fun p => (kf p.1, vf p.2))
theorem mapR_dom (b q : Nat) {last : Option (α × β)} : (mapR kf vf b q l todo last).dom = [b, q] := by unfold mapR; rw [mapT_dom]
theorem mapK_dom' (b : Nat) : (mapK kf vf b l).dom = [b] := by unfold mapK; rw [mapB_dom]
theorem MapTodo.ne {b q : Nat} {l todo : List (Value × Value)} {last : Option (Value × Value)} (h : MapTodo w b q l todo last) : b ≠ q := by
  obtain ⟨es, clock, since, seen, c0, hb, h1, h2, h3, hq, rest⟩ := h
  rintro rfl
  rw [hb] at hq; cases hq
/-- The range is over. -/
theorem H.endT {q b : Nat} {last : Option (α × β)} (h : H W D (mapR kf vf b q l todo last :: σ) w) : H W D (mapK kf vf b l :: σ) w := by
  have hm := h.ents _ (List.mem_cons_self ..)
  unfold mapR at hm
  rw [mapT_holds] at hm
  have hd : (doms (mapK kf vf b l :: σ)).Sublist (doms (mapR kf vf b q l todo last :: σ)) := by
    rw [doms_cons, doms_cons, mapR_dom, mapK_dom']
    exact List.Sublist.append (List.Sublist.cons_cons _ (List.nil_sublist _)) (List.Sublist.refl _)
  refine ⟨fun e he => ?_, h.nodup.sublist hd, fun x hx => h.own x (hd.subset hx), h.keep, h.size, h.os, h.tape, h.output⟩
  rcases List.mem_cons.1 he with rfl | he
  · unfold mapK; rw [mapB_holds]
    obtain ⟨es, clock, since, seen, c0, hb, h1, h2, h3, hq, rest⟩ := hm
    exact ⟨es, clock, hb, h1, h2, h3⟩
  · exact h.ents e (List.mem_cons_of_mem _ he)
theorem Wp.endT {c : Code} {q b : Nat} {last : Option (α × β)} (h : Wp P r W D n Q c env (mapK kf vf b l :: σ)) : Wp P r W D n Q c env (mapR kf vf b q l todo last :: σ) := Wp.see (fun _ hw => hw.endT) h
theorem WpL.endT {c : List Oper} {ops : Array Oper} {q b : Nat} {last : Option (α × β)} (h : WpL P r W D n ops Q c env (mapK kf vf b l :: σ)) : WpL P r W D n ops Q c env (mapR kf vf b q l todo last :: σ) := WpL.see (fun _ hw => hw.endT) h
theorem Out.endT {e : Exit} {q b : Nat} {last : Option (α × β)} (h : Out W D n Q e env (mapK kf vf b l :: σ)) : Out W D n Q e env (mapR kf vf b q l todo last :: σ) := Out.see (fun _ hw => hw.endT) h
/-- range m, at its beginning. -/
theorem Op1.rngM {t e : TypeId} {x : Operand} {b : Nat} {σ' : Nat → List Ent} (ht : mapTB P t kt e = true) (hx : ev env x = some (.map (some b)))
    (hm : ∀ q, Upd σ (mapK kf vf b l) (mapR kf vf b q l l none) (σ' q)) (hC : ∀ q, C ((dst, Ptr q 0) :: env) (σ' q)) (hd : Nat.blt dst n.n = true := by exact rfl) :
    Op1 P r W D n ⟨some dst, .range t x, ty, pos, af, gd⟩ env σ C := Op1.of fun K Q hK' a w hF hH => by
  have hmem : mapK kf vf b l ∈ σ := by obtain ⟨l, r, rfl, _⟩ := (hm 0).split; simp
  have h := hH.mem hmem
  unfold mapK at h
  rw [mapB_holds] at h
  obtain ⟨es, clock, hb, hl, h1, h2⟩ := h
  have hlt := (Array.getElem?_eq_some_iff.1 hb).1
  have hrun := run_range_map (P := P) w t kt e b es clock (mapTB_spec ht) hb
  refine opW_value (w' := w.alloc (.mapIter (some b) clock #[] clock)) rfl ?_ (hK' _ _ (hC w.heap.size) _ _ (hF.put hd _) ?_)
  · simp only [execOp, hF.eval hx, Sem.run_bind, hrun, Result.andThen_ok, Sem.run_pure]
  · refine hH.upd (hm _) ⟨fun x hx => ?_, ?_, fun x hx => ?_, fun k hk hn => MapKept.heap_alloc w _ |>.2 k hk, by simp, rfl, rfl, rfl⟩
    · obtain rfl : x = _ := by simpa using hx
      unfold mapR
      rw [mapT_holds]
      refine ⟨es, clock, clock, #[], clock, ((MapKept.heap_alloc w _).2 b hlt).trans hb, hl, h1, h2, World.alloc_heap_new _ _, h1, Nat.le_refl _, Nat.le_refl _, ?_, fun p hp => by cases hp⟩
      rw [← hl]; congr 1; unfold leftOf; rw [Array.toList_filter, List.filter_eq_self]; intro x _; simp
    · simp only [doms, List.flatMap_cons, List.flatMap_nil, List.append_nil, mapR_dom, List.nodup_cons, List.mem_cons, List.not_mem_nil, or_false, not_false_eq_true, List.nodup_nil, and_true]
      omega
    · simp only [doms, List.flatMap_cons, List.flatMap_nil, List.append_nil, mapR_dom, List.mem_cons, List.not_mem_nil, or_false] at hx
      rcases hx with rfl | rfl
      · left; rw [mapK_dom']; simp
      · exact .inr (Nat.le_refl _)
theorem left_push {es : Array MapEntry} {seen : Array Nat} {e : MapEntry} (hn : (es.toList.map (·.born)).Nodup) {j : Nat} (hj : (leftOf es seen).toList[j]? = some e) :
    (leftOf es (seen.push e.born)).toList = (leftOf es seen).toList.eraseIdx j := by
  have h1 : (leftOf es (seen.push e.born)).toList = (leftOf es seen).toList.filter (fun x => !(x.born == e.born)) := by
    unfold leftOf
    rw [Array.toList_filter, Array.toList_filter, List.filter_filter]
    congr 1
    funext x
    simp only [Array.contains_push, Bool.not_or]
    rw [Bool.and_comm]
  rw [h1]
  have hn2 : ((leftOf es seen).toList.map (·.born)).Nodup := by
    unfold leftOf
    rw [Array.toList_filter]
    exact hn.sublist (List.Sublist.map _ List.filter_sublist)
  generalize (leftOf es seen).toList = L at hj hn2
  clear h1 hn
  induction L generalizing j with
  | nil => simp at hj
  | cons x L ih =>
    simp only [List.map_cons, List.nodup_cons] at hn2
    cases j with
    | zero =>
      simp only [List.getElem?_cons_zero, Option.some.injEq] at hj
      subst hj
      rw [List.filter_cons, if_neg (by simp), List.eraseIdx_cons_zero, List.filter_eq_self]
      intro y hy
      have : y.born ≠ x.born := fun hc => hn2.1 (by rw [← hc]; exact List.mem_map.2 ⟨y, hy, rfl⟩)
      simpa using this
    | succ j =>
      rw [List.getElem?_cons_succ] at hj
      have hne : x.born ≠ e.born := fun hc => hn2.1 (by rw [hc]; exact List.mem_map.2 ⟨e, List.mem_of_getElem? hj, rfl⟩)
      rw [List.filter_cons, if_pos (by simpa using hne), List.eraseIdx_cons_succ, ih hj hn2.2]
/-- The next one; there is none. -/
theorem Op1.nxtM0 {x : Operand} {b q : Nat} {last : Option (α × β)} (hx : ev env x = some (Ptr q 0)) (hm : mapR kf vf b q l [] last ∈ σ) (hC : C ((dst, .tuple #[.bool false]) :: env) σ) (hd : Nat.blt dst n.n = true := by exact rfl) :
    Op1 P r W D n ⟨some dst, .next x false, ty, pos, af, gd⟩ env σ C := Op1.of fun K Q hK' a w hF hH => by
  have h := hH.mem hm
  unfold mapR at h
  rw [mapT_holds] at h
  obtain ⟨es, clock, since, seen, c0, hb, h1, h2, h3, hq, h4, h5, h6, h7, _⟩ := h
  simp only [List.map_nil, List.map_eq_nil_iff] at h7
  rcases run_next_at (P := P) w ty q b since c0 seen es clock hq hb h4 h5 with ⟨h0, hrun⟩ | ⟨e, he, _⟩
  · refine opW_value rfl ?_ (hK' _ _ hC _ _ (hF.put hd _) hH)
    simp only [execOp, hF.eval hx, Sem.run_bind, hrun, Result.andThen_ok, Sem.run_pure]
  · rw [h7] at he; cases he
/-- The next one: whichever the tape says. -/
theorem Op1.nxtM1 {x : Operand} {b q : Nat} {last : Option (α × β)} {σ' : Nat → α × β → List Ent} (h0 : todo ≠ []) (hx : ev env x = some (Ptr q 0)) (hm : ∀ j p, Upd σ (mapR kf vf b q l todo last) (mapR kf vf b q l (todo.eraseIdx j) (some p)) (σ' j p))
    (hC : ∀ j p, todo[j]? = some p → C ((dst, .tuple #[.bool true, kf p.1, vf p.2]) :: env) (σ' j p)) (hd : Nat.blt dst n.n = true := by exact rfl) :
    Op1 P r W D n ⟨some dst, .next x false, ty, pos, af, gd⟩ env σ C := Op1.of fun K Q hK' a w hF hH => by
  have hne0 : ∃ p, p ∈ todo := List.exists_mem_of_ne_nil _ h0
  have hmem : mapR kf vf b q l todo last ∈ σ := by obtain ⟨p, _⟩ := hne0; obtain ⟨l, r, rfl, _⟩ := (hm 0 p).split; simp
  have h := hH.mem hmem
  unfold mapR at h
  rw [mapT_holds] at h
  have hne := h.ne
  obtain ⟨es, clock, since, seen, c0, hb, h1, h2, h3, hq, h4, h5, h6, h7, _⟩ := h
  rcases run_next_at (P := P) w ty q b since c0 seen es clock hq hb h4 h5 with ⟨h00, hrun⟩ | ⟨e, he, w1, hw1, hrun⟩
  · exfalso
    have : leftOf es seen = #[] := Array.eq_empty_of_size_eq_zero h00
    rw [this] at h7
    simp at h7
    exact h0 h7
  · obtain ⟨j, hj⟩ := List.getElem?_of_mem he
    have h8 : (todo.map fun p => (kf p.1, vf p.2))[j]? = some (e.key, e.val) := by rw [← h7, List.getElem?_map, hj]; rfl
    rw [List.getElem?_map] at h8
    obtain ⟨p, hp, hpe⟩ := Option.map_eq_some_iff.1 h8
    simp only [Prod.mk.injEq] at hpe
    have hrun' := hrun
    rw [← hpe.1, ← hpe.2] at hrun'
    have hH1 : H W D σ w1 := by
      rcases hw1 with rfl | rfl
      · exact hH
      · exact hH.drew
    have hq1 : w1.heap[q]? = some (.mapIter (some b) since seen c0) := by rcases hw1 with rfl | rfl <;> exact hq
    have hb1 : w1.heap[b]? = some (.map es clock) := by rcases hw1 with rfl | rfl <;> exact hb
    have hlt := (Array.getElem?_eq_some_iff.1 hq1).1
    refine opW_value rfl ?_ (hK' _ _ (hC j p hp) _ _ (hF.put hd _) (hH1.upd (w1 := w1.putObj q (.mapIter (some b) since (seen.push e.born) clock)) (hm j p) ?_))
    · simp only [execOp, hF.eval hx, Sem.run_bind, hrun', Result.andThen_ok, Sem.run_pure]; rfl
    · refine ⟨fun x hx => ?_, ?_, fun x hx => ?_, fun k hk hn => ?_, by simp, rfl, rfl, rfl⟩
      · obtain rfl : x = _ := by simpa using hx
        unfold mapR
        rw [mapT_holds]
        refine ⟨es, clock, since, seen.push e.born, clock, (World.putObj_heap_other hne).trans hb1, h1, h2, h3, World.putObj_heap_same hlt, h4, h6, h6, ?_, fun p' hp' => ⟨rfl, e, seen, ?_, rfl, ?_⟩⟩
        rotate_left
        · unfold leftOf at he; rw [Array.toList_filter] at he; exact (List.mem_filter.1 he).1
        · simp only [Option.map_some, Option.some.injEq] at hp'; rw [← hp', hpe.1, hpe.2]
        rw [left_push h3 hj, Go.ChangeMaps.map_eraseIdx, h7, ← Go.ChangeMaps.map_eraseIdx]
      · simp only [doms, List.flatMap_cons, List.flatMap_nil, List.append_nil, mapR_dom, List.nodup_cons, List.mem_cons, List.not_mem_nil, or_false, not_false_eq_true, List.nodup_nil, and_true]
        exact hne
      · left; simpa [doms, mapR_dom] using hx
      · exact World.putObj_heap_other (by simp only [mapR_dom, List.mem_cons, List.not_mem_nil, or_false, not_or] at hn; exact hn.2)
/-- The round's key and value. -/
theorem Val.entM {x : Operand} {b q : Nat} {p : α × β} (hx : ev env x = some (Ptr q 0)) (hm : mapR kf vf b q l todo (some p) ∈ σ) : Val P n env σ ⟨some dst, .entry x, ty, pos, af, gd⟩ (.tuple #[kf p.1, vf p.2]) := Val.of fun a w hF hH => by
  have h := hH.get _ hm
  unfold mapR at h
  rw [mapT_holds] at h
  obtain ⟨es, clock, since, seen, c0, hb, h1, h2, h3, hq, h4, h5, h6, h7, h8⟩ := h
  obtain ⟨rfl, e, seen', he, rfl, hp⟩ := h8 _ rfl
  simp only [Prod.mk.injEq] at hp
  have hrun := run_entry_at (P := P) w q b since seen' es c0 e hq hb he h3
  rw [hp.1, hp.2] at hrun
  simp only [execOp, hF.eval hx, Sem.run_bind, hrun, Result.andThen_ok, Sem.run_pure]
end
section
variable {P : Program} {r : Option Nat} {W : World} {D : List Nat} {n : Fm} {Q : Post} {env : Env} {σ : List Ent}
/-- Where ways meet: behind what is under way. -/
theorem Wp.mtI {α : Type} {x y : Code} (ks : List Nat) (J : α → Prop) (E : α → Env) (S : α → List Ent) {env0 : Env} {σ0 σ1 : List Ent}
    (hx : ∀ K : Act → World → Prop, (∀ z, J z → True → ∀ a w, Fr n (E z ++ env0) a → H W D (S z ++ σ0) w → K a w) → Wp P r W D n (Exit.then K Q) x env σ)
    (hy : ∀ z, J z → Wp P r W D n Q y (E z ++ env0) (S z ++ σ0))
    (hk : Keep env ks env0 := by (repeat (first | exact Keep.nil | apply Keep.cons rfl))) (hs : Sel σ σ1 σ0 := by (repeat (first | exact Sel.nil | exact Rem.here | apply Sel.cons | apply Rem.there))) : Wp P r W D n (Exit.then (y.wpIn (WF r) 0 P Q) Q) x env σ :=
  Wp.of fun a w hF hH => wpIn_mono (Wp.get (hx (fun a w => ∃ z, J z ∧ Fr n (E z ++ env0) a ∧ H W D (S z ++ σ0) w) (fun z h1 _ _ _ h2 h3 => ⟨z, h1, h2, h3⟩)) a w hF hH) fun e a' w' hq => by
    cases e with
    | normal =>
      obtain ⟨z, hM, hf, hh⟩ := hq
      exact Wp.get (hy z hM) a' w' hf hh
    | _ => exact hq
end
def fieldIs (P : Program) (s f off T : Nat) : Bool := match P.underlying s with
  | some (.struct fs) => match fs[f]? with
    | some fd => fd.offset == off && fd.type == T
    | none => false
  | _ => false
/-- A part of a struct that is a value. -/
theorem V.fldA {P : Program} (tb : Tabs P) {n : Fm} {env : Env} {σ : List Ent} {dst : Nat} {ty : TypeId} {pos : String} {af : Array Edge} {gd : Option (Nat × Bool)} {s f off T q : Nat} {x : Operand} {cs c : List Value} (hx : ev env x = some (A cs)) (hf : fieldIs P s f off T = true)
    (h1 : lk1 tb.agg T = some q := by exact rfl) (hl : Nat.ble (off + q) cs.length = true := by exact rfl) (hs : SegOf off q cs c := by infer_instance) : Val P n env σ ⟨some dst, .field s x f, ty, pos, af, gd⟩ (A c) := Val.of fun a w hF _ => by
  unfold fieldIs at hf
  split at hf
  · rename_i fs hu
    split at hf
    · rename_i fd hfd
      simp only [Bool.and_eq_true, beq_iff_eq] at hf
      obtain ⟨h2, h3⟩ := hf
      have hr : Reads P T off cs (A c) := Reads.agg (tb.aggAt h1) hl hs.eq
      have hi : (Instr.field s (A cs) f).run P w = .ok (A c) w := by
        unfold Instr.field
        simp only [Sem.run_bind, run_underlying hu, Result.andThen_ok, hfd, asAgg, Sem.run_pure, h2, h3, hr.part w]
      simp only [execOp, hF.eval hx, hi, Sem.run_bind, Result.andThen_ok, Sem.run_pure]
    · cases hf
  · cases hf
end Go.HL
