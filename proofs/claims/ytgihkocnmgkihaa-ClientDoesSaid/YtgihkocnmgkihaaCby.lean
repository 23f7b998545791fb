/-
  Layer 21: the bytes of a machine.
-/
import Derived.Test.YtgihkocnmgkihaaSes3
namespace Go.Proofs.Ytgihkocnmgkihaa
open Go.HL
set_option linter.unusedSimpArgs false
set_option linter.unusedVariables false
set_option maxRecDepth 8000
/-- The sessions, rising. -/
def idsC (ss : SSL) : List Int := (ss.map (·.1)).mergeSort fun x y => decide (x ≤ y)
theorem sids_ids (sl : SM) : sids sl = idsC (fgt sl) := by
  unfold sids idsC fgt
  rw [List.map_map]
  rfl
def sesB (s : CS) (ids : List Int) : List UInt8 := ids.flatMap fun k => sessB k (s.get k)
def bytesC (s : CS) : List UInt8 := sesB s (idsC s.ss) ++ bytesR (canon s.l)
structure CZ (s : CS) : Prop where
  reg : RZ s.l
  ses : ∀ k x, mget s.ss k = some x → x.2.Small
theorem CZ.zero : CZ CS.z := ⟨RZ.zero, fun k x h => by rw [show CS.z.ss = [] from rfl, mget_nil] at h; cases h⟩
theorem RV.Small.z : RV.z.Small := ⟨by decide, by decide, by decide, fun k h => by cases h⟩
theorem CZ.get {s : CS} (h : CZ s) (k : Int) : (s.get k).2.Small := by
  unfold CS.get
  cases hm : mget s.ss k with
  | none => exact RV.Small.z
  | some x => exact h.ses k x hm
theorem CI.gets {n : Nat} {s : CS} (h : CI n s) (k : Int) : 0 ≤ (s.get k).1 ∧ (s.get k).1 ≤ 1099511627776 ∧ (s.get k).2.keys.length ≤ n := by
  unfold CS.get
  cases hm : mget s.ss k with
  | none => exact ⟨Int.le_refl _, by show (0 : Int) ≤ _; decide, Nat.zero_le _⟩
  | some x =>
    have := h.ses k x hm
    show 0 ≤ x.1 ∧ x.1 ≤ _ ∧ x.2.keys.length ≤ n
    omega
theorem mget_memI {β : Type} {l : List (Int × β)} {k : Int} : k ∈ l.map (·.1) ↔ (mget l k).isSome = true := by
  induction l with
  | nil => simp [mget_nil]
  | cons q l ih =>
    rw [List.map_cons, List.mem_cons, mget_cons]
    by_cases e : k = q.1
    · simp [e]
    · rw [if_neg e, ← ih]; simp [e]
theorem idsC_mem {ss : SSL} {k : Int} : k ∈ idsC ss ↔ (mget ss k).isSome = true := by
  rw [← mget_memI]
  unfold idsC
  exact (List.mergeSort_perm _ _).mem_iff
theorem sessB_len {n : Nat} {s : CS} (hi : CI n s) (hz : CZ s) (hn : n ≤ 82) {k : Int} (hk : k ≤ 1099511627776) : (sessB k (s.get k)).length ≤ 9092 := by
  unfold sessB
  have h1 := natI_len (n := k) (by omega)
  have h2 := hi.gets k
  have h3 := natI_len (n := (s.get k).1) (by omega)
  have h4 := repB_len (hz.get k) (by omega)
  simp only [List.length_append]
  omega
theorem sesB_len {n : Nat} {s : CS} (hi : CI n s) (hz : CZ s) (hn : n ≤ 82) : ∀ {ids : List Int}, (∀ k ∈ ids, k ≤ 1099511627776) → (sesB s ids).length ≤ 9092 * ids.length
  | [], _ => by simp [sesB]
  | k :: ids, h => by
    have h1 := sessB_len hi hz hn (h k (by simp))
    have h2 := sesB_len hi hz hn (ids := ids) fun q hq => h q (by simp [hq])
    unfold sesB at *
    rw [List.flatMap_cons, List.length_append, List.length_cons]
    omega
theorem ids_le {n : Nat} {s : CS} (hi : CI n s) {k : Int} (hk : k ∈ idsC s.ss) : 1 ≤ k ∧ k ≤ 1099511627776 := by
  obtain ⟨x, hx⟩ := Option.isSome_iff_exists.1 (idsC_mem.1 hk)
  have := hi.ses k x hx
  omega
theorem idsC_len (ss : SSL) : (idsC ss).length = ss.length := by unfold idsC; simp
theorem sesB_snoc (s : CS) (ids : List Int) (k : Int) : sesB s (ids ++ [k]) = sesB s ids ++ sessB k (s.get k) := by simp [sesB]
set_option maxHeartbeats 4000000 in
theorem client_bytes (b rb rm sm : Nat) (n : Nat) (s : CS) (sl : SM) (g : GB) (hi : CI n s) (hz : CZ s) (hh : HI s.ss sl g) (hn : n ≤ 82) :
    Ct Try.prog 37 [Ptr b 0] (cmE b rb rm sm s.l sl g s.cnt) (fun r σ' => r = S (bytesC s) ∧ σ' = cmE b rb rm sm s.l sl g s.cnt) := by
  have hB := reg_bytes rb rm n s.l hi.reg hz.reg (by omega)
  have hP := client_sessions (Ptr b 0) rfl
  have hR := client_registry b (Ptr rb 0) (.map (some sm)) s.cnt
  have hids : sids sl = idsC s.ss := by rw [sids_ids, hh.fo]
  have hil := hi.len
  have hsl : sl.length ≤ 100000 := by
    have := congrArg List.length hids
    rw [sids_len, idsC_len] at this
    omega
  have hidl : (idsC s.ss).length ≤ 82 := by rw [idsC_len]; omega
  have hrl := bytesR_len (Small.canon hi.reg hz.reg (by omega))
  have hcl := canon_len s.l
  have hrn := hi.reg.len
  have hIt (a : Nat) := sess_iterZ a b sm (Ptr rb 0) s.cnt sl hsl
  unfold bytesC
  unfold rgE at hB
  unfold cmE
  refine Ct.enter Try.func37 rfl rfl fun W => ?_
  apply Wp.seq
  apply Wp.region
  refine WpL.o (O.bx1 (fun p1 => ?_))
  refine WpL.v (V.as) ?_
  apply WpL.nil
  apply Out.seqN
  apply Wp.seq
  apply Wp.region
  refine WpL.v (V.bld tb) ?_
  refine WpL.o (O.bxR u8c 5 1 rfl (fun p7 => ?_))
  refine WpL.o (O.al tb (fun p3 => ?_))
  refine WpL.o (O.st1 tb ?_)
  apply WpL.nil
  apply Out.seqN
  apply Wp.seq
  apply Wp.seq
  apply Wp.region
  refine WpL.v (V.ld1 tb) ?_
  refine WpL.o (Op1.callT rfl (hP) (by (repeat (first | exact Sel.nil | exact Rem.here | apply Sel.cons | apply Rem.there))) ?_)
  rintro v0 s1 ⟨a9, ⟨rfl, rfl⟩⟩
  refine incat ?_
  apply WpL.nil
  apply Out.seqN
  apply Wp.block
  refine Wp.rgZ (hIt a9) (fun _ => ()) (fun y : Go.Value × List UInt8 => [cells p3 80 [Ptr p7 0], cells p1 59 [Ptr b 0], cells p7 83 (OctaveSink.c ⟨y.1⟩), rows u8c y.1 5 1 y.2, gE g]) (fun k y => k ≤ (idsC s.ss).length ∧ y.2 = sesB s ((idsC s.ss).take k)) (fun _ _ _ => False) (.slice none 0 0, []) rfl ⟨Nat.zero_le _, rfl⟩ ?_ ?_ ?_
  · rintro k ⟨id, num⟩ ⟨v, xs⟩ b' lp rec ⟨hk, hxs⟩ ⟨hst, rfl⟩ hr W' D' K hK
    dsimp only at hk hxs hst
    unfold seZ
    dsimp only [List.cons_append, List.nil_append]
    have hsk : (sids sl)[k]? = some id ∧ num = (lookS sl id).num := by
      unfold sessL at hst
      rw [List.getElem?_map] at hst
      cases hq : (sids sl)[k]? with
      | none => rw [hq] at hst; simp at hst
      | some q =>
        rw [hq] at hst
        simp only [Option.map_some, Option.some.injEq, Prod.mk.injEq] at hst
        exact ⟨by rw [hst.1], by rw [← hst.2, hst.1]⟩
    obtain ⟨hidk, hnum⟩ := hsk
    rw [hids] at hidk
    have hle := ids_le hi (List.mem_of_getElem? hidk)
    have hlt := (List.getElem?_eq_some_iff.1 hidk).1
    have hlk := hh.look s.l s.cnt id
    have hgn := hi.gets id
    have hgz := hz.get id
    have hsm := sesB_len hi hz hn (ids := (idsC s.ss).take k) (fun q hq => (ids_le hi (List.mem_of_mem_take hq)).2)
    rw [List.length_take, ← hxs] at hsm
    have hxl : xs.length ≤ 745544 := by
      have : Min.min k (idsC s.ss).length ≤ 82 := by omega
      have := Nat.mul_le_mul_left 9092 this
      omega
    have hsn : xs ++ (natI id ++ natI num) ++ repB (s.get id).2 = sesB s ((idsC s.ss).take (k + 1)) := by
      rw [take_snocS hidk, sesB_snoc, ← hxs, hnum]
      unfold sessB
      rw [show (lookS sl id).num = (s.get id).1 from congrArg Prod.fst hlk]
      simp only [List.append_assoc]
    have h2 : (lookS sl id).num ≤ 9223372036854775807 := by
      rw [show (lookS sl id).num = (s.get id).1 from congrArg Prod.fst hlk]
      omega
    have hn1 := natI_len (n := id) (by omega)
    have hn2 := natI_len (n := num) (by omega)
    have hrv : (⟨(lookS sl id).err, (lookS sl id).val, (lookS sl id).ver, (lookS sl id).keys⟩ : RV) = (s.get id).2 := congrArg Prod.snd hlk
    refine Wp.fact (hh.form id (by repeat first | exact List.Mem.head _ | apply List.Mem.tail)) fun hfm => ?_
    obtain ⟨ao0, len0, cap0, hx1, hKR, hx3⟩ := hfm
    have hlx : (mget sl id).getD LV.z = lookS sl id := rfl
    generalize lookS sl id = x at *
    obtain ⟨num0, err0, val0, ver0, keys0, kv0⟩ := x
    dsimp only at hrv hKR hx1 hx3 h2 hnum
    rw [← hrv] at hgz hgn hsn
    have hRp (v : Go.Value) (xs : List UInt8) (hl : xs.length ≤ 790000) := client_reply p7 v xs (gE g) ⟨err0, val0, ver0, keys0⟩ kv0 hgz (by have := hgn.2.2; show keys0.length ≤ 82; have h9 : keys0.length ≤ n := hgn.2.2; omega) hKR hl
    unfold RV.c at hRp
    dsimp only at hRp
    subst hnum
    apply Wp.seq
    apply Wp.region
    refine WpL.v (V.as) ?_
    apply WpL.nil
    apply Out.seqN
    apply Wp.region
    refine WpL.v (V.as) ?_
    apply WpL.nil
    refine Out.bg (by assumption) ?_
    apply Wp.block
    apply Wp.seq
    apply Wp.region
    refine WpL.v (V.ld1 tb) ?_
    refine WpL.v (V.mv) ?_
    refine WpL.v (V.mv) ?_
    refine WpL.o (O.lit tb (fun p15 => ?_))
    refine WpL.o (Op1.callT rfl (sinkNat2 _ _ _ _ _ _ ?_ ?_ ?_) (by (repeat (first | exact Sel.nil | exact Rem.here | apply Sel.cons | apply Rem.there))) ?_)
    (first | with_reducible assumption | omega | (simp only [List.length_append, List.length_cons, List.length_nil, List.length_map] at *; omega) | (focus (simp; done)))
    (first | with_reducible assumption | omega | (simp only [List.length_append, List.length_cons, List.length_nil, List.length_map] at *; omega) | (focus (simp; done)))
    (first | with_reducible assumption | omega | (simp only [List.length_append, List.length_cons, List.length_nil, List.length_map] at *; omega) | (focus (simp; done)))
    rintro v0 s1 ⟨v'16, ⟨rfl, rfl⟩⟩
    refine incat ?_
    apply WpL.nil
    apply Out.seqN
    refine Wp.dG [] ?_ (List.Sublist.cons _ (List.Sublist.cons _ (List.Sublist.cons _ (List.Sublist.cons _ (List.Sublist.cons_cons _ (List.Sublist.cons_cons _ (List.Sublist.cons _ (List.Sublist.cons _ (List.Sublist.cons _ List.Sublist.slnil))))))))) (List.Sublist.cons _ (List.Sublist.cons _ (List.Sublist.cons _ (List.Sublist.cons _ (List.Sublist.cons_cons _ (List.Sublist.cons_cons _ (List.Sublist.cons _ (List.Sublist.cons _ (List.Sublist.cons _ List.Sublist.slnil)))))))))
    refine WpA.tF 0 rfl (V.ld1 tb) ?_
    refine WpA.tF 1 rfl (V.ld1 tb) ?_
    refine WpA.tF 2 rfl (V.nc) ?_
    refine WpA.tF 3 rfl (V.fa tb) ?_
    refine WpA.tF 5 rfl (V.mv) ?_
    refine WpA.oS 4 rfl (Op1.vv (V.ld1 tb) ⟨?_, ?_, ?_⟩)
    exact holdT
    exact holdT
    refine WpA.oS 6 rfl (Op1.vv (Val.lookE (l := sl) (k := id) (vf := vL) LV.z hlx kokI map94 zero98 rfl rfl (by (repeat first | exact List.Mem.head _ | apply List.Mem.tail))) ⟨?_, ?_, ?_⟩)
    exact holdT
    exact holdT
    refine WpA.tF 7 rfl (V.fldA tb (off := 1) (T := 32) rfl rfl) ?_
    refine WpA.oS 8 rfl (Op1.callT rfl (hRp _ _ ?_) (by (repeat (first | exact Sel.nil | exact Rem.here | apply Sel.cons | apply Rem.there))) ?_)
    (first | with_reducible assumption | omega | (simp only [List.length_append, List.length_cons, List.length_nil, List.length_map] at *; omega) | (focus (simp; done)))
    rintro v2 s3 ⟨v'25, ⟨rfl, rfl⟩⟩
    refine incat ⟨?_, ?_, ?_⟩
    exact holdT
    exact holdT
    refine WpA.ou ?_
    apply Out.blockN
    exact Out.rdZ hK (_, _) ⟨by show k + 1 ≤ _; omega, hsn⟩
  · rintro k ⟨v, xs⟩ b2 ⟨hk, hxs⟩ hst
    dsimp only at hk hxs hst
    have hke : k = (idsC s.ss).length := by
      rw [hst]
      unfold sessL
      rw [List.length_map, hids]
    rw [hke, List.take_length] at hxs
    subst hxs
    have hsm := sesB_len hi hz hn (ids := idsC s.ss) (fun q hq => (ids_le hi hq).2)
    have hsm2 : (sesB s (idsC s.ss)).length ≤ 745544 := by
      have := Nat.mul_le_mul_left 9092 hidl
      omega
    unfold seZ mE
    unfold mE at hB
    dsimp only [List.cons_append, List.nil_append]
    apply Out.blockN
    apply Out.seqN
    apply Wp.seq
    refine Wp.dG [] ?_ (List.Sublist.cons _ (List.Sublist.cons_cons _ (List.Sublist.cons_cons _ (List.Sublist.cons _ (List.Sublist.cons _ (List.Sublist.cons _ (List.Sublist.cons _ (List.Sublist.cons _ (List.Sublist.cons _ (List.Sublist.cons _ (List.Sublist.cons _ List.Sublist.slnil))))))))))) (List.Sublist.cons _ (List.Sublist.cons_cons _ (List.Sublist.cons_cons _ (List.Sublist.cons _ (List.Sublist.cons _ (List.Sublist.cons _ (List.Sublist.cons _ (List.Sublist.cons _ (List.Sublist.cons _ (List.Sublist.cons _ (List.Sublist.cons _ List.Sublist.slnil)))))))))))
    refine WpA.tF 0 rfl (V.ld1 tb) ?_
    refine WpA.tF 1 rfl (V.ld1 tb) ?_
    refine WpA.oS 2 rfl (Op1.callT rfl (hR) (by (repeat (first | exact Sel.nil | exact Rem.here | apply Sel.cons | apply Rem.there))) ?_)
    rintro v0 s1 ⟨rfl, rfl⟩
    refine incat ⟨?_, ?_, ?_⟩
    exact holdT
    exact holdT
    refine WpA.oS 3 rfl (Op1.callT rfl (hB) (by (repeat (first | exact Sel.nil | exact Rem.here | apply Sel.cons | apply Rem.there))) ?_)
    rintro v2 s3 ⟨rfl, rfl⟩
    refine incat ⟨?_, ?_, ?_⟩
    exact holdT
    exact holdT
    refine WpA.oS 4 rfl (Op1.callT rfl (sinkRaw _ _ _ _ ?_) (by (repeat (first | exact Sel.nil | exact Rem.here | apply Sel.cons | apply Rem.there))) ?_)
    (first | with_reducible assumption | omega | (simp only [List.length_append, List.length_cons, List.length_nil, List.length_map] at *; omega) | (focus (simp; done)))
    rintro v4 s5 ⟨v'30, ⟨rfl, rfl⟩⟩
    refine incat ⟨?_, ?_, ?_⟩
    exact holdT
    exact holdT
    refine WpA.ou ?_
    apply Out.seqN
    apply Wp.seq
    apply Wp.region
    refine WpL.v (V.ld1 tb) ?_
    refine WpL.o (Op1.callT rfl (sinkBytes _ _ _) (by (repeat (first | exact Sel.nil | exact Rem.here | apply Sel.cons | apply Rem.there))) ?_)
    rintro v6 s7 ⟨rfl, rfl⟩
    refine incat ?_
    refine WpL.v (V.as) ?_
    apply WpL.nil
    apply Out.seqN
    apply Wp.ret
    refine Out.f1 rfl ResIs.t ⟨?_, rfl⟩
    exact rfl
  · intro _ _ _ _ _ _ h
    exact h.elim
end Go.Proofs.Ytgihkocnmgkihaa
