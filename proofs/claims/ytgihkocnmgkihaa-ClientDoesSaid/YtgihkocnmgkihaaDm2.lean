/-
  Layer 21: the document's machine: a deed.
-/
import Derived.Test.YtgihkocnmgkihaaDm
namespace Go.Proofs.Ytgihkocnmgkihaa
open Go.HL
set_option linter.unusedSimpArgs false
set_option linter.unusedVariables false
set_option maxRecDepth 8000
/-- A slice, as it is. -/
def slz : Go.Value → Go.Value
  | .slice a l c => .slice a l c
  | _ => .slice none 0 0
def rpC (x : LV) : List Go.Value := Caucusref20Reply.c ⟨x.err, x.val, x.ver, slz x.kv⟩
theorem rpC.len (x : LV) : (rpC x).length = 4 := rfl
theorem rpC.ones : Ones rpC := fun x => by
  obtain ⟨_, _, _, _, _, kv⟩ := x
  cases kv <;> rfl
def dmE (b : Nat) (ks vs ns ids nums reps : Go.Value) (l : PM) (T : SM) (g : GB) (cnt : Int) : List Ent :=
  [cells b 65 [ks, vs, ns, ids, nums, reps, I cnt], rows strc ks 9 1 ((canon l).map (·.Key)), rows strc vs 9 1 ((canon l).map (·.Value)), rows i64c ns 3 1 ((canon l).map (·.Version)), rows i64c ids 3 1 (T.map (·.1)), rows i64c nums 3 1 (T.map (·.2.num)), rows rpC reps 39 4 (T.map (·.2)), gE g]
def DmPost (b : Nat) (s2 : CS) (rv : RV) : Go.Value → List Ent → Prop := fun r σ' => ∃ ao len cap ks vs ns ids nums reps T g, DM s2.ss T g ∧ KR (gE g) (.slice ao len cap) rv.keys ∧ r = A (Caucusref20Reply.c ⟨rv.err, rv.val, rv.ver, .slice ao len cap⟩) ∧ σ' = dmE b ks vs ns ids nums reps s2.l T g s2.cnt
theorem DmMid.post {b : Nat} {args : List Go.Value} {σ : List Ent} {s2 : CS} {rv : RV} (h : Ct Try.prog 36 args σ (fun r σ' => ∃ ao len cap ks vs ns ids nums reps T g, DM s2.ss T ((.slice ao len cap, rv.keys) :: g) ∧ r = A (Caucusref20Reply.c ⟨rv.err, rv.val, rv.ver, .slice ao len cap⟩) ∧ σ' = [rows strc (.slice ao len cap) 9 1 rv.keys, gE g, cells b 65 [ks, vs, ns, ids, nums, reps, I s2.cnt], rows strc ks 9 1 ((canon s2.l).map (·.Key)), rows strc vs 9 1 ((canon s2.l).map (·.Value)), rows i64c ns 3 1 ((canon s2.l).map (·.Version)), rows i64c ids 3 1 (T.map (·.1)), rows i64c nums 3 1 (T.map (·.2.num)), rows rpC reps 39 4 (T.map (·.2))])) : Ct Try.prog 36 args σ (DmPost b s2 rv) := by
  refine Ct.postW h ?_
  rintro v σ' W D w ⟨ao, len, cap, ks, vs, ns, ids, nums, reps, T, g, hd, rfl, rfl⟩ hH
  have hl := H.lay hH
  have hK := KR.of_bag (g := (.slice ao len cap, rv.keys) :: g) List.mem_cons_self (List.Mem.head _) w hl
  refine ⟨_, ⟨ao, len, cap, ks, vs, ns, ids, nums, reps, T, _ :: g, hd, hK, rfl, rfl⟩, hl.perm ?_⟩
  unfold dmE
  exact (List.perm_append_comm (l₁ := [_]) (l₂ := [_, _, _, _, _, _, _]))
theorem dm_bad (b : Nat) (ks vs ns ids nums reps : Go.Value) (n : Nat) (s : CS) (T : SM) (g : GB) (d : TDeed) (hi : CI n s) (hd : DM s.ss T g) (hg : goodD d = false) :
    Ct Try.prog 36 [Ptr b 0, A d.c] (dmE b ks vs ns ids nums reps s.l T g s.cnt) (DmPost b (doC s d).2 (doC s d).1) := by
  have hG := ref_good d
  rw [doC_bad hg]
  rw [hg] at hG
  unfold DmPost dmE
  refine Ct.enter Try.func36 rfl rfl fun W => ?_
  apply Wp.seq
  apply Wp.region
  refine WpL.o (O.bxA (fun p3 => ?_))
  refine WpL.o (O.al tb (fun p4 => ?_))
  apply WpL.nil
  apply Out.seqN
  apply Wp.seq
  apply Wp.seq
  apply Wp.region
  refine WpL.v (V.ldA tb) ?_
  refine WpL.o (Op1.fn rfl (hG) ?_)
  refine WpL.v (V.not) ?_
  apply WpL.nil
  apply Out.seqN
  refine Wp.cT ?_
  apply Wp.seq
  apply Wp.region
  refine WpL.v (V.bld tb) ?_
  refine WpL.o (O.stA tb ?_)
  apply WpL.nil
  apply Out.seqN
  apply Wp.ret
  apply Out.seqR
  refine Out.e1 rfl (ResIs.ca tb) ?_
  focus (exact ⟨_, _, ⟨none, 0, 0, ks, vs, ns, ids, nums, reps, T, g, hd, ⟨none, 0, 0, 0, rfl, Rd.nil⟩, rfl, rfl⟩, (by (repeat (first | exact Sel.nil | exact Rem.here | apply Sel.cons | apply Rem.there)))⟩; done)
theorem dm_free (b : Nat) (ks vs ns ids nums reps : Go.Value) (n : Nat) (s : CS) (T : SM) (g : GB) (d : TDeed) (hi : CI n s) (hd : DM s.ss T g) (hn : n ≤ 10000) (hg : goodD d = true) (h0 : d.Session = 0) :
    Ct Try.prog 36 [Ptr b 0, A d.c] (dmE b ks vs ns ids nums reps s.l T g s.cnt) (DmPost b (doC s d).2 (doC s d).1) := by
  have hG := ref_good d
  have hA := ref_any b 65 [ids, nums, reps, I (s.cnt + 1)] ks vs ns n s.l d hi.reg hn
  have hcn := hi.cnt
  rw [doC_act hg (decide_eq_true (.inl h0))]
  have hu : updC s.ss d (doA s.l d).rv = s.ss := by unfold updC; rw [if_pos h0]
  rw [hu]
  rw [hg] at hG
  refine DmMid.post ?_
  unfold dmE
  unfold rfE at hA
  unfold DR.rv
  dsimp only
  generalize doA s.l d = y at *
  refine Ct.enter Try.func36 rfl rfl fun W => ?_
  apply Wp.seq
  apply Wp.region
  refine WpL.o (O.bxA (fun p3 => ?_))
  refine WpL.o (O.al tb (fun p4 => ?_))
  apply WpL.nil
  apply Out.seqN
  apply Wp.seq
  apply Wp.seq
  apply Wp.region
  refine WpL.v (V.ldA tb) ?_
  refine WpL.o (Op1.fn rfl (hG) ?_)
  refine WpL.v (V.not) ?_
  apply WpL.nil
  apply Out.seqN
  refine Wp.cF ?_
  apply Wp.skip
  apply Out.seqN
  apply Wp.seq
  apply Wp.seq
  apply Wp.region
  refine WpL.v (V.fa tb) ?_
  refine WpL.v (V.ld1 tb) ?_
  refine WpL.v (V.cmp) ?_
  apply WpL.nil
  apply Out.seqN
  refine Wp.c (fun h0 => ?_) (fun h0 => ?_)
  (try simp only [decide_eq_true_eq, decide_eq_false_iff_not, Bool.not_eq_true', Bool.not_eq_false', Bool.not_eq_true, Bool.not_eq_false, not_true_eq_false, not_false_eq_true, reduceCtorEq] at h0)
  apply Wp.seq
  apply Wp.region
  refine WpL.v (V.mv) ?_
  refine WpL.v (V.nc) ?_
  refine WpL.v (V.fa tb) ?_
  refine WpL.v (V.ld1 tb) ?_
  refine WpL.v (V.add) ?_
  refine WpL.v (V.nc) ?_
  refine WpL.v (V.fa tb) ?_
  refine WpL.o (O.st1 tb ?_)
  apply WpL.nil
  apply Out.seqN
  apply Wp.seq
  refine Wp.dG [] ?_ (List.Sublist.cons _ (List.Sublist.cons_cons _ (List.Sublist.cons _ (List.Sublist.cons _ (List.Sublist.cons _ (List.Sublist.cons _ (List.Sublist.cons _ (List.Sublist.cons _ (List.Sublist.cons _ (List.Sublist.cons _ List.Sublist.slnil)))))))))) (List.Sublist.cons _ (List.Sublist.cons_cons _ (List.Sublist.cons _ (List.Sublist.cons _ (List.Sublist.cons _ (List.Sublist.cons _ (List.Sublist.cons _ (List.Sublist.cons _ (List.Sublist.cons _ (List.Sublist.cons _ List.Sublist.slnil))))))))))
  refine WpA.tF 0 rfl (V.mv) ?_
  refine WpA.tF 1 rfl (V.nc) ?_
  refine WpA.tF 2 rfl (V.fa tb) ?_
  refine WpA.tF 3 rfl (V.ldA tb) ?_
  refine WpA.oS 4 rfl (Op1.callT rfl (hA) (by (repeat (first | exact Sel.nil | exact Rem.here | apply Sel.cons | apply Rem.there))) ?_)
  rintro v1 s2 ⟨ao26, ⟨len26, ⟨cap26, ⟨ks'26, ⟨vs'26, ⟨ns'26, ⟨rfl, rfl⟩⟩⟩⟩⟩⟩⟩
  refine incat ⟨?_, ?_, ?_⟩
  exact holdT
  exact holdT
  refine WpA.oS 5 rfl (O.stA tb ⟨?_, ?_, ?_⟩)
  exact holdT
  exact holdT
  refine WpA.ou ?_
  apply Out.seqN
  apply Wp.ret
  apply Out.seqR
  refine Out.e1 rfl (ResIs.ca tb) ?_
  focus (exact ⟨_, _, ⟨_, _, _, _, _, _, ids, nums, reps, T, g, hd.more _, rfl, rfl⟩, (by (repeat (first | exact Sel.nil | exact Rem.here | apply Sel.cons | apply Rem.there)))⟩; done)
  (try simp only [decide_eq_true_eq, decide_eq_false_iff_not, Bool.not_eq_true', Bool.not_eq_false', Bool.not_eq_true, Bool.not_eq_false, not_true_eq_false, not_false_eq_true, reduceCtorEq] at h0)
  (exfalso; omega)
end Go.Proofs.Ytgihkocnmgkihaa
