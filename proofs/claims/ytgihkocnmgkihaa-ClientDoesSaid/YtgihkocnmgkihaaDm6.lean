/-
  Layer 21: the document's machine, its rows of keys kept apart; a nil machine's bytes.
-/
import Derived.Test.YtgihkocnmgkihaaDm4
import Derived.Test.YtgihkocnmgkihaaDm5
namespace Go.Proofs.Ytgihkocnmgkihaa
open Go.HL
set_option linter.unusedSimpArgs false
set_option linter.unusedVariables false
set_option maxRecDepth 8000
def dmF (b : Nat) (ks vs ns ids nums reps : Go.Value) (l : PM) (T : SM) (g : GB) (cnt : Int) : List Ent :=
  [cells b 65 [ks, vs, ns, ids, nums, reps, I cnt], rows strc ks 9 1 ((canon l).map (·.Key)), rows strc vs 9 1 ((canon l).map (·.Value)), rows i64c ns 3 1 ((canon l).map (·.Version)), rows i64c ids 3 1 (T.map (·.1)), rows i64c nums 3 1 (T.map (·.2.num)), rows rpC reps 39 4 (T.map (·.2)), bag [gE g]]
theorem dmF.eqv (b : Nat) (ks vs ns ids nums reps : Go.Value) (l : PM) (T : SM) (g : GB) (cnt : Int) : Eqv (dmF b ks vs ns ids nums reps l T g cnt) (dmE b ks vs ns ids nums reps l T g cnt) := by
  unfold dmF dmE
  exact Eqv.append (σ := [_, _, _, _, _, _, _]) (Eqv.refl _) Eqv.bag
theorem KR.bag0 {e : Ent} {v : Go.Value} {k : List (List UInt8)} (h : KR e v k) : KR (bag [e]) v k := by
  obtain ⟨ao, cap, b, off, h1, h2⟩ := h
  exact ⟨ao, cap, b, off, h1, ⟨h2.length, h2.small, h2.addr, fun w hw => h2.reads w (((bag_holds _ _).1 hw).1 _ (List.mem_cons_self))⟩⟩
theorem dm_doF (b : Nat) (ks vs ns ids nums reps : Go.Value) (n : Nat) (s : CS) (T : SM) (g : GB) (d : TDeed) (hi : CI n s) (hd : DM s.ss T g) (hn : n ≤ 10000) :
    Ct Try.prog 36 [Ptr b 0, A d.c] (dmF b ks vs ns ids nums reps s.l T g s.cnt) (fun r σ' => ∃ ao len cap ks vs ns ids nums reps T g, DM (doC s d).2.ss T g ∧ KR (bag [gE g]) (.slice ao len cap) (doC s d).1.keys ∧ r = A (Caucusref20Reply.c ⟨(doC s d).1.err, (doC s d).1.val, (doC s d).1.ver, .slice ao len cap⟩) ∧ σ' = dmF b ks vs ns ids nums reps (doC s d).2.l T g (doC s d).2.cnt) := by
  refine Ct.eqv (dmF.eqv ..) (dm_do b ks vs ns ids nums reps n s T g d hi hd hn) ?_
  rintro v σ' ⟨ao, len, cap, ks, vs, ns, ids, nums, reps, T, g, h1, h2, rfl, rfl⟩
  exact ⟨_, ⟨ao, len, cap, ks, vs, ns, ids, nums, reps, T, g, h1, h2.bag0, rfl, rfl⟩, (dmF.eqv ..).symm⟩
theorem dm_bytesF (b : Nat) (ks vs ns ids nums reps : Go.Value) (n : Nat) (s : CS) (T : SM) (g : GB) (hi : CI n s) (hz : CZ s) (hn : n ≤ 82) (hd : DM s.ss T g) :
    Ct Try.prog 38 [Ptr b 0] (dmF b ks vs ns ids nums reps s.l T g s.cnt) (fun r σ' => r = S (bytesC s) ∧ σ' = dmF b ks vs ns ids nums reps s.l T g s.cnt) := by
  refine Ct.eqv (dmF.eqv ..) (dm_bytes b ks vs ns ids nums reps n s T g hi hz hd hn) ?_
  rintro v σ' ⟨rfl, rfl⟩
  exact ⟨_, ⟨rfl, rfl⟩, (dmF.eqv ..).symm⟩
theorem refSame_F (x : RV) (v v' : Go.Value) (g : GB) (h2 : KR (bag [gE g]) v' x.keys) : Ct Try.prog 17 [A (Caucusref20Reply.c ⟨x.err, x.val, x.ver, v⟩), A (Caucusref20Reply.c ⟨x.err, x.val, x.ver, v'⟩)] [rows strc v 9 1 x.keys, bag [gE g]] (fun r σ' => r = B true ∧ σ' = [rows strc v 9 1 x.keys, bag [gE g]]) := by
  refine Ct.known (p := KR (rows strc v 9 1 x.keys) v x.keys) (fun w hw => KR.one (List.Mem.head _) w hw) fun h1 => ?_
  refine Ct.eqv (τ := [bag [rows strc v 9 1 x.keys, bag [gE g]]]) Eqv.bag.symm (refSame _ ⟨x.err, x.val, x.ver, v⟩ ⟨x.err, x.val, x.ver, v'⟩ x.keys x.keys h1.bag1 h2.bag2) ?_
  rintro r σ' ⟨rfl, rfl⟩
  exact ⟨_, ⟨by simp, rfl⟩, Eqv.bag⟩
theorem told21_rv (x : RV) (ao : Option Go.Addr) (len cap : Nat) : Fun Try.prog 35 [A (RegistryReply.c ⟨x.err, x.val, x.ver, .slice ao len cap⟩)] (A (Caucusref20Reply.c ⟨x.err, x.val, x.ver, .slice ao len cap⟩)) := told21 ⟨x.err, x.val, x.ver, .slice ao len cap⟩ rfl
theorem client_bytes_nil : Ct Try.prog 37 [.pointer none] [] (fun r σ' => r = S [] ∧ σ' = []) := by
  have hP := client_sessions (.pointer none) rfl
  have hB := reg_bytes_nil
  have hR := client_registry_nil
  refine Ct.enter Try.func37 rfl rfl fun W => ?_
  apply Wp.seq
  apply Wp.region
  refine WpL.o (O.bx1 (fun p1 => ?_))
  refine WpL.v (V.as) ?_
  apply WpL.nil
  apply Out.seqN
  apply Wp.seq
  apply Wp.region
  refine WpL.v (V.bld tb) ?_
  refine WpL.o (O.bxR u8c 5 1 rfl (fun p7 => ?_))
  refine WpL.o (O.al tb (fun p3 => ?_))
  refine WpL.o (O.st1 tb ?_)
  apply WpL.nil
  apply Out.seqN
  apply Wp.seq
  apply Wp.seq
  apply Wp.region
  refine WpL.v (V.ld1 tb) ?_
  refine WpL.o (Op1.callT rfl (hP) (by (repeat (first | exact Sel.nil | exact Rem.here | apply Sel.cons | apply Rem.there))) ?_)
  rintro v0 s1 ⟨a9, ⟨rfl, rfl⟩⟩
  refine incat ?_
  apply WpL.nil
  apply Out.seqN
  apply Wp.block
  refine Wp.rg (sess_iter_nil a9) (fun y : Unit => []) (fun pre y => True) (fun _ _ _ => False) () trivial ?_ ?_ ?_
  · rintro pre x post y lp rec hx hxs hr W' D' K hK
    simp at hx
  · rintro y b1 hxs
    dsimp only [List.cons_append, List.nil_append]
    apply Out.blockN
    apply Out.seqN
    apply Wp.seq
    refine Wp.dG [] ?_ (List.Sublist.cons _ (List.Sublist.cons _ (List.Sublist.cons_cons _ (List.Sublist.cons _ (List.Sublist.cons _ (List.Sublist.cons_cons _ List.Sublist.slnil)))))) (List.Sublist.cons _ (List.Sublist.cons _ (List.Sublist.cons_cons _ (List.Sublist.cons _ (List.Sublist.cons _ (List.Sublist.cons_cons _ List.Sublist.slnil))))))
    refine WpA.tF 0 rfl (V.ld1 tb) ?_
    refine WpA.tF 1 rfl (V.ld1 tb) ?_
    refine WpA.oS 2 rfl (Op1.fn rfl (hR) ⟨?_, ?_, ?_⟩)
    exact holdT
    exact holdT
    refine WpA.oS 3 rfl (Op1.callT rfl (hB) (by (repeat (first | exact Sel.nil | exact Rem.here | apply Sel.cons | apply Rem.there))) ?_)
    rintro v0 s1 ⟨rfl, rfl⟩
    refine incat ⟨?_, ?_, ?_⟩
    exact holdT
    exact holdT
    refine WpA.oS 4 rfl (Op1.callT rfl (sinkRaw _ _ _ _ ?_) (by (repeat (first | exact Sel.nil | exact Rem.here | apply Sel.cons | apply Rem.there))) ?_)
    (first | with_reducible assumption | omega | (simp only [List.length_append, List.length_cons, List.length_nil, List.length_map] at *; omega) | (focus (simp; done)))
    rintro v2 s3 ⟨v'30, ⟨rfl, rfl⟩⟩
    refine incat ⟨?_, ?_, ?_⟩
    exact holdT
    exact holdT
    refine WpA.ou ?_
    apply Out.seqN
    apply Wp.seq
    apply Wp.region
    refine WpL.v (V.ld1 tb) ?_
    refine WpL.o (Op1.callT rfl (sinkBytes _ _ _) (by (repeat (first | exact Sel.nil | exact Rem.here | apply Sel.cons | apply Rem.there))) ?_)
    rintro v4 s5 ⟨rfl, rfl⟩
    refine incat ?_
    refine WpL.v (V.as) ?_
    apply WpL.nil
    apply Out.seqN
    apply Wp.ret
    refine Out.f1 rfl ResIs.t ⟨?_, rfl⟩
    exact rfl
  · intro _ _ _ _ _ _ _ h
    exact h.elim
end Go.Proofs.Ytgihkocnmgkihaa
