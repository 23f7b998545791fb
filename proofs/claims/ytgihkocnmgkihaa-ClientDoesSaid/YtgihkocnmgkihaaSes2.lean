/-
  Layer 21: the sessions, one behind the other.
-/
import Derived.Test.YtgihkocnmgkihaaSes
import Derived.Test.YtgihkocnmgkihaaNil
namespace Go.Proofs.Ytgihkocnmgkihaa
open Go.HL
set_option linter.unusedSimpArgs false
set_option linter.unusedVariables false
set_option maxRecDepth 8000
theorem zero98 (w : Go.World) : (Go.zeroValue 98).run Try.prog w = .ok (A LV.z.c) w := rfl
theorem kokI : KeyOk Try.prog 3 kI := KeyOk.int rfl
def lookS (l : SM) (k : Int) : LV := (mget l k).getD LV.z
theorem sids_len (l : SM) : (sids l).length = l.length := by unfold sids; simp
theorem client_sessions (v : Go.Value) (hv : v.oneCell' = true) : Ct Try.prog 39 [v] [] (fun r σ' => ∃ a, r = .func (.func 58) #[] #[Ptr a 0] ∧ σ' = [cells a 59 [v]]) := by
  refine Ct.enter Try.func39 rfl rfl fun W => ?_
  apply Wp.seq
  apply Wp.region
  refine WpL.o (O.bx1 (fun p1 => ?_))
  refine WpL.v (V.as) ?_
  apply WpL.nil
  apply Out.seqN
  apply Wp.seq
  apply Wp.region
  refine WpL.v (V.mf) ?_
  refine WpL.v (V.as) ?_
  apply WpL.nil
  apply Out.seqN
  apply Wp.ret
  refine Out.e1 rfl ResIs.t ?_
  exact ⟨_, _, ⟨_, rfl, rfl⟩, (by (repeat (first | exact Sel.nil | exact Rem.here | apply Sel.cons | apply Rem.there)))⟩
def encN (p : Int × Int) : List Go.Value := [I p.1, I p.2]
/-- The sessions and their last numbers, rising. -/
def sessL (l : SM) : List (Int × Int) := (sids l).map fun k => (k, (lookS l k).num)
theorem sess_split {l : SM} {i : Nat} {k : Int} (hk : (sids l)[i]? = some k) : sessL l = ((sids l).take i).map (fun k => (k, (lookS l k).num)) ++ (k, (lookS l k).num) :: ((sids l).drop (i + 1)).map (fun k => (k, (lookS l k).num)) := by
  obtain ⟨hl, hk2⟩ := List.getElem?_eq_some_iff.1 hk
  have e : sids l = (sids l).take i ++ k :: (sids l).drop (i + 1) := by
    rw [← hk2, List.getElem_cons_drop, List.take_append_drop]
  unfold sessL
  conv => lhs; rw [e]
  rw [List.map_append, List.map_cons]
set_option maxHeartbeats 1000000 in
theorem sess_iter (a b m : Nat) (rg : Go.Value) (cnt : Int) (l : SM) (hl : l.length ≤ 100000) :
    Iter Try.prog 58 [Ptr a 0] [cells a 59 [Ptr b 0], cells b 96 (ClientMachine.c ⟨rg, .map (some m), cnt⟩), mS m l] encN (sessL l) [cells a 59 [Ptr b 0], cells b 96 (ClientMachine.c ⟨rg, .map (some m), cnt⟩), mS m l] := by
  intro y β G X S' b0 hG0 hY
  have hlen := sids_len l
  have hK := map_keysI m
  have hS (q : Nat) := sortedI q m l hl
  refine Ct.enter Try.func58 rfl rfl fun W => ?_
  apply Wp.seq
  apply Wp.seq
  apply Wp.region
  refine WpL.v (V.ld1 tb) ?_
  refine WpL.v (V.eqP) ?_
  apply WpL.nil
  apply Out.seqN
  refine Wp.cF ?_
  apply Wp.skip
  apply Out.seqN
  apply Wp.seq
  apply Wp.region
  refine WpL.v (V.ld1 tb) ?_
  refine WpL.v (V.nc) ?_
  refine WpL.v (V.fa tb) ?_
  refine WpL.v (V.ld1 tb) ?_
  refine WpL.o (Op1.callT rfl (hK) (by (repeat (first | exact Sel.nil | exact Rem.here | apply Sel.cons | apply Rem.there))) ?_)
  rintro v0 s1 ⟨a11, ⟨rfl, rfl⟩⟩
  refine incat ?_
  refine WpL.o (Op1.callT rfl (hS _) (by (repeat (first | exact Sel.nil | exact Rem.here | apply Sel.cons | apply Rem.there))) ?_)
  rintro v2 s3 ⟨v12, ⟨rfl, rfl⟩⟩
  refine incat ?_
  refine WpL.v (V.lenRows tb) ?_
  refine WpL.v (V.mv) ?_
  apply WpL.nil
  apply Out.seqN
  apply Wp.block
  refine Wp.fact (rowsRd (f := i64c) (l := sids l) (E := 3) (sz := 1) (fun _ => rfl) (by repeat first | exact List.Mem.head _ | apply List.Mem.tail)) fun hvv => ?_
  obtain ⟨ao1, cap1, bk1, off1, rfl, hR1⟩ := hvv
  refine Wp.lp [13, 12, 1, 0] (fun y : Nat × β => y.1 ≤ (sids l).length ∧ G (((sids l).take y.1).map (fun k => (k, (lookS l k).num))) y.2) (fun y => [(14, I (y.1 : Int))]) (fun y => [S' y.2]) (fun y => (sids l).length - y.1) (0, b0) ⟨Nat.zero_le _, hG0⟩ ?_
  rintro ⟨i, c1⟩ ⟨hi, hG⟩ K hK2
  dsimp only at hi hG
  dsimp only [List.cons_append, List.nil_append]
  by_cases hlt : i < (sids l).length
  · obtain ⟨k, hk⟩ := getS hlt
    have hu : ((sids l).take (i + 1)).map (fun k => (k, (lookS l k).num)) = ((sids l).take i).map (fun k => (k, (lookS l k).num)) ++ [(k, (lookS l k).num)] := by rw [take_snocS hk, List.map_append]; rfl
    have hsp := sess_split hk

    obtain ⟨post, hsp⟩ : ∃ post, sessL l = ((sids l).take i).map (fun k => (k, (lookS l k).num)) ++ (k, (lookS l k).num) :: post := ⟨_, hsp⟩
    generalize ((sids l).take i).map (fun k => (k, (lookS l k).num)) = pr at *
    have hYy := hY pr (k, (lookS l k).num) post c1 hsp hG
    apply Wp.seq
    apply Wp.region
    refine WpL.v (V.cmp) ?_
    apply WpL.nil
    apply Out.seqN
    apply Wp.seq
    refine Wp.c (fun hi20 => ?_) (fun hi20 => ?_)
    (try simp only [decide_eq_true_eq, decide_eq_false_iff_not, Bool.not_eq_true', Bool.not_eq_false', Bool.not_eq_true, Bool.not_eq_false, not_true_eq_false, not_false_eq_true, reduceCtorEq] at hi20)
    apply Wp.skip
    apply Out.seqN
    apply Wp.seq
    apply Wp.block
    apply Wp.seq
    apply Wp.region
    refine WpL.v (V.ixR tb rfl rfl (by assumption)) ?_
    refine WpL.v (V.ldR1 tb rfl hR1 (getMapS hk)) ?_
    refine WpL.v (V.as) ?_
    apply WpL.nil
    apply Out.seqN
    apply Wp.seq
    apply Wp.region
    refine WpL.v (V.mv) ?_
    refine WpL.v (V.mv) ?_
    refine WpL.v (V.ld1 tb) ?_
    refine WpL.v (V.nc) ?_
    refine WpL.v (V.fa tb) ?_
    refine WpL.v (V.ld1 tb) ?_
    refine WpL.v (V.mv) ?_
    refine WpL.v (Val.lookD (l := l) (k := k) (vf := vL) LV.z kokI map94 zero98 rfl rfl (by (repeat first | exact List.Mem.head _ | apply List.Mem.tail))) ?_
    refine WpL.v (V.fld1 tb (off := 0) (T := 3) rfl rfl (Reads.one (tb.oneAt (T := 3) rfl) rfl)) ?_
    refine WpL.o (Op1.callY rfl rfl (hYy) (by (repeat (first | exact Sel.nil | exact Rem.here | apply Sel.cons | apply Rem.there))) ?_)
    rintro v3 s4 ⟨b'27, ⟨t27, ⟨rfl, ⟨hx1, ⟨hx2, rfl⟩⟩⟩⟩⟩
    refine incat ?_
    refine WpL.v (V.not) ?_
    apply WpL.nil
    apply Out.seqN
    refine Wp.c (fun hi25 => ?_) (fun hi25 => ?_)
    (try simp only [decide_eq_true_eq, decide_eq_false_iff_not, Bool.not_eq_true', Bool.not_eq_false', Bool.not_eq_true, Bool.not_eq_false, not_true_eq_false, not_false_eq_true, reduceCtorEq] at hi25)
    apply Wp.ret
    apply Out.blockR
    apply Out.seqR
    apply Out.seqR
    apply Out.blockR
    refine Out.e0 rfl  ?_
    focus (exact ⟨_, _, ⟨_, .inr ⟨pr ++ [(k, (lookS l k).num)], ⟨post, by rw [hsp]; simp⟩, by apply_assumption; assumption⟩, rfl⟩, (by (repeat (first | exact Sel.nil | exact Rem.here | apply Sel.cons | apply Rem.there)))⟩; done)
    (try simp only [decide_eq_true_eq, decide_eq_false_iff_not, Bool.not_eq_true', Bool.not_eq_false', Bool.not_eq_true, Bool.not_eq_false, not_true_eq_false, not_false_eq_true, reduceCtorEq] at hi25)
    apply Wp.skip
    apply Out.blockN
    apply Out.seqN
    apply Wp.region
    refine WpL.v (V.add) ?_
    refine WpL.v (V.mv) ?_
    apply WpL.nil
    rotate_left
    (try simp only [decide_eq_true_eq, decide_eq_false_iff_not, Bool.not_eq_true', Bool.not_eq_false', Bool.not_eq_true, Bool.not_eq_false, not_true_eq_false, not_false_eq_true, reduceCtorEq] at hi20)
    (exfalso; omega)
    exact Out.ag hK2 (i + 1, _) ⟨by show i + 1 ≤ _; omega, by show G _ _; rw [hu]; apply_assumption; assumption⟩ (by show (sids l).length - (i + 1) < (sids l).length - i; omega)
  · obtain rfl : i = (sids l).length := by omega
    rw [List.take_length] at hG
    clear hK2
    apply Wp.seq
    apply Wp.region
    refine WpL.v (V.cmp) ?_
    apply WpL.nil
    apply Out.seqN
    apply Wp.seq
    refine Wp.c (fun hi30 => ?_) (fun hi30 => ?_)
    (try simp only [decide_eq_true_eq, decide_eq_false_iff_not, Bool.not_eq_true', Bool.not_eq_false', Bool.not_eq_true, Bool.not_eq_false, not_true_eq_false, not_false_eq_true, reduceCtorEq] at hi30)
    (exfalso; omega)
    (try simp only [decide_eq_true_eq, decide_eq_false_iff_not, Bool.not_eq_true', Bool.not_eq_false', Bool.not_eq_true, Bool.not_eq_false, not_true_eq_false, not_false_eq_true, reduceCtorEq] at hi30)
    apply Wp.exit
    apply Out.seqE
    apply Out.seqE
    apply Out.blockE
    refine Out.e0 rfl  ?_
    focus (exact ⟨_, _, ⟨c1, .inl hG, rfl⟩, (by (repeat (first | exact Sel.nil | exact Rem.here | apply Sel.cons | apply Rem.there)))⟩; done)
theorem sess_iter_nil (a : Nat) : Iter Try.prog 58 [Ptr a 0] [cells a 59 [.pointer none]] encN [] [cells a 59 [.pointer none]] := by
  intro y β G X S' b0 hG0 hY
  refine Ct.enter Try.func58 rfl rfl fun W => ?_
  apply Wp.seq
  apply Wp.seq
  apply Wp.region
  refine WpL.v (V.ld1 tb) ?_
  refine WpL.v (V.eqN) ?_
  apply WpL.nil
  apply Out.seqN
  refine Wp.cT ?_
  apply Wp.ret
  apply Out.seqR
  refine Out.e0 rfl  ?_
  focus (exact ⟨_, _, ⟨b0, .inl hG0, rfl⟩, (by (repeat (first | exact Sel.nil | exact Rem.here | apply Sel.cons | apply Rem.there)))⟩; done)
end Go.Proofs.Ytgihkocnmgkihaa
