/-
  Layer 21: the sessions, while the rounds look at the machine, too; the bytes of a machine.
-/
import Derived.Test.YtgihkocnmgkihaaCli2
import Derived.Test.YtgihkocnmgkihaaHeapB
namespace Go.Proofs.Ytgihkocnmgkihaa
open Go.HL
set_option linter.unusedSimpArgs false
set_option linter.unusedVariables false
set_option maxRecDepth 8000
def seZ (b m : Nat) (rg : Go.Value) (cnt : Int) (l : SM) : Unit → List Ent := fun _ => [cells b 96 (ClientMachine.c ⟨rg, .map (some m), cnt⟩), mS m l]
set_option maxHeartbeats 1000000 in
theorem sess_iterZ (a b m : Nat) (rg : Go.Value) (cnt : Int) (l : SM) (hl : l.length ≤ 100000) :
    IterZ Try.prog 58 [Ptr a 0] (seZ b m rg cnt l) encN (fun k i c c' => (sessL l)[k]? = some i ∧ c' = c) (fun k c => k = (sessL l).length) [cells b 96 (ClientMachine.c ⟨rg, .map (some m), cnt⟩), mS m l, cells a 59 [Ptr b 0]] [cells a 59 [Ptr b 0]] () := by
  intro y γ pr G X S' c0 hp0 hG0 hY
  have hlen := sids_len l
  have hslen : (sessL l).length = (sids l).length := by unfold sessL; rw [List.length_map]
  have hK := map_keysI m
  have hS (q : Nat) := sortedI q m l hl
  unfold seZ at *
  refine Ct.enter Try.func58 rfl rfl fun W => ?_
  apply Wp.seq
  apply Wp.seq
  apply Wp.region
  refine WpL.v (V.ld1 tb) ?_
  refine WpL.v (V.eqP) ?_
  apply WpL.nil
  apply Out.seqN
  refine Wp.cF ?_
  apply Wp.skip
  apply Out.seqN
  apply Wp.seq
  apply Wp.region
  refine WpL.v (V.ld1 tb) ?_
  refine WpL.v (V.nc) ?_
  refine WpL.v (V.fa tb) ?_
  refine WpL.v (V.ld1 tb) ?_
  refine WpL.o (Op1.callT rfl (hK) (by (repeat (first | exact Sel.nil | exact Rem.here | apply Sel.cons | apply Rem.there))) ?_)
  rintro v0 s1 ⟨a11, ⟨rfl, rfl⟩⟩
  refine incat ?_
  refine WpL.o (Op1.callT rfl (hS _) (by (repeat (first | exact Sel.nil | exact Rem.here | apply Sel.cons | apply Rem.there))) ?_)
  rintro v2 s3 ⟨v12, ⟨rfl, rfl⟩⟩
  refine incat ?_
  refine WpL.v (V.lenRows tb) ?_
  refine WpL.v (V.mv) ?_
  apply WpL.nil
  apply Out.seqN
  apply Wp.block
  refine Wp.fact (rowsRd (f := i64c) (l := sids l) (E := 3) (sz := 1) (fun _ => rfl) (by repeat first | exact List.Mem.head _ | apply List.Mem.tail)) fun hvv => ?_
  obtain ⟨ao1, cap1, bk1, off1, rfl, hR1⟩ := hvv
  refine Wp.lp [13, 12, 1, 0] (fun y : Nat × γ => y.1 ≤ (sids l).length ∧ G y.1 y.2) (fun y => [(14, I (y.1 : Int))]) (fun y => [S' y.2]) (fun y => (sids l).length - y.1) (0, c0) ⟨Nat.zero_le _, hG0⟩ ?_
  rintro ⟨i, c1⟩ ⟨hi, hG⟩ K hK2
  dsimp only at hi hG
  dsimp only [List.cons_append, List.nil_append]
  by_cases hlt : i < (sids l).length
  · obtain ⟨k, hk⟩ := getS hlt
    have hsk : (sessL l)[i]? = some (k, (lookS l k).num) := by unfold sessL; rw [List.getElem?_map, hk]; rfl
    have hYy := hY i (k, (lookS l k).num) c1 (pr c1) hG ⟨hsk, rfl⟩
    apply Wp.seq
    apply Wp.region
    refine WpL.v (V.cmp) ?_
    apply WpL.nil
    apply Out.seqN
    apply Wp.seq
    refine Wp.c (fun hi20 => ?_) (fun hi20 => ?_)
    (try simp only [decide_eq_true_eq, decide_eq_false_iff_not, Bool.not_eq_true', Bool.not_eq_false', Bool.not_eq_true, Bool.not_eq_false, not_true_eq_false, not_false_eq_true, reduceCtorEq] at hi20)
    apply Wp.skip
    apply Out.seqN
    apply Wp.seq
    apply Wp.block
    apply Wp.seq
    apply Wp.region
    refine WpL.v (V.ixR tb rfl rfl (by assumption)) ?_
    refine WpL.v (V.ldR1 tb rfl hR1 (getMapS hk)) ?_
    refine WpL.v (V.as) ?_
    apply WpL.nil
    apply Out.seqN
    apply Wp.seq
    apply Wp.region
    refine WpL.v (V.mv) ?_
    refine WpL.v (V.mv) ?_
    refine WpL.v (V.ld1 tb) ?_
    refine WpL.v (V.nc) ?_
    refine WpL.v (V.fa tb) ?_
    refine WpL.v (V.ld1 tb) ?_
    refine WpL.v (V.mv) ?_
    refine WpL.v (Val.lookD (l := l) (k := k) (vf := vL) LV.z kokI map94 zero98 rfl rfl (by (repeat first | exact List.Mem.head _ | apply List.Mem.tail))) ?_
    refine WpL.v (V.fld1 tb (off := 0) (T := 3) rfl rfl (Reads.one (tb.oneAt (T := 3) rfl) rfl)) ?_
    refine WpL.o (Op1.callY rfl rfl (hYy) (by (repeat (first | exact Sel.nil | exact Rem.here | apply Sel.cons | apply Rem.there))) ?_)
    rintro v3 s4 ⟨c'27, ⟨t27, ⟨rfl, ⟨hx1, ⟨hx2, rfl⟩⟩⟩⟩⟩
    refine incat ?_
    refine WpL.v (V.not) ?_
    apply WpL.nil
    apply Out.seqN
    refine Wp.c (fun hi25 => ?_) (fun hi25 => ?_)
    (try simp only [decide_eq_true_eq, decide_eq_false_iff_not, Bool.not_eq_true', Bool.not_eq_false', Bool.not_eq_true, Bool.not_eq_false, not_true_eq_false, not_false_eq_true, reduceCtorEq] at hi25)
    apply Wp.ret
    apply Out.blockR
    apply Out.seqR
    apply Out.seqR
    apply Out.blockR
    refine Out.e0 rfl  ?_
    focus (exact ⟨_, _, ⟨_, i + 1, .inr (by apply_assumption; assumption), rfl⟩, (by (repeat (first | exact Sel.nil | exact Rem.here | apply Sel.cons | apply Rem.there)))⟩; done)
    (try simp only [decide_eq_true_eq, decide_eq_false_iff_not, Bool.not_eq_true', Bool.not_eq_false', Bool.not_eq_true, Bool.not_eq_false, not_true_eq_false, not_false_eq_true, reduceCtorEq] at hi25)
    apply Wp.skip
    apply Out.blockN
    apply Out.seqN
    apply Wp.region
    refine WpL.v (V.add) ?_
    refine WpL.v (V.mv) ?_
    apply WpL.nil
    rotate_left
    (try simp only [decide_eq_true_eq, decide_eq_false_iff_not, Bool.not_eq_true', Bool.not_eq_false', Bool.not_eq_true, Bool.not_eq_false, not_true_eq_false, not_false_eq_true, reduceCtorEq] at hi20)
    (exfalso; omega)
    exact Out.ag hK2 (i + 1, _) ⟨by show i + 1 ≤ _; omega, by show G _ _; apply_assumption; assumption⟩ (by show (sids l).length - (i + 1) < (sids l).length - i; omega)
  · obtain rfl : i = (sids l).length := by omega
    clear hK2
    apply Wp.seq
    apply Wp.region
    refine WpL.v (V.cmp) ?_
    apply WpL.nil
    apply Out.seqN
    apply Wp.seq
    refine Wp.c (fun hi30 => ?_) (fun hi30 => ?_)
    (try simp only [decide_eq_true_eq, decide_eq_false_iff_not, Bool.not_eq_true', Bool.not_eq_false', Bool.not_eq_true, Bool.not_eq_false, not_true_eq_false, not_false_eq_true, reduceCtorEq] at hi30)
    (exfalso; omega)
    (try simp only [decide_eq_true_eq, decide_eq_false_iff_not, Bool.not_eq_true', Bool.not_eq_false', Bool.not_eq_true, Bool.not_eq_false, not_true_eq_false, not_false_eq_true, reduceCtorEq] at hi30)
    apply Wp.exit
    apply Out.seqE
    apply Out.seqE
    apply Out.blockE
    refine Out.e0 rfl  ?_
    focus (exact ⟨_, _, ⟨c1, _, .inl ⟨hG, hslen.symm⟩, rfl⟩, (by (repeat (first | exact Sel.nil | exact Rem.here | apply Sel.cons | apply Rem.there)))⟩; done)
/-! ### Bytes -/
def keyB (k : List UInt8) : List UInt8 := natI k.length ++ k
def repB (x : RV) : List UInt8 := natI x.err ++ (natI x.val.length ++ x.val) ++ natI x.ver ++ natI x.keys.length ++ x.keys.flatMap keyB
def sessB (k : Int) (x : Int × RV) : List UInt8 := natI k ++ natI x.1 ++ repB x.2
/-- A reply that isn't great. -/
structure RV.Small (x : RV) : Prop where
  err : x.err ≤ 1000000
  val : x.val.length ≤ 100
  ver : x.ver ≤ 1000000
  key : ∀ k ∈ x.keys, k.length ≤ 100
theorem keyB_len {k : List UInt8} (h : k.length ≤ 100) : (keyB k).length ≤ 109 := by
  unfold keyB
  have := natI_len (n := (k.length : Int)) (by omega)
  rw [List.length_append]
  omega
theorem keysB_len : ∀ {ks : List (List UInt8)}, (∀ k ∈ ks, k.length ≤ 100) → (ks.flatMap keyB).length ≤ 109 * ks.length
  | [], _ => by simp
  | k :: ks, h => by
    have h1 := keyB_len (h k (by simp))
    have h2 := keysB_len (ks := ks) fun q hq => h q (by simp [hq])
    rw [List.flatMap_cons, List.length_append, List.length_cons]
    omega
theorem repB_len {x : RV} (h : x.Small) (hk : x.keys.length ≤ 82) : (repB x).length ≤ 9074 := by
  unfold repB
  have h1 := natI_len (n := x.err) (by have := h.err; omega)
  have h2 := natI_len (n := (x.val.length : Int)) (by have := h.val; omega)
  have h3 := natI_len (n := x.ver) (by have := h.ver; omega)
  have h4 := natI_len (n := (x.keys.length : Int)) (by omega)
  have h5 := keysB_len h.key
  have h6 := h.val
  simp only [List.length_append]
  omega
set_option maxHeartbeats 1000000 in
theorem client_reply (b : Nat) (v : Go.Value) (xs : List UInt8) (e : Ent) (x : RV) (kv : Go.Value) (hx : x.Small) (hk : x.keys.length ≤ 82) (hR : KR e kv x.keys) (hl : xs.length ≤ 790000) :
    Ct Try.prog 56 [Ptr b 0, A (x.c kv)] [cells b 83 (OctaveSink.c ⟨v⟩), rows u8c v 5 1 xs, e] (fun r σ' => ∃ v', r = .tuple #[] ∧ σ' = [cells b 83 (OctaveSink.c ⟨v'⟩), rows u8c v' 5 1 (xs ++ repB x), e]) := by
  obtain ⟨err, val, ver, keys⟩ := x
  obtain ⟨h1, h2, h3, h4⟩ := hx
  dsimp only at *
  unfold RV.c
  obtain ⟨ao, cap, bb, off, rfl, hRd⟩ := hR
  have n1 := natI_len (n := err) (by omega)
  have n2 := natI_len (n := (val.length : Int)) (by omega)
  have n3 := natI_len (n := ver) (by omega)
  have n4 := natI_len (n := (keys.length : Int)) (by omega)
  have hkl := keysB_len h4
  refine Ct.enter Try.func56 rfl rfl fun W => ?_
  apply Wp.seq
  apply Wp.region
  refine WpL.o (O.bxA (fun p3 => ?_))
  apply WpL.nil
  apply Out.seqN
  apply Wp.seq
  apply Wp.region
  refine WpL.v (V.mv) ?_
  refine WpL.v (V.fa tb) ?_
  refine WpL.v (V.ld1 tb) ?_
  refine WpL.o (O.lit tb (fun p9 => ?_))
  refine WpL.o (Op1.callT rfl (sinkNat1 _ _ _ _ _ ?_ ?_) (by (repeat (first | exact Sel.nil | exact Rem.here | apply Sel.cons | apply Rem.there))) ?_)
  (first | with_reducible assumption | omega | (simp only [List.length_append, List.length_cons, List.length_nil, List.length_map] at *; omega) | (focus (simp; done)))
  (first | with_reducible assumption | omega | (simp only [List.length_append, List.length_cons, List.length_nil, List.length_map] at *; omega) | (focus (simp; done)))
  rintro v0 s1 ⟨v'10, ⟨rfl, rfl⟩⟩
  refine incat ?_
  apply WpL.nil
  apply Out.seqN
  apply Wp.seq
  apply Wp.region
  refine WpL.v (V.mv) ?_
  refine WpL.v (V.fa tb) ?_
  refine WpL.v (V.ld1 tb) ?_
  refine WpL.o (Op1.callT rfl (sinkText _ _ _ _ ?_) (by (repeat (first | exact Sel.nil | exact Rem.here | apply Sel.cons | apply Rem.there))) ?_)
  (first | with_reducible assumption | omega | (simp only [List.length_append, List.length_cons, List.length_nil, List.length_map] at *; omega) | (focus (simp; done)))
  rintro v2 s3 ⟨v'14, ⟨rfl, rfl⟩⟩
  refine incat ?_
  apply WpL.nil
  apply Out.seqN
  apply Wp.seq
  apply Wp.region
  refine WpL.v (V.mv) ?_
  refine WpL.v (V.fa tb) ?_
  refine WpL.v (V.ld1 tb) ?_
  refine WpL.o (O.lit tb (fun p18 => ?_))
  refine WpL.o (Op1.callT rfl (sinkNat1 _ _ _ _ _ ?_ ?_) (by (repeat (first | exact Sel.nil | exact Rem.here | apply Sel.cons | apply Rem.there))) ?_)
  (first | with_reducible assumption | omega | (simp only [List.length_append, List.length_cons, List.length_nil, List.length_map] at *; omega) | (focus (simp; done)))
  (first | with_reducible assumption | omega | (simp only [List.length_append, List.length_cons, List.length_nil, List.length_map] at *; omega) | (focus (simp; done)))
  rintro v4 s5 ⟨v'19, ⟨rfl, rfl⟩⟩
  refine incat ?_
  apply WpL.nil
  apply Out.seqN
  apply Wp.seq
  apply Wp.region
  refine WpL.v (V.mv) ?_
  refine WpL.v (V.fa tb) ?_
  refine WpL.v (V.ld1 tb) ?_
  refine WpL.v (V.lenL tb) ?_
  refine WpL.o (O.lit tb (fun p24 => ?_))
  refine WpL.o (Op1.callT rfl (sinkNat1 _ _ _ _ _ ?_ ?_) (by (repeat (first | exact Sel.nil | exact Rem.here | apply Sel.cons | apply Rem.there))) ?_)
  (first | with_reducible assumption | omega | (simp only [List.length_append, List.length_cons, List.length_nil, List.length_map] at *; omega) | (focus (simp; done)))
  (first | with_reducible assumption | omega | (simp only [List.length_append, List.length_cons, List.length_nil, List.length_map] at *; omega) | (focus (simp; done)))
  rintro v6 s7 ⟨v'25, ⟨rfl, rfl⟩⟩
  refine incat ?_
  apply WpL.nil
  apply Out.seqN
  apply Wp.seq
  apply Wp.region
  refine WpL.v (V.fa tb) ?_
  refine WpL.v (V.ld1 tb) ?_
  refine WpL.v (V.lenL tb) ?_
  refine WpL.v (V.mv) ?_
  apply WpL.nil
  apply Out.seqN
  apply Wp.block
  obtain ⟨X, hX⟩ : ∃ X, X = xs ++ natI err ++ (natI val.length ++ val) ++ natI ver ++ natI keys.length := ⟨_, rfl⟩
  have hXl : X.length ≤ 790136 := by
    rw [hX]
    simp only [List.length_append]
    omega
  have hfin : xs ++ repB ⟨err, val, ver, keys⟩ = X ++ keys.flatMap keyB := by
    rw [hX]
    unfold repB
    simp only [List.append_assoc]
  rw [hfin]
  refine Wp.lp [28, 27, 0] (fun y : Nat × Go.Value × List UInt8 => y.1 ≤ keys.length ∧ y.2.2 = X ++ (keys.take y.1).flatMap keyB) (fun y => [(29, I (y.1 : Int))]) (fun y => [cells b 83 (OctaveSink.c ⟨y.2.1⟩), rows u8c y.2.1 5 1 y.2.2]) (fun y => keys.length - y.1) (0, _, xs ++ natI err ++ (natI val.length ++ val) ++ natI ver ++ natI keys.length) ⟨Nat.zero_le _, by rw [hX]; simp⟩ ?_
  rintro ⟨k, v2, ys⟩ ⟨hk2, hys⟩ K hK
  dsimp only at hk2 hys
  dsimp only [List.cons_append, List.nil_append]
  have htl := keysB_len (ks := keys.take k) (fun q hq => h4 q (List.mem_of_mem_take hq))
  rw [List.length_take] at htl
  have hyl : ys.length ≤ 799400 := by
    rw [hys, List.length_append]
    omega
  by_cases hlt : k < keys.length
  · obtain ⟨q, hq⟩ := getS hlt
    have hq4 := h4 q (List.mem_of_getElem? hq)
    have hsn : ys ++ (natI q.length ++ q) = X ++ (keys.take (k + 1)).flatMap keyB := by
      rw [hys, take_snocS hq, List.flatMap_append, List.append_assoc]
      congr 2
      simp [keyB]
    apply Wp.seq
    apply Wp.region
    refine WpL.v (V.cmp) ?_
    apply WpL.nil
    apply Out.seqN
    apply Wp.seq
    refine Wp.c (fun h0 => ?_) (fun h0 => ?_)
    (try simp only [decide_eq_true_eq, decide_eq_false_iff_not, Bool.not_eq_true', Bool.not_eq_false', Bool.not_eq_true, Bool.not_eq_false, not_true_eq_false, not_false_eq_true, reduceCtorEq] at h0)
    apply Wp.skip
    apply Out.seqN
    apply Wp.seq
    apply Wp.block
    apply Wp.seq
    apply Wp.region
    refine WpL.v (V.ixR tb rfl rfl (by assumption)) ?_
    refine WpL.v (V.ldR1 tb rfl hRd (getMapS hq)) ?_
    refine WpL.v (V.as) ?_
    apply WpL.nil
    apply Out.seqN
    apply Wp.region
    refine WpL.v (V.mv) ?_
    refine WpL.v (V.mv) ?_
    refine WpL.o (Op1.callT rfl (sinkText _ _ _ _ ?_) (by (repeat (first | exact Sel.nil | exact Rem.here | apply Sel.cons | apply Rem.there))) ?_)
    (first | with_reducible assumption | omega | (simp only [List.length_append, List.length_cons, List.length_nil, List.length_map] at *; omega) | (focus (simp; done)))
    rintro v1 s2 ⟨v'35, ⟨rfl, rfl⟩⟩
    refine incat ?_
    apply WpL.nil
    apply Out.blockN
    apply Out.seqN
    apply Wp.region
    refine WpL.v (V.add) ?_
    refine WpL.v (V.mv) ?_
    apply WpL.nil
    rotate_left
    (try simp only [decide_eq_true_eq, decide_eq_false_iff_not, Bool.not_eq_true', Bool.not_eq_false', Bool.not_eq_true, Bool.not_eq_false, not_true_eq_false, not_false_eq_true, reduceCtorEq] at h0)
    (exfalso; omega)
    exact Out.ag hK (k + 1, _, _) ⟨by show k + 1 ≤ _; omega, hsn⟩ (by show keys.length - (k + 1) < keys.length - k; omega)
  · obtain rfl : k = keys.length := by omega
    rw [List.take_length] at hys
    subst hys
    clear hK
    apply Wp.seq
    apply Wp.region
    refine WpL.v (V.cmp) ?_
    apply WpL.nil
    apply Out.seqN
    apply Wp.seq
    refine Wp.c (fun h0 => ?_) (fun h0 => ?_)
    (try simp only [decide_eq_true_eq, decide_eq_false_iff_not, Bool.not_eq_true', Bool.not_eq_false', Bool.not_eq_true, Bool.not_eq_false, not_true_eq_false, not_false_eq_true, reduceCtorEq] at h0)
    (exfalso; omega)
    (try simp only [decide_eq_true_eq, decide_eq_false_iff_not, Bool.not_eq_true', Bool.not_eq_false', Bool.not_eq_true, Bool.not_eq_false, not_true_eq_false, not_false_eq_true, reduceCtorEq] at h0)
    apply Wp.exit
    apply Out.seqE
    apply Out.seqE
    apply Out.blockE
    refine Out.e0 rfl  ?_
    exact ⟨_, _, ⟨_, rfl, rfl⟩, (by (repeat (first | exact Sel.nil | exact Rem.here | apply Sel.cons | apply Rem.there)))⟩
end Go.Proofs.Ytgihkocnmgkihaa
