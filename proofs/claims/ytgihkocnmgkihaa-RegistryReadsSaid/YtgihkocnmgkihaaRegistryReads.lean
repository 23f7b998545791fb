/-
  The statement RegistryReads of layer 20: what was put is read, and listed by each beginning of its key; what was deleted isn't. Proved for every input.
-/
import Derived.Test.YtgihkocnmgkihaaHead
import Derived.Test.YtgihkocnmgkihaaGreat
import Derived.Test.YtgihkocnmgkihaaRegL
namespace Go.HL
open Go
/-- A field of one cell of a struct that is a value. -/
theorem V.fld1 {P : Program} (tb : Tabs P) {n : Fm} {env : Env} {σ : List Ent} {dst : Nat} {ty : TypeId} {pos : String} {af : Array Edge} {gd : Option (Nat × Bool)} {s f off T : Nat} {x : Operand} {cs : List Value} {v : Value} (hx : ev env x = some (A cs)) (hf : fieldIs P s f off T = true)
    (hr : Reads P T off cs v) : Val P n env σ ⟨some dst, .field s x f, ty, pos, af, gd⟩ v := Val.of fun a w hF _ => by
  unfold fieldIs at hf
  split at hf
  · rename_i fs hu
    split at hf
    · rename_i fd hfd
      simp only [Bool.and_eq_true, beq_iff_eq] at hf
      obtain ⟨h2, h3⟩ := hf
      have hi : (Instr.field s (A cs) f).run P w = .ok v w := by
        unfold Instr.field
        simp only [Sem.run_bind, run_underlying hu, Result.andThen_ok, hfd, asAgg, Sem.run_pure, h2, h3, hr.part w]
      simp only [execOp, hF.eval hx, hi, Sem.run_bind, Result.andThen_ok, Sem.run_pure]
    · cases hf
  · cases hf
end Go.HL
namespace Go.Proofs.Ytgihkocnmgkihaa
open Go.HL
set_option linter.unusedSimpArgs false
set_option linter.unusedVariables false
set_option maxRecDepth 8000
structure RS20 where
  k : Nat
  l : PM
set_option maxHeartbeats 4000000 in
theorem registryReads_walk (e : Ent) (ao : Option Go.Addr) (cap b off : Nat) (xs : List TDeed) (key value : List UInt8) (cut : Int) (hR : Rd e ao xs.length b off 6 (xs.map TDeed.c)) (hkl : key.length ≤ 140737488351232) (hvl : value.length ≤ 140737488351232) :
    Ct Try.prog 3 [.slice ao xs.length cap, S key, S value, I cut] [e] (fun r σ' => r = B true ∧ σ' = [e]) := by
  have hm := hR.small
  simp only [Go.maxLen] at hm
  have hG := great20 e ao cap b off xs hR
  have hN := reg_new
  unfold rgE mE at hN
  refine Ct.enter Try.func3 rfl rfl fun W => ?_
  apply Wp.seq
  apply Wp.region
  refine WpL.v (V.as) ?_
  apply WpL.nil
  apply Out.seqN
  apply Wp.seq
  apply Wp.seq
  apply Wp.region
  refine WpL.o (Op1.fn rfl (alive20) ?_)
  refine WpL.v (V.not) ?_
  apply WpL.nil
  apply Out.seqN
  refine Wp.cF ?_
  apply Wp.skip
  apply Out.seqN
  apply Wp.seq
  apply Wp.seq
  apply Wp.region
  refine WpL.v (V.mv) ?_
  refine WpL.o (Op1.callT rfl (hG) (by (repeat (first | exact Sel.nil | exact Rem.here | apply Sel.cons | apply Rem.there))) ?_)
  rintro v1 s2 ⟨t23, ⟨hx0, ⟨rfl, rfl⟩⟩⟩
  refine incat ?_
  refine WpL.v (V.mv) ?_
  refine WpL.pt (fun ha3 => ?_) (fun ha3 => ?_)
  (try simp only [decide_eq_true_eq, decide_eq_false_iff_not, Bool.not_eq_true', Bool.not_eq_false', Bool.not_eq_true, Bool.not_eq_false, not_true_eq_false, not_false_eq_true, reduceCtorEq] at ha3)
  refine WpL.sk ?_
  refine WpL.sk ?_
  refine WpL.sk ?_
  refine WpL.sk ?_
  refine WpL.sk ?_
  refine WpL.sk ?_
  refine WpL.v (V.pT) ?_
  apply WpL.nil
  apply Out.seqN
  refine Wp.cT ?_
  apply Wp.seq
  apply Wp.region
  refine WpL.v (V.as) ?_
  apply WpL.nil
  apply Out.seqN
  apply Wp.ret
  apply Out.seqR
  refine Out.f1 rfl ResIs.t ⟨?_, rfl⟩
  exact rfl
  (try simp only [decide_eq_true_eq, decide_eq_false_iff_not, Bool.not_eq_true', Bool.not_eq_false', Bool.not_eq_true, Bool.not_eq_false, not_true_eq_false, not_false_eq_true, reduceCtorEq] at ha3)
  refine WpL.v (V.mv) ?_
  refine WpL.v (V.lenS tb) ?_
  refine WpL.v (V.mv) ?_
  refine WpL.v (V.lenS tb) ?_
  refine WpL.v (V.add) ?_
  refine WpL.v (V.cmp) ?_
  refine WpL.v (V.pF) ?_
  apply WpL.nil
  apply Out.seqN
  refine Wp.c (fun ha4 => ?_) (fun ha4 => ?_)
  (try simp only [decide_eq_true_eq, decide_eq_false_iff_not, Bool.not_eq_true', Bool.not_eq_false', Bool.not_eq_true, Bool.not_eq_false, not_true_eq_false, not_false_eq_true, reduceCtorEq] at ha4)
  apply Wp.seq
  apply Wp.region
  refine WpL.v (V.as) ?_
  apply WpL.nil
  apply Out.seqN
  apply Wp.ret
  apply Out.seqR
  refine Out.f1 rfl ResIs.t ⟨?_, rfl⟩
  exact rfl
  (try simp only [decide_eq_true_eq, decide_eq_false_iff_not, Bool.not_eq_true', Bool.not_eq_false', Bool.not_eq_true, Bool.not_eq_false, not_true_eq_false, not_false_eq_true, reduceCtorEq] at ha4)
  apply Wp.skip
  apply Out.seqN
  apply Wp.seq
  apply Wp.region
  refine WpL.o (Op1.callT rfl (hN) (by (repeat (first | exact Sel.nil | exact Rem.here | apply Sel.cons | apply Rem.there))) ?_)
  rintro v5 s6 ⟨b32, ⟨m32, ⟨rfl, rfl⟩⟩⟩
  refine incat ?_
  refine WpL.v (V.as) ?_
  apply WpL.nil
  apply Out.seqN
  apply Wp.seq
  apply Wp.seq
  apply Wp.region
  refine WpL.v (V.mv) ?_
  refine WpL.v (V.lenL tb) ?_
  refine WpL.v (V.mv) ?_
  apply WpL.nil
  apply Out.seqN
  apply Wp.block
  have hx80 : xs.length ≤ 80 := by apply_assumption; assumption
  refine Wp.lp [34, 33, 9, 3, 2, 1] (fun y : RS20 => y.k ≤ xs.length ∧ RI y.k y.l) (fun y => [(35, I (y.k : Int))]) (fun y => [mapK kS vP m32 y.l]) (fun y => xs.length - y.k) ⟨0, []⟩ ⟨Nat.zero_le _, RI.zero⟩ ?_
  rintro ⟨k, l⟩ ⟨hk, hi⟩ K hK
  dsimp only at hk hi
  dsimp only [List.cons_append, List.nil_append]
  by_cases hlt : k < xs.length
  · obtain ⟨d, hd⟩ := getS hlt
    have hvr := hi.ver d.Key
    have hll := hi.len
    by_cases h5 : d.Kind = 5
    · have hL := reg_list b32 m32 l d h5 (by omega)
      unfold rgE mE at hL
      dsimp only [List.cons_append, List.nil_append] at hL
      apply Wp.seq
      apply Wp.region
      refine WpL.v (V.cmp) ?_
      apply WpL.nil
      apply Out.seqN
      apply Wp.seq
      refine Wp.c (fun hc0 => ?_) (fun hc0 => ?_)
      (try simp only [decide_eq_true_eq, decide_eq_false_iff_not, Bool.not_eq_true', Bool.not_eq_false', Bool.not_eq_true, Bool.not_eq_false, not_true_eq_false, not_false_eq_true, reduceCtorEq] at hc0)
      apply Wp.skip
      apply Out.seqN
      apply Wp.seq
      apply Wp.block
      apply Wp.seq
      apply Wp.region
      refine WpL.v (V.ixR tb rfl rfl (by assumption)) ?_
      refine WpL.v (V.ldRA tb rfl (by assumption) (getMapS (by assumption))) ?_
      refine WpL.o (O.al tb (fun p11 => ?_))
      refine WpL.o (O.stA tb ?_)
      apply WpL.nil
      apply Out.seqN
      apply Wp.region
      refine WpL.v (V.mv) ?_
      refine WpL.v (V.ldA tb) ?_
      refine WpL.o (Op1.callT rfl (hL) (by (repeat (first | exact Sel.nil | exact Rem.here | apply Sel.cons | apply Rem.there))) ?_)
      rintro v1 s2 ⟨v41, ⟨rfl, rfl⟩⟩
      refine incat ?_
      apply WpL.nil
      apply Out.blockN
      apply Out.seqN
      apply Wp.region
      refine WpL.v (V.add) ?_
      refine WpL.v (V.mv) ?_
      apply WpL.nil
      rotate_left
      (try simp only [decide_eq_true_eq, decide_eq_false_iff_not, Bool.not_eq_true', Bool.not_eq_false', Bool.not_eq_true, Bool.not_eq_false, not_true_eq_false, not_false_eq_true, reduceCtorEq] at hc0)
      (exfalso; omega)
      exact Out.ag hK ⟨k + 1, l⟩ ⟨by show k + 1 ≤ _; omega, hi.up⟩ (by show xs.length - (k + 1) < xs.length - k; omega)
    · have hD := reg_do b32 m32 l d h5 (by omega)
      have hi2 := hi.do_ d
      unfold rgE mE at hD
      apply Wp.seq
      apply Wp.region
      refine WpL.v (V.cmp) ?_
      apply WpL.nil
      apply Out.seqN
      apply Wp.seq
      refine Wp.c (fun he0 => ?_) (fun he0 => ?_)
      (try simp only [decide_eq_true_eq, decide_eq_false_iff_not, Bool.not_eq_true', Bool.not_eq_false', Bool.not_eq_true, Bool.not_eq_false, not_true_eq_false, not_false_eq_true, reduceCtorEq] at he0)
      apply Wp.skip
      apply Out.seqN
      apply Wp.seq
      apply Wp.block
      apply Wp.seq
      apply Wp.region
      refine WpL.v (V.ixR tb rfl rfl (by assumption)) ?_
      refine WpL.v (V.ldRA tb rfl (by assumption) (getMapS (by assumption))) ?_
      refine WpL.o (O.al tb (fun p11 => ?_))
      refine WpL.o (O.stA tb ?_)
      apply WpL.nil
      apply Out.seqN
      apply Wp.region
      refine WpL.v (V.mv) ?_
      refine WpL.v (V.ldA tb) ?_
      refine WpL.o (Op1.callT rfl (hD) (by (repeat (first | exact Sel.nil | exact Rem.here | apply Sel.cons | apply Rem.there))) ?_)
      rintro v1 s2 ⟨rfl, rfl⟩
      refine incat ?_
      apply WpL.nil
      apply Out.blockN
      apply Out.seqN
      apply Wp.region
      refine WpL.v (V.add) ?_
      refine WpL.v (V.mv) ?_
      apply WpL.nil
      rotate_left
      (try simp only [decide_eq_true_eq, decide_eq_false_iff_not, Bool.not_eq_true', Bool.not_eq_false', Bool.not_eq_true, Bool.not_eq_false, not_true_eq_false, not_false_eq_true, reduceCtorEq] at he0)
      (exfalso; omega)
      exact Out.ag hK ⟨k + 1, (doN l d).2⟩ ⟨by show k + 1 ≤ _; omega, hi2⟩ (by show xs.length - (k + 1) < xs.length - k; omega)
  · obtain rfl : k = xs.length := by omega
    clear hK
    have hvr := hi.ver key
    have hD1 := reg_do b32 m32 l ⟨2, key, value, 0, 0, 0⟩ (by show (2 : Int) ≠ 5; decide) (by show 0 ≤ (look l key).Version ∧ (look l key).Version ≤ 1000000; omega)
    rw [show doN l ⟨2, key, value, 0, 0, 0⟩ = (rep 0 [] ((look l key).Version + 1), putL l key value) by rfl] at hD1
    have hi2 := hi.put key value
    have hmg : mget (putL l key value) key = some ⟨key, value, (look l key).Version + 1⟩ := by
      unfold putL
      rw [mget_mput, if_pos rfl]
    have hlk : look (putL l key value) key = ⟨key, value, (look l key).Version + 1⟩ := by
      unfold look at hmg ⊢
      rw [hmg]; rfl
    generalize putL l key value = l1 at *
    generalize (look l key).Version + 1 = ver at *
    have hv1 := hi2.ver key
    have hll := hi2.len
    have hD2 := reg_do b32 m32 l1 ⟨1, key, [], 0, 0, 0⟩ (by show (1 : Int) ≠ 5; decide) (by show 0 ≤ (look l1 key).Version ∧ (look l1 key).Version ≤ 1000000; omega)
    rw [show doN l1 ⟨1, key, [], 0, 0, 0⟩ = (rep 0 value ver, l1) by simp [doN, hmg, hlk]] at hD2
    have hD3 := reg_do b32 m32 l1 ⟨4, key, [], 0, 0, 0⟩ (by show (4 : Int) ≠ 5; decide) (by show 0 ≤ (look l1 key).Version ∧ (look l1 key).Version ≤ 1000000; omega)
    rw [show doN l1 ⟨4, key, [], 0, 0, 0⟩ = (rep 0 [] ver, mdel l1 key) by simp [doN, hmg, hlk]] at hD3
    have hi3 := hi2.del key
    have hmd : mget (mdel l1 key) key = none := by rw [mget_mdel hi2.nod, if_pos rfl]
    generalize mdel l1 key = l2 at *
    have hv2 := hi3.ver key
    have hll2 := hi3.len
    have hD4 := reg_do b32 m32 l2 ⟨1, key, [], 0, 0, 0⟩ (by show (1 : Int) ≠ 5; decide) (by show 0 ≤ (look l2 key).Version ∧ (look l2 key).Version ≤ 1000000; omega)
    rw [show doN l2 ⟨1, key, [], 0, 0, 0⟩ = (rep 5 [] 0, l2) by simp [doN, hmd]] at hD4
    obtain ⟨u, hu⟩ : ∃ u : Nat, Go.IntKind.u64.wrap cut = (u : Int) := ⟨(Go.IntKind.u64.wrap cut).toNat, by
      have : 0 ≤ Go.IntKind.u64.wrap cut := by
        simp only [Go.IntKind.wrap, Go.IntKind.signed, Go.IntKind.bits]
        simp
        omega
      omega⟩
    obtain ⟨ci, hci⟩ : ∃ ci : Nat, ci = u % (key.length + 1) := ⟨_, rfl⟩
    have hcl : ci ≤ key.length := by
      have := Nat.mod_lt u (by omega : 0 < key.length + 1)
      omega
    have e2 : Go.IntKind.u64.wrap ((key.length : Int) + 1) = (key.length : Int) + 1 := by
      simp only [Go.IntKind.wrap, Go.IntKind.signed, Go.IntKind.bits]
      simp
      omega
    have e3 : Go.IntKind.i64.wrap ((u : Int) % ((key.length : Int) + 1)) = (ci : Int) := by
      rw [show (u : Int) % ((key.length : Int) + 1) = (ci : Int) by rw [hci]; push_cast; rfl]
      exact wrap_in (In.mk64 (by omega))
    have hL1 := reg_list b32 m32 l1 ⟨5, key.take ci, [], 0, 0, 0⟩ rfl (by omega)
    have hL2 := reg_list b32 m32 l2 ⟨5, key.take ci, [], 0, 0, 0⟩ rfl (by omega)
    have hin : key ∈ listL (key.take ci) l1 := (listL_mem hi2).2 ⟨by rw [hmg]; rfl, pfx_take key ci hcl⟩
    have hout : ∀ k ∈ listL (key.take ci) l2, k ≠ key := fun k hk e => by
      have := ((listL_mem hi3).1 hk).1
      rw [e, hmd] at this
      cases this
    have hk1 : (listL (key.take ci) l1).length ≤ 1000 := by
      unfold listL
      rw [List.length_map]
      have := pairsL_len (key.take ci) l1
      omega
    have hk2 : (listL (key.take ci) l2).length ≤ 1000 := by
      unfold listL
      rw [List.length_map]
      have := pairsL_len (key.take ci) l2
      omega
    dsimp only at hL1 hL2
    generalize listL (key.take ci) l1 = k1 at *
    generalize listL (key.take ci) l2 = k2 at *
    unfold rgE mE at hD1 hD2 hD3 hD4 hL1 hL2
    unfold rep at hD1 hD2 hD3 hD4
    dsimp only [List.cons_append, List.nil_append] at hL1 hL2
    have hkl2 : (key.length : Int) + 1 ≤ 4611686018427387905 := by omega
    apply Wp.seq
    apply Wp.region
    refine WpL.v (V.cmp) ?_
    apply WpL.nil
    apply Out.seqN
    apply Wp.seq
    refine Wp.c (fun hf0 => ?_) (fun hf0 => ?_)
    (try simp only [decide_eq_true_eq, decide_eq_false_iff_not, Bool.not_eq_true', Bool.not_eq_false', Bool.not_eq_true, Bool.not_eq_false, not_true_eq_false, not_false_eq_true, reduceCtorEq] at hf0)
    (exfalso; omega)
    (try simp only [decide_eq_true_eq, decide_eq_false_iff_not, Bool.not_eq_true', Bool.not_eq_false', Bool.not_eq_true, Bool.not_eq_false, not_true_eq_false, not_false_eq_true, reduceCtorEq] at hf0)
    apply Wp.exit
    apply Out.seqE
    apply Out.seqE
    apply Out.blockE
    apply Out.seqN
    apply Wp.seq
    apply Wp.region
    refine WpL.v (V.mv) ?_
    refine WpL.v (V.mv) ?_
    refine WpL.v (V.mv) ?_
    refine WpL.v (V.bld tb (c' := TDeed.c ⟨2, key, value, 0, 0, 0⟩)) ?_
    refine WpL.o (Op1.callT rfl (hD1) (by (repeat (first | exact Sel.nil | exact Rem.here | apply Sel.cons | apply Rem.there))) ?_)
    rintro v1 s2 ⟨rfl, rfl⟩
    refine incat ?_
    refine WpL.o (O.al tb (fun p12 => ?_))
    refine WpL.o (O.stA tb ?_)
    apply WpL.nil
    apply Out.seqN
    apply Wp.seq
    apply Wp.region
    refine WpL.v (V.mv) ?_
    refine WpL.v (V.mv) ?_
    refine WpL.v (V.bld tb (c' := TDeed.c ⟨1, key, [], 0, 0, 0⟩)) ?_
    refine WpL.o (Op1.callT rfl (hD2) (by (repeat (first | exact Sel.nil | exact Rem.here | apply Sel.cons | apply Rem.there))) ?_)
    rintro v3 s4 ⟨rfl, rfl⟩
    refine incat ?_
    refine WpL.o (O.al tb (fun p13 => ?_))
    refine WpL.o (O.stA tb ?_)
    apply WpL.nil
    apply Out.seqN
    apply Wp.seq
    apply Wp.region
    refine WpL.v (V.mv) ?_
    refine WpL.v (V.mv) ?_
    refine WpL.v (V.cvE tb rfl rfl hu) ?_
    refine WpL.v (V.mv) ?_
    refine WpL.v (V.lenS tb) ?_
    refine WpL.v (V.add) ?_
    refine WpL.v (V.cvE tb rfl rfl e2) ?_
    refine WpL.v (V.rem) ?_
    refine WpL.v (V.cvE tb rfl rfl e3) ?_
    refine WpL.v (V.slHi tb) ?_
    refine WpL.v (V.bld tb (c' := TDeed.c ⟨5, key.take ci, [], 0, 0, 0⟩)) ?_
    refine WpL.o (O.al tb (fun p14 => ?_))
    refine WpL.o (O.stA tb ?_)
    apply WpL.nil
    apply Out.seqN
    apply Wp.seq
    apply Wp.region
    refine WpL.v (V.as) ?_
    apply WpL.nil
    apply Out.seqN
    apply Wp.seq
    apply Wp.seq
    apply Wp.region
    refine WpL.v (V.mv) ?_
    refine WpL.v (V.ldA tb) ?_
    refine WpL.o (Op1.callT rfl (hL1) (by (repeat (first | exact Sel.nil | exact Rem.here | apply Sel.cons | apply Rem.there))) ?_)
    rintro v5 s6 ⟨v65, ⟨rfl, rfl⟩⟩
    refine incat ?_
    refine WpL.v (V.fld1 tb (off := 3) (T := 30) rfl rfl (Reads.one (tb.oneAt (T := 30) rfl) rfl)) ?_
    refine WpL.v (V.lenRows tb) ?_
    refine WpL.v (V.mv) ?_
    apply WpL.nil
    apply Out.seqN
    apply Wp.block
    refine Wp.fact (rowsForm (f := strc) (l := k1) (by repeat first | exact List.Mem.head _ | apply List.Mem.tail)) fun hform => ?_
    refine Wp.lp [67, 66, 14, 13, 12, 9, 2, 1] (fun j : Nat => j ≤ k1.length) (fun j => [(68, I (j : Int)), (15, B (decide (key ∈ k1.take j)))]) (fun _ => []) (fun j => k1.length - j) 0 (Nat.zero_le _) ?_
    intro j hj K2 hK2
    dsimp only [List.cons_append, List.nil_append]
    by_cases hj2 : j < k1.length
    · obtain ⟨k, hk⟩ := getS hj2
      rcases hform with ⟨h1, h2⟩ | ⟨g, cp, rfl, _⟩
      · rw [h2] at hj2; simp at hj2
      have hn : (key ∈ k1.take (j + 1)) ↔ (key ∈ k1.take j ∨ k = key) := by
        rw [take_snocS hk, List.mem_append, List.mem_singleton]
        exact or_congr Iff.rfl eq_comm
      by_cases h1 : key ∈ k1.take j
      · have e1 : decide (key ∈ k1.take (j + 1)) = true := decide_eq_true (hn.2 (.inl h1))
        rw [decide_eq_true h1]
        apply Wp.seq
        apply Wp.region
        refine WpL.v (V.cmp) ?_
        apply WpL.nil
        apply Out.seqN
        apply Wp.seq
        refine Wp.c (fun hg0 => ?_) (fun hg0 => ?_)
        (try simp only [decide_eq_true_eq, decide_eq_false_iff_not, Bool.not_eq_true', Bool.not_eq_false', Bool.not_eq_true, Bool.not_eq_false, not_true_eq_false, not_false_eq_true, reduceCtorEq] at hg0)
        apply Wp.skip
        apply Out.seqN
        apply Wp.seq
        apply Wp.block
        apply Wp.seq
        apply Wp.region
        refine WpL.v (V.ixk tb (k := j) rfl rfl rfl rfl (by omega)) ?_
        refine WpL.v (V.ldRow1 tb rfl (by (repeat first | exact List.Mem.head _ | apply List.Mem.tail)) (fun _ => rfl) hk) ?_
        refine WpL.v (V.as) ?_
        apply WpL.nil
        apply Out.seqN
        apply Wp.region
        refine WpL.v (V.mv) ?_
        refine WpL.v (V.mv) ?_
        refine WpL.sk ?_
        refine WpL.sk ?_
        refine WpL.sk ?_
        refine WpL.v (V.pT) ?_
        refine WpL.v (V.as) ?_
        apply WpL.nil
        apply Out.blockN
        apply Out.seqN
        apply Wp.region
        refine WpL.v (V.add) ?_
        refine WpL.v (V.mv) ?_
        apply WpL.nil
        rotate_left
        (try simp only [decide_eq_true_eq, decide_eq_false_iff_not, Bool.not_eq_true', Bool.not_eq_false', Bool.not_eq_true, Bool.not_eq_false, not_true_eq_false, not_false_eq_true, reduceCtorEq] at hg0)
        (exfalso; omega)
        exact Out.ag hK2 (j + 1) (by omega) (by show k1.length - (j + 1) < k1.length - j; omega) (he := by rw [e1]; (repeat (first | exact subEnv.nil | refine subEnv.cons rfl rfl ?_)))
      · rw [decide_eq_false h1]
        by_cases hkk : k = key
        · have e1 : decide (key ∈ k1.take (j + 1)) = true := decide_eq_true (hn.2 (.inr hkk))
          subst hkk
          apply Wp.seq
          apply Wp.region
          refine WpL.v (V.cmp) ?_
          apply WpL.nil
          apply Out.seqN
          apply Wp.seq
          refine Wp.c (fun hh0 => ?_) (fun hh0 => ?_)
          (try simp only [decide_eq_true_eq, decide_eq_false_iff_not, Bool.not_eq_true', Bool.not_eq_false', Bool.not_eq_true, Bool.not_eq_false, not_true_eq_false, not_false_eq_true, reduceCtorEq] at hh0)
          apply Wp.skip
          apply Out.seqN
          apply Wp.seq
          apply Wp.block
          apply Wp.seq
          apply Wp.region
          refine WpL.v (V.ixk tb (k := j) rfl rfl rfl rfl (by omega)) ?_
          refine WpL.v (V.ldRow1 tb rfl (by (repeat first | exact List.Mem.head _ | apply List.Mem.tail)) (fun _ => rfl) hk) ?_
          refine WpL.v (V.as) ?_
          apply WpL.nil
          apply Out.seqN
          apply Wp.region
          refine WpL.v (V.mv) ?_
          refine WpL.v (V.mv) ?_
          refine WpL.v (V.mv) ?_
          refine WpL.v (V.mv) ?_
          refine WpL.v (V.cmpS rfl rfl (show cmpS .eql k k = some true by simp [cmpS])) ?_
          refine WpL.v (V.pF) ?_
          refine WpL.v (V.as) ?_
          apply WpL.nil
          apply Out.blockN
          apply Out.seqN
          apply Wp.region
          refine WpL.v (V.add) ?_
          refine WpL.v (V.mv) ?_
          apply WpL.nil
          rotate_left
          (try simp only [decide_eq_true_eq, decide_eq_false_iff_not, Bool.not_eq_true', Bool.not_eq_false', Bool.not_eq_true, Bool.not_eq_false, not_true_eq_false, not_false_eq_true, reduceCtorEq] at hh0)
          (exfalso; omega)
          all_goals exact Out.ag hK2 (j + 1) (by omega) (by show k1.length - (j + 1) < k1.length - j; omega) (he := by rw [e1]; (repeat (first | exact subEnv.nil | refine subEnv.cons rfl rfl ?_)))
        · have e1 : decide (key ∈ k1.take (j + 1)) = false := decide_eq_false fun hc => (hn.1 hc).elim h1 hkk
          apply Wp.seq
          apply Wp.region
          refine WpL.v (V.cmp) ?_
          apply WpL.nil
          apply Out.seqN
          apply Wp.seq
          refine Wp.c (fun hi0 => ?_) (fun hi0 => ?_)
          (try simp only [decide_eq_true_eq, decide_eq_false_iff_not, Bool.not_eq_true', Bool.not_eq_false', Bool.not_eq_true, Bool.not_eq_false, not_true_eq_false, not_false_eq_true, reduceCtorEq] at hi0)
          apply Wp.skip
          apply Out.seqN
          apply Wp.seq
          apply Wp.block
          apply Wp.seq
          apply Wp.region
          refine WpL.v (V.ixk tb (k := j) rfl rfl rfl rfl (by omega)) ?_
          refine WpL.v (V.ldRow1 tb rfl (by (repeat first | exact List.Mem.head _ | apply List.Mem.tail)) (fun _ => rfl) hk) ?_
          refine WpL.v (V.as) ?_
          apply WpL.nil
          apply Out.seqN
          apply Wp.region
          refine WpL.v (V.mv) ?_
          refine WpL.v (V.mv) ?_
          refine WpL.v (V.mv) ?_
          refine WpL.v (V.mv) ?_
          refine WpL.v (V.cmpS rfl rfl (show cmpS .eql k key = some false by simp [cmpS, hkk])) ?_
          refine WpL.v (V.pF) ?_
          refine WpL.v (V.as) ?_
          apply WpL.nil
          apply Out.blockN
          apply Out.seqN
          apply Wp.region
          refine WpL.v (V.add) ?_
          refine WpL.v (V.mv) ?_
          apply WpL.nil
          rotate_left
          (try simp only [decide_eq_true_eq, decide_eq_false_iff_not, Bool.not_eq_true', Bool.not_eq_false', Bool.not_eq_true, Bool.not_eq_false, not_true_eq_false, not_false_eq_true, reduceCtorEq] at hi0)
          (exfalso; omega)
          all_goals exact Out.ag hK2 (j + 1) (by omega) (by show k1.length - (j + 1) < k1.length - j; omega) (he := by rw [e1]; (repeat (first | exact subEnv.nil | refine subEnv.cons rfl rfl ?_)))
    · obtain rfl : j = k1.length := by omega
      clear hK2
      rw [List.take_length, decide_eq_true hin]
      apply Wp.seq
      apply Wp.region
      refine WpL.v (V.cmp) ?_
      apply WpL.nil
      apply Out.seqN
      apply Wp.seq
      refine Wp.c (fun hj0 => ?_) (fun hj0 => ?_)
      (try simp only [decide_eq_true_eq, decide_eq_false_iff_not, Bool.not_eq_true', Bool.not_eq_false', Bool.not_eq_true, Bool.not_eq_false, not_true_eq_false, not_false_eq_true, reduceCtorEq] at hj0)
      (exfalso; omega)
      (try simp only [decide_eq_true_eq, decide_eq_false_iff_not, Bool.not_eq_true', Bool.not_eq_false', Bool.not_eq_true, Bool.not_eq_false, not_true_eq_false, not_false_eq_true, reduceCtorEq] at hj0)
      apply Wp.exit
      apply Out.seqE
      apply Out.seqE
      apply Out.blockE
      apply Out.seqN
      apply Wp.seq
      apply Wp.seq
      apply Wp.region
      refine WpL.v (V.mv) ?_
      refine WpL.v (V.not) ?_
      refine WpL.v (V.mv) ?_
      refine WpL.v (V.fa tb) ?_
      refine WpL.v (V.ld1 tb) ?_
      refine WpL.v (V.mv) ?_
      refine WpL.v (V.cmpS) ?_
      refine WpL.v (V.pF) ?_
      refine WpL.v (V.mv) ?_
      refine WpL.pt (fun hj1 => ?_) (fun hj1 => ?_)
      (try simp only [decide_eq_true_eq, decide_eq_false_iff_not, Bool.not_eq_true', Bool.not_eq_false', Bool.not_eq_true, Bool.not_eq_false, not_true_eq_false, not_false_eq_true, reduceCtorEq] at hj1)
      (try simp only [decide_eq_true_eq, decide_eq_false_iff_not, Bool.not_eq_true', Bool.not_eq_false', Bool.not_eq_true, Bool.not_eq_false, not_true_eq_false, not_false_eq_true, reduceCtorEq] at hj1)
      refine WpL.v (V.fa tb) ?_
      refine WpL.v (V.ld1 tb) ?_
      refine WpL.v (V.fa tb) ?_
      refine WpL.v (V.ld1 tb) ?_
      refine WpL.v (V.cmp) ?_
      refine WpL.v (V.pF) ?_
      refine WpL.v (V.mv) ?_
      refine WpL.pt (fun hj2 => ?_) (fun hj2 => ?_)
      (try simp only [decide_eq_true_eq, decide_eq_false_iff_not, Bool.not_eq_true', Bool.not_eq_false', Bool.not_eq_true, Bool.not_eq_false, not_true_eq_false, not_false_eq_true, reduceCtorEq] at hj2)
      (try simp only [decide_eq_true_eq, decide_eq_false_iff_not, Bool.not_eq_true', Bool.not_eq_false', Bool.not_eq_true, Bool.not_eq_false, not_true_eq_false, not_false_eq_true, reduceCtorEq] at hj2)
      refine WpL.v (V.fa tb) ?_
      refine WpL.v (V.ld1 tb) ?_
      refine WpL.v (V.cmp) ?_
      refine WpL.v (V.pF) ?_
      apply WpL.nil
      apply Out.seqN
      refine Wp.c (fun hj3 => ?_) (fun hj3 => ?_)
      (try simp only [decide_eq_true_eq, decide_eq_false_iff_not, Bool.not_eq_true', Bool.not_eq_false', Bool.not_eq_true, Bool.not_eq_false, not_true_eq_false, not_false_eq_true, reduceCtorEq] at hj3)
      (try simp only [decide_eq_true_eq, decide_eq_false_iff_not, Bool.not_eq_true', Bool.not_eq_false', Bool.not_eq_true, Bool.not_eq_false, not_true_eq_false, not_false_eq_true, reduceCtorEq] at hj3)
      apply Wp.skip
      apply Out.seqN
      apply Wp.seq
      apply Wp.region
      refine WpL.v (V.mv) ?_
      refine WpL.v (V.mv) ?_
      refine WpL.v (V.bld tb (c' := TDeed.c ⟨4, key, [], 0, 0, 0⟩)) ?_
      refine WpL.o (Op1.callT rfl (hD3) (by (repeat (first | exact Sel.nil | exact Rem.here | apply Sel.cons | apply Rem.there))) ?_)
      rintro v4 s5 ⟨rfl, rfl⟩
      refine incat ?_
      apply WpL.nil
      apply Out.seqN
      apply Wp.seq
      apply Wp.seq
      apply Wp.region
      refine WpL.v (V.mv) ?_
      refine WpL.v (V.ldA tb) ?_
      refine WpL.o (Op1.callT rfl (hL2) (by (repeat (first | exact Sel.nil | exact Rem.here | apply Sel.cons | apply Rem.there))) ?_)
      rintro v6 s7 ⟨v105, ⟨rfl, rfl⟩⟩
      refine incat ?_
      refine WpL.v (V.fld1 tb (off := 3) (T := 30) rfl rfl (Reads.one (tb.oneAt (T := 30) rfl) rfl)) ?_
      refine WpL.v (V.lenRows tb) ?_
      refine WpL.v (V.mv) ?_
      apply WpL.nil
      apply Out.seqN
      apply Wp.block
      refine Wp.fact (rowsForm (f := strc) (l := k2) (by repeat first | exact List.Mem.head _ | apply List.Mem.tail)) fun hform2 => ?_
      refine Wp.lp [107, 106, 9, 1] (fun j : Nat => j ≤ k2.length) (fun j => [(108, I (j : Int))]) (fun _ => []) (fun j => k2.length - j) 0 (Nat.zero_le _) ?_
      intro j hj K3 hK3
      dsimp only [List.cons_append, List.nil_append]
      by_cases hj2 : j < k2.length
      · obtain ⟨k, hk⟩ := getS hj2
        rcases hform2 with ⟨h1, h2⟩ | ⟨g, cp, rfl, _⟩
        · rw [h2] at hj2; simp at hj2
        have hkk := hout k (List.mem_of_getElem? hk)
        apply Wp.seq
        apply Wp.region
        refine WpL.v (V.cmp) ?_
        apply WpL.nil
        apply Out.seqN
        apply Wp.seq
        refine Wp.c (fun hl0 => ?_) (fun hl0 => ?_)
        (try simp only [decide_eq_true_eq, decide_eq_false_iff_not, Bool.not_eq_true', Bool.not_eq_false', Bool.not_eq_true, Bool.not_eq_false, not_true_eq_false, not_false_eq_true, reduceCtorEq] at hl0)
        apply Wp.skip
        apply Out.seqN
        apply Wp.seq
        apply Wp.block
        apply Wp.seq
        apply Wp.region
        refine WpL.v (V.ixk tb (k := j) rfl rfl rfl rfl (by omega)) ?_
        refine WpL.v (V.ldRow1 tb rfl (by (repeat first | exact List.Mem.head _ | apply List.Mem.tail)) (fun _ => rfl) hk) ?_
        refine WpL.v (V.as) ?_
        apply WpL.nil
        apply Out.seqN
        apply Wp.seq
        apply Wp.region
        refine WpL.v (V.mv) ?_
        refine WpL.v (V.mv) ?_
        refine WpL.v (V.cmpS rfl rfl (show cmpS .eql k key = some false by simp [cmpS, hkk])) ?_
        apply WpL.nil
        apply Out.seqN
        refine Wp.cF ?_
        apply Wp.skip
        apply Out.blockN
        apply Out.seqN
        apply Wp.region
        refine WpL.v (V.add) ?_
        refine WpL.v (V.mv) ?_
        apply WpL.nil
        rotate_left
        (try simp only [decide_eq_true_eq, decide_eq_false_iff_not, Bool.not_eq_true', Bool.not_eq_false', Bool.not_eq_true, Bool.not_eq_false, not_true_eq_false, not_false_eq_true, reduceCtorEq] at hl0)
        (exfalso; omega)
        exact Out.ag hK3 (j + 1) (by omega) (by show k2.length - (j + 1) < k2.length - j; omega)
      · obtain rfl : j = k2.length := by omega
        clear hK3
        apply Wp.seq
        apply Wp.region
        refine WpL.v (V.cmp) ?_
        apply WpL.nil
        apply Out.seqN
        apply Wp.seq
        refine Wp.c (fun ho0 => ?_) (fun ho0 => ?_)
        (try simp only [decide_eq_true_eq, decide_eq_false_iff_not, Bool.not_eq_true', Bool.not_eq_false', Bool.not_eq_true, Bool.not_eq_false, not_true_eq_false, not_false_eq_true, reduceCtorEq] at ho0)
        (exfalso; omega)
        (try simp only [decide_eq_true_eq, decide_eq_false_iff_not, Bool.not_eq_true', Bool.not_eq_false', Bool.not_eq_true, Bool.not_eq_false, not_true_eq_false, not_false_eq_true, reduceCtorEq] at ho0)
        apply Wp.exit
        apply Out.seqE
        apply Out.seqE
        apply Out.blockE
        apply Out.seqN
        apply Wp.seq
        apply Wp.region
        refine WpL.v (V.mv) ?_
        refine WpL.v (V.mv) ?_
        refine WpL.v (V.bld tb (c' := TDeed.c ⟨1, key, [], 0, 0, 0⟩)) ?_
        refine WpL.o (Op1.callT rfl (hD4) (by (repeat (first | exact Sel.nil | exact Rem.here | apply Sel.cons | apply Rem.there))) ?_)
        rintro v1 s2 ⟨rfl, rfl⟩
        refine incat ?_
        refine WpL.v (V.fld1 tb (off := 0) (T := 29) rfl rfl (Reads.one (tb.oneAt (T := 29) rfl) rfl)) ?_
        refine WpL.v (V.cmp) ?_
        refine WpL.v (V.as) ?_
        apply WpL.nil
        apply Out.seqN
        apply Wp.ret
        refine Out.f1 rfl ResIs.t ⟨?_, rfl⟩
        exact rfl
open Go Go.ChangeShapes Go.WideShapes Go.ChangeAt Go.RowKit
theorem registryReads_read : (Try.f3.params.toList.all fun t => Try.prog.readableRec t && decide (t < Try.prog.types.size)) = true := by kernel_rfl
theorem registryReads_lifted (os : Go.Os) (started : os.Started) (H : Type) (enc : Go.TypeId × Go.Value → H) :
    ReturnsInHanded {} Try.checked os 3 .any (Rows.registryReadsSpec.pre6 enc Try.prog Try.f3 Rows.registryReadsRow.domain false) (Rows.registryReadsSpec.post enc Try.prog Try.f3 false true false false) := by
  refine returnsInHanded_of_change_sized (C := Try.checked) own started (by kernel_rfl) Try.func3
    (ChangeSpec.witness6 (enc := enc) (C := Try.checked) false ⟨#[], #[.slice none 0 0, S [], S [], I 0], []⟩ 8 (by kernel_rfl) (by kernel_rfl) (by kernel_rfl) (by kernel_rfl)) ?_
  intro W base args ds gs before hval0 hW hcnd hsz0 _
  have hsz : (DataW.weightsEach Try.prog (Try.f3.params.toList ++ Rows.registryReadsSpec.plain.varTypes Try.prog) (ds ++ gs)).all (· ≤ reachBytes) = true := hsz0
  have hval : ∀ (j : Nat) t v, Try.f3.params[j]? = some t → args[j]? = some v → Value.okWide Try.prog W .any base t v := hval0
  have hW' := hW
  obtain ⟨p, q, hA0, hV, rfl, hfz, hnd⟩ := hW
  have hA1 : DataW.TrodAll enc Try.prog W 0 (fun _ => true) true Try.f3.params.toList args.toList ds p := hA0
  have hA := hA1
  rw [Try.params3] at hA hval hsz
  obtain ⟨v0, vs0, d0, ds0, p0, q0, hargs, rfl, rfl, h0, r0⟩ := trodAll_cons hA
  obtain ⟨v1, vs1, d1, ds1, p1, q1, rfl, rfl, rfl, h1, r1⟩ := trodAll_cons r0
  obtain ⟨v2, vs2, d2, ds2, p2, q2, rfl, rfl, rfl, h2, r2⟩ := trodAll_cons r1
  obtain ⟨v3, vs3, d3, ds3, p3, q3, rfl, rfl, rfl, h3, r3⟩ := trodAll_cons r2
  obtain ⟨rfl, rfl, rfl⟩ := trodAll_nil r3
  obtain rfl : args = #[v0, v1, v2, v3] := by cases args; simp_all
  obtain ⟨rfl, rfl⟩ := trodVars_none hV
  obtain ⟨ao0, b0, off0, len0, cap0, xs0, rfl, hl0, hlc0, hcm0, ha0, hs0, hf0, hby0⟩ := open_slice_plain Try.underlying22 TDeed.leaves (by kernel_rfl) (by decide) (hval 0 22 v0 rfl rfl) h0 (sizedAll hsz 0 rfl rfl)
  obtain ⟨x0, rfl, w0⟩ := fits_map TDeed.c TDeed.wf hf0 TDeed.fit
  obtain rfl : len0 = x0.length := by simpa using hl0.symm
  obtain ⟨x1, rfl, w1⟩ := open_str (P := Try.prog) Try.underlying9 h1 (string_cells (hval 1 9 v1 rfl rfl) Try.underlying9) (sizedAll hsz 1 rfl rfl)
  obtain ⟨x2, rfl, w2⟩ := open_str (P := Try.prog) Try.underlying9 h2 (string_cells (hval 2 9 v2 rfl rfl) Try.underlying9) (sizedAll hsz 2 rfl rfl)
  obtain ⟨x3, rfl, rfl, rfl, w3⟩ := open_int Try.underlying3 (hval 3 3 v3 rfl rfl) h3
  simp only [List.append_nil] at hW' hA1
  have hbl : ∀ p : Nat × Nat, p ∈ [(x0.length, b0)] → 0 < p.1 → p.2 < W.heap.size := by
    intro p hp h0
    simp only [List.mem_cons, List.mem_nil_iff, or_false] at hp
    rcases hp with rfl
    · exact (ha0 h0).2
  have hR0 : Rd (snap W (blocksOf [(x0.length, b0)])) ao0 x0.length b0 off0 6 (x0.map TDeed.c) := Rd.snap (by simp) (Nat.le_trans hlc0 hcm0) ha0 hs0 (fun h => blocksOf_mem (len := x0.length) (by simp) h)
  refine (Ct.runSnap (blocksOf_nodup _) (blocksOf_lt hbl) (registryReads_walk _ _ _ _ _ x0 x1 x2 x3 hR0 w1 w2)).mono fun e W' hh => ?_
  obtain ⟨rfl, hS⟩ := hh
  exact ⟨_, rfl, post_law (P := Try.prog) (f := Try.f3) (tbool := 4) hW' hA1 rfl rfl hS laid registryReads_read rfl Try.underlying4⟩
theorem registryReads_joined : joinedFacts Try.prog 3 Try.f3 Rows.registryReadsSpec Rows.registryReadsRow = true := by
  unfold joinedFacts
  rewrite [head_enter, head_lift, head_make]
  kernel_rfl
theorem registryReads_over : Rows.registryReadsRow.holds Try.pinned (OpenSpec.ofChange Rows.registryReadsSpec) :=
  OpenClaim.holds_of_wide 3 Try.f3 rfl rfl rfl rfl rfl rfl rfl ⟨rfl, rfl, rfl, rfl, rfl⟩ rfl rfl rfl rfl rfl (by kernel_rfl) Try.func3 registryReads_joined
    (of_decide_eq_true (by kernel_rfl)) (by unfold Func.isWrapper; first | (rw [if_pos (by decide +kernel)]; kernel_rfl) | (rw [if_neg (by decide +kernel)]; exact ⟨rfl, rfl⟩))
    (fun os started H enc _ => registryReads_lifted os started H enc)
/-- THE STATEMENT. -/
theorem registryReads_proved : Rows.RegistryReadsSaid := registryReads_over
#print axioms registryReads_proved

end Go.Proofs.Ytgihkocnmgkihaa
