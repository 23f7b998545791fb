/-
  Layer 21: the document's machine: its bytes.
-/
import Derived.Test.YtgihkocnmgkihaaDm2
namespace Go.Proofs.Ytgihkocnmgkihaa
open Go.HL
set_option linter.unusedSimpArgs false
set_option linter.unusedVariables false
set_option maxRecDepth 8000
theorem sesT_len {n : Nat} {s : CS} {T : SM} {g : GB} (hi : CI n s) (hz : CZ s) (hd : DM s.ss T g) (hn : n ≤ 82) (k : Nat) : ((T.take k).flatMap fun p => sessB p.1 p.2.f).length ≤ 745544 := by
  have hids := hd.ids hi
  have hTl : T.length ≤ 82 := by
    have h1 := congrArg List.length hids
    rw [List.length_map, idsC_len] at h1
    have := hi.len
    omega
  have key : ∀ (L : SM), (∀ p ∈ L, p ∈ T) → (L.flatMap fun p => sessB p.1 p.2.f).length ≤ 9092 * L.length := by
    intro L
    induction L with
    | nil => intro _; simp
    | cons p L ih =>
      intro hL
      have h1 := ih fun q hq => hL q (List.mem_cons_of_mem _ hq)
      have hp := hL p List.mem_cons_self
      have hid : p.1 ∈ idsC s.ss := by rw [← hids]; exact List.mem_map_of_mem hp
      have h2 := sessB_len hi hz hn (k := p.1) (ids_le hi hid).2
      rw [hd.at hp] at h2
      rw [List.flatMap_cons, List.length_append, List.length_cons]
      omega
  have h1 := key (T.take k) fun p hp => List.mem_of_mem_take hp
  have h2 : (T.take k).length ≤ 82 := by rw [List.length_take]; omega
  have := Nat.mul_le_mul_left 9092 h2
  omega
set_option maxHeartbeats 4000000 in
theorem dm_bytes (b : Nat) (ks vs ns ids nums reps : Go.Value) (n : Nat) (s : CS) (T : SM) (g : GB) (hi : CI n s) (hz : CZ s) (hd : DM s.ss T g) (hn : n ≤ 82) :
    Ct Try.prog 38 [Ptr b 0] (dmE b ks vs ns ids nums reps s.l T g s.cnt) (fun r σ' => r = S (bytesC s) ∧ σ' = dmE b ks vs ns ids nums reps s.l T g s.cnt) := by
  have hB := ref_bytes b 65 [ids, nums, reps, I s.cnt] ks vs ns (canon s.l) (Small.canon hi.reg hz.reg (by omega)) (by have := canon_len s.l; have := hi.reg.len; omega)
  have hrl := bytesR_len (Small.canon hi.reg hz.reg (by omega))
  have hcl := canon_len s.l
  have hrn := hi.reg.len
  have hsb : bytesC s = (T.flatMap fun p => sessB p.1 p.2.f) ++ bytesR (canon s.l) := by unfold bytesC; rw [hd.bytes hi]
  have hids := hd.ids hi
  have hl1 : (T.map (·.1)).length = T.length := List.length_map ..
  have hl2 : (T.map (·.2.num)).length = T.length := List.length_map ..
  have hl3 : (T.map (·.2)).length = T.length := List.length_map ..
  rw [hsb]
  unfold rfE at hB
  unfold dmE
  refine Ct.enter Try.func38 rfl rfl fun W => ?_
  refine Wp.fact (rowsRd (f := i64c) (v := ids) (l := T.map (·.1)) (E := 3) (sz := 1) (fun _ => rfl) (by repeat first | exact List.Mem.head _ | apply List.Mem.tail)) fun hv => ?_
  obtain ⟨ao1, cap1, bk1, off1, rfl, hR1⟩ := hv
  refine Wp.fact (rowsRd (f := i64c) (v := nums) (l := T.map (·.2.num)) (E := 3) (sz := 1) (fun _ => rfl) (by repeat first | exact List.Mem.head _ | apply List.Mem.tail)) fun hv => ?_
  obtain ⟨ao2, cap2, bk2, off2, rfl, hR2⟩ := hv
  refine Wp.fact (rowsRd (f := rpC) (v := reps) (l := T.map (·.2)) (E := 39) (sz := 4) rpC.len (by repeat first | exact List.Mem.head _ | apply List.Mem.tail)) fun hv => ?_
  obtain ⟨ao3, cap3, bk3, off3, rfl, hR3⟩ := hv
  have hml := hR1.len
  apply Wp.seq
  apply Wp.region
  refine WpL.v (V.as) ?_
  apply WpL.nil
  apply Out.seqN
  apply Wp.seq
  apply Wp.region
  refine WpL.v (V.as) ?_
  apply WpL.nil
  apply Out.seqN
  apply Wp.seq
  apply Wp.seq
  apply Wp.region
  refine WpL.v (V.mv) ?_
  refine WpL.v (V.nc) ?_
  refine WpL.v (V.fa tb) ?_
  refine WpL.v (V.ld1 tb) ?_
  refine WpL.v (V.lenL tb) ?_
  refine WpL.v (V.mv) ?_
  apply WpL.nil
  apply Out.seqN
  apply Wp.block
  refine Wp.lp [12, 13, 0] (fun k : Nat => k ≤ T.length) (fun k => [(14, I (k : Int)), (3, S ((T.take k).flatMap fun p => sessB p.1 p.2.f))]) (fun _ => []) (fun k => T.length - k) 0 (Nat.zero_le _) ?_
  intro k hk K hK
  dsimp only [List.cons_append, List.nil_append]
  have hlen := sesT_len hi hz hd hn k
  by_cases hlt : k < T.length
  · obtain ⟨⟨id, x⟩, hq⟩ := getS hlt
    have hqm := List.mem_of_getElem? hq
    have hat := hd.at hqm
    have hidm : id ∈ idsC s.ss := by rw [← hids]; exact List.mem_map_of_mem (f := Prod.fst) hqm
    have hile := ids_le hi hidm
    have hgn := hi.gets id
    have hgz := hz.get id
    have hkm := hd.mem _ hqm
    have hlen2 := sesT_len hi hz hd hn (k + 1)
    obtain ⟨num0, err0, val0, ver0, keys0, kv0⟩ := x
    dsimp only at hkm hat
    rw [hat] at hgn hgz
    obtain ⟨z1, z2, z3, z4⟩ := hgz
    refine Wp.fact (KR.of_bag (g := g) hkm (by repeat first | exact List.Mem.head _ | apply List.Mem.tail)) fun hK0 => ?_
    obtain ⟨ao0, cap0, bk0, off0, rfl, hRd0⟩ := hK0
    have hq1 : (T.map (·.1))[k]? = some id := by rw [List.getElem?_map, hq]; rfl
    have hq2 : (T.map (·.2.num))[k]? = some num0 := by rw [List.getElem?_map, hq]; rfl
    have hq3 : ((T.map (·.2)).map rpC)[k]? = some (Caucusref20Reply.c ⟨err0, val0, ver0, .slice ao0 keys0.length cap0⟩) := by rw [List.getElem?_map, List.getElem?_map, hq]; rfl
    have z1 : err0 ≤ 1000000 := z1
    have z2 : val0.length ≤ 100 := z2
    have z3 : ver0 ≤ 1000000 := z3
    have hgn2 : 0 ≤ num0 ∧ num0 ≤ 1099511627776 ∧ keys0.length ≤ n := hgn
    have hT1 := refNat id (by omega)
    have hT2 := refNat num0 (by omega)
    have hT3 := refNat err0 (by omega)
    have hT4 := refText val0 (by omega)
    have hT5 := refNat ver0 (by omega)
    have hT6 := refNat keys0.length (by omega)
    have n1 := natI_len (n := id) (by omega)
    have n2 := natI_len (n := num0) (by omega)
    have n3 := natI_len (n := err0) (by omega)
    have n4 := natI_len (n := (val0.length : Int)) (by omega)
    have n5 := natI_len (n := ver0) (by omega)
    have n6 := natI_len (n := (keys0.length : Int)) (by omega)
    have hkl := keysB_len z4
    have hsn : (T.take (k + 1)).flatMap (fun p => sessB p.1 p.2.f) = (T.take k).flatMap (fun p => sessB p.1 p.2.f) ++ natI id ++ natI num0 ++ natI err0 ++ (natI val0.length ++ val0) ++ natI ver0 ++ natI keys0.length ++ keys0.flatMap keyB := by
      rw [take_snocS hq, List.flatMap_append]
      simp only [List.flatMap_cons, List.flatMap_nil, List.append_nil]
      unfold sessB repB LV.f
      simp only [List.append_assoc]
    generalize (T.take k).flatMap (fun p => sessB p.1 p.2.f) = P0 at *
    apply Wp.seq
    apply Wp.region
    refine WpL.v (V.cmp) ?_
    apply WpL.nil
    apply Out.seqN
    apply Wp.seq
    refine Wp.c (fun h0 => ?_) (fun h0 => ?_)
    (try simp only [decide_eq_true_eq, decide_eq_false_iff_not, Bool.not_eq_true', Bool.not_eq_false', Bool.not_eq_true, Bool.not_eq_false, not_true_eq_false, not_false_eq_true, reduceCtorEq] at h0)
    apply Wp.skip
    apply Out.seqN
    apply Wp.seq
    apply Wp.block
    apply Wp.seq
    apply Wp.region
    refine WpL.v (V.mv) ?_
    refine WpL.v (V.ixR tb rfl rfl (by assumption)) ?_
    refine WpL.v (V.ldR1 tb rfl hR1 (getMapS hq1)) ?_
    refine WpL.v (V.as) ?_
    refine WpL.v (V.as) ?_
    apply WpL.nil
    apply Out.seqN
    apply Wp.seq
    apply Wp.region
    refine WpL.v (V.mv) ?_
    refine WpL.v (V.nc) ?_
    refine WpL.v (V.fa tb) ?_
    refine WpL.v (V.ld1 tb) ?_
    refine WpL.v (V.mv) ?_
    refine WpL.v (V.ixR tb rfl rfl (by assumption)) ?_
    refine WpL.v (V.ldRA tb rfl hR3 hq3) ?_
    refine WpL.o (O.al tb (fun p6 => ?_))
    refine WpL.o (O.stA tb ?_)
    apply WpL.nil
    apply Out.seqN
    apply Wp.seq
    refine Wp.dG [] ?_ (List.Sublist.cons_cons _ (List.Sublist.cons_cons _ (List.Sublist.cons_cons _ (List.Sublist.cons_cons _ (List.Sublist.cons_cons _ (List.Sublist.cons_cons _ (List.Sublist.cons_cons _ (List.Sublist.cons_cons _ (List.Sublist.cons_cons _ List.Sublist.slnil))))))))) (List.Sublist.cons_cons _ (List.Sublist.cons_cons _ (List.Sublist.cons_cons _ (List.Sublist.cons_cons _ (List.Sublist.cons_cons _ (List.Sublist.cons_cons _ (List.Sublist.cons_cons _ (List.Sublist.cons_cons _ (List.Sublist.cons_cons _ List.Sublist.slnil)))))))))
    refine WpA.tF 0 rfl (V.mv) ?_
    refine WpA.tF 1 rfl (V.mv) ?_
    refine WpA.tF 4 rfl (V.mv) ?_
    refine WpA.tF 5 rfl (V.nc) ?_
    refine WpA.tF 6 rfl (V.fa tb) ?_
    refine WpA.tF 7 rfl (V.ld1 tb) ?_
    refine WpA.tF 8 rfl (V.mv) ?_
    refine WpA.tF 9 rfl (V.ixR tb rfl rfl (by assumption)) ?_
    refine WpA.tF 10 rfl (V.ldR1 tb rfl hR2 (getMapS hq2)) ?_
    refine WpA.tF 13 rfl (V.fa tb) ?_
    refine WpA.tF 14 rfl (V.ld1 tb) ?_
    refine WpA.tF 17 rfl (V.fa tb) ?_
    refine WpA.tF 18 rfl (V.ld1 tb) ?_
    refine WpA.tF 21 rfl (V.fa tb) ?_
    refine WpA.tF 22 rfl (V.ld1 tb) ?_
    refine WpA.tF 25 rfl (V.fa tb) ?_
    refine WpA.tF 26 rfl (V.ld1 tb) ?_
    refine WpA.tF 27 rfl (V.lenL tb) ?_
    refine WpA.oS 2 rfl (Op1.fn rfl (hT1) ⟨?_, ?_, ?_⟩)
    exact holdT
    exact holdT
    refine WpA.tF 3 rfl (V.cat) ?_
    refine WpA.oS 11 rfl (Op1.fn rfl (hT2) ⟨?_, ?_, ?_⟩)
    exact holdT
    exact holdT
    refine WpA.tF 12 rfl (V.cat) ?_
    refine WpA.oS 15 rfl (Op1.fn rfl (hT3) ⟨?_, ?_, ?_⟩)
    exact holdT
    exact holdT
    refine WpA.tF 16 rfl (V.cat) ?_
    refine WpA.oS 19 rfl (Op1.fn rfl (hT4) ⟨?_, ?_, ?_⟩)
    exact holdT
    exact holdT
    refine WpA.tF 20 rfl (V.cat) ?_
    refine WpA.oS 23 rfl (Op1.fn rfl (hT5) ⟨?_, ?_, ?_⟩)
    exact holdT
    exact holdT
    refine WpA.tF 24 rfl (V.cat) ?_
    refine WpA.oS 28 rfl (Op1.fn rfl (hT6) ⟨?_, ?_, ?_⟩)
    exact holdT
    exact holdT
    refine WpA.tF 29 rfl (V.cat) ?_
    refine WpA.tF 30 rfl (V.as) ?_
    refine WpA.ou ?_
    apply Out.seqN
    apply Wp.seq
    apply Wp.region
    refine WpL.v (V.fa tb) ?_
    refine WpL.v (V.ld1 tb) ?_
    refine WpL.v (V.lenL tb) ?_
    refine WpL.v (V.mv) ?_
    apply WpL.nil
    apply Out.seqN
    apply Wp.block
    rotate_left
    (try simp only [decide_eq_true_eq, decide_eq_false_iff_not, Bool.not_eq_true', Bool.not_eq_false', Bool.not_eq_true, Bool.not_eq_false, not_true_eq_false, not_false_eq_true, reduceCtorEq] at h0)
    (exfalso; omega)
    rw [hsn] at hlen2
    obtain ⟨X, hX⟩ : ∃ X, X = P0 ++ natI id ++ natI num0 ++ natI err0 ++ (natI val0.length ++ val0) ++ natI ver0 ++ natI keys0.length := ⟨_, rfl⟩
    rw [← hX] at hlen2 hsn
    have hXl : X.length ≤ 745544 := by rw [List.length_append] at hlen2; omega
    refine Wp.lp [57, 58, 14, 12, 13, 0] (fun i : Nat => i ≤ keys0.length) (fun i => [(59, I (i : Int)), (3, S (X ++ (keys0.take i).flatMap keyB))]) (fun _ => []) (fun i => keys0.length - i) 0 (Nat.zero_le _) ?_ (he := by rw [hX]; simp only [List.take_zero, List.flatMap_nil, List.append_nil]; (repeat (first | exact subEnv.nil | refine subEnv.cons rfl rfl ?_)))
    intro i hik K2 hK2
    dsimp only [List.cons_append, List.nil_append]
    have htl := keysB_len (ks := keys0.take i) (fun q hq => z4 q (List.mem_of_mem_take hq))
    rw [List.length_take] at htl
    by_cases hil : i < keys0.length
    · obtain ⟨q, hqk⟩ := getS hil
      have hq4 := z4 q (List.mem_of_getElem? hqk)
      have hTq := refText q (by omega)
      have nq := natI_len (n := (q.length : Int)) (by omega)
      have hsq : X ++ (keys0.take i).flatMap keyB ++ (natI q.length ++ q) = X ++ (keys0.take (i + 1)).flatMap keyB := by
        rw [take_snocS hqk, List.flatMap_append, List.append_assoc]
        congr 2
        simp [keyB]
      apply Wp.seq
      apply Wp.region
      refine WpL.v (V.cmp) ?_
      apply WpL.nil
      apply Out.seqN
      apply Wp.seq
      refine Wp.c (fun h0 => ?_) (fun h0 => ?_)
      (try simp only [decide_eq_true_eq, decide_eq_false_iff_not, Bool.not_eq_true', Bool.not_eq_false', Bool.not_eq_true, Bool.not_eq_false, not_true_eq_false, not_false_eq_true, reduceCtorEq] at h0)
      apply Wp.skip
      apply Out.seqN
      apply Wp.seq
      apply Wp.block
      apply Wp.seq
      apply Wp.region
      refine WpL.v (V.ixR tb rfl rfl (by assumption)) ?_
      refine WpL.v (V.ldR1 tb rfl hRd0 (getMapS hqk)) ?_
      refine WpL.v (V.as) ?_
      apply WpL.nil
      apply Out.seqN
      apply Wp.region
      refine WpL.v (V.mv) ?_
      refine WpL.v (V.mv) ?_
      refine WpL.o (Op1.fn rfl (hTq) ?_)
      refine WpL.v (V.cat) ?_
      refine WpL.v (V.as) ?_
      apply WpL.nil
      apply Out.blockN
      apply Out.seqN
      apply Wp.region
      refine WpL.v (V.add) ?_
      refine WpL.v (V.mv) ?_
      apply WpL.nil
      rotate_left
      (try simp only [decide_eq_true_eq, decide_eq_false_iff_not, Bool.not_eq_true', Bool.not_eq_false', Bool.not_eq_true, Bool.not_eq_false, not_true_eq_false, not_false_eq_true, reduceCtorEq] at h0)
      (exfalso; omega)
      rw [hsq]
      exact Out.ag hK2 (i + 1) (by omega) (by omega)
    · obtain rfl : i = keys0.length := by omega
      rw [List.take_length]
      clear hK2
      apply Wp.seq
      apply Wp.region
      refine WpL.v (V.cmp) ?_
      apply WpL.nil
      apply Out.seqN
      apply Wp.seq
      refine Wp.c (fun h0 => ?_) (fun h0 => ?_)
      (try simp only [decide_eq_true_eq, decide_eq_false_iff_not, Bool.not_eq_true', Bool.not_eq_false', Bool.not_eq_true, Bool.not_eq_false, not_true_eq_false, not_false_eq_true, reduceCtorEq] at h0)
      (exfalso; omega)
      (try simp only [decide_eq_true_eq, decide_eq_false_iff_not, Bool.not_eq_true', Bool.not_eq_false', Bool.not_eq_true, Bool.not_eq_false, not_true_eq_false, not_false_eq_true, reduceCtorEq] at h0)
      apply Wp.exit
      apply Out.seqE
      apply Out.seqE
      apply Out.blockE
      apply Out.blockN
      apply Out.seqN
      apply Wp.region
      refine WpL.v (V.add) ?_
      refine WpL.v (V.mv) ?_
      apply WpL.nil
      rw [← hsn]
      exact Out.ag hK (k + 1) (by omega) (by omega)
  · obtain rfl : k = T.length := by omega
    rw [List.take_length]
    rw [List.take_length] at hlen
    clear hK
    apply Wp.seq
    apply Wp.region
    refine WpL.v (V.cmp) ?_
    apply WpL.nil
    apply Out.seqN
    apply Wp.seq
    refine Wp.c (fun h0 => ?_) (fun h0 => ?_)
    (try simp only [decide_eq_true_eq, decide_eq_false_iff_not, Bool.not_eq_true', Bool.not_eq_false', Bool.not_eq_true, Bool.not_eq_false, not_true_eq_false, not_false_eq_true, reduceCtorEq] at h0)
    (exfalso; omega)
    (try simp only [decide_eq_true_eq, decide_eq_false_iff_not, Bool.not_eq_true', Bool.not_eq_false', Bool.not_eq_true, Bool.not_eq_false, not_true_eq_false, not_false_eq_true, reduceCtorEq] at h0)
    apply Wp.exit
    apply Out.seqE
    apply Out.seqE
    apply Out.blockE
    apply Out.seqN
    apply Wp.seq
    apply Wp.region
    refine WpL.v (V.mv) ?_
    refine WpL.v (V.mv) ?_
    refine WpL.v (V.nc) ?_
    refine WpL.v (V.fa tb) ?_
    refine WpL.o (Op1.callT rfl (hB) (by (repeat (first | exact Sel.nil | exact Rem.here | apply Sel.cons | apply Rem.there))) ?_)
    rintro v1 s2 ⟨rfl, rfl⟩
    refine incat ?_
    refine WpL.v (V.cat) ?_
    refine WpL.v (V.as) ?_
    apply WpL.nil
    apply Out.seqN
    apply Wp.ret
    refine Out.f1 rfl ResIs.t ⟨?_, rfl⟩
    exact rfl
end Go.Proofs.Ytgihkocnmgkihaa
