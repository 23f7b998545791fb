/-
  Layer 20: the document's registry: a key is set.
-/
import Derived.Test.YtgihkocnmgkihaaRef
namespace Go.Proofs.Ytgihkocnmgkihaa
open Go.HL
set_option linter.unusedSimpArgs false
set_option linter.unusedVariables false
set_option maxRecDepth 8000
theorem cmpS_lt (p q : List UInt8) : cmpS .lss p q = some (decide (p < q)) := by simp [cmpS, bytesLess_eq]
theorem cmpS_gt (p q : List UInt8) : cmpS .gtr p q = some (decide (q < p)) := by
  simp only [cmpS, bytesLess_eq]
  by_cases h : p < q
  · have := lt_asy _ _ h
    simp [h, this]
  · by_cases e : p = q
    · subst e; simp [lt_irr]
    · have := (lt_tri e).resolve_left h
      simp [h, e, this]
structure SS where
  k : Nat
  ks : Go.Value
  vs : Go.Value
  ns : Go.Value
  R : RL
theorem filter_snoc {α : Type} {l : List α} {k : Nat} {x : α} (h : l[k]? = some x) (p : α → Bool) : (l.take (k + 1)).filter p = (l.take k).filter p ++ (if p x = true then [x] else []) := by
  rw [take_snocS h, List.filter_append]
  congr 1
  by_cases hp : p x = true <;> simp [hp]
theorem filter_len_take {α : Type} (l : List α) (k : Nat) (p : α → Bool) : ((l.take k).filter p).length ≤ l.length := Nat.le_trans (List.length_filter_le _ _) (by rw [List.length_take]; omega)
set_option maxHeartbeats 4000000 in
theorem ref_set (b : Nat) (E : Go.TypeId) (rest : List Go.Value) (ks vs ns : Go.Value) (R : RL) (key val : List UInt8) (ver : Int) (hl : R.length ≤ 10000) :
    Ct Try.prog 44 [Ptr b 0, S key, S val, I ver] (rfE b E rest ks vs ns R) (fun r σ' => ∃ ks' vs' ns', r = .tuple #[] ∧ σ' = rfE b E rest ks' vs' ns' (setL R key val ver)) := by
  unfold rfE
  refine Ct.enter Try.func44 rfl rfl fun W => ?_
  refine Wp.fact (rowsRd (f := strc) (v := ks) (l := R.map (·.Key)) (E := 9) (sz := 1) (fun _ => rfl) (by repeat first | exact List.Mem.head _ | apply List.Mem.tail)) fun hv => ?_
  obtain ⟨ao1, cap1, bk1, off1, rfl, hR1⟩ := hv
  refine Wp.fact (rowsRd (f := strc) (v := vs) (l := R.map (·.Value)) (E := 9) (sz := 1) (fun _ => rfl) (by repeat first | exact List.Mem.head _ | apply List.Mem.tail)) fun hv => ?_
  obtain ⟨ao2, cap2, bk2, off2, rfl, hR2⟩ := hv
  refine Wp.fact (rowsRd (f := i64c) (v := ns) (l := R.map (·.Version)) (E := 3) (sz := 1) (fun _ => rfl) (by repeat first | exact List.Mem.head _ | apply List.Mem.tail)) fun hv => ?_
  obtain ⟨ao3, cap3, bk3, off3, rfl, hR3⟩ := hv
  have hl1 : (R.map (·.Key)).length = R.length := List.length_map ..
  have hl2 : (R.map (·.Value)).length = R.length := List.length_map ..
  have hl3 : (R.map (·.Version)).length = R.length := List.length_map ..
  refine Wp.nilRows i64c 3 1 ?_
  refine Wp.nilRows strc 9 1 ?_
  refine Wp.nilRows strc 9 1 ?_
  apply Wp.seq
  apply Wp.region
  refine WpL.o (O.al tb (fun p8 => ?_))
  apply WpL.nil
  apply Out.seqN
  apply Wp.seq
  apply Wp.seq
  apply Wp.region
  refine WpL.v (V.mv) ?_
  refine WpL.v (V.nc) ?_
  refine WpL.v (V.fa tb) ?_
  refine WpL.v (V.ld1 tb) ?_
  refine WpL.v (V.lenL tb) ?_
  refine WpL.v (V.mv) ?_
  apply WpL.nil
  apply Out.seqN
  apply Wp.block
  refine Wp.lp [17, 16, 8, 3, 2, 1, 0] (fun y : SS => y.k ≤ R.length ∧ y.R = (R.take y.k).filter (fun p => decide (p.Key < key))) (fun y => [(18, I (y.k : Int))]) (fun y => [cells p8 44 (Caucusref20Registry.c ⟨y.ks, y.vs, y.ns⟩), rows strc y.ks 9 1 (y.R.map (·.Key)), rows strc y.vs 9 1 (y.R.map (·.Value)), rows i64c y.ns 3 1 (y.R.map (·.Version))]) (fun y => R.length - y.k) ⟨0, .slice none 0 0, .slice none 0 0, .slice none 0 0, []⟩ ⟨Nat.zero_le _, rfl⟩ ?_
  · rintro ⟨k, ks1, vs1, ns1, R1⟩ ⟨hk, hR⟩ K hK
    dsimp only at hk hR
    dsimp only [List.cons_append, List.nil_append]
    have hfl := filter_len_take R k (fun p => decide (p.Key < key))
    rw [← hR] at hfl
    by_cases hlt : k < R.length
    · obtain ⟨q, hq⟩ := getS hlt
      have hq1 : (R.map (·.Key))[k]? = some q.Key := by rw [List.getElem?_map, hq]; rfl
      have hq2 : (R.map (·.Value))[k]? = some q.Value := by rw [List.getElem?_map, hq]; rfl
      have hq3 : (R.map (·.Version))[k]? = some q.Version := by rw [List.getElem?_map, hq]; rfl
      have hfs := filter_snoc hq (fun p => decide (p.Key < key))
      rw [← hR] at hfs
      have hA := ref_add p8 44 [] ks1 vs1 ns1 R1 q.Key q.Value q.Version (by omega)
      unfold rfE at hA
      by_cases hlk : q.Key < key
      · simp only [decide_eq_true hlk, if_true] at hfs
        apply Wp.seq
        apply Wp.region
        refine WpL.v (V.cmp) ?_
        apply WpL.nil
        apply Out.seqN
        apply Wp.seq
        refine Wp.c (fun h0 => ?_) (fun h0 => ?_)
        (try simp only [decide_eq_true_eq, decide_eq_false_iff_not, Bool.not_eq_true', Bool.not_eq_false', Bool.not_eq_true, Bool.not_eq_false, not_true_eq_false, not_false_eq_true, reduceCtorEq] at h0)
        apply Wp.skip
        apply Out.seqN
        apply Wp.seq
        apply Wp.block
        apply Wp.seq
        apply Wp.region
        refine WpL.v (V.mv) ?_
        refine WpL.v (V.ixR tb rfl rfl (by assumption)) ?_
        refine WpL.v (V.ldR1 tb rfl hR1 (getMapS hq1)) ?_
        refine WpL.v (V.as) ?_
        refine WpL.v (V.as) ?_
        apply WpL.nil
        apply Out.seqN
        apply Wp.seq
        apply Wp.region
        refine WpL.v (V.mv) ?_
        refine WpL.v (V.mv) ?_
        refine WpL.v (V.cmpS rfl rfl (show cmpS .lss q.Key key = some true by rw [cmpS_lt, decide_eq_true hlk])) ?_
        apply WpL.nil
        apply Out.seqN
        refine Wp.cT ?_
        refine Wp.dG [] ?_ (List.Sublist.cons _ (List.Sublist.cons _ (List.Sublist.cons _ (List.Sublist.cons _ (List.Sublist.cons_cons _ (List.Sublist.cons_cons _ (List.Sublist.cons_cons _ (List.Sublist.cons_cons _ List.Sublist.slnil)))))))) (List.Sublist.cons _ (List.Sublist.cons _ (List.Sublist.cons _ (List.Sublist.cons _ (List.Sublist.cons_cons _ (List.Sublist.cons_cons _ (List.Sublist.cons_cons _ (List.Sublist.cons_cons _ List.Sublist.slnil))))))))
        refine WpA.tF 0 rfl (V.mv) ?_
        refine WpA.tF 1 rfl (V.mv) ?_
        refine WpA.tF 2 rfl (V.nc) ?_
        refine WpA.tF 3 rfl (V.fa tb) ?_
        refine WpA.tF 4 rfl (V.ld1 tb) ?_
        refine WpA.tF 5 rfl (V.mv) ?_
        refine WpA.tF 6 rfl (V.ixR tb rfl rfl (by assumption)) ?_
        refine WpA.tF 7 rfl (V.ldR1 tb rfl hR2 (getMapS hq2)) ?_
        refine WpA.tF 8 rfl (V.mv) ?_
        refine WpA.tF 9 rfl (V.nc) ?_
        refine WpA.tF 10 rfl (V.fa tb) ?_
        refine WpA.tF 11 rfl (V.ld1 tb) ?_
        refine WpA.tF 12 rfl (V.mv) ?_
        refine WpA.tF 13 rfl (V.ixR tb rfl rfl (by assumption)) ?_
        refine WpA.tF 14 rfl (V.ldR1 tb rfl hR3 (getMapS hq3)) ?_
        refine WpA.oS 15 rfl (Op1.callT rfl (hA) (by (repeat (first | exact Sel.nil | exact Rem.here | apply Sel.cons | apply Rem.there))) ?_)
        rintro v1 s2 ⟨ks'41, ⟨vs'41, ⟨ns'41, ⟨rfl, rfl⟩⟩⟩⟩
        refine incat ⟨?_, ?_, ?_⟩
        exact holdT
        exact holdT
        refine WpA.ou ?_
        apply Out.blockN
        apply Out.seqN
        apply Wp.region
        refine WpL.v (V.add) ?_
        refine WpL.v (V.mv) ?_
        apply WpL.nil
        rotate_left
        (try simp only [decide_eq_true_eq, decide_eq_false_iff_not, Bool.not_eq_true', Bool.not_eq_false', Bool.not_eq_true, Bool.not_eq_false, not_true_eq_false, not_false_eq_true, reduceCtorEq] at h0)
        (exfalso; omega)
        exact Out.ag hK ⟨k + 1, _, _, _, R1 ++ [⟨q.Key, q.Value, q.Version⟩]⟩ ⟨by show k + 1 ≤ _; omega, hfs.symm⟩ (by show R.length - (k + 1) < R.length - k; omega)
      · simp only [decide_eq_false hlk, Bool.false_eq_true, if_false, List.append_nil] at hfs
        apply Wp.seq
        apply Wp.region
        refine WpL.v (V.cmp) ?_
        apply WpL.nil
        apply Out.seqN
        apply Wp.seq
        refine Wp.c (fun h0 => ?_) (fun h0 => ?_)
        (try simp only [decide_eq_true_eq, decide_eq_false_iff_not, Bool.not_eq_true', Bool.not_eq_false', Bool.not_eq_true, Bool.not_eq_false, not_true_eq_false, not_false_eq_true, reduceCtorEq] at h0)
        apply Wp.skip
        apply Out.seqN
        apply Wp.seq
        apply Wp.block
        apply Wp.seq
        apply Wp.region
        refine WpL.v (V.mv) ?_
        refine WpL.v (V.ixR tb rfl rfl (by assumption)) ?_
        refine WpL.v (V.ldR1 tb rfl hR1 (getMapS hq1)) ?_
        refine WpL.v (V.as) ?_
        refine WpL.v (V.as) ?_
        apply WpL.nil
        apply Out.seqN
        apply Wp.seq
        apply Wp.region
        refine WpL.v (V.mv) ?_
        refine WpL.v (V.mv) ?_
        refine WpL.v (V.cmpS rfl rfl (show cmpS .lss q.Key key = some false by rw [cmpS_lt, decide_eq_false hlk])) ?_
        apply WpL.nil
        apply Out.seqN
        refine Wp.cF ?_
        apply Wp.skip
        apply Out.blockN
        apply Out.seqN
        apply Wp.region
        refine WpL.v (V.add) ?_
        refine WpL.v (V.mv) ?_
        apply WpL.nil
        rotate_left
        (try simp only [decide_eq_true_eq, decide_eq_false_iff_not, Bool.not_eq_true', Bool.not_eq_false', Bool.not_eq_true, Bool.not_eq_false, not_true_eq_false, not_false_eq_true, reduceCtorEq] at h0)
        (exfalso; omega)
        exact Out.ag hK ⟨k + 1, ks1, vs1, ns1, R1⟩ ⟨by show k + 1 ≤ _; omega, hfs.symm⟩ (by show R.length - (k + 1) < R.length - k; omega)
    · obtain rfl : k = R.length := by omega
      rw [List.take_length] at hR
      have hRk := hR
      clear hK
      -- the middle
      have hmid : ∃ R2, R2 = R1 ++ (if 0 < ver then [(⟨key, val, ver⟩ : RegistryPair)] else []) := ⟨_, rfl⟩
      obtain ⟨R2, hR2e⟩ := hmid
      have hA := ref_add p8 44 [] ks1 vs1 ns1 R1 key val ver (by omega)
      unfold rfE at hA
      have hl22 : R2.length ≤ 10001 := by
        rw [hR2e, List.length_append]
        split <;> simp <;> omega
      apply Wp.seq
      apply Wp.region
      refine WpL.v (V.cmp) ?_
      apply WpL.nil
      apply Out.seqN
      apply Wp.seq
      refine Wp.c (fun h0 => ?_) (fun h0 => ?_)
      (try simp only [decide_eq_true_eq, decide_eq_false_iff_not, Bool.not_eq_true', Bool.not_eq_false', Bool.not_eq_true, Bool.not_eq_false, not_true_eq_false, not_false_eq_true, reduceCtorEq] at h0)
      (exfalso; omega)
      (try simp only [decide_eq_true_eq, decide_eq_false_iff_not, Bool.not_eq_true', Bool.not_eq_false', Bool.not_eq_true, Bool.not_eq_false, not_true_eq_false, not_false_eq_true, reduceCtorEq] at h0)
      apply Wp.exit
      apply Out.seqE
      apply Out.seqE
      apply Out.blockE
      apply Out.seqN
      apply Wp.seq
      apply Wp.seq
      apply Wp.region
      refine WpL.v (V.mv) ?_
      refine WpL.v (V.cmp) ?_
      apply WpL.nil
      apply Out.seqN
      refine Wp.c (fun h1 => ?_) (fun h1 => ?_)
      (try simp only [decide_eq_true_eq, decide_eq_false_iff_not, Bool.not_eq_true', Bool.not_eq_false', Bool.not_eq_true, Bool.not_eq_false, not_true_eq_false, not_false_eq_true, reduceCtorEq] at h1)
      apply Wp.region
      refine WpL.v (V.mv) ?_
      refine WpL.v (V.mv) ?_
      refine WpL.v (V.mv) ?_
      refine WpL.o (Op1.callT rfl (hA) (by (repeat (first | exact Sel.nil | exact Rem.here | apply Sel.cons | apply Rem.there))) ?_)
      rintro v2 s3 ⟨ks'48, ⟨vs'48, ⟨ns'48, ⟨rfl, rfl⟩⟩⟩⟩
      refine incat ?_
      apply WpL.nil
      apply Out.seqN
      apply Wp.seq
      rotate_left
      (try simp only [decide_eq_true_eq, decide_eq_false_iff_not, Bool.not_eq_true', Bool.not_eq_false', Bool.not_eq_true, Bool.not_eq_false, not_true_eq_false, not_false_eq_true, reduceCtorEq] at h1)
      apply Wp.skip
      apply Out.seqN
      apply Wp.seq
      rotate_left
      · have hmp : (0 : Int) < ver := by assumption
        rw [if_pos hmp] at hR2e
        rw [← hR2e]
        clear hA
        apply Wp.seq
        apply Wp.region
        refine WpL.v (V.mv) ?_
        refine WpL.v (V.nc) ?_
        refine WpL.v (V.fa tb) ?_
        refine WpL.v (V.ld1 tb) ?_
        refine WpL.v (V.lenL tb) ?_
        refine WpL.v (V.mv) ?_
        apply WpL.nil
        apply Out.seqN
        apply Wp.block
        refine Wp.lp [53, 52, 8, 3, 2, 1, 0] (fun y : SS => y.k ≤ R.length ∧ y.R = R2 ++ (R.take y.k).filter (fun p => decide (key < p.Key))) (fun y => [(54, I (y.k : Int))]) (fun y => [cells p8 44 (Caucusref20Registry.c ⟨y.ks, y.vs, y.ns⟩), rows strc y.ks 9 1 (y.R.map (·.Key)), rows strc y.vs 9 1 (y.R.map (·.Value)), rows i64c y.ns 3 1 (y.R.map (·.Version))]) (fun y => R.length - y.k) ⟨0, _, _, _, R2⟩ ⟨Nat.zero_le _, (List.append_nil _).symm⟩ ?_
        rintro ⟨k, ks3, vs3, ns3, R3⟩ ⟨hk, hR⟩ K hK
        dsimp only at hk hR
        dsimp only [List.cons_append, List.nil_append]
        have hfl := filter_len_take R k (fun p => decide (key < p.Key))
        have hl33 : R3.length ≤ 20001 := by
          rw [hR, List.length_append]
          omega
        by_cases hlt : k < R.length
        · obtain ⟨q, hq⟩ := getS hlt
          have hq1 : (R.map (·.Key))[k]? = some q.Key := by rw [List.getElem?_map, hq]; rfl
          have hq2 : (R.map (·.Value))[k]? = some q.Value := by rw [List.getElem?_map, hq]; rfl
          have hq3 : (R.map (·.Version))[k]? = some q.Version := by rw [List.getElem?_map, hq]; rfl
          have hfs := filter_snoc hq (fun p => decide (key < p.Key))
          have hA := ref_add p8 44 [] ks3 vs3 ns3 R3 q.Key q.Value q.Version (by omega)
          unfold rfE at hA
          by_cases hlk : key < q.Key
          · simp only [decide_eq_true hlk, if_true] at hfs
            have hfs2 : R3 ++ [q] = R2 ++ (R.take (k + 1)).filter (fun p => decide (key < p.Key)) := by rw [hfs, hR, List.append_assoc]
            apply Wp.seq
            apply Wp.region
            refine WpL.v (V.cmp) ?_
            apply WpL.nil
            apply Out.seqN
            apply Wp.seq
            refine Wp.c (fun h0 => ?_) (fun h0 => ?_)
            (try simp only [decide_eq_true_eq, decide_eq_false_iff_not, Bool.not_eq_true', Bool.not_eq_false', Bool.not_eq_true, Bool.not_eq_false, not_true_eq_false, not_false_eq_true, reduceCtorEq] at h0)
            apply Wp.skip
            apply Out.seqN
            apply Wp.seq
            apply Wp.block
            apply Wp.seq
            apply Wp.region
            refine WpL.v (V.mv) ?_
            refine WpL.v (V.ixR tb rfl rfl (by assumption)) ?_
            refine WpL.v (V.ldR1 tb rfl hR1 (getMapS hq1)) ?_
            refine WpL.v (V.as) ?_
            refine WpL.v (V.as) ?_
            apply WpL.nil
            apply Out.seqN
            apply Wp.seq
            apply Wp.region
            refine WpL.v (V.mv) ?_
            refine WpL.v (V.mv) ?_
            refine WpL.v (V.cmpS rfl rfl (show cmpS .gtr q.Key key = some true by rw [cmpS_gt, decide_eq_true hlk])) ?_
            apply WpL.nil
            apply Out.seqN
            refine Wp.cT ?_
            refine Wp.dG [] ?_ (List.Sublist.cons _ (List.Sublist.cons _ (List.Sublist.cons _ (List.Sublist.cons _ (List.Sublist.cons_cons _ (List.Sublist.cons_cons _ (List.Sublist.cons_cons _ (List.Sublist.cons_cons _ List.Sublist.slnil)))))))) (List.Sublist.cons _ (List.Sublist.cons _ (List.Sublist.cons _ (List.Sublist.cons _ (List.Sublist.cons_cons _ (List.Sublist.cons_cons _ (List.Sublist.cons_cons _ (List.Sublist.cons_cons _ List.Sublist.slnil))))))))
            refine WpA.tF 0 rfl (V.mv) ?_
            refine WpA.tF 1 rfl (V.mv) ?_
            refine WpA.tF 2 rfl (V.nc) ?_
            refine WpA.tF 3 rfl (V.fa tb) ?_
            refine WpA.tF 4 rfl (V.ld1 tb) ?_
            refine WpA.tF 5 rfl (V.mv) ?_
            refine WpA.tF 6 rfl (V.ixR tb rfl rfl (by assumption)) ?_
            refine WpA.tF 7 rfl (V.ldR1 tb rfl hR2 (getMapS hq2)) ?_
            refine WpA.tF 8 rfl (V.mv) ?_
            refine WpA.tF 9 rfl (V.nc) ?_
            refine WpA.tF 10 rfl (V.fa tb) ?_
            refine WpA.tF 11 rfl (V.ld1 tb) ?_
            refine WpA.tF 12 rfl (V.mv) ?_
            refine WpA.tF 13 rfl (V.ixR tb rfl rfl (by assumption)) ?_
            refine WpA.tF 14 rfl (V.ldR1 tb rfl hR3 (getMapS hq3)) ?_
            refine WpA.oS 15 rfl (Op1.callT rfl (hA) (by (repeat (first | exact Sel.nil | exact Rem.here | apply Sel.cons | apply Rem.there))) ?_)
            rintro v1 s2 ⟨ks'77, ⟨vs'77, ⟨ns'77, ⟨rfl, rfl⟩⟩⟩⟩
            refine incat ⟨?_, ?_, ?_⟩
            exact holdT
            exact holdT
            refine WpA.ou ?_
            apply Out.blockN
            apply Out.seqN
            apply Wp.region
            refine WpL.v (V.add) ?_
            refine WpL.v (V.mv) ?_
            apply WpL.nil
            rotate_left
            (try simp only [decide_eq_true_eq, decide_eq_false_iff_not, Bool.not_eq_true', Bool.not_eq_false', Bool.not_eq_true, Bool.not_eq_false, not_true_eq_false, not_false_eq_true, reduceCtorEq] at h0)
            (exfalso; omega)
            exact Out.ag hK ⟨k + 1, _, _, _, R3 ++ [⟨q.Key, q.Value, q.Version⟩]⟩ ⟨by show k + 1 ≤ _; omega, hfs2⟩ (by show R.length - (k + 1) < R.length - k; omega)
          · simp only [decide_eq_false hlk, Bool.false_eq_true, if_false, List.append_nil] at hfs
            rw [← hfs] at hR
            apply Wp.seq
            apply Wp.region
            refine WpL.v (V.cmp) ?_
            apply WpL.nil
            apply Out.seqN
            apply Wp.seq
            refine Wp.c (fun h0 => ?_) (fun h0 => ?_)
            (try simp only [decide_eq_true_eq, decide_eq_false_iff_not, Bool.not_eq_true', Bool.not_eq_false', Bool.not_eq_true, Bool.not_eq_false, not_true_eq_false, not_false_eq_true, reduceCtorEq] at h0)
            apply Wp.skip
            apply Out.seqN
            apply Wp.seq
            apply Wp.block
            apply Wp.seq
            apply Wp.region
            refine WpL.v (V.mv) ?_
            refine WpL.v (V.ixR tb rfl rfl (by assumption)) ?_
            refine WpL.v (V.ldR1 tb rfl hR1 (getMapS hq1)) ?_
            refine WpL.v (V.as) ?_
            refine WpL.v (V.as) ?_
            apply WpL.nil
            apply Out.seqN
            apply Wp.seq
            apply Wp.region
            refine WpL.v (V.mv) ?_
            refine WpL.v (V.mv) ?_
            refine WpL.v (V.cmpS rfl rfl (show cmpS .gtr q.Key key = some false by rw [cmpS_gt, decide_eq_false hlk])) ?_
            apply WpL.nil
            apply Out.seqN
            refine Wp.cF ?_
            apply Wp.skip
            apply Out.blockN
            apply Out.seqN
            apply Wp.region
            refine WpL.v (V.add) ?_
            refine WpL.v (V.mv) ?_
            apply WpL.nil
            rotate_left
            (try simp only [decide_eq_true_eq, decide_eq_false_iff_not, Bool.not_eq_true', Bool.not_eq_false', Bool.not_eq_true, Bool.not_eq_false, not_true_eq_false, not_false_eq_true, reduceCtorEq] at h0)
            (exfalso; omega)
            exact Out.ag hK ⟨k + 1, ks3, vs3, ns3, R3⟩ ⟨by show k + 1 ≤ _; omega, hR⟩ (by show R.length - (k + 1) < R.length - k; omega)
        · obtain rfl : k = R.length := by omega
          rw [List.take_length] at hR
          have hfin : R3 = setL R key val ver := by
            rw [hR, hR2e, hRk]
            unfold setL
            simp [hmp]
          rw [← hfin]
          clear hK
          refine Wp.fact (rowsRd (f := strc) (v := ks3) (l := R3.map (·.Key)) (E := 9) (sz := 1) (fun _ => rfl) (by repeat first | exact List.Mem.head _ | apply List.Mem.tail)) fun hv => ?_
          obtain ⟨_, _, _, _, rfl, _⟩ := hv
          refine Wp.fact (rowsRd (f := strc) (v := vs3) (l := R3.map (·.Value)) (E := 9) (sz := 1) (fun _ => rfl) (by repeat first | exact List.Mem.head _ | apply List.Mem.tail)) fun hv => ?_
          obtain ⟨_, _, _, _, rfl, _⟩ := hv
          refine Wp.fact (rowsRd (f := i64c) (v := ns3) (l := R3.map (·.Version)) (E := 3) (sz := 1) (fun _ => rfl) (by repeat first | exact List.Mem.head _ | apply List.Mem.tail)) fun hv => ?_
          obtain ⟨_, _, _, _, rfl, _⟩ := hv
          apply Wp.seq
          apply Wp.region
          refine WpL.v (V.cmp) ?_
          apply WpL.nil
          apply Out.seqN
          apply Wp.seq
          refine Wp.c (fun h0 => ?_) (fun h0 => ?_)
          (try simp only [decide_eq_true_eq, decide_eq_false_iff_not, Bool.not_eq_true', Bool.not_eq_false', Bool.not_eq_true, Bool.not_eq_false, not_true_eq_false, not_false_eq_true, reduceCtorEq] at h0)
          (exfalso; omega)
          (try simp only [decide_eq_true_eq, decide_eq_false_iff_not, Bool.not_eq_true', Bool.not_eq_false', Bool.not_eq_true, Bool.not_eq_false, not_true_eq_false, not_false_eq_true, reduceCtorEq] at h0)
          apply Wp.exit
          apply Out.seqE
          apply Out.seqE
          apply Out.blockE
          apply Out.seqN
          apply Wp.region
          refine WpL.v (V.mv) ?_
          refine WpL.v (V.ldA tb) ?_
          refine WpL.v (V.nc) ?_
          refine WpL.o (O.stA tb ?_)
          apply WpL.nil
          refine Out.e0 rfl  ?_
          focus (exact ⟨_, _, ⟨_, _, _, rfl, rfl⟩, (by (repeat (first | exact Sel.nil | exact Rem.here | apply Sel.cons | apply Rem.there)))⟩; done)
      · have hmp : ¬ (0 : Int) < ver := by assumption
        rw [if_neg hmp, List.append_nil] at hR2e
        rw [← hR2e]
        clear hA
        apply Wp.seq
        apply Wp.region
        refine WpL.v (V.mv) ?_
        refine WpL.v (V.nc) ?_
        refine WpL.v (V.fa tb) ?_
        refine WpL.v (V.ld1 tb) ?_
        refine WpL.v (V.lenL tb) ?_
        refine WpL.v (V.mv) ?_
        apply WpL.nil
        apply Out.seqN
        apply Wp.block
        refine Wp.lp [53, 52, 8, 3, 2, 1, 0] (fun y : SS => y.k ≤ R.length ∧ y.R = R2 ++ (R.take y.k).filter (fun p => decide (key < p.Key))) (fun y => [(54, I (y.k : Int))]) (fun y => [cells p8 44 (Caucusref20Registry.c ⟨y.ks, y.vs, y.ns⟩), rows strc y.ks 9 1 (y.R.map (·.Key)), rows strc y.vs 9 1 (y.R.map (·.Value)), rows i64c y.ns 3 1 (y.R.map (·.Version))]) (fun y => R.length - y.k) ⟨0, _, _, _, R2⟩ ⟨Nat.zero_le _, (List.append_nil _).symm⟩ ?_
        rintro ⟨k, ks3, vs3, ns3, R3⟩ ⟨hk, hR⟩ K hK
        dsimp only at hk hR
        dsimp only [List.cons_append, List.nil_append]
        have hfl := filter_len_take R k (fun p => decide (key < p.Key))
        have hl33 : R3.length ≤ 20001 := by
          rw [hR, List.length_append]
          omega
        by_cases hlt : k < R.length
        · obtain ⟨q, hq⟩ := getS hlt
          have hq1 : (R.map (·.Key))[k]? = some q.Key := by rw [List.getElem?_map, hq]; rfl
          have hq2 : (R.map (·.Value))[k]? = some q.Value := by rw [List.getElem?_map, hq]; rfl
          have hq3 : (R.map (·.Version))[k]? = some q.Version := by rw [List.getElem?_map, hq]; rfl
          have hfs := filter_snoc hq (fun p => decide (key < p.Key))
          have hA := ref_add p8 44 [] ks3 vs3 ns3 R3 q.Key q.Value q.Version (by omega)
          unfold rfE at hA
          by_cases hlk : key < q.Key
          · simp only [decide_eq_true hlk, if_true] at hfs
            have hfs2 : R3 ++ [q] = R2 ++ (R.take (k + 1)).filter (fun p => decide (key < p.Key)) := by rw [hfs, hR, List.append_assoc]
            apply Wp.seq
            apply Wp.region
            refine WpL.v (V.cmp) ?_
            apply WpL.nil
            apply Out.seqN
            apply Wp.seq
            refine Wp.c (fun h0 => ?_) (fun h0 => ?_)
            (try simp only [decide_eq_true_eq, decide_eq_false_iff_not, Bool.not_eq_true', Bool.not_eq_false', Bool.not_eq_true, Bool.not_eq_false, not_true_eq_false, not_false_eq_true, reduceCtorEq] at h0)
            apply Wp.skip
            apply Out.seqN
            apply Wp.seq
            apply Wp.block
            apply Wp.seq
            apply Wp.region
            refine WpL.v (V.mv) ?_
            refine WpL.v (V.ixR tb rfl rfl (by assumption)) ?_
            refine WpL.v (V.ldR1 tb rfl hR1 (getMapS hq1)) ?_
            refine WpL.v (V.as) ?_
            refine WpL.v (V.as) ?_
            apply WpL.nil
            apply Out.seqN
            apply Wp.seq
            apply Wp.region
            refine WpL.v (V.mv) ?_
            refine WpL.v (V.mv) ?_
            refine WpL.v (V.cmpS rfl rfl (show cmpS .gtr q.Key key = some true by rw [cmpS_gt, decide_eq_true hlk])) ?_
            apply WpL.nil
            apply Out.seqN
            refine Wp.cT ?_
            refine Wp.dG [] ?_ (List.Sublist.cons _ (List.Sublist.cons _ (List.Sublist.cons _ (List.Sublist.cons _ (List.Sublist.cons_cons _ (List.Sublist.cons_cons _ (List.Sublist.cons_cons _ (List.Sublist.cons_cons _ List.Sublist.slnil)))))))) (List.Sublist.cons _ (List.Sublist.cons _ (List.Sublist.cons _ (List.Sublist.cons _ (List.Sublist.cons_cons _ (List.Sublist.cons_cons _ (List.Sublist.cons_cons _ (List.Sublist.cons_cons _ List.Sublist.slnil))))))))
            refine WpA.tF 0 rfl (V.mv) ?_
            refine WpA.tF 1 rfl (V.mv) ?_
            refine WpA.tF 2 rfl (V.nc) ?_
            refine WpA.tF 3 rfl (V.fa tb) ?_
            refine WpA.tF 4 rfl (V.ld1 tb) ?_
            refine WpA.tF 5 rfl (V.mv) ?_
            refine WpA.tF 6 rfl (V.ixR tb rfl rfl (by assumption)) ?_
            refine WpA.tF 7 rfl (V.ldR1 tb rfl hR2 (getMapS hq2)) ?_
            refine WpA.tF 8 rfl (V.mv) ?_
            refine WpA.tF 9 rfl (V.nc) ?_
            refine WpA.tF 10 rfl (V.fa tb) ?_
            refine WpA.tF 11 rfl (V.ld1 tb) ?_
            refine WpA.tF 12 rfl (V.mv) ?_
            refine WpA.tF 13 rfl (V.ixR tb rfl rfl (by assumption)) ?_
            refine WpA.tF 14 rfl (V.ldR1 tb rfl hR3 (getMapS hq3)) ?_
            refine WpA.oS 15 rfl (Op1.callT rfl (hA) (by (repeat (first | exact Sel.nil | exact Rem.here | apply Sel.cons | apply Rem.there))) ?_)
            rintro v1 s2 ⟨ks'77, ⟨vs'77, ⟨ns'77, ⟨rfl, rfl⟩⟩⟩⟩
            refine incat ⟨?_, ?_, ?_⟩
            exact holdT
            exact holdT
            refine WpA.ou ?_
            apply Out.blockN
            apply Out.seqN
            apply Wp.region
            refine WpL.v (V.add) ?_
            refine WpL.v (V.mv) ?_
            apply WpL.nil
            rotate_left
            (try simp only [decide_eq_true_eq, decide_eq_false_iff_not, Bool.not_eq_true', Bool.not_eq_false', Bool.not_eq_true, Bool.not_eq_false, not_true_eq_false, not_false_eq_true, reduceCtorEq] at h0)
            (exfalso; omega)
            exact Out.ag hK ⟨k + 1, _, _, _, R3 ++ [⟨q.Key, q.Value, q.Version⟩]⟩ ⟨by show k + 1 ≤ _; omega, hfs2⟩ (by show R.length - (k + 1) < R.length - k; omega)
          · simp only [decide_eq_false hlk, Bool.false_eq_true, if_false, List.append_nil] at hfs
            rw [← hfs] at hR
            apply Wp.seq
            apply Wp.region
            refine WpL.v (V.cmp) ?_
            apply WpL.nil
            apply Out.seqN
            apply Wp.seq
            refine Wp.c (fun h0 => ?_) (fun h0 => ?_)
            (try simp only [decide_eq_true_eq, decide_eq_false_iff_not, Bool.not_eq_true', Bool.not_eq_false', Bool.not_eq_true, Bool.not_eq_false, not_true_eq_false, not_false_eq_true, reduceCtorEq] at h0)
            apply Wp.skip
            apply Out.seqN
            apply Wp.seq
            apply Wp.block
            apply Wp.seq
            apply Wp.region
            refine WpL.v (V.mv) ?_
            refine WpL.v (V.ixR tb rfl rfl (by assumption)) ?_
            refine WpL.v (V.ldR1 tb rfl hR1 (getMapS hq1)) ?_
            refine WpL.v (V.as) ?_
            refine WpL.v (V.as) ?_
            apply WpL.nil
            apply Out.seqN
            apply Wp.seq
            apply Wp.region
            refine WpL.v (V.mv) ?_
            refine WpL.v (V.mv) ?_
            refine WpL.v (V.cmpS rfl rfl (show cmpS .gtr q.Key key = some false by rw [cmpS_gt, decide_eq_false hlk])) ?_
            apply WpL.nil
            apply Out.seqN
            refine Wp.cF ?_
            apply Wp.skip
            apply Out.blockN
            apply Out.seqN
            apply Wp.region
            refine WpL.v (V.add) ?_
            refine WpL.v (V.mv) ?_
            apply WpL.nil
            rotate_left
            (try simp only [decide_eq_true_eq, decide_eq_false_iff_not, Bool.not_eq_true', Bool.not_eq_false', Bool.not_eq_true, Bool.not_eq_false, not_true_eq_false, not_false_eq_true, reduceCtorEq] at h0)
            (exfalso; omega)
            exact Out.ag hK ⟨k + 1, ks3, vs3, ns3, R3⟩ ⟨by show k + 1 ≤ _; omega, hR⟩ (by show R.length - (k + 1) < R.length - k; omega)
        · obtain rfl : k = R.length := by omega
          rw [List.take_length] at hR
          have hfin : R3 = setL R key val ver := by
            rw [hR, hR2e, hRk]
            unfold setL
            simp [hmp]
          rw [← hfin]
          clear hK
          refine Wp.fact (rowsRd (f := strc) (v := ks3) (l := R3.map (·.Key)) (E := 9) (sz := 1) (fun _ => rfl) (by repeat first | exact List.Mem.head _ | apply List.Mem.tail)) fun hv => ?_
          obtain ⟨_, _, _, _, rfl, _⟩ := hv
          refine Wp.fact (rowsRd (f := strc) (v := vs3) (l := R3.map (·.Value)) (E := 9) (sz := 1) (fun _ => rfl) (by repeat first | exact List.Mem.head _ | apply List.Mem.tail)) fun hv => ?_
          obtain ⟨_, _, _, _, rfl, _⟩ := hv
          refine Wp.fact (rowsRd (f := i64c) (v := ns3) (l := R3.map (·.Version)) (E := 3) (sz := 1) (fun _ => rfl) (by repeat first | exact List.Mem.head _ | apply List.Mem.tail)) fun hv => ?_
          obtain ⟨_, _, _, _, rfl, _⟩ := hv
          apply Wp.seq
          apply Wp.region
          refine WpL.v (V.cmp) ?_
          apply WpL.nil
          apply Out.seqN
          apply Wp.seq
          refine Wp.c (fun h0 => ?_) (fun h0 => ?_)
          (try simp only [decide_eq_true_eq, decide_eq_false_iff_not, Bool.not_eq_true', Bool.not_eq_false', Bool.not_eq_true, Bool.not_eq_false, not_true_eq_false, not_false_eq_true, reduceCtorEq] at h0)
          (exfalso; omega)
          (try simp only [decide_eq_true_eq, decide_eq_false_iff_not, Bool.not_eq_true', Bool.not_eq_false', Bool.not_eq_true, Bool.not_eq_false, not_true_eq_false, not_false_eq_true, reduceCtorEq] at h0)
          apply Wp.exit
          apply Out.seqE
          apply Out.seqE
          apply Out.blockE
          apply Out.seqN
          apply Wp.region
          refine WpL.v (V.mv) ?_
          refine WpL.v (V.ldA tb) ?_
          refine WpL.v (V.nc) ?_
          refine WpL.o (O.stA tb ?_)
          apply WpL.nil
          refine Out.e0 rfl  ?_
          focus (exact ⟨_, _, ⟨_, _, _, rfl, rfl⟩, (by (repeat (first | exact Sel.nil | exact Rem.here | apply Sel.cons | apply Rem.there)))⟩; done)
end Go.Proofs.Ytgihkocnmgkihaa
