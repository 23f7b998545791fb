/-
  Layer 20: the document's registry.
-/
import Derived.Test.YtgihkocnmgkihaaSame
import Derived.Test.YtgihkocnmgkihaaCan
namespace Go.Proofs.Ytgihkocnmgkihaa
open Go.HL
set_option linter.unusedSimpArgs false
set_option linter.unusedVariables false
set_option maxRecDepth 8000
instance (x : Caucusref20Registry) (a b c : Go.Value) (l : List Go.Value) : SplOf 0 x.c (a :: b :: c :: l) (x.Keys :: x.Vals :: x.Vers :: l) := ⟨rfl⟩
/-- The document's registry at the beginning of a block. -/
def rfE (b : Nat) (E : Go.TypeId) (rest : List Go.Value) (ks vs ns : Go.Value) (R : RL) : List Ent := [cells b E (ks :: vs :: ns :: rest), rows strc ks 9 1 (R.map (·.Key)), rows strc vs 9 1 (R.map (·.Value)), rows i64c ns 3 1 (R.map (·.Version))]
def about (d : TDeed) (k : List UInt8) : Bool := if d.Kind = 5 then pfx d.Key k else decide (d.Key = k)
theorem ref_about (d : TDeed) (k : List UInt8) : Fun Try.prog 24 [A d.c, S k] (B (about d k)) := by
  unfold about
  by_cases h5 : d.Kind = 5
  · rw [if_pos h5]
    unfold pfx
    by_cases hl : d.Key.length ≤ k.length
    · rw [decide_eq_true hl]
      refine Ct.enter Try.func24 rfl rfl fun W => ?_
      apply Wp.seq
      apply Wp.region
      refine WpL.o (O.bxA (fun p2 => ?_))
      refine WpL.v (V.as) ?_
      apply WpL.nil
      apply Out.seqN
      apply Wp.seq
      apply Wp.seq
      apply Wp.region
      refine WpL.v (V.fa tb) ?_
      refine WpL.v (V.ld1 tb) ?_
      refine WpL.v (V.cmp) ?_
      apply WpL.nil
      apply Out.seqN
      refine Wp.c (fun h0 => ?_) (fun h0 => ?_)
      (try simp only [decide_eq_true_eq, decide_eq_false_iff_not, Bool.not_eq_true', Bool.not_eq_false', Bool.not_eq_true, Bool.not_eq_false, not_true_eq_false, not_false_eq_true, reduceCtorEq] at h0)
      apply Wp.seq
      refine Wp.dG [] ?_ (List.Sublist.cons_cons _ List.Sublist.slnil) (List.Sublist.cons_cons _ List.Sublist.slnil)
      refine WpA.tF 0 rfl (V.fa tb) ?_
      refine WpA.tF 1 rfl (V.ld1 tb) ?_
      refine WpA.tF 2 rfl (V.lenS tb) ?_
      refine WpA.tF 3 rfl (V.mv) ?_
      refine WpA.tF 4 rfl (V.lenS tb) ?_
      refine WpA.tF 5 rfl (V.cmp) ?_
      refine WpA.tF 6 rfl (V.mv) ?_
      refine WpA.pt 14 (fun h1 => ?_) (fun h1 => ?_)
      (try simp only [decide_eq_true_eq, decide_eq_false_iff_not, Bool.not_eq_true', Bool.not_eq_false', Bool.not_eq_true, Bool.not_eq_false, not_true_eq_false, not_false_eq_true, reduceCtorEq] at h1)
      refine WpA.tF 7 rfl (V.mv) ?_
      refine WpA.tF 8 rfl (V.fa tb) ?_
      refine WpA.tF 9 rfl (V.ld1 tb) ?_
      refine WpA.tF 10 rfl (V.lenS tb) ?_
      refine WpA.tF 11 rfl (V.slHi tb) ?_
      refine WpA.tF 12 rfl (V.fa tb) ?_
      refine WpA.tF 13 rfl (V.ld1 tb) ?_
      refine WpA.tF 14 rfl (V.cmpS) ?_
      refine WpA.tF 15 rfl (V.pT) ?_
      refine WpA.tF 16 rfl (V.as) ?_
      refine WpA.ou ?_
      apply Out.seqN
      apply Wp.ret
      apply Out.seqR
      refine Out.f1 rfl ResIs.t ⟨?_, rfl⟩
      exact rfl
      (try simp only [decide_eq_true_eq, decide_eq_false_iff_not, Bool.not_eq_true', Bool.not_eq_false', Bool.not_eq_true, Bool.not_eq_false, not_true_eq_false, not_false_eq_true, reduceCtorEq] at h1)
      (exfalso; omega)
      (try simp only [decide_eq_true_eq, decide_eq_false_iff_not, Bool.not_eq_true', Bool.not_eq_false', Bool.not_eq_true, Bool.not_eq_false, not_true_eq_false, not_false_eq_true, reduceCtorEq] at h0)
      (exfalso; omega)
    · rw [decide_eq_false hl]
      refine Ct.enter Try.func24 rfl rfl fun W => ?_
      apply Wp.seq
      apply Wp.region
      refine WpL.o (O.bxA (fun p2 => ?_))
      refine WpL.v (V.as) ?_
      apply WpL.nil
      apply Out.seqN
      apply Wp.seq
      apply Wp.seq
      apply Wp.region
      refine WpL.v (V.fa tb) ?_
      refine WpL.v (V.ld1 tb) ?_
      refine WpL.v (V.cmp) ?_
      apply WpL.nil
      apply Out.seqN
      refine Wp.c (fun h0 => ?_) (fun h0 => ?_)
      (try simp only [decide_eq_true_eq, decide_eq_false_iff_not, Bool.not_eq_true', Bool.not_eq_false', Bool.not_eq_true, Bool.not_eq_false, not_true_eq_false, not_false_eq_true, reduceCtorEq] at h0)
      apply Wp.seq
      refine Wp.dG [] ?_ (List.Sublist.cons_cons _ List.Sublist.slnil) (List.Sublist.cons_cons _ List.Sublist.slnil)
      refine WpA.tF 0 rfl (V.fa tb) ?_
      refine WpA.tF 1 rfl (V.ld1 tb) ?_
      refine WpA.tF 2 rfl (V.lenS tb) ?_
      refine WpA.tF 3 rfl (V.mv) ?_
      refine WpA.tF 4 rfl (V.lenS tb) ?_
      refine WpA.tF 5 rfl (V.cmp) ?_
      refine WpA.tF 6 rfl (V.mv) ?_
      refine WpA.pt 14 (fun h1 => ?_) (fun h1 => ?_)
      (try simp only [decide_eq_true_eq, decide_eq_false_iff_not, Bool.not_eq_true', Bool.not_eq_false', Bool.not_eq_true, Bool.not_eq_false, not_true_eq_false, not_false_eq_true, reduceCtorEq] at h1)
      (exfalso; omega)
      (try simp only [decide_eq_true_eq, decide_eq_false_iff_not, Bool.not_eq_true', Bool.not_eq_false', Bool.not_eq_true, Bool.not_eq_false, not_true_eq_false, not_false_eq_true, reduceCtorEq] at h1)
      refine WpA.s 7 rfl ?_
      refine WpA.s 8 rfl ?_
      refine WpA.s 9 rfl ?_
      refine WpA.s 10 rfl ?_
      refine WpA.s 11 rfl ?_
      refine WpA.s 12 rfl ?_
      refine WpA.s 13 rfl ?_
      refine WpA.s 14 rfl ?_
      refine WpA.tF 15 rfl (V.pF) ?_
      refine WpA.tF 16 rfl (V.as) ?_
      refine WpA.ou ?_
      apply Out.seqN
      apply Wp.ret
      apply Out.seqR
      refine Out.f1 rfl ResIs.t ⟨?_, rfl⟩
      exact rfl
      (try simp only [decide_eq_true_eq, decide_eq_false_iff_not, Bool.not_eq_true', Bool.not_eq_false', Bool.not_eq_true, Bool.not_eq_false, not_true_eq_false, not_false_eq_true, reduceCtorEq] at h0)
      (exfalso; omega)
  · rw [if_neg h5]
    refine Ct.enter Try.func24 rfl rfl fun W => ?_
    apply Wp.seq
    apply Wp.region
    refine WpL.o (O.bxA (fun p2 => ?_))
    refine WpL.v (V.as) ?_
    apply WpL.nil
    apply Out.seqN
    apply Wp.seq
    apply Wp.seq
    apply Wp.region
    refine WpL.v (V.fa tb) ?_
    refine WpL.v (V.ld1 tb) ?_
    refine WpL.v (V.cmp) ?_
    apply WpL.nil
    apply Out.seqN
    refine Wp.c (fun h0 => ?_) (fun h0 => ?_)
    (try simp only [decide_eq_true_eq, decide_eq_false_iff_not, Bool.not_eq_true', Bool.not_eq_false', Bool.not_eq_true, Bool.not_eq_false, not_true_eq_false, not_false_eq_true, reduceCtorEq] at h0)
    (exfalso; omega)
    (try simp only [decide_eq_true_eq, decide_eq_false_iff_not, Bool.not_eq_true', Bool.not_eq_false', Bool.not_eq_true, Bool.not_eq_false, not_true_eq_false, not_false_eq_true, reduceCtorEq] at h0)
    apply Wp.skip
    apply Out.seqN
    apply Wp.seq
    apply Wp.region
    refine WpL.v (V.fa tb) ?_
    refine WpL.v (V.ld1 tb) ?_
    refine WpL.v (V.mv) ?_
    refine WpL.v (V.cmpS) ?_
    refine WpL.v (V.as) ?_
    apply WpL.nil
    apply Out.seqN
    apply Wp.ret
    refine Out.f1 rfl ResIs.t ⟨?_, rfl⟩
    exact rfl
theorem ref_at_yes (b : Nat) (E : Go.TypeId) (rest : List Go.Value) (ks vs ns : Go.Value) (R : RL) (key : List UInt8) (j : Nat) (p : RegistryPair) (hj : R[j]? = some p) (hk : p.Key = key) (hb : ∀ i q, i < j → R[i]? = some q → q.Key ≠ key) :
    Ct Try.prog 43 [Ptr b 0, S key] (rfE b E rest ks vs ns R) (fun r σ' => r = I (j : Int) ∧ σ' = rfE b E rest ks vs ns R) := by
  unfold rfE
  refine Ct.enter Try.func43 rfl rfl fun W => ?_
  refine Wp.fact (rowsRd (f := strc) (v := ks) (l := R.map (·.Key)) (fun _ => rfl) (by repeat first | exact List.Mem.head _ | apply List.Mem.tail)) fun hv => ?_
  obtain ⟨ao, cap, bk, off, rfl, hR⟩ := hv
  have hjl := (List.getElem?_eq_some_iff.1 hj).1
  have hml := hR.len
  rw [List.length_map] at hml
  apply Wp.seq
  apply Wp.region
  refine WpL.v (V.as) ?_
  apply WpL.nil
  apply Out.seqN
  apply Wp.seq
  apply Wp.seq
  apply Wp.region
  refine WpL.v (V.mv) ?_
  refine WpL.v (V.nc) ?_
  refine WpL.v (V.fa tb) ?_
  refine WpL.v (V.ld1 tb) ?_
  refine WpL.v (V.lenL tb) ?_
  refine WpL.v (V.mv) ?_
  apply WpL.nil
  apply Out.seqN
  apply Wp.block
  refine Wp.lp [1, 10, 11, 0] (fun k : Nat => k ≤ j) (fun k => [(12, I (k : Int))]) (fun _ => []) (fun k => R.length - k) 0 (Nat.zero_le _) ?_
  intro k hkj K hK
  dsimp only [List.cons_append, List.nil_append]
  obtain ⟨q, hq⟩ := getS (show k < R.length by omega)
  have hqm : (R.map (·.Key))[k]? = some q.Key := by rw [List.getElem?_map, hq]; rfl
  have hkl : k < (R.map (·.Key)).length := by rw [List.length_map]; omega
  by_cases hlt : k = j
  · subst hlt
    have e : q.Key = key := by rw [hj] at hq; cases hq; exact hk
    clear hK
    apply Wp.seq
    apply Wp.region
    refine WpL.v (V.cmp) ?_
    apply WpL.nil
    apply Out.seqN
    apply Wp.seq
    refine Wp.c (fun h0 => ?_) (fun h0 => ?_)
    (try simp only [decide_eq_true_eq, decide_eq_false_iff_not, Bool.not_eq_true', Bool.not_eq_false', Bool.not_eq_true, Bool.not_eq_false, not_true_eq_false, not_false_eq_true, reduceCtorEq] at h0)
    apply Wp.skip
    apply Out.seqN
    apply Wp.seq
    apply Wp.block
    apply Wp.seq
    apply Wp.region
    refine WpL.v (V.mv) ?_
    refine WpL.v (V.ixR tb rfl rfl (by assumption)) ?_
    refine WpL.v (V.ldR1 tb rfl hR (getMapS hqm)) ?_
    refine WpL.v (V.as) ?_
    refine WpL.v (V.as) ?_
    apply WpL.nil
    apply Out.seqN
    apply Wp.seq
    apply Wp.region
    refine WpL.v (V.mv) ?_
    refine WpL.v (V.mv) ?_
    refine WpL.v (V.cmpS rfl rfl (show cmpS .eql q.Key key = some true by simp [cmpS, e])) ?_
    apply WpL.nil
    apply Out.seqN
    refine Wp.cT ?_
    apply Wp.seq
    apply Wp.region
    refine WpL.v (V.mv) ?_
    refine WpL.v (V.as) ?_
    apply WpL.nil
    apply Out.seqN
    apply Wp.ret
    apply Out.blockR
    apply Out.seqR
    apply Out.seqR
    apply Out.blockR
    apply Out.seqR
    refine Out.f1 rfl ResIs.t ⟨?_, rfl⟩
    exact rfl
    (try simp only [decide_eq_true_eq, decide_eq_false_iff_not, Bool.not_eq_true', Bool.not_eq_false', Bool.not_eq_true, Bool.not_eq_false, not_true_eq_false, not_false_eq_true, reduceCtorEq] at h0)
    (exfalso; omega)
  · have e := hb k q (by omega) hq
    apply Wp.seq
    apply Wp.region
    refine WpL.v (V.cmp) ?_
    apply WpL.nil
    apply Out.seqN
    apply Wp.seq
    refine Wp.c (fun h0 => ?_) (fun h0 => ?_)
    (try simp only [decide_eq_true_eq, decide_eq_false_iff_not, Bool.not_eq_true', Bool.not_eq_false', Bool.not_eq_true, Bool.not_eq_false, not_true_eq_false, not_false_eq_true, reduceCtorEq] at h0)
    apply Wp.skip
    apply Out.seqN
    apply Wp.seq
    apply Wp.block
    apply Wp.seq
    apply Wp.region
    refine WpL.v (V.mv) ?_
    refine WpL.v (V.ixR tb rfl rfl (by assumption)) ?_
    refine WpL.v (V.ldR1 tb rfl hR (getMapS hqm)) ?_
    refine WpL.v (V.as) ?_
    refine WpL.v (V.as) ?_
    apply WpL.nil
    apply Out.seqN
    apply Wp.seq
    apply Wp.region
    refine WpL.v (V.mv) ?_
    refine WpL.v (V.mv) ?_
    refine WpL.v (V.cmpS rfl rfl (show cmpS .eql q.Key key = some false by simp [cmpS, e])) ?_
    apply WpL.nil
    apply Out.seqN
    refine Wp.cF ?_
    apply Wp.skip
    apply Out.blockN
    apply Out.seqN
    apply Wp.region
    refine WpL.v (V.add) ?_
    refine WpL.v (V.mv) ?_
    apply WpL.nil
    rotate_left
    (try simp only [decide_eq_true_eq, decide_eq_false_iff_not, Bool.not_eq_true', Bool.not_eq_false', Bool.not_eq_true, Bool.not_eq_false, not_true_eq_false, not_false_eq_true, reduceCtorEq] at h0)
    (exfalso; omega)
    exact Out.ag hK (k + 1) (by omega) (by omega)
theorem ref_at_no (b : Nat) (E : Go.TypeId) (rest : List Go.Value) (ks vs ns : Go.Value) (R : RL) (key : List UInt8) (hb : key ∉ R.map (·.Key)) :
    Ct Try.prog 43 [Ptr b 0, S key] (rfE b E rest ks vs ns R) (fun r σ' => r = I (-1) ∧ σ' = rfE b E rest ks vs ns R) := by
  unfold rfE
  refine Ct.enter Try.func43 rfl rfl fun W => ?_
  refine Wp.fact (rowsRd (f := strc) (v := ks) (l := R.map (·.Key)) (fun _ => rfl) (by repeat first | exact List.Mem.head _ | apply List.Mem.tail)) fun hv => ?_
  obtain ⟨ao, cap, bk, off, rfl, hR⟩ := hv
  have hml := hR.len
  rw [List.length_map] at hml
  apply Wp.seq
  apply Wp.region
  refine WpL.v (V.as) ?_
  apply WpL.nil
  apply Out.seqN
  apply Wp.seq
  apply Wp.seq
  apply Wp.region
  refine WpL.v (V.mv) ?_
  refine WpL.v (V.nc) ?_
  refine WpL.v (V.fa tb) ?_
  refine WpL.v (V.ld1 tb) ?_
  refine WpL.v (V.lenL tb) ?_
  refine WpL.v (V.mv) ?_
  apply WpL.nil
  apply Out.seqN
  apply Wp.block
  refine Wp.lp [1, 10, 11, 0] (fun k : Nat => k ≤ R.length) (fun k => [(12, I (k : Int))]) (fun _ => []) (fun k => R.length - k) 0 (Nat.zero_le _) ?_
  intro k hkj K hK
  dsimp only [List.cons_append, List.nil_append]
  by_cases hlt : k < R.length
  · obtain ⟨q, hq⟩ := getS hlt
    have hqm : (R.map (·.Key))[k]? = some q.Key := by rw [List.getElem?_map, hq]; rfl
    have hkl : k < (R.map (·.Key)).length := by rw [List.length_map]; omega
    have e : q.Key ≠ key := fun e => hb (by rw [← e]; exact List.mem_of_getElem? hqm)
    apply Wp.seq
    apply Wp.region
    refine WpL.v (V.cmp) ?_
    apply WpL.nil
    apply Out.seqN
    apply Wp.seq
    refine Wp.c (fun h0 => ?_) (fun h0 => ?_)
    (try simp only [decide_eq_true_eq, decide_eq_false_iff_not, Bool.not_eq_true', Bool.not_eq_false', Bool.not_eq_true, Bool.not_eq_false, not_true_eq_false, not_false_eq_true, reduceCtorEq] at h0)
    apply Wp.skip
    apply Out.seqN
    apply Wp.seq
    apply Wp.block
    apply Wp.seq
    apply Wp.region
    refine WpL.v (V.mv) ?_
    refine WpL.v (V.ixR tb rfl rfl (by assumption)) ?_
    refine WpL.v (V.ldR1 tb rfl hR (getMapS hqm)) ?_
    refine WpL.v (V.as) ?_
    refine WpL.v (V.as) ?_
    apply WpL.nil
    apply Out.seqN
    apply Wp.seq
    apply Wp.region
    refine WpL.v (V.mv) ?_
    refine WpL.v (V.mv) ?_
    refine WpL.v (V.cmpS rfl rfl (show cmpS .eql q.Key key = some false by simp [cmpS, e])) ?_
    apply WpL.nil
    apply Out.seqN
    refine Wp.cF ?_
    apply Wp.skip
    apply Out.blockN
    apply Out.seqN
    apply Wp.region
    refine WpL.v (V.add) ?_
    refine WpL.v (V.mv) ?_
    apply WpL.nil
    rotate_left
    (try simp only [decide_eq_true_eq, decide_eq_false_iff_not, Bool.not_eq_true', Bool.not_eq_false', Bool.not_eq_true, Bool.not_eq_false, not_true_eq_false, not_false_eq_true, reduceCtorEq] at h0)
    (exfalso; omega)
    exact Out.ag hK (k + 1) (by omega) (by omega)
  · obtain rfl : k = R.length := by omega
    have hl2 : (R.map (·.Key)).length = R.length := List.length_map ..
    clear hK
    apply Wp.seq
    apply Wp.region
    refine WpL.v (V.cmp) ?_
    apply WpL.nil
    apply Out.seqN
    apply Wp.seq
    refine Wp.c (fun h0 => ?_) (fun h0 => ?_)
    (try simp only [decide_eq_true_eq, decide_eq_false_iff_not, Bool.not_eq_true', Bool.not_eq_false', Bool.not_eq_true, Bool.not_eq_false, not_true_eq_false, not_false_eq_true, reduceCtorEq] at h0)
    (exfalso; omega)
    (try simp only [decide_eq_true_eq, decide_eq_false_iff_not, Bool.not_eq_true', Bool.not_eq_false', Bool.not_eq_true, Bool.not_eq_false, not_true_eq_false, not_false_eq_true, reduceCtorEq] at h0)
    apply Wp.exit
    apply Out.seqE
    apply Out.seqE
    apply Out.blockE
    apply Out.seqN
    apply Wp.seq
    apply Wp.region
    refine WpL.v (V.as) ?_
    apply WpL.nil
    apply Out.seqN
    apply Wp.ret
    refine Out.f1 rfl ResIs.t ⟨?_, rfl⟩
    exact rfl
theorem ref_add (b : Nat) (E : Go.TypeId) (rest : List Go.Value) (ks vs ns : Go.Value) (R : RL) (k v : List UInt8) (ver : Int) (hl : R.length ≤ 100000) :
    Ct Try.prog 61 [Ptr b 0, S k, S v, I ver] (rfE b E rest ks vs ns R) (fun r σ' => ∃ ks' vs' ns', r = .tuple #[] ∧ σ' = rfE b E rest ks' vs' ns' (R ++ [⟨k, v, ver⟩])) := by
  have hk1 : (R.map (·.Key)).length ≤ 100000 := by rw [List.length_map]; exact hl
  have hk2 : (R.map (·.Value)).length ≤ 100000 := by rw [List.length_map]; exact hl
  have hk3 : (R.map (·.Version)).length ≤ 100000 := by rw [List.length_map]; exact hl
  unfold rfE
  simp only [List.map_append, List.map_cons, List.map_nil]
  generalize R.map (·.Key) = l1 at *
  generalize R.map (·.Value) = l2 at *
  generalize R.map (·.Version) = l3 at *
  refine Ct.enter Try.func61 rfl rfl fun W => ?_
  apply Wp.seq
  apply Wp.region
  refine WpL.v (V.mv) ?_
  refine WpL.v (V.mv) ?_
  refine WpL.v (V.nc) ?_
  refine WpL.v (V.fa tb) ?_
  refine WpL.v (V.ld1 tb) ?_
  refine WpL.v (V.mv) ?_
  refine WpL.o (O.lit tb (fun p14 => ?_))
  refine WpL.o (O.apL tb rfl rfl (by (intro _; repeat first | exact Upd.here _ _ _ | apply Upd.there)) (SrcL.one (f := strc) (a := k) tb (by (repeat first | exact List.Mem.head _ | apply List.Mem.tail)) (fun _ => rfl)) (fun g15 cap15 => ?_))
  refine WpL.v (V.nc) ?_
  refine WpL.v (V.fa tb) ?_
  refine WpL.o (O.st1 tb ?_)
  apply WpL.nil
  apply Out.seqN
  apply Wp.seq
  apply Wp.region
  refine WpL.v (V.mv) ?_
  refine WpL.v (V.mv) ?_
  refine WpL.v (V.nc) ?_
  refine WpL.v (V.fa tb) ?_
  refine WpL.v (V.ld1 tb) ?_
  refine WpL.v (V.mv) ?_
  refine WpL.o (O.lit tb (fun p24 => ?_))
  refine WpL.o (O.apL tb rfl rfl (by (intro _; repeat first | exact Upd.here _ _ _ | apply Upd.there)) (SrcL.one (f := strc) (a := v) tb (by (repeat first | exact List.Mem.head _ | apply List.Mem.tail)) (fun _ => rfl)) (fun g25 cap25 => ?_))
  refine WpL.v (V.nc) ?_
  refine WpL.v (V.fa tb) ?_
  refine WpL.o (O.st1 tb ?_)
  apply WpL.nil
  apply Out.seqN
  apply Wp.region
  refine WpL.v (V.mv) ?_
  refine WpL.v (V.mv) ?_
  refine WpL.v (V.nc) ?_
  refine WpL.v (V.fa tb) ?_
  refine WpL.v (V.ld1 tb) ?_
  refine WpL.v (V.mv) ?_
  refine WpL.o (O.lit tb (fun p34 => ?_))
  refine WpL.o (O.apL tb rfl rfl (by (intro _; repeat first | exact Upd.here _ _ _ | apply Upd.there)) (SrcL.one (f := i64c) (a := ver) tb (by (repeat first | exact List.Mem.head _ | apply List.Mem.tail)) (fun _ => rfl)) (fun g35 cap35 => ?_))
  refine WpL.v (V.nc) ?_
  refine WpL.v (V.fa tb) ?_
  refine WpL.o (O.st1 tb ?_)
  apply WpL.nil
  refine Out.e0 rfl  ?_
  focus (exact ⟨_, _, ⟨_, _, _, rfl, rfl⟩, (by (repeat (first | exact Sel.nil | exact Rem.here | apply Sel.cons | apply Rem.there)))⟩; done)
end Go.Proofs.Ytgihkocnmgkihaa
