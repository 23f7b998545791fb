/-
  Layer 11: the document's pool, walked.
-/
import Derived.Test.YtgbflapcadlelaaPool5
namespace Go.Proofs.Ytgbflapcadlelaa
open Go.HL
set_option linter.unusedSimpArgs false
set_option linter.unusedVariables false
set_option maxRecDepth 8000
theorem rowsRd {α : Type} {f : α → List Go.Value} {W : Go.World} {D : List Nat} {σ : List Ent} {v : Go.Value} {E sz : Nat} {l : List α} (hz : ∀ x, (f x).length = sz) (hm : rows f v E sz l ∈ σ) :
    ∀ w, H W D σ w → ∃ ao cap b, v = .slice ao l.length cap ∧ Rd (rows f (.slice ao l.length cap) E sz l) ao l.length b 0 sz (l.map f) := fun w hw => by
  rcases rowsForm hm w hw with ⟨rfl, rfl⟩ | ⟨g, cap, rfl, h1, h2⟩
  · exact ⟨none, 0, 0, rfl, Rd.nil⟩
  · exact ⟨some ⟨g, 0, none⟩, cap, g, rfl, Rd.rows hz (by simp only [Go.maxLen] at h2; omega)⟩
section
variable {P : Go.Program} {σ : List Ent} {α : Type} {f : α → List Go.Value}
theorem SrcL.pre (tb : Tabs P) {E tx e' sz g cap j : Nat} {l : List α} (hm : rows f (.slice (some ⟨g, 0, none⟩) l.length cap) E sz l ∈ σ) (hj : j ≤ l.length)
    (hz : ∀ x, (f x).length = sz) (h1 : Ones f) (ht : lk1 tb.slc tx = some e' := by exact rfl) : SrcL P σ f sz tx (.slice (some ⟨g, 0, none⟩) j cap) (l.take j) := by
  have h := SrcL.part tb (i := 0) (j := j) (tx := tx) (e' := e') (c := cap) rfl hm (Nat.zero_le _) hj hz h1 ht
  have e : HL.partAt (some ⟨g, 0, none⟩) cap 0 sz = some ⟨g, 0, none⟩ := by unfold HL.partAt; split <;> simp [Go.Addr.add]
  rw [e] at h
  simpa using h
theorem SrcL.suf (tb : Tabs P) {E tx e' sz g cap i c : Nat} {l : List α} (hm : rows f (.slice (some ⟨g, 0, none⟩) l.length cap) E sz l ∈ σ) (hj : i ≤ l.length)
    (hz : ∀ x, (f x).length = sz) (h1 : Ones f) (ht : lk1 tb.slc tx = some e' := by exact rfl) : SrcL P σ f sz tx (.slice (HL.partAt (some ⟨g, 0, none⟩) cap i sz) (l.length - i) c) (l.drop i) := by
  have h := SrcL.part tb (i := i) (j := l.length) (tx := tx) (e' := e') (c := c) rfl hm hj (Nat.le_refl _) hz h1 ht
  rwa [List.take_of_length_le (by simp)] at h
end
theorem map_erase {α β : Type} (f : α → β) (l : List α) (i : Nat) : (l.eraseIdx i).map f = (l.map f).take i ++ (l.map f).drop (i + 1) := by
  rw [List.eraseIdx_eq_take_drop_succ, List.map_append, List.map_take, List.map_drop]
def pairC (p : Int × Int) : List Go.Value := [I p.1, I p.2]
instance (q : Int × Int) : SplOf 0 (pairC q) [Go.Value.int .i64 0, Go.Value.int .i64 0] (pairC q) := ⟨rfl⟩
theorem pairC.len (p : Int × Int) : (pairC p).length = 2 := rfl
theorem pairC.ones : Ones pairC := fun _ => rfl
def refE (b : Nat) (vf vt vs vc : Go.Value) (n : Int) (l : List PoolLetter) (cs : List (Int × Int)) : List Ent :=
  [cells b 79 (Caucusref11Pool.c ⟨vf, vt, vs, vc, n⟩), rows i64c vf 3 1 (l.map (·.From)), rows i64c vt 3 1 (l.map (·.To)), rows strc vs 9 1 (l.map (·.Bytes)), rows pairC vc 85 2 cs]
def hitP (a b : Int) (p : Int × Int) : Bool := decide (p.1 = a ∧ p.2 = b ∨ p.1 = b ∧ p.2 = a)
def refCut (cs : List (Int × Int)) (a b : Int) : Bool := cs.any (hitP a b)
theorem ref_is (a : Int) : Fun Try.prog 78 [I a] (B (isR a)) := by
  refine Ct.enter Try.func78 rfl rfl fun W => ?_
  apply Wp.seq
  apply Wp.region
  refine WpL.v (V.as) ?_
  apply WpL.nil
  apply Out.seqN
  apply Wp.seq
  apply Wp.region
  refine WpL.v (V.mv) ?_
  refine WpL.v (V.cmp) ?_
  refine WpL.v (V.mv) ?_
  refine WpL.pt (fun his0 => ?_) (fun his0 => ?_)
  (try simp only [decide_eq_true_eq, decide_eq_false_iff_not, Bool.not_eq_true', Bool.not_eq_false', Bool.not_eq_true, Bool.not_eq_false, not_true_eq_false, not_false_eq_true, reduceCtorEq] at his0)
  refine WpL.v (V.mv) ?_
  refine WpL.v (V.cmp) ?_
  refine WpL.v (V.pT) ?_
  refine WpL.v (V.as) ?_
  apply WpL.nil
  apply Out.seqN
  apply Wp.ret
  refine Out.f1 rfl ResIs.t ⟨?_, rfl⟩
  focus ((first | (simp [isR, *]; done) | (simp [isR, *]; omega)); done)
  (try simp only [decide_eq_true_eq, decide_eq_false_iff_not, Bool.not_eq_true', Bool.not_eq_false', Bool.not_eq_true, Bool.not_eq_false, not_true_eq_false, not_false_eq_true, reduceCtorEq] at his0)
  refine WpL.sk ?_
  refine WpL.sk ?_
  refine WpL.v (V.pF) ?_
  refine WpL.v (V.as) ?_
  apply WpL.nil
  apply Out.seqN
  apply Wp.ret
  refine Out.f1 rfl ResIs.t ⟨?_, rfl⟩
  focus ((first | (simp [isR, *]; done) | (simp [isR, *]; omega)); done)
theorem ref_cut (b : Nat) (vf vt vs vc : Go.Value) (n : Int) (l : List PoolLetter) (cs : List (Int × Int)) (y z : Int) (hc : cs.length ≤ 1000) :
    Ct Try.prog 79 [Ptr b 0, I y, I z] (refE b vf vt vs vc n l cs) (fun r σ' => r = B (refCut cs y z) ∧ σ' = refE b vf vt vs vc n l cs) := by
  unfold refE
  refine Ct.enter Try.func79 rfl rfl fun W => ?_
  refine Wp.fact (rowsRd (f := pairC) (v := vc) (l := cs) (E := 85) (sz := 2) pairC.len (by (repeat first | exact List.Mem.head _ | apply List.Mem.tail))) fun hv => ?_
  obtain ⟨ao, cap, bb, rfl, hR⟩ := hv
  apply Wp.seq
  apply Wp.region
  refine WpL.v (V.as) ?_
  apply WpL.nil
  apply Out.seqN
  apply Wp.seq
  apply Wp.seq
  apply Wp.region
  refine WpL.v (V.mv) ?_
  refine WpL.v (V.nc) ?_
  refine WpL.v (V.fa tb) ?_
  refine WpL.v (V.ld1 tb) ?_
  refine WpL.v (V.lenL tb) ?_
  refine WpL.v (V.mv) ?_
  apply WpL.nil
  apply Out.seqN
  apply Wp.block
  refine Wp.lp [13, 12, 1, 2] (fun i : Nat => i ≤ cs.length ∧ refCut (cs.take i) y z = false) (fun i => [(14, I (i : Int))]) (fun i => []) (fun i => cs.length - i) 0 ⟨Nat.zero_le _, rfl⟩ ?_
  rintro i ⟨hi, hF⟩ K hK
  dsimp only [List.cons_append, List.nil_append]
  by_cases hlt : i < cs.length
  · obtain ⟨q, hx⟩ := getS hlt
    have e1 := take_snocS hx
    have e2 : refCut (cs.take (i + 1)) y z = hitP y z q := by rw [e1]; unfold refCut at hF ⊢; rw [List.any_append, hF]; simp
    have e3 : hitP y z q = true → refCut cs y z = true := by
      intro h
      unfold refCut
      rw [List.any_eq_true]
      exact ⟨q, List.mem_of_getElem? hx, h⟩
    cases hq : hitP y z q with
    | true =>
      rw [e3 hq]
      simp only [hitP, decide_eq_true_eq] at hq
      apply Wp.seq
      apply Wp.region
      refine WpL.v (V.cmp) ?_
      apply WpL.nil
      apply Out.seqN
      apply Wp.seq
      refine Wp.c (fun h0 => ?_) (fun h0 => ?_)
      (try simp only [decide_eq_true_eq, decide_eq_false_iff_not, Bool.not_eq_true', Bool.not_eq_false', Bool.not_eq_true, Bool.not_eq_false, not_true_eq_false, not_false_eq_true, reduceCtorEq] at h0)
      apply Wp.skip
      apply Out.seqN
      apply Wp.seq
      apply Wp.block
      apply Wp.seq
      apply Wp.region
      refine WpL.v (V.ixR tb rfl rfl (by assumption)) ?_
      refine WpL.v (V.ldRA tb rfl (by assumption) (getMapS (by assumption))) ?_
      refine WpL.o (O.al tb (fun p8 => ?_))
      refine WpL.o (O.stA tb ?_)
      apply WpL.nil
      apply Out.seqN
      apply Wp.seq
      apply Wp.region
      refine WpL.v (V.ixA2 tb (k := 0) rfl rfl rfl) ?_
      refine WpL.v (V.ld1 tb) ?_
      refine WpL.v (V.mv) ?_
      refine WpL.v (V.cmp) ?_
      refine WpL.v (V.mv) ?_
      refine WpL.pt (fun h1 => ?_) (fun h1 => ?_)
      (try simp only [decide_eq_true_eq, decide_eq_false_iff_not, Bool.not_eq_true', Bool.not_eq_false', Bool.not_eq_true, Bool.not_eq_false, not_true_eq_false, not_false_eq_true, reduceCtorEq] at h1)
      refine WpL.v (V.ixA2 tb (k := 1) rfl rfl rfl) ?_
      refine WpL.v (V.ld1 tb) ?_
      refine WpL.v (V.mv) ?_
      refine WpL.v (V.cmp) ?_
      refine WpL.v (V.pT) ?_
      refine WpL.v (V.mv) ?_
      refine WpL.pt (fun h2 => ?_) (fun h2 => ?_)
      (try simp only [decide_eq_true_eq, decide_eq_false_iff_not, Bool.not_eq_true', Bool.not_eq_false', Bool.not_eq_true, Bool.not_eq_false, not_true_eq_false, not_false_eq_true, reduceCtorEq] at h2)
      refine WpL.sk ?_
      refine WpL.sk ?_
      refine WpL.sk ?_
      refine WpL.sk ?_
      refine WpL.sk ?_
      refine WpL.sk ?_
      refine WpL.sk ?_
      refine WpL.sk ?_
      refine WpL.sk ?_
      refine WpL.sk ?_
      refine WpL.v (V.pT) ?_
      apply WpL.nil
      apply Out.seqN
      refine Wp.cT ?_
      apply Wp.seq
      apply Wp.region
      refine WpL.v (V.as) ?_
      apply WpL.nil
      apply Out.seqN
      apply Wp.ret
      apply Out.blockR
      apply Out.seqR
      apply Out.seqR
      apply Out.blockR
      apply Out.seqR
      refine Out.f1 rfl ResIs.t ⟨?_, rfl⟩
      exact rfl
      (try simp only [decide_eq_true_eq, decide_eq_false_iff_not, Bool.not_eq_true', Bool.not_eq_false', Bool.not_eq_true, Bool.not_eq_false, not_true_eq_false, not_false_eq_true, reduceCtorEq] at h2)
      (exfalso; omega)
      (try simp only [decide_eq_true_eq, decide_eq_false_iff_not, Bool.not_eq_true', Bool.not_eq_false', Bool.not_eq_true, Bool.not_eq_false, not_true_eq_false, not_false_eq_true, reduceCtorEq] at h1)
      refine WpL.sk ?_
      refine WpL.sk ?_
      refine WpL.sk ?_
      refine WpL.sk ?_
      refine WpL.v (V.pF) ?_
      refine WpL.v (V.mv) ?_
      refine WpL.v (V.ixA2 tb (k := 0) rfl rfl rfl) ?_
      refine WpL.v (V.ld1 tb) ?_
      refine WpL.v (V.mv) ?_
      refine WpL.v (V.cmp) ?_
      refine WpL.v (V.mv) ?_
      refine WpL.pt (fun h3 => ?_) (fun h3 => ?_)
      (try simp only [decide_eq_true_eq, decide_eq_false_iff_not, Bool.not_eq_true', Bool.not_eq_false', Bool.not_eq_true, Bool.not_eq_false, not_true_eq_false, not_false_eq_true, reduceCtorEq] at h3)
      refine WpL.v (V.ixA2 tb (k := 1) rfl rfl rfl) ?_
      refine WpL.v (V.ld1 tb) ?_
      refine WpL.v (V.mv) ?_
      refine WpL.v (V.cmp) ?_
      refine WpL.v (V.pT) ?_
      refine WpL.v (V.pF) ?_
      apply WpL.nil
      apply Out.seqN
      refine Wp.c (fun h4 => ?_) (fun h4 => ?_)
      (try simp only [decide_eq_true_eq, decide_eq_false_iff_not, Bool.not_eq_true', Bool.not_eq_false', Bool.not_eq_true, Bool.not_eq_false, not_true_eq_false, not_false_eq_true, reduceCtorEq] at h4)
      apply Wp.seq
      apply Wp.region
      refine WpL.v (V.as) ?_
      apply WpL.nil
      apply Out.seqN
      apply Wp.ret
      apply Out.blockR
      apply Out.seqR
      apply Out.seqR
      apply Out.blockR
      apply Out.seqR
      refine Out.f1 rfl ResIs.t ⟨?_, rfl⟩
      exact rfl
      (try simp only [decide_eq_true_eq, decide_eq_false_iff_not, Bool.not_eq_true', Bool.not_eq_false', Bool.not_eq_true, Bool.not_eq_false, not_true_eq_false, not_false_eq_true, reduceCtorEq] at h4)
      (exfalso; omega)
      (try simp only [decide_eq_true_eq, decide_eq_false_iff_not, Bool.not_eq_true', Bool.not_eq_false', Bool.not_eq_true, Bool.not_eq_false, not_true_eq_false, not_false_eq_true, reduceCtorEq] at h3)
      (exfalso; omega)
      (try simp only [decide_eq_true_eq, decide_eq_false_iff_not, Bool.not_eq_true', Bool.not_eq_false', Bool.not_eq_true, Bool.not_eq_false, not_true_eq_false, not_false_eq_true, reduceCtorEq] at h0)
      (exfalso; omega)
    | false =>
      rw [hq] at e2
      simp only [hitP, decide_eq_false_iff_not] at hq
      apply Wp.seq
      apply Wp.region
      refine WpL.v (V.cmp) ?_
      apply WpL.nil
      apply Out.seqN
      apply Wp.seq
      refine Wp.c (fun h0 => ?_) (fun h0 => ?_)
      (try simp only [decide_eq_true_eq, decide_eq_false_iff_not, Bool.not_eq_true', Bool.not_eq_false', Bool.not_eq_true, Bool.not_eq_false, not_true_eq_false, not_false_eq_true, reduceCtorEq] at h0)
      apply Wp.skip
      apply Out.seqN
      apply Wp.seq
      apply Wp.block
      apply Wp.seq
      apply Wp.region
      refine WpL.v (V.ixR tb rfl rfl (by assumption)) ?_
      refine WpL.v (V.ldRA tb rfl (by assumption) (getMapS (by assumption))) ?_
      refine WpL.o (O.al tb (fun p8 => ?_))
      refine WpL.o (O.stA tb ?_)
      apply WpL.nil
      apply Out.seqN
      apply Wp.seq
      apply Wp.region
      refine WpL.v (V.ixA2 tb (k := 0) rfl rfl rfl) ?_
      refine WpL.v (V.ld1 tb) ?_
      refine WpL.v (V.mv) ?_
      refine WpL.v (V.cmp) ?_
      refine WpL.v (V.mv) ?_
      refine WpL.pt (fun h1 => ?_) (fun h1 => ?_)
      (try simp only [decide_eq_true_eq, decide_eq_false_iff_not, Bool.not_eq_true', Bool.not_eq_false', Bool.not_eq_true, Bool.not_eq_false, not_true_eq_false, not_false_eq_true, reduceCtorEq] at h1)
      refine WpL.v (V.ixA2 tb (k := 1) rfl rfl rfl) ?_
      refine WpL.v (V.ld1 tb) ?_
      refine WpL.v (V.mv) ?_
      refine WpL.v (V.cmp) ?_
      refine WpL.v (V.pT) ?_
      refine WpL.v (V.mv) ?_
      refine WpL.pt (fun h2 => ?_) (fun h2 => ?_)
      (try simp only [decide_eq_true_eq, decide_eq_false_iff_not, Bool.not_eq_true', Bool.not_eq_false', Bool.not_eq_true, Bool.not_eq_false, not_true_eq_false, not_false_eq_true, reduceCtorEq] at h2)
      (exfalso; omega)
      (try simp only [decide_eq_true_eq, decide_eq_false_iff_not, Bool.not_eq_true', Bool.not_eq_false', Bool.not_eq_true, Bool.not_eq_false, not_true_eq_false, not_false_eq_true, reduceCtorEq] at h2)
      refine WpL.v (V.ixA2 tb (k := 0) rfl rfl rfl) ?_
      refine WpL.v (V.ld1 tb) ?_
      refine WpL.v (V.mv) ?_
      refine WpL.v (V.cmp) ?_
      refine WpL.v (V.mv) ?_
      refine WpL.pt (fun h3 => ?_) (fun h3 => ?_)
      (try simp only [decide_eq_true_eq, decide_eq_false_iff_not, Bool.not_eq_true', Bool.not_eq_false', Bool.not_eq_true, Bool.not_eq_false, not_true_eq_false, not_false_eq_true, reduceCtorEq] at h3)
      refine WpL.v (V.ixA2 tb (k := 1) rfl rfl rfl) ?_
      refine WpL.v (V.ld1 tb) ?_
      refine WpL.v (V.mv) ?_
      refine WpL.v (V.cmp) ?_
      refine WpL.v (V.pT) ?_
      refine WpL.v (V.pF) ?_
      apply WpL.nil
      apply Out.seqN
      refine Wp.c (fun h4 => ?_) (fun h4 => ?_)
      (try simp only [decide_eq_true_eq, decide_eq_false_iff_not, Bool.not_eq_true', Bool.not_eq_false', Bool.not_eq_true, Bool.not_eq_false, not_true_eq_false, not_false_eq_true, reduceCtorEq] at h4)
      (exfalso; omega)
      (try simp only [decide_eq_true_eq, decide_eq_false_iff_not, Bool.not_eq_true', Bool.not_eq_false', Bool.not_eq_true, Bool.not_eq_false, not_true_eq_false, not_false_eq_true, reduceCtorEq] at h4)
      apply Wp.skip
      apply Out.blockN
      apply Out.seqN
      apply Wp.region
      refine WpL.v (V.add) ?_
      refine WpL.v (V.mv) ?_
      apply WpL.nil
      rotate_left
      (try simp only [decide_eq_true_eq, decide_eq_false_iff_not, Bool.not_eq_true', Bool.not_eq_false', Bool.not_eq_true, Bool.not_eq_false, not_true_eq_false, not_false_eq_true, reduceCtorEq] at h3)
      refine WpL.sk ?_
      refine WpL.sk ?_
      refine WpL.sk ?_
      refine WpL.sk ?_
      refine WpL.v (V.pF) ?_
      refine WpL.v (V.pF) ?_
      apply WpL.nil
      apply Out.seqN
      refine Wp.cF ?_
      apply Wp.skip
      apply Out.blockN
      apply Out.seqN
      apply Wp.region
      refine WpL.v (V.add) ?_
      refine WpL.v (V.mv) ?_
      apply WpL.nil
      rotate_left
      (try simp only [decide_eq_true_eq, decide_eq_false_iff_not, Bool.not_eq_true', Bool.not_eq_false', Bool.not_eq_true, Bool.not_eq_false, not_true_eq_false, not_false_eq_true, reduceCtorEq] at h1)
      refine WpL.sk ?_
      refine WpL.sk ?_
      refine WpL.sk ?_
      refine WpL.sk ?_
      refine WpL.v (V.pF) ?_
      refine WpL.v (V.mv) ?_
      refine WpL.v (V.ixA2 tb (k := 0) rfl rfl rfl) ?_
      refine WpL.v (V.ld1 tb) ?_
      refine WpL.v (V.mv) ?_
      refine WpL.v (V.cmp) ?_
      refine WpL.v (V.mv) ?_
      refine WpL.pt (fun h5 => ?_) (fun h5 => ?_)
      (try simp only [decide_eq_true_eq, decide_eq_false_iff_not, Bool.not_eq_true', Bool.not_eq_false', Bool.not_eq_true, Bool.not_eq_false, not_true_eq_false, not_false_eq_true, reduceCtorEq] at h5)
      refine WpL.v (V.ixA2 tb (k := 1) rfl rfl rfl) ?_
      refine WpL.v (V.ld1 tb) ?_
      refine WpL.v (V.mv) ?_
      refine WpL.v (V.cmp) ?_
      refine WpL.v (V.pT) ?_
      refine WpL.v (V.pF) ?_
      apply WpL.nil
      apply Out.seqN
      refine Wp.c (fun h6 => ?_) (fun h6 => ?_)
      (try simp only [decide_eq_true_eq, decide_eq_false_iff_not, Bool.not_eq_true', Bool.not_eq_false', Bool.not_eq_true, Bool.not_eq_false, not_true_eq_false, not_false_eq_true, reduceCtorEq] at h6)
      (exfalso; omega)
      (try simp only [decide_eq_true_eq, decide_eq_false_iff_not, Bool.not_eq_true', Bool.not_eq_false', Bool.not_eq_true, Bool.not_eq_false, not_true_eq_false, not_false_eq_true, reduceCtorEq] at h6)
      apply Wp.skip
      apply Out.blockN
      apply Out.seqN
      apply Wp.region
      refine WpL.v (V.add) ?_
      refine WpL.v (V.mv) ?_
      apply WpL.nil
      rotate_left
      (try simp only [decide_eq_true_eq, decide_eq_false_iff_not, Bool.not_eq_true', Bool.not_eq_false', Bool.not_eq_true, Bool.not_eq_false, not_true_eq_false, not_false_eq_true, reduceCtorEq] at h5)
      refine WpL.sk ?_
      refine WpL.sk ?_
      refine WpL.sk ?_
      refine WpL.sk ?_
      refine WpL.v (V.pF) ?_
      refine WpL.v (V.pF) ?_
      apply WpL.nil
      apply Out.seqN
      refine Wp.cF ?_
      apply Wp.skip
      apply Out.blockN
      apply Out.seqN
      apply Wp.region
      refine WpL.v (V.add) ?_
      refine WpL.v (V.mv) ?_
      apply WpL.nil
      rotate_left
      (try simp only [decide_eq_true_eq, decide_eq_false_iff_not, Bool.not_eq_true', Bool.not_eq_false', Bool.not_eq_true, Bool.not_eq_false, not_true_eq_false, not_false_eq_true, reduceCtorEq] at h0)
      (exfalso; omega)
      all_goals exact Out.ag hK (i + 1) ⟨by omega, e2⟩ (by show cs.length - (i + 1) < cs.length - i; omega)
  · obtain rfl : i = cs.length := by omega
    rw [List.take_length] at hF
    rw [hF]
    clear hK
    apply Wp.seq
    apply Wp.region
    refine WpL.v (V.cmp) ?_
    apply WpL.nil
    apply Out.seqN
    apply Wp.seq
    refine Wp.c (fun h0 => ?_) (fun h0 => ?_)
    (try simp only [decide_eq_true_eq, decide_eq_false_iff_not, Bool.not_eq_true', Bool.not_eq_false', Bool.not_eq_true, Bool.not_eq_false, not_true_eq_false, not_false_eq_true, reduceCtorEq] at h0)
    (exfalso; omega)
    (try simp only [decide_eq_true_eq, decide_eq_false_iff_not, Bool.not_eq_true', Bool.not_eq_false', Bool.not_eq_true, Bool.not_eq_false, not_true_eq_false, not_false_eq_true, reduceCtorEq] at h0)
    apply Wp.exit
    apply Out.seqE
    apply Out.seqE
    apply Out.blockE
    apply Out.seqN
    apply Wp.seq
    apply Wp.region
    refine WpL.v (V.as) ?_
    apply WpL.nil
    apply Out.seqN
    apply Wp.ret
    refine Out.f1 rfl ResIs.t ⟨?_, rfl⟩
    exact rfl
def badR (cs : List (Int × Int)) (l : List PoolLetter) (x : PoolLetter) : Bool := !isR x.From || (!isR x.To || (refCut cs x.From x.To || decide (256 ≤ l.length)))
theorem ref_send (b : Nat) (vf vt vs vc : Go.Value) (n : Int) (l : List PoolLetter) (cs : List (Int × Int)) (y : PoolLetter) (hc : cs.length ≤ 1000) (hl : l.length ≤ 256) (hn : 0 ≤ n ∧ n ≤ 1000000) :
    Ct Try.prog 51 [Ptr b 0, I y.From, I y.To, S y.Bytes] (refE b vf vt vs vc n l cs) (fun r σ' => ∃ vf' vt' vs', r = B (badR cs l y) ∧ σ' = refE b vf' vt' vs' vc (if badR cs l y then n + 1 else n) (if badR cs l y then l else l ++ [y]) cs) := by
  have hF := ref_is y.From
  have hT := ref_is y.To
  have hC := ref_cut b vf vt vs vc n l cs y.From y.To hc
  cases hb : badR cs l y with
  | true =>
    simp only [if_true]
    cases h1 : isR y.From with
    | false =>
      rw [h1] at hF
      unfold refE
      refine Ct.enter Try.func51 rfl rfl fun W => ?_
      apply Wp.seq
      apply Wp.region
      refine WpL.v (V.as) ?_
      apply WpL.nil
      apply Out.seqN
      apply Wp.seq
      apply Wp.seq
      apply Wp.region
      refine WpL.v (V.mv) ?_
      refine WpL.o (Op1.fn rfl (hF) ?_)
      refine WpL.v (V.not) ?_
      refine WpL.v (V.mv) ?_
      refine WpL.sk ?_
      refine WpL.sk ?_
      refine WpL.sk ?_
      refine WpL.v (V.pT) ?_
      refine WpL.v (V.mv) ?_
      refine WpL.sk ?_
      refine WpL.sk ?_
      refine WpL.sk ?_
      refine WpL.sk ?_
      refine WpL.v (V.pT) ?_
      refine WpL.v (V.mv) ?_
      refine WpL.sk ?_
      refine WpL.sk ?_
      refine WpL.sk ?_
      refine WpL.sk ?_
      refine WpL.sk ?_
      refine WpL.sk ?_
      refine WpL.v (V.pT) ?_
      apply WpL.nil
      apply Out.seqN
      refine Wp.cT ?_
      apply Wp.seq
      apply Wp.region
      refine WpL.v (V.mv) ?_
      refine WpL.v (V.nc) ?_
      refine WpL.v (V.fa tb) ?_
      refine WpL.v (V.ld1 tb) ?_
      refine WpL.v (V.add) ?_
      refine WpL.v (V.nc) ?_
      refine WpL.v (V.fa tb) ?_
      refine WpL.o (O.st1 tb ?_)
      apply WpL.nil
      apply Out.seqN
      apply Wp.seq
      apply Wp.region
      refine WpL.v (V.as) ?_
      apply WpL.nil
      apply Out.seqN
      apply Wp.ret
      apply Out.seqR
      refine Out.e1 rfl ResIs.t ?_
      focus (exact ⟨_, _, ⟨_, _, _, rfl, rfl⟩, (by (repeat (first | exact Sel.nil | exact Rem.here | apply Sel.cons | apply Rem.there)))⟩; done)
    | true =>
      rw [h1] at hF
      cases h2 : isR y.To with
      | false =>
        rw [h2] at hT
        unfold refE
        refine Ct.enter Try.func51 rfl rfl fun W => ?_
        apply Wp.seq
        apply Wp.region
        refine WpL.v (V.as) ?_
        apply WpL.nil
        apply Out.seqN
        apply Wp.seq
        apply Wp.seq
        apply Wp.region
        refine WpL.v (V.mv) ?_
        refine WpL.o (Op1.fn rfl (hF) ?_)
        refine WpL.v (V.not) ?_
        refine WpL.v (V.mv) ?_
        refine WpL.v (V.mv) ?_
        refine WpL.o (Op1.fn rfl (hT) ?_)
        refine WpL.v (V.not) ?_
        refine WpL.v (V.pF) ?_
        refine WpL.v (V.mv) ?_
        refine WpL.sk ?_
        refine WpL.sk ?_
        refine WpL.sk ?_
        refine WpL.sk ?_
        refine WpL.v (V.pT) ?_
        refine WpL.v (V.mv) ?_
        refine WpL.sk ?_
        refine WpL.sk ?_
        refine WpL.sk ?_
        refine WpL.sk ?_
        refine WpL.sk ?_
        refine WpL.sk ?_
        refine WpL.v (V.pT) ?_
        apply WpL.nil
        apply Out.seqN
        refine Wp.cT ?_
        apply Wp.seq
        apply Wp.region
        refine WpL.v (V.mv) ?_
        refine WpL.v (V.nc) ?_
        refine WpL.v (V.fa tb) ?_
        refine WpL.v (V.ld1 tb) ?_
        refine WpL.v (V.add) ?_
        refine WpL.v (V.nc) ?_
        refine WpL.v (V.fa tb) ?_
        refine WpL.o (O.st1 tb ?_)
        apply WpL.nil
        apply Out.seqN
        apply Wp.seq
        apply Wp.region
        refine WpL.v (V.as) ?_
        apply WpL.nil
        apply Out.seqN
        apply Wp.ret
        apply Out.seqR
        refine Out.e1 rfl ResIs.t ?_
        focus (exact ⟨_, _, ⟨_, _, _, rfl, rfl⟩, (by (repeat (first | exact Sel.nil | exact Rem.here | apply Sel.cons | apply Rem.there)))⟩; done)
      | true =>
        rw [h2] at hT
        cases h3 : refCut cs y.From y.To with
        | true =>
          rw [h3] at hC
          unfold refE at hC ⊢
          refine Ct.enter Try.func51 rfl rfl fun W => ?_
          apply Wp.seq
          apply Wp.region
          refine WpL.v (V.as) ?_
          apply WpL.nil
          apply Out.seqN
          apply Wp.seq
          apply Wp.seq
          apply Wp.region
          refine WpL.v (V.mv) ?_
          refine WpL.o (Op1.fn rfl (hF) ?_)
          refine WpL.v (V.not) ?_
          refine WpL.v (V.mv) ?_
          refine WpL.v (V.mv) ?_
          refine WpL.o (Op1.fn rfl (hT) ?_)
          refine WpL.v (V.not) ?_
          refine WpL.v (V.pF) ?_
          refine WpL.v (V.mv) ?_
          refine WpL.v (V.mv) ?_
          refine WpL.v (V.mv) ?_
          refine WpL.v (V.mv) ?_
          refine WpL.o (Op1.callT rfl (hC) (by (repeat (first | exact Sel.nil | exact Rem.here | apply Sel.cons | apply Rem.there))) ?_)
          rintro v0 s1 ⟨rfl, rfl⟩
          refine incat ?_
          refine WpL.v (V.pF) ?_
          refine WpL.v (V.mv) ?_
          refine WpL.sk ?_
          refine WpL.sk ?_
          refine WpL.sk ?_
          refine WpL.sk ?_
          refine WpL.sk ?_
          refine WpL.sk ?_
          refine WpL.v (V.pT) ?_
          apply WpL.nil
          apply Out.seqN
          refine Wp.cT ?_
          apply Wp.seq
          apply Wp.region
          refine WpL.v (V.mv) ?_
          refine WpL.v (V.nc) ?_
          refine WpL.v (V.fa tb) ?_
          refine WpL.v (V.ld1 tb) ?_
          refine WpL.v (V.add) ?_
          refine WpL.v (V.nc) ?_
          refine WpL.v (V.fa tb) ?_
          refine WpL.o (O.st1 tb ?_)
          apply WpL.nil
          apply Out.seqN
          apply Wp.seq
          apply Wp.region
          refine WpL.v (V.as) ?_
          apply WpL.nil
          apply Out.seqN
          apply Wp.ret
          apply Out.seqR
          refine Out.e1 rfl ResIs.t ?_
          focus (exact ⟨_, _, ⟨_, _, _, rfl, rfl⟩, (by (repeat (first | exact Sel.nil | exact Rem.here | apply Sel.cons | apply Rem.there)))⟩; done)
        | false =>
          rw [h3] at hC
          have h4 : 256 ≤ l.length := by simpa [badR, h1, h2, h3] using hb
          have h5 : cmpI .gtr ((l.map (·.From)).length : Int) 255 = some true := by simp [cmpI]; omega
          unfold refE at hC ⊢
          refine Ct.enter Try.func51 rfl rfl fun W => ?_
          apply Wp.seq
          apply Wp.region
          refine WpL.v (V.as) ?_
          apply WpL.nil
          apply Out.seqN
          apply Wp.seq
          apply Wp.seq
          apply Wp.region
          refine WpL.v (V.mv) ?_
          refine WpL.o (Op1.fn rfl (hF) ?_)
          refine WpL.v (V.not) ?_
          refine WpL.v (V.mv) ?_
          refine WpL.v (V.mv) ?_
          refine WpL.o (Op1.fn rfl (hT) ?_)
          refine WpL.v (V.not) ?_
          refine WpL.v (V.pF) ?_
          refine WpL.v (V.mv) ?_
          refine WpL.v (V.mv) ?_
          refine WpL.v (V.mv) ?_
          refine WpL.v (V.mv) ?_
          refine WpL.o (Op1.callT rfl (hC) (by (repeat (first | exact Sel.nil | exact Rem.here | apply Sel.cons | apply Rem.there))) ?_)
          rintro v0 s1 ⟨rfl, rfl⟩
          refine incat ?_
          refine WpL.v (V.pF) ?_
          refine WpL.v (V.mv) ?_
          refine WpL.v (V.mv) ?_
          refine WpL.v (V.nc) ?_
          refine WpL.v (V.fa tb) ?_
          refine WpL.v (V.ld1 tb) ?_
          refine WpL.v (V.lenRows tb) ?_
          refine WpL.v (V.cmp rfl rfl h5) ?_
          refine WpL.v (V.pF) ?_
          apply WpL.nil
          apply Out.seqN
          refine Wp.cT ?_
          apply Wp.seq
          apply Wp.region
          refine WpL.v (V.mv) ?_
          refine WpL.v (V.nc) ?_
          refine WpL.v (V.fa tb) ?_
          refine WpL.v (V.ld1 tb) ?_
          refine WpL.v (V.add) ?_
          refine WpL.v (V.nc) ?_
          refine WpL.v (V.fa tb) ?_
          refine WpL.o (O.st1 tb ?_)
          apply WpL.nil
          apply Out.seqN
          apply Wp.seq
          apply Wp.region
          refine WpL.v (V.as) ?_
          apply WpL.nil
          apply Out.seqN
          apply Wp.ret
          apply Out.seqR
          refine Out.e1 rfl ResIs.t ?_
          focus (exact ⟨_, _, ⟨_, _, _, rfl, rfl⟩, (by (repeat (first | exact Sel.nil | exact Rem.here | apply Sel.cons | apply Rem.there)))⟩; done)
  | false =>
    have hb' := hb
    simp only [badR, Bool.or_eq_false_iff, decide_eq_false_iff_not, Bool.not_eq_false'] at hb'
    obtain ⟨h1, h2, h3, h4⟩ := hb'
    rw [h1] at hF; rw [h2] at hT; rw [h3] at hC
    have h5 : cmpI .gtr ((l.map (·.From)).length : Int) 255 = some false := by simp [cmpI]; omega
    have e : ∀ vf vt vs : Go.Value, refE b vf vt vs vc n (l ++ [y]) cs = [cells b 79 (Caucusref11Pool.c ⟨vf, vt, vs, vc, n⟩), rows i64c vf 3 1 (l.map (·.From) ++ [y.From]), rows i64c vt 3 1 (l.map (·.To) ++ [y.To]), rows strc vs 9 1 (l.map (·.Bytes) ++ [y.Bytes]), rows pairC vc 85 2 cs] := fun _ _ _ => by simp [refE]
    simp only [Bool.false_eq_true, if_false, e]
    have hl1 : (l.map (·.From)).length ≤ 256 := by simpa using hl
    have hl2 : (l.map (·.To)).length ≤ 256 := by simpa using hl
    have hl3 : (l.map (·.Bytes)).length ≤ 256 := by simpa using hl
    unfold refE at hC
    refine Ct.enter Try.func51 rfl rfl fun W => ?_
    rw [show refE b vf vt vs vc n l cs = [cells b 79 (Caucusref11Pool.c ⟨vf, vt, vs, vc, n⟩), rows i64c vf 3 1 (l.map (·.From)), rows i64c vt 3 1 (l.map (·.To)), rows strc vs 9 1 (l.map (·.Bytes)), rows pairC vc 85 2 cs] from rfl]
    apply Wp.seq
    apply Wp.region
    refine WpL.v (V.as) ?_
    apply WpL.nil
    apply Out.seqN
    apply Wp.seq
    apply Wp.seq
    apply Wp.region
    refine WpL.v (V.mv) ?_
    refine WpL.o (Op1.fn rfl (hF) ?_)
    refine WpL.v (V.not) ?_
    refine WpL.v (V.mv) ?_
    refine WpL.v (V.mv) ?_
    refine WpL.o (Op1.fn rfl (hT) ?_)
    refine WpL.v (V.not) ?_
    refine WpL.v (V.pF) ?_
    refine WpL.v (V.mv) ?_
    refine WpL.v (V.mv) ?_
    refine WpL.v (V.mv) ?_
    refine WpL.v (V.mv) ?_
    refine WpL.o (Op1.callT rfl (hC) (by (repeat (first | exact Sel.nil | exact Rem.here | apply Sel.cons | apply Rem.there))) ?_)
    rintro v0 s1 ⟨rfl, rfl⟩
    refine incat ?_
    refine WpL.v (V.pF) ?_
    refine WpL.v (V.mv) ?_
    refine WpL.v (V.mv) ?_
    refine WpL.v (V.nc) ?_
    refine WpL.v (V.fa tb) ?_
    refine WpL.v (V.ld1 tb) ?_
    refine WpL.v (V.lenRows tb) ?_
    refine WpL.v (V.cmp rfl rfl h5) ?_
    refine WpL.v (V.pF) ?_
    apply WpL.nil
    apply Out.seqN
    refine Wp.cF ?_
    apply Wp.skip
    apply Out.seqN
    apply Wp.seq
    apply Wp.region
    refine WpL.v (V.mv) ?_
    refine WpL.v (V.mv) ?_
    refine WpL.v (V.nc) ?_
    refine WpL.v (V.fa tb) ?_
    refine WpL.v (V.ld1 tb) ?_
    refine WpL.v (V.mv) ?_
    refine WpL.o (O.lit tb (fun p44 => ?_))
    refine WpL.o (O.apL tb rfl rfl (by (intro _; repeat first | exact Upd.here _ _ _ | apply Upd.there)) (SrcL.one tb (by (repeat first | exact List.Mem.head _ | apply List.Mem.tail)) ones_i64c) (fun g45 cap45 => ?_))
    refine WpL.v (V.nc) ?_
    refine WpL.v (V.fa tb) ?_
    refine WpL.o (O.st1 tb ?_)
    apply WpL.nil
    apply Out.seqN
    apply Wp.seq
    apply Wp.region
    refine WpL.v (V.mv) ?_
    refine WpL.v (V.mv) ?_
    refine WpL.v (V.nc) ?_
    refine WpL.v (V.fa tb) ?_
    refine WpL.v (V.ld1 tb) ?_
    refine WpL.v (V.mv) ?_
    refine WpL.o (O.lit tb (fun p54 => ?_))
    refine WpL.o (O.apL tb rfl rfl (by (intro _; repeat first | exact Upd.here _ _ _ | apply Upd.there)) (SrcL.one tb (by (repeat first | exact List.Mem.head _ | apply List.Mem.tail)) ones_i64c) (fun g55 cap55 => ?_))
    refine WpL.v (V.nc) ?_
    refine WpL.v (V.fa tb) ?_
    refine WpL.o (O.st1 tb ?_)
    apply WpL.nil
    apply Out.seqN
    apply Wp.seq
    apply Wp.region
    refine WpL.v (V.mv) ?_
    refine WpL.v (V.mv) ?_
    refine WpL.v (V.nc) ?_
    refine WpL.v (V.fa tb) ?_
    refine WpL.v (V.ld1 tb) ?_
    refine WpL.v (V.mv) ?_
    refine WpL.o (O.lit tb (fun p64 => ?_))
    refine WpL.o (O.apL tb rfl rfl (by (intro _; repeat first | exact Upd.here _ _ _ | apply Upd.there)) (SrcL.one tb (by (repeat first | exact List.Mem.head _ | apply List.Mem.tail)) ones_strc) (fun g65 cap65 => ?_))
    refine WpL.v (V.nc) ?_
    refine WpL.v (V.fa tb) ?_
    refine WpL.o (O.st1 tb ?_)
    apply WpL.nil
    apply Out.seqN
    apply Wp.seq
    apply Wp.region
    refine WpL.v (V.as) ?_
    apply WpL.nil
    apply Out.seqN
    apply Wp.ret
    refine Out.e1 rfl ResIs.t ?_
    focus (exact ⟨_, _, ⟨_, _, _, rfl, rfl⟩, (by (repeat (first | exact Sel.nil | exact Rem.here | apply Sel.cons | apply Rem.there)))⟩; done)
theorem ref_Is (b : Nat) (vf vt vs vc : Go.Value) (n : Int) (l : List PoolLetter) (cs : List (Int × Int)) (i : Int) :
    Ct Try.prog 53 [Ptr b 0, I i] (refE b vf vt vs vc n l cs) (fun r σ' => r = B (atP l i).isSome ∧ σ' = refE b vf vt vs vc n l cs) := by
  unfold refE
  cases h : atP l i with
  | none =>
    have h' := atP_none h
    have hl : ((l.map (·.From)).length : Int) = l.length := by simp
    refine Ct.enter Try.func53 rfl rfl fun W => ?_
    apply Wp.seq
    apply Wp.region
    refine WpL.v (V.as) ?_
    apply WpL.nil
    apply Out.seqN
    apply Wp.seq
    apply Wp.region
    refine WpL.v (V.mv) ?_
    refine WpL.v (V.cmp) ?_
    refine WpL.v (V.mv) ?_
    refine WpL.pt (fun hi10 => ?_) (fun hi10 => ?_)
    (try simp only [decide_eq_true_eq, decide_eq_false_iff_not, Bool.not_eq_true', Bool.not_eq_false', Bool.not_eq_true, Bool.not_eq_false, not_true_eq_false, not_false_eq_true, reduceCtorEq] at hi10)
    refine WpL.v (V.mv) ?_
    refine WpL.v (V.mv) ?_
    refine WpL.v (V.nc) ?_
    refine WpL.v (V.fa tb) ?_
    refine WpL.v (V.ld1 tb) ?_
    refine WpL.v (V.lenRows tb) ?_
    refine WpL.v (V.cmp) ?_
    refine WpL.v (V.pT) ?_
    refine WpL.v (V.as) ?_
    apply WpL.nil
    apply Out.seqN
    apply Wp.ret
    refine Out.f1 rfl ResIs.t ⟨?_, rfl⟩
    focus ((simp; omega); done)
    (try simp only [decide_eq_true_eq, decide_eq_false_iff_not, Bool.not_eq_true', Bool.not_eq_false', Bool.not_eq_true, Bool.not_eq_false, not_true_eq_false, not_false_eq_true, reduceCtorEq] at hi10)
    refine WpL.sk ?_
    refine WpL.sk ?_
    refine WpL.sk ?_
    refine WpL.sk ?_
    refine WpL.sk ?_
    refine WpL.sk ?_
    refine WpL.sk ?_
    refine WpL.v (V.pF) ?_
    refine WpL.v (V.as) ?_
    apply WpL.nil
    apply Out.seqN
    apply Wp.ret
    refine Out.f1 rfl ResIs.t ⟨?_, rfl⟩
    exact rfl
  | some y =>
    obtain ⟨k, rfl, hk, hlt⟩ := atP_some h
    have hl : ((l.map (·.From)).length : Int) = l.length := by simp
    refine Ct.enter Try.func53 rfl rfl fun W => ?_
    apply Wp.seq
    apply Wp.region
    refine WpL.v (V.as) ?_
    apply WpL.nil
    apply Out.seqN
    apply Wp.seq
    apply Wp.region
    refine WpL.v (V.mv) ?_
    refine WpL.v (V.cmp) ?_
    refine WpL.v (V.mv) ?_
    refine WpL.pt (fun hi20 => ?_) (fun hi20 => ?_)
    (try simp only [decide_eq_true_eq, decide_eq_false_iff_not, Bool.not_eq_true', Bool.not_eq_false', Bool.not_eq_true, Bool.not_eq_false, not_true_eq_false, not_false_eq_true, reduceCtorEq] at hi20)
    refine WpL.v (V.mv) ?_
    refine WpL.v (V.mv) ?_
    refine WpL.v (V.nc) ?_
    refine WpL.v (V.fa tb) ?_
    refine WpL.v (V.ld1 tb) ?_
    refine WpL.v (V.lenRows tb) ?_
    refine WpL.v (V.cmp) ?_
    refine WpL.v (V.pT) ?_
    refine WpL.v (V.as) ?_
    apply WpL.nil
    apply Out.seqN
    apply Wp.ret
    refine Out.f1 rfl ResIs.t ⟨?_, rfl⟩
    focus ((simp; omega); done)
    (try simp only [decide_eq_true_eq, decide_eq_false_iff_not, Bool.not_eq_true', Bool.not_eq_false', Bool.not_eq_true, Bool.not_eq_false, not_true_eq_false, not_false_eq_true, reduceCtorEq] at hi20)
    (exfalso; omega)
end Go.Proofs.Ytgbflapcadlelaa
