/-
  Layer 11: the document's pool: Out, Take, walked; what the statement compares.
-/
import Derived.Test.YtgbflapcadlelaaPRef
namespace Go.Proofs.Ytgbflapcadlelaa
open Go.HL
set_option linter.unusedSimpArgs false
set_option linter.unusedVariables false
set_option maxRecDepth 8000
theorem i64c_len (x : Int) : (i64c x).length = 1 := rfl
theorem strc_len (x : List UInt8) : (strc x).length = 1 := rfl
theorem ref_out (b : Nat) (vf vt vs vc : Go.Value) (n : Int) (l : List PoolLetter) (cs : List (Int × Int)) (k : Nat) (y : PoolLetter) (hk : l[k]? = some y) (hl : l.length ≤ 256) :
    Ct Try.prog 54 [Ptr b 0, I (k : Int)] (refE b vf vt vs vc n l cs) (fun r σ' => ∃ vf' vt' vs', r = .tuple #[I y.From, I y.To, S y.Bytes] ∧ σ' = refE b vf' vt' vs' vc n (l.eraseIdx k) cs) := by
  have hlt : k < l.length := (List.getElem?_eq_some_iff.1 hk).1
  have e : ∀ vf vt vs : Go.Value, refE b vf vt vs vc n (l.eraseIdx k) cs = [cells b 79 (Caucusref11Pool.c ⟨vf, vt, vs, vc, n⟩), rows i64c vf 3 1 ((l.map (·.From)).take k ++ (l.map (·.From)).drop (k + 1)), rows i64c vt 3 1 ((l.map (·.To)).take k ++ (l.map (·.To)).drop (k + 1)), rows strc vs 9 1 ((l.map (·.Bytes)).take k ++ (l.map (·.Bytes)).drop (k + 1)), rows pairC vc 85 2 cs] := fun _ _ _ => by simp only [refE, map_erase]
  simp only [e]
  have hl1 : (l.map (·.From)).length = l.length := by simp
  have hl2 : (l.map (·.To)).length = l.length := by simp
  have hl3 : (l.map (·.Bytes)).length = l.length := by simp
  have hk1 : (l.map (·.From))[k]? = some y.From := by simp [hk]
  have hk2 : (l.map (·.To))[k]? = some y.To := by simp [hk]
  have hk3 : (l.map (·.Bytes))[k]? = some y.Bytes := by simp [hk]
  unfold refE
  generalize l.map (·.From) = fs at *
  generalize l.map (·.To) = ts at *
  generalize l.map (·.Bytes) = bs at *
  refine Ct.enter Try.func54 rfl rfl fun W => ?_
  refine Wp.fact (rowsForm (f := i64c) (v := vf) (l := fs) (E := 3) (sz := 1) (by (repeat first | exact List.Mem.head _ | apply List.Mem.tail))) fun hv => ?_
  rcases hv with ⟨_, rfl⟩ | ⟨g1, cap1, rfl, hcap1, hcm1⟩
  · simp at hk1
  refine Wp.fact (rowsForm (f := i64c) (v := vt) (l := ts) (E := 3) (sz := 1) (by (repeat first | exact List.Mem.head _ | apply List.Mem.tail))) fun hv => ?_
  rcases hv with ⟨_, rfl⟩ | ⟨g2, cap2, rfl, hcap2, hcm2⟩
  · simp at hk2
  refine Wp.fact (rowsForm (f := strc) (v := vs) (l := bs) (E := 9) (sz := 1) (by (repeat first | exact List.Mem.head _ | apply List.Mem.tail))) fun hv => ?_
  rcases hv with ⟨_, rfl⟩ | ⟨g3, cap3, rfl, hcap3, hcm3⟩
  · simp at hk3
  simp only [Go.maxLen] at hcm1 hcm2 hcm3
  apply Wp.seq
  apply Wp.region
  refine WpL.v (V.as) ?_
  refine WpL.v (V.as) ?_
  refine WpL.v (V.as) ?_
  apply WpL.nil
  apply Out.seqN
  apply Wp.seq
  apply Wp.region
  refine WpL.v (V.mv) ?_
  refine WpL.v (V.nc) ?_
  refine WpL.v (V.fa tb) ?_
  refine WpL.v (V.ld1 tb) ?_
  refine WpL.v (V.mv) ?_
  refine WpL.v (V.ixk tb rfl rfl) ?_
  refine WpL.v (V.ldRow1 tb rfl (by (repeat first | exact List.Mem.head _ | apply List.Mem.tail)) (fun _ => rfl) (by assumption)) ?_
  refine WpL.v (V.as) ?_
  apply WpL.nil
  apply Out.seqN
  apply Wp.seq
  apply Wp.region
  refine WpL.v (V.mv) ?_
  refine WpL.v (V.nc) ?_
  refine WpL.v (V.fa tb) ?_
  refine WpL.v (V.ld1 tb) ?_
  refine WpL.v (V.mv) ?_
  refine WpL.v (V.ixk tb rfl rfl) ?_
  refine WpL.v (V.ldRow1 tb rfl (by (repeat first | exact List.Mem.head _ | apply List.Mem.tail)) (fun _ => rfl) (by assumption)) ?_
  refine WpL.v (V.as) ?_
  apply WpL.nil
  apply Out.seqN
  apply Wp.seq
  apply Wp.region
  refine WpL.v (V.mv) ?_
  refine WpL.v (V.nc) ?_
  refine WpL.v (V.fa tb) ?_
  refine WpL.v (V.ld1 tb) ?_
  refine WpL.v (V.mv) ?_
  refine WpL.v (V.ixk tb rfl rfl) ?_
  refine WpL.v (V.ldRow1 tb rfl (by (repeat first | exact List.Mem.head _ | apply List.Mem.tail)) (fun _ => rfl) (by assumption)) ?_
  refine WpL.v (V.as) ?_
  apply WpL.nil
  apply Out.seqN
  apply Wp.seq
  refine Wp.dG [19] ?_ (List.Sublist.cons_cons _ (List.Sublist.cons _ (List.Sublist.cons _ (List.Sublist.cons _ (List.Sublist.cons _ List.Sublist.slnil))))) (List.Sublist.cons _ (List.Sublist.cons _ (List.Sublist.cons _ (List.Sublist.cons _ (List.Sublist.cons _ List.Sublist.slnil)))))
  refine WpA.tF 0 rfl (V.mv) ?_
  refine WpA.tF 2 rfl (V.mv) ?_
  refine WpA.tF 3 rfl (V.nc) ?_
  refine WpA.tF 4 rfl (V.fa tb) ?_
  refine WpA.tF 6 rfl (V.mv) ?_
  refine WpA.tF 9 rfl (V.mv) ?_
  refine WpA.tF 10 rfl (V.nc) ?_
  refine WpA.tF 11 rfl (V.fa tb) ?_
  refine WpA.tF 13 rfl (V.mv) ?_
  refine WpA.tF 14 rfl (V.add) ?_
  refine WpA.t 5 rfl (V.ld1 tb) ?_
  refine WpA.tF 7 rfl (V.slTo tb (j := k) rfl rfl (by omega)) ?_
  refine WpA.t 12 rfl (V.ld1 tb) ?_
  refine WpA.tF 15 rfl (V.slFrom tb (i := k + 1) rfl rfl (by omega)) ?_
  refine WpA.oS 1 rfl (O.litL (E := 3) tb i64c ([] : List Int) rfl PartsFrom.nil rfl rfl (fun p32 => ⟨?_, ?_, ?_⟩))
  exact holdT
  exact holdT
  refine WpA.oS 8 rfl (O.apLV tb rfl rfl (by (intro _; repeat first | exact Upd.here _ _ _ | apply Upd.there)) (SrcL.pre tb (by (repeat first | exact List.Mem.head _ | apply List.Mem.tail)) (by omega) i64c_len ones_i64c) (fun v39 h139 hv39 => ⟨?_, ?_, ?_⟩) (hbb := by simp only [List.length_take, List.length_drop, List.length_append, List.length_nil]; omega) (h63 := by simp only [List.length_take, List.length_drop, List.length_append, List.length_nil]; omega))
  exact holdT
  exact holdT
  refine WpA.oS 16 rfl (O.apLV tb rfl rfl (by (intro _; repeat first | exact Upd.here _ _ _ | apply Upd.there)) (SrcL.suf tb (by (repeat first | exact List.Mem.head _ | apply List.Mem.tail)) (by omega) i64c_len ones_i64c) (fun v47 h147 hv47 => ⟨?_, ?_, ?_⟩) (hbb := by simp only [List.length_take, List.length_drop, List.length_append, List.length_nil]; omega) (h63 := by simp only [List.length_take, List.length_drop, List.length_append, List.length_nil]; omega))
  exact holdT
  exact holdT
  refine WpA.tF 17 rfl (V.nc) ?_
  refine WpA.tF 18 rfl (V.fa tb) ?_
  refine WpA.l 19 rfl (O.st1 tb ⟨?_, ?_⟩)
  exact holdT
  refine WpA.ou ?_
  apply Out.seqN
  apply Wp.seq
  refine Wp.dG [19] ?_ (List.Sublist.cons _ (List.Sublist.cons_cons _ (List.Sublist.cons _ (List.Sublist.cons _ (List.Sublist.cons _ (List.Sublist.cons _ List.Sublist.slnil)))))) (List.Sublist.cons _ (List.Sublist.cons _ (List.Sublist.cons _ (List.Sublist.cons _ (List.Sublist.cons _ (List.Sublist.cons _ List.Sublist.slnil))))))
  refine WpA.tF 0 rfl (V.mv) ?_
  refine WpA.tF 2 rfl (V.mv) ?_
  refine WpA.tF 3 rfl (V.nc) ?_
  refine WpA.tF 4 rfl (V.fa tb) ?_
  refine WpA.tF 6 rfl (V.mv) ?_
  refine WpA.tF 9 rfl (V.mv) ?_
  refine WpA.tF 10 rfl (V.nc) ?_
  refine WpA.tF 11 rfl (V.fa tb) ?_
  refine WpA.tF 13 rfl (V.mv) ?_
  refine WpA.tF 14 rfl (V.add) ?_
  refine WpA.t 5 rfl (V.ld1 tb) ?_
  refine WpA.tF 7 rfl (V.slTo tb (j := k) rfl rfl (by omega)) ?_
  refine WpA.t 12 rfl (V.ld1 tb) ?_
  refine WpA.tF 15 rfl (V.slFrom tb (i := k + 1) rfl rfl (by omega)) ?_
  refine WpA.oS 1 rfl (O.litL (E := 3) tb i64c ([] : List Int) rfl PartsFrom.nil rfl rfl (fun p51 => ⟨?_, ?_, ?_⟩))
  exact holdT
  exact holdT
  refine WpA.oS 8 rfl (O.apLV tb rfl rfl (by (intro _; repeat first | exact Upd.here _ _ _ | apply Upd.there)) (SrcL.pre tb (by (repeat first | exact List.Mem.head _ | apply List.Mem.tail)) (by omega) i64c_len ones_i64c) (fun v58 h158 hv58 => ⟨?_, ?_, ?_⟩) (hbb := by simp only [List.length_take, List.length_drop, List.length_append, List.length_nil]; omega) (h63 := by simp only [List.length_take, List.length_drop, List.length_append, List.length_nil]; omega))
  exact holdT
  exact holdT
  refine WpA.oS 16 rfl (O.apLV tb rfl rfl (by (intro _; repeat first | exact Upd.here _ _ _ | apply Upd.there)) (SrcL.suf tb (by (repeat first | exact List.Mem.head _ | apply List.Mem.tail)) (by omega) i64c_len ones_i64c) (fun v66 h166 hv66 => ⟨?_, ?_, ?_⟩) (hbb := by simp only [List.length_take, List.length_drop, List.length_append, List.length_nil]; omega) (h63 := by simp only [List.length_take, List.length_drop, List.length_append, List.length_nil]; omega))
  exact holdT
  exact holdT
  refine WpA.tF 17 rfl (V.nc) ?_
  refine WpA.tF 18 rfl (V.fa tb) ?_
  refine WpA.l 19 rfl (O.st1 tb ⟨?_, ?_⟩)
  exact holdT
  refine WpA.ou ?_
  apply Out.seqN
  apply Wp.seq
  refine Wp.dG [19] ?_ (List.Sublist.cons _ (List.Sublist.cons _ (List.Sublist.cons_cons _ (List.Sublist.cons _ (List.Sublist.cons _ (List.Sublist.cons _ (List.Sublist.cons _ List.Sublist.slnil))))))) (List.Sublist.cons _ (List.Sublist.cons _ (List.Sublist.cons _ (List.Sublist.cons _ (List.Sublist.cons _ (List.Sublist.cons _ (List.Sublist.cons _ List.Sublist.slnil)))))))
  refine WpA.tF 0 rfl (V.mv) ?_
  refine WpA.tF 2 rfl (V.mv) ?_
  refine WpA.tF 3 rfl (V.nc) ?_
  refine WpA.tF 4 rfl (V.fa tb) ?_
  refine WpA.tF 6 rfl (V.mv) ?_
  refine WpA.tF 9 rfl (V.mv) ?_
  refine WpA.tF 10 rfl (V.nc) ?_
  refine WpA.tF 11 rfl (V.fa tb) ?_
  refine WpA.tF 13 rfl (V.mv) ?_
  refine WpA.tF 14 rfl (V.add) ?_
  refine WpA.t 5 rfl (V.ld1 tb) ?_
  refine WpA.tF 7 rfl (V.slTo tb (j := k) rfl rfl (by omega)) ?_
  refine WpA.t 12 rfl (V.ld1 tb) ?_
  refine WpA.tF 15 rfl (V.slFrom tb (i := k + 1) rfl rfl (by omega)) ?_
  refine WpA.oS 1 rfl (O.litL (E := 9) tb strc ([] : List (List UInt8)) rfl PartsFrom.nil rfl rfl (fun p70 => ⟨?_, ?_, ?_⟩))
  exact holdT
  exact holdT
  refine WpA.oS 8 rfl (O.apLV tb rfl rfl (by (intro _; repeat first | exact Upd.here _ _ _ | apply Upd.there)) (SrcL.pre tb (by (repeat first | exact List.Mem.head _ | apply List.Mem.tail)) (by omega) strc_len ones_strc) (fun v77 h177 hv77 => ⟨?_, ?_, ?_⟩) (hbb := by simp only [List.length_take, List.length_drop, List.length_append, List.length_nil]; omega) (h63 := by simp only [List.length_take, List.length_drop, List.length_append, List.length_nil]; omega))
  exact holdT
  exact holdT
  refine WpA.oS 16 rfl (O.apLV tb rfl rfl (by (intro _; repeat first | exact Upd.here _ _ _ | apply Upd.there)) (SrcL.suf tb (by (repeat first | exact List.Mem.head _ | apply List.Mem.tail)) (by omega) strc_len ones_strc) (fun v85 h185 hv85 => ⟨?_, ?_, ?_⟩) (hbb := by simp only [List.length_take, List.length_drop, List.length_append, List.length_nil]; omega) (h63 := by simp only [List.length_take, List.length_drop, List.length_append, List.length_nil]; omega))
  exact holdT
  exact holdT
  refine WpA.tF 17 rfl (V.nc) ?_
  refine WpA.tF 18 rfl (V.fa tb) ?_
  refine WpA.l 19 rfl (O.st1 tb ⟨?_, ?_⟩)
  exact holdT
  refine WpA.ou ?_
  apply Out.seqN
  apply Wp.seq
  apply Wp.region
  refine WpL.v (V.mv) ?_
  refine WpL.v (V.mv) ?_
  refine WpL.v (V.mv) ?_
  refine WpL.v (V.as) ?_
  refine WpL.v (V.as) ?_
  refine WpL.v (V.as) ?_
  apply WpL.nil
  apply Out.seqN
  apply Wp.ret
  refine Out.e3 rfl ResIs.t ResIs.t ResIs.t ?_
  focus (exact ⟨_, _, ⟨_, _, _, rfl, rfl⟩, (by (repeat (first | exact Sel.nil | exact Rem.here | apply Sel.cons | apply Rem.there)))⟩; done)
end Go.Proofs.Ytgbflapcadlelaa
