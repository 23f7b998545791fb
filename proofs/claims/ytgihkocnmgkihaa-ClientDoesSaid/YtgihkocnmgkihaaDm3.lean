/-
  Layer 21: the document's machine: a deed of a session that is known.
-/
import Derived.Test.YtgihkocnmgkihaaDm2
namespace Go.Proofs.Ytgihkocnmgkihaa
open Go.HL
set_option linter.unusedSimpArgs false
set_option linter.unusedVariables false
set_option maxRecDepth 8000
theorem rowOwn {α : Type} {f : α → List Go.Value} {W : Go.World} {D : List Nat} {σ : List Ent} {v : Go.Value} {E sz : Nat} {l : List α} (hm : rows f v E sz l ∈ σ) (h0 : 0 < l.length) :
    ∀ w, H W D σ w → ∃ g cap, v = .slice (some ⟨g, 0, none⟩) l.length cap ∧ l.length ≤ cap ∧ cap ≤ Go.maxLen := fun w hw => by
  rcases rowsForm hm w hw with ⟨rfl, rfl⟩ | ⟨g, cap, rfl, h1, h2⟩
  · simp at h0
  · exact ⟨g, cap, rfl, h1, h2⟩
set_option maxHeartbeats 4000000 in
theorem dm_found (b : Nat) (ks vs ns ids nums reps : Go.Value) (n : Nat) (s : CS) (T : SM) (g : GB) (d : TDeed) (hi : CI n s) (hd : DM s.ss T g) (hn : n ≤ 10000) (hg : goodD d = true) (h0 : d.Session ≠ 0) (y0 : Int × RV) (hm : mget s.ss d.Session = some y0) :
    Ct Try.prog 36 [Ptr b 0, A d.c] (dmE b ks vs ns ids nums reps s.l T g s.cnt) (DmPost b (doC s d).2 (doC s d).1) := by
  have hG := ref_good d
  rw [hg] at hG
  obtain ⟨j, x, hj, hxf, hjb⟩ := hd.find hm
  have hgt : s.get d.Session = x.f := by unfold CS.get; rw [hm, hxf]; rfl
  have hjl := (List.getElem?_eq_some_iff.1 hj).1
  have hxm := hd.mem _ (List.mem_of_getElem? hj)
  obtain ⟨num0, err0, val0, ver0, keys0, kv0⟩ := x
  dsimp only at hxm
  have hgt1 : (s.get d.Session).1 = num0 := by rw [hgt]; rfl
  have hgt2 : (s.get d.Session).2 = ⟨err0, val0, ver0, keys0⟩ := by rw [hgt]; rfl
  have hAt := dm_at_yes b ks vs ns ids nums reps s.cnt T d.Session j _ hj hjb
  have hl1 : (T.map (·.2.num)).length = T.length := List.length_map ..
  have hl2 : (T.map (·.2)).length = T.length := List.length_map ..
  have hq1 : (T.map (·.2.num))[j]? = some num0 := by rw [List.getElem?_map, hj]; rfl
  have hq2 : (T.map (·.2))[j]? = some ⟨num0, err0, val0, ver0, keys0, kv0⟩ := by rw [List.getElem?_map, hj]; rfl
  by_cases h1 : num0 < d.Number
  · -- done
    rw [doC_act hg (decide_eq_true (.inr (by rw [hgt1]; exact h1)))]
    have hu : updC s.ss d (doA s.l d).rv = mput s.ss d.Session (d.Number, (doA s.l d).rv) := by unfold updC; rw [if_neg h0]
    rw [hu]
    have hA := fun (ids nums reps : Go.Value) => ref_any b 65 [ids, nums, reps, I (s.cnt + 1)] ks vs ns n s.l d hi.reg hn
    have hcn := hi.cnt
    have hdm : ∀ (v : Go.Value), DM (mput s.ss d.Session (d.Number, (doA s.l d).rv)) (T.set j (d.Session, ⟨d.Number, (doA s.l d).err, (doA s.l d).val, (doA s.l d).ver, (doA s.l d).keys, v⟩)) ((v, (doA s.l d).keys) :: g) := fun v =>
      (hd.more (v, (doA s.l d).keys)).set hj hjb (⟨d.Number, (doA s.l d).err, (doA s.l d).val, (doA s.l d).ver, (doA s.l d).keys, v⟩ : LV) List.mem_cons_self
    have e1 : ∀ (v : Go.Value), (T.set j (d.Session, ⟨d.Number, (doA s.l d).err, (doA s.l d).val, (doA s.l d).ver, (doA s.l d).keys, v⟩)).map (·.1) = T.map (·.1) := fun v => by
      rw [List.map_set]
      have : (T.map (·.1))[j]? = some d.Session := by rw [List.getElem?_map, hj]; rfl
      obtain ⟨p1, p2⟩ := List.getElem?_eq_some_iff.1 this
      show (T.map (·.1)).set j d.Session = _
      conv => lhs; arg 3; rw [← p2]
      exact List.set_getElem_self p1
    have e2 : ∀ (v : Go.Value), (T.set j (d.Session, ⟨d.Number, (doA s.l d).err, (doA s.l d).val, (doA s.l d).ver, (doA s.l d).keys, v⟩)).map (·.2.num) = (T.map (·.2.num)).set j d.Number := fun v => List.map_set
    have e3 : ∀ (v : Go.Value), (T.set j (d.Session, ⟨d.Number, (doA s.l d).err, (doA s.l d).val, (doA s.l d).ver, (doA s.l d).keys, v⟩)).map (·.2) = (T.map (·.2)).set j ⟨d.Number, (doA s.l d).err, (doA s.l d).val, (doA s.l d).ver, (doA s.l d).keys, v⟩ := fun v => List.map_set
    refine DmMid.post ?_
    unfold dmE
    unfold rfE at hA
    unfold DR.rv at *
    dsimp only at *
    generalize doA s.l d = y at *
    refine Ct.mono (R := fun r σ' => ∃ ao len cap ks vs ns nums reps, r = A (Caucusref20Reply.c ⟨y.err, y.val, y.ver, .slice ao len cap⟩) ∧ σ' = [rows strc (.slice ao len cap) 9 1 y.keys, gE g, cells b 65 [ks, vs, ns, ids, nums, reps, I (s.cnt + 1)], rows strc ks 9 1 ((canon y.l).map (·.Key)), rows strc vs 9 1 ((canon y.l).map (·.Value)), rows i64c ns 3 1 ((canon y.l).map (·.Version)), rows i64c ids 3 1 (T.map (·.1)), rows i64c nums 3 1 ((T.map (·.2.num)).set j d.Number), rows rpC reps 39 4 ((T.map (·.2)).set j ⟨d.Number, y.err, y.val, y.ver, y.keys, .slice ao len cap⟩)]) ?_ ?_
    · refine Ct.enter Try.func36 rfl rfl fun W => ?_
      refine Wp.fact (rowOwn (f := i64c) (v := nums) (l := T.map (·.2.num)) (E := 3) (sz := 1) (by repeat first | exact List.Mem.head _ | apply List.Mem.tail) (by omega)) fun hv => ?_
      obtain ⟨g1, cap1, rfl, hc1⟩ := hv
      refine Wp.fact (rowOwn (f := rpC) (v := reps) (l := T.map (·.2)) (E := 39) (sz := 4) (by repeat first | exact List.Mem.head _ | apply List.Mem.tail) (by omega)) fun hv => ?_
      obtain ⟨g2, cap2, rfl, hc2⟩ := hv
      have hR1 := Rd.rows (f := i64c) (g := g1) (E := 3) (sz := 1) (cap := cap1) (l := T.map (·.2.num)) (fun _ => rfl) (by simp only [Go.maxLen] at hc1; omega)
      have hR2 := Rd.rows (f := rpC) (g := g2) (E := 39) (sz := 4) (cap := cap2) (l := T.map (·.2)) rpC.len (by simp only [Go.maxLen] at hc2; omega)
      have hA := hA ids (.slice (some ⟨g1, 0, none⟩) (T.map (·.2.num)).length cap1) (.slice (some ⟨g2, 0, none⟩) (T.map (·.2)).length cap2)
      apply Wp.seq
      apply Wp.region
      refine WpL.o (O.bxA (fun p3 => ?_))
      refine WpL.o (O.al tb (fun p4 => ?_))
      apply WpL.nil
      apply Out.seqN
      apply Wp.seq
      apply Wp.seq
      apply Wp.region
      refine WpL.v (V.ldA tb) ?_
      refine WpL.o (Op1.fn rfl (hG) ?_)
      refine WpL.v (V.not) ?_
      apply WpL.nil
      apply Out.seqN
      refine Wp.cF ?_
      apply Wp.skip
      apply Out.seqN
      apply Wp.seq
      apply Wp.seq
      apply Wp.region
      refine WpL.v (V.fa tb) ?_
      refine WpL.v (V.ld1 tb) ?_
      refine WpL.v (V.cmp) ?_
      apply WpL.nil
      apply Out.seqN
      refine Wp.c (fun h0 => ?_) (fun h0 => ?_)
      (try simp only [decide_eq_true_eq, decide_eq_false_iff_not, Bool.not_eq_true', Bool.not_eq_false', Bool.not_eq_true, Bool.not_eq_false, not_true_eq_false, not_false_eq_true, reduceCtorEq] at h0)
      (exfalso; omega)
      (try simp only [decide_eq_true_eq, decide_eq_false_iff_not, Bool.not_eq_true', Bool.not_eq_false', Bool.not_eq_true, Bool.not_eq_false, not_true_eq_false, not_false_eq_true, reduceCtorEq] at h0)
      apply Wp.skip
      apply Out.seqN
      apply Wp.seq
      apply Wp.region
      refine WpL.v (V.mv) ?_
      refine WpL.v (V.fa tb) ?_
      refine WpL.v (V.ld1 tb) ?_
      refine WpL.o (Op1.callT rfl (hAt) (by (repeat (first | exact Sel.nil | exact Rem.here | apply Sel.cons | apply Rem.there))) ?_)
      rintro v1 s2 ⟨rfl, rfl⟩
      refine incat ?_
      refine WpL.v (V.as) ?_
      apply WpL.nil
      apply Out.seqN
      apply Wp.seq
      apply Wp.seq
      refine Wp.dG [] ?_ (List.Sublist.cons_cons _ (List.Sublist.cons_cons _ (List.Sublist.cons _ (List.Sublist.cons_cons _ (List.Sublist.cons_cons _ (List.Sublist.cons_cons _ (List.Sublist.cons_cons _ (List.Sublist.cons_cons _ (List.Sublist.cons_cons _ (List.Sublist.cons_cons _ List.Sublist.slnil)))))))))) (List.Sublist.cons_cons _ (List.Sublist.cons_cons _ (List.Sublist.cons _ (List.Sublist.cons_cons _ (List.Sublist.cons_cons _ (List.Sublist.cons_cons _ (List.Sublist.cons_cons _ (List.Sublist.cons_cons _ (List.Sublist.cons_cons _ (List.Sublist.cons_cons _ List.Sublist.slnil))))))))))
      refine WpA.tF 0 rfl (V.mv) ?_
      refine WpA.tF 1 rfl (V.cmp) ?_
      refine WpA.tF 2 rfl (V.mv) ?_
      refine WpA.pt 33 (fun h3 => ?_) (fun h3 => ?_)
      (try simp only [decide_eq_true_eq, decide_eq_false_iff_not, Bool.not_eq_true', Bool.not_eq_false', Bool.not_eq_true, Bool.not_eq_false, not_true_eq_false, not_false_eq_true, reduceCtorEq] at h3)
      refine WpA.tF 3 rfl (V.fa tb) ?_
      refine WpA.tF 4 rfl (V.ld1 tb) ?_
      refine WpA.tF 5 rfl (V.mv) ?_
      refine WpA.tF 6 rfl (V.nc) ?_
      refine WpA.tF 7 rfl (V.fa tb) ?_
      refine WpA.tF 8 rfl (V.ld1 tb) ?_
      refine WpA.tF 9 rfl (V.mv) ?_
      refine WpA.tF 10 rfl (V.ixR tb rfl rfl (by assumption)) ?_
      refine WpA.tF 11 rfl (V.ldR1 tb rfl hR1 (getMapS hq1)) ?_
      refine WpA.tF 12 rfl (V.cmp) ?_
      refine WpA.tF 13 rfl (V.pT) ?_
      refine WpA.ou ?_
      apply Out.seqN
      refine Wp.c (fun h4 => ?_) (fun h4 => ?_)
      (try simp only [decide_eq_true_eq, decide_eq_false_iff_not, Bool.not_eq_true', Bool.not_eq_false', Bool.not_eq_true, Bool.not_eq_false, not_true_eq_false, not_false_eq_true, reduceCtorEq] at h4)
      (exfalso; omega)
      (try simp only [decide_eq_true_eq, decide_eq_false_iff_not, Bool.not_eq_true', Bool.not_eq_false', Bool.not_eq_true, Bool.not_eq_false, not_true_eq_false, not_false_eq_true, reduceCtorEq] at h4)
      apply Wp.skip
      apply Out.seqN
      apply Wp.seq
      apply Wp.seq
      refine Wp.dG [] ?_ (List.Sublist.cons_cons _ (List.Sublist.cons_cons _ (List.Sublist.cons _ (List.Sublist.cons_cons _ (List.Sublist.cons_cons _ (List.Sublist.cons_cons _ (List.Sublist.cons_cons _ (List.Sublist.cons_cons _ (List.Sublist.cons_cons _ (List.Sublist.cons_cons _ List.Sublist.slnil)))))))))) (List.Sublist.cons_cons _ (List.Sublist.cons_cons _ (List.Sublist.cons _ (List.Sublist.cons_cons _ (List.Sublist.cons_cons _ (List.Sublist.cons_cons _ (List.Sublist.cons_cons _ (List.Sublist.cons_cons _ (List.Sublist.cons_cons _ (List.Sublist.cons_cons _ List.Sublist.slnil))))))))))
      refine WpA.tF 0 rfl (V.mv) ?_
      refine WpA.tF 1 rfl (V.cmp) ?_
      refine WpA.tF 2 rfl (V.mv) ?_
      refine WpA.pt 48 (fun h5 => ?_) (fun h5 => ?_)
      (try simp only [decide_eq_true_eq, decide_eq_false_iff_not, Bool.not_eq_true', Bool.not_eq_false', Bool.not_eq_true, Bool.not_eq_false, not_true_eq_false, not_false_eq_true, reduceCtorEq] at h5)
      refine WpA.tF 3 rfl (V.fa tb) ?_
      refine WpA.tF 4 rfl (V.ld1 tb) ?_
      refine WpA.tF 5 rfl (V.mv) ?_
      refine WpA.tF 6 rfl (V.nc) ?_
      refine WpA.tF 7 rfl (V.fa tb) ?_
      refine WpA.tF 8 rfl (V.ld1 tb) ?_
      refine WpA.tF 9 rfl (V.mv) ?_
      refine WpA.tF 10 rfl (V.ixR tb rfl rfl (by assumption)) ?_
      refine WpA.tF 11 rfl (V.ldR1 tb rfl hR1 (getMapS hq1)) ?_
      refine WpA.tF 12 rfl (V.cmp) ?_
      refine WpA.tF 13 rfl (V.pT) ?_
      refine WpA.ou ?_
      apply Out.seqN
      refine Wp.c (fun h6 => ?_) (fun h6 => ?_)
      (try simp only [decide_eq_true_eq, decide_eq_false_iff_not, Bool.not_eq_true', Bool.not_eq_false', Bool.not_eq_true, Bool.not_eq_false, not_true_eq_false, not_false_eq_true, reduceCtorEq] at h6)
      (exfalso; omega)
      (try simp only [decide_eq_true_eq, decide_eq_false_iff_not, Bool.not_eq_true', Bool.not_eq_false', Bool.not_eq_true, Bool.not_eq_false, not_true_eq_false, not_false_eq_true, reduceCtorEq] at h6)
      apply Wp.skip
      apply Out.seqN
      apply Wp.seq
      apply Wp.region
      refine WpL.v (V.mv) ?_
      refine WpL.v (V.nc) ?_
      refine WpL.v (V.fa tb) ?_
      refine WpL.v (V.ld1 tb) ?_
      refine WpL.v (V.add) ?_
      refine WpL.v (V.nc) ?_
      refine WpL.v (V.fa tb) ?_
      refine WpL.o (O.st1 tb ?_)
      apply WpL.nil
      apply Out.seqN
      rotate_left
      (try simp only [decide_eq_true_eq, decide_eq_false_iff_not, Bool.not_eq_true', Bool.not_eq_false', Bool.not_eq_true, Bool.not_eq_false, not_true_eq_false, not_false_eq_true, reduceCtorEq] at h5)
      (exfalso; omega)
      (try simp only [decide_eq_true_eq, decide_eq_false_iff_not, Bool.not_eq_true', Bool.not_eq_false', Bool.not_eq_true, Bool.not_eq_false, not_true_eq_false, not_false_eq_true, reduceCtorEq] at h3)
      (exfalso; omega)
      apply Wp.seq
      refine Wp.dG [] ?_ (List.Sublist.cons _ (List.Sublist.cons _ (List.Sublist.cons _ (List.Sublist.cons_cons _ (List.Sublist.cons _ (List.Sublist.cons _ (List.Sublist.cons _ (List.Sublist.cons _ (List.Sublist.cons _ (List.Sublist.cons _ List.Sublist.slnil)))))))))) (List.Sublist.cons _ (List.Sublist.cons _ (List.Sublist.cons _ (List.Sublist.cons_cons _ (List.Sublist.cons _ (List.Sublist.cons _ (List.Sublist.cons _ (List.Sublist.cons _ (List.Sublist.cons _ (List.Sublist.cons _ List.Sublist.slnil))))))))))
      refine WpA.tF 0 rfl (V.mv) ?_
      refine WpA.tF 1 rfl (V.nc) ?_
      refine WpA.tF 2 rfl (V.fa tb) ?_
      refine WpA.tF 3 rfl (V.ldA tb) ?_
      refine WpA.e2 4 5 rfl rfl ?_ ?_
      refine Op1.callT rfl (hA) (by (repeat (first | exact Sel.nil | exact Rem.here | apply Sel.cons | apply Rem.there))) ?_
      rintro v0 s1 ⟨ao78, ⟨len78, ⟨cap78, ⟨ks'78, ⟨vs'78, ⟨ns'78, ⟨rfl, rfl⟩⟩⟩⟩⟩⟩⟩
      refine incat ⟨?_, ?_, ?_⟩
      exact holdT
      exact holdT
      refine WpA.oS 5 rfl (O.al tb (fun p6 => ⟨?_, ?_, ?_⟩))
      exact holdT
      exact holdT
      refine WpA.oS 6 rfl (O.stA tb ⟨?_, ?_, ?_⟩)
      exact holdT
      exact holdT
      refine WpA.ou ?_
      apply Out.seqN
      apply Wp.seq
      apply Wp.seq
      apply Wp.region
      refine WpL.v (V.mv) ?_
      refine WpL.v (V.cmp) ?_
      apply WpL.nil
      apply Out.seqN
      refine Wp.c (fun h2 => ?_) (fun h2 => ?_)
      (try simp only [decide_eq_true_eq, decide_eq_false_iff_not, Bool.not_eq_true', Bool.not_eq_false', Bool.not_eq_true, Bool.not_eq_false, not_true_eq_false, not_false_eq_true, reduceCtorEq] at h2)
      apply Wp.seq
      refine Wp.dG [] ?_ (List.Sublist.cons _ (List.Sublist.cons _ (List.Sublist.cons_cons _ (List.Sublist.cons _ (List.Sublist.cons _ (List.Sublist.cons _ (List.Sublist.cons _ (List.Sublist.cons _ (List.Sublist.cons_cons _ (List.Sublist.cons _ (List.Sublist.cons _ (List.Sublist.cons _ List.Sublist.slnil)))))))))))) (List.Sublist.cons _ (List.Sublist.cons _ (List.Sublist.cons_cons _ (List.Sublist.cons _ (List.Sublist.cons _ (List.Sublist.cons _ (List.Sublist.cons _ (List.Sublist.cons _ (List.Sublist.cons_cons _ (List.Sublist.cons _ (List.Sublist.cons _ (List.Sublist.cons _ List.Sublist.slnil))))))))))))
      refine WpA.tF 0 rfl (V.mv) ?_
      refine WpA.tF 1 rfl (V.nc) ?_
      refine WpA.tF 2 rfl (V.fa tb) ?_
      refine WpA.tF 3 rfl (V.ld1 tb) ?_
      refine WpA.tF 4 rfl (V.mv) ?_
      refine WpA.tF 5 rfl (V.fa tb) ?_
      refine WpA.tF 6 rfl (V.ld1 tb) ?_
      refine WpA.tF 7 rfl (V.ixR tb rfl rfl (by assumption)) ?_
      refine WpA.oS 8 rfl (O.stRow1 tb (f := i64c) (a := d.Number) rfl rfl rfl rfl (by repeat first | exact Upd.here _ _ _ | apply Upd.there) rfl (by omega) (fun _ => rfl) ⟨?_, ?_, ?_⟩)
      exact holdT
      exact holdT
      refine WpA.ou ?_
      apply Out.seqN
      apply Wp.seq
      refine Wp.dG [] ?_ (List.Sublist.cons_cons _ (List.Sublist.cons _ (List.Sublist.cons_cons _ (List.Sublist.cons _ (List.Sublist.cons _ (List.Sublist.cons _ (List.Sublist.cons _ (List.Sublist.cons _ (List.Sublist.cons _ (List.Sublist.cons _ (List.Sublist.cons _ (List.Sublist.cons _ List.Sublist.slnil)))))))))))) (List.Sublist.cons_cons _ (List.Sublist.cons _ (List.Sublist.cons_cons _ (List.Sublist.cons _ (List.Sublist.cons _ (List.Sublist.cons _ (List.Sublist.cons _ (List.Sublist.cons _ (List.Sublist.cons _ (List.Sublist.cons _ (List.Sublist.cons _ (List.Sublist.cons _ List.Sublist.slnil))))))))))))
      refine WpA.tF 0 rfl (V.mv) ?_
      refine WpA.tF 1 rfl (V.nc) ?_
      refine WpA.tF 2 rfl (V.fa tb) ?_
      refine WpA.tF 3 rfl (V.ld1 tb) ?_
      refine WpA.tF 4 rfl (V.mv) ?_
      refine WpA.tF 5 rfl (V.ldA tb) ?_
      refine WpA.tF 6 rfl (V.ixR tb rfl rfl (by assumption)) ?_
      refine WpA.oS 7 rfl (O.stRowA tb (f := rpC) (a := (⟨d.Number, y.err, y.val, y.ver, y.keys, .slice _ _ _⟩ : LV)) rfl rfl (by repeat first | exact Upd.here _ _ _ | apply Upd.there) rfl (by omega) rpC.len rpC.ones ⟨?_, ?_, ?_⟩)
      exact holdT
      exact holdT
      refine WpA.ou ?_
      apply Out.seqN
      apply Wp.seq
      apply Wp.region
      refine WpL.v (V.ldA tb) ?_
      refine WpL.o (O.stA tb ?_)
      apply WpL.nil
      apply Out.seqN
      apply Wp.ret
      apply Out.seqR
      refine Out.e1 rfl (ResIs.ca tb) ?_
      focus (exact ⟨_, _, ⟨_, _, _, _, _, _, _, _, rfl, rfl⟩, (by (repeat (first | exact Sel.nil | exact Rem.here | apply Sel.cons | apply Rem.there)))⟩; done)
      (try simp only [decide_eq_true_eq, decide_eq_false_iff_not, Bool.not_eq_true', Bool.not_eq_false', Bool.not_eq_true, Bool.not_eq_false, not_true_eq_false, not_false_eq_true, reduceCtorEq] at h2)
      (exfalso; omega)
      refine O.al tb (fun p6 => ⟨?_, ?_, ?_⟩)
      exact holdT
      exact holdT
      refine WpA.oS 4 rfl (Op1.callT rfl (hA) (by (repeat (first | exact Sel.nil | exact Rem.here | apply Sel.cons | apply Rem.there))) ?_)
      rintro v9 s10 ⟨ao78_3, ⟨len78_4, ⟨cap78_5, ⟨ks'78_6, ⟨vs'78_7, ⟨ns'78_8, ⟨rfl, rfl⟩⟩⟩⟩⟩⟩⟩
      refine incat ⟨?_, ?_, ?_⟩
      exact holdT
      exact holdT
      refine WpA.oS 6 rfl (O.stA tb ⟨?_, ?_, ?_⟩)
      exact holdT
      exact holdT
      refine WpA.ou ?_
      apply Out.seqN
      apply Wp.seq
      apply Wp.seq
      apply Wp.region
      refine WpL.v (V.mv) ?_
      refine WpL.v (V.cmp) ?_
      apply WpL.nil
      apply Out.seqN
      refine Wp.c (fun h11 => ?_) (fun h11 => ?_)
      (try simp only [decide_eq_true_eq, decide_eq_false_iff_not, Bool.not_eq_true', Bool.not_eq_false', Bool.not_eq_true, Bool.not_eq_false, not_true_eq_false, not_false_eq_true, reduceCtorEq] at h11)
      apply Wp.seq
      refine Wp.dG [] ?_ (List.Sublist.cons _ (List.Sublist.cons_cons _ (List.Sublist.cons _ (List.Sublist.cons _ (List.Sublist.cons _ (List.Sublist.cons _ (List.Sublist.cons _ (List.Sublist.cons _ (List.Sublist.cons_cons _ (List.Sublist.cons _ (List.Sublist.cons _ (List.Sublist.cons _ List.Sublist.slnil)))))))))))) (List.Sublist.cons _ (List.Sublist.cons_cons _ (List.Sublist.cons _ (List.Sublist.cons _ (List.Sublist.cons _ (List.Sublist.cons _ (List.Sublist.cons _ (List.Sublist.cons _ (List.Sublist.cons_cons _ (List.Sublist.cons _ (List.Sublist.cons _ (List.Sublist.cons _ List.Sublist.slnil))))))))))))
      refine WpA.tF 0 rfl (V.mv) ?_
      refine WpA.tF 1 rfl (V.nc) ?_
      refine WpA.tF 2 rfl (V.fa tb) ?_
      refine WpA.tF 3 rfl (V.ld1 tb) ?_
      refine WpA.tF 4 rfl (V.mv) ?_
      refine WpA.tF 5 rfl (V.fa tb) ?_
      refine WpA.tF 6 rfl (V.ld1 tb) ?_
      refine WpA.tF 7 rfl (V.ixR tb rfl rfl (by assumption)) ?_
      refine WpA.oS 8 rfl (O.stRow1 tb (f := i64c) (a := d.Number) rfl rfl rfl rfl (by repeat first | exact Upd.here _ _ _ | apply Upd.there) rfl (by omega) (fun _ => rfl) ⟨?_, ?_, ?_⟩)
      exact holdT
      exact holdT
      refine WpA.ou ?_
      apply Out.seqN
      apply Wp.seq
      refine Wp.dG [] ?_ (List.Sublist.cons _ (List.Sublist.cons_cons _ (List.Sublist.cons _ (List.Sublist.cons _ (List.Sublist.cons _ (List.Sublist.cons_cons _ (List.Sublist.cons _ (List.Sublist.cons _ (List.Sublist.cons _ (List.Sublist.cons _ (List.Sublist.cons _ (List.Sublist.cons _ List.Sublist.slnil)))))))))))) (List.Sublist.cons _ (List.Sublist.cons_cons _ (List.Sublist.cons _ (List.Sublist.cons _ (List.Sublist.cons _ (List.Sublist.cons_cons _ (List.Sublist.cons _ (List.Sublist.cons _ (List.Sublist.cons _ (List.Sublist.cons _ (List.Sublist.cons _ (List.Sublist.cons _ List.Sublist.slnil))))))))))))
      refine WpA.tF 0 rfl (V.mv) ?_
      refine WpA.tF 1 rfl (V.nc) ?_
      refine WpA.tF 2 rfl (V.fa tb) ?_
      refine WpA.tF 3 rfl (V.ld1 tb) ?_
      refine WpA.tF 4 rfl (V.mv) ?_
      refine WpA.tF 5 rfl (V.ldA tb) ?_
      refine WpA.tF 6 rfl (V.ixR tb rfl rfl (by assumption)) ?_
      refine WpA.oS 7 rfl (O.stRowA tb (f := rpC) (a := (⟨d.Number, y.err, y.val, y.ver, y.keys, .slice _ _ _⟩ : LV)) rfl rfl (by repeat first | exact Upd.here _ _ _ | apply Upd.there) rfl (by omega) rpC.len rpC.ones ⟨?_, ?_, ?_⟩)
      exact holdT
      exact holdT
      refine WpA.ou ?_
      apply Out.seqN
      apply Wp.seq
      apply Wp.region
      refine WpL.v (V.ldA tb) ?_
      refine WpL.o (O.stA tb ?_)
      apply WpL.nil
      apply Out.seqN
      apply Wp.ret
      apply Out.seqR
      refine Out.e1 rfl (ResIs.ca tb) ?_
      focus (exact ⟨_, _, ⟨_, _, _, _, _, _, _, _, rfl, rfl⟩, (by (repeat (first | exact Sel.nil | exact Rem.here | apply Sel.cons | apply Rem.there)))⟩; done)
      (try simp only [decide_eq_true_eq, decide_eq_false_iff_not, Bool.not_eq_true', Bool.not_eq_false', Bool.not_eq_true, Bool.not_eq_false, not_true_eq_false, not_false_eq_true, reduceCtorEq] at h11)
      (exfalso; omega)
    · rintro r σ' ⟨ao, len, cap, ks, vs, ns, nums, reps, rfl, rfl⟩
      exact ⟨ao, len, cap, ks, vs, ns, ids, nums, reps, _, g, hdm _, rfl, by rw [e1, e2, e3]⟩
  · have ha : acts s d = false := decide_eq_false (fun h => by rcases h with h | h; exact h0 h; rw [hgt1] at h; exact h1 h)
    rw [doC_rest hg ha]
    unfold repC
    rw [hgt1, hgt2]
    unfold DmPost dmE
    refine Ct.enter Try.func36 rfl rfl fun W => ?_
    refine Wp.fact (KR.of_bag (g := g) hxm (by repeat first | exact List.Mem.head _ | apply List.Mem.tail)) fun hK0 => ?_
    have hK1 := hK0
    obtain ⟨ao0, cap0, bk0, off0, rfl, hRd0⟩ := hK1
    refine Wp.fact (rowOwn (f := i64c) (v := nums) (l := T.map (·.2.num)) (E := 3) (sz := 1) (by repeat first | exact List.Mem.head _ | apply List.Mem.tail) (by omega)) fun hv => ?_
    obtain ⟨g1, cap1, rfl, hc1⟩ := hv
    refine Wp.fact (rowOwn (f := rpC) (v := reps) (l := T.map (·.2)) (E := 39) (sz := 4) (by repeat first | exact List.Mem.head _ | apply List.Mem.tail) (by omega)) fun hv => ?_
    obtain ⟨g2, cap2, rfl, hc2⟩ := hv
    have hR1 := Rd.rows (f := i64c) (g := g1) (E := 3) (sz := 1) (cap := cap1) (l := T.map (·.2.num)) (fun _ => rfl) (by simp only [Go.maxLen] at hc1; omega)
    have hR2 := Rd.rows (f := rpC) (g := g2) (E := 39) (sz := 4) (cap := cap2) (l := T.map (·.2)) rpC.len (by simp only [Go.maxLen] at hc2; omega)
    by_cases h2 : d.Number < num0
    · rw [if_pos h2]
      apply Wp.seq
      apply Wp.region
      refine WpL.o (O.bxA (fun p3 => ?_))
      refine WpL.o (O.al tb (fun p4 => ?_))
      apply WpL.nil
      apply Out.seqN
      apply Wp.seq
      apply Wp.seq
      apply Wp.region
      refine WpL.v (V.ldA tb) ?_
      refine WpL.o (Op1.fn rfl (hG) ?_)
      refine WpL.v (V.not) ?_
      apply WpL.nil
      apply Out.seqN
      refine Wp.cF ?_
      apply Wp.skip
      apply Out.seqN
      apply Wp.seq
      apply Wp.seq
      apply Wp.region
      refine WpL.v (V.fa tb) ?_
      refine WpL.v (V.ld1 tb) ?_
      refine WpL.v (V.cmp) ?_
      apply WpL.nil
      apply Out.seqN
      refine Wp.c (fun h0 => ?_) (fun h0 => ?_)
      (try simp only [decide_eq_true_eq, decide_eq_false_iff_not, Bool.not_eq_true', Bool.not_eq_false', Bool.not_eq_true, Bool.not_eq_false, not_true_eq_false, not_false_eq_true, reduceCtorEq] at h0)
      (exfalso; omega)
      (try simp only [decide_eq_true_eq, decide_eq_false_iff_not, Bool.not_eq_true', Bool.not_eq_false', Bool.not_eq_true, Bool.not_eq_false, not_true_eq_false, not_false_eq_true, reduceCtorEq] at h0)
      apply Wp.skip
      apply Out.seqN
      apply Wp.seq
      apply Wp.region
      refine WpL.v (V.mv) ?_
      refine WpL.v (V.fa tb) ?_
      refine WpL.v (V.ld1 tb) ?_
      refine WpL.o (Op1.callT rfl (hAt) (by (repeat (first | exact Sel.nil | exact Rem.here | apply Sel.cons | apply Rem.there))) ?_)
      rintro v1 s2 ⟨rfl, rfl⟩
      refine incat ?_
      refine WpL.v (V.as) ?_
      apply WpL.nil
      apply Out.seqN
      apply Wp.seq
      apply Wp.seq
      refine Wp.dG [] ?_ (List.Sublist.cons_cons _ (List.Sublist.cons_cons _ (List.Sublist.cons _ (List.Sublist.cons_cons _ (List.Sublist.cons_cons _ (List.Sublist.cons_cons _ (List.Sublist.cons_cons _ (List.Sublist.cons_cons _ (List.Sublist.cons_cons _ (List.Sublist.cons_cons _ List.Sublist.slnil)))))))))) (List.Sublist.cons_cons _ (List.Sublist.cons_cons _ (List.Sublist.cons _ (List.Sublist.cons_cons _ (List.Sublist.cons_cons _ (List.Sublist.cons_cons _ (List.Sublist.cons_cons _ (List.Sublist.cons_cons _ (List.Sublist.cons_cons _ (List.Sublist.cons_cons _ List.Sublist.slnil))))))))))
      refine WpA.tF 0 rfl (V.mv) ?_
      refine WpA.tF 1 rfl (V.cmp) ?_
      refine WpA.tF 2 rfl (V.mv) ?_
      refine WpA.pt 33 (fun h3 => ?_) (fun h3 => ?_)
      (try simp only [decide_eq_true_eq, decide_eq_false_iff_not, Bool.not_eq_true', Bool.not_eq_false', Bool.not_eq_true, Bool.not_eq_false, not_true_eq_false, not_false_eq_true, reduceCtorEq] at h3)
      refine WpA.tF 3 rfl (V.fa tb) ?_
      refine WpA.tF 4 rfl (V.ld1 tb) ?_
      refine WpA.tF 5 rfl (V.mv) ?_
      refine WpA.tF 6 rfl (V.nc) ?_
      refine WpA.tF 7 rfl (V.fa tb) ?_
      refine WpA.tF 8 rfl (V.ld1 tb) ?_
      refine WpA.tF 9 rfl (V.mv) ?_
      refine WpA.tF 10 rfl (V.ixR tb rfl rfl (by assumption)) ?_
      refine WpA.tF 11 rfl (V.ldR1 tb rfl hR1 (getMapS hq1)) ?_
      refine WpA.tF 12 rfl (V.cmp) ?_
      refine WpA.tF 13 rfl (V.pT) ?_
      refine WpA.ou ?_
      apply Out.seqN
      refine Wp.c (fun h4 => ?_) (fun h4 => ?_)
      (try simp only [decide_eq_true_eq, decide_eq_false_iff_not, Bool.not_eq_true', Bool.not_eq_false', Bool.not_eq_true, Bool.not_eq_false, not_true_eq_false, not_false_eq_true, reduceCtorEq] at h4)
      apply Wp.seq
      apply Wp.region
      refine WpL.v (V.bld tb) ?_
      refine WpL.o (O.stA tb ?_)
      apply WpL.nil
      apply Out.seqN
      apply Wp.ret
      apply Out.seqR
      refine Out.e1 rfl (ResIs.ca tb) ?_
      focus (exact ⟨_, _, ⟨none, 0, 0, ks, vs, ns, ids, _, _, T, g, hd, ⟨none, 0, 0, 0, rfl, Rd.nil⟩, rfl, rfl⟩, (by (repeat (first | exact Sel.nil | exact Rem.here | apply Sel.cons | apply Rem.there)))⟩; done)
      (try simp only [decide_eq_true_eq, decide_eq_false_iff_not, Bool.not_eq_true', Bool.not_eq_false', Bool.not_eq_true, Bool.not_eq_false, not_true_eq_false, not_false_eq_true, reduceCtorEq] at h4)
      (exfalso; omega)
      (try simp only [decide_eq_true_eq, decide_eq_false_iff_not, Bool.not_eq_true', Bool.not_eq_false', Bool.not_eq_true, Bool.not_eq_false, not_true_eq_false, not_false_eq_true, reduceCtorEq] at h3)
      (exfalso; omega)
    · rw [if_neg h2]
      apply Wp.seq
      apply Wp.region
      refine WpL.o (O.bxA (fun p3 => ?_))
      refine WpL.o (O.al tb (fun p4 => ?_))
      apply WpL.nil
      apply Out.seqN
      apply Wp.seq
      apply Wp.seq
      apply Wp.region
      refine WpL.v (V.ldA tb) ?_
      refine WpL.o (Op1.fn rfl (hG) ?_)
      refine WpL.v (V.not) ?_
      apply WpL.nil
      apply Out.seqN
      refine Wp.cF ?_
      apply Wp.skip
      apply Out.seqN
      apply Wp.seq
      apply Wp.seq
      apply Wp.region
      refine WpL.v (V.fa tb) ?_
      refine WpL.v (V.ld1 tb) ?_
      refine WpL.v (V.cmp) ?_
      apply WpL.nil
      apply Out.seqN
      refine Wp.c (fun h0 => ?_) (fun h0 => ?_)
      (try simp only [decide_eq_true_eq, decide_eq_false_iff_not, Bool.not_eq_true', Bool.not_eq_false', Bool.not_eq_true, Bool.not_eq_false, not_true_eq_false, not_false_eq_true, reduceCtorEq] at h0)
      (exfalso; omega)
      (try simp only [decide_eq_true_eq, decide_eq_false_iff_not, Bool.not_eq_true', Bool.not_eq_false', Bool.not_eq_true, Bool.not_eq_false, not_true_eq_false, not_false_eq_true, reduceCtorEq] at h0)
      apply Wp.skip
      apply Out.seqN
      apply Wp.seq
      apply Wp.region
      refine WpL.v (V.mv) ?_
      refine WpL.v (V.fa tb) ?_
      refine WpL.v (V.ld1 tb) ?_
      refine WpL.o (Op1.callT rfl (hAt) (by (repeat (first | exact Sel.nil | exact Rem.here | apply Sel.cons | apply Rem.there))) ?_)
      rintro v1 s2 ⟨rfl, rfl⟩
      refine incat ?_
      refine WpL.v (V.as) ?_
      apply WpL.nil
      apply Out.seqN
      apply Wp.seq
      apply Wp.seq
      refine Wp.dG [] ?_ (List.Sublist.cons_cons _ (List.Sublist.cons_cons _ (List.Sublist.cons _ (List.Sublist.cons_cons _ (List.Sublist.cons_cons _ (List.Sublist.cons_cons _ (List.Sublist.cons_cons _ (List.Sublist.cons_cons _ (List.Sublist.cons_cons _ (List.Sublist.cons_cons _ List.Sublist.slnil)))))))))) (List.Sublist.cons_cons _ (List.Sublist.cons_cons _ (List.Sublist.cons _ (List.Sublist.cons_cons _ (List.Sublist.cons_cons _ (List.Sublist.cons_cons _ (List.Sublist.cons_cons _ (List.Sublist.cons_cons _ (List.Sublist.cons_cons _ (List.Sublist.cons_cons _ List.Sublist.slnil))))))))))
      refine WpA.tF 0 rfl (V.mv) ?_
      refine WpA.tF 1 rfl (V.cmp) ?_
      refine WpA.tF 2 rfl (V.mv) ?_
      refine WpA.pt 33 (fun h3 => ?_) (fun h3 => ?_)
      (try simp only [decide_eq_true_eq, decide_eq_false_iff_not, Bool.not_eq_true', Bool.not_eq_false', Bool.not_eq_true, Bool.not_eq_false, not_true_eq_false, not_false_eq_true, reduceCtorEq] at h3)
      refine WpA.tF 3 rfl (V.fa tb) ?_
      refine WpA.tF 4 rfl (V.ld1 tb) ?_
      refine WpA.tF 5 rfl (V.mv) ?_
      refine WpA.tF 6 rfl (V.nc) ?_
      refine WpA.tF 7 rfl (V.fa tb) ?_
      refine WpA.tF 8 rfl (V.ld1 tb) ?_
      refine WpA.tF 9 rfl (V.mv) ?_
      refine WpA.tF 10 rfl (V.ixR tb rfl rfl (by assumption)) ?_
      refine WpA.tF 11 rfl (V.ldR1 tb rfl hR1 (getMapS hq1)) ?_
      refine WpA.tF 12 rfl (V.cmp) ?_
      refine WpA.tF 13 rfl (V.pT) ?_
      refine WpA.ou ?_
      apply Out.seqN
      refine Wp.c (fun h4 => ?_) (fun h4 => ?_)
      (try simp only [decide_eq_true_eq, decide_eq_false_iff_not, Bool.not_eq_true', Bool.not_eq_false', Bool.not_eq_true, Bool.not_eq_false, not_true_eq_false, not_false_eq_true, reduceCtorEq] at h4)
      (exfalso; omega)
      (try simp only [decide_eq_true_eq, decide_eq_false_iff_not, Bool.not_eq_true', Bool.not_eq_false', Bool.not_eq_true, Bool.not_eq_false, not_true_eq_false, not_false_eq_true, reduceCtorEq] at h4)
      apply Wp.skip
      apply Out.seqN
      apply Wp.seq
      apply Wp.seq
      refine Wp.dG [] ?_ (List.Sublist.cons_cons _ (List.Sublist.cons_cons _ (List.Sublist.cons _ (List.Sublist.cons_cons _ (List.Sublist.cons_cons _ (List.Sublist.cons_cons _ (List.Sublist.cons_cons _ (List.Sublist.cons_cons _ (List.Sublist.cons_cons _ (List.Sublist.cons_cons _ List.Sublist.slnil)))))))))) (List.Sublist.cons_cons _ (List.Sublist.cons_cons _ (List.Sublist.cons _ (List.Sublist.cons_cons _ (List.Sublist.cons_cons _ (List.Sublist.cons_cons _ (List.Sublist.cons_cons _ (List.Sublist.cons_cons _ (List.Sublist.cons_cons _ (List.Sublist.cons_cons _ List.Sublist.slnil))))))))))
      refine WpA.tF 0 rfl (V.mv) ?_
      refine WpA.tF 1 rfl (V.cmp) ?_
      refine WpA.tF 2 rfl (V.mv) ?_
      refine WpA.pt 48 (fun h5 => ?_) (fun h5 => ?_)
      (try simp only [decide_eq_true_eq, decide_eq_false_iff_not, Bool.not_eq_true', Bool.not_eq_false', Bool.not_eq_true, Bool.not_eq_false, not_true_eq_false, not_false_eq_true, reduceCtorEq] at h5)
      refine WpA.tF 3 rfl (V.fa tb) ?_
      refine WpA.tF 4 rfl (V.ld1 tb) ?_
      refine WpA.tF 5 rfl (V.mv) ?_
      refine WpA.tF 6 rfl (V.nc) ?_
      refine WpA.tF 7 rfl (V.fa tb) ?_
      refine WpA.tF 8 rfl (V.ld1 tb) ?_
      refine WpA.tF 9 rfl (V.mv) ?_
      refine WpA.tF 10 rfl (V.ixR tb rfl rfl (by assumption)) ?_
      refine WpA.tF 11 rfl (V.ldR1 tb rfl hR1 (getMapS hq1)) ?_
      refine WpA.tF 12 rfl (V.cmp) ?_
      refine WpA.tF 13 rfl (V.pT) ?_
      refine WpA.ou ?_
      apply Out.seqN
      refine Wp.c (fun h6 => ?_) (fun h6 => ?_)
      (try simp only [decide_eq_true_eq, decide_eq_false_iff_not, Bool.not_eq_true', Bool.not_eq_false', Bool.not_eq_true, Bool.not_eq_false, not_true_eq_false, not_false_eq_true, reduceCtorEq] at h6)
      apply Wp.seq
      apply Wp.region
      refine WpL.v (V.mv) ?_
      refine WpL.v (V.nc) ?_
      refine WpL.v (V.fa tb) ?_
      refine WpL.v (V.ld1 tb) ?_
      refine WpL.v (V.mv) ?_
      refine WpL.v (V.ixR tb rfl rfl (by assumption)) ?_
      refine WpL.v (V.ldRA tb rfl hR2 (getMapS hq2)) ?_
      refine WpL.o (O.stA tb ?_)
      apply WpL.nil
      apply Out.seqN
      apply Wp.ret
      apply Out.seqR
      refine Out.e1 rfl (ResIs.ca tb) ?_
      focus (exact ⟨_, _, ⟨ao0, _, cap0, ks, vs, ns, ids, _, _, T, g, hd, hK0, rfl, rfl⟩, (by (repeat (first | exact Sel.nil | exact Rem.here | apply Sel.cons | apply Rem.there)))⟩; done)
      (try simp only [decide_eq_true_eq, decide_eq_false_iff_not, Bool.not_eq_true', Bool.not_eq_false', Bool.not_eq_true, Bool.not_eq_false, not_true_eq_false, not_false_eq_true, reduceCtorEq] at h6)
      (exfalso; omega)
      (try simp only [decide_eq_true_eq, decide_eq_false_iff_not, Bool.not_eq_true', Bool.not_eq_false', Bool.not_eq_true, Bool.not_eq_false, not_true_eq_false, not_false_eq_true, reduceCtorEq] at h5)
      (exfalso; omega)
      (try simp only [decide_eq_true_eq, decide_eq_false_iff_not, Bool.not_eq_true', Bool.not_eq_false', Bool.not_eq_true, Bool.not_eq_false, not_true_eq_false, not_false_eq_true, reduceCtorEq] at h3)
      (exfalso; omega)
end Go.Proofs.Ytgihkocnmgkihaa
