/-
  Layer 21: the document's machine: a deed of a session that is new; any deed.
-/
import Derived.Test.YtgihkocnmgkihaaDm3
namespace Go.Proofs.Ytgihkocnmgkihaa
open Go.HL
set_option linter.unusedSimpArgs false
set_option linter.unusedVariables false
set_option maxRecDepth 8000
theorem Rd.suffix {e : Ent} {ao : Option Go.Addr} {len b off sz i cap : Nat} {xs : List (List Go.Value)} (h : Rd e ao len b off sz xs) (hi : i ≤ len) (hc : len ≤ cap) : Rd e (Go.HL.partAt ao cap i sz) (len - i) b (off + i * sz) sz (xs.drop i) := by
  refine ⟨by rw [List.length_drop, h.length], Nat.le_trans (Nat.sub_le _ _) h.small, fun hp => ?_, fun w hw j x hx => ?_⟩
  · rw [h.addr (by omega)]
    unfold Go.HL.partAt
    rw [if_neg (by omega)]
    simp [Go.Addr.add_mid]
  · rw [List.getElem?_drop] at hx
    obtain ⟨h1, h2⟩ := h.reads w hw (i + j) x hx
    refine ⟨h1, fun k u hu => ?_⟩
    have := h2 k u hu
    rw [Nat.add_mul] at this
    rwa [show off + i * sz + j * sz + k = off + (i * sz + j * sz) + k by omega]
theorem Rd.prefix {e : Ent} {ao : Option Go.Addr} {len b off sz j : Nat} {xs : List (List Go.Value)} (h : Rd e ao len b off sz xs) (hj : j ≤ len) : Rd e ao j b off sz (xs.take j) := by
  refine ⟨by rw [List.length_take, h.length]; omega, Nat.le_trans hj h.small, fun hp => h.addr (by omega), fun w hw k x hx => ?_⟩
  rw [List.getElem?_take] at hx
  split at hx
  · exact h.reads w hw k x hx
  · cases hx
theorem rowsRdC {α : Type} {f : α → List Go.Value} {W : Go.World} {D : List Nat} {σ : List Ent} {v : Go.Value} {E sz : Nat} {l : List α} (hz : ∀ x, (f x).length = sz) (hm : rows f v E sz l ∈ σ) :
    ∀ w, H W D σ w → ∃ ao cap b, v = .slice ao l.length cap ∧ l.length ≤ cap ∧ Rd (rows f (.slice ao l.length cap) E sz l) ao l.length b 0 sz (l.map f) := fun w hw => by
  rcases rowsForm hm w hw with ⟨rfl, rfl⟩ | ⟨g, cap, rfl, h1, h2⟩
  · exact ⟨none, 0, 0, rfl, Nat.le_refl _, Rd.nil⟩
  · exact ⟨some ⟨g, 0, none⟩, cap, g, rfl, h1, Rd.rows hz (by simp only [Go.maxLen] at h2; omega)⟩
section
variable {P : Go.Program} {α : Type} {f : α → List Go.Value}
theorem SrcL.upTo (tb : Tabs P) {e : Ent} {tx e' sz cap b off k : Nat} {ao : Option Go.Addr} {l : List α} (hR : Rd e ao l.length b off sz (l.map f)) (hk : k ≤ l.length) (h1 : Ones f) (hz : ∀ x, (f x).length = sz) (ht : lk1 tb.slc tx = some e' := by exact rfl) (σ : List Ent) (hm : e ∈ σ) : SrcL P σ f sz tx (.slice ao k cap) (l.take k) := by
  have hp := Rd.prefix hR hk
  rw [← List.map_take] at hp
  have hpl : (l.take k).length = k := by rw [List.length_take]; omega
  have hp2 : Rd e ao (l.take k).length b off sz ((l.take k).map f) := by rw [hpl]; exact hp
  have := SrcL.rdz (tx := tx) (cap := cap) tb hp2 hm h1 hz ht
  rwa [hpl] at this
theorem SrcL.from (tb : Tabs P) {e : Ent} {tx e' sz cap cap' b off k : Nat} {ao : Option Go.Addr} {l : List α} (hR : Rd e ao l.length b off sz (l.map f)) (hk : k ≤ l.length) (hc : l.length ≤ cap) (h1 : Ones f) (hz : ∀ x, (f x).length = sz) (ht : lk1 tb.slc tx = some e' := by exact rfl) (σ : List Ent) (hm : e ∈ σ) : SrcL P σ f sz tx (.slice (Go.HL.partAt ao cap k sz) (l.length - k) cap') (l.drop k) := by
  have hp := Rd.suffix hR hk hc
  rw [← List.map_drop] at hp
  have hpl : (l.drop k).length = l.length - k := List.length_drop
  rw [← hpl] at hp
  have := SrcL.rdz (tx := tx) (cap := cap') tb hp hm h1 hz ht
  rwa [hpl] at this
end
set_option maxHeartbeats 8000000 in
theorem dm_new (b : Nat) (ks vs ns ids nums reps : Go.Value) (n : Nat) (s : CS) (T : SM) (g : GB) (d : TDeed) (hi : CI n s) (hd : DM s.ss T g) (hn : n ≤ 10000) (hg : goodD d = true) (h0 : d.Session ≠ 0) (hm : mget s.ss d.Session = none) :
    Ct Try.prog 36 [Ptr b 0, A d.c] (dmE b ks vs ns ids nums reps s.l T g s.cnt) (DmPost b (doC s d).2 (doC s d).1) := by
  have hG := ref_good d
  rw [hg] at hG
  have hnone := hd.none hm
  have hgt1 : (s.get d.Session).1 = 0 := by unfold CS.get; rw [hm]; rfl
  have hnum := good_num hg
  rw [doC_act hg (decide_eq_true (.inr (by rw [hgt1]; omega)))]
  have hu : updC s.ss d (doA s.l d).rv = mput s.ss d.Session (d.Number, (doA s.l d).rv) := by unfold updC; rw [if_neg h0]
  rw [hu]
  have hAt := dm_at_no b ks vs ns ids nums reps s.cnt T d.Session hnone
  have hA := fun (ids nums reps : Go.Value) => ref_any b 65 [ids, nums, reps, I (s.cnt + 1)] ks vs ns n s.l d hi.reg hn
  have hcn := hi.cnt
  have hTl : T.length ≤ 10000 := by
    have h1 := congrArg List.length (hd.ids hi)
    rw [List.length_map, idsC_len] at h1
    have := hi.len
    omega
  have hdm : ∀ (k : Nat) (v : Go.Value), Spot T d.Session k → DM (mput s.ss d.Session (d.Number, (doA s.l d).rv)) (T.take k ++ (d.Session, ⟨d.Number, (doA s.l d).err, (doA s.l d).val, (doA s.l d).ver, (doA s.l d).keys, v⟩) :: T.drop k) ((v, (doA s.l d).keys) :: g) := fun k v hs =>
    (hd.more (v, (doA s.l d).keys)).ins hs hnone (⟨d.Number, (doA s.l d).err, (doA s.l d).val, (doA s.l d).ver, (doA s.l d).keys, v⟩ : LV) List.mem_cons_self
  have hl1 : (T.map (·.1)).length = T.length := List.length_map ..
  have hl2 : (T.map (·.2.num)).length = T.length := List.length_map ..
  have hl3 : (T.map (·.2)).length = T.length := List.length_map ..
  refine DmMid.post ?_
  unfold dmE
  unfold rfE at hA
  unfold DR.rv at *
  dsimp only at *
  generalize doA s.l d = y at *
  refine Ct.mono (R := fun r σ' => ∃ ao len cap ks vs ns ids nums reps k, Spot T d.Session k ∧ r = A (Caucusref20Reply.c ⟨y.err, y.val, y.ver, .slice ao len cap⟩) ∧ σ' = [rows strc (.slice ao len cap) 9 1 y.keys, gE g, cells b 65 [ks, vs, ns, ids, nums, reps, I (s.cnt + 1)], rows strc ks 9 1 ((canon y.l).map (·.Key)), rows strc vs 9 1 ((canon y.l).map (·.Value)), rows i64c ns 3 1 ((canon y.l).map (·.Version)), rows i64c ids 3 1 ((T.map (·.1)).take k ++ [d.Session] ++ (T.map (·.1)).drop k), rows i64c nums 3 1 ((T.map (·.2.num)).take k ++ [d.Number] ++ (T.map (·.2.num)).drop k), rows rpC reps 39 4 ((T.map (·.2)).take k ++ [(⟨d.Number, y.err, y.val, y.ver, y.keys, .slice ao len cap⟩ : LV)] ++ (T.map (·.2)).drop k)]) ?_ ?_
  · refine Ct.enter Try.func36 rfl rfl fun W => ?_
    refine Wp.fact (rowsRdC (f := i64c) (v := ids) (l := T.map (·.1)) (E := 3) (sz := 1) (fun _ => rfl) (by repeat first | exact List.Mem.head _ | apply List.Mem.tail)) fun hv => ?_
    obtain ⟨ao1, cap1, bk1, rfl, hc1, hR1⟩ := hv
    refine Wp.fact (rowsRdC (f := i64c) (v := nums) (l := T.map (·.2.num)) (E := 3) (sz := 1) (fun _ => rfl) (by repeat first | exact List.Mem.head _ | apply List.Mem.tail)) fun hv => ?_
    obtain ⟨ao2, cap2, bk2, rfl, hc2, hR2⟩ := hv
    refine Wp.fact (rowsRdC (f := rpC) (v := reps) (l := T.map (·.2)) (E := 39) (sz := 4) rpC.len (by repeat first | exact List.Mem.head _ | apply List.Mem.tail)) fun hv => ?_
    obtain ⟨ao3, cap3, bk3, rfl, hc3, hR3⟩ := hv
    have hA := hA (.slice ao1 (T.map (·.1)).length cap1) (.slice ao2 (T.map (·.2.num)).length cap2) (.slice ao3 (T.map (·.2)).length cap3)
    apply Wp.seq
    apply Wp.region
    refine WpL.o (O.bxA (fun p3 => ?_))
    refine WpL.o (O.al tb (fun p4 => ?_))
    apply WpL.nil
    apply Out.seqN
    apply Wp.seq
    apply Wp.seq
    apply Wp.region
    refine WpL.v (V.ldA tb) ?_
    refine WpL.o (Op1.fn rfl (hG) ?_)
    refine WpL.v (V.not) ?_
    apply WpL.nil
    apply Out.seqN
    refine Wp.cF ?_
    apply Wp.skip
    apply Out.seqN
    apply Wp.seq
    apply Wp.seq
    apply Wp.region
    refine WpL.v (V.fa tb) ?_
    refine WpL.v (V.ld1 tb) ?_
    refine WpL.v (V.cmp) ?_
    apply WpL.nil
    apply Out.seqN
    refine Wp.c (fun h0 => ?_) (fun h0 => ?_)
    (try simp only [decide_eq_true_eq, decide_eq_false_iff_not, Bool.not_eq_true', Bool.not_eq_false', Bool.not_eq_true, Bool.not_eq_false, not_true_eq_false, not_false_eq_true, reduceCtorEq] at h0)
    (exfalso; omega)
    (try simp only [decide_eq_true_eq, decide_eq_false_iff_not, Bool.not_eq_true', Bool.not_eq_false', Bool.not_eq_true, Bool.not_eq_false, not_true_eq_false, not_false_eq_true, reduceCtorEq] at h0)
    apply Wp.skip
    apply Out.seqN
    apply Wp.seq
    apply Wp.region
    refine WpL.v (V.mv) ?_
    refine WpL.v (V.fa tb) ?_
    refine WpL.v (V.ld1 tb) ?_
    refine WpL.o (Op1.callT rfl (hAt) (by (repeat (first | exact Sel.nil | exact Rem.here | apply Sel.cons | apply Rem.there))) ?_)
    rintro v1 s2 ⟨rfl, rfl⟩
    refine incat ?_
    refine WpL.v (V.as) ?_
    apply WpL.nil
    apply Out.seqN
    apply Wp.seq
    apply Wp.seq
    refine Wp.dG [] ?_ (List.Sublist.cons_cons _ (List.Sublist.cons_cons _ (List.Sublist.cons _ (List.Sublist.cons_cons _ (List.Sublist.cons_cons _ (List.Sublist.cons_cons _ (List.Sublist.cons_cons _ (List.Sublist.cons_cons _ (List.Sublist.cons_cons _ (List.Sublist.cons_cons _ List.Sublist.slnil)))))))))) (List.Sublist.cons_cons _ (List.Sublist.cons_cons _ (List.Sublist.cons _ (List.Sublist.cons_cons _ (List.Sublist.cons_cons _ (List.Sublist.cons_cons _ (List.Sublist.cons_cons _ (List.Sublist.cons_cons _ (List.Sublist.cons_cons _ (List.Sublist.cons_cons _ List.Sublist.slnil))))))))))
    refine WpA.tF 0 rfl (V.mv) ?_
    refine WpA.tF 1 rfl (V.cmp) ?_
    refine WpA.tF 2 rfl (V.mv) ?_
    refine WpA.s 3 rfl ?_
    refine WpA.s 4 rfl ?_
    refine WpA.s 5 rfl ?_
    refine WpA.s 6 rfl ?_
    refine WpA.s 7 rfl ?_
    refine WpA.s 8 rfl ?_
    refine WpA.s 9 rfl ?_
    refine WpA.s 10 rfl ?_
    refine WpA.s 11 rfl ?_
    refine WpA.s 12 rfl ?_
    refine WpA.tF 13 rfl (V.pF) ?_
    refine WpA.ou ?_
    apply Out.seqN
    refine Wp.cF ?_
    apply Wp.skip
    apply Out.seqN
    apply Wp.seq
    apply Wp.seq
    refine Wp.dG [] ?_ (List.Sublist.cons_cons _ (List.Sublist.cons_cons _ (List.Sublist.cons _ (List.Sublist.cons_cons _ (List.Sublist.cons_cons _ (List.Sublist.cons_cons _ (List.Sublist.cons_cons _ (List.Sublist.cons_cons _ (List.Sublist.cons_cons _ (List.Sublist.cons_cons _ List.Sublist.slnil)))))))))) (List.Sublist.cons_cons _ (List.Sublist.cons_cons _ (List.Sublist.cons _ (List.Sublist.cons_cons _ (List.Sublist.cons_cons _ (List.Sublist.cons_cons _ (List.Sublist.cons_cons _ (List.Sublist.cons_cons _ (List.Sublist.cons_cons _ (List.Sublist.cons_cons _ List.Sublist.slnil))))))))))
    refine WpA.tF 0 rfl (V.mv) ?_
    refine WpA.tF 1 rfl (V.cmp) ?_
    refine WpA.tF 2 rfl (V.mv) ?_
    refine WpA.s 3 rfl ?_
    refine WpA.s 4 rfl ?_
    refine WpA.s 5 rfl ?_
    refine WpA.s 6 rfl ?_
    refine WpA.s 7 rfl ?_
    refine WpA.s 8 rfl ?_
    refine WpA.s 9 rfl ?_
    refine WpA.s 10 rfl ?_
    refine WpA.s 11 rfl ?_
    refine WpA.s 12 rfl ?_
    refine WpA.tF 13 rfl (V.pF) ?_
    refine WpA.ou ?_
    apply Out.seqN
    refine Wp.cF ?_
    apply Wp.skip
    apply Out.seqN
    apply Wp.seq
    apply Wp.region
    refine WpL.v (V.mv) ?_
    refine WpL.v (V.nc) ?_
    refine WpL.v (V.fa tb) ?_
    refine WpL.v (V.ld1 tb) ?_
    refine WpL.v (V.add) ?_
    refine WpL.v (V.nc) ?_
    refine WpL.v (V.fa tb) ?_
    refine WpL.o (O.st1 tb ?_)
    apply WpL.nil
    apply Out.seqN
    refine Wp.mt [5, 4, 3, 0] (fun (z : (Option Go.Addr × Nat × Nat) × Go.Value × Go.Value × Go.Value × Nat) => True) (fun z => [(6, Ptr z.2.2.2.2 0)]) (fun z => [cells z.2.2.2.2 39 (Caucusref20Reply.c ⟨y.err, y.val, y.ver, .slice z.1.1 z.1.2.1 z.1.2.2⟩), rows strc (.slice z.1.1 z.1.2.1 z.1.2.2) 9 1 y.keys, cells b 65 [z.2.1, z.2.2.1, z.2.2.2.1, .slice ao1 (T.map (·.1)).length cap1, .slice ao2 (T.map (·.2.num)).length cap2, .slice ao3 (T.map (·.2)).length cap3, I (s.cnt + 1)], rows strc z.2.1 9 1 ((canon y.l).map (·.Key)), rows strc z.2.2.1 9 1 ((canon y.l).map (·.Value)), rows i64c z.2.2.2.1 3 1 ((canon y.l).map (·.Version))]) (σ1 := [cells b 65 [ks, vs, ns, .slice ao1 (T.map (·.1)).length cap1, .slice ao2 (T.map (·.2.num)).length cap2, .slice ao3 (T.map (·.2)).length cap3, I (s.cnt + 1)], rows strc ks 9 1 ((canon s.l).map (·.Key)), rows strc vs 9 1 ((canon s.l).map (·.Value)), rows i64c ns 3 1 ((canon s.l).map (·.Version))]) ?_ ?_
    · intro K2 hK2
      refine Wp.dG [] ?_ (List.Sublist.cons _ (List.Sublist.cons _ (List.Sublist.cons _ (List.Sublist.cons_cons _ (List.Sublist.cons _ (List.Sublist.cons _ (List.Sublist.cons _ (List.Sublist.cons _ (List.Sublist.cons _ (List.Sublist.cons _ List.Sublist.slnil)))))))))) (List.Sublist.cons _ (List.Sublist.cons _ (List.Sublist.cons _ (List.Sublist.cons_cons _ (List.Sublist.cons _ (List.Sublist.cons _ (List.Sublist.cons _ (List.Sublist.cons _ (List.Sublist.cons _ (List.Sublist.cons _ List.Sublist.slnil))))))))))
      refine WpA.tF 0 rfl (V.mv) ?_
      refine WpA.tF 1 rfl (V.nc) ?_
      refine WpA.tF 2 rfl (V.fa tb) ?_
      refine WpA.tF 3 rfl (V.ldA tb) ?_
      refine WpA.e2 4 5 rfl rfl ?_ ?_
      refine Op1.callT rfl (hA) (by (repeat (first | exact Sel.nil | exact Rem.here | apply Sel.cons | apply Rem.there))) ?_
      rintro v0 s1 ⟨ao78, ⟨len78, ⟨cap78, ⟨ks'78, ⟨vs'78, ⟨ns'78, ⟨rfl, rfl⟩⟩⟩⟩⟩⟩⟩
      refine incat ⟨?_, ?_, ?_⟩
      exact holdT
      exact holdT
      refine WpA.oS 5 rfl (O.al tb (fun p6 => ⟨?_, ?_, ?_⟩))
      exact holdT
      exact holdT
      refine WpA.oS 6 rfl (O.stA tb ⟨?_, ?_, ?_⟩)
      exact holdT
      exact holdT
      refine WpA.ou ?_
      rotate_left
      refine O.al tb (fun p6 => ⟨?_, ?_, ?_⟩)
      exact holdT
      exact holdT
      refine WpA.oS 4 rfl (Op1.callT rfl (hA) (by (repeat (first | exact Sel.nil | exact Rem.here | apply Sel.cons | apply Rem.there))) ?_)
      rintro v8 s9 ⟨ao78_2, ⟨len78_3, ⟨cap78_4, ⟨ks'78_5, ⟨vs'78_6, ⟨ns'78_7, ⟨rfl, rfl⟩⟩⟩⟩⟩⟩⟩
      refine incat ⟨?_, ?_, ?_⟩
      exact holdT
      exact holdT
      refine WpA.oS 6 rfl (O.stA tb ⟨?_, ?_, ?_⟩)
      exact holdT
      exact holdT
      refine WpA.ou ?_
      rotate_left
      all_goals exact Out.ag hK2 ((_, _, _), _, _, _, _) trivial trivial
    · rintro ⟨⟨ao, len, cap⟩, ks2, vs2, ns2, q6⟩ _
      dsimp only
      dsimp only [List.cons_append, List.nil_append]
      apply Wp.seq
      apply Wp.seq
      apply Wp.region
      refine WpL.v (V.mv) ?_
      refine WpL.v (V.cmp) ?_
      apply WpL.nil
      apply Out.seqN
      refine Wp.cF ?_
      apply Wp.skip
      apply Out.seqN
      apply Wp.seq
      apply Wp.region
      refine WpL.v (V.as) ?_
      apply WpL.nil
      apply Out.seqN
      refine Wp.mt [6, 4, 3, 0] (fun k : Nat => Spot T d.Session k) (fun k => [(7, I (k : Int))]) (fun _ => []) (σ1 := []) ?_ ?_
      · intro K2 hK2
        apply Wp.block
        refine Wp.lp [6, 4, 3, 0] (fun k : Nat => k ≤ T.length ∧ ∀ (a : Nat) (p : Int × LV), a < k → T[a]? = some p → p.1 < d.Session) (fun k => [(7, I (k : Int))]) (fun _ => []) (fun k => T.length - k) 0 ⟨Nat.zero_le _, fun a p h => absurd h (Nat.not_lt_zero _)⟩ ?_
        rintro k ⟨hk, hlo⟩ K hK
        dsimp only [List.cons_append, List.nil_append]
        by_cases hlt : k < T.length
        · obtain ⟨q, hq⟩ := getS hlt
          have hq1 : (T.map (·.1))[k]? = some q.1 := by rw [List.getElem?_map, hq]; rfl
          by_cases hql : q.1 < d.Session
          · apply Wp.seq
            apply Wp.seq
            refine Wp.dG [] ?_ (List.Sublist.cons _ (List.Sublist.cons_cons _ (List.Sublist.cons_cons _ (List.Sublist.cons_cons _ (List.Sublist.cons_cons _ (List.Sublist.cons_cons _ (List.Sublist.cons_cons _ (List.Sublist.cons _ (List.Sublist.cons_cons _ (List.Sublist.cons_cons _ (List.Sublist.cons_cons _ (List.Sublist.cons_cons _ List.Sublist.slnil)))))))))))) (List.Sublist.cons _ (List.Sublist.cons_cons _ (List.Sublist.cons_cons _ (List.Sublist.cons_cons _ (List.Sublist.cons_cons _ (List.Sublist.cons_cons _ (List.Sublist.cons_cons _ (List.Sublist.cons _ (List.Sublist.cons_cons _ (List.Sublist.cons_cons _ (List.Sublist.cons_cons _ (List.Sublist.cons_cons _ List.Sublist.slnil))))))))))))
            refine WpA.tF 0 rfl (V.mv) ?_
            refine WpA.tF 1 rfl (V.mv) ?_
            refine WpA.tF 2 rfl (V.nc) ?_
            refine WpA.tF 3 rfl (V.fa tb) ?_
            refine WpA.tF 4 rfl (V.ld1 tb) ?_
            refine WpA.tF 5 rfl (V.lenL tb) ?_
            refine WpA.tF 6 rfl (V.cmp) ?_
            refine WpA.tF 7 rfl (V.mv) ?_
            refine WpA.pt 104 (fun h0 => ?_) (fun h0 => ?_)
            (try simp only [decide_eq_true_eq, decide_eq_false_iff_not, Bool.not_eq_true', Bool.not_eq_false', Bool.not_eq_true, Bool.not_eq_false, not_true_eq_false, not_false_eq_true, reduceCtorEq] at h0)
            refine WpA.tF 8 rfl (V.mv) ?_
            refine WpA.tF 9 rfl (V.nc) ?_
            refine WpA.tF 10 rfl (V.fa tb) ?_
            refine WpA.tF 11 rfl (V.ld1 tb) ?_
            refine WpA.tF 12 rfl (V.mv) ?_
            refine WpA.tF 13 rfl (V.ixR tb rfl rfl (by assumption)) ?_
            refine WpA.tF 14 rfl (V.ldR1 tb rfl hR1 (getMapS hq1)) ?_
            refine WpA.tF 15 rfl (V.fa tb) ?_
            refine WpA.tF 16 rfl (V.ld1 tb) ?_
            refine WpA.tF 17 rfl (V.cmp) ?_
            refine WpA.tF 18 rfl (V.pT) ?_
            refine WpA.ou ?_
            apply Out.seqN
            refine Wp.c (fun h1 => ?_) (fun h1 => ?_)
            (try simp only [decide_eq_true_eq, decide_eq_false_iff_not, Bool.not_eq_true', Bool.not_eq_false', Bool.not_eq_true, Bool.not_eq_false, not_true_eq_false, not_false_eq_true, reduceCtorEq] at h1)
            apply Wp.skip
            apply Out.seqN
            apply Wp.block
            apply Wp.region
            refine WpL.v (V.mv) ?_
            refine WpL.v (V.add) ?_
            refine WpL.v (V.as) ?_
            apply WpL.nil
            apply Out.blockN
            rotate_left
            (try simp only [decide_eq_true_eq, decide_eq_false_iff_not, Bool.not_eq_true', Bool.not_eq_false', Bool.not_eq_true, Bool.not_eq_false, not_true_eq_false, not_false_eq_true, reduceCtorEq] at h1)
            (exfalso; omega)
            (try simp only [decide_eq_true_eq, decide_eq_false_iff_not, Bool.not_eq_true', Bool.not_eq_false', Bool.not_eq_true, Bool.not_eq_false, not_true_eq_false, not_false_eq_true, reduceCtorEq] at h0)
            (exfalso; omega)
            exact Out.ag hK (k + 1) ⟨by omega, fun a p ha hp => by
              by_cases e : a = k
              · subst e
                rw [hq] at hp
                cases hp
                exact hql
              · exact hlo a p (by omega) hp⟩ (by omega)
          · apply Wp.seq
            apply Wp.seq
            refine Wp.dG [] ?_ (List.Sublist.cons _ (List.Sublist.cons_cons _ (List.Sublist.cons_cons _ (List.Sublist.cons_cons _ (List.Sublist.cons_cons _ (List.Sublist.cons_cons _ (List.Sublist.cons_cons _ (List.Sublist.cons _ (List.Sublist.cons_cons _ (List.Sublist.cons_cons _ (List.Sublist.cons_cons _ (List.Sublist.cons_cons _ List.Sublist.slnil)))))))))))) (List.Sublist.cons _ (List.Sublist.cons_cons _ (List.Sublist.cons_cons _ (List.Sublist.cons_cons _ (List.Sublist.cons_cons _ (List.Sublist.cons_cons _ (List.Sublist.cons_cons _ (List.Sublist.cons _ (List.Sublist.cons_cons _ (List.Sublist.cons_cons _ (List.Sublist.cons_cons _ (List.Sublist.cons_cons _ List.Sublist.slnil))))))))))))
            refine WpA.tF 0 rfl (V.mv) ?_
            refine WpA.tF 1 rfl (V.mv) ?_
            refine WpA.tF 2 rfl (V.nc) ?_
            refine WpA.tF 3 rfl (V.fa tb) ?_
            refine WpA.tF 4 rfl (V.ld1 tb) ?_
            refine WpA.tF 5 rfl (V.lenL tb) ?_
            refine WpA.tF 6 rfl (V.cmp) ?_
            refine WpA.tF 7 rfl (V.mv) ?_
            refine WpA.pt 104 (fun h0 => ?_) (fun h0 => ?_)
            (try simp only [decide_eq_true_eq, decide_eq_false_iff_not, Bool.not_eq_true', Bool.not_eq_false', Bool.not_eq_true, Bool.not_eq_false, not_true_eq_false, not_false_eq_true, reduceCtorEq] at h0)
            refine WpA.tF 8 rfl (V.mv) ?_
            refine WpA.tF 9 rfl (V.nc) ?_
            refine WpA.tF 10 rfl (V.fa tb) ?_
            refine WpA.tF 11 rfl (V.ld1 tb) ?_
            refine WpA.tF 12 rfl (V.mv) ?_
            refine WpA.tF 13 rfl (V.ixR tb rfl rfl (by assumption)) ?_
            refine WpA.tF 14 rfl (V.ldR1 tb rfl hR1 (getMapS hq1)) ?_
            refine WpA.tF 15 rfl (V.fa tb) ?_
            refine WpA.tF 16 rfl (V.ld1 tb) ?_
            refine WpA.tF 17 rfl (V.cmp) ?_
            refine WpA.tF 18 rfl (V.pT) ?_
            refine WpA.ou ?_
            apply Out.seqN
            refine Wp.c (fun h1 => ?_) (fun h1 => ?_)
            (try simp only [decide_eq_true_eq, decide_eq_false_iff_not, Bool.not_eq_true', Bool.not_eq_false', Bool.not_eq_true, Bool.not_eq_false, not_true_eq_false, not_false_eq_true, reduceCtorEq] at h1)
            (exfalso; omega)
            (try simp only [decide_eq_true_eq, decide_eq_false_iff_not, Bool.not_eq_true', Bool.not_eq_false', Bool.not_eq_true, Bool.not_eq_false, not_true_eq_false, not_false_eq_true, reduceCtorEq] at h1)
            apply Wp.exit
            apply Out.seqE
            apply Out.seqE
            apply Out.blockE
            rotate_left
            (try simp only [decide_eq_true_eq, decide_eq_false_iff_not, Bool.not_eq_true', Bool.not_eq_false', Bool.not_eq_true, Bool.not_eq_false, not_true_eq_false, not_false_eq_true, reduceCtorEq] at h0)
            (exfalso; omega)
            exact Out.ag hK2 k ⟨hk, hlo, fun p hp => by rw [hq] at hp; cases hp; exact hql⟩ trivial
        · apply Wp.seq
          apply Wp.seq
          refine Wp.dG [] ?_ (List.Sublist.cons _ (List.Sublist.cons_cons _ (List.Sublist.cons_cons _ (List.Sublist.cons_cons _ (List.Sublist.cons_cons _ (List.Sublist.cons_cons _ (List.Sublist.cons_cons _ (List.Sublist.cons _ (List.Sublist.cons_cons _ (List.Sublist.cons_cons _ (List.Sublist.cons_cons _ (List.Sublist.cons_cons _ List.Sublist.slnil)))))))))))) (List.Sublist.cons _ (List.Sublist.cons_cons _ (List.Sublist.cons_cons _ (List.Sublist.cons_cons _ (List.Sublist.cons_cons _ (List.Sublist.cons_cons _ (List.Sublist.cons_cons _ (List.Sublist.cons _ (List.Sublist.cons_cons _ (List.Sublist.cons_cons _ (List.Sublist.cons_cons _ (List.Sublist.cons_cons _ List.Sublist.slnil))))))))))))
          refine WpA.tF 0 rfl (V.mv) ?_
          refine WpA.tF 1 rfl (V.mv) ?_
          refine WpA.tF 2 rfl (V.nc) ?_
          refine WpA.tF 3 rfl (V.fa tb) ?_
          refine WpA.tF 4 rfl (V.ld1 tb) ?_
          refine WpA.tF 5 rfl (V.lenL tb) ?_
          refine WpA.tF 6 rfl (V.cmp) ?_
          refine WpA.tF 7 rfl (V.mv) ?_
          refine WpA.pt 104 (fun h0 => ?_) (fun h0 => ?_)
          (try simp only [decide_eq_true_eq, decide_eq_false_iff_not, Bool.not_eq_true', Bool.not_eq_false', Bool.not_eq_true, Bool.not_eq_false, not_true_eq_false, not_false_eq_true, reduceCtorEq] at h0)
          (exfalso; omega)
          (try simp only [decide_eq_true_eq, decide_eq_false_iff_not, Bool.not_eq_true', Bool.not_eq_false', Bool.not_eq_true, Bool.not_eq_false, not_true_eq_false, not_false_eq_true, reduceCtorEq] at h0)
          refine WpA.s 8 rfl ?_
          refine WpA.s 9 rfl ?_
          refine WpA.s 10 rfl ?_
          refine WpA.s 11 rfl ?_
          refine WpA.s 12 rfl ?_
          refine WpA.s 13 rfl ?_
          refine WpA.s 14 rfl ?_
          refine WpA.s 15 rfl ?_
          refine WpA.s 16 rfl ?_
          refine WpA.s 17 rfl ?_
          refine WpA.tF 18 rfl (V.pF) ?_
          refine WpA.ou ?_
          apply Out.seqN
          refine Wp.cF ?_
          apply Wp.exit
          apply Out.seqE
          apply Out.seqE
          apply Out.blockE
          exact Out.ag hK2 k ⟨hk, hlo, fun p hp => by
            have := (List.getElem?_eq_some_iff.1 hp).1
            omega⟩ trivial
      · intro k hs
        have hkl := hs.le
        have hP1 := SrcL.upTo (tx := 42) (cap := cap1) tb hR1 (k := k) (by omega) ones_i64c (fun _ => rfl)
        have hP2 := SrcL.upTo (tx := 42) (cap := cap2) tb hR2 (k := k) (by omega) ones_i64c (fun _ => rfl)
        have hP3 := SrcL.upTo (tx := 63) (cap := cap3) tb hR3 (k := k) (by omega) rpC.ones rpC.len
        have hQ1 := SrcL.from (tx := 42) (cap' := cap1 - k) tb hR1 (k := k) (by omega) hc1 ones_i64c (fun _ => rfl)
        have hQ2 := SrcL.from (tx := 42) (cap' := cap2 - k) tb hR2 (k := k) (by omega) hc2 ones_i64c (fun _ => rfl)
        have hQ3 := SrcL.from (tx := 63) (cap' := cap3 - k) tb hR3 (k := k) (by omega) hc3 rpC.ones rpC.len
        dsimp only [List.cons_append, List.nil_append]
        refine Wp.mt [7, 6, 4, 3, 0] (fun v : Go.Value => v.oneCell' = true) (fun v => []) (fun v => [cells b 65 [ks2, vs2, ns2, v, .slice ao2 (T.map (·.2.num)).length cap2, .slice ao3 (T.map (·.2)).length cap3, I (s.cnt + 1)], rows i64c v 3 1 ((T.map (·.1)).take k ++ [d.Session] ++ (T.map (·.1)).drop k)]) (σ1 := [cells b 65 [ks2, vs2, ns2, .slice ao1 (T.map (·.1)).length cap1, .slice ao2 (T.map (·.2.num)).length cap2, .slice ao3 (T.map (·.2)).length cap3, I (s.cnt + 1)]]) ?_ ?_
        · intro K2 hK2
          refine Wp.dG [22] ?_ (List.Sublist.cons _ (List.Sublist.cons _ (List.Sublist.cons_cons _ (List.Sublist.cons _ (List.Sublist.cons _ (List.Sublist.cons _ (List.Sublist.cons _ (List.Sublist.cons _ (List.Sublist.cons_cons _ (List.Sublist.cons _ (List.Sublist.cons _ (List.Sublist.cons _ List.Sublist.slnil)))))))))))) (List.Sublist.cons _ (List.Sublist.cons _ (List.Sublist.cons _ (List.Sublist.cons _ (List.Sublist.cons _ (List.Sublist.cons _ (List.Sublist.cons _ (List.Sublist.cons _ (List.Sublist.cons_cons _ (List.Sublist.cons _ (List.Sublist.cons _ (List.Sublist.cons _ List.Sublist.slnil))))))))))))
          refine WpA.tF 0 rfl (V.mv) ?_
          refine WpA.tF 2 rfl (V.mv) ?_
          refine WpA.tF 3 rfl (V.nc) ?_
          refine WpA.tF 4 rfl (V.fa tb) ?_
          refine WpA.tF 6 rfl (V.mv) ?_
          refine WpA.tF 9 rfl (V.fa tb) ?_
          refine WpA.tF 10 rfl (V.ld1 tb) ?_
          refine WpA.tF 13 rfl (V.mv) ?_
          refine WpA.tF 14 rfl (V.nc) ?_
          refine WpA.tF 15 rfl (V.fa tb) ?_
          refine WpA.tF 17 rfl (V.mv) ?_
          refine WpA.t 5 rfl (V.ld1 tb) ?_
          refine WpA.tF 7 rfl (V.slTo tb (j := k) rfl rfl (by omega)) ?_
          refine WpA.t 16 rfl (V.ld1 tb) ?_
          refine WpA.tF 18 rfl (V.slFrom tb (i := k) rfl rfl (by omega)) ?_
          refine WpA.e2 1 11 rfl rfl ?_ ?_
          refine O.litL (E := 3) tb i64c [] rfl PartsFrom.nil rfl rfl (fun p119 => ⟨?_, ?_, ?_⟩)
          exact holdT
          exact holdT
          refine WpA.e2 8 11 rfl rfl ?_ ?_
          refine O.apLV tb rfl rfl (by (intro _; repeat first | exact Upd.here _ _ _ | apply Upd.there)) (hP1 _ (by repeat first | exact List.Mem.head _ | apply List.Mem.tail)) (fun v126 h1126 hv126 => ⟨?_, ?_, ?_⟩) (hbb := by simp only [List.length_take, List.length_drop, List.length_append, List.length_cons, List.length_nil]; omega) (h63 := by simp only [List.length_take, List.length_drop, List.length_append, List.length_cons, List.length_nil]; omega)
          exact holdT
          exact holdT
          refine WpA.oS 11 rfl (O.lit tb (fun p129 => ⟨?_, ?_, ?_⟩))
          exact holdT
          exact holdT
          refine WpA.oS 12 rfl (O.apL tb rfl rfl (by (intro _; repeat first | exact Upd.here _ _ _ | apply Upd.there)) (SrcL.one (f := i64c) (a := d.Session) tb (by repeat first | exact List.Mem.head _ | apply List.Mem.tail) (fun _ => rfl)) (fun g130 cap130 => ⟨?_, ?_, ?_⟩) (hbb := by simp only [List.length_take, List.length_drop, List.length_append, List.length_cons, List.length_nil]; omega) (h63 := by simp only [List.length_take, List.length_drop, List.length_append, List.length_cons, List.length_nil]; omega) (h0 := by simp only [List.length_take, List.length_drop, List.length_append, List.length_cons, List.length_nil]; omega))
          exact holdT
          exact holdT
          refine WpA.oS 19 rfl (O.apL tb rfl rfl (by (intro _; repeat first | exact Upd.here _ _ _ | apply Upd.there)) (hQ1 _ (by repeat first | exact List.Mem.head _ | apply List.Mem.tail)) (fun g137 cap137 => ⟨?_, ?_, ?_⟩) (hbb := by simp only [List.length_take, List.length_drop, List.length_append, List.length_cons, List.length_nil]; omega) (h63 := by simp only [List.length_take, List.length_drop, List.length_append, List.length_cons, List.length_nil]; omega) (h0 := by simp only [List.length_take, List.length_drop, List.length_append, List.length_cons, List.length_nil]; omega))
          exact holdT
          exact holdT
          refine WpA.tF 20 rfl (V.nc) ?_
          refine WpA.tF 21 rfl (V.fa tb) ?_
          refine WpA.l 22 rfl (O.st1 tb ⟨?_, ?_⟩)
          exact holdT
          refine WpA.ou ?_
          rotate_left
          refine O.lit tb (fun p129 => ⟨?_, ?_, ?_⟩)
          exact holdT
          exact holdT
          refine WpA.oS 8 rfl (O.apLV tb rfl rfl (by (intro _; repeat first | exact Upd.here _ _ _ | apply Upd.there)) (hP1 _ (by repeat first | exact List.Mem.head _ | apply List.Mem.tail)) (fun v126 h1126 hv126 => ⟨?_, ?_, ?_⟩) (hbb := by simp only [List.length_take, List.length_drop, List.length_append, List.length_cons, List.length_nil]; omega) (h63 := by simp only [List.length_take, List.length_drop, List.length_append, List.length_cons, List.length_nil]; omega))
          exact holdT
          exact holdT
          refine WpA.oS 12 rfl (O.apL tb rfl rfl (by (intro _; repeat first | exact Upd.here _ _ _ | apply Upd.there)) (SrcL.one (f := i64c) (a := d.Session) tb (by repeat first | exact List.Mem.head _ | apply List.Mem.tail) (fun _ => rfl)) (fun g130 cap130 => ⟨?_, ?_, ?_⟩) (hbb := by simp only [List.length_take, List.length_drop, List.length_append, List.length_cons, List.length_nil]; omega) (h63 := by simp only [List.length_take, List.length_drop, List.length_append, List.length_cons, List.length_nil]; omega) (h0 := by simp only [List.length_take, List.length_drop, List.length_append, List.length_cons, List.length_nil]; omega))
          exact holdT
          exact holdT
          refine WpA.oS 19 rfl (O.apL tb rfl rfl (by (intro _; repeat first | exact Upd.here _ _ _ | apply Upd.there)) (hQ1 _ (by repeat first | exact List.Mem.head _ | apply List.Mem.tail)) (fun g137 cap137 => ⟨?_, ?_, ?_⟩) (hbb := by simp only [List.length_take, List.length_drop, List.length_append, List.length_cons, List.length_nil]; omega) (h63 := by simp only [List.length_take, List.length_drop, List.length_append, List.length_cons, List.length_nil]; omega) (h0 := by simp only [List.length_take, List.length_drop, List.length_append, List.length_cons, List.length_nil]; omega))
          exact holdT
          exact holdT
          refine WpA.tF 20 rfl (V.nc) ?_
          refine WpA.tF 21 rfl (V.fa tb) ?_
          refine WpA.l 22 rfl (O.st1 tb ⟨?_, ?_⟩)
          exact holdT
          refine WpA.ou ?_
          rotate_left
          refine O.lit tb (fun p129 => ⟨?_, ?_, ?_⟩)
          exact holdT
          exact holdT
          refine WpA.oS 1 rfl (O.litL (E := 3) tb i64c [] rfl PartsFrom.nil rfl rfl (fun p119 => ⟨?_, ?_, ?_⟩))
          exact holdT
          exact holdT
          refine WpA.oS 8 rfl (O.apLV tb rfl rfl (by (intro _; repeat first | exact Upd.here _ _ _ | apply Upd.there)) (hP1 _ (by repeat first | exact List.Mem.head _ | apply List.Mem.tail)) (fun v126 h1126 hv126 => ⟨?_, ?_, ?_⟩) (hbb := by simp only [List.length_take, List.length_drop, List.length_append, List.length_cons, List.length_nil]; omega) (h63 := by simp only [List.length_take, List.length_drop, List.length_append, List.length_cons, List.length_nil]; omega))
          exact holdT
          exact holdT
          refine WpA.oS 12 rfl (O.apL tb rfl rfl (by (intro _; repeat first | exact Upd.here _ _ _ | apply Upd.there)) (SrcL.one (f := i64c) (a := d.Session) tb (by repeat first | exact List.Mem.head _ | apply List.Mem.tail) (fun _ => rfl)) (fun g130 cap130 => ⟨?_, ?_, ?_⟩) (hbb := by simp only [List.length_take, List.length_drop, List.length_append, List.length_cons, List.length_nil]; omega) (h63 := by simp only [List.length_take, List.length_drop, List.length_append, List.length_cons, List.length_nil]; omega) (h0 := by simp only [List.length_take, List.length_drop, List.length_append, List.length_cons, List.length_nil]; omega))
          exact holdT
          exact holdT
          refine WpA.oS 19 rfl (O.apL tb rfl rfl (by (intro _; repeat first | exact Upd.here _ _ _ | apply Upd.there)) (hQ1 _ (by repeat first | exact List.Mem.head _ | apply List.Mem.tail)) (fun g137 cap137 => ⟨?_, ?_, ?_⟩) (hbb := by simp only [List.length_take, List.length_drop, List.length_append, List.length_cons, List.length_nil]; omega) (h63 := by simp only [List.length_take, List.length_drop, List.length_append, List.length_cons, List.length_nil]; omega) (h0 := by simp only [List.length_take, List.length_drop, List.length_append, List.length_cons, List.length_nil]; omega))
          exact holdT
          exact holdT
          refine WpA.tF 20 rfl (V.nc) ?_
          refine WpA.tF 21 rfl (V.fa tb) ?_
          refine WpA.l 22 rfl (O.st1 tb ⟨?_, ?_⟩)
          exact holdT
          refine WpA.ou ?_
          rotate_left
          all_goals exact Out.ag hK2 _ rfl trivial
        · intro v1 hv1
          dsimp only [List.cons_append, List.nil_append]
          refine Wp.mt [7, 6, 4, 3, 0] (fun v : Go.Value => v.oneCell' = true) (fun v => []) (fun v => [cells b 65 [ks2, vs2, ns2, v1, v, .slice ao3 (T.map (·.2)).length cap3, I (s.cnt + 1)], rows i64c v 3 1 ((T.map (·.2.num)).take k ++ [d.Number] ++ (T.map (·.2.num)).drop k)]) (σ1 := [cells b 65 [ks2, vs2, ns2, v1, .slice ao2 (T.map (·.2.num)).length cap2, .slice ao3 (T.map (·.2)).length cap3, I (s.cnt + 1)]]) ?_ ?_
          · intro K2 hK2
            refine Wp.dG [22] ?_ (List.Sublist.cons_cons _ (List.Sublist.cons _ (List.Sublist.cons _ (List.Sublist.cons _ (List.Sublist.cons _ (List.Sublist.cons _ (List.Sublist.cons _ (List.Sublist.cons _ (List.Sublist.cons _ (List.Sublist.cons_cons _ (List.Sublist.cons _ (List.Sublist.cons _ (List.Sublist.cons _ List.Sublist.slnil))))))))))))) (List.Sublist.cons _ (List.Sublist.cons _ (List.Sublist.cons _ (List.Sublist.cons _ (List.Sublist.cons _ (List.Sublist.cons _ (List.Sublist.cons _ (List.Sublist.cons _ (List.Sublist.cons _ (List.Sublist.cons_cons _ (List.Sublist.cons _ (List.Sublist.cons _ (List.Sublist.cons _ List.Sublist.slnil)))))))))))))
            refine WpA.tF 0 rfl (V.mv) ?_
            refine WpA.tF 2 rfl (V.mv) ?_
            refine WpA.tF 3 rfl (V.nc) ?_
            refine WpA.tF 4 rfl (V.fa tb) ?_
            refine WpA.tF 6 rfl (V.mv) ?_
            refine WpA.tF 9 rfl (V.fa tb) ?_
            refine WpA.tF 10 rfl (V.ld1 tb) ?_
            refine WpA.tF 13 rfl (V.mv) ?_
            refine WpA.tF 14 rfl (V.nc) ?_
            refine WpA.tF 15 rfl (V.fa tb) ?_
            refine WpA.tF 17 rfl (V.mv) ?_
            refine WpA.t 5 rfl (V.ld1 tb) ?_
            refine WpA.tF 7 rfl (V.slTo tb (j := k) rfl rfl (by omega)) ?_
            refine WpA.t 16 rfl (V.ld1 tb) ?_
            refine WpA.tF 18 rfl (V.slFrom tb (i := k) rfl rfl (by omega)) ?_
            refine WpA.e2 1 11 rfl rfl ?_ ?_
            refine O.litL (E := 3) tb i64c [] rfl PartsFrom.nil rfl rfl (fun p141 => ⟨?_, ?_, ?_⟩)
            exact holdT
            exact holdT
            refine WpA.e2 8 11 rfl rfl ?_ ?_
            refine O.apLV tb rfl rfl (by (intro _; repeat first | exact Upd.here _ _ _ | apply Upd.there)) (hP2 _ (by repeat first | exact List.Mem.head _ | apply List.Mem.tail)) (fun v148 h1148 hv148 => ⟨?_, ?_, ?_⟩) (hbb := by simp only [List.length_take, List.length_drop, List.length_append, List.length_cons, List.length_nil]; omega) (h63 := by simp only [List.length_take, List.length_drop, List.length_append, List.length_cons, List.length_nil]; omega)
            exact holdT
            exact holdT
            refine WpA.oS 11 rfl (O.lit tb (fun p151 => ⟨?_, ?_, ?_⟩))
            exact holdT
            exact holdT
            refine WpA.oS 12 rfl (O.apL tb rfl rfl (by (intro _; repeat first | exact Upd.here _ _ _ | apply Upd.there)) (SrcL.one (f := i64c) (a := d.Number) tb (by repeat first | exact List.Mem.head _ | apply List.Mem.tail) (fun _ => rfl)) (fun g152 cap152 => ⟨?_, ?_, ?_⟩) (hbb := by simp only [List.length_take, List.length_drop, List.length_append, List.length_cons, List.length_nil]; omega) (h63 := by simp only [List.length_take, List.length_drop, List.length_append, List.length_cons, List.length_nil]; omega) (h0 := by simp only [List.length_take, List.length_drop, List.length_append, List.length_cons, List.length_nil]; omega))
            exact holdT
            exact holdT
            refine WpA.oS 19 rfl (O.apL tb rfl rfl (by (intro _; repeat first | exact Upd.here _ _ _ | apply Upd.there)) (hQ2 _ (by repeat first | exact List.Mem.head _ | apply List.Mem.tail)) (fun g159 cap159 => ⟨?_, ?_, ?_⟩) (hbb := by simp only [List.length_take, List.length_drop, List.length_append, List.length_cons, List.length_nil]; omega) (h63 := by simp only [List.length_take, List.length_drop, List.length_append, List.length_cons, List.length_nil]; omega) (h0 := by simp only [List.length_take, List.length_drop, List.length_append, List.length_cons, List.length_nil]; omega))
            exact holdT
            exact holdT
            refine WpA.tF 20 rfl (V.nc) ?_
            refine WpA.tF 21 rfl (V.fa tb) ?_
            refine WpA.l 22 rfl (O.st1 tb ⟨?_, ?_⟩)
            exact holdT
            refine WpA.ou ?_
            rotate_left
            refine O.lit tb (fun p151 => ⟨?_, ?_, ?_⟩)
            exact holdT
            exact holdT
            refine WpA.oS 8 rfl (O.apLV tb rfl rfl (by (intro _; repeat first | exact Upd.here _ _ _ | apply Upd.there)) (hP2 _ (by repeat first | exact List.Mem.head _ | apply List.Mem.tail)) (fun v148 h1148 hv148 => ⟨?_, ?_, ?_⟩) (hbb := by simp only [List.length_take, List.length_drop, List.length_append, List.length_cons, List.length_nil]; omega) (h63 := by simp only [List.length_take, List.length_drop, List.length_append, List.length_cons, List.length_nil]; omega))
            exact holdT
            exact holdT
            refine WpA.oS 12 rfl (O.apL tb rfl rfl (by (intro _; repeat first | exact Upd.here _ _ _ | apply Upd.there)) (SrcL.one (f := i64c) (a := d.Number) tb (by repeat first | exact List.Mem.head _ | apply List.Mem.tail) (fun _ => rfl)) (fun g152 cap152 => ⟨?_, ?_, ?_⟩) (hbb := by simp only [List.length_take, List.length_drop, List.length_append, List.length_cons, List.length_nil]; omega) (h63 := by simp only [List.length_take, List.length_drop, List.length_append, List.length_cons, List.length_nil]; omega) (h0 := by simp only [List.length_take, List.length_drop, List.length_append, List.length_cons, List.length_nil]; omega))
            exact holdT
            exact holdT
            refine WpA.oS 19 rfl (O.apL tb rfl rfl (by (intro _; repeat first | exact Upd.here _ _ _ | apply Upd.there)) (hQ2 _ (by repeat first | exact List.Mem.head _ | apply List.Mem.tail)) (fun g159 cap159 => ⟨?_, ?_, ?_⟩) (hbb := by simp only [List.length_take, List.length_drop, List.length_append, List.length_cons, List.length_nil]; omega) (h63 := by simp only [List.length_take, List.length_drop, List.length_append, List.length_cons, List.length_nil]; omega) (h0 := by simp only [List.length_take, List.length_drop, List.length_append, List.length_cons, List.length_nil]; omega))
            exact holdT
            exact holdT
            refine WpA.tF 20 rfl (V.nc) ?_
            refine WpA.tF 21 rfl (V.fa tb) ?_
            refine WpA.l 22 rfl (O.st1 tb ⟨?_, ?_⟩)
            exact holdT
            refine WpA.ou ?_
            rotate_left
            refine O.lit tb (fun p151 => ⟨?_, ?_, ?_⟩)
            exact holdT
            exact holdT
            refine WpA.oS 1 rfl (O.litL (E := 3) tb i64c [] rfl PartsFrom.nil rfl rfl (fun p141 => ⟨?_, ?_, ?_⟩))
            exact holdT
            exact holdT
            refine WpA.oS 8 rfl (O.apLV tb rfl rfl (by (intro _; repeat first | exact Upd.here _ _ _ | apply Upd.there)) (hP2 _ (by repeat first | exact List.Mem.head _ | apply List.Mem.tail)) (fun v148 h1148 hv148 => ⟨?_, ?_, ?_⟩) (hbb := by simp only [List.length_take, List.length_drop, List.length_append, List.length_cons, List.length_nil]; omega) (h63 := by simp only [List.length_take, List.length_drop, List.length_append, List.length_cons, List.length_nil]; omega))
            exact holdT
            exact holdT
            refine WpA.oS 12 rfl (O.apL tb rfl rfl (by (intro _; repeat first | exact Upd.here _ _ _ | apply Upd.there)) (SrcL.one (f := i64c) (a := d.Number) tb (by repeat first | exact List.Mem.head _ | apply List.Mem.tail) (fun _ => rfl)) (fun g152 cap152 => ⟨?_, ?_, ?_⟩) (hbb := by simp only [List.length_take, List.length_drop, List.length_append, List.length_cons, List.length_nil]; omega) (h63 := by simp only [List.length_take, List.length_drop, List.length_append, List.length_cons, List.length_nil]; omega) (h0 := by simp only [List.length_take, List.length_drop, List.length_append, List.length_cons, List.length_nil]; omega))
            exact holdT
            exact holdT
            refine WpA.oS 19 rfl (O.apL tb rfl rfl (by (intro _; repeat first | exact Upd.here _ _ _ | apply Upd.there)) (hQ2 _ (by repeat first | exact List.Mem.head _ | apply List.Mem.tail)) (fun g159 cap159 => ⟨?_, ?_, ?_⟩) (hbb := by simp only [List.length_take, List.length_drop, List.length_append, List.length_cons, List.length_nil]; omega) (h63 := by simp only [List.length_take, List.length_drop, List.length_append, List.length_cons, List.length_nil]; omega) (h0 := by simp only [List.length_take, List.length_drop, List.length_append, List.length_cons, List.length_nil]; omega))
            exact holdT
            exact holdT
            refine WpA.tF 20 rfl (V.nc) ?_
            refine WpA.tF 21 rfl (V.fa tb) ?_
            refine WpA.l 22 rfl (O.st1 tb ⟨?_, ?_⟩)
            exact holdT
            refine WpA.ou ?_
            rotate_left
            all_goals exact Out.ag hK2 _ rfl trivial
          · intro v2 hv2
            dsimp only [List.cons_append, List.nil_append]
            refine Wp.mt [7, 6, 4, 3, 0] (fun v : Go.Value => v.oneCell' = true) (fun v => []) (fun v => [cells b 65 [ks2, vs2, ns2, v1, v2, v, I (s.cnt + 1)], rows rpC v 39 4 ((T.map (·.2)).take k ++ [(⟨d.Number, y.err, y.val, y.ver, y.keys, .slice ao len cap⟩ : LV)] ++ (T.map (·.2)).drop k)]) (σ1 := [cells b 65 [ks2, vs2, ns2, v1, v2, .slice ao3 (T.map (·.2)).length cap3, I (s.cnt + 1)]]) ?_ ?_
            · intro K2 hK2
              refine Wp.dG [21] ?_ (List.Sublist.cons_cons _ (List.Sublist.cons _ (List.Sublist.cons _ (List.Sublist.cons_cons _ (List.Sublist.cons _ (List.Sublist.cons _ (List.Sublist.cons _ (List.Sublist.cons _ (List.Sublist.cons _ (List.Sublist.cons _ (List.Sublist.cons _ (List.Sublist.cons _ (List.Sublist.cons _ (List.Sublist.cons _ List.Sublist.slnil)))))))))))))) (List.Sublist.cons _ (List.Sublist.cons _ (List.Sublist.cons _ (List.Sublist.cons_cons _ (List.Sublist.cons _ (List.Sublist.cons _ (List.Sublist.cons _ (List.Sublist.cons _ (List.Sublist.cons _ (List.Sublist.cons _ (List.Sublist.cons _ (List.Sublist.cons _ (List.Sublist.cons _ (List.Sublist.cons _ List.Sublist.slnil))))))))))))))
              refine WpA.tF 0 rfl (V.mv) ?_
              refine WpA.tF 2 rfl (V.mv) ?_
              refine WpA.tF 3 rfl (V.nc) ?_
              refine WpA.tF 4 rfl (V.fa tb) ?_
              refine WpA.tF 6 rfl (V.mv) ?_
              refine WpA.tF 9 rfl (V.ldA tb) ?_
              refine WpA.tF 12 rfl (V.mv) ?_
              refine WpA.tF 13 rfl (V.nc) ?_
              refine WpA.tF 14 rfl (V.fa tb) ?_
              refine WpA.tF 16 rfl (V.mv) ?_
              refine WpA.t 5 rfl (V.ld1 tb) ?_
              refine WpA.tF 7 rfl (V.slTo tb (j := k) rfl rfl (by omega)) ?_
              refine WpA.t 15 rfl (V.ld1 tb) ?_
              refine WpA.tF 17 rfl (V.slFrom tb (i := k) rfl rfl (by omega)) ?_
              refine WpA.e2 1 10 rfl rfl ?_ ?_
              refine O.litL (E := 39) tb rpC [] rfl PartsFrom.nil rfl rfl (fun p163 => ⟨?_, ?_, ?_⟩)
              exact holdT
              exact holdT
              refine WpA.e2 8 10 rfl rfl ?_ ?_
              refine O.apLV tb rfl rfl (by (intro _; repeat first | exact Upd.here _ _ _ | apply Upd.there)) (hP3 _ (by repeat first | exact List.Mem.head _ | apply List.Mem.tail)) (fun v170 h1170 hv170 => ⟨?_, ?_, ?_⟩) (hbb := by simp only [List.length_take, List.length_drop, List.length_append, List.length_cons, List.length_nil]; omega) (h63 := by simp only [List.length_take, List.length_drop, List.length_append, List.length_cons, List.length_nil]; omega)
              exact holdT
              exact holdT
              refine WpA.oS 10 rfl (O.lit tb (fun p172 => ⟨?_, ?_, ?_⟩))
              exact holdT
              exact holdT
              refine WpA.oS 11 rfl (O.apL tb rfl rfl (by (intro _; repeat first | exact Upd.here _ _ _ | apply Upd.there)) (SrcL.one (f := rpC) (a := (⟨d.Number, y.err, y.val, y.ver, y.keys, .slice ao len cap⟩ : LV)) tb (by repeat first | exact List.Mem.head _ | apply List.Mem.tail) rpC.ones) (fun g173 cap173 => ⟨?_, ?_, ?_⟩) (hbb := by simp only [List.length_take, List.length_drop, List.length_append, List.length_cons, List.length_nil]; omega) (h63 := by simp only [List.length_take, List.length_drop, List.length_append, List.length_cons, List.length_nil]; omega) (h0 := by simp only [List.length_take, List.length_drop, List.length_append, List.length_cons, List.length_nil]; omega))
              exact holdT
              exact holdT
              refine WpA.oS 18 rfl (O.apL tb rfl rfl (by (intro _; repeat first | exact Upd.here _ _ _ | apply Upd.there)) (hQ3 _ (by repeat first | exact List.Mem.head _ | apply List.Mem.tail)) (fun g180 cap180 => ⟨?_, ?_, ?_⟩) (hbb := by simp only [List.length_take, List.length_drop, List.length_append, List.length_cons, List.length_nil]; omega) (h63 := by simp only [List.length_take, List.length_drop, List.length_append, List.length_cons, List.length_nil]; omega) (h0 := by simp only [List.length_take, List.length_drop, List.length_append, List.length_cons, List.length_nil]; omega))
              exact holdT
              exact holdT
              refine WpA.tF 19 rfl (V.nc) ?_
              refine WpA.tF 20 rfl (V.fa tb) ?_
              refine WpA.l 21 rfl (O.st1 tb ⟨?_, ?_⟩)
              exact holdT
              refine WpA.ou ?_
              rotate_left
              refine O.lit tb (fun p172 => ⟨?_, ?_, ?_⟩)
              exact holdT
              exact holdT
              refine WpA.oS 8 rfl (O.apLV tb rfl rfl (by (intro _; repeat first | exact Upd.here _ _ _ | apply Upd.there)) (hP3 _ (by repeat first | exact List.Mem.head _ | apply List.Mem.tail)) (fun v170 h1170 hv170 => ⟨?_, ?_, ?_⟩) (hbb := by simp only [List.length_take, List.length_drop, List.length_append, List.length_cons, List.length_nil]; omega) (h63 := by simp only [List.length_take, List.length_drop, List.length_append, List.length_cons, List.length_nil]; omega))
              exact holdT
              exact holdT
              refine WpA.oS 11 rfl (O.apL tb rfl rfl (by (intro _; repeat first | exact Upd.here _ _ _ | apply Upd.there)) (SrcL.one (f := rpC) (a := (⟨d.Number, y.err, y.val, y.ver, y.keys, .slice ao len cap⟩ : LV)) tb (by repeat first | exact List.Mem.head _ | apply List.Mem.tail) rpC.ones) (fun g173 cap173 => ⟨?_, ?_, ?_⟩) (hbb := by simp only [List.length_take, List.length_drop, List.length_append, List.length_cons, List.length_nil]; omega) (h63 := by simp only [List.length_take, List.length_drop, List.length_append, List.length_cons, List.length_nil]; omega) (h0 := by simp only [List.length_take, List.length_drop, List.length_append, List.length_cons, List.length_nil]; omega))
              exact holdT
              exact holdT
              refine WpA.oS 18 rfl (O.apL tb rfl rfl (by (intro _; repeat first | exact Upd.here _ _ _ | apply Upd.there)) (hQ3 _ (by repeat first | exact List.Mem.head _ | apply List.Mem.tail)) (fun g180 cap180 => ⟨?_, ?_, ?_⟩) (hbb := by simp only [List.length_take, List.length_drop, List.length_append, List.length_cons, List.length_nil]; omega) (h63 := by simp only [List.length_take, List.length_drop, List.length_append, List.length_cons, List.length_nil]; omega) (h0 := by simp only [List.length_take, List.length_drop, List.length_append, List.length_cons, List.length_nil]; omega))
              exact holdT
              exact holdT
              refine WpA.tF 19 rfl (V.nc) ?_
              refine WpA.tF 20 rfl (V.fa tb) ?_
              refine WpA.l 21 rfl (O.st1 tb ⟨?_, ?_⟩)
              exact holdT
              refine WpA.ou ?_
              rotate_left
              refine O.lit tb (fun p172 => ⟨?_, ?_, ?_⟩)
              exact holdT
              exact holdT
              refine WpA.oS 1 rfl (O.litL (E := 39) tb rpC [] rfl PartsFrom.nil rfl rfl (fun p163 => ⟨?_, ?_, ?_⟩))
              exact holdT
              exact holdT
              refine WpA.oS 8 rfl (O.apLV tb rfl rfl (by (intro _; repeat first | exact Upd.here _ _ _ | apply Upd.there)) (hP3 _ (by repeat first | exact List.Mem.head _ | apply List.Mem.tail)) (fun v170 h1170 hv170 => ⟨?_, ?_, ?_⟩) (hbb := by simp only [List.length_take, List.length_drop, List.length_append, List.length_cons, List.length_nil]; omega) (h63 := by simp only [List.length_take, List.length_drop, List.length_append, List.length_cons, List.length_nil]; omega))
              exact holdT
              exact holdT
              refine WpA.oS 11 rfl (O.apL tb rfl rfl (by (intro _; repeat first | exact Upd.here _ _ _ | apply Upd.there)) (SrcL.one (f := rpC) (a := (⟨d.Number, y.err, y.val, y.ver, y.keys, .slice ao len cap⟩ : LV)) tb (by repeat first | exact List.Mem.head _ | apply List.Mem.tail) rpC.ones) (fun g173 cap173 => ⟨?_, ?_, ?_⟩) (hbb := by simp only [List.length_take, List.length_drop, List.length_append, List.length_cons, List.length_nil]; omega) (h63 := by simp only [List.length_take, List.length_drop, List.length_append, List.length_cons, List.length_nil]; omega) (h0 := by simp only [List.length_take, List.length_drop, List.length_append, List.length_cons, List.length_nil]; omega))
              exact holdT
              exact holdT
              refine WpA.oS 18 rfl (O.apL tb rfl rfl (by (intro _; repeat first | exact Upd.here _ _ _ | apply Upd.there)) (hQ3 _ (by repeat first | exact List.Mem.head _ | apply List.Mem.tail)) (fun g180 cap180 => ⟨?_, ?_, ?_⟩) (hbb := by simp only [List.length_take, List.length_drop, List.length_append, List.length_cons, List.length_nil]; omega) (h63 := by simp only [List.length_take, List.length_drop, List.length_append, List.length_cons, List.length_nil]; omega) (h0 := by simp only [List.length_take, List.length_drop, List.length_append, List.length_cons, List.length_nil]; omega))
              exact holdT
              exact holdT
              refine WpA.tF 19 rfl (V.nc) ?_
              refine WpA.tF 20 rfl (V.fa tb) ?_
              refine WpA.l 21 rfl (O.st1 tb ⟨?_, ?_⟩)
              exact holdT
              refine WpA.ou ?_
              rotate_left
              all_goals exact Out.ag hK2 _ rfl trivial
            · intro v3 hv3
              dsimp only [List.cons_append, List.nil_append]
              apply Wp.seq
              apply Wp.region
              refine WpL.v (V.ldA tb) ?_
              refine WpL.o (O.stA tb ?_)
              apply WpL.nil
              apply Out.seqN
              apply Wp.ret
              refine Out.e1 rfl (ResIs.ca tb) ?_
              focus (exact ⟨_, _, ⟨ao, len, cap, _, _, _, _, _, _, k, hs, rfl, rfl⟩, (by (repeat (first | exact Sel.nil | exact Rem.here | apply Sel.cons | apply Rem.there)))⟩; done)
  · rintro r σ' ⟨ao, len, cap, ks, vs, ns, ids, nums, reps, k, hs, rfl, rfl⟩
    exact ⟨ao, len, cap, ks, vs, ns, ids, nums, reps, _, g, hdm k _ hs, rfl, by simp only [List.map_append, List.map_cons, List.map_take, List.map_drop, List.append_assoc, List.cons_append, List.nil_append]⟩
theorem dm_do (b : Nat) (ks vs ns ids nums reps : Go.Value) (n : Nat) (s : CS) (T : SM) (g : GB) (d : TDeed) (hi : CI n s) (hd : DM s.ss T g) (hn : n ≤ 10000) :
    Ct Try.prog 36 [Ptr b 0, A d.c] (dmE b ks vs ns ids nums reps s.l T g s.cnt) (DmPost b (doC s d).2 (doC s d).1) := by
  cases hg : goodD d with
  | false => exact dm_bad b ks vs ns ids nums reps n s T g d hi hd hg
  | true =>
    by_cases h0 : d.Session = 0
    · exact dm_free b ks vs ns ids nums reps n s T g d hi hd hn hg h0
    · cases hm : mget s.ss d.Session with
      | some y0 => exact dm_found b ks vs ns ids nums reps n s T g d hi hd hn hg h0 y0 hm
      | none => exact dm_new b ks vs ns ids nums reps n s T g d hi hd hn hg h0 hm
end Go.Proofs.Ytgihkocnmgkihaa
