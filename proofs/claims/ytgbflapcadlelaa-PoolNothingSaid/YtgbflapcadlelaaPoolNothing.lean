/-
  The statement PoolNothing of layer 11: no letter comes from nothing: what is taken was sent, as often at most as it was sent, and made twice. Proved for every input.
-/
import Derived.Test.YtgbflapcadlelaaPRef3
import Derived.Test.YtgbflapcadlelaaHeapH
namespace Go.Proofs.Ytgbflapcadlelaa
open Go.HL
set_option linter.unusedSimpArgs false
set_option linter.unusedVariables false
set_option maxRecDepth 8000
theorem zero3 (w : Go.World) : (Go.zeroValue 3).run Try.prog w = .ok (I 0) w := rfl
theorem map70 : mapTB Try.prog 70 61 3 = true := rfl
theorem kokL : KeyOk Try.prog 61 (fun x : PoolLetter => A x.c) :=
  KeyOk.struct (c := PoolLetter.c) rfl (fun a b => PoolLetter.eqT a b 9998) (fun a => CheckT.struct (n := 9999) (l := [(3, 0), (3, 1), (9, 2)]) (by kernel_rfl) ⟨⟨_, .inl ⟨by kernel_rfl, rfl⟩, CheckT.int (k' := .i64) rfl⟩, ⟨_, .inl ⟨by kernel_rfl, rfl⟩, CheckT.int (k' := .i64) rfl⟩, ⟨_, .inl ⟨by kernel_rfl, rfl⟩, CheckT.str rfl⟩, trivial⟩) (fun a => rfl)
abbrev MapL := List (PoolLetter × Int)
def mv (m : MapL) (x : PoolLetter) : Int := (mget m x).getD 0
theorem mv_put (m : MapL) (x y : PoolLetter) (n : Int) : mv (mput m x n) y = if y = x then n else mv m y := by
  unfold mv
  rw [mget_mput]
  split <;> rfl
structure NS where
  i : Nat
  v : Go.Value
  n : Int
  l : List PoolLetter
  m : MapL
structure NS.ok (y : NS) (k : Nat) : Prop where
  hi : y.i ≤ k
  hn : 0 ≤ y.n
  hni : y.n ≤ y.i
  hl : y.l.length ≤ 256
  hok : ∀ x ∈ y.l, okL x = true
  hm : ∀ x, ((y.l.count x : Nat) : Int) ≤ mv y.m x ∧ mv y.m x ≤ y.i
theorem count_erase {l : List PoolLetter} {k : Nat} {y : PoolLetter} (hk : l[k]? = some y) (z : PoolLetter) : ((l.count z : Nat) : Int) = ((l.eraseIdx k).count z : Nat) + (if z = y then 1 else 0) := by
  have hlt := (List.getElem?_eq_some_iff.1 hk).1
  have e : l = l.take k ++ y :: l.drop (k + 1) := by
    have h1 := List.drop_eq_getElem_cons hlt
    rw [(List.getElem?_eq_some_iff.1 hk).2] at h1
    rw [← h1, List.take_append_drop]
  have e2 : l.count z = (l.take k).count z + (y :: l.drop (k + 1)).count z := by
    rw [← List.count_append, ← e]
  rw [e2, List.eraseIdx_eq_take_drop_succ, List.count_append, List.count_cons]
  by_cases h : z = y
  · simp [h]; omega
  · simp [h, Ne.symm h]
set_option maxHeartbeats 4000000 in
theorem poolNothing_walk (e : Ent) (ao : Option Go.Addr) (cap b off : Nat) (xs : List Caucuslaw11Call) (hR : Rd e ao xs.length b off 6 (xs.map Caucuslaw11Call.c)) :
    Ct Try.prog 12 [.slice ao xs.length cap] [e] (fun r σ' => r = B true ∧ σ' = [e]) := by
  have hm := hR.small
  simp only [Go.maxLen] at hm
  have hG := pool_great e ao cap b off xs hR
  cases hg : greatP xs with
  | true =>
    rw [hg] at hG
    refine Ct.enter Try.func12 rfl rfl fun W => ?_
    apply Wp.seq
    apply Wp.region
    refine WpL.v (V.as) ?_
    apply WpL.nil
    apply Out.seqN
    apply Wp.seq
    apply Wp.seq
    apply Wp.region
    refine WpL.o (Op1.fn rfl (pool_alive) ?_)
    refine WpL.v (V.not) ?_
    apply WpL.nil
    apply Out.seqN
    refine Wp.cF ?_
    apply Wp.skip
    apply Out.seqN
    apply Wp.seq
    apply Wp.seq
    apply Wp.region
    refine WpL.v (V.mv) ?_
    refine WpL.o (Op1.callT rfl (hG) (by (repeat (first | exact Sel.nil | exact Rem.here | apply Sel.cons | apply Rem.there))) ?_)
    rintro v0 s1 ⟨rfl, rfl⟩
    refine incat ?_
    apply WpL.nil
    apply Out.seqN
    refine Wp.cT ?_
    apply Wp.seq
    apply Wp.region
    refine WpL.v (V.as) ?_
    apply WpL.nil
    apply Out.seqN
    apply Wp.ret
    apply Out.seqR
    refine Out.f1 rfl ResIs.t ⟨?_, rfl⟩
    exact rfl
  | false =>
    rw [hg] at hG
    simp only [greatP, Bool.or_eq_false_iff, decide_eq_false_iff_not] at hg
    refine Ct.enter Try.func12 rfl rfl fun W => ?_
    apply Wp.seq
    apply Wp.region
    refine WpL.v (V.as) ?_
    apply WpL.nil
    apply Out.seqN
    apply Wp.seq
    apply Wp.seq
    apply Wp.region
    refine WpL.o (Op1.fn rfl (pool_alive) ?_)
    refine WpL.v (V.not) ?_
    apply WpL.nil
    apply Out.seqN
    refine Wp.cF ?_
    apply Wp.skip
    apply Out.seqN
    apply Wp.seq
    apply Wp.seq
    apply Wp.region
    refine WpL.v (V.mv) ?_
    refine WpL.o (Op1.callT rfl (hG) (by (repeat (first | exact Sel.nil | exact Rem.here | apply Sel.cons | apply Rem.there))) ?_)
    rintro v0 s1 ⟨rfl, rfl⟩
    refine incat ?_
    apply WpL.nil
    apply Out.seqN
    refine Wp.cF ?_
    apply Wp.skip
    apply Out.seqN
    apply Wp.seq
    apply Wp.region
    refine WpL.o (Op1.callT rfl (pool_new) (by (repeat (first | exact Sel.nil | exact Rem.here | apply Sel.cons | apply Rem.there))) ?_)
    rintro v2 s3 ⟨b14, ⟨rfl, rfl⟩⟩
    refine incat ?_
    refine WpL.v (V.as) ?_
    apply WpL.nil
    apply Out.seqN
    apply Wp.seq
    apply Wp.region
    refine WpL.o (Op1.mkMap (fun x : PoolLetter => A x.c) (fun n : Int => I n) rfl (fun p15 => ?_))
    refine WpL.v (V.as) ?_
    apply WpL.nil
    apply Out.seqN
    apply Wp.seq
    apply Wp.seq
    apply Wp.region
    refine WpL.v (V.mv) ?_
    refine WpL.v (V.lenL tb) ?_
    refine WpL.v (V.mv) ?_
    apply WpL.nil
    apply Out.seqN
    apply Wp.block
    refine Wp.lp [17, 16, 4, 3] (fun y : NS => y.ok xs.length) (fun y => [(18, I (y.i : Int))]) (fun y => mapK (fun x : PoolLetter => A x.c) (fun n : Int => I n) p15 y.m :: poolE b14 y.v y.l (List.replicate 49 false) y.n) (fun y => xs.length - y.i)
      ⟨0, .slice none 0 0, 0, [], []⟩ ⟨Nat.zero_le _, by decide, by decide, by decide, by simp, fun x => by simp [mv, mget_nil]⟩ ?_
    rintro ⟨i, v, n, l, m⟩ ⟨hi, hn, hni, hl, hok, hmv⟩ K hK
    dsimp only at hi hn hni hl hok hmv
    dsimp only [poolE, List.cons_append, List.nil_append]
    by_cases hlt : i < xs.length
    · obtain ⟨x, hx⟩ := getS hlt
      have hbound : xs.length ≤ 400 := by omega
      have hmv' : ∀ z, ((l.count z : Nat) : Int) ≤ mv m z ∧ mv m z ≤ ((i + 1 : Nat) : Int) := fun z => ⟨(hmv z).1, by have := (hmv z).2; omega⟩
      by_cases k0 : x.Kind = 0
      · have hP (g : Nat) := pool_send (rows PoolLetter.c (.slice (some ⟨g, 0, none⟩) 1 1) 61 3 [x.Letter]) (some ⟨g, 0, none⟩) 1 g 0 b14 v l [x.Letter] (List.replicate 49 false) n (Rd.rows (l := [x.Letter]) PoolLetter.len (by simp)) rfl hl (by omega) (by simp)
        have hx0 := hmv x.Letter
        have hxn : 0 ≤ mv m x.Letter := by have := hx0.1; omega
        have hput : ∀ z, mv (mput m x.Letter (mv m x.Letter + 1)) z = if z = x.Letter then mv m x.Letter + 1 else mv m z := fun z => mv_put _ _ _ _
        cases hb : badL (List.replicate 49 false) l x.Letter with
        | true =>
          have e1 : sends (List.replicate 49 false) l [x.Letter] = (l, 1) := by simp only [sends, List.foldl_cons, List.foldl_nil, stepS, hb, if_true]; rfl
          have hP' (g : Nat) : Ct Try.prog 41 [Ptr b14 0, .slice (some ⟨g, 0, none⟩) 1 1] (rows PoolLetter.c (.slice (some ⟨g, 0, none⟩) 1 1) 61 3 [x.Letter] :: poolE b14 v l (List.replicate 49 false) n) (fun r σ' => ∃ v', r = I 1 ∧ σ' = rows PoolLetter.c (.slice (some ⟨g, 0, none⟩) 1 1) 61 3 [x.Letter] :: poolE b14 v' l (List.replicate 49 false) (n + 1)) := by
            have := hP g
            rw [e1] at this
            exact this
          apply Wp.seq
          apply Wp.region
          refine WpL.v (V.cmp) ?_
          apply WpL.nil
          apply Out.seqN
          apply Wp.seq
          refine Wp.c (fun h0 => ?_) (fun h0 => ?_)
          (try simp only [decide_eq_true_eq, decide_eq_false_iff_not, Bool.not_eq_true', Bool.not_eq_false', Bool.not_eq_true, Bool.not_eq_false, not_true_eq_false, not_false_eq_true, reduceCtorEq] at h0)
          apply Wp.skip
          apply Out.seqN
          apply Wp.seq
          apply Wp.block
          apply Wp.seq
          apply Wp.region
          refine WpL.v (V.ixR tb rfl rfl (by assumption)) ?_
          refine WpL.v (V.ldRA tb rfl (by assumption) (getMapS (by assumption))) ?_
          refine WpL.o (O.al tb (fun p6 => ?_))
          refine WpL.o (O.stA tb ?_)
          apply WpL.nil
          apply Out.seqN
          apply Wp.seq
          apply Wp.region
          refine WpL.v (V.fa tb) ?_
          refine WpL.v (V.ld1 tb) ?_
          apply WpL.nil
          apply Out.seqN
          apply Wp.block
          apply Wp.seq
          apply Wp.region
          refine WpL.v (V.cmp) ?_
          refine WpL.v (V.as) ?_
          apply WpL.nil
          apply Out.seqN
          refine Wp.c (fun h1 => ?_) (fun h1 => ?_)
          (try simp only [decide_eq_true_eq, decide_eq_false_iff_not, Bool.not_eq_true', Bool.not_eq_false', Bool.not_eq_true, Bool.not_eq_false, not_true_eq_false, not_false_eq_true, reduceCtorEq] at h1)
          apply Wp.seq
          refine Wp.dG [] ?_ (List.Sublist.cons_cons _ (List.Sublist.cons _ (List.Sublist.cons _ (List.Sublist.cons _ (List.Sublist.cons _ List.Sublist.slnil))))) (List.Sublist.cons_cons _ (List.Sublist.cons _ (List.Sublist.cons _ (List.Sublist.cons _ (List.Sublist.cons _ List.Sublist.slnil)))))
          refine WpA.tF 0 rfl (V.mv) ?_
          refine WpA.tF 1 rfl (V.fa tb) ?_
          refine WpA.tF 2 rfl (V.ldA tb) ?_
          refine WpA.e2 3 5 rfl rfl ?_ ?_
          refine Op1.vv (Val.lookD (l := m) (k := x.Letter) (vf := fun n : Int => I n) 0 kokL map70 zero3 rfl rfl (by (repeat first | exact List.Mem.head _ | apply List.Mem.tail))) ⟨?_, ?_, ?_⟩
          exact holdT
          exact holdT
          refine WpA.tF 4 rfl (V.add rfl rfl ⟨by have := hxn; unfold mv at this; omega, by have := hx0.2; unfold mv at this; omega⟩) ?_
          refine WpA.oS 5 rfl (Op1.entM (l := m) (k := x.Letter) (vf := fun n : Int => I n) 0 kokL map70 zero3 rfl rfl (by (intro _; repeat first | exact Upd.here _ _ _ | apply Upd.there)) (fun s31 => ⟨?_, ?_, ?_⟩))
          exact holdT
          exact holdT
          refine WpA.tF 6 rfl (V.ex) ?_
          refine WpA.oS 7 rfl (Op1.entS (l := m) (k := x.Letter) (v := mv m x.Letter + 1) (vf := fun n : Int => I n) rfl rfl rfl (by (repeat first | exact Upd.here _ _ _ | apply Upd.there)) ⟨?_, ?_, ?_⟩)
          exact holdT
          exact holdT
          refine WpA.ou ?_
          apply Out.seqN
          apply Wp.region
          refine WpL.v (V.mv) ?_
          refine WpL.v (V.fa tb) ?_
          refine WpL.v (V.ldA tb) ?_
          refine WpL.o (O.litL tb PoolLetter.c [x.Letter] rfl (PartsFrom.agg rfl PartsFrom.nil) rfl rfl (fun p36 => ?_))
          refine WpL.o (Op1.callT rfl (hP' _) (by (repeat (first | exact Sel.nil | exact Rem.here | apply Sel.cons | apply Rem.there))) ?_)
          rintro v2 s3 ⟨v'37, ⟨rfl, rfl⟩⟩
          refine incat ?_
          apply WpL.nil
          apply Out.blockN
          apply Out.blockN
          apply Out.seqN
          apply Wp.region
          refine WpL.v (V.add rfl rfl ⟨by have := hxn; unfold mv at this; omega, by have := hx0.2; unfold mv at this; omega⟩) ?_
          refine WpL.v (V.mv) ?_
          apply WpL.nil
          rotate_left
          refine Op1.entM (l := m) (k := x.Letter) (vf := fun n : Int => I n) 0 kokL map70 zero3 rfl rfl (by (intro _; repeat first | exact Upd.here _ _ _ | apply Upd.there)) (fun s31 => ⟨?_, ?_, ?_⟩)
          exact holdT
          exact holdT
          refine WpA.tF 6 rfl (V.ex) ?_
          refine WpA.oS 3 rfl (Op1.vv (Val.lookP (l := m) (k := x.Letter) (vf := fun n : Int => I n) kokL map70 rfl rfl (by (repeat first | exact List.Mem.head _ | apply List.Mem.tail))) ⟨?_, ?_, ?_⟩)
          exact holdT
          exact holdT
          refine WpA.tF 4 rfl (V.add rfl rfl ⟨by have := hxn; unfold mv at this; omega, by have := hx0.2; unfold mv at this; omega⟩) ?_
          refine WpA.oS 7 rfl (Op1.entS (l := m) (k := x.Letter) (v := mv m x.Letter + 1) (vf := fun n : Int => I n) rfl rfl rfl (by (repeat first | exact Upd.here _ _ _ | apply Upd.there)) ⟨?_, ?_, ?_⟩)
          exact holdT
          exact holdT
          refine WpA.ou ?_
          apply Out.seqN
          apply Wp.region
          refine WpL.v (V.mv) ?_
          refine WpL.v (V.fa tb) ?_
          refine WpL.v (V.ldA tb) ?_
          refine WpL.o (O.litL tb PoolLetter.c [x.Letter] rfl (PartsFrom.agg rfl PartsFrom.nil) rfl rfl (fun p36 => ?_))
          refine WpL.o (Op1.callT rfl (hP' _) (by (repeat (first | exact Sel.nil | exact Rem.here | apply Sel.cons | apply Rem.there))) ?_)
          rintro v5 s6 ⟨v'37_4, ⟨rfl, rfl⟩⟩
          refine incat ?_
          apply WpL.nil
          apply Out.blockN
          apply Out.blockN
          apply Out.seqN
          apply Wp.region
          refine WpL.v (V.add rfl rfl ⟨by have := hxn; unfold mv at this; omega, by have := hx0.2; unfold mv at this; omega⟩) ?_
          refine WpL.v (V.mv) ?_
          apply WpL.nil
          rotate_left
          (try simp only [decide_eq_true_eq, decide_eq_false_iff_not, Bool.not_eq_true', Bool.not_eq_false', Bool.not_eq_true, Bool.not_eq_false, not_true_eq_false, not_false_eq_true, reduceCtorEq] at h1)
          (exfalso; omega)
          (try simp only [decide_eq_true_eq, decide_eq_false_iff_not, Bool.not_eq_true', Bool.not_eq_false', Bool.not_eq_true, Bool.not_eq_false, not_true_eq_false, not_false_eq_true, reduceCtorEq] at h0)
          (exfalso; omega)
          all_goals exact Out.ag hK ⟨i + 1, _, n + 1, l, mput m x.Letter (mv m x.Letter + 1)⟩ ⟨by show i + 1 ≤ _; omega, by show 0 ≤ n + 1; omega, by show n + 1 ≤ ((i + 1 : Nat) : Int); omega, hl, hok, fun z => by (show ((l.count z : Nat) : Int) ≤ mv (mput m x.Letter (mv m x.Letter + 1)) z ∧ mv (mput m x.Letter (mv m x.Letter + 1)) z ≤ ((i + 1 : Nat) : Int)); rw [hput z]; have := hmv z; split <;> (first | (subst_vars; omega) | omega)⟩ (by show xs.length - (i + 1) < xs.length - i; omega)
        | false =>
          have e1 : sends (List.replicate 49 false) l [x.Letter] = (l ++ [x.Letter], 0) := by simp only [sends, List.foldl_cons, List.foldl_nil, stepS, hb, Bool.false_eq_true, if_false]
          have hP' (g : Nat) : Ct Try.prog 41 [Ptr b14 0, .slice (some ⟨g, 0, none⟩) 1 1] (rows PoolLetter.c (.slice (some ⟨g, 0, none⟩) 1 1) 61 3 [x.Letter] :: poolE b14 v l (List.replicate 49 false) n) (fun r σ' => ∃ v', r = I 0 ∧ σ' = rows PoolLetter.c (.slice (some ⟨g, 0, none⟩) 1 1) 61 3 [x.Letter] :: poolE b14 v' (l ++ [x.Letter]) (List.replicate 49 false) (n + 0)) := by
            have := hP g
            rw [e1] at this
            exact this
          rw [Int.add_zero] at hP'
          simp only [badL, Bool.or_eq_false_iff, Bool.not_eq_false', decide_eq_false_iff_not] at hb
          have hokl : ∀ z ∈ l ++ [x.Letter], okL z = true := by
            intro z hz
            rcases List.mem_append.1 hz with h | h
            · exact hok z h
            · rw [List.mem_singleton.1 h]; simp [okL, hb.1, hb.2.1]
          have hcnt : ∀ z, (((l ++ [x.Letter]).count z : Nat) : Int) = (l.count z : Nat) + (if z = x.Letter then 1 else 0) := by
            intro z
            rw [List.count_append, List.count_singleton]
            by_cases h : z = x.Letter
            · simp [h]
            · simp [h, Ne.symm h]
          apply Wp.seq
          apply Wp.region
          refine WpL.v (V.cmp) ?_
          apply WpL.nil
          apply Out.seqN
          apply Wp.seq
          refine Wp.c (fun h0 => ?_) (fun h0 => ?_)
          (try simp only [decide_eq_true_eq, decide_eq_false_iff_not, Bool.not_eq_true', Bool.not_eq_false', Bool.not_eq_true, Bool.not_eq_false, not_true_eq_false, not_false_eq_true, reduceCtorEq] at h0)
          apply Wp.skip
          apply Out.seqN
          apply Wp.seq
          apply Wp.block
          apply Wp.seq
          apply Wp.region
          refine WpL.v (V.ixR tb rfl rfl (by assumption)) ?_
          refine WpL.v (V.ldRA tb rfl (by assumption) (getMapS (by assumption))) ?_
          refine WpL.o (O.al tb (fun p6 => ?_))
          refine WpL.o (O.stA tb ?_)
          apply WpL.nil
          apply Out.seqN
          apply Wp.seq
          apply Wp.region
          refine WpL.v (V.fa tb) ?_
          refine WpL.v (V.ld1 tb) ?_
          apply WpL.nil
          apply Out.seqN
          apply Wp.block
          apply Wp.seq
          apply Wp.region
          refine WpL.v (V.cmp) ?_
          refine WpL.v (V.as) ?_
          apply WpL.nil
          apply Out.seqN
          refine Wp.c (fun h1 => ?_) (fun h1 => ?_)
          (try simp only [decide_eq_true_eq, decide_eq_false_iff_not, Bool.not_eq_true', Bool.not_eq_false', Bool.not_eq_true, Bool.not_eq_false, not_true_eq_false, not_false_eq_true, reduceCtorEq] at h1)
          apply Wp.seq
          refine Wp.dG [] ?_ (List.Sublist.cons_cons _ (List.Sublist.cons _ (List.Sublist.cons _ (List.Sublist.cons _ (List.Sublist.cons _ List.Sublist.slnil))))) (List.Sublist.cons_cons _ (List.Sublist.cons _ (List.Sublist.cons _ (List.Sublist.cons _ (List.Sublist.cons _ List.Sublist.slnil)))))
          refine WpA.tF 0 rfl (V.mv) ?_
          refine WpA.tF 1 rfl (V.fa tb) ?_
          refine WpA.tF 2 rfl (V.ldA tb) ?_
          refine WpA.e2 3 5 rfl rfl ?_ ?_
          refine Op1.vv (Val.lookD (l := m) (k := x.Letter) (vf := fun n : Int => I n) 0 kokL map70 zero3 rfl rfl (by (repeat first | exact List.Mem.head _ | apply List.Mem.tail))) ⟨?_, ?_, ?_⟩
          exact holdT
          exact holdT
          refine WpA.tF 4 rfl (V.add rfl rfl ⟨by have := hxn; unfold mv at this; omega, by have := hx0.2; unfold mv at this; omega⟩) ?_
          refine WpA.oS 5 rfl (Op1.entM (l := m) (k := x.Letter) (vf := fun n : Int => I n) 0 kokL map70 zero3 rfl rfl (by (intro _; repeat first | exact Upd.here _ _ _ | apply Upd.there)) (fun s31 => ⟨?_, ?_, ?_⟩))
          exact holdT
          exact holdT
          refine WpA.tF 6 rfl (V.ex) ?_
          refine WpA.oS 7 rfl (Op1.entS (l := m) (k := x.Letter) (v := mv m x.Letter + 1) (vf := fun n : Int => I n) rfl rfl rfl (by (repeat first | exact Upd.here _ _ _ | apply Upd.there)) ⟨?_, ?_, ?_⟩)
          exact holdT
          exact holdT
          refine WpA.ou ?_
          apply Out.seqN
          apply Wp.region
          refine WpL.v (V.mv) ?_
          refine WpL.v (V.fa tb) ?_
          refine WpL.v (V.ldA tb) ?_
          refine WpL.o (O.litL tb PoolLetter.c [x.Letter] rfl (PartsFrom.agg rfl PartsFrom.nil) rfl rfl (fun p36 => ?_))
          refine WpL.o (Op1.callT rfl (hP' _) (by (repeat (first | exact Sel.nil | exact Rem.here | apply Sel.cons | apply Rem.there))) ?_)
          rintro v2 s3 ⟨v'37, ⟨rfl, rfl⟩⟩
          refine incat ?_
          apply WpL.nil
          apply Out.blockN
          apply Out.blockN
          apply Out.seqN
          apply Wp.region
          refine WpL.v (V.add rfl rfl ⟨by have := hxn; unfold mv at this; omega, by have := hx0.2; unfold mv at this; omega⟩) ?_
          refine WpL.v (V.mv) ?_
          apply WpL.nil
          rotate_left
          refine Op1.entM (l := m) (k := x.Letter) (vf := fun n : Int => I n) 0 kokL map70 zero3 rfl rfl (by (intro _; repeat first | exact Upd.here _ _ _ | apply Upd.there)) (fun s31 => ⟨?_, ?_, ?_⟩)
          exact holdT
          exact holdT
          refine WpA.tF 6 rfl (V.ex) ?_
          refine WpA.oS 3 rfl (Op1.vv (Val.lookP (l := m) (k := x.Letter) (vf := fun n : Int => I n) kokL map70 rfl rfl (by (repeat first | exact List.Mem.head _ | apply List.Mem.tail))) ⟨?_, ?_, ?_⟩)
          exact holdT
          exact holdT
          refine WpA.tF 4 rfl (V.add rfl rfl ⟨by have := hxn; unfold mv at this; omega, by have := hx0.2; unfold mv at this; omega⟩) ?_
          refine WpA.oS 7 rfl (Op1.entS (l := m) (k := x.Letter) (v := mv m x.Letter + 1) (vf := fun n : Int => I n) rfl rfl rfl (by (repeat first | exact Upd.here _ _ _ | apply Upd.there)) ⟨?_, ?_, ?_⟩)
          exact holdT
          exact holdT
          refine WpA.ou ?_
          apply Out.seqN
          apply Wp.region
          refine WpL.v (V.mv) ?_
          refine WpL.v (V.fa tb) ?_
          refine WpL.v (V.ldA tb) ?_
          refine WpL.o (O.litL tb PoolLetter.c [x.Letter] rfl (PartsFrom.agg rfl PartsFrom.nil) rfl rfl (fun p36 => ?_))
          refine WpL.o (Op1.callT rfl (hP' _) (by (repeat (first | exact Sel.nil | exact Rem.here | apply Sel.cons | apply Rem.there))) ?_)
          rintro v5 s6 ⟨v'37_4, ⟨rfl, rfl⟩⟩
          refine incat ?_
          apply WpL.nil
          apply Out.blockN
          apply Out.blockN
          apply Out.seqN
          apply Wp.region
          refine WpL.v (V.add rfl rfl ⟨by have := hxn; unfold mv at this; omega, by have := hx0.2; unfold mv at this; omega⟩) ?_
          refine WpL.v (V.mv) ?_
          apply WpL.nil
          rotate_left
          (try simp only [decide_eq_true_eq, decide_eq_false_iff_not, Bool.not_eq_true', Bool.not_eq_false', Bool.not_eq_true, Bool.not_eq_false, not_true_eq_false, not_false_eq_true, reduceCtorEq] at h1)
          (exfalso; omega)
          (try simp only [decide_eq_true_eq, decide_eq_false_iff_not, Bool.not_eq_true', Bool.not_eq_false', Bool.not_eq_true, Bool.not_eq_false, not_true_eq_false, not_false_eq_true, reduceCtorEq] at h0)
          (exfalso; omega)
          all_goals exact Out.ag hK ⟨i + 1, _, n, l ++ [x.Letter], mput m x.Letter (mv m x.Letter + 1)⟩ ⟨by show i + 1 ≤ _; omega, by show 0 ≤ n; omega, by show n ≤ ((i + 1 : Nat) : Int); omega, (by show (l ++ [x.Letter]).length ≤ 256; simp; omega), hokl, fun z => by (show (((l ++ [x.Letter]).count z : Nat) : Int) ≤ mv (mput m x.Letter (mv m x.Letter + 1)) z ∧ mv (mput m x.Letter (mv m x.Letter + 1)) z ≤ ((i + 1 : Nat) : Int)); rw [hput z, hcnt z]; have := hmv z; split <;> (first | (subst_vars; omega) | omega)⟩ (by show xs.length - (i + 1) < xs.length - i; omega)
      · by_cases k1 : x.Kind = 1
        · have hP := pool_take b14 v l (List.replicate 49 false) n x.N rfl (by omega) hok
          cases ha : atP l x.N with
          | none =>
            simp only [ha] at hP
            apply Wp.seq
            apply Wp.region
            refine WpL.v (V.cmp) ?_
            apply WpL.nil
            apply Out.seqN
            apply Wp.seq
            refine Wp.c (fun h0 => ?_) (fun h0 => ?_)
            (try simp only [decide_eq_true_eq, decide_eq_false_iff_not, Bool.not_eq_true', Bool.not_eq_false', Bool.not_eq_true, Bool.not_eq_false, not_true_eq_false, not_false_eq_true, reduceCtorEq] at h0)
            apply Wp.skip
            apply Out.seqN
            apply Wp.seq
            apply Wp.block
            apply Wp.seq
            apply Wp.region
            refine WpL.v (V.ixR tb rfl rfl (by assumption)) ?_
            refine WpL.v (V.ldRA tb rfl (by assumption) (getMapS (by assumption))) ?_
            refine WpL.o (O.al tb (fun p6 => ?_))
            refine WpL.o (O.stA tb ?_)
            apply WpL.nil
            apply Out.seqN
            apply Wp.seq
            apply Wp.region
            refine WpL.v (V.fa tb) ?_
            refine WpL.v (V.ld1 tb) ?_
            apply WpL.nil
            apply Out.seqN
            apply Wp.block
            apply Wp.seq
            apply Wp.region
            refine WpL.v (V.cmp) ?_
            refine WpL.v (V.as) ?_
            apply WpL.nil
            apply Out.seqN
            refine Wp.c (fun h1 => ?_) (fun h1 => ?_)
            (try simp only [decide_eq_true_eq, decide_eq_false_iff_not, Bool.not_eq_true', Bool.not_eq_false', Bool.not_eq_true, Bool.not_eq_false, not_true_eq_false, not_false_eq_true, reduceCtorEq] at h1)
            (exfalso; omega)
            (try simp only [decide_eq_true_eq, decide_eq_false_iff_not, Bool.not_eq_true', Bool.not_eq_false', Bool.not_eq_true, Bool.not_eq_false, not_true_eq_false, not_false_eq_true, reduceCtorEq] at h1)
            apply Wp.seq
            apply Wp.region
            refine WpL.v (V.cmp) ?_
            refine WpL.v (V.as) ?_
            apply WpL.nil
            apply Out.seqN
            refine Wp.c (fun h2 => ?_) (fun h2 => ?_)
            (try simp only [decide_eq_true_eq, decide_eq_false_iff_not, Bool.not_eq_true', Bool.not_eq_false', Bool.not_eq_true, Bool.not_eq_false, not_true_eq_false, not_false_eq_true, reduceCtorEq] at h2)
            apply Wp.seq
            apply Wp.region
            refine WpL.v (V.mv) ?_
            refine WpL.v (V.fa tb) ?_
            refine WpL.v (V.ld1 tb) ?_
            refine WpL.o (Op1.callT rfl (hP) (by (repeat (first | exact Sel.nil | exact Rem.here | apply Sel.cons | apply Rem.there))) ?_)
            rintro v3 s4 ⟨v'44, ⟨rfl, rfl⟩⟩
            refine incat ?_
            refine WpL.v (V.mv) ?_
            refine WpL.v (V.ex) ?_
            refine WpL.v (V.ex) ?_
            refine WpL.o (O.al tb (fun p7 => ?_))
            refine WpL.o (O.stA tb ?_)
            refine WpL.v (V.as) ?_
            apply WpL.nil
            apply Out.seqN
            apply Wp.seq
            apply Wp.region
            refine WpL.v (V.mv) ?_
            apply WpL.nil
            apply Out.seqN
            refine Wp.cF ?_
            apply Wp.skip
            apply Out.blockN
            apply Out.blockN
            apply Out.seqN
            apply Wp.region
            refine WpL.v (V.add) ?_
            refine WpL.v (V.mv) ?_
            apply WpL.nil
            rotate_left
            (try simp only [decide_eq_true_eq, decide_eq_false_iff_not, Bool.not_eq_true', Bool.not_eq_false', Bool.not_eq_true, Bool.not_eq_false, not_true_eq_false, not_false_eq_true, reduceCtorEq] at h2)
            (exfalso; omega)
            (try simp only [decide_eq_true_eq, decide_eq_false_iff_not, Bool.not_eq_true', Bool.not_eq_false', Bool.not_eq_true, Bool.not_eq_false, not_true_eq_false, not_false_eq_true, reduceCtorEq] at h0)
            (exfalso; omega)
            all_goals exact Out.ag hK ⟨i + 1, _, n, l, m⟩ ⟨by show i + 1 ≤ _; omega, by show 0 ≤ n; omega, by show n ≤ ((i + 1 : Nat) : Int); omega, hl, hok, hmv'⟩ (by show xs.length - (i + 1) < xs.length - i; omega)
          | some y =>
            obtain ⟨k, hk0, hk, hklt⟩ := atP_some ha
            simp only [ha] at hP
            have hcc : cutAt (List.replicate 49 false) y.From y.To = false := cutAt_no _ _
            simp only [hcc, Bool.false_eq_true, if_false] at hP
            have hel : (l.eraseIdx x.N.toNat).length ≤ 256 := by rw [List.length_eraseIdx]; split <;> omega
            have heo : ∀ z ∈ l.eraseIdx x.N.toNat, okL z = true := fun z hz => hok z (List.mem_of_mem_eraseIdx hz)
            have hcnt : ∀ z, ((l.count z : Nat) : Int) = ((l.eraseIdx x.N.toNat).count z : Nat) + (if z = y then 1 else 0) := by
              intro z
              rw [show x.N.toNat = k by omega]
              exact count_erase hk z
            have hy0 := hmv y
            have hyc : 1 ≤ mv m y := by
              have h1 := hcnt y
              simp only [if_true] at h1
              omega
            have hput : ∀ z, mv (mput m y (mv m y - 1)) z = if z = y then mv m y - 1 else mv m z := fun z => mv_put _ _ _ _
            have hnz : cmpI .eql ((mget m y).getD 0) 0 = some false := by
              have h1 : (mget m y).getD 0 = mv m y := rfl
              simp only [cmpI, h1, Option.some.injEq, decide_eq_false_iff_not]
              omega
            apply Wp.seq
            apply Wp.region
            refine WpL.v (V.cmp) ?_
            apply WpL.nil
            apply Out.seqN
            apply Wp.seq
            refine Wp.c (fun h0 => ?_) (fun h0 => ?_)
            (try simp only [decide_eq_true_eq, decide_eq_false_iff_not, Bool.not_eq_true', Bool.not_eq_false', Bool.not_eq_true, Bool.not_eq_false, not_true_eq_false, not_false_eq_true, reduceCtorEq] at h0)
            apply Wp.skip
            apply Out.seqN
            apply Wp.seq
            apply Wp.block
            apply Wp.seq
            apply Wp.region
            refine WpL.v (V.ixR tb rfl rfl (by assumption)) ?_
            refine WpL.v (V.ldRA tb rfl (by assumption) (getMapS (by assumption))) ?_
            refine WpL.o (O.al tb (fun p6 => ?_))
            refine WpL.o (O.stA tb ?_)
            apply WpL.nil
            apply Out.seqN
            apply Wp.seq
            apply Wp.region
            refine WpL.v (V.fa tb) ?_
            refine WpL.v (V.ld1 tb) ?_
            apply WpL.nil
            apply Out.seqN
            apply Wp.block
            apply Wp.seq
            apply Wp.region
            refine WpL.v (V.cmp) ?_
            refine WpL.v (V.as) ?_
            apply WpL.nil
            apply Out.seqN
            refine Wp.c (fun h1 => ?_) (fun h1 => ?_)
            (try simp only [decide_eq_true_eq, decide_eq_false_iff_not, Bool.not_eq_true', Bool.not_eq_false', Bool.not_eq_true, Bool.not_eq_false, not_true_eq_false, not_false_eq_true, reduceCtorEq] at h1)
            (exfalso; omega)
            (try simp only [decide_eq_true_eq, decide_eq_false_iff_not, Bool.not_eq_true', Bool.not_eq_false', Bool.not_eq_true, Bool.not_eq_false, not_true_eq_false, not_false_eq_true, reduceCtorEq] at h1)
            apply Wp.seq
            apply Wp.region
            refine WpL.v (V.cmp) ?_
            refine WpL.v (V.as) ?_
            apply WpL.nil
            apply Out.seqN
            refine Wp.c (fun h2 => ?_) (fun h2 => ?_)
            (try simp only [decide_eq_true_eq, decide_eq_false_iff_not, Bool.not_eq_true', Bool.not_eq_false', Bool.not_eq_true, Bool.not_eq_false, not_true_eq_false, not_false_eq_true, reduceCtorEq] at h2)
            apply Wp.seq
            apply Wp.region
            refine WpL.v (V.mv) ?_
            refine WpL.v (V.fa tb) ?_
            refine WpL.v (V.ld1 tb) ?_
            refine WpL.o (Op1.callT rfl (hP) (by (repeat (first | exact Sel.nil | exact Rem.here | apply Sel.cons | apply Rem.there))) ?_)
            rintro v3 s4 ⟨v'44, ⟨rfl, rfl⟩⟩
            refine incat ?_
            refine WpL.v (V.mv) ?_
            refine WpL.v (V.ex) ?_
            refine WpL.v (V.ex) ?_
            refine WpL.o (O.al tb (fun p7 => ?_))
            refine WpL.o (O.stA tb ?_)
            refine WpL.v (V.as) ?_
            apply WpL.nil
            apply Out.seqN
            apply Wp.seq
            apply Wp.region
            refine WpL.v (V.mv) ?_
            apply WpL.nil
            apply Out.seqN
            refine Wp.cT ?_
            apply Wp.seq
            apply Wp.seq
            apply Wp.region
            refine WpL.v (V.mv) ?_
            refine WpL.v (V.ldA tb) ?_
            refine WpL.v (Val.lookD (l := m) (k := y) (vf := fun n : Int => I n) 0 kokL map70 zero3 rfl rfl (by (repeat first | exact List.Mem.head _ | apply List.Mem.tail))) ?_
            refine WpL.v (V.cmp rfl rfl hnz) ?_
            apply WpL.nil
            apply Out.seqN
            refine Wp.cF ?_
            apply Wp.skip
            apply Out.seqN
            refine Wp.dG [] ?_ (List.Sublist.cons_cons _ (List.Sublist.cons _ (List.Sublist.cons _ (List.Sublist.cons _ (List.Sublist.cons _ (List.Sublist.cons _ List.Sublist.slnil)))))) (List.Sublist.cons_cons _ (List.Sublist.cons _ (List.Sublist.cons _ (List.Sublist.cons _ (List.Sublist.cons _ (List.Sublist.cons _ List.Sublist.slnil))))))
            refine WpA.tF 0 rfl (V.mv) ?_
            refine WpA.tF 1 rfl (V.ldA tb) ?_
            refine WpA.e2 2 4 rfl rfl ?_ ?_
            refine Op1.vv (Val.lookD (l := m) (k := y) (vf := fun n : Int => I n) 0 kokL map70 zero3 rfl rfl (by (repeat first | exact List.Mem.head _ | apply List.Mem.tail))) ⟨?_, ?_, ?_⟩
            exact holdT
            exact holdT
            refine WpA.tF 3 rfl (V.sub rfl rfl ⟨by have := hyc; unfold mv at this; omega, by have := hy0.2; unfold mv at this; omega⟩) ?_
            refine WpA.oS 4 rfl (Op1.entM (l := m) (k := y) (vf := fun n : Int => I n) 0 kokL map70 zero3 rfl rfl (by (intro _; repeat first | exact Upd.here _ _ _ | apply Upd.there)) (fun s56 => ⟨?_, ?_, ?_⟩))
            exact holdT
            exact holdT
            refine WpA.tF 5 rfl (V.ex) ?_
            refine WpA.oS 6 rfl (Op1.entS (l := m) (k := y) (v := mv m y - 1) (vf := fun n : Int => I n) rfl rfl rfl (by (repeat first | exact Upd.here _ _ _ | apply Upd.there)) ⟨?_, ?_, ?_⟩)
            exact holdT
            exact holdT
            refine WpA.ou ?_
            apply Out.blockN
            apply Out.blockN
            apply Out.seqN
            apply Wp.region
            refine WpL.v (V.add) ?_
            refine WpL.v (V.mv) ?_
            apply WpL.nil
            rotate_left
            refine Op1.entM (l := m) (k := y) (vf := fun n : Int => I n) 0 kokL map70 zero3 rfl rfl (by (intro _; repeat first | exact Upd.here _ _ _ | apply Upd.there)) (fun s56 => ⟨?_, ?_, ?_⟩)
            exact holdT
            exact holdT
            refine WpA.tF 5 rfl (V.ex) ?_
            refine WpA.oS 2 rfl (Op1.vv (Val.lookP (l := m) (k := y) (vf := fun n : Int => I n) kokL map70 rfl rfl (by (repeat first | exact List.Mem.head _ | apply List.Mem.tail))) ⟨?_, ?_, ?_⟩)
            exact holdT
            exact holdT
            refine WpA.tF 3 rfl (V.sub rfl rfl ⟨by have := hyc; unfold mv at this; omega, by have := hy0.2; unfold mv at this; omega⟩) ?_
            refine WpA.oS 6 rfl (Op1.entS (l := m) (k := y) (v := mv m y - 1) (vf := fun n : Int => I n) rfl rfl rfl (by (repeat first | exact Upd.here _ _ _ | apply Upd.there)) ⟨?_, ?_, ?_⟩)
            exact holdT
            exact holdT
            refine WpA.ou ?_
            apply Out.blockN
            apply Out.blockN
            apply Out.seqN
            apply Wp.region
            refine WpL.v (V.add) ?_
            refine WpL.v (V.mv) ?_
            apply WpL.nil
            rotate_left
            (try simp only [decide_eq_true_eq, decide_eq_false_iff_not, Bool.not_eq_true', Bool.not_eq_false', Bool.not_eq_true, Bool.not_eq_false, not_true_eq_false, not_false_eq_true, reduceCtorEq] at h2)
            (exfalso; omega)
            (try simp only [decide_eq_true_eq, decide_eq_false_iff_not, Bool.not_eq_true', Bool.not_eq_false', Bool.not_eq_true, Bool.not_eq_false, not_true_eq_false, not_false_eq_true, reduceCtorEq] at h0)
            (exfalso; omega)
            all_goals exact Out.ag hK ⟨i + 1, _, n, l.eraseIdx x.N.toNat, mput m y (mv m y - 1)⟩ ⟨by show i + 1 ≤ _; omega, by show 0 ≤ n; omega, by show n ≤ ((i + 1 : Nat) : Int); omega, hel, heo, fun z => by (show (((l.eraseIdx x.N.toNat).count z : Nat) : Int) ≤ mv (mput m y (mv m y - 1)) z ∧ mv (mput m y (mv m y - 1)) z ≤ ((i + 1 : Nat) : Int)); rw [hput z]; have := hmv z; have := hcnt z; split <;> (first | (subst_vars; simp only [if_true] at *; omega) | (simp_all; omega))⟩ (by show xs.length - (i + 1) < xs.length - i; omega)
        · by_cases k2 : x.Kind = 2
          · have hP := pool_lose b14 v l (List.replicate 49 false) n x.N rfl (by omega)
            cases ha : atP l x.N with
            | none =>
              simp only [ha, Option.isSome_none] at hP
              apply Wp.seq
              apply Wp.region
              refine WpL.v (V.cmp) ?_
              apply WpL.nil
              apply Out.seqN
              apply Wp.seq
              refine Wp.c (fun h0 => ?_) (fun h0 => ?_)
              (try simp only [decide_eq_true_eq, decide_eq_false_iff_not, Bool.not_eq_true', Bool.not_eq_false', Bool.not_eq_true, Bool.not_eq_false, not_true_eq_false, not_false_eq_true, reduceCtorEq] at h0)
              apply Wp.skip
              apply Out.seqN
              apply Wp.seq
              apply Wp.block
              apply Wp.seq
              apply Wp.region
              refine WpL.v (V.ixR tb rfl rfl (by assumption)) ?_
              refine WpL.v (V.ldRA tb rfl (by assumption) (getMapS (by assumption))) ?_
              refine WpL.o (O.al tb (fun p6 => ?_))
              refine WpL.o (O.stA tb ?_)
              apply WpL.nil
              apply Out.seqN
              apply Wp.seq
              apply Wp.region
              refine WpL.v (V.fa tb) ?_
              refine WpL.v (V.ld1 tb) ?_
              apply WpL.nil
              apply Out.seqN
              apply Wp.block
              apply Wp.seq
              apply Wp.region
              refine WpL.v (V.cmp) ?_
              refine WpL.v (V.as) ?_
              apply WpL.nil
              apply Out.seqN
              refine Wp.c (fun h1 => ?_) (fun h1 => ?_)
              (try simp only [decide_eq_true_eq, decide_eq_false_iff_not, Bool.not_eq_true', Bool.not_eq_false', Bool.not_eq_true, Bool.not_eq_false, not_true_eq_false, not_false_eq_true, reduceCtorEq] at h1)
              (exfalso; omega)
              (try simp only [decide_eq_true_eq, decide_eq_false_iff_not, Bool.not_eq_true', Bool.not_eq_false', Bool.not_eq_true, Bool.not_eq_false, not_true_eq_false, not_false_eq_true, reduceCtorEq] at h1)
              apply Wp.seq
              apply Wp.region
              refine WpL.v (V.cmp) ?_
              refine WpL.v (V.as) ?_
              apply WpL.nil
              apply Out.seqN
              refine Wp.c (fun h2 => ?_) (fun h2 => ?_)
              (try simp only [decide_eq_true_eq, decide_eq_false_iff_not, Bool.not_eq_true', Bool.not_eq_false', Bool.not_eq_true, Bool.not_eq_false, not_true_eq_false, not_false_eq_true, reduceCtorEq] at h2)
              (exfalso; omega)
              (try simp only [decide_eq_true_eq, decide_eq_false_iff_not, Bool.not_eq_true', Bool.not_eq_false', Bool.not_eq_true, Bool.not_eq_false, not_true_eq_false, not_false_eq_true, reduceCtorEq] at h2)
              apply Wp.seq
              apply Wp.region
              refine WpL.v (V.cmp) ?_
              refine WpL.v (V.as) ?_
              apply WpL.nil
              apply Out.seqN
              refine Wp.c (fun h3 => ?_) (fun h3 => ?_)
              (try simp only [decide_eq_true_eq, decide_eq_false_iff_not, Bool.not_eq_true', Bool.not_eq_false', Bool.not_eq_true, Bool.not_eq_false, not_true_eq_false, not_false_eq_true, reduceCtorEq] at h3)
              apply Wp.region
              refine WpL.v (V.mv) ?_
              refine WpL.v (V.fa tb) ?_
              refine WpL.v (V.ld1 tb) ?_
              refine WpL.o (Op1.callT rfl (hP) (by (repeat (first | exact Sel.nil | exact Rem.here | apply Sel.cons | apply Rem.there))) ?_)
              rintro v4 s5 ⟨v'63, ⟨rfl, rfl⟩⟩
              refine incat ?_
              apply WpL.nil
              apply Out.blockN
              apply Out.blockN
              apply Out.seqN
              apply Wp.region
              refine WpL.v (V.add) ?_
              refine WpL.v (V.mv) ?_
              apply WpL.nil
              rotate_left
              (try simp only [decide_eq_true_eq, decide_eq_false_iff_not, Bool.not_eq_true', Bool.not_eq_false', Bool.not_eq_true, Bool.not_eq_false, not_true_eq_false, not_false_eq_true, reduceCtorEq] at h3)
              (exfalso; omega)
              (try simp only [decide_eq_true_eq, decide_eq_false_iff_not, Bool.not_eq_true', Bool.not_eq_false', Bool.not_eq_true, Bool.not_eq_false, not_true_eq_false, not_false_eq_true, reduceCtorEq] at h0)
              (exfalso; omega)
              all_goals exact Out.ag hK ⟨i + 1, _, n, l, m⟩ ⟨by show i + 1 ≤ _; omega, by show 0 ≤ n; omega, by show n ≤ ((i + 1 : Nat) : Int); omega, hl, hok, hmv'⟩ (by show xs.length - (i + 1) < xs.length - i; omega)
            | some y =>
              obtain ⟨k, hk0, hk, hklt⟩ := atP_some ha
              simp only [ha, Option.isSome_some] at hP
              have hel : (l.eraseIdx x.N.toNat).length ≤ 256 := by rw [List.length_eraseIdx]; split <;> omega
              have heo : ∀ z ∈ l.eraseIdx x.N.toNat, okL z = true := fun z hz => hok z (List.mem_of_mem_eraseIdx hz)
              have hcnt : ∀ z, (((l.eraseIdx x.N.toNat).count z : Nat) : Int) ≤ (l.count z : Nat) := by
                intro z
                rw [show x.N.toNat = k by omega, count_erase hk z]
                split <;> omega
              apply Wp.seq
              apply Wp.region
              refine WpL.v (V.cmp) ?_
              apply WpL.nil
              apply Out.seqN
              apply Wp.seq
              refine Wp.c (fun h0 => ?_) (fun h0 => ?_)
              (try simp only [decide_eq_true_eq, decide_eq_false_iff_not, Bool.not_eq_true', Bool.not_eq_false', Bool.not_eq_true, Bool.not_eq_false, not_true_eq_false, not_false_eq_true, reduceCtorEq] at h0)
              apply Wp.skip
              apply Out.seqN
              apply Wp.seq
              apply Wp.block
              apply Wp.seq
              apply Wp.region
              refine WpL.v (V.ixR tb rfl rfl (by assumption)) ?_
              refine WpL.v (V.ldRA tb rfl (by assumption) (getMapS (by assumption))) ?_
              refine WpL.o (O.al tb (fun p6 => ?_))
              refine WpL.o (O.stA tb ?_)
              apply WpL.nil
              apply Out.seqN
              apply Wp.seq
              apply Wp.region
              refine WpL.v (V.fa tb) ?_
              refine WpL.v (V.ld1 tb) ?_
              apply WpL.nil
              apply Out.seqN
              apply Wp.block
              apply Wp.seq
              apply Wp.region
              refine WpL.v (V.cmp) ?_
              refine WpL.v (V.as) ?_
              apply WpL.nil
              apply Out.seqN
              refine Wp.c (fun h1 => ?_) (fun h1 => ?_)
              (try simp only [decide_eq_true_eq, decide_eq_false_iff_not, Bool.not_eq_true', Bool.not_eq_false', Bool.not_eq_true, Bool.not_eq_false, not_true_eq_false, not_false_eq_true, reduceCtorEq] at h1)
              (exfalso; omega)
              (try simp only [decide_eq_true_eq, decide_eq_false_iff_not, Bool.not_eq_true', Bool.not_eq_false', Bool.not_eq_true, Bool.not_eq_false, not_true_eq_false, not_false_eq_true, reduceCtorEq] at h1)
              apply Wp.seq
              apply Wp.region
              refine WpL.v (V.cmp) ?_
              refine WpL.v (V.as) ?_
              apply WpL.nil
              apply Out.seqN
              refine Wp.c (fun h2 => ?_) (fun h2 => ?_)
              (try simp only [decide_eq_true_eq, decide_eq_false_iff_not, Bool.not_eq_true', Bool.not_eq_false', Bool.not_eq_true, Bool.not_eq_false, not_true_eq_false, not_false_eq_true, reduceCtorEq] at h2)
              (exfalso; omega)
              (try simp only [decide_eq_true_eq, decide_eq_false_iff_not, Bool.not_eq_true', Bool.not_eq_false', Bool.not_eq_true, Bool.not_eq_false, not_true_eq_false, not_false_eq_true, reduceCtorEq] at h2)
              apply Wp.seq
              apply Wp.region
              refine WpL.v (V.cmp) ?_
              refine WpL.v (V.as) ?_
              apply WpL.nil
              apply Out.seqN
              refine Wp.c (fun h3 => ?_) (fun h3 => ?_)
              (try simp only [decide_eq_true_eq, decide_eq_false_iff_not, Bool.not_eq_true', Bool.not_eq_false', Bool.not_eq_true, Bool.not_eq_false, not_true_eq_false, not_false_eq_true, reduceCtorEq] at h3)
              apply Wp.region
              refine WpL.v (V.mv) ?_
              refine WpL.v (V.fa tb) ?_
              refine WpL.v (V.ld1 tb) ?_
              refine WpL.o (Op1.callT rfl (hP) (by (repeat (first | exact Sel.nil | exact Rem.here | apply Sel.cons | apply Rem.there))) ?_)
              rintro v4 s5 ⟨v'63, ⟨rfl, rfl⟩⟩
              refine incat ?_
              apply WpL.nil
              apply Out.blockN
              apply Out.blockN
              apply Out.seqN
              apply Wp.region
              refine WpL.v (V.add) ?_
              refine WpL.v (V.mv) ?_
              apply WpL.nil
              rotate_left
              (try simp only [decide_eq_true_eq, decide_eq_false_iff_not, Bool.not_eq_true', Bool.not_eq_false', Bool.not_eq_true, Bool.not_eq_false, not_true_eq_false, not_false_eq_true, reduceCtorEq] at h3)
              (exfalso; omega)
              (try simp only [decide_eq_true_eq, decide_eq_false_iff_not, Bool.not_eq_true', Bool.not_eq_false', Bool.not_eq_true, Bool.not_eq_false, not_true_eq_false, not_false_eq_true, reduceCtorEq] at h0)
              (exfalso; omega)
              all_goals exact Out.ag hK ⟨i + 1, _, n + 1, l.eraseIdx x.N.toNat, m⟩ ⟨by show i + 1 ≤ _; omega, by show 0 ≤ n + 1; omega, by show n + 1 ≤ ((i + 1 : Nat) : Int); omega, hel, heo, fun z => by (show (((l.eraseIdx x.N.toNat).count z : Nat) : Int) ≤ mv m z ∧ mv m z ≤ ((i + 1 : Nat) : Int)); have h1 := hmv z; have h2 := hcnt z; constructor <;> omega⟩ (by show xs.length - (i + 1) < xs.length - i; omega)
          · by_cases k3 : x.Kind = 3
            · have hA := pool_all b14 v l (List.replicate 49 false) n hl
              have hP := pool_twice b14 v l (List.replicate 49 false) n x.N hl
              by_cases hcan : canTwice l x.N = true
              · obtain ⟨y, ha⟩ : ∃ y, atP l x.N = some y := by
                  cases h : atP l x.N with
                  | none => simp [canTwice, h] at hcan
                  | some y => exact ⟨y, rfl⟩
                obtain ⟨k, hk0, hk, hklt⟩ := atP_some ha
                have h4 : l.length < 256 := by simpa [canTwice, ha] using hcan
                have e2 : twiceL l x.N = l ++ [y] := by simp [twiceL, ha, h4]
                rw [hcan, e2] at hP
                have hy0 := hmv y
                have hyn : 0 ≤ mv m y := by have := hy0.1; omega
                have hput : ∀ z, mv (mput m y (mv m y + 1)) z = if z = y then mv m y + 1 else mv m z := fun z => mv_put _ _ _ _
                have hokl : ∀ z ∈ l ++ [y], okL z = true := by
                  intro z hz
                  rcases List.mem_append.1 hz with h | h
                  · exact hok z h
                  · rw [List.mem_singleton.1 h]; exact hok y (List.mem_of_getElem? hk)
                have hcnt : ∀ z, (((l ++ [y]).count z : Nat) : Int) = (l.count z : Nat) + (if z = y then 1 else 0) := by
                  intro z
                  rw [List.count_append, List.count_singleton]
                  by_cases h : z = y
                  · simp [h]
                  · simp [h, Ne.symm h]
                apply Wp.seq
                apply Wp.region
                refine WpL.v (V.cmp) ?_
                apply WpL.nil
                apply Out.seqN
                apply Wp.seq
                refine Wp.c (fun h0 => ?_) (fun h0 => ?_)
                (try simp only [decide_eq_true_eq, decide_eq_false_iff_not, Bool.not_eq_true', Bool.not_eq_false', Bool.not_eq_true, Bool.not_eq_false, not_true_eq_false, not_false_eq_true, reduceCtorEq] at h0)
                apply Wp.skip
                apply Out.seqN
                apply Wp.seq
                apply Wp.block
                apply Wp.seq
                apply Wp.region
                refine WpL.v (V.ixR tb rfl rfl (by assumption)) ?_
                refine WpL.v (V.ldRA tb rfl (by assumption) (getMapS (by assumption))) ?_
                refine WpL.o (O.al tb (fun p6 => ?_))
                refine WpL.o (O.stA tb ?_)
                apply WpL.nil
                apply Out.seqN
                apply Wp.seq
                apply Wp.region
                refine WpL.v (V.fa tb) ?_
                refine WpL.v (V.ld1 tb) ?_
                apply WpL.nil
                apply Out.seqN
                apply Wp.block
                apply Wp.seq
                apply Wp.region
                refine WpL.v (V.cmp) ?_
                refine WpL.v (V.as) ?_
                apply WpL.nil
                apply Out.seqN
                refine Wp.c (fun h1 => ?_) (fun h1 => ?_)
                (try simp only [decide_eq_true_eq, decide_eq_false_iff_not, Bool.not_eq_true', Bool.not_eq_false', Bool.not_eq_true, Bool.not_eq_false, not_true_eq_false, not_false_eq_true, reduceCtorEq] at h1)
                (exfalso; omega)
                (try simp only [decide_eq_true_eq, decide_eq_false_iff_not, Bool.not_eq_true', Bool.not_eq_false', Bool.not_eq_true, Bool.not_eq_false, not_true_eq_false, not_false_eq_true, reduceCtorEq] at h1)
                apply Wp.seq
                apply Wp.region
                refine WpL.v (V.cmp) ?_
                refine WpL.v (V.as) ?_
                apply WpL.nil
                apply Out.seqN
                refine Wp.c (fun h2 => ?_) (fun h2 => ?_)
                (try simp only [decide_eq_true_eq, decide_eq_false_iff_not, Bool.not_eq_true', Bool.not_eq_false', Bool.not_eq_true, Bool.not_eq_false, not_true_eq_false, not_false_eq_true, reduceCtorEq] at h2)
                (exfalso; omega)
                (try simp only [decide_eq_true_eq, decide_eq_false_iff_not, Bool.not_eq_true', Bool.not_eq_false', Bool.not_eq_true, Bool.not_eq_false, not_true_eq_false, not_false_eq_true, reduceCtorEq] at h2)
                apply Wp.seq
                apply Wp.region
                refine WpL.v (V.cmp) ?_
                refine WpL.v (V.as) ?_
                apply WpL.nil
                apply Out.seqN
                refine Wp.c (fun h3 => ?_) (fun h3 => ?_)
                (try simp only [decide_eq_true_eq, decide_eq_false_iff_not, Bool.not_eq_true', Bool.not_eq_false', Bool.not_eq_true, Bool.not_eq_false, not_true_eq_false, not_false_eq_true, reduceCtorEq] at h3)
                (exfalso; omega)
                (try simp only [decide_eq_true_eq, decide_eq_false_iff_not, Bool.not_eq_true', Bool.not_eq_false', Bool.not_eq_true, Bool.not_eq_false, not_true_eq_false, not_false_eq_true, reduceCtorEq] at h3)
                apply Wp.seq
                apply Wp.region
                refine WpL.v (V.cmp) ?_
                refine WpL.v (V.as) ?_
                apply WpL.nil
                apply Out.seqN
                refine Wp.c (fun h4 => ?_) (fun h4 => ?_)
                (try simp only [decide_eq_true_eq, decide_eq_false_iff_not, Bool.not_eq_true', Bool.not_eq_false', Bool.not_eq_true, Bool.not_eq_false, not_true_eq_false, not_false_eq_true, reduceCtorEq] at h4)
                apply Wp.seq
                apply Wp.region
                refine WpL.v (V.mv) ?_
                refine WpL.o (Op1.callT rfl (hA) (by (repeat (first | exact Sel.nil | exact Rem.here | apply Sel.cons | apply Rem.there))) ?_)
                rintro v6 s7 ⟨e67, ⟨ao67, ⟨cap67, ⟨bb67, ⟨hx5, ⟨rfl, rfl⟩⟩⟩⟩⟩⟩
                refine incat ?_
                refine WpL.v (V.as) ?_
                apply WpL.nil
                apply Out.seqN
                apply Wp.seq
                apply Wp.region
                refine WpL.v (V.mv) ?_
                refine WpL.v (V.fa tb) ?_
                refine WpL.v (V.ld1 tb) ?_
                refine WpL.o (Op1.callT rfl (hP) (by (repeat (first | exact Sel.nil | exact Rem.here | apply Sel.cons | apply Rem.there))) ?_)
                rintro v8 s9 ⟨v'71, ⟨rfl, rfl⟩⟩
                refine incat ?_
                apply WpL.nil
                apply Out.seqN
                refine Wp.cT ?_
                refine Wp.dG [] ?_ (List.Sublist.cons _ (List.Sublist.cons _ (List.Sublist.cons _ (List.Sublist.cons_cons _ (List.Sublist.cons _ (List.Sublist.cons _ List.Sublist.slnil)))))) (List.Sublist.cons _ (List.Sublist.cons _ (List.Sublist.cons _ (List.Sublist.cons_cons _ (List.Sublist.cons _ (List.Sublist.cons _ List.Sublist.slnil))))))
                refine WpA.tF 0 rfl (V.mv) ?_
                refine WpA.tF 1 rfl (V.mv) ?_
                refine WpA.tF 2 rfl (V.fa tb) ?_
                refine WpA.tF 3 rfl (V.ld1 tb) ?_
                refine WpA.tF 4 rfl (V.ixR tb (k := k) rfl (by rw [← hk0]; rfl) (by assumption)) ?_
                refine WpA.oS 5 rfl (Op1.vv (V.ldRA tb rfl (by assumption) (getMapS (by assumption))) ⟨?_, ?_, ?_⟩)
                exact holdT
                exact holdT
                refine WpA.e2 6 8 rfl rfl ?_ ?_
                refine Op1.vv (Val.lookD (l := m) (k := y) (vf := fun n : Int => I n) 0 kokL map70 zero3 rfl rfl (by (repeat first | exact List.Mem.head _ | apply List.Mem.tail))) ⟨?_, ?_, ?_⟩
                exact holdT
                exact holdT
                refine WpA.tF 7 rfl (V.add rfl rfl ⟨by have := hyn; unfold mv at this; omega, by have := hy0.2; unfold mv at this; omega⟩) ?_
                refine WpA.oS 8 rfl (Op1.entM (l := m) (k := y) (vf := fun n : Int => I n) 0 kokL map70 zero3 rfl rfl (by (intro _; repeat first | exact Upd.here _ _ _ | apply Upd.there)) (fun s80 => ⟨?_, ?_, ?_⟩))
                exact holdT
                exact holdT
                refine WpA.tF 9 rfl (V.ex) ?_
                refine WpA.oS 10 rfl (Op1.entS (l := m) (k := y) (v := mv m y + 1) (vf := fun n : Int => I n) rfl rfl rfl (by (repeat first | exact Upd.here _ _ _ | apply Upd.there)) ⟨?_, ?_, ?_⟩)
                exact holdT
                exact holdT
                refine WpA.ou ?_
                apply Out.blockN
                apply Out.blockN
                apply Out.seqN
                apply Wp.region
                refine WpL.v (V.add rfl rfl ⟨by have := hyn; unfold mv at this; omega, by have := hy0.2; unfold mv at this; omega⟩) ?_
                refine WpL.v (V.mv) ?_
                apply WpL.nil
                rotate_left
                refine Op1.entM (l := m) (k := y) (vf := fun n : Int => I n) 0 kokL map70 zero3 rfl rfl (by (intro _; repeat first | exact Upd.here _ _ _ | apply Upd.there)) (fun s80 => ⟨?_, ?_, ?_⟩)
                exact holdT
                exact holdT
                refine WpA.tF 9 rfl (V.ex) ?_
                refine WpA.oS 6 rfl (Op1.vv (Val.lookP (l := m) (k := y) (vf := fun n : Int => I n) kokL map70 rfl rfl (by (repeat first | exact List.Mem.head _ | apply List.Mem.tail))) ⟨?_, ?_, ?_⟩)
                exact holdT
                exact holdT
                refine WpA.tF 7 rfl (V.add rfl rfl ⟨by have := hyn; unfold mv at this; omega, by have := hy0.2; unfold mv at this; omega⟩) ?_
                refine WpA.oS 10 rfl (Op1.entS (l := m) (k := y) (v := mv m y + 1) (vf := fun n : Int => I n) rfl rfl rfl (by (repeat first | exact Upd.here _ _ _ | apply Upd.there)) ⟨?_, ?_, ?_⟩)
                exact holdT
                exact holdT
                refine WpA.ou ?_
                apply Out.blockN
                apply Out.blockN
                apply Out.seqN
                apply Wp.region
                refine WpL.v (V.add rfl rfl ⟨by have := hyn; unfold mv at this; omega, by have := hy0.2; unfold mv at this; omega⟩) ?_
                refine WpL.v (V.mv) ?_
                apply WpL.nil
                rotate_left
                (try simp only [decide_eq_true_eq, decide_eq_false_iff_not, Bool.not_eq_true', Bool.not_eq_false', Bool.not_eq_true, Bool.not_eq_false, not_true_eq_false, not_false_eq_true, reduceCtorEq] at h4)
                (exfalso; omega)
                (try simp only [decide_eq_true_eq, decide_eq_false_iff_not, Bool.not_eq_true', Bool.not_eq_false', Bool.not_eq_true, Bool.not_eq_false, not_true_eq_false, not_false_eq_true, reduceCtorEq] at h0)
                (exfalso; omega)
                all_goals exact Out.ag hK ⟨i + 1, _, n, l ++ [y], mput m y (mv m y + 1)⟩ ⟨by show i + 1 ≤ _; omega, by show 0 ≤ n; omega, by show n ≤ ((i + 1 : Nat) : Int); omega, (by show (l ++ [y]).length ≤ 256; simp; omega), hokl, fun z => by (show (((l ++ [y]).count z : Nat) : Int) ≤ mv (mput m y (mv m y + 1)) z ∧ mv (mput m y (mv m y + 1)) z ≤ ((i + 1 : Nat) : Int)); rw [hput z, hcnt z]; have := hmv z; split <;> (first | (subst_vars; omega) | omega)⟩ (by show xs.length - (i + 1) < xs.length - i; omega)
              · have hcf : canTwice l x.N = false := by simpa using hcan
                have e2 : twiceL l x.N = l := by
                  unfold twiceL
                  cases h : atP l x.N with
                  | none => rfl
                  | some y => simp [canTwice, h] at hcf; simp; omega
                rw [hcf, e2] at hP
                apply Wp.seq
                apply Wp.region
                refine WpL.v (V.cmp) ?_
                apply WpL.nil
                apply Out.seqN
                apply Wp.seq
                refine Wp.c (fun h0 => ?_) (fun h0 => ?_)
                (try simp only [decide_eq_true_eq, decide_eq_false_iff_not, Bool.not_eq_true', Bool.not_eq_false', Bool.not_eq_true, Bool.not_eq_false, not_true_eq_false, not_false_eq_true, reduceCtorEq] at h0)
                apply Wp.skip
                apply Out.seqN
                apply Wp.seq
                apply Wp.block
                apply Wp.seq
                apply Wp.region
                refine WpL.v (V.ixR tb rfl rfl (by assumption)) ?_
                refine WpL.v (V.ldRA tb rfl (by assumption) (getMapS (by assumption))) ?_
                refine WpL.o (O.al tb (fun p6 => ?_))
                refine WpL.o (O.stA tb ?_)
                apply WpL.nil
                apply Out.seqN
                apply Wp.seq
                apply Wp.region
                refine WpL.v (V.fa tb) ?_
                refine WpL.v (V.ld1 tb) ?_
                apply WpL.nil
                apply Out.seqN
                apply Wp.block
                apply Wp.seq
                apply Wp.region
                refine WpL.v (V.cmp) ?_
                refine WpL.v (V.as) ?_
                apply WpL.nil
                apply Out.seqN
                refine Wp.c (fun h1 => ?_) (fun h1 => ?_)
                (try simp only [decide_eq_true_eq, decide_eq_false_iff_not, Bool.not_eq_true', Bool.not_eq_false', Bool.not_eq_true, Bool.not_eq_false, not_true_eq_false, not_false_eq_true, reduceCtorEq] at h1)
                (exfalso; omega)
                (try simp only [decide_eq_true_eq, decide_eq_false_iff_not, Bool.not_eq_true', Bool.not_eq_false', Bool.not_eq_true, Bool.not_eq_false, not_true_eq_false, not_false_eq_true, reduceCtorEq] at h1)
                apply Wp.seq
                apply Wp.region
                refine WpL.v (V.cmp) ?_
                refine WpL.v (V.as) ?_
                apply WpL.nil
                apply Out.seqN
                refine Wp.c (fun h2 => ?_) (fun h2 => ?_)
                (try simp only [decide_eq_true_eq, decide_eq_false_iff_not, Bool.not_eq_true', Bool.not_eq_false', Bool.not_eq_true, Bool.not_eq_false, not_true_eq_false, not_false_eq_true, reduceCtorEq] at h2)
                (exfalso; omega)
                (try simp only [decide_eq_true_eq, decide_eq_false_iff_not, Bool.not_eq_true', Bool.not_eq_false', Bool.not_eq_true, Bool.not_eq_false, not_true_eq_false, not_false_eq_true, reduceCtorEq] at h2)
                apply Wp.seq
                apply Wp.region
                refine WpL.v (V.cmp) ?_
                refine WpL.v (V.as) ?_
                apply WpL.nil
                apply Out.seqN
                refine Wp.c (fun h3 => ?_) (fun h3 => ?_)
                (try simp only [decide_eq_true_eq, decide_eq_false_iff_not, Bool.not_eq_true', Bool.not_eq_false', Bool.not_eq_true, Bool.not_eq_false, not_true_eq_false, not_false_eq_true, reduceCtorEq] at h3)
                (exfalso; omega)
                (try simp only [decide_eq_true_eq, decide_eq_false_iff_not, Bool.not_eq_true', Bool.not_eq_false', Bool.not_eq_true, Bool.not_eq_false, not_true_eq_false, not_false_eq_true, reduceCtorEq] at h3)
                apply Wp.seq
                apply Wp.region
                refine WpL.v (V.cmp) ?_
                refine WpL.v (V.as) ?_
                apply WpL.nil
                apply Out.seqN
                refine Wp.c (fun h4 => ?_) (fun h4 => ?_)
                (try simp only [decide_eq_true_eq, decide_eq_false_iff_not, Bool.not_eq_true', Bool.not_eq_false', Bool.not_eq_true, Bool.not_eq_false, not_true_eq_false, not_false_eq_true, reduceCtorEq] at h4)
                apply Wp.seq
                apply Wp.region
                refine WpL.v (V.mv) ?_
                refine WpL.o (Op1.callT rfl (hA) (by (repeat (first | exact Sel.nil | exact Rem.here | apply Sel.cons | apply Rem.there))) ?_)
                rintro v6 s7 ⟨e67, ⟨ao67, ⟨cap67, ⟨bb67, ⟨hx5, ⟨rfl, rfl⟩⟩⟩⟩⟩⟩
                refine incat ?_
                refine WpL.v (V.as) ?_
                apply WpL.nil
                apply Out.seqN
                apply Wp.seq
                apply Wp.region
                refine WpL.v (V.mv) ?_
                refine WpL.v (V.fa tb) ?_
                refine WpL.v (V.ld1 tb) ?_
                refine WpL.o (Op1.callT rfl (hP) (by (repeat (first | exact Sel.nil | exact Rem.here | apply Sel.cons | apply Rem.there))) ?_)
                rintro v8 s9 ⟨v'71, ⟨rfl, rfl⟩⟩
                refine incat ?_
                apply WpL.nil
                apply Out.seqN
                refine Wp.cF ?_
                apply Wp.skip
                apply Out.blockN
                apply Out.blockN
                apply Out.seqN
                apply Wp.region
                refine WpL.v (V.add) ?_
                refine WpL.v (V.mv) ?_
                apply WpL.nil
                rotate_left
                (try simp only [decide_eq_true_eq, decide_eq_false_iff_not, Bool.not_eq_true', Bool.not_eq_false', Bool.not_eq_true, Bool.not_eq_false, not_true_eq_false, not_false_eq_true, reduceCtorEq] at h4)
                (exfalso; omega)
                (try simp only [decide_eq_true_eq, decide_eq_false_iff_not, Bool.not_eq_true', Bool.not_eq_false', Bool.not_eq_true, Bool.not_eq_false, not_true_eq_false, not_false_eq_true, reduceCtorEq] at h0)
                (exfalso; omega)
                all_goals exact Out.ag hK ⟨i + 1, _, n, l, m⟩ ⟨by show i + 1 ≤ _; omega, by show 0 ≤ n; omega, by show n ≤ ((i + 1 : Nat) : Int); omega, hl, hok, hmv'⟩ (by show xs.length - (i + 1) < xs.length - i; omega)
            · apply Wp.seq
              apply Wp.region
              refine WpL.v (V.cmp) ?_
              apply WpL.nil
              apply Out.seqN
              apply Wp.seq
              refine Wp.c (fun hk40 => ?_) (fun hk40 => ?_)
              (try simp only [decide_eq_true_eq, decide_eq_false_iff_not, Bool.not_eq_true', Bool.not_eq_false', Bool.not_eq_true, Bool.not_eq_false, not_true_eq_false, not_false_eq_true, reduceCtorEq] at hk40)
              apply Wp.skip
              apply Out.seqN
              apply Wp.seq
              apply Wp.block
              apply Wp.seq
              apply Wp.region
              refine WpL.v (V.ixR tb rfl rfl (by assumption)) ?_
              refine WpL.v (V.ldRA tb rfl (by assumption) (getMapS (by assumption))) ?_
              refine WpL.o (O.al tb (fun p6 => ?_))
              refine WpL.o (O.stA tb ?_)
              apply WpL.nil
              apply Out.seqN
              apply Wp.seq
              apply Wp.region
              refine WpL.v (V.fa tb) ?_
              refine WpL.v (V.ld1 tb) ?_
              apply WpL.nil
              apply Out.seqN
              apply Wp.block
              apply Wp.seq
              apply Wp.region
              refine WpL.v (V.cmp) ?_
              refine WpL.v (V.as) ?_
              apply WpL.nil
              apply Out.seqN
              refine Wp.c (fun hk41 => ?_) (fun hk41 => ?_)
              (try simp only [decide_eq_true_eq, decide_eq_false_iff_not, Bool.not_eq_true', Bool.not_eq_false', Bool.not_eq_true, Bool.not_eq_false, not_true_eq_false, not_false_eq_true, reduceCtorEq] at hk41)
              (exfalso; omega)
              (try simp only [decide_eq_true_eq, decide_eq_false_iff_not, Bool.not_eq_true', Bool.not_eq_false', Bool.not_eq_true, Bool.not_eq_false, not_true_eq_false, not_false_eq_true, reduceCtorEq] at hk41)
              apply Wp.seq
              apply Wp.region
              refine WpL.v (V.cmp) ?_
              refine WpL.v (V.as) ?_
              apply WpL.nil
              apply Out.seqN
              refine Wp.c (fun hk42 => ?_) (fun hk42 => ?_)
              (try simp only [decide_eq_true_eq, decide_eq_false_iff_not, Bool.not_eq_true', Bool.not_eq_false', Bool.not_eq_true, Bool.not_eq_false, not_true_eq_false, not_false_eq_true, reduceCtorEq] at hk42)
              (exfalso; omega)
              (try simp only [decide_eq_true_eq, decide_eq_false_iff_not, Bool.not_eq_true', Bool.not_eq_false', Bool.not_eq_true, Bool.not_eq_false, not_true_eq_false, not_false_eq_true, reduceCtorEq] at hk42)
              apply Wp.seq
              apply Wp.region
              refine WpL.v (V.cmp) ?_
              refine WpL.v (V.as) ?_
              apply WpL.nil
              apply Out.seqN
              refine Wp.c (fun hk43 => ?_) (fun hk43 => ?_)
              (try simp only [decide_eq_true_eq, decide_eq_false_iff_not, Bool.not_eq_true', Bool.not_eq_false', Bool.not_eq_true, Bool.not_eq_false, not_true_eq_false, not_false_eq_true, reduceCtorEq] at hk43)
              (exfalso; omega)
              (try simp only [decide_eq_true_eq, decide_eq_false_iff_not, Bool.not_eq_true', Bool.not_eq_false', Bool.not_eq_true, Bool.not_eq_false, not_true_eq_false, not_false_eq_true, reduceCtorEq] at hk43)
              apply Wp.seq
              apply Wp.region
              refine WpL.v (V.cmp) ?_
              refine WpL.v (V.as) ?_
              apply WpL.nil
              apply Out.seqN
              refine Wp.c (fun hk44 => ?_) (fun hk44 => ?_)
              (try simp only [decide_eq_true_eq, decide_eq_false_iff_not, Bool.not_eq_true', Bool.not_eq_false', Bool.not_eq_true, Bool.not_eq_false, not_true_eq_false, not_false_eq_true, reduceCtorEq] at hk44)
              (exfalso; omega)
              (try simp only [decide_eq_true_eq, decide_eq_false_iff_not, Bool.not_eq_true', Bool.not_eq_false', Bool.not_eq_true, Bool.not_eq_false, not_true_eq_false, not_false_eq_true, reduceCtorEq] at hk44)
              apply Wp.skip
              apply Out.blockN
              apply Out.blockN
              apply Out.seqN
              apply Wp.region
              refine WpL.v (V.add) ?_
              refine WpL.v (V.mv) ?_
              apply WpL.nil
              rotate_left
              (try simp only [decide_eq_true_eq, decide_eq_false_iff_not, Bool.not_eq_true', Bool.not_eq_false', Bool.not_eq_true, Bool.not_eq_false, not_true_eq_false, not_false_eq_true, reduceCtorEq] at hk40)
              (exfalso; omega)
              all_goals exact Out.ag hK ⟨i + 1, _, n, l, m⟩ ⟨by show i + 1 ≤ _; omega, by show 0 ≤ n; omega, by show n ≤ ((i + 1 : Nat) : Int); omega, hl, hok, hmv'⟩ (by show xs.length - (i + 1) < xs.length - i; omega)
    · obtain rfl : i = xs.length := by omega
      clear hK
      have hL := pool_len b14 v l (List.replicate 49 false) n
      apply Wp.seq
      apply Wp.region
      refine WpL.v (V.cmp) ?_
      apply WpL.nil
      apply Out.seqN
      apply Wp.seq
      refine Wp.c (fun hz0 => ?_) (fun hz0 => ?_)
      (try simp only [decide_eq_true_eq, decide_eq_false_iff_not, Bool.not_eq_true', Bool.not_eq_false', Bool.not_eq_true, Bool.not_eq_false, not_true_eq_false, not_false_eq_true, reduceCtorEq] at hz0)
      (exfalso; omega)
      (try simp only [decide_eq_true_eq, decide_eq_false_iff_not, Bool.not_eq_true', Bool.not_eq_false', Bool.not_eq_true, Bool.not_eq_false, not_true_eq_false, not_false_eq_true, reduceCtorEq] at hz0)
      apply Wp.exit
      apply Out.seqE
      apply Out.seqE
      apply Out.blockE
      apply Out.seqN
      apply Wp.seq
      apply Wp.region
      refine WpL.v (V.mv) ?_
      refine WpL.o (Op1.callT rfl (hL) (by (repeat (first | exact Sel.nil | exact Rem.here | apply Sel.cons | apply Rem.there))) ?_)
      rintro v1 s2 ⟨rfl, rfl⟩
      refine incat ?_
      refine WpL.v (V.cmp) ?_
      refine WpL.v (V.as) ?_
      apply WpL.nil
      apply Out.seqN
      apply Wp.ret
      refine Out.f1 rfl ResIs.t ⟨?_, rfl⟩
      focus ((simp; omega); done)
open Go Go.ChangeShapes Go.WideShapes Go.ChangeAt Go.RowKit
theorem poolNothing_read : (Try.f12.params.toList.all fun t => Try.prog.readableRec t && decide (t < Try.prog.types.size)) = true := by kernel_rfl
theorem poolNothing_lifted (os : Go.Os) (started : os.Started) (H : Type) (enc : Go.TypeId × Go.Value → H) :
    ReturnsInHanded {} Try.checked os 12 .any (Rows.poolNothingSpec.pre6 enc Try.prog Try.f12 Rows.poolNothingRow.domain false) (Rows.poolNothingSpec.post enc Try.prog Try.f12 false true false false) := by
  refine returnsInHanded_of_change_sized (C := Try.checked) own started (by kernel_rfl) Try.func12
    (ChangeSpec.witness6 (enc := enc) (C := Try.checked) false ⟨#[], #[.slice none 0 0], []⟩ 8 (by kernel_rfl) (by kernel_rfl) (by kernel_rfl) (by kernel_rfl)) ?_
  intro W base args ds gs before hval0 hW hcnd hsz0 _
  have hsz : (DataW.weightsEach Try.prog (Try.f12.params.toList ++ Rows.poolNothingSpec.plain.varTypes Try.prog) (ds ++ gs)).all (· ≤ reachBytes) = true := hsz0
  have hval : ∀ (j : Nat) t v, Try.f12.params[j]? = some t → args[j]? = some v → Value.okWide Try.prog W .any base t v := hval0
  have hW' := hW
  obtain ⟨p, q, hA0, hV, rfl, hfz, hnd⟩ := hW
  have hA1 : DataW.TrodAll enc Try.prog W 0 (fun _ => true) true Try.f12.params.toList args.toList ds p := hA0
  have hA := hA1
  rw [Try.params12] at hA hval hsz
  obtain ⟨v0, vs0, d0, ds0, p0, q0, hargs, rfl, rfl, h0, r0⟩ := trodAll_cons hA
  obtain ⟨rfl, rfl, rfl⟩ := trodAll_nil r0
  obtain rfl : args = #[v0] := by cases args; simp_all
  obtain ⟨rfl, rfl⟩ := trodVars_none hV
  obtain ⟨ao0, b0, off0, len0, cap0, xs0, rfl, hl0, hlc0, hcm0, ha0, hs0, hf0, hby0⟩ := open_slice_plain Try.underlying68 Caucuslaw11Call.leaves (by kernel_rfl) (by decide) (hval 0 68 v0 rfl rfl) h0 (sizedAll hsz 0 rfl rfl)
  obtain ⟨x0, rfl, w0⟩ := fits_map Caucuslaw11Call.c Caucuslaw11Call.wf hf0 Caucuslaw11Call.fit
  obtain rfl : len0 = x0.length := by simpa using hl0.symm
  simp only [List.append_nil] at hW' hA1
  have hbl : ∀ p : Nat × Nat, p ∈ [(x0.length, b0)] → 0 < p.1 → p.2 < W.heap.size := by
    intro p hp h0
    simp only [List.mem_cons, List.mem_nil_iff, or_false] at hp
    rcases hp with rfl
    · exact (ha0 h0).2
  have hR0 : Rd (snap W (blocksOf [(x0.length, b0)])) ao0 x0.length b0 off0 6 (x0.map Caucuslaw11Call.c) := Rd.snap (by simp) (Nat.le_trans hlc0 hcm0) ha0 hs0 (fun h => blocksOf_mem (len := x0.length) (by simp) h)
  refine (Ct.runSnap (blocksOf_nodup _) (blocksOf_lt hbl) (poolNothing_walk _ _ _ _ _ x0 hR0)).mono fun e W' hh => ?_
  obtain ⟨rfl, hS⟩ := hh
  exact ⟨_, rfl, post_law (P := Try.prog) (f := Try.f12) (tbool := 4) hW' hA1 rfl rfl hS laid poolNothing_read rfl Try.underlying4⟩
theorem poolNothing_over : Rows.poolNothingRow.holds Try.pinned (OpenSpec.ofChange Rows.poolNothingSpec) :=
  OpenClaim.holds_of_wide 12 Try.f12 rfl rfl rfl rfl rfl rfl rfl ⟨rfl, rfl, rfl, rfl, rfl⟩ rfl rfl rfl rfl rfl (by kernel_rfl) Try.func12 (by kernel_rfl)
    (of_decide_eq_true (by kernel_rfl)) (by unfold Func.isWrapper; first | (rw [if_pos (by decide +kernel)]; kernel_rfl) | (rw [if_neg (by decide +kernel)]; exact ⟨rfl, rfl⟩))
    (fun os started H enc _ => poolNothing_lifted os started H enc)
/-- THE STATEMENT. -/
theorem poolNothing_proved : Rows.PoolNothingSaid := poolNothing_over
#print axioms poolNothing_proved

end Go.Proofs.Ytgbflapcadlelaa
