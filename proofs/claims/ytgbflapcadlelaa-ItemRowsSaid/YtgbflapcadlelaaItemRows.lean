/-
  The statement ItemRows of layer 3: in every row of calls each answer, what is at each place, and in which order All goes over them, are the document's; nil rows. Proved for every input.
-/
import Derived.Test.YtgbflapcadlelaaItem6
namespace Go.Proofs.Ytgbflapcadlelaa
open Go.HL
set_option linter.unusedSimpArgs false
set_option linter.unusedVariables false
set_option maxRecDepth 8000
theorem eql_self (a : Int) : cmpI .eql a a = some true := by simp [cmpI]
theorem neq_self (a : Int) : cmpI .neq a a = some false := by simp [cmpI]
theorem V.neBE {P : Go.Program} {n : Fm} {dst : Nat} {env : Env} {σ : List Ent} {ty : Go.TypeId} {pos : String} {af : Array Go.Edge} {gd : Option (Nat × Bool)} (tb : Tabs P) {t u ty' : Nat} {x y : Go.Operand} {p q b : Bool} (hx : ev env x = some (.bool p)) (hy : ev env y = some (.bool q)) (hb : (!(p == q)) = b) (ht : lk1 tb.bools t = some u := by exact rfl) : Val P n env σ ⟨some dst, .binOp .neq t x y ty', ty, pos, af, gd⟩ (.bool b) := hb ▸ V.neB tb hx hy ht
theorem V.eqBE {P : Go.Program} {n : Fm} {dst : Nat} {env : Env} {σ : List Ent} {ty : Go.TypeId} {pos : String} {af : Array Go.Edge} {gd : Option (Nat × Bool)} (tb : Tabs P) {t u ty' : Nat} {x y : Go.Operand} {p q b : Bool} (hx : ev env x = some (.bool p)) (hy : ev env y = some (.bool q)) (hb : (p == q) = b) (ht : lk1 tb.bools t = some u := by exact rfl) : Val P n env σ ⟨some dst, .binOp .eql t x y ty', ty, pos, af, gd⟩ (.bool b) := hb ▸ V.eqB tb hx hy ht
def RM.run (n : Int) (xs : List Caucuslaw03Call) : RM := xs.foldl (fun p c => p.set c.Item c.N) ⟨n, [], []⟩
theorem RM.run_snoc (n : Int) (xs : List Caucuslaw03Call) (x : Caucuslaw03Call) : RM.run n (xs ++ [x]) = (RM.run n xs).set x.Item x.N := by simp [RM.run]
theorem RM.set_n (m : RM) (x : TItem) (v : Int) : (m.set x v).n = m.n := by
  unfold RM.set
  split
  · split <;> rfl
  · rfl
theorem RM.set_len (m : RM) (x : TItem) (v : Int) : (m.set x v).its.length ≤ m.its.length + 1 := by
  unfold RM.set; split
  · split <;> simp
  · omega
theorem run_rel (n : Int) (xs : List Caucuslaw03Call) : RelI (IP.run n xs) (RM.run n xs) ∧ (RM.run n xs).its.length ≤ xs.length ∧ (RM.run n xs).n = n := by
  unfold IP.run RM.run
  have key : ∀ (xs : List Caucuslaw03Call) (p : IP) (m : RM), p.ok → RelI p m → m.n = n → RelI (xs.foldl (fun p c => p.set c.Item c.N) p) (xs.foldl (fun p c => p.set c.Item c.N) m) ∧ (xs.foldl (fun p c => p.set c.Item c.N) m).its.length ≤ m.its.length + xs.length ∧ (xs.foldl (fun p c => p.set c.Item c.N) m).n = n := by
    intro xs
    induction xs with
    | nil => intro p m hp h hn; exact ⟨h, by simp, hn⟩
    | cons x xs ih =>
      intro p m hp h hn
      obtain ⟨a, b, c⟩ := ih _ _ (IP.set_ok hp x.Item x.N) (h.set hp x.Item x.N) (by rw [RM.set_n]; exact hn)
      have := RM.set_len m x.Item x.N
      exact ⟨a, by simp only [List.foldl_cons, List.length_cons]; omega, c⟩
  have := key xs (IP.new n) ⟨n, [], []⟩ (IP.new_ok n) (RelI.new n) rfl
  simpa using this
theorem Ct.strong {P : Go.Program} {f : Go.FuncId} {args : List Go.Value} {σ : List Ent} {R R' : Go.Value → List Ent → Prop} (h : Ct P f args σ R) (hr : ∀ v σ', R v σ' → ∀ W D w, H W D σ' w → R' v σ') : Ct P f args σ R' :=
  Ct.of fun w h0 => (h.get w h0).mono fun _ _ ⟨v, σ', he, hR, hH⟩ => ⟨v, σ', he, hr v σ' hR _ _ _ hH, hH⟩
theorem ref3_setF (b : Nat) (iv vv : Go.Value) (m : RM) (x : TItem) (v : Int) (hl : m.its.length ≤ 100000) (hs : m.vals.length = m.its.length) :
    Ct Try.prog 28 [Ptr b 0, A x.c, I v] (refE b iv vv m) (fun r σ' => ∃ iv' vv', r = B (goodI x (Min.min m.n 7)) ∧ ((m.set x v).vals = [] ∨ ∃ g cap, vv' = .slice (some ⟨g, 0, none⟩) (m.set x v).vals.length cap) ∧ σ' = refE b iv' vv' (m.set x v)) := by
  refine Ct.strong (ref3_set b iv vv m x v hl hs) ?_
  rintro r σ' ⟨iv', vv', h1, rfl⟩ W D w hw
  refine ⟨iv', vv', h1, ?_, rfl⟩
  unfold refE at hw
  rcases rowsForm (f := i64c) (v := vv') (E := 3) (sz := 1) (l := (m.set x v).vals) (by simp) w hw with ⟨_, h⟩ | ⟨g, cap, h, _⟩
  · exact .inl h
  · exact .inr ⟨g, cap, h⟩
def lastI (pre : List (TItem × Int)) : TItem := ((pre.map Prod.fst).getLast?).getD ⟨-1, 0⟩
theorem lastI_snoc (pre : List (TItem × Int)) (x : TItem × Int) : lastI (pre ++ [x]) = x.1 := by simp [lastI]
theorem last_lt {p : IP} (hp : p.ok) {pre post : List (TItem × Int)} {x : TItem × Int} (h : p.all = pre ++ x :: post) : itemLt (lastI pre) x.1 := by
  have hs := IP.all_sorted p
  rw [h] at hs
  have hx : x ∈ p.all := by rw [h]; simp
  have hg := goodI_spec (IP.at_good ((IP.mem_all hp).1 hx))
  rcases List.eq_nil_or_concat pre with rfl | ⟨q, y, rfl⟩
  · left; show (-1 : Int) < x.1.Rep; omega
  · rw [List.concat_eq_append] at hs ⊢
    rw [lastI_snoc]
    rw [List.pairwise_append] at hs
    exact hs.2.2 y (by simp) x (by simp)
theorem itemRows_walk (e : Ent) (ao : Option Go.Addr) (cap b off : Nat) (n : Int) (xs : List Caucuslaw03Call) (other : TItem) (hR : Rd e ao xs.length b off 3 (xs.map Caucuslaw03Call.c)) :
    Ct Try.prog 4 [I n, .slice ao xs.length cap, A other.c] [e] (fun v σ' => v = B true ∧ σ' = [e]) := by
  have hm := hR.small
  simp only [Go.maxLen] at hm
  refine Ct.enter Try.func4 rfl rfl fun W => ?_
  apply Wp.seq
  apply Wp.region
  refine WpL.o (O.bxA (fun p5 => ?_))
  refine WpL.o (O.al tb (fun p6 => ?_))
  apply WpL.nil
  apply Out.seqN
  apply Wp.seq
  apply Wp.seq
  apply Wp.region
  refine WpL.o (Op1.fn rfl (alive03) ?_)
  refine WpL.v (V.not) ?_
  apply WpL.nil
  apply Out.seqN
  refine Wp.cF ?_
  apply Wp.skip
  apply Out.seqN
  apply Wp.seq
  apply Wp.seq
  apply Wp.region
  refine WpL.v (V.mv) ?_
  refine WpL.v (V.lenL tb) ?_
  refine WpL.v (V.cmp) ?_
  apply WpL.nil
  apply Out.seqN
  refine Wp.c (fun ha0 => ?_) (fun ha0 => ?_)
  (try simp only [decide_eq_true_eq, decide_eq_false_iff_not, Bool.not_eq_true', Bool.not_eq_false', Bool.not_eq_true, Bool.not_eq_false, not_true_eq_false, not_false_eq_true, reduceCtorEq] at ha0)
  apply Wp.seq
  apply Wp.region
  refine WpL.o (O.st1 tb ?_)
  apply WpL.nil
  apply Out.seqN
  apply Wp.ret
  apply Out.seqR
  refine Out.f1 rfl (ResIs.c1 tb) ⟨?_, rfl⟩
  exact rfl
  (try simp only [decide_eq_true_eq, decide_eq_false_iff_not, Bool.not_eq_true', Bool.not_eq_false', Bool.not_eq_true, Bool.not_eq_false, not_true_eq_false, not_false_eq_true, reduceCtorEq] at ha0)
  apply Wp.skip
  apply Out.seqN
  apply Wp.seq
  apply Wp.region
  refine WpL.v (V.mv) ?_
  refine WpL.o (Op1.callT rfl (item_new _) (by (repeat (first | exact Sel.nil | exact Rem.here | apply Sel.cons | apply Rem.there))) ?_)
  rintro v1 s2 ⟨b28, ⟨rfl, rfl⟩⟩
  refine incat ?_
  refine WpL.v (V.mv) ?_
  refine WpL.v (V.bld tb) ?_
  refine WpL.o (O.bxA (fun p31 => ?_))
  refine WpL.o (O.al tb (fun p8 => ?_))
  refine WpL.v (V.as) ?_
  refine WpL.o (O.st1 tb ?_)
  apply WpL.nil
  apply Out.seqN
  apply Wp.seq
  apply Wp.seq
  apply Wp.region
  refine WpL.v (V.mv) ?_
  refine WpL.v (V.lenL tb) ?_
  refine WpL.v (V.mv) ?_
  apply WpL.nil
  apply Out.seqN
  apply Wp.block
  refine Wp.nilRows TItem.c 30 2 ?_
  refine Wp.nilRows i64c 3 1 ?_
  refine Wp.lp [33, 32, 7, 8, 6, 5] (fun y : Nat × List Go.Value × List Go.Value × Go.Value × Go.Value => y.1 ≤ xs.length ∧ y.2.1.length = 7 ∧ y.2.2.1.length = 7) (fun y => [(34, I (y.1 : Int))])
    (fun y => [itemE b28 y.2.1 y.2.2.1 (IP.run n (xs.take y.1)), cells p31 37 (Caucusref03Rows.c ⟨(RM.run n (xs.take y.1)).n, y.2.2.2.1, y.2.2.2.2⟩), rows TItem.c y.2.2.2.1 30 2 (RM.run n (xs.take y.1)).its, rows i64c y.2.2.2.2 3 1 (RM.run n (xs.take y.1)).vals])
    (fun y => xs.length - y.1) (0, _, _, _, _) ⟨Nat.zero_le _, rfl, rfl⟩ ?_
  rintro ⟨i, vs, us, iv, vv⟩ ⟨hi, hv, hu⟩ K hK
  dsimp only at hi hv hu
  dsimp only [List.cons_append, List.nil_append]
  have hok := IP.run_ok n (xs.take i)
  have hw := hok.towf
  obtain ⟨hrel, hml, hmn⟩ := run_rel n (xs.take i)
  rw [List.length_take] at hml
  by_cases hlt : i < xs.length
  · obtain ⟨x, hx⟩ := getS hlt
    have e1 := take_snocS hx
    obtain ⟨hrel2, hml2, hmn2⟩ := run_rel n (xs.take (i + 1))
    rw [List.length_take] at hml2
    have hok2 := IP.run_ok n (xs.take (i + 1))
    have hw2 := hok2.towf
    have hgm := good_min (x := x.Item) hrel.reps
    have hlen2 := hrel2.all_len hok2
    have htop2 := hrel2.top hok2 x.Item.Rep
    have hS : Ct Try.prog 27 [Ptr b28 0, A x.Item.c, I x.N] [itemE b28 vs us (IP.run n (xs.take i))] (fun r σ' => ∃ vs' us', vs'.length = 7 ∧ us'.length = 7 ∧ r = B (goodI x.Item (Min.min (RM.run n (xs.take i)).n 7)) ∧ σ' = [itemE b28 vs' us' (IP.run n (xs.take (i + 1)))]) := by
      rw [e1, IP.run_snoc, ← hgm]; exact item_set _ _ _ _ _ _ hw hv hu
    have hT : ∀ (h100 : xs.length ≤ 100), Ct Try.prog 28 [Ptr p31 0, A x.Item.c, I x.N] (refE p31 iv vv (RM.run n (xs.take i))) (fun r σ' => ∃ iv' vv', r = B (goodI x.Item (Min.min (RM.run n (xs.take i)).n 7)) ∧ ((RM.run n (xs.take (i + 1))).vals = [] ∨ ∃ g cap, vv' = .slice (some ⟨g, 0, none⟩) (RM.run n (xs.take (i + 1))).vals.length cap) ∧ σ' = refE p31 iv' vv' (RM.run n (xs.take (i + 1)))) := by
      intro h100
      rw [e1, RM.run_snoc]; exact ref3_setF _ _ _ _ _ _ (by omega) hrel.len
    have hT1 := hT (by omega)
    have hL : ∀ vs us, vs.length = 7 → us.length = 7 → Ct Try.prog 29 [Ptr b28 0] [itemE b28 vs us (IP.run n (xs.take (i + 1)))] (fun r σ' => r = I ((RM.run n (xs.take (i + 1))).its.length : Int) ∧ σ' = [itemE b28 vs us (IP.run n (xs.take (i + 1)))]) := by
      intro vs us hv hu; rw [← hlen2]; exact item_len _ _ _ _ hw2 hv hu
    have hP : ∀ vs us, vs.length = 7 → us.length = 7 → Ct Try.prog 30 [Ptr b28 0, I x.Item.Rep] [itemE b28 vs us (IP.run n (xs.take (i + 1)))] (fun r σ' => r = I (topK (RM.run n (xs.take (i + 1))).its x.Item.Rep) ∧ σ' = [itemE b28 vs us (IP.run n (xs.take (i + 1)))]) := by
      intro vs us hv hu; rw [← htop2]; exact item_top _ _ _ _ _ hw2 hv hu
    have hPt := fun iv vv => ref3_top p31 iv vv (RM.run n (xs.take (i + 1))) x.Item.Rep (by omega)
    have hA := fun vs us hv hu => item_at b28 vs us (IP.run n (xs.take (i + 1))) other hw2 hv hu
    have hF := fun iv vv => ref3_find p31 iv vv (RM.run n (xs.take (i + 1))) other (by omega)
    have hlv := hrel2.len
    generalize hp2 : IP.run n (xs.take (i + 1)) = p2 at *
    generalize hm2 : RM.run n (xs.take (i + 1)) = m2 at *
    unfold refE at hT1 hPt hF
    have hgg : (!(goodI x.Item (Min.min (RM.run n (xs.take i)).n 7) == goodI x.Item (Min.min (RM.run n (xs.take i)).n 7))) = false := by simp
    apply Wp.seq
    apply Wp.region
    refine WpL.v (V.cmp) ?_
    apply WpL.nil
    apply Out.seqN
    apply Wp.seq
    refine Wp.c (fun hb0 => ?_) (fun hb0 => ?_)
    (try simp only [decide_eq_true_eq, decide_eq_false_iff_not, Bool.not_eq_true', Bool.not_eq_false', Bool.not_eq_true, Bool.not_eq_false, not_true_eq_false, not_false_eq_true, reduceCtorEq] at hb0)
    apply Wp.skip
    apply Out.seqN
    apply Wp.seq
    apply Wp.block
    apply Wp.seq
    apply Wp.region
    refine WpL.v (V.ixR tb rfl rfl (by assumption)) ?_
    refine WpL.v (V.ldRA tb rfl (by assumption) (getMapS (by assumption))) ?_
    refine WpL.o (O.al tb (fun p10 => ?_))
    refine WpL.o (O.stA tb ?_)
    apply WpL.nil
    apply Out.seqN
    apply Wp.seq
    rotate_left
    (try simp only [decide_eq_true_eq, decide_eq_false_iff_not, Bool.not_eq_true', Bool.not_eq_false', Bool.not_eq_true, Bool.not_eq_false, not_true_eq_false, not_false_eq_true, reduceCtorEq] at hb0)
    (exfalso; omega)
    refine Wp.mt [34, 33, 32, 7, 8, 6, 5, 10] (fun z : List Go.Value × List Go.Value × Go.Value × Go.Value => z.1.length = 7 ∧ z.2.1.length = 7 ∧ (m2.vals = [] ∨ ∃ g cap, z.2.2.2 = .slice (some ⟨g, 0, none⟩) m2.vals.length cap)) (fun z => [(73, B false)])
      (fun z => [itemE b28 z.1 z.2.1 p2, cells p31 37 (Caucusref03Rows.c ⟨m2.n, z.2.2.1, z.2.2.2⟩), rows TItem.c z.2.2.1 30 2 m2.its, rows i64c z.2.2.2 3 1 m2.vals]) (σ1 := [itemE b28 vs us (IP.run n (xs.take i)), cells p31 37 (Caucusref03Rows.c ⟨(RM.run n (xs.take i)).n, iv, vv⟩), rows TItem.c iv 30 2 (RM.run n (xs.take i)).its, rows i64c vv 3 1 (RM.run n (xs.take i)).vals]) ?_ ?_
    · intro K2 hK2
      refine Wp.dG [] ?_ (List.Sublist.cons_cons _ (List.Sublist.cons _ (List.Sublist.cons _ (List.Sublist.cons _ (List.Sublist.cons _ (List.Sublist.cons_cons _ (List.Sublist.cons _ (List.Sublist.cons _ (List.Sublist.cons _ List.Sublist.slnil))))))))) (List.Sublist.cons_cons _ (List.Sublist.cons _ (List.Sublist.cons _ (List.Sublist.cons _ (List.Sublist.cons _ (List.Sublist.cons_cons _ (List.Sublist.cons _ (List.Sublist.cons _ (List.Sublist.cons _ List.Sublist.slnil)))))))))
      refine WpA.tF 0 rfl (V.mv) ?_
      refine WpA.tF 1 rfl (V.fa tb) ?_
      refine WpA.tF 2 rfl (V.ldA tb) ?_
      refine WpA.tF 3 rfl (V.fa tb) ?_
      refine WpA.tF 4 rfl (V.ld1 tb) ?_
      refine WpA.tF 6 rfl (V.ld1 tb) ?_
      refine WpA.tF 7 rfl (V.fa tb) ?_
      refine WpA.tF 8 rfl (V.ldA tb) ?_
      refine WpA.tF 9 rfl (V.fa tb) ?_
      refine WpA.tF 10 rfl (V.ld1 tb) ?_
      refine WpA.oS 5 rfl (Op1.callT rfl (hS) (by (repeat (first | exact Sel.nil | exact Rem.here | apply Sel.cons | apply Rem.there))) ?_)
      rintro v2 s3 ⟨vs'43, ⟨us'43, ⟨hx0, ⟨hx1, ⟨rfl, rfl⟩⟩⟩⟩⟩
      refine incat ⟨?_, ?_, ?_⟩
      exact holdT
      exact holdT
      refine WpA.oS 11 rfl (Op1.callT rfl (hT1) (by (repeat (first | exact Sel.nil | exact Rem.here | apply Sel.cons | apply Rem.there))) ?_)
      rintro v5 s6 ⟨iv'49, ⟨vv'49, ⟨rfl, ⟨hx4, rfl⟩⟩⟩⟩
      refine incat ⟨?_, ?_, ?_⟩
      exact holdT
      exact holdT
      refine WpA.tF 12 rfl (V.neBE tb rfl rfl hgg) ?_
      refine WpA.tF 13 rfl (V.mv) ?_
      refine WpA.tF 14 rfl (V.mv) ?_
      refine WpA.tF 16 rfl (V.ld1 tb) ?_
      refine WpA.tF 17 rfl (V.nc) ?_
      refine WpA.tF 18 rfl (V.fa tb) ?_
      refine WpA.e2 15 19 rfl rfl ?_ ?_
      refine Op1.callT rfl (hL _ _ ?_ ?_) (by (repeat (first | exact Sel.nil | exact Rem.here | apply Sel.cons | apply Rem.there))) ?_
      (first | with_reducible assumption | omega | (simp only [List.length_append, List.length_cons, List.length_nil, List.length_map] at *; omega) | (focus (simp; done)))
      (first | with_reducible assumption | omega | (simp only [List.length_append, List.length_cons, List.length_nil, List.length_map] at *; omega) | (focus (simp; done)))
      rintro v7 s8 ⟨rfl, rfl⟩
      refine incat ⟨?_, ?_, ?_⟩
      exact holdT
      exact holdT
      refine WpA.oS 19 rfl (Op1.vv (V.ld1 tb) ⟨?_, ?_, ?_⟩)
      exact holdT
      exact holdT
      refine WpA.oS 20 rfl (Op1.vv (V.lenRows tb) ⟨?_, ?_, ?_⟩)
      exact holdT
      exact holdT
      refine WpA.tF 21 rfl (V.cmp rfl rfl (neq_self _)) ?_
      refine WpA.tF 22 rfl (V.pF) ?_
      refine WpA.tF 23 rfl (V.mv) ?_
      refine WpA.tF 24 rfl (V.mv) ?_
      refine WpA.tF 25 rfl (V.fa tb) ?_
      refine WpA.tF 26 rfl (V.fa tb) ?_
      refine WpA.tF 27 rfl (V.ld1 tb) ?_
      refine WpA.tF 29 rfl (V.ld1 tb) ?_
      refine WpA.tF 30 rfl (V.fa tb) ?_
      refine WpA.tF 31 rfl (V.fa tb) ?_
      refine WpA.tF 32 rfl (V.ld1 tb) ?_
      refine WpA.oS 28 rfl (Op1.callT rfl (hP _ _ ?_ ?_) (by (repeat (first | exact Sel.nil | exact Rem.here | apply Sel.cons | apply Rem.there))) ?_)
      (first | with_reducible assumption | omega | (simp only [List.length_append, List.length_cons, List.length_nil, List.length_map] at *; omega) | (focus (simp; done)))
      (first | with_reducible assumption | omega | (simp only [List.length_append, List.length_cons, List.length_nil, List.length_map] at *; omega) | (focus (simp; done)))
      rintro v9 s10 ⟨rfl, rfl⟩
      refine incat ⟨?_, ?_, ?_⟩
      exact holdT
      exact holdT
      refine WpA.oS 33 rfl (Op1.callT rfl (hPt _ _) (by (repeat (first | exact Sel.nil | exact Rem.here | apply Sel.cons | apply Rem.there))) ?_)
      rintro v11 s12 ⟨rfl, rfl⟩
      refine incat ⟨?_, ?_, ?_⟩
      exact holdT
      exact holdT
      refine WpA.tF 34 rfl (V.cmp rfl rfl (neq_self _)) ?_
      refine WpA.tF 35 rfl (V.pF) ?_
      refine WpA.ou ?_
      rotate_left
      refine Op1.vv (V.ld1 tb) ⟨?_, ?_, ?_⟩
      exact holdT
      exact holdT
      refine WpA.e2 15 20 rfl rfl ?_ ?_
      refine Op1.callT rfl (hL _ _ ?_ ?_) (by (repeat (first | exact Sel.nil | exact Rem.here | apply Sel.cons | apply Rem.there))) ?_
      (first | with_reducible assumption | omega | (simp only [List.length_append, List.length_cons, List.length_nil, List.length_map] at *; omega) | (focus (simp; done)))
      (first | with_reducible assumption | omega | (simp only [List.length_append, List.length_cons, List.length_nil, List.length_map] at *; omega) | (focus (simp; done)))
      rintro v13 s14 ⟨rfl, rfl⟩
      refine incat ⟨?_, ?_, ?_⟩
      exact holdT
      exact holdT
      refine WpA.oS 20 rfl (Op1.vv (V.lenRows tb) ⟨?_, ?_, ?_⟩)
      exact holdT
      exact holdT
      refine WpA.tF 21 rfl (V.cmp rfl rfl (neq_self _)) ?_
      refine WpA.tF 22 rfl (V.pF) ?_
      refine WpA.tF 23 rfl (V.mv) ?_
      refine WpA.tF 24 rfl (V.mv) ?_
      refine WpA.tF 25 rfl (V.fa tb) ?_
      refine WpA.tF 26 rfl (V.fa tb) ?_
      refine WpA.tF 27 rfl (V.ld1 tb) ?_
      refine WpA.tF 29 rfl (V.ld1 tb) ?_
      refine WpA.tF 30 rfl (V.fa tb) ?_
      refine WpA.tF 31 rfl (V.fa tb) ?_
      refine WpA.tF 32 rfl (V.ld1 tb) ?_
      refine WpA.oS 28 rfl (Op1.callT rfl (hP _ _ ?_ ?_) (by (repeat (first | exact Sel.nil | exact Rem.here | apply Sel.cons | apply Rem.there))) ?_)
      (first | with_reducible assumption | omega | (simp only [List.length_append, List.length_cons, List.length_nil, List.length_map] at *; omega) | (focus (simp; done)))
      (first | with_reducible assumption | omega | (simp only [List.length_append, List.length_cons, List.length_nil, List.length_map] at *; omega) | (focus (simp; done)))
      rintro v15 s16 ⟨rfl, rfl⟩
      refine incat ⟨?_, ?_, ?_⟩
      exact holdT
      exact holdT
      refine WpA.oS 33 rfl (Op1.callT rfl (hPt _ _) (by (repeat (first | exact Sel.nil | exact Rem.here | apply Sel.cons | apply Rem.there))) ?_)
      rintro v17 s18 ⟨rfl, rfl⟩
      refine incat ⟨?_, ?_, ?_⟩
      exact holdT
      exact holdT
      refine WpA.tF 34 rfl (V.cmp rfl rfl (neq_self _)) ?_
      refine WpA.tF 35 rfl (V.pF) ?_
      refine WpA.ou ?_
      rotate_left
      refine Op1.vv (V.lenRows tb) ⟨?_, ?_, ?_⟩
      exact holdT
      exact holdT
      refine WpA.oS 15 rfl (Op1.callT rfl (hL _ _ ?_ ?_) (by (repeat (first | exact Sel.nil | exact Rem.here | apply Sel.cons | apply Rem.there))) ?_)
      (first | with_reducible assumption | omega | (simp only [List.length_append, List.length_cons, List.length_nil, List.length_map] at *; omega) | (focus (simp; done)))
      (first | with_reducible assumption | omega | (simp only [List.length_append, List.length_cons, List.length_nil, List.length_map] at *; omega) | (focus (simp; done)))
      rintro v19 s20 ⟨rfl, rfl⟩
      refine incat ⟨?_, ?_, ?_⟩
      exact holdT
      exact holdT
      refine WpA.tF 21 rfl (V.cmp rfl rfl (neq_self _)) ?_
      refine WpA.tF 22 rfl (V.pF) ?_
      refine WpA.tF 23 rfl (V.mv) ?_
      refine WpA.tF 24 rfl (V.mv) ?_
      refine WpA.tF 25 rfl (V.fa tb) ?_
      refine WpA.tF 26 rfl (V.fa tb) ?_
      refine WpA.tF 27 rfl (V.ld1 tb) ?_
      refine WpA.tF 29 rfl (V.ld1 tb) ?_
      refine WpA.tF 30 rfl (V.fa tb) ?_
      refine WpA.tF 31 rfl (V.fa tb) ?_
      refine WpA.tF 32 rfl (V.ld1 tb) ?_
      refine WpA.oS 28 rfl (Op1.callT rfl (hP _ _ ?_ ?_) (by (repeat (first | exact Sel.nil | exact Rem.here | apply Sel.cons | apply Rem.there))) ?_)
      (first | with_reducible assumption | omega | (simp only [List.length_append, List.length_cons, List.length_nil, List.length_map] at *; omega) | (focus (simp; done)))
      (first | with_reducible assumption | omega | (simp only [List.length_append, List.length_cons, List.length_nil, List.length_map] at *; omega) | (focus (simp; done)))
      rintro v21 s22 ⟨rfl, rfl⟩
      refine incat ⟨?_, ?_, ?_⟩
      exact holdT
      exact holdT
      refine WpA.oS 33 rfl (Op1.callT rfl (hPt _ _) (by (repeat (first | exact Sel.nil | exact Rem.here | apply Sel.cons | apply Rem.there))) ?_)
      rintro v23 s24 ⟨rfl, rfl⟩
      refine incat ⟨?_, ?_, ?_⟩
      exact holdT
      exact holdT
      refine WpA.tF 34 rfl (V.cmp rfl rfl (neq_self _)) ?_
      refine WpA.tF 35 rfl (V.pF) ?_
      refine WpA.ou ?_
      rotate_left
      all_goals exact Out.ag hK2 (vs'43, us'43, iv'49, vv'49) ⟨by assumption, by assumption, by assumption⟩ trivial
    · rintro ⟨vs2, us2, iv2, vv2⟩ ⟨hv2, hu2, hform⟩
      dsimp only at hv2 hu2 hform
      dsimp only [List.cons_append, List.nil_append]
      rcases hrel2.find other with ⟨ha, hf⟩ | ⟨t, k, ha, hf, hvk, hkl⟩
      · rw [ha] at hA
        rw [hf] at hF
        have hge : cmpI .geq (-1) 0 = some false := rfl
        refine Wp.cF ?_
        apply Wp.skip
        apply Out.seqN
        apply Wp.seq
        apply Wp.region
        refine WpL.v (V.mv) ?_
        refine WpL.v (V.ldA tb) ?_
        refine WpL.o (Op1.callT rfl (hA _ _ ?_ ?_) (by (repeat (first | exact Sel.nil | exact Rem.here | apply Sel.cons | apply Rem.there))) ?_)
        (first | with_reducible assumption | omega | (simp only [List.length_append, List.length_cons, List.length_nil, List.length_map] at *; omega) | (focus (simp; done)))
        (first | with_reducible assumption | omega | (simp only [List.length_append, List.length_cons, List.length_nil, List.length_map] at *; omega) | (focus (simp; done)))
        rintro v0 s1 ⟨rfl, rfl⟩
        refine incat ?_
        refine WpL.v (V.mv) ?_
        refine WpL.v (V.ex) ?_
        refine WpL.v (V.ex) ?_
        refine WpL.v (V.as) ?_
        refine WpL.v (V.as) ?_
        apply WpL.nil
        apply Out.seqN
        apply Wp.seq
        apply Wp.region
        refine WpL.v (V.ld1 tb) ?_
        refine WpL.v (V.ldA tb) ?_
        refine WpL.o (Op1.callT rfl (hF _ _) (by (repeat (first | exact Sel.nil | exact Rem.here | apply Sel.cons | apply Rem.there))) ?_)
        rintro v2 s3 ⟨rfl, rfl⟩
        refine incat ?_
        refine WpL.v (V.as) ?_
        apply WpL.nil
        apply Out.seqN
        apply Wp.seq
        apply Wp.region
        refine WpL.v (V.mv) ?_
        refine WpL.v (V.mv) ?_
        refine WpL.v (V.cmp rfl rfl hge) ?_
        refine WpL.v (V.neB tb) ?_
        refine WpL.v (V.mv) ?_
        refine WpL.v (V.mv) ?_
        refine WpL.v (V.mv) ?_
        refine WpL.sk ?_
        refine WpL.sk ?_
        refine WpL.sk ?_
        refine WpL.sk ?_
        refine WpL.sk ?_
        refine WpL.sk ?_
        refine WpL.sk ?_
        refine WpL.sk ?_
        refine WpL.sk ?_
        refine WpL.v (V.pF) ?_
        refine WpL.v (V.pF) ?_
        refine WpL.v (V.mv) ?_
        refine WpL.v (V.mv) ?_
        refine WpL.v (V.not) ?_
        refine WpL.v (V.mv) ?_
        refine WpL.v (V.mv) ?_
        refine WpL.v (V.cmp rfl rfl (neq_self _)) ?_
        refine WpL.v (V.pT) ?_
        refine WpL.v (V.pF) ?_
        apply WpL.nil
        apply Out.seqN
        refine Wp.cF ?_
        apply Wp.skip
        apply Out.blockN
        apply Out.seqN
        apply Wp.region
        refine WpL.v (V.add) ?_
        refine WpL.v (V.mv) ?_
        apply WpL.nil
        subst hp2 hm2
        exact Out.ag hK (i + 1, vs2, us2, iv2, vv2) ⟨by show i + 1 ≤ _; omega, hv2, hu2⟩ (by show xs.length - (i + 1) < xs.length - i; omega)
      · rw [ha] at hA
        rw [hf] at hF
        have hge : cmpI .geq (k : Int) 0 = some true := by simp [cmpI]
        rcases hform with hform | ⟨g, cap2, rfl⟩
        · rw [hform] at hvk; simp at hvk
        refine Wp.cF ?_
        apply Wp.skip
        apply Out.seqN
        apply Wp.seq
        apply Wp.region
        refine WpL.v (V.mv) ?_
        refine WpL.v (V.ldA tb) ?_
        refine WpL.o (Op1.callT rfl (hA _ _ ?_ ?_) (by (repeat (first | exact Sel.nil | exact Rem.here | apply Sel.cons | apply Rem.there))) ?_)
        (first | with_reducible assumption | omega | (simp only [List.length_append, List.length_cons, List.length_nil, List.length_map] at *; omega) | (focus (simp; done)))
        (first | with_reducible assumption | omega | (simp only [List.length_append, List.length_cons, List.length_nil, List.length_map] at *; omega) | (focus (simp; done)))
        rintro v0 s1 ⟨rfl, rfl⟩
        refine incat ?_
        refine WpL.v (V.mv) ?_
        refine WpL.v (V.ex) ?_
        refine WpL.v (V.ex) ?_
        refine WpL.v (V.as) ?_
        refine WpL.v (V.as) ?_
        apply WpL.nil
        apply Out.seqN
        apply Wp.seq
        apply Wp.region
        refine WpL.v (V.ld1 tb) ?_
        refine WpL.v (V.ldA tb) ?_
        refine WpL.o (Op1.callT rfl (hF _ _) (by (repeat (first | exact Sel.nil | exact Rem.here | apply Sel.cons | apply Rem.there))) ?_)
        rintro v2 s3 ⟨rfl, rfl⟩
        refine incat ?_
        refine WpL.v (V.as) ?_
        apply WpL.nil
        apply Out.seqN
        apply Wp.seq
        apply Wp.region
        refine WpL.v (V.mv) ?_
        refine WpL.v (V.mv) ?_
        refine WpL.v (V.cmp rfl rfl hge) ?_
        refine WpL.v (V.neB tb) ?_
        refine WpL.v (V.mv) ?_
        refine WpL.v (V.mv) ?_
        refine WpL.v (V.mv) ?_
        refine WpL.v (V.mv) ?_
        refine WpL.v (V.ld1 tb) ?_
        refine WpL.v (V.nc) ?_
        refine WpL.v (V.fa tb) ?_
        refine WpL.v (V.ld1 tb) ?_
        refine WpL.v (V.mv) ?_
        refine WpL.v (V.ixk tb rfl rfl) ?_
        refine WpL.v (V.ldRow1 tb rfl (by (repeat first | exact List.Mem.head _ | apply List.Mem.tail)) (fun _ => rfl) (by assumption)) ?_
        refine WpL.v (V.cmp rfl rfl (neq_self _)) ?_
        refine WpL.v (V.pT) ?_
        refine WpL.v (V.pF) ?_
        refine WpL.v (V.mv) ?_
        refine WpL.v (V.mv) ?_
        refine WpL.v (V.not) ?_
        refine WpL.v (V.mv) ?_
        refine WpL.sk ?_
        refine WpL.sk ?_
        refine WpL.v (V.pF) ?_
        refine WpL.v (V.pF) ?_
        apply WpL.nil
        apply Out.seqN
        refine Wp.cF ?_
        apply Wp.skip
        apply Out.blockN
        apply Out.seqN
        apply Wp.region
        refine WpL.v (V.add) ?_
        refine WpL.v (V.mv) ?_
        apply WpL.nil
        subst hp2 hm2
        exact Out.ag hK (i + 1, vs2, us2, iv2, _) ⟨by show i + 1 ≤ _; omega, hv2, hu2⟩ (by show xs.length - (i + 1) < xs.length - i; omega)
  · obtain rfl : i = xs.length := by omega
    clear hK
    rw [List.take_length] at hok hw hrel hml hmn
    simp only [List.take_length]
    generalize IP.run n xs = p at *
    generalize RM.run n xs = m at *
    have hal := IP.all_len hw
    have hlenA := hrel.all_len hok
    have hlvA := hrel.len
    apply Wp.seq
    apply Wp.region
    refine WpL.v (V.cmp) ?_
    apply WpL.nil
    apply Out.seqN
    apply Wp.seq
    refine Wp.c (fun hf0 => ?_) (fun hf0 => ?_)
    (try simp only [decide_eq_true_eq, decide_eq_false_iff_not, Bool.not_eq_true', Bool.not_eq_false', Bool.not_eq_true, Bool.not_eq_false, not_true_eq_false, not_false_eq_true, reduceCtorEq] at hf0)
    (exfalso; omega)
    (try simp only [decide_eq_true_eq, decide_eq_false_iff_not, Bool.not_eq_true', Bool.not_eq_false', Bool.not_eq_true, Bool.not_eq_false, not_true_eq_false, not_false_eq_true, reduceCtorEq] at hf0)
    apply Wp.exit
    apply Out.seqE
    apply Out.seqE
    apply Out.blockE
    apply Out.seqN
    apply Wp.seq
    apply Wp.region
    refine WpL.o (O.al tb (fun p14 => ?_))
    refine WpL.o (O.st1 tb ?_)
    apply WpL.nil
    apply Out.seqN
    apply Wp.seq
    apply Wp.region
    refine WpL.v (V.bld tb) ?_
    refine WpL.o (O.al tb (fun p15 => ?_))
    refine WpL.o (O.stA tb ?_)
    apply WpL.nil
    apply Out.seqN
    apply Wp.seq
    apply Wp.seq
    apply Wp.region
    refine WpL.v (V.mv) ?_
    refine WpL.o (Op1.callT rfl (item_all _ rfl) (by (repeat (first | exact Sel.nil | exact Rem.here | apply Sel.cons | apply Rem.there))) ?_)
    rintro v1 s2 ⟨q112, ⟨rfl, rfl⟩⟩
    refine incat ?_
    apply WpL.nil
    apply Out.seqN
    apply Wp.block
    refine Wp.rg (item_iter _ b28 vs us p hw hv hu) (fun y : Nat × TItem => [cells p14 3 [I (y.1 : Int)], cells p15 30 y.2.c, cells p8 33 [Ptr p31 0], cells p31 37 (Caucusref03Rows.c ⟨m.n, iv, vv⟩), rows TItem.c iv 30 2 m.its, rows i64c vv 3 1 m.vals, cells p6 4 [B false]])
      (fun pre y => y.1 = pre.length ∧ y.2 = lastI pre) (fun _ _ _ => False) (0, ⟨-1, 0⟩) ⟨rfl, rfl⟩ ?_ ?_ ?_
    · rintro pre x post ⟨k0, l0⟩ lp rec hx ⟨hk0, hl0⟩ hr W' D' K1 hK1
      dsimp only at hk0 hl0
      subst hk0 hl0
      have hlt2 : (lastI pre).Rep < x.1.Rep ∨ ((lastI pre).Rep = x.1.Rep ∧ (lastI pre).Num < x.1.Num) := last_lt hok hx
      have hpl : pre.length < 448 := by rw [hx] at hal; simp at hal; omega
      have hat : p.at x.1 = some x.2 := (IP.mem_all hok).1 (by rw [hx]; simp)
      have hF := ref3_find p31 iv vv m x.1 (by omega)
      unfold refE at hF
      rcases hrel.find x.1 with ⟨ha, hf⟩ | ⟨t, k, ha, hf, hvk, hkl⟩
      · rw [ha] at hat; cases hat
      · rw [ha] at hat
        obtain rfl := Option.some.inj hat
        rw [hf] at hF
        refine Wp.form (f := i64c) (v := vv) (l := m.vals) (by (repeat first | exact List.Mem.head _ | apply List.Mem.tail)) (fun _ h1 => ?_) (fun g cap2 hvv => ?_)
        · rw [h1] at hvk; simp at hvk
        subst hvv
        apply Wp.seq
        apply Wp.region
        refine WpL.o (O.al tb (fun p16 => ?_))
        refine WpL.o (O.stA tb ?_)
        apply WpL.nil
        apply Out.seqN
        apply Wp.region
        refine WpL.v (V.as) ?_
        apply WpL.nil
        refine Out.bg (by assumption) ?_
        apply Wp.block
        apply Wp.seq
        apply Wp.region
        refine WpL.v (V.ld1 tb) ?_
        refine WpL.v (V.ldA tb) ?_
        refine WpL.o (Op1.callT rfl (hF) (by (repeat (first | exact Sel.nil | exact Rem.here | apply Sel.cons | apply Rem.there))) ?_)
        rintro v0 s1 ⟨rfl, rfl⟩
        refine incat ?_
        refine WpL.v (V.as) ?_
        apply WpL.nil
        apply Out.seqN
        apply Wp.seq
        apply Wp.seq
        apply Wp.region
        refine WpL.v (V.mv) ?_
        refine WpL.v (V.cmp) ?_
        refine WpL.v (V.mv) ?_
        refine WpL.pt (fun hg2 => ?_) (fun hg2 => ?_)
        (try simp only [decide_eq_true_eq, decide_eq_false_iff_not, Bool.not_eq_true', Bool.not_eq_false', Bool.not_eq_true, Bool.not_eq_false, not_true_eq_false, not_false_eq_true, reduceCtorEq] at hg2)
        (exfalso; omega)
        (try simp only [decide_eq_true_eq, decide_eq_false_iff_not, Bool.not_eq_true', Bool.not_eq_false', Bool.not_eq_true, Bool.not_eq_false, not_true_eq_false, not_false_eq_true, reduceCtorEq] at hg2)
        refine WpL.v (V.ld1 tb) ?_
        refine WpL.v (V.nc) ?_
        refine WpL.v (V.fa tb) ?_
        refine WpL.v (V.ld1 tb) ?_
        refine WpL.v (V.mv) ?_
        refine WpL.v (V.ixk tb rfl rfl) ?_
        refine WpL.v (V.ldRow1 tb rfl (by (repeat first | exact List.Mem.head _ | apply List.Mem.tail)) (fun _ => rfl) (by assumption)) ?_
        refine WpL.v (V.mv) ?_
        refine WpL.v (V.cmp rfl rfl (neq_self _)) ?_
        refine WpL.v (V.pF) ?_
        refine WpL.v (V.mv) ?_
        refine WpL.v (V.fa tb) ?_
        refine WpL.v (V.ld1 tb) ?_
        refine WpL.v (V.fa tb) ?_
        refine WpL.v (V.ld1 tb) ?_
        refine WpL.v (V.cmp) ?_
        refine WpL.v (V.pF) ?_
        refine WpL.v (V.mv) ?_
        refine WpL.pt (fun hg3 => ?_) (fun hg3 => ?_)
        (try simp only [decide_eq_true_eq, decide_eq_false_iff_not, Bool.not_eq_true', Bool.not_eq_false', Bool.not_eq_true, Bool.not_eq_false, not_true_eq_false, not_false_eq_true, reduceCtorEq] at hg3)
        (exfalso; omega)
        (try simp only [decide_eq_true_eq, decide_eq_false_iff_not, Bool.not_eq_true', Bool.not_eq_false', Bool.not_eq_true, Bool.not_eq_false, not_true_eq_false, not_false_eq_true, reduceCtorEq] at hg3)
        refine WpL.v (V.fa tb) ?_
        refine WpL.v (V.ld1 tb) ?_
        refine WpL.v (V.fa tb) ?_
        refine WpL.v (V.ld1 tb) ?_
        refine WpL.v (V.cmp) ?_
        refine WpL.v (V.mv) ?_
        refine WpL.pt (fun hg4 => ?_) (fun hg4 => ?_)
        (try simp only [decide_eq_true_eq, decide_eq_false_iff_not, Bool.not_eq_true', Bool.not_eq_false', Bool.not_eq_true, Bool.not_eq_false, not_true_eq_false, not_false_eq_true, reduceCtorEq] at hg4)
        refine WpL.v (V.fa tb) ?_
        refine WpL.v (V.ld1 tb) ?_
        refine WpL.v (V.fa tb) ?_
        refine WpL.v (V.ld1 tb) ?_
        refine WpL.v (V.cmp) ?_
        refine WpL.v (V.pT) ?_
        refine WpL.v (V.pF) ?_
        apply WpL.nil
        apply Out.seqN
        refine Wp.c (fun hg5 => ?_) (fun hg5 => ?_)
        (try simp only [decide_eq_true_eq, decide_eq_false_iff_not, Bool.not_eq_true', Bool.not_eq_false', Bool.not_eq_true, Bool.not_eq_false, not_true_eq_false, not_false_eq_true, reduceCtorEq] at hg5)
        (exfalso; omega)
        (try simp only [decide_eq_true_eq, decide_eq_false_iff_not, Bool.not_eq_true', Bool.not_eq_false', Bool.not_eq_true, Bool.not_eq_false, not_true_eq_false, not_false_eq_true, reduceCtorEq] at hg5)
        apply Wp.skip
        apply Out.seqN
        apply Wp.seq
        apply Wp.region
        refine WpL.v (V.ldA tb) ?_
        refine WpL.o (O.stA tb ?_)
        apply WpL.nil
        apply Out.seqN
        apply Wp.region
        refine WpL.v (V.ld1 tb) ?_
        refine WpL.v (V.add) ?_
        refine WpL.o (O.st1 tb ?_)
        apply WpL.nil
        apply Out.blockN
        rotate_left
        (try simp only [decide_eq_true_eq, decide_eq_false_iff_not, Bool.not_eq_true', Bool.not_eq_false', Bool.not_eq_true, Bool.not_eq_false, not_true_eq_false, not_false_eq_true, reduceCtorEq] at hg4)
        refine WpL.sk ?_
        refine WpL.sk ?_
        refine WpL.sk ?_
        refine WpL.sk ?_
        refine WpL.sk ?_
        refine WpL.v (V.pF) ?_
        refine WpL.v (V.pF) ?_
        apply WpL.nil
        apply Out.seqN
        refine Wp.cF ?_
        apply Wp.skip
        apply Out.seqN
        apply Wp.seq
        apply Wp.region
        refine WpL.v (V.ldA tb) ?_
        refine WpL.o (O.stA tb ?_)
        apply WpL.nil
        apply Out.seqN
        apply Wp.region
        refine WpL.v (V.ld1 tb) ?_
        refine WpL.v (V.add) ?_
        refine WpL.o (O.st1 tb ?_)
        apply WpL.nil
        apply Out.blockN
        rotate_left
        all_goals exact Out.rd hK1 (pre.length + 1, x.1) ⟨by simp, (lastI_snoc pre x).symm⟩
    · rintro ⟨k0, l0⟩ c ⟨hk0, hl0⟩
      dsimp only at hk0 hl0
      rw [hlenA] at hk0
      subst hk0
      dsimp only [List.cons_append, List.nil_append]
      apply Out.blockN
      apply Out.seqN
      apply Wp.seq
      apply Wp.region
      refine WpL.v (V.as) ?_
      apply WpL.nil
      apply Out.seqN
      apply Wp.seq
      apply Wp.region
      refine WpL.v (V.mv) ?_
      refine WpL.v (V.ldA tb) ?_
      refine WpL.o (Op1.fn rfl (item_at0 _) ?_)
      refine WpL.v (V.mv) ?_
      refine WpL.v (V.ex) ?_
      refine WpL.v (V.ex) ?_
      refine WpL.v (V.as) ?_
      refine WpL.v (V.as) ?_
      apply WpL.nil
      apply Out.seqN
      apply Wp.seq
      apply Wp.seq
      apply Wp.region
      refine WpL.v (V.mv) ?_
      refine WpL.o (Op1.callT rfl (item_all _ rfl) (by (repeat (first | exact Sel.nil | exact Rem.here | apply Sel.cons | apply Rem.there))) ?_)
      rintro v0 s1 ⟨q162, ⟨rfl, rfl⟩⟩
      refine incat ?_
      apply WpL.nil
      apply Out.seqN
      apply Wp.block
      refine Wp.rg (item_iter0 _) (fun _ : Unit => []) (fun _ _ => True) (fun _ _ _ => False) () trivial ?_ ?_ ?_
      · rintro pre x post n l rec hx
        simp at hx
      · rintro _ c2 _
        apply Out.blockN
        apply Out.seqN
        apply Wp.seq
        refine Wp.dG [] ?_ (List.Sublist.cons_cons _ (List.Sublist.cons _ (List.Sublist.cons_cons _ (List.Sublist.cons_cons _ (List.Sublist.cons _ (List.Sublist.cons_cons _ (List.Sublist.cons _ (List.Sublist.cons_cons _ (List.Sublist.cons_cons _ (List.Sublist.cons _ (List.Sublist.cons _ (List.Sublist.cons_cons _ (List.Sublist.cons_cons _ (List.Sublist.cons_cons _ List.Sublist.slnil)))))))))))))) (List.Sublist.cons_cons _ (List.Sublist.cons _ (List.Sublist.cons_cons _ (List.Sublist.cons_cons _ (List.Sublist.cons _ (List.Sublist.cons_cons _ (List.Sublist.cons _ (List.Sublist.cons_cons _ (List.Sublist.cons_cons _ (List.Sublist.cons _ (List.Sublist.cons _ (List.Sublist.cons_cons _ (List.Sublist.cons_cons _ (List.Sublist.cons_cons _ List.Sublist.slnil))))))))))))))
        refine WpA.tF 0 rfl (V.ld1 tb) ?_
        refine WpA.tF 1 rfl (V.ld1 tb) ?_
        refine WpA.tF 2 rfl (V.nc) ?_
        refine WpA.tF 3 rfl (V.fa tb) ?_
        refine WpA.oS 4 rfl (Op1.vv (V.ld1 tb) ⟨?_, ?_, ?_⟩)
        exact holdT
        exact holdT
        refine WpA.tF 5 rfl (V.lenRows tb) ?_
        refine WpA.tF 6 rfl (V.cmp) ?_
        refine WpA.tF 7 rfl (V.mv) ?_
        refine WpA.pt 172 (fun hi0 => ?_) (fun hi0 => ?_)
        (try simp only [decide_eq_true_eq, decide_eq_false_iff_not, Bool.not_eq_true', Bool.not_eq_false', Bool.not_eq_true, Bool.not_eq_false, not_true_eq_false, not_false_eq_true, reduceCtorEq] at hi0)
        refine WpA.tF 8 rfl (V.mv) ?_
        refine WpA.tF 9 rfl (V.not) ?_
        refine WpA.tF 10 rfl (V.pT) ?_
        refine WpA.tF 11 rfl (V.mv) ?_
        refine WpA.tF 12 rfl (V.mv) ?_
        refine WpA.tF 13 rfl (V.ldA tb) ?_
        refine WpA.oS 14 rfl (Op1.fn rfl (item_set0 _ _) ⟨?_, ?_, ?_⟩)
        exact holdT
        exact holdT
        refine WpA.tF 15 rfl (V.not) ?_
        refine WpA.tF 16 rfl (V.pT) ?_
        refine WpA.tF 17 rfl (V.mv) ?_
        refine WpA.tF 18 rfl (V.mv) ?_
        refine WpA.tF 20 rfl (V.mv) ?_
        refine WpA.oS 19 rfl (Op1.fn rfl (item_top0 _) ⟨?_, ?_, ?_⟩)
        exact holdT
        exact holdT
        refine WpA.oS 21 rfl (Op1.fn rfl (item_len0) ⟨?_, ?_, ?_⟩)
        exact holdT
        exact holdT
        refine WpA.tF 22 rfl (V.add) ?_
        refine WpA.tF 23 rfl (V.cmp) ?_
        refine WpA.tF 24 rfl (V.pT) ?_
        refine WpA.oS 25 rfl (O.st1 tb ⟨?_, ?_, ?_⟩)
        exact holdT
        exact holdT
        refine WpA.ou ?_
        apply Out.seqN
        apply Wp.ret
        refine Out.f1 rfl (ResIs.c1 tb) ⟨?_, rfl⟩
        exact rfl
        (try simp only [decide_eq_true_eq, decide_eq_false_iff_not, Bool.not_eq_true', Bool.not_eq_false', Bool.not_eq_true, Bool.not_eq_false, not_true_eq_false, not_false_eq_true, reduceCtorEq] at hi0)
      · rintro _ _ _ _ _ _ _ h
        exact h.elim
    · rintro _ _ _ _ _ _ _ h
      exact h.elim
open Go Go.ChangeShapes Go.WideShapes Go.ChangeAt Go.RowKit
theorem itemRows_read : (Try.f4.params.toList.all fun t => Try.prog.readableRec t && decide (t < Try.prog.types.size)) = true := by kernel_rfl
theorem itemRows_lifted (os : Go.Os) (started : os.Started) (H : Type) (enc : Go.TypeId × Go.Value → H) :
    ReturnsInHanded {} Try.checked os 4 .any (Rows.itemRowsSpec.pre6 enc Try.prog Try.f4 Rows.itemRowsRow.domain false) (Rows.itemRowsSpec.post enc Try.prog Try.f4 false true false false) := by
  refine returnsInHanded_of_change_sized (C := Try.checked) own started (by kernel_rfl) Try.func4
    (ChangeSpec.witness6 (enc := enc) (C := Try.checked) false ⟨#[], #[I 0, .slice none 0 0, A TItem.z.c], []⟩ 8 (by kernel_rfl) (by kernel_rfl) (by kernel_rfl) (by kernel_rfl)) ?_
  intro W base args ds gs before hval0 hW hcnd hsz0 _
  have hsz : (DataW.weightsEach Try.prog (Try.f4.params.toList ++ Rows.itemRowsSpec.plain.varTypes Try.prog) (ds ++ gs)).all (· ≤ reachBytes) = true := hsz0
  have hval : ∀ (j : Nat) t v, Try.f4.params[j]? = some t → args[j]? = some v → Value.okWide Try.prog W .any base t v := hval0
  have hW' := hW
  obtain ⟨p, q, hA0, hV, rfl, hfz, hnd⟩ := hW
  have hA1 : DataW.TrodAll enc Try.prog W 0 (fun _ => true) true Try.f4.params.toList args.toList ds p := hA0
  have hA := hA1
  rw [Try.params4] at hA hval hsz
  obtain ⟨v0, vs0, d0, ds0, p0, q0, hargs, rfl, rfl, h0, r0⟩ := trodAll_cons hA
  obtain ⟨v1, vs1, d1, ds1, p1, q1, rfl, rfl, rfl, h1, r1⟩ := trodAll_cons r0
  obtain ⟨v2, vs2, d2, ds2, p2, q2, rfl, rfl, rfl, h2, r2⟩ := trodAll_cons r1
  obtain ⟨rfl, rfl, rfl⟩ := trodAll_nil r2
  obtain rfl : args = #[v0, v1, v2] := by cases args; simp_all
  obtain ⟨rfl, rfl⟩ := trodVars_none hV
  obtain ⟨x0, rfl, rfl, rfl, w0⟩ := open_int Try.underlying3 (hval 0 3 v0 rfl rfl) h0
  obtain ⟨ao1, b1, off1, len1, cap1, xs1, rfl, hl1, hlc1, hcm1, ha1, hs1, hf1, hby1⟩ := open_slice_plain Try.underlying28 Caucuslaw03Call.leaves (by kernel_rfl) (by decide) (hval 1 28 v1 rfl rfl) h1 (sizedAll hsz 1 rfl rfl)
  obtain ⟨x1, rfl, w1⟩ := fits_map Caucuslaw03Call.c Caucuslaw03Call.wf hf1 Caucuslaw03Call.fit
  obtain rfl : len1 = x1.length := by simpa using hl1.symm
  obtain ⟨c2, rfl, f2⟩ := open_plain TItem.leaves ⟨_, Try.underlying30⟩ (hval 2 30 v2 rfl rfl) h2 (sizedAll hsz 2 rfl rfl)
  obtain ⟨x2, rfl, w2⟩ := TItem.fit f2
  simp only [List.append_nil] at hW' hA1
  have hbl : ∀ p : Nat × Nat, p ∈ [(x1.length, b1)] → 0 < p.1 → p.2 < W.heap.size := by
    intro p hp h0
    simp only [List.mem_cons, List.mem_nil_iff, or_false] at hp
    rcases hp with rfl
    · exact (ha1 h0).2
  have hR1 : Rd (snap W (blocksOf [(x1.length, b1)])) ao1 x1.length b1 off1 3 (x1.map Caucuslaw03Call.c) := Rd.snap (by simp) (Nat.le_trans hlc1 hcm1) ha1 hs1 (fun h => blocksOf_mem (len := x1.length) (by simp) h)
  refine (Ct.runSnap (blocksOf_nodup _) (blocksOf_lt hbl) (itemRows_walk _ _ _ _ _ x0 x1 x2 hR1)).mono fun e W' hh => ?_
  obtain ⟨rfl, hS⟩ := hh
  exact ⟨_, rfl, post_law (P := Try.prog) (f := Try.f4) (tbool := 4) hW' hA1 rfl rfl hS laid itemRows_read rfl Try.underlying4⟩
theorem itemRows_over : Rows.itemRowsRow.holds Try.pinned (OpenSpec.ofChange Rows.itemRowsSpec) :=
  OpenClaim.holds_of_wide 4 Try.f4 rfl rfl rfl rfl rfl rfl rfl ⟨rfl, rfl, rfl, rfl, rfl⟩ rfl rfl rfl rfl rfl (by kernel_rfl) Try.func4 (by kernel_rfl)
    (of_decide_eq_true (by kernel_rfl)) (by unfold Func.isWrapper; first | (rw [if_pos (by decide +kernel)]; kernel_rfl) | (rw [if_neg (by decide +kernel)]; exact ⟨rfl, rfl⟩))
    (fun os started H enc _ => itemRows_lifted os started H enc)
/-- THE STATEMENT. -/
theorem itemRows_proved : Rows.ItemRowsSaid := itemRows_over
#print axioms itemRows_proved

end Go.Proofs.Ytgbflapcadlelaa
