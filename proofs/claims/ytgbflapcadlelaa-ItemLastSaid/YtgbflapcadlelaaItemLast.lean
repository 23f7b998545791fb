/-
  The statement ItemLast of layer 3: one more Set changes what is at its item, and nothing else. Proved for every input.
-/
import Derived.Test.YtgbflapcadlelaaItem5
import Derived.Test.YtgbflapcadlelaaHeapB
namespace Go.Proofs.Ytgbflapcadlelaa
open Go.HL
set_option linter.unusedSimpArgs false
set_option linter.unusedVariables false
set_option maxRecDepth 8000
theorem eql_self (a : Int) : cmpI .eql a a = some true := by simp [cmpI]
theorem neq_self (a : Int) : cmpI .neq a a = some false := by simp [cmpI]
theorem V.neBE {P : Go.Program} {n : Fm} {dst : Nat} {env : Env} {σ : List Ent} {ty : Go.TypeId} {pos : String} {af : Array Go.Edge} {gd : Option (Nat × Bool)} (tb : Tabs P) {t u ty' : Nat} {x y : Go.Operand} {p q b : Bool} (hx : ev env x = some (.bool p)) (hy : ev env y = some (.bool q)) (hb : (!(p == q)) = b) (ht : lk1 tb.bools t = some u := by exact rfl) : Val P n env σ ⟨some dst, .binOp .neq t x y ty', ty, pos, af, gd⟩ (.bool b) := hb ▸ V.neB tb hx hy ht
theorem V.eqBE {P : Go.Program} {n : Fm} {dst : Nat} {env : Env} {σ : List Ent} {ty : Go.TypeId} {pos : String} {af : Array Go.Edge} {gd : Option (Nat × Bool)} (tb : Tabs P) {t u ty' : Nat} {x y : Go.Operand} {p q b : Bool} (hx : ev env x = some (.bool p)) (hy : ev env y = some (.bool q)) (hb : (p == q) = b) (ht : lk1 tb.bools t = some u := by exact rfl) : Val P n env σ ⟨some dst, .binOp .eql t x y ty', ty, pos, af, gd⟩ (.bool b) := hb ▸ V.eqB tb hx hy ht
theorem V.notE {P : Go.Program} {n : Fm} {dst : Nat} {env : Env} {σ : List Ent} {ty : Go.TypeId} {pos : String} {af : Array Go.Edge} {gd : Option (Nat × Bool)} {t : Nat} {x : Go.Operand} {p b : Bool} (hx : ev env x = some (.bool p)) (hb : (!p) = b) : Val P n env σ ⟨some dst, .unOp .not t x, ty, pos, af, gd⟩ (.bool b) := hb ▸ V.not hx
theorem IP.keys_nodup (p : IP) : (p.all.map Prod.fst).Nodup := by
  rw [List.Nodup, List.pairwise_map]
  exact (IP.all_sorted p).imp fun h => h.ne
theorem IP.mem_keys {p : IP} (hp : p.ok) (y : TItem) : y ∈ p.all.map Prod.fst ↔ ∃ t, p.at y = some t := by
  rw [List.mem_map]
  constructor
  · rintro ⟨⟨a, t⟩, h, rfl⟩; exact ⟨t, (IP.mem_all hp).1 h⟩
  · rintro ⟨t, h⟩; exact ⟨(y, t), (IP.mem_all hp).2 h, rfl⟩
theorem IP.set_more {p : IP} (hp : p.ok) {x : TItem} {v : Int} (hg : goodI x p.reps = true) (h : p.at x = none) : (p.set x v).all.length = p.all.length + 1 := by
  have : ((p.set x v).all.map Prod.fst).Perm (x :: p.all.map Prod.fst) := by
    refine (List.perm_ext_iff_of_nodup (IP.keys_nodup _) (List.nodup_cons.2 ⟨fun hx => ?_, IP.keys_nodup _⟩)).2 fun y => ?_
    · obtain ⟨t, ht⟩ := (IP.mem_keys hp x).1 hx
      rw [h] at ht; cases ht
    · rw [IP.mem_keys (IP.set_ok hp x v), List.mem_cons, IP.mem_keys hp, IP.at_set hp]
      by_cases e : y = x
      · simp [e, hg]
      · simp [e]
  have := this.length_eq
  simpa using this
theorem IP.set_same {p : IP} (hp : p.ok) {x : TItem} {v t : Int} (h : p.at x = some t) : (p.set x v).all.length = p.all.length := by
  have : ((p.set x v).all.map Prod.fst).Perm (p.all.map Prod.fst) := by
    refine (List.perm_ext_iff_of_nodup (IP.keys_nodup _) (IP.keys_nodup _)).2 fun y => ?_
    rw [IP.mem_keys (IP.set_ok hp x v), IP.mem_keys hp, IP.at_set hp]
    by_cases e : y = x
    · simp [e, IP.at_good h, h]
    · simp [e]
  have := this.length_eq
  simpa using this
theorem map51 : mapTB Try.prog 51 4 3 = true := rfl
theorem und4 : Try.prog.underlying 4 = some .bool := rfl
theorem zero3 (w : Go.World) : (Go.zeroValue 3).run Try.prog w = .ok (I 0) w := rfl
theorem itemLast_walk (e : Ent) (ao : Option Go.Addr) (cap b off : Nat) (n : Int) (xs : List Caucuslaw03Call) (x : TItem) (v : Int) (hR : Rd e ao xs.length b off 3 (xs.map Caucuslaw03Call.c)) :
    Ct Try.prog 6 [I n, .slice ao xs.length cap, A x.c, I v] [e] (fun r σ' => r = B true ∧ σ' = [e]) := by
  have hm := hR.small
  simp only [Go.maxLen] at hm
  refine Ct.enter Try.func6 rfl rfl fun W => ?_
  apply Wp.seq
  apply Wp.region
  refine WpL.o (O.bxA (fun p6 => ?_))
  refine WpL.o (O.al tb (fun p8 => ?_))
  apply WpL.nil
  apply Out.seqN
  apply Wp.seq
  apply Wp.seq
  apply Wp.region
  refine WpL.o (Op1.fn rfl (alive03) ?_)
  refine WpL.v (V.not) ?_
  apply WpL.nil
  apply Out.seqN
  refine Wp.cF ?_
  apply Wp.skip
  apply Out.seqN
  apply Wp.seq
  apply Wp.seq
  apply Wp.region
  refine WpL.v (V.mv) ?_
  refine WpL.v (V.lenL tb) ?_
  refine WpL.v (V.cmp) ?_
  apply WpL.nil
  apply Out.seqN
  refine Wp.c (fun ha0 => ?_) (fun ha0 => ?_)
  (try simp only [decide_eq_true_eq, decide_eq_false_iff_not, Bool.not_eq_true', Bool.not_eq_false', Bool.not_eq_true, Bool.not_eq_false, not_true_eq_false, not_false_eq_true, reduceCtorEq] at ha0)
  apply Wp.seq
  apply Wp.region
  refine WpL.o (O.st1 tb ?_)
  apply WpL.nil
  apply Out.seqN
  apply Wp.ret
  apply Out.seqR
  refine Out.f1 rfl (ResIs.c1 tb) ⟨?_, rfl⟩
  exact rfl
  (try simp only [decide_eq_true_eq, decide_eq_false_iff_not, Bool.not_eq_true', Bool.not_eq_false', Bool.not_eq_true, Bool.not_eq_false, not_true_eq_false, not_false_eq_true, reduceCtorEq] at ha0)
  apply Wp.skip
  apply Out.seqN
  apply Wp.seq
  apply Wp.region
  refine WpL.v (V.mv) ?_
  refine WpL.o (Op1.callT rfl (item_new _) (by (repeat (first | exact Sel.nil | exact Rem.here | apply Sel.cons | apply Rem.there))) ?_)
  rintro v1 s2 ⟨b28, ⟨rfl, rfl⟩⟩
  refine incat ?_
  refine WpL.v (V.mv) ?_
  refine WpL.o (Op1.callT rfl (item_new _) (by (repeat (first | exact Sel.nil | exact Rem.here | apply Sel.cons | apply Rem.there))) ?_)
  rintro v3 s4 ⟨b30, ⟨rfl, rfl⟩⟩
  refine incat ?_
  refine WpL.o (O.al tb (fun p9 => ?_))
  refine WpL.o (O.st1 tb ?_)
  refine WpL.v (V.as) ?_
  apply WpL.nil
  apply Out.seqN
  apply Wp.seq
  apply Wp.seq
  apply Wp.region
  refine WpL.v (V.mv) ?_
  refine WpL.v (V.lenL tb) ?_
  refine WpL.v (V.mv) ?_
  apply WpL.nil
  apply Out.seqN
  apply Wp.block
  refine Wp.lp [32, 31, 10, 9, 8, 6, 3] (fun y : Nat × (List Go.Value × List Go.Value) × (List Go.Value × List Go.Value) => y.1 ≤ xs.length ∧ (y.2.1.1.length = 7 ∧ y.2.1.2.length = 7) ∧ (y.2.2.1.length = 7 ∧ y.2.2.2.length = 7)) (fun y => [(33, I (y.1 : Int))])
    (fun y => [itemE b28 y.2.1.1 y.2.1.2 (IP.run n (xs.take y.1)), itemE b30 y.2.2.1 y.2.2.2 (IP.run n (xs.take y.1))])
    (fun y => xs.length - y.1) (0, (_, _), (_, _)) ⟨Nat.zero_le _, ⟨rfl, rfl⟩, ⟨rfl, rfl⟩⟩ ?_
  rintro ⟨i, ⟨vs, us⟩, ⟨ws, zs⟩⟩ ⟨hi, ⟨hv, hu⟩, ⟨hv2, hu2⟩⟩ K hK
  dsimp only at hi hv hu hv2 hu2
  dsimp only [List.cons_append, List.nil_append]
  have hok := IP.run_ok n (xs.take i)
  have hw := hok.towf
  by_cases hlt : i < xs.length
  · obtain ⟨y, hx⟩ := getS hlt
    have e1 := take_snocS hx
    have hS : ∀ b vs us, vs.length = 7 → us.length = 7 → Ct Try.prog 27 [Ptr b 0, A y.Item.c, I y.N] [itemE b vs us (IP.run n (xs.take i))] (fun r σ' => ∃ vs' us', vs'.length = 7 ∧ us'.length = 7 ∧ r = B (goodI y.Item (IP.run n (xs.take i)).reps) ∧ σ' = [itemE b vs' us' (IP.run n (xs.take (i + 1)))]) := by
      intro b vs us hv hu; rw [e1, IP.run_snoc]; exact item_set _ _ _ _ _ _ hw hv hu
    apply Wp.seq
    apply Wp.region
    refine WpL.v (V.cmp) ?_
    apply WpL.nil
    apply Out.seqN
    apply Wp.seq
    refine Wp.c (fun hb0 => ?_) (fun hb0 => ?_)
    (try simp only [decide_eq_true_eq, decide_eq_false_iff_not, Bool.not_eq_true', Bool.not_eq_false', Bool.not_eq_true, Bool.not_eq_false, not_true_eq_false, not_false_eq_true, reduceCtorEq] at hb0)
    apply Wp.skip
    apply Out.seqN
    apply Wp.seq
    apply Wp.block
    apply Wp.seq
    apply Wp.region
    refine WpL.v (V.ixR tb rfl rfl (by assumption)) ?_
    refine WpL.v (V.ldRA tb rfl (by assumption) (getMapS (by assumption))) ?_
    refine WpL.o (O.al tb (fun p12 => ?_))
    refine WpL.o (O.stA tb ?_)
    apply WpL.nil
    apply Out.seqN
    apply Wp.seq
    apply Wp.region
    refine WpL.v (V.ld1 tb) ?_
    refine WpL.v (V.fa tb) ?_
    refine WpL.v (V.ldA tb) ?_
    refine WpL.v (V.fa tb) ?_
    refine WpL.v (V.ld1 tb) ?_
    refine WpL.o (Op1.callT rfl (hS _ _ _ ?_ ?_) (by (repeat (first | exact Sel.nil | exact Rem.here | apply Sel.cons | apply Rem.there))) ?_)
    (first | with_reducible assumption | omega | (simp only [List.length_append, List.length_cons, List.length_nil, List.length_map] at *; omega) | (focus (simp; done)))
    (first | with_reducible assumption | omega | (simp only [List.length_append, List.length_cons, List.length_nil, List.length_map] at *; omega) | (focus (simp; done)))
    rintro v3 s4 ⟨vs'42, ⟨us'42, ⟨hx1, ⟨hx2, ⟨rfl, rfl⟩⟩⟩⟩⟩
    refine incat ?_
    apply WpL.nil
    apply Out.seqN
    apply Wp.region
    refine WpL.v (V.mv) ?_
    refine WpL.v (V.fa tb) ?_
    refine WpL.v (V.ldA tb) ?_
    refine WpL.v (V.fa tb) ?_
    refine WpL.v (V.ld1 tb) ?_
    refine WpL.o (Op1.callT rfl (hS _ _ _ ?_ ?_) (by (repeat (first | exact Sel.nil | exact Rem.here | apply Sel.cons | apply Rem.there))) ?_)
    (first | with_reducible assumption | omega | (simp only [List.length_append, List.length_cons, List.length_nil, List.length_map] at *; omega) | (focus (simp; done)))
    (first | with_reducible assumption | omega | (simp only [List.length_append, List.length_cons, List.length_nil, List.length_map] at *; omega) | (focus (simp; done)))
    rintro v7 s8 ⟨vs'48, ⟨us'48, ⟨hx5, ⟨hx6, ⟨rfl, rfl⟩⟩⟩⟩⟩
    refine incat ?_
    apply WpL.nil
    apply Out.blockN
    apply Out.seqN
    apply Wp.region
    refine WpL.v (V.add) ?_
    refine WpL.v (V.mv) ?_
    apply WpL.nil
    rotate_left
    (try simp only [decide_eq_true_eq, decide_eq_false_iff_not, Bool.not_eq_true', Bool.not_eq_false', Bool.not_eq_true, Bool.not_eq_false, not_true_eq_false, not_false_eq_true, reduceCtorEq] at hb0)
    (exfalso; omega)
    exact Out.ag hK (i + 1, (vs'42, us'42), (vs'48, us'48)) ⟨by show i + 1 ≤ _; omega, ⟨by assumption, by assumption⟩, ⟨by assumption, by assumption⟩⟩ (by show xs.length - (i + 1) < xs.length - i; omega)
  · obtain rfl : i = xs.length := by omega
    clear hK
    rw [List.take_length] at hok hw
    rw [List.take_length]
    generalize hp : IP.run n xs = p at hok hw
    have hal := IP.all_len hw
    have hok2 := IP.set_ok hok x v
    have hw2 := hok2.towf
    have hal2 := IP.all_len hw2
    have hS : ∀ b vs us, vs.length = 7 → us.length = 7 → Ct Try.prog 27 [Ptr b 0, A x.c, I v] [itemE b vs us p] (fun r σ' => ∃ vs' us', vs'.length = 7 ∧ us'.length = 7 ∧ r = B (goodI x p.reps) ∧ σ' = [itemE b vs' us' (p.set x v)]) := fun b vs us hv hu => item_set _ _ _ _ _ _ hw hv hu
    apply Wp.seq
    apply Wp.region
    refine WpL.v (V.cmp) ?_
    apply WpL.nil
    apply Out.seqN
    apply Wp.seq
    refine Wp.c (fun hc0 => ?_) (fun hc0 => ?_)
    (try simp only [decide_eq_true_eq, decide_eq_false_iff_not, Bool.not_eq_true', Bool.not_eq_false', Bool.not_eq_true, Bool.not_eq_false, not_true_eq_false, not_false_eq_true, reduceCtorEq] at hc0)
    (exfalso; omega)
    (try simp only [decide_eq_true_eq, decide_eq_false_iff_not, Bool.not_eq_true', Bool.not_eq_false', Bool.not_eq_true, Bool.not_eq_false, not_true_eq_false, not_false_eq_true, reduceCtorEq] at hc0)
    apply Wp.exit
    apply Out.seqE
    apply Out.seqE
    apply Out.blockE
    apply Out.seqN
    apply Wp.seq
    apply Wp.region
    refine WpL.v (V.ld1 tb) ?_
    refine WpL.v (V.ldA tb) ?_
    refine WpL.v (V.mv) ?_
    refine WpL.o (Op1.callT rfl (hS _ _ _ ?_ ?_) (by (repeat (first | exact Sel.nil | exact Rem.here | apply Sel.cons | apply Rem.there))) ?_)
    (first | with_reducible assumption | omega | (simp only [List.length_append, List.length_cons, List.length_nil, List.length_map] at *; omega) | (focus (simp; done)))
    (first | with_reducible assumption | omega | (simp only [List.length_append, List.length_cons, List.length_nil, List.length_map] at *; omega) | (focus (simp; done)))
    rintro v3 s4 ⟨vs'53, ⟨us'53, ⟨hx1, ⟨hx2, ⟨rfl, rfl⟩⟩⟩⟩⟩
    refine incat ?_
    refine WpL.v (V.as) ?_
    apply WpL.nil
    apply Out.seqN
    apply Wp.seq
    apply Wp.seq
    apply Wp.region
    refine WpL.v (V.mv) ?_
    refine WpL.o (Op1.callT rfl (item_all _ rfl) (by (repeat (first | exact Sel.nil | exact Rem.here | apply Sel.cons | apply Rem.there))) ?_)
    rintro v5 s6 ⟨q55, ⟨rfl, rfl⟩⟩
    refine incat ?_
    apply WpL.nil
    apply Out.seqN
    apply Wp.block
    refine Wp.rg (item_iter _ b30 ws zs p hw hv2 hu2) (fun _ : Unit => [itemE b28 vs'53 us'53 (p.set x v), cells p9 31 [Ptr b28 0], cells p8 4 [B false], cells p6 30 x.c])
      (fun _ _ => True) (fun _ _ _ => False) () trivial ?_ ?_ ?_
    · rintro pre ⟨y, t⟩ post _ lp rec hx _ hr W' D' K1 hK1
      have hat : p.at y = some t := (IP.mem_all hok).1 (by rw [hx]; exact List.mem_append_right _ (List.mem_cons_self ..))
      have hA := item_at b28 vs'53 us'53 (p.set x v) y hw2 (by assumption) (by assumption)
      have hset := IP.at_set hok x v y
      by_cases e0 : y = x
      · subst e0
        rw [if_pos ⟨IP.at_good hat, rfl⟩] at hset
        rw [hset] at hA
        apply Wp.seq
        apply Wp.region
        refine WpL.o (O.al tb (fun p14 => ?_))
        refine WpL.o (O.stA tb ?_)
        apply WpL.nil
        apply Out.seqN
        apply Wp.region
        refine WpL.v (V.as) ?_
        apply WpL.nil
        refine Out.bg (by assumption) ?_
        apply Wp.block
        apply Wp.seq
        apply Wp.region
        refine WpL.v (V.ld1 tb) ?_
        refine WpL.v (V.ldA tb) ?_
        refine WpL.o (Op1.callT rfl (hA) (by (repeat (first | exact Sel.nil | exact Rem.here | apply Sel.cons | apply Rem.there))) ?_)
        rintro v0 s1 ⟨rfl, rfl⟩
        refine incat ?_
        refine WpL.v (V.mv) ?_
        refine WpL.v (V.ex) ?_
        refine WpL.v (V.ex) ?_
        refine WpL.v (V.as) ?_
        refine WpL.v (V.as) ?_
        apply WpL.nil
        apply Out.seqN
        apply Wp.seq
        apply Wp.region
        refine WpL.v (V.mv) ?_
        refine WpL.v (V.not) ?_
        refine WpL.v (V.mv) ?_
        refine WpL.v (V.ldA tb) ?_
        refine WpL.v (V.ldA tb) ?_
        refine WpL.v (V.ne (TItem.eqT _ _ _)) ?_
        refine WpL.v (V.mv) ?_
        refine WpL.pt (fun hd2 => ?_) (fun hd2 => ?_)
        (try simp only [decide_eq_true_eq, decide_eq_false_iff_not, Bool.not_eq_true', Bool.not_eq_false', Bool.not_eq_true, Bool.not_eq_false, not_true_eq_false, not_false_eq_true, reduceCtorEq] at hd2)
        (try simp only [decide_eq_true_eq, decide_eq_false_iff_not, Bool.not_eq_true', Bool.not_eq_false', Bool.not_eq_true, Bool.not_eq_false, not_true_eq_false, not_false_eq_true, reduceCtorEq] at hd2)
        refine WpL.sk ?_
        refine WpL.sk ?_
        refine WpL.sk ?_
        refine WpL.v (V.pF) ?_
        refine WpL.v (V.pF) ?_
        apply WpL.nil
        apply Out.seqN
        refine Wp.cF ?_
        apply Wp.skip
        apply Out.blockN
        all_goals exact Out.rd hK1 () trivial
      · rw [if_neg (fun h => e0 h.2), hat] at hset
        rw [hset] at hA
        apply Wp.seq
        apply Wp.region
        refine WpL.o (O.al tb (fun p14 => ?_))
        refine WpL.o (O.stA tb ?_)
        apply WpL.nil
        apply Out.seqN
        apply Wp.region
        refine WpL.v (V.as) ?_
        apply WpL.nil
        refine Out.bg (by assumption) ?_
        apply Wp.block
        apply Wp.seq
        apply Wp.region
        refine WpL.v (V.ld1 tb) ?_
        refine WpL.v (V.ldA tb) ?_
        refine WpL.o (Op1.callT rfl (hA) (by (repeat (first | exact Sel.nil | exact Rem.here | apply Sel.cons | apply Rem.there))) ?_)
        rintro v0 s1 ⟨rfl, rfl⟩
        refine incat ?_
        refine WpL.v (V.mv) ?_
        refine WpL.v (V.ex) ?_
        refine WpL.v (V.ex) ?_
        refine WpL.v (V.as) ?_
        refine WpL.v (V.as) ?_
        apply WpL.nil
        apply Out.seqN
        apply Wp.seq
        apply Wp.region
        refine WpL.v (V.mv) ?_
        refine WpL.v (V.not) ?_
        refine WpL.v (V.mv) ?_
        refine WpL.v (V.ldA tb) ?_
        refine WpL.v (V.ldA tb) ?_
        refine WpL.v (V.ne (TItem.eqT _ _ _)) ?_
        refine WpL.v (V.mv) ?_
        refine WpL.pt (fun he2 => ?_) (fun he2 => ?_)
        (try simp only [decide_eq_true_eq, decide_eq_false_iff_not, Bool.not_eq_true', Bool.not_eq_false', Bool.not_eq_true, Bool.not_eq_false, not_true_eq_false, not_false_eq_true, reduceCtorEq] at he2)
        refine WpL.v (V.mv) ?_
        refine WpL.v (V.mv) ?_
        refine WpL.v (V.cmp rfl rfl (neq_self _)) ?_
        refine WpL.v (V.pT) ?_
        refine WpL.v (V.pF) ?_
        apply WpL.nil
        apply Out.seqN
        refine Wp.cF ?_
        apply Wp.skip
        apply Out.blockN
        rotate_left
        (try simp only [decide_eq_true_eq, decide_eq_false_iff_not, Bool.not_eq_true', Bool.not_eq_false', Bool.not_eq_true, Bool.not_eq_false, not_true_eq_false, not_false_eq_true, reduceCtorEq] at he2)
        refine WpL.sk ?_
        refine WpL.sk ?_
        refine WpL.sk ?_
        refine WpL.v (V.pF) ?_
        refine WpL.v (V.pF) ?_
        apply WpL.nil
        apply Out.seqN
        refine Wp.cF ?_
        apply Wp.skip
        apply Out.blockN
        rotate_left
        all_goals exact Out.rd hK1 () trivial
    · rintro _ c _
      have hA := item_at b28 vs'53 us'53 (p.set x v) x hw2 (by assumption) (by assumption)
      have hB := item_at b30 ws zs p x hw hv2 hu2
      have hL := item_len b28 vs'53 us'53 (p.set x v) hw2 (by assumption) (by assumption)
      have hM := item_len b30 ws zs p hw hv2 hu2
      cases hg : goodI x p.reps with
      | false =>
        have hs : p.set x v = p := by unfold IP.set; simp [hg]
        have ha : p.at x = none := by
          cases h : p.at x with
          | none => rfl
          | some t => rw [IP.at_good h] at hg; cases hg
        rw [hs] at hA hL ⊢
        rw [ha] at hA hB
        apply Out.blockN
        apply Out.seqN
        apply Wp.seq
        apply Wp.region
        refine WpL.v (V.ld1 tb) ?_
        refine WpL.v (V.ldA tb) ?_
        refine WpL.o (Op1.callT rfl (hA) (by (repeat (first | exact Sel.nil | exact Rem.here | apply Sel.cons | apply Rem.there))) ?_)
        rintro v0 s1 ⟨rfl, rfl⟩
        refine incat ?_
        refine WpL.v (V.mv) ?_
        refine WpL.v (V.ex) ?_
        refine WpL.v (V.ex) ?_
        refine WpL.v (V.as) ?_
        refine WpL.v (V.as) ?_
        apply WpL.nil
        apply Out.seqN
        apply Wp.seq
        apply Wp.region
        refine WpL.v (V.mv) ?_
        refine WpL.v (V.ldA tb) ?_
        refine WpL.o (Op1.callT rfl (hB) (by (repeat (first | exact Sel.nil | exact Rem.here | apply Sel.cons | apply Rem.there))) ?_)
        rintro v2 s3 ⟨rfl, rfl⟩
        refine incat ?_
        refine WpL.v (V.mv) ?_
        refine WpL.v (V.ex) ?_
        refine WpL.v (V.ex) ?_
        refine WpL.v (V.as) ?_
        refine WpL.v (V.as) ?_
        apply WpL.nil
        apply Out.seqN
        apply Wp.seq
        apply Wp.region
        refine WpL.v (V.mv) ?_
        refine WpL.v (V.mv) ?_
        refine WpL.v (V.eqB tb) ?_
        refine WpL.v (V.mv) ?_
        refine WpL.v (V.mv) ?_
        refine WpL.v (V.not) ?_
        refine WpL.v (V.mv) ?_
        refine WpL.sk ?_
        refine WpL.sk ?_
        refine WpL.sk ?_
        refine WpL.v (V.pT) ?_
        refine WpL.v (V.pT) ?_
        refine WpL.v (V.mv) ?_
        refine WpL.v (V.ld1 tb) ?_
        refine WpL.o (Op1.callT rfl (hL) (by (repeat (first | exact Sel.nil | exact Rem.here | apply Sel.cons | apply Rem.there))) ?_)
        rintro v4 s5 ⟨rfl, rfl⟩
        refine incat ?_
        refine WpL.v (V.mv) ?_
        refine WpL.o (Op1.callT rfl (hM) (by (repeat (first | exact Sel.nil | exact Rem.here | apply Sel.cons | apply Rem.there))) ?_)
        rintro v6 s7 ⟨rfl, rfl⟩
        refine incat ?_
        refine WpL.o (Op1.mkMap (fun b : Bool => .bool b) (fun n : Int => I n) rfl (fun p105 => ?_))
        refine WpL.o (Op1.insM (k := true) (v := (1 : Int)) (vf := fun n : Int => I n) (KeyOk.bool und4) map51 rfl rfl rfl (by (repeat first | exact Upd.here _ _ _ | apply Upd.there)) ?_)
        refine WpL.v (V.mv) ?_
        refine WpL.v (V.mv) ?_
        refine WpL.v (V.mv) ?_
        refine WpL.sk ?_
        refine WpL.sk ?_
        refine WpL.v (V.pF) ?_
        refine WpL.v (Val.look (k := false) (l := [(true, (1 : Int))]) (vf := fun n : Int => I n) (KeyOk.bool und4) map51 zero3 rfl rfl (by (repeat first | exact List.Mem.head _ | apply List.Mem.tail))) ?_
        refine WpL.v (V.add) ?_
        refine WpL.v (V.cmp) ?_
        refine WpL.v (V.pT) ?_
        refine WpL.o (O.st1 tb ?_)
        apply WpL.nil
        apply Out.seqN
        apply Wp.ret
        refine Out.f1 rfl (ResIs.c1 tb) ⟨?_, rfl⟩
        focus ((simp); done)
      | true =>
        have hset := IP.at_set hok x v x
        rw [if_pos ⟨hg, rfl⟩] at hset
        rw [hset] at hA
        cases ha : p.at x with
        | none =>
          rw [IP.set_more hok hg ha] at hL
          rw [ha] at hB
          apply Out.blockN
          apply Out.seqN
          apply Wp.seq
          apply Wp.region
          refine WpL.v (V.ld1 tb) ?_
          refine WpL.v (V.ldA tb) ?_
          refine WpL.o (Op1.callT rfl (hA) (by (repeat (first | exact Sel.nil | exact Rem.here | apply Sel.cons | apply Rem.there))) ?_)
          rintro v0 s1 ⟨rfl, rfl⟩
          refine incat ?_
          refine WpL.v (V.mv) ?_
          refine WpL.v (V.ex) ?_
          refine WpL.v (V.ex) ?_
          refine WpL.v (V.as) ?_
          refine WpL.v (V.as) ?_
          apply WpL.nil
          apply Out.seqN
          apply Wp.seq
          apply Wp.region
          refine WpL.v (V.mv) ?_
          refine WpL.v (V.ldA tb) ?_
          refine WpL.o (Op1.callT rfl (hB) (by (repeat (first | exact Sel.nil | exact Rem.here | apply Sel.cons | apply Rem.there))) ?_)
          rintro v2 s3 ⟨rfl, rfl⟩
          refine incat ?_
          refine WpL.v (V.mv) ?_
          refine WpL.v (V.ex) ?_
          refine WpL.v (V.ex) ?_
          refine WpL.v (V.as) ?_
          refine WpL.v (V.as) ?_
          apply WpL.nil
          apply Out.seqN
          apply Wp.seq
          apply Wp.region
          refine WpL.v (V.mv) ?_
          refine WpL.v (V.mv) ?_
          refine WpL.v (V.eqB tb) ?_
          refine WpL.v (V.mv) ?_
          refine WpL.v (V.mv) ?_
          refine WpL.v (V.not) ?_
          refine WpL.v (V.mv) ?_
          refine WpL.v (V.mv) ?_
          refine WpL.v (V.mv) ?_
          refine WpL.v (V.cmp) ?_
          refine WpL.v (V.pF) ?_
          refine WpL.v (V.pT) ?_
          refine WpL.v (V.mv) ?_
          refine WpL.pt (fun hg4 => ?_) (fun hg4 => ?_)
          (try simp only [decide_eq_true_eq, decide_eq_false_iff_not, Bool.not_eq_true', Bool.not_eq_false', Bool.not_eq_true, Bool.not_eq_false, not_true_eq_false, not_false_eq_true, reduceCtorEq] at hg4)
          refine WpL.v (V.ld1 tb) ?_
          refine WpL.o (Op1.callT rfl (hL) (by (repeat (first | exact Sel.nil | exact Rem.here | apply Sel.cons | apply Rem.there))) ?_)
          rintro v5 s6 ⟨rfl, rfl⟩
          refine incat ?_
          refine WpL.v (V.mv) ?_
          refine WpL.o (Op1.callT rfl (hM) (by (repeat (first | exact Sel.nil | exact Rem.here | apply Sel.cons | apply Rem.there))) ?_)
          rintro v7 s8 ⟨rfl, rfl⟩
          refine incat ?_
          refine WpL.o (Op1.mkMap (fun b : Bool => .bool b) (fun n : Int => I n) rfl (fun p105 => ?_))
          refine WpL.o (Op1.insM (k := true) (v := (1 : Int)) (vf := fun n : Int => I n) (KeyOk.bool und4) map51 rfl rfl rfl (by (repeat first | exact Upd.here _ _ _ | apply Upd.there)) ?_)
          refine WpL.v (V.mv) ?_
          refine WpL.v (V.mv) ?_
          refine WpL.v (V.mv) ?_
          refine WpL.v (V.mv) ?_
          refine WpL.v (V.not) ?_
          refine WpL.v (V.pT) ?_
          refine WpL.v (Val.look (k := true) (l := [(true, (1 : Int))]) (vf := fun n : Int => I n) (KeyOk.bool und4) map51 zero3 rfl rfl (by (repeat first | exact List.Mem.head _ | apply List.Mem.tail))) ?_
          refine WpL.v (V.add) ?_
          refine WpL.v (V.cmp) ?_
          refine WpL.v (V.pT) ?_
          refine WpL.o (O.st1 tb ?_)
          apply WpL.nil
          apply Out.seqN
          apply Wp.ret
          refine Out.f1 rfl (ResIs.c1 tb) ⟨?_, rfl⟩
          focus ((simp); done)
          (try simp only [decide_eq_true_eq, decide_eq_false_iff_not, Bool.not_eq_true', Bool.not_eq_false', Bool.not_eq_true, Bool.not_eq_false, not_true_eq_false, not_false_eq_true, reduceCtorEq] at hg4)
        | some t =>
          rw [IP.set_same hok ha] at hL
          rw [ha] at hB
          apply Out.blockN
          apply Out.seqN
          apply Wp.seq
          apply Wp.region
          refine WpL.v (V.ld1 tb) ?_
          refine WpL.v (V.ldA tb) ?_
          refine WpL.o (Op1.callT rfl (hA) (by (repeat (first | exact Sel.nil | exact Rem.here | apply Sel.cons | apply Rem.there))) ?_)
          rintro v0 s1 ⟨rfl, rfl⟩
          refine incat ?_
          refine WpL.v (V.mv) ?_
          refine WpL.v (V.ex) ?_
          refine WpL.v (V.ex) ?_
          refine WpL.v (V.as) ?_
          refine WpL.v (V.as) ?_
          apply WpL.nil
          apply Out.seqN
          apply Wp.seq
          apply Wp.region
          refine WpL.v (V.mv) ?_
          refine WpL.v (V.ldA tb) ?_
          refine WpL.o (Op1.callT rfl (hB) (by (repeat (first | exact Sel.nil | exact Rem.here | apply Sel.cons | apply Rem.there))) ?_)
          rintro v2 s3 ⟨rfl, rfl⟩
          refine incat ?_
          refine WpL.v (V.mv) ?_
          refine WpL.v (V.ex) ?_
          refine WpL.v (V.ex) ?_
          refine WpL.v (V.as) ?_
          refine WpL.v (V.as) ?_
          apply WpL.nil
          apply Out.seqN
          apply Wp.seq
          apply Wp.region
          refine WpL.v (V.mv) ?_
          refine WpL.v (V.mv) ?_
          refine WpL.v (V.eqB tb) ?_
          refine WpL.v (V.mv) ?_
          refine WpL.v (V.mv) ?_
          refine WpL.v (V.not) ?_
          refine WpL.v (V.mv) ?_
          refine WpL.v (V.mv) ?_
          refine WpL.v (V.mv) ?_
          refine WpL.v (V.cmp) ?_
          refine WpL.v (V.pF) ?_
          refine WpL.v (V.pT) ?_
          refine WpL.v (V.mv) ?_
          refine WpL.pt (fun hh4 => ?_) (fun hh4 => ?_)
          (try simp only [decide_eq_true_eq, decide_eq_false_iff_not, Bool.not_eq_true', Bool.not_eq_false', Bool.not_eq_true, Bool.not_eq_false, not_true_eq_false, not_false_eq_true, reduceCtorEq] at hh4)
          refine WpL.v (V.ld1 tb) ?_
          refine WpL.o (Op1.callT rfl (hL) (by (repeat (first | exact Sel.nil | exact Rem.here | apply Sel.cons | apply Rem.there))) ?_)
          rintro v5 s6 ⟨rfl, rfl⟩
          refine incat ?_
          refine WpL.v (V.mv) ?_
          refine WpL.o (Op1.callT rfl (hM) (by (repeat (first | exact Sel.nil | exact Rem.here | apply Sel.cons | apply Rem.there))) ?_)
          rintro v7 s8 ⟨rfl, rfl⟩
          refine incat ?_
          refine WpL.o (Op1.mkMap (fun b : Bool => .bool b) (fun n : Int => I n) rfl (fun p105 => ?_))
          refine WpL.o (Op1.insM (k := true) (v := (1 : Int)) (vf := fun n : Int => I n) (KeyOk.bool und4) map51 rfl rfl rfl (by (repeat first | exact Upd.here _ _ _ | apply Upd.there)) ?_)
          refine WpL.v (V.mv) ?_
          refine WpL.v (V.mv) ?_
          refine WpL.v (V.mv) ?_
          refine WpL.v (V.mv) ?_
          refine WpL.v (V.not) ?_
          refine WpL.v (V.pT) ?_
          refine WpL.v (Val.look (k := false) (l := [(true, (1 : Int))]) (vf := fun n : Int => I n) (KeyOk.bool und4) map51 zero3 rfl rfl (by (repeat first | exact List.Mem.head _ | apply List.Mem.tail))) ?_
          refine WpL.v (V.add) ?_
          refine WpL.v (V.cmp) ?_
          refine WpL.v (V.pT) ?_
          refine WpL.o (O.st1 tb ?_)
          apply WpL.nil
          apply Out.seqN
          apply Wp.ret
          refine Out.f1 rfl (ResIs.c1 tb) ⟨?_, rfl⟩
          focus ((simp); done)
          (try simp only [decide_eq_true_eq, decide_eq_false_iff_not, Bool.not_eq_true', Bool.not_eq_false', Bool.not_eq_true, Bool.not_eq_false, not_true_eq_false, not_false_eq_true, reduceCtorEq] at hh4)
    · rintro _ _ _ _ _ _ _ h
      exact h.elim
open Go Go.ChangeShapes Go.WideShapes Go.ChangeAt Go.RowKit
theorem itemLast_read : (Try.f6.params.toList.all fun t => Try.prog.readableRec t && decide (t < Try.prog.types.size)) = true := by kernel_rfl
theorem itemLast_lifted (os : Go.Os) (started : os.Started) (H : Type) (enc : Go.TypeId × Go.Value → H) :
    ReturnsInHanded {} Try.checked os 6 .any (Rows.itemLastSpec.pre6 enc Try.prog Try.f6 Rows.itemLastRow.domain false) (Rows.itemLastSpec.post enc Try.prog Try.f6 false true false false) := by
  refine returnsInHanded_of_change_sized (C := Try.checked) own started (by kernel_rfl) Try.func6
    (ChangeSpec.witness6 (enc := enc) (C := Try.checked) false ⟨#[], #[I 0, .slice none 0 0, A TItem.z.c, I 0], []⟩ 8 (by kernel_rfl) (by kernel_rfl) (by kernel_rfl) (by kernel_rfl)) ?_
  intro W base args ds gs before hval0 hW hcnd hsz0 _
  have hsz : (DataW.weightsEach Try.prog (Try.f6.params.toList ++ Rows.itemLastSpec.plain.varTypes Try.prog) (ds ++ gs)).all (· ≤ reachBytes) = true := hsz0
  have hval : ∀ (j : Nat) t v, Try.f6.params[j]? = some t → args[j]? = some v → Value.okWide Try.prog W .any base t v := hval0
  have hW' := hW
  obtain ⟨p, q, hA0, hV, rfl, hfz, hnd⟩ := hW
  have hA1 : DataW.TrodAll enc Try.prog W 0 (fun _ => true) true Try.f6.params.toList args.toList ds p := hA0
  have hA := hA1
  rw [Try.params6] at hA hval hsz
  obtain ⟨v0, vs0, d0, ds0, p0, q0, hargs, rfl, rfl, h0, r0⟩ := trodAll_cons hA
  obtain ⟨v1, vs1, d1, ds1, p1, q1, rfl, rfl, rfl, h1, r1⟩ := trodAll_cons r0
  obtain ⟨v2, vs2, d2, ds2, p2, q2, rfl, rfl, rfl, h2, r2⟩ := trodAll_cons r1
  obtain ⟨v3, vs3, d3, ds3, p3, q3, rfl, rfl, rfl, h3, r3⟩ := trodAll_cons r2
  obtain ⟨rfl, rfl, rfl⟩ := trodAll_nil r3
  obtain rfl : args = #[v0, v1, v2, v3] := by cases args; simp_all
  obtain ⟨rfl, rfl⟩ := trodVars_none hV
  obtain ⟨x0, rfl, rfl, rfl, w0⟩ := open_int Try.underlying3 (hval 0 3 v0 rfl rfl) h0
  obtain ⟨ao1, b1, off1, len1, cap1, xs1, rfl, hl1, hlc1, hcm1, ha1, hs1, hf1, hby1⟩ := open_slice_plain Try.underlying28 Caucuslaw03Call.leaves (by kernel_rfl) (by decide) (hval 1 28 v1 rfl rfl) h1 (sizedAll hsz 1 rfl rfl)
  obtain ⟨x1, rfl, w1⟩ := fits_map Caucuslaw03Call.c Caucuslaw03Call.wf hf1 Caucuslaw03Call.fit
  obtain rfl : len1 = x1.length := by simpa using hl1.symm
  obtain ⟨c2, rfl, f2⟩ := open_plain TItem.leaves ⟨_, Try.underlying30⟩ (hval 2 30 v2 rfl rfl) h2 (sizedAll hsz 2 rfl rfl)
  obtain ⟨x2, rfl, w2⟩ := TItem.fit f2
  obtain ⟨x3, rfl, rfl, rfl, w3⟩ := open_int Try.underlying3 (hval 3 3 v3 rfl rfl) h3
  simp only [List.append_nil] at hW' hA1
  have hbl : ∀ p : Nat × Nat, p ∈ [(x1.length, b1)] → 0 < p.1 → p.2 < W.heap.size := by
    intro p hp h0
    simp only [List.mem_cons, List.mem_nil_iff, or_false] at hp
    rcases hp with rfl
    · exact (ha1 h0).2
  have hR1 : Rd (snap W (blocksOf [(x1.length, b1)])) ao1 x1.length b1 off1 3 (x1.map Caucuslaw03Call.c) := Rd.snap (by simp) (Nat.le_trans hlc1 hcm1) ha1 hs1 (fun h => blocksOf_mem (len := x1.length) (by simp) h)
  refine (Ct.runSnap (blocksOf_nodup _) (blocksOf_lt hbl) (itemLast_walk _ _ _ _ _ x0 x1 x2 x3 hR1)).mono fun e W' hh => ?_
  obtain ⟨rfl, hS⟩ := hh
  exact ⟨_, rfl, post_law (P := Try.prog) (f := Try.f6) (tbool := 4) hW' hA1 rfl rfl hS laid itemLast_read rfl Try.underlying4⟩
theorem itemLast_over : Rows.itemLastRow.holds Try.pinned (OpenSpec.ofChange Rows.itemLastSpec) :=
  OpenClaim.holds_of_wide 6 Try.f6 rfl rfl rfl rfl rfl rfl rfl ⟨rfl, rfl, rfl, rfl, rfl⟩ rfl rfl rfl rfl rfl (by kernel_rfl) Try.func6 (by kernel_rfl)
    (of_decide_eq_true (by kernel_rfl)) (by unfold Func.isWrapper; first | (rw [if_pos (by decide +kernel)]; kernel_rfl) | (rw [if_neg (by decide +kernel)]; exact ⟨rfl, rfl⟩))
    (fun os started H enc _ => itemLast_lifted os started H enc)
/-- THE STATEMENT. -/
theorem itemLast_proved : Rows.ItemLastSaid := itemLast_over
#print axioms itemLast_proved

end Go.Proofs.Ytgbflapcadlelaa
