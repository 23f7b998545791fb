/-
  Layer 3: rows of things by places: contracts of the program's functions, walked once each.
-/
import Derived.Test.YtgbflapcadlelaaSeal
namespace Go.Proofs.Ytgbflapcadlelaa
open Go.HL
set_option linter.unusedSimpArgs false
set_option linter.unusedVariables false
set_option maxRecDepth 8000
/-- What rows hold. -/
structure IP where
  reps : Int
  xs : List (List Int)
  hs : List (List Bool)
def IP.x (p : IP) (k : Nat) : List Int := p.xs.getD k []
def IP.h (p : IP) (k : Nat) : List Bool := p.hs.getD k []
structure IP.wf (p : IP) : Prop where
  lo : 0 ≤ p.reps
  hi : p.reps ≤ 7
  lx : p.xs.length = 7
  lh : p.hs.length = 7
  same : ∀ k, (p.x k).length = (p.h k).length
  most : ∀ k, (p.x k).length ≤ 64
def goodI (x : TItem) (n : Int) : Bool := decide (0 ≤ x.Rep) && decide (x.Rep < n) && decide (1 ≤ x.Num) && decide (x.Num ≤ 64)
def padTo {α : Type} (l : List α) (n : Nat) (d : α) : List α := l ++ List.replicate (n - l.length) d
def IP.set (p : IP) (x : TItem) (v : Int) : IP :=
  if goodI x p.reps then { p with xs := p.xs.set x.Rep.toNat ((padTo (p.x x.Rep.toNat) x.Num.toNat 0).set (x.Num - 1).toNat v), hs := p.hs.set x.Rep.toNat ((padTo (p.h x.Rep.toNat) x.Num.toNat false).set (x.Num - 1).toNat true) } else p
def IP.at (p : IP) (x : TItem) : Option Int := if goodI x p.reps ∧ (p.h x.Rep.toNat).getD (x.Num - 1).toNat false = true then some ((p.x x.Rep.toNat).getD (x.Num - 1).toNat 0) else none
def IP.top (p : IP) (rep : Int) : Nat := if 0 ≤ rep ∧ rep < p.reps then (p.x rep.toNat).length else 0
def IP.new (n : Int) : IP := ⟨Min.min (Max.max n 0) 7, List.replicate 7 [], List.replicate 7 []⟩

def itemC (vs us : List Go.Value) (p : IP) : List Go.Value := I p.reps :: (vs ++ us)
def itemE (b : Nat) (vs us : List Go.Value) (p : IP) : Ent := bag [cells b 122 (itemC vs us p), manyE i64c 3 1 vs p.xs, manyE boolc 4 1 us p.hs]
/-- Rows opened at a replica's. -/
def itemO (b : Nat) (vs us : List Go.Value) (p : IP) (k : Nat) (v u : Go.Value) (x : List Int) (h : List Bool) : List Ent :=
  [cells b 122 (itemC (vs.set k v) (us.set k u) p), rows i64c v 3 1 x, rows boolc u 4 1 h, manyE i64c 3 1 (vs.eraseIdx k) (p.xs.eraseIdx k), manyE boolc 4 1 (us.eraseIdx k) (p.hs.eraseIdx k)]
theorem itemE.open {b : Nat} {vs us : List Go.Value} {p : IP} {k : Nat} {v u : Go.Value} (hv : vs[k]? = some v) (hu : us[k]? = some u) (hx : k < p.xs.length) (hh : k < p.hs.length) :
    Eqv [itemE b vs us p] (itemO b vs us p k v u (p.x k) (p.h k)) := by
  have e1 : vs.set k v = vs := by
    apply List.ext_getElem?; intro j
    rw [List.getElem?_set]
    split
    · subst_vars; split <;> simp_all
    · rfl
  have e2 : us.set k u = us := by
    apply List.ext_getElem?; intro j
    rw [List.getElem?_set]
    split
    · subst_vars; split <;> simp_all
    · rfl
  have h1 : p.xs[k]? = some (p.x k) := by simp [IP.x, hx]
  have h2 : p.hs[k]? = some (p.h k) := by simp [IP.h, hh]
  unfold itemE itemO
  rw [e1, e2]
  refine Eqv.bag.trans (Eqv.cons _ ?_)
  refine (Eqv.append (σ := [manyE i64c 3 1 vs p.xs]) (manyE.open hv h1) (manyE.open hu h2)).trans ?_
  exact Eqv.of_perm (List.Perm.cons _ (List.Perm.swap ..))
theorem itemE.shut {b : Nat} {vs us : List Go.Value} {p : IP} {k : Nat} {v u : Go.Value} {x : List Int} {h : List Bool} (hv : k < vs.length) (hu : k < us.length) (hx : k < p.xs.length) (hh : k < p.hs.length) :
    Eqv (itemO b vs us p k v u x h) [itemE b (vs.set k v) (us.set k u) { p with xs := p.xs.set k x, hs := p.hs.set k h }] := by
  unfold itemE itemO
  refine Eqv.symm ?_
  refine Eqv.bag.trans (Eqv.cons _ ?_)
  refine (Eqv.append (σ := [manyE i64c 3 1 (vs.set k v) (p.xs.set k x)]) (manyE.shut hv hx).symm (manyE.shut hu hh).symm).trans ?_
  exact Eqv.of_perm (List.Perm.cons _ (List.Perm.swap ..))
theorem itemE.bare {b : Nat} {vs us : List Go.Value} {p : IP} : Eqv [itemE b vs us p] [cells b 122 (itemC vs us p), manyE i64c 3 1 vs p.xs, manyE boolc 4 1 us p.hs] := Eqv.bag
theorem itemC.v {vs us : List Go.Value} {p : IP} {k : Nat} {v : Go.Value} (h : k < vs.length) : (itemC (vs.set k v) us p)[1 + k * 1]? = some v := by
  simp only [itemC, Nat.mul_one]
  rw [Nat.add_comm, List.getElem?_cons_succ, List.getElem?_append_left (by simpa using h)]
  simp [h]
theorem itemC.u {vs us : List Go.Value} {p : IP} {k : Nat} {v : Go.Value} (hv : vs.length = 7) (h : k < us.length) : (itemC vs (us.set k v) p)[8 + k * 1]? = some v := by
  simp only [itemC, Nat.mul_one]
  rw [show 8 + k = (7 + k) + 1 by omega, List.getElem?_cons_succ, List.getElem?_append_right (by omega), hv]
  simp [h]
theorem itemC.sv {vs us : List Go.Value} {p : IP} {k : Nat} {v v' : Go.Value} (h : k < vs.length) : splice (1 + k * 1) [v'] (itemC (vs.set k v) us p) = itemC (vs.set k v') us p := by
  apply List.ext_getElem?
  intro j
  rw [get_splice _ _ _ _ (by simp [itemC]; omega)]
  simp only [itemC, Nat.mul_one, List.length_cons, List.length_nil]
  rcases j with _ | j
  · simp
  · simp only [List.getElem?_cons_succ, List.getElem?_append, List.length_set, List.getElem?_set]
    by_cases e : k = j
    · subst e
      simp [h, show ¬ (k + 1 < 1 + k) by omega, show k + 1 < 1 + k + 1 by omega, show k + 1 - (1 + k) = 0 by omega]
    · split <;> split <;> simp_all <;> omega
theorem itemC.su {vs us : List Go.Value} {p : IP} {k : Nat} {v v' : Go.Value} (hv : vs.length = 7) (h : k < us.length) : splice (8 + k * 1) [v'] (itemC vs (us.set k v) p) = itemC vs (us.set k v') p := by
  apply List.ext_getElem?
  intro j
  rw [get_splice _ _ _ _ (by simp [itemC]; omega)]
  simp only [itemC, Nat.mul_one, List.length_cons, List.length_nil]
  rcases j with _ | j
  · simp
  · simp only [List.getElem?_cons_succ, List.getElem?_append, hv, List.getElem?_set]
    by_cases e : j = 7 + k
    · subst e
      simp [h, show ¬ (7 + k + 1 < 8 + k) by omega, show 7 + k + 1 < 8 + k + 1 by omega, show 7 + k + 1 - (8 + k) = 0 by omega, show ¬ 7 + k < 7 by omega, show 7 + k - 7 = k by omega]
    · by_cases e1 : j < 7
      · simp [e1, show j + 1 < 8 + k by omega]
      · have : ¬ k = j - 7 := by omega
        simp [e1, this]
        intro h1 h2; omega
theorem itemC.r {vs us : List Go.Value} {p : IP} : (itemC vs us p)[0]? = some (I p.reps) := rfl

theorem item_good (x : TItem) (n : Int) : Fun Try.prog 36 [A x.c, I n] (B (goodI x n)) := by
  refine Ct.enter Try.func36 rfl rfl fun W => ?_
  apply Wp.seq
  apply Wp.region
  refine WpL.o (O.bxA (fun p2 => ?_))
  refine WpL.v (V.as) ?_
  apply WpL.nil
  apply Out.seqN
  apply Wp.seq
  apply Wp.region
  refine WpL.v (V.fa tb) ?_
  refine WpL.v (V.ld1 tb) ?_
  refine WpL.v (V.cmp) ?_
  refine WpL.v (V.mv) ?_
  refine WpL.pt (fun hgo0 => ?_) (fun hgo0 => ?_)
  (try simp only [decide_eq_true_eq, decide_eq_false_iff_not, Bool.not_eq_true', Bool.not_eq_false', Bool.not_eq_true, Bool.not_eq_false, not_true_eq_false, not_false_eq_true, reduceCtorEq] at hgo0)
  refine WpL.v (V.fa tb) ?_
  refine WpL.v (V.ld1 tb) ?_
  refine WpL.v (V.mv) ?_
  refine WpL.v (V.cmp) ?_
  refine WpL.v (V.pT) ?_
  refine WpL.v (V.mv) ?_
  refine WpL.pt (fun hgo1 => ?_) (fun hgo1 => ?_)
  (try simp only [decide_eq_true_eq, decide_eq_false_iff_not, Bool.not_eq_true', Bool.not_eq_false', Bool.not_eq_true, Bool.not_eq_false, not_true_eq_false, not_false_eq_true, reduceCtorEq] at hgo1)
  refine WpL.v (V.fa tb) ?_
  refine WpL.v (V.ld1 tb) ?_
  refine WpL.v (V.cmp) ?_
  refine WpL.v (V.pT) ?_
  refine WpL.v (V.mv) ?_
  refine WpL.pt (fun hgo2 => ?_) (fun hgo2 => ?_)
  (try simp only [decide_eq_true_eq, decide_eq_false_iff_not, Bool.not_eq_true', Bool.not_eq_false', Bool.not_eq_true, Bool.not_eq_false, not_true_eq_false, not_false_eq_true, reduceCtorEq] at hgo2)
  refine WpL.v (V.fa tb) ?_
  refine WpL.v (V.ld1 tb) ?_
  refine WpL.v (V.cmp) ?_
  refine WpL.v (V.pT) ?_
  refine WpL.v (V.as) ?_
  apply WpL.nil
  apply Out.seqN
  apply Wp.ret
  refine Out.f1 rfl ResIs.t ⟨?_, rfl⟩
  focus (simp [goodI, *]; done)
  (try simp only [decide_eq_true_eq, decide_eq_false_iff_not, Bool.not_eq_true', Bool.not_eq_false', Bool.not_eq_true, Bool.not_eq_false, not_true_eq_false, not_false_eq_true, reduceCtorEq] at hgo2)
  refine WpL.sk ?_
  refine WpL.sk ?_
  refine WpL.sk ?_
  refine WpL.v (V.pF) ?_
  refine WpL.v (V.as) ?_
  apply WpL.nil
  apply Out.seqN
  apply Wp.ret
  refine Out.f1 rfl ResIs.t ⟨?_, rfl⟩
  focus (simp [goodI, *]; done)
  (try simp only [decide_eq_true_eq, decide_eq_false_iff_not, Bool.not_eq_true', Bool.not_eq_false', Bool.not_eq_true, Bool.not_eq_false, not_true_eq_false, not_false_eq_true, reduceCtorEq] at hgo1)
  refine WpL.sk ?_
  refine WpL.sk ?_
  refine WpL.sk ?_
  refine WpL.v (V.pF) ?_
  refine WpL.v (V.mv) ?_
  refine WpL.sk ?_
  refine WpL.sk ?_
  refine WpL.sk ?_
  refine WpL.v (V.pF) ?_
  refine WpL.v (V.as) ?_
  apply WpL.nil
  apply Out.seqN
  apply Wp.ret
  refine Out.f1 rfl ResIs.t ⟨?_, rfl⟩
  focus (simp [goodI, *]; done)
  (try simp only [decide_eq_true_eq, decide_eq_false_iff_not, Bool.not_eq_true', Bool.not_eq_false', Bool.not_eq_true, Bool.not_eq_false, not_true_eq_false, not_false_eq_true, reduceCtorEq] at hgo0)
  refine WpL.sk ?_
  refine WpL.sk ?_
  refine WpL.sk ?_
  refine WpL.sk ?_
  refine WpL.v (V.pF) ?_
  refine WpL.v (V.mv) ?_
  refine WpL.sk ?_
  refine WpL.sk ?_
  refine WpL.sk ?_
  refine WpL.v (V.pF) ?_
  refine WpL.v (V.mv) ?_
  refine WpL.sk ?_
  refine WpL.sk ?_
  refine WpL.sk ?_
  refine WpL.v (V.pF) ?_
  refine WpL.v (V.as) ?_
  apply WpL.nil
  apply Out.seqN
  apply Wp.ret
  refine Out.f1 rfl ResIs.t ⟨?_, rfl⟩
  focus (simp [goodI, *]; done)
theorem manyNil {α : Type} (f : α → List Go.Value) (E sz : Nat) {W : Go.World} {D : List Nat} {σ : List Ent} {w : Go.World} (h : H W D σ w) : ∀ m : Nat, H W D (many f E sz (List.replicate m (.slice none 0 0)) (List.replicate m []) ++ σ) w
  | 0 => h
  | m + 1 => (manyNil f E sz h m).rowsNil f E sz
theorem H.manyNil {α : Type} (f : α → List Go.Value) (E sz m : Nat) {W : Go.World} {D : List Nat} {σ : List Ent} {w : Go.World} (h : H W D σ w) : H W D (manyE f E sz (List.replicate m (.slice none 0 0)) (List.replicate m []) :: σ) w := (Go.Proofs.Ytgbflapcadlelaa.manyNil f E sz h m).toBag
theorem item_new (n : Int) : Ct Try.prog 26 [I n] [] (fun v σ' => ∃ b, v = Ptr b 0 ∧ σ' = [itemE b (List.replicate 7 (.slice none 0 0)) (List.replicate 7 (.slice none 0 0)) (IP.new n)]) := by
  have h : Ct Try.prog 26 [I n] [] (fun v σ' => ∃ b, v = Ptr b 0 ∧ σ' = [cells b 122 (itemC (List.replicate 7 (.slice none 0 0)) (List.replicate 7 (.slice none 0 0)) (IP.new n))]) := by
    refine Ct.enter Try.func26 rfl rfl fun W => ?_
    apply Wp.seq
    apply Wp.region
    refine WpL.v (V.as) ?_
    apply WpL.nil
    apply Out.seqN
    apply Wp.seq
    apply Wp.region
    refine WpL.v (V.mv) ?_
    refine WpL.v (V.max) ?_
    refine WpL.v (V.min) ?_
    refine WpL.v (V.bld tb) ?_
    refine WpL.o (O.bxA (fun p7 => ?_))
    refine WpL.v (V.as) ?_
    apply WpL.nil
    apply Out.seqN
    apply Wp.ret
    refine Out.e1 rfl ResIs.t ?_
    exact ⟨_, _, ⟨_, rfl, rfl⟩, (by (repeat (first | exact Sel.nil | exact Rem.here | apply Sel.cons | apply Rem.there)))⟩
  refine Ct.conv h (fun _ => id) rfl ?_
  rintro v σ' ⟨b, rfl, rfl⟩
  refine ⟨_, ⟨b, rfl, rfl⟩, fun W D w hh => ?_⟩
  refine H.eqv itemE.bare.symm ?_
  have h1 := H.manyNil i64c 3 1 7 (H.manyNil boolc 4 1 7 hh)
  exact h1.perm (List.Perm.trans (List.Perm.cons _ (List.Perm.swap ..)) (List.Perm.swap ..))
/-! ### Top -/
theorem item_top0 (rep : Int) : Fun Try.prog 30 [.pointer none, I rep] (I 0) := by
  refine Ct.enter Try.func30 rfl rfl fun W => ?_
  apply Wp.seq
  apply Wp.region
  refine WpL.v (V.as) ?_
  apply WpL.nil
  apply Out.seqN
  apply Wp.seq
  apply Wp.seq
  apply Wp.region
  refine WpL.v (V.mv) ?_
  refine WpL.v (V.eqN) ?_
  refine WpL.v (V.mv) ?_
  refine WpL.sk ?_
  refine WpL.sk ?_
  refine WpL.v (V.pT) ?_
  refine WpL.v (V.mv) ?_
  refine WpL.sk ?_
  refine WpL.sk ?_
  refine WpL.sk ?_
  refine WpL.sk ?_
  refine WpL.sk ?_
  refine WpL.sk ?_
  refine WpL.v (V.pT) ?_
  apply WpL.nil
  apply Out.seqN
  refine Wp.cT ?_
  apply Wp.seq
  apply Wp.region
  refine WpL.v (V.as) ?_
  apply WpL.nil
  apply Out.seqN
  apply Wp.ret
  apply Out.seqR
  refine Out.f1 rfl ResIs.t ⟨?_, rfl⟩
  exact rfl
theorem item_top (b : Nat) (vs us : List Go.Value) (p : IP) (rep : Int) (hw : p.wf) (hv : vs.length = 7) (hu : us.length = 7) :
    Ct Try.prog 30 [Ptr b 0, I rep] [itemE b vs us p] (fun r σ' => r = I (p.top rep : Int) ∧ σ' = [itemE b vs us p]) := by
  by_cases hr : 0 ≤ rep ∧ rep < p.reps
  · obtain ⟨k, rfl⟩ := Int.eq_ofNat_of_zero_le hr.1
    have hi := hw.hi
    have lx := hw.lx
    have lh := hw.lh
    obtain ⟨v, hvk⟩ := getS (xs := vs) (k := k) (by omega)
    obtain ⟨u, huk⟩ := getS (xs := us) (k := k) (by omega)
    have hO := itemE.open (b := b) (p := p) hvk huk (by omega) (by omega)
    have ev := itemC.v (us := us.set k u) (p := p) (v := v) (show k < vs.length by omega)
    refine Ct.eqv hO (R := fun r σ' => r = I (p.top k : Int) ∧ σ' = itemO b vs us p k v u (p.x k) (p.h k)) ?_ (by rintro r σ' ⟨rfl, rfl⟩; exact ⟨_, ⟨rfl, rfl⟩, hO.symm⟩)
    have ht : (p.top k : Int) = (p.x k).length := by simp [IP.top, hr.1, hr.2]
    rw [ht]
    unfold itemO
    refine Ct.enter Try.func30 rfl rfl fun W => ?_
    apply Wp.seq
    apply Wp.region
    refine WpL.v (V.as) ?_
    apply WpL.nil
    apply Out.seqN
    apply Wp.seq
    apply Wp.seq
    apply Wp.region
    refine WpL.v (V.mv) ?_
    refine WpL.v (V.eqP) ?_
    refine WpL.v (V.mv) ?_
    refine WpL.v (V.mv) ?_
    refine WpL.v (V.cmp) ?_
    refine WpL.v (V.pF) ?_
    refine WpL.v (V.mv) ?_
    refine WpL.pt (fun ht10 => ?_) (fun ht10 => ?_)
    (try simp only [decide_eq_true_eq, decide_eq_false_iff_not, Bool.not_eq_true', Bool.not_eq_false', Bool.not_eq_true, Bool.not_eq_false, not_true_eq_false, not_false_eq_true, reduceCtorEq] at ht10)
    (exfalso; omega)
    (try simp only [decide_eq_true_eq, decide_eq_false_iff_not, Bool.not_eq_true', Bool.not_eq_false', Bool.not_eq_true, Bool.not_eq_false, not_true_eq_false, not_false_eq_true, reduceCtorEq] at ht10)
    refine WpL.v (V.mv) ?_
    refine WpL.v (V.mv) ?_
    refine WpL.v (V.nc) ?_
    refine WpL.v (V.fa tb) ?_
    refine WpL.v (V.ld1 tb (hr := itemC.r)) ?_
    refine WpL.v (V.cmp) ?_
    refine WpL.v (V.pF) ?_
    apply WpL.nil
    apply Out.seqN
    refine Wp.c (fun ht11 => ?_) (fun ht11 => ?_)
    (try simp only [decide_eq_true_eq, decide_eq_false_iff_not, Bool.not_eq_true', Bool.not_eq_false', Bool.not_eq_true, Bool.not_eq_false, not_true_eq_false, not_false_eq_true, reduceCtorEq] at ht11)
    (exfalso; omega)
    (try simp only [decide_eq_true_eq, decide_eq_false_iff_not, Bool.not_eq_true', Bool.not_eq_false', Bool.not_eq_true, Bool.not_eq_false, not_true_eq_false, not_false_eq_true, reduceCtorEq] at ht11)
    apply Wp.skip
    apply Out.seqN
    apply Wp.seq
    apply Wp.region
    refine WpL.v (V.mv) ?_
    refine WpL.v (V.mv) ?_
    refine WpL.v (V.nc) ?_
    refine WpL.v (V.fa tb) ?_
    refine WpL.v (V.ixA tb rfl rfl) ?_
    refine WpL.v (V.ld1 tb (hr := ev)) ?_
    refine WpL.v (V.lenRows tb) ?_
    refine WpL.v (V.as) ?_
    apply WpL.nil
    apply Out.seqN
    apply Wp.ret
    refine Out.f1 rfl ResIs.t ⟨?_, rfl⟩
    exact rfl
  · have ht : (p.top rep : Int) = 0 := by simp [IP.top, hr]
    rw [ht]
    refine Ct.eqv itemE.bare (R := fun r σ' => r = I 0 ∧ σ' = [cells b 122 (itemC vs us p), manyE i64c 3 1 vs p.xs, manyE boolc 4 1 us p.hs]) ?_ (by rintro r σ' ⟨rfl, rfl⟩; exact ⟨_, ⟨rfl, rfl⟩, itemE.bare.symm⟩)
    refine Ct.enter Try.func30 rfl rfl fun W => ?_
    apply Wp.seq
    apply Wp.region
    refine WpL.v (V.as) ?_
    apply WpL.nil
    apply Out.seqN
    apply Wp.seq
    apply Wp.seq
    apply Wp.region
    refine WpL.v (V.mv) ?_
    refine WpL.v (V.eqP) ?_
    refine WpL.v (V.mv) ?_
    refine WpL.v (V.mv) ?_
    refine WpL.v (V.cmp) ?_
    refine WpL.v (V.pF) ?_
    refine WpL.v (V.mv) ?_
    refine WpL.pt (fun ht20 => ?_) (fun ht20 => ?_)
    (try simp only [decide_eq_true_eq, decide_eq_false_iff_not, Bool.not_eq_true', Bool.not_eq_false', Bool.not_eq_true, Bool.not_eq_false, not_true_eq_false, not_false_eq_true, reduceCtorEq] at ht20)
    refine WpL.sk ?_
    refine WpL.sk ?_
    refine WpL.sk ?_
    refine WpL.sk ?_
    refine WpL.sk ?_
    refine WpL.sk ?_
    refine WpL.v (V.pT) ?_
    apply WpL.nil
    apply Out.seqN
    refine Wp.cT ?_
    apply Wp.seq
    apply Wp.region
    refine WpL.v (V.as) ?_
    apply WpL.nil
    apply Out.seqN
    apply Wp.ret
    apply Out.seqR
    refine Out.f1 rfl ResIs.t ⟨?_, rfl⟩
    exact rfl
    (try simp only [decide_eq_true_eq, decide_eq_false_iff_not, Bool.not_eq_true', Bool.not_eq_false', Bool.not_eq_true, Bool.not_eq_false, not_true_eq_false, not_false_eq_true, reduceCtorEq] at ht20)
    refine WpL.v (V.mv) ?_
    refine WpL.v (V.mv) ?_
    refine WpL.v (V.nc) ?_
    refine WpL.v (V.fa tb) ?_
    refine WpL.v (V.ld1 tb (hr := itemC.r)) ?_
    refine WpL.v (V.cmp) ?_
    refine WpL.v (V.pF) ?_
    apply WpL.nil
    apply Out.seqN
    refine Wp.c (fun ht21 => ?_) (fun ht21 => ?_)
    (try simp only [decide_eq_true_eq, decide_eq_false_iff_not, Bool.not_eq_true', Bool.not_eq_false', Bool.not_eq_true, Bool.not_eq_false, not_true_eq_false, not_false_eq_true, reduceCtorEq] at ht21)
    apply Wp.seq
    apply Wp.region
    refine WpL.v (V.as) ?_
    apply WpL.nil
    apply Out.seqN
    apply Wp.ret
    apply Out.seqR
    refine Out.f1 rfl ResIs.t ⟨?_, rfl⟩
    exact rfl
    (try simp only [decide_eq_true_eq, decide_eq_false_iff_not, Bool.not_eq_true', Bool.not_eq_false', Bool.not_eq_true, Bool.not_eq_false, not_true_eq_false, not_false_eq_true, reduceCtorEq] at ht21)
    (exfalso; omega)
/-! ### At -/
def atR : Option Int → Go.Value
  | none => .tuple #[I 0, B false]
  | some t => .tuple #[I t, B true]
theorem item_at0 (x : TItem) : Fun Try.prog 32 [.pointer none, A x.c] (atR none) := by
  refine Ct.enter Try.func32 rfl rfl fun W => ?_
  apply Wp.seq
  apply Wp.region
  refine WpL.o (O.bxA (fun p3 => ?_))
  refine WpL.v (V.as) ?_
  refine WpL.v (V.as) ?_
  apply WpL.nil
  apply Out.seqN
  apply Wp.seq
  apply Wp.region
  refine WpL.v (V.as) ?_
  apply WpL.nil
  apply Out.seqN
  apply Wp.seq
  apply Wp.seq
  refine Wp.dG [] ?_ (List.Sublist.cons_cons _ List.Sublist.slnil) (List.Sublist.cons_cons _ List.Sublist.slnil)
  refine WpA.tF 0 rfl (V.mv) ?_
  refine WpA.tF 1 rfl (V.eqN) ?_
  refine WpA.tF 2 rfl (V.mv) ?_
  refine WpA.s 3 rfl ?_
  refine WpA.s 4 rfl ?_
  refine WpA.s 5 rfl ?_
  refine WpA.s 6 rfl ?_
  refine WpA.s 7 rfl ?_
  refine WpA.s 8 rfl ?_
  refine WpA.s 9 rfl ?_
  refine WpA.tF 10 rfl (V.pT) ?_
  refine WpA.tF 11 rfl (V.mv) ?_
  refine WpA.s 12 rfl ?_
  refine WpA.s 13 rfl ?_
  refine WpA.s 14 rfl ?_
  refine WpA.s 15 rfl ?_
  refine WpA.s 16 rfl ?_
  refine WpA.s 17 rfl ?_
  refine WpA.s 18 rfl ?_
  refine WpA.s 19 rfl ?_
  refine WpA.s 20 rfl ?_
  refine WpA.s 21 rfl ?_
  refine WpA.s 22 rfl ?_
  refine WpA.tF 23 rfl (V.pT) ?_
  refine WpA.tF 24 rfl (V.mv) ?_
  refine WpA.s 25 rfl ?_
  refine WpA.s 26 rfl ?_
  refine WpA.s 27 rfl ?_
  refine WpA.s 28 rfl ?_
  refine WpA.s 29 rfl ?_
  refine WpA.s 30 rfl ?_
  refine WpA.s 31 rfl ?_
  refine WpA.s 32 rfl ?_
  refine WpA.s 33 rfl ?_
  refine WpA.s 34 rfl ?_
  refine WpA.s 35 rfl ?_
  refine WpA.s 36 rfl ?_
  refine WpA.s 37 rfl ?_
  refine WpA.tF 38 rfl (V.pT) ?_
  refine WpA.ou ?_
  apply Out.seqN
  refine Wp.cT ?_
  apply Wp.seq
  apply Wp.region
  refine WpL.v (V.mv) ?_
  refine WpL.v (V.as) ?_
  refine WpL.v (V.as) ?_
  apply WpL.nil
  apply Out.seqN
  apply Wp.ret
  apply Out.seqR
  refine Out.f2 rfl ResIs.t ResIs.t ⟨?_, rfl⟩
  exact rfl
theorem item_at (b : Nat) (vs us : List Go.Value) (p : IP) (x : TItem) (hw : p.wf) (hv : vs.length = 7) (hu : us.length = 7) :
    Ct Try.prog 32 [Ptr b 0, A x.c] [itemE b vs us p] (fun r σ' => r = atR (p.at x) ∧ σ' = [itemE b vs us p]) := by
  by_cases hg : goodI x p.reps = true
  · have hG : Fun Try.prog 36 [A x.c, I p.reps] (B true) := hg ▸ item_good x p.reps
    simp only [goodI, Bool.and_eq_true, decide_eq_true_eq] at hg
    obtain ⟨k, hrep⟩ := Int.eq_ofNat_of_zero_le hg.1.1.1
    have hk : x.Rep.toNat = k := by omega
    have hi := hw.hi
    have lx := hw.lx
    have lh := hw.lh
    have hs := hw.same k
    obtain ⟨v, hvk⟩ := getS (xs := vs) (k := k) (by omega)
    obtain ⟨u, huk⟩ := getS (xs := us) (k := k) (by omega)
    have hO := itemE.open (b := b) (p := p) hvk huk (by omega) (by omega)
    have ev := itemC.v (us := us.set k u) (p := p) (v := v) (show k < vs.length by omega)
    have eu := itemC.u (vs := vs.set k v) (us := us) (p := p) (v := u) (by simpa using hv) (show k < us.length by omega)
    refine Ct.eqv hO (R := fun r σ' => r = atR (p.at x) ∧ σ' = itemO b vs us p k v u (p.x k) (p.h k)) ?_ (by rintro r σ' ⟨rfl, rfl⟩; exact ⟨_, ⟨rfl, rfl⟩, hO.symm⟩)
    have hat : p.at x = if (p.h k).getD (x.Num - 1).toNat false = true then some ((p.x k).getD (x.Num - 1).toNat 0) else none := by
      simp [IP.at, goodI, hg.1.1.1, hg.1.1.2, hg.1.2, hg.2, hk]
    rw [hat]
    unfold itemO
    refine Ct.enter Try.func32 rfl rfl fun W => ?_
    by_cases hn : ((p.x k).length : Int) < x.Num
    · have : (p.h k).getD (x.Num - 1).toNat false = false := by
        rw [List.getD_eq_getElem?_getD, List.getElem?_eq_none (by rw [← hs]; omega)]; rfl
      rw [this]
      apply Wp.seq
      apply Wp.region
      refine WpL.o (O.bxA (fun p3 => ?_))
      refine WpL.v (V.as) ?_
      refine WpL.v (V.as) ?_
      apply WpL.nil
      apply Out.seqN
      apply Wp.seq
      apply Wp.region
      refine WpL.v (V.as) ?_
      apply WpL.nil
      apply Out.seqN
      apply Wp.seq
      apply Wp.seq
      refine Wp.dG [] ?_ (List.Sublist.cons_cons _ (List.Sublist.cons_cons _ (List.Sublist.cons_cons _ (List.Sublist.cons_cons _ (List.Sublist.cons_cons _ (List.Sublist.cons_cons _ List.Sublist.slnil)))))) (List.Sublist.cons_cons _ (List.Sublist.cons_cons _ (List.Sublist.cons_cons _ (List.Sublist.cons_cons _ (List.Sublist.cons_cons _ (List.Sublist.cons_cons _ List.Sublist.slnil))))))
      refine WpA.tF 0 rfl (V.mv) ?_
      refine WpA.tF 1 rfl (V.eqP) ?_
      refine WpA.tF 2 rfl (V.mv) ?_
      refine WpA.tF 3 rfl (V.ldA tb) ?_
      refine WpA.tF 4 rfl (V.mv) ?_
      refine WpA.tF 5 rfl (V.nc) ?_
      refine WpA.tF 6 rfl (V.fa tb) ?_
      refine WpA.tF 7 rfl (V.ld1 tb (hr := itemC.r)) ?_
      refine WpA.oS 8 rfl (Op1.fn rfl (hG) ⟨?_, ?_, ?_⟩)
      exact holdT
      exact holdT
      refine WpA.tF 9 rfl (V.not) ?_
      refine WpA.tF 10 rfl (V.pF) ?_
      refine WpA.tF 11 rfl (V.mv) ?_
      refine WpA.tF 12 rfl (V.fa tb) ?_
      refine WpA.tF 13 rfl (V.ld1 tb) ?_
      refine WpA.tF 14 rfl (V.mv) ?_
      refine WpA.tF 15 rfl (V.fa tb) ?_
      refine WpA.tF 16 rfl (V.ld1 tb) ?_
      refine WpA.tF 17 rfl (V.nc) ?_
      refine WpA.tF 18 rfl (V.fa tb) ?_
      refine WpA.tF 19 rfl (V.ixA2 tb rfl rfl hrep) ?_
      refine WpA.tF 20 rfl (V.ld1 tb (hr := ev)) ?_
      refine WpA.tF 21 rfl (V.lenRows tb) ?_
      refine WpA.tF 22 rfl (V.cmp) ?_
      refine WpA.tF 23 rfl (V.pF) ?_
      refine WpA.tF 24 rfl (V.mv) ?_
      refine WpA.pt 31 (fun ha10 => ?_) (fun ha10 => ?_)
      (try simp only [decide_eq_true_eq, decide_eq_false_iff_not, Bool.not_eq_true', Bool.not_eq_false', Bool.not_eq_true, Bool.not_eq_false, not_true_eq_false, not_false_eq_true, reduceCtorEq] at ha10)
      refine WpA.s 25 rfl ?_
      refine WpA.s 26 rfl ?_
      refine WpA.s 27 rfl ?_
      refine WpA.s 28 rfl ?_
      refine WpA.s 29 rfl ?_
      refine WpA.s 30 rfl ?_
      refine WpA.s 31 rfl ?_
      refine WpA.s 32 rfl ?_
      refine WpA.s 33 rfl ?_
      refine WpA.s 34 rfl ?_
      refine WpA.s 35 rfl ?_
      refine WpA.s 36 rfl ?_
      refine WpA.s 37 rfl ?_
      refine WpA.tF 38 rfl (V.pT) ?_
      refine WpA.ou ?_
      apply Out.seqN
      refine Wp.cT ?_
      apply Wp.seq
      apply Wp.region
      refine WpL.v (V.mv) ?_
      refine WpL.v (V.as) ?_
      refine WpL.v (V.as) ?_
      apply WpL.nil
      apply Out.seqN
      apply Wp.ret
      apply Out.seqR
      refine Out.f2 rfl ResIs.t ResIs.t ⟨?_, rfl⟩
      exact rfl
      (try simp only [decide_eq_true_eq, decide_eq_false_iff_not, Bool.not_eq_true', Bool.not_eq_false', Bool.not_eq_true, Bool.not_eq_false, not_true_eq_false, not_false_eq_true, reduceCtorEq] at ha10)
      (exfalso; omega)
    · refine Wp.form (f := boolc) (v := u) (l := p.h k) (by (repeat first | exact List.Mem.head _ | apply List.Mem.tail)) (fun h0 h1 => ?_) (fun g cap hu1 => ?_)
      · have : (p.x k).length = 0 := by rw [hs, h1]; rfl
        omega
      refine Wp.form (f := i64c) (v := v) (l := p.x k) (by (repeat first | exact List.Mem.head _ | apply List.Mem.tail)) (fun h0 h1 => ?_) (fun g' cap' hv1 => ?_)
      · have : (p.x k).length = 0 := by rw [h1]; rfl
        omega
      subst hu1 hv1
      obtain ⟨hb, hb1⟩ := getS (xs := p.h k) (k := (x.Num - 1).toNat) (by omega)
      obtain ⟨xb, hx1⟩ := getS (xs := p.x k) (k := (x.Num - 1).toNat) (by omega)
      have e1 : (p.h k).getD (x.Num - 1).toNat false = hb := by rw [List.getD_eq_getElem?_getD, hb1]; rfl
      have e2 : (p.x k).getD (x.Num - 1).toNat 0 = xb := by rw [List.getD_eq_getElem?_getD, hx1]; rfl
      rw [e1, e2]
      cases hb
      · apply Wp.seq
        apply Wp.region
        refine WpL.o (O.bxA (fun p3 => ?_))
        refine WpL.v (V.as) ?_
        refine WpL.v (V.as) ?_
        apply WpL.nil
        apply Out.seqN
        apply Wp.seq
        apply Wp.region
        refine WpL.v (V.as) ?_
        apply WpL.nil
        apply Out.seqN
        apply Wp.seq
        apply Wp.seq
        refine Wp.dG [] ?_ (List.Sublist.cons_cons _ (List.Sublist.cons_cons _ (List.Sublist.cons_cons _ (List.Sublist.cons_cons _ (List.Sublist.cons_cons _ (List.Sublist.cons_cons _ List.Sublist.slnil)))))) (List.Sublist.cons_cons _ (List.Sublist.cons_cons _ (List.Sublist.cons_cons _ (List.Sublist.cons_cons _ (List.Sublist.cons_cons _ (List.Sublist.cons_cons _ List.Sublist.slnil))))))
        refine WpA.tF 0 rfl (V.mv) ?_
        refine WpA.tF 1 rfl (V.eqP) ?_
        refine WpA.tF 2 rfl (V.mv) ?_
        refine WpA.tF 3 rfl (V.ldA tb) ?_
        refine WpA.tF 4 rfl (V.mv) ?_
        refine WpA.tF 5 rfl (V.nc) ?_
        refine WpA.tF 6 rfl (V.fa tb) ?_
        refine WpA.tF 7 rfl (V.ld1 tb (hr := itemC.r)) ?_
        refine WpA.oS 8 rfl (Op1.fn rfl (hG) ⟨?_, ?_, ?_⟩)
        exact holdT
        exact holdT
        refine WpA.tF 9 rfl (V.not) ?_
        refine WpA.tF 10 rfl (V.pF) ?_
        refine WpA.tF 11 rfl (V.mv) ?_
        refine WpA.tF 12 rfl (V.fa tb) ?_
        refine WpA.tF 13 rfl (V.ld1 tb) ?_
        refine WpA.tF 14 rfl (V.mv) ?_
        refine WpA.tF 15 rfl (V.fa tb) ?_
        refine WpA.tF 16 rfl (V.ld1 tb) ?_
        refine WpA.tF 17 rfl (V.nc) ?_
        refine WpA.tF 18 rfl (V.fa tb) ?_
        refine WpA.tF 19 rfl (V.ixA2 tb rfl rfl hrep) ?_
        refine WpA.tF 20 rfl (V.ld1 tb (hr := ev)) ?_
        refine WpA.tF 21 rfl (V.lenL tb) ?_
        refine WpA.tF 22 rfl (V.cmp) ?_
        refine WpA.tF 23 rfl (V.pF) ?_
        refine WpA.tF 24 rfl (V.mv) ?_
        refine WpA.pt 31 (fun ha20 => ?_) (fun ha20 => ?_)
        (try simp only [decide_eq_true_eq, decide_eq_false_iff_not, Bool.not_eq_true', Bool.not_eq_false', Bool.not_eq_true, Bool.not_eq_false, not_true_eq_false, not_false_eq_true, reduceCtorEq] at ha20)
        (exfalso; omega)
        (try simp only [decide_eq_true_eq, decide_eq_false_iff_not, Bool.not_eq_true', Bool.not_eq_false', Bool.not_eq_true, Bool.not_eq_false, not_true_eq_false, not_false_eq_true, reduceCtorEq] at ha20)
        refine WpA.tF 25 rfl (V.mv) ?_
        refine WpA.tF 26 rfl (V.fa tb) ?_
        refine WpA.tF 27 rfl (V.ld1 tb) ?_
        refine WpA.tF 28 rfl (V.nc) ?_
        refine WpA.tF 29 rfl (V.fa tb) ?_
        refine WpA.tF 30 rfl (V.ixA2 tb rfl rfl hrep) ?_
        refine WpA.tF 31 rfl (V.ld1 tb (hr := eu)) ?_
        refine WpA.tF 32 rfl (V.fa tb) ?_
        refine WpA.tF 33 rfl (V.ld1 tb) ?_
        refine WpA.tF 34 rfl (V.sub) ?_
        refine WpA.tF 35 rfl (V.ix tb) ?_
        refine WpA.tF 36 rfl (V.ldRow1 tb rfl (by (repeat first | exact List.Mem.head _ | apply List.Mem.tail)) (fun _ => rfl) (by assumption)) ?_
        refine WpA.tF 37 rfl (V.not) ?_
        refine WpA.tF 38 rfl (V.pF) ?_
        refine WpA.ou ?_
        apply Out.seqN
        refine Wp.cT ?_
        apply Wp.seq
        apply Wp.region
        refine WpL.v (V.mv) ?_
        refine WpL.v (V.as) ?_
        refine WpL.v (V.as) ?_
        apply WpL.nil
        apply Out.seqN
        apply Wp.ret
        apply Out.seqR
        refine Out.f2 rfl ResIs.t ResIs.t ⟨?_, rfl⟩
        exact rfl
      · apply Wp.seq
        apply Wp.region
        refine WpL.o (O.bxA (fun p3 => ?_))
        refine WpL.v (V.as) ?_
        refine WpL.v (V.as) ?_
        apply WpL.nil
        apply Out.seqN
        apply Wp.seq
        apply Wp.region
        refine WpL.v (V.as) ?_
        apply WpL.nil
        apply Out.seqN
        apply Wp.seq
        apply Wp.seq
        refine Wp.dG [] ?_ (List.Sublist.cons_cons _ (List.Sublist.cons_cons _ (List.Sublist.cons_cons _ (List.Sublist.cons_cons _ (List.Sublist.cons_cons _ (List.Sublist.cons_cons _ List.Sublist.slnil)))))) (List.Sublist.cons_cons _ (List.Sublist.cons_cons _ (List.Sublist.cons_cons _ (List.Sublist.cons_cons _ (List.Sublist.cons_cons _ (List.Sublist.cons_cons _ List.Sublist.slnil))))))
        refine WpA.tF 0 rfl (V.mv) ?_
        refine WpA.tF 1 rfl (V.eqP) ?_
        refine WpA.tF 2 rfl (V.mv) ?_
        refine WpA.tF 3 rfl (V.ldA tb) ?_
        refine WpA.tF 4 rfl (V.mv) ?_
        refine WpA.tF 5 rfl (V.nc) ?_
        refine WpA.tF 6 rfl (V.fa tb) ?_
        refine WpA.tF 7 rfl (V.ld1 tb (hr := itemC.r)) ?_
        refine WpA.oS 8 rfl (Op1.fn rfl (hG) ⟨?_, ?_, ?_⟩)
        exact holdT
        exact holdT
        refine WpA.tF 9 rfl (V.not) ?_
        refine WpA.tF 10 rfl (V.pF) ?_
        refine WpA.tF 11 rfl (V.mv) ?_
        refine WpA.tF 12 rfl (V.fa tb) ?_
        refine WpA.tF 13 rfl (V.ld1 tb) ?_
        refine WpA.tF 14 rfl (V.mv) ?_
        refine WpA.tF 15 rfl (V.fa tb) ?_
        refine WpA.tF 16 rfl (V.ld1 tb) ?_
        refine WpA.tF 17 rfl (V.nc) ?_
        refine WpA.tF 18 rfl (V.fa tb) ?_
        refine WpA.tF 19 rfl (V.ixA2 tb rfl rfl hrep) ?_
        refine WpA.tF 20 rfl (V.ld1 tb (hr := ev)) ?_
        refine WpA.tF 21 rfl (V.lenL tb) ?_
        refine WpA.tF 22 rfl (V.cmp) ?_
        refine WpA.tF 23 rfl (V.pF) ?_
        refine WpA.tF 24 rfl (V.mv) ?_
        refine WpA.pt 31 (fun ha30 => ?_) (fun ha30 => ?_)
        (try simp only [decide_eq_true_eq, decide_eq_false_iff_not, Bool.not_eq_true', Bool.not_eq_false', Bool.not_eq_true, Bool.not_eq_false, not_true_eq_false, not_false_eq_true, reduceCtorEq] at ha30)
        (exfalso; omega)
        (try simp only [decide_eq_true_eq, decide_eq_false_iff_not, Bool.not_eq_true', Bool.not_eq_false', Bool.not_eq_true, Bool.not_eq_false, not_true_eq_false, not_false_eq_true, reduceCtorEq] at ha30)
        refine WpA.tF 25 rfl (V.mv) ?_
        refine WpA.tF 26 rfl (V.fa tb) ?_
        refine WpA.tF 27 rfl (V.ld1 tb) ?_
        refine WpA.tF 28 rfl (V.nc) ?_
        refine WpA.tF 29 rfl (V.fa tb) ?_
        refine WpA.tF 30 rfl (V.ixA2 tb rfl rfl hrep) ?_
        refine WpA.tF 31 rfl (V.ld1 tb (hr := eu)) ?_
        refine WpA.tF 32 rfl (V.fa tb) ?_
        refine WpA.tF 33 rfl (V.ld1 tb) ?_
        refine WpA.tF 34 rfl (V.sub) ?_
        refine WpA.tF 35 rfl (V.ix tb) ?_
        refine WpA.tF 36 rfl (V.ldRow1 tb rfl (by (repeat first | exact List.Mem.head _ | apply List.Mem.tail)) (fun _ => rfl) (by assumption)) ?_
        refine WpA.tF 37 rfl (V.not) ?_
        refine WpA.tF 38 rfl (V.pF) ?_
        refine WpA.ou ?_
        apply Out.seqN
        refine Wp.cF ?_
        apply Wp.skip
        apply Out.seqN
        apply Wp.seq
        refine Wp.dG [] ?_ (List.Sublist.cons_cons _ (List.Sublist.cons_cons _ (List.Sublist.cons_cons _ (List.Sublist.cons_cons _ (List.Sublist.cons_cons _ (List.Sublist.cons_cons _ List.Sublist.slnil)))))) (List.Sublist.cons_cons _ (List.Sublist.cons_cons _ (List.Sublist.cons_cons _ (List.Sublist.cons_cons _ (List.Sublist.cons_cons _ (List.Sublist.cons_cons _ List.Sublist.slnil))))))
        refine WpA.tF 0 rfl (V.mv) ?_
        refine WpA.tF 1 rfl (V.fa tb) ?_
        refine WpA.tF 2 rfl (V.ld1 tb) ?_
        refine WpA.tF 3 rfl (V.nc) ?_
        refine WpA.tF 4 rfl (V.fa tb) ?_
        refine WpA.tF 5 rfl (V.ixA2 tb rfl rfl hrep) ?_
        refine WpA.tF 6 rfl (V.ld1 tb (hr := ev)) ?_
        refine WpA.tF 7 rfl (V.fa tb) ?_
        refine WpA.tF 8 rfl (V.ld1 tb) ?_
        refine WpA.tF 9 rfl (V.sub) ?_
        refine WpA.tF 10 rfl (V.ix tb) ?_
        refine WpA.tF 11 rfl (V.ldRow1 tb rfl (by (repeat first | exact List.Mem.head _ | apply List.Mem.tail)) (fun _ => rfl) (by assumption)) ?_
        refine WpA.tF 12 rfl (V.as) ?_
        refine WpA.tF 13 rfl (V.as) ?_
        refine WpA.ou ?_
        apply Out.seqN
        apply Wp.ret
        refine Out.f2 rfl ResIs.t ResIs.t ⟨?_, rfl⟩
        exact rfl
  · have hG : Fun Try.prog 36 [A x.c, I p.reps] (B false) := by
      have hg' : goodI x p.reps = false := by simpa using hg
      exact hg' ▸ item_good x p.reps
    have hat : p.at x = none := by simp [IP.at, hg]
    rw [hat]
    refine Ct.eqv itemE.bare (R := fun r σ' => r = atR none ∧ σ' = [cells b 122 (itemC vs us p), manyE i64c 3 1 vs p.xs, manyE boolc 4 1 us p.hs]) ?_ (by rintro r σ' ⟨rfl, rfl⟩; exact ⟨_, ⟨rfl, rfl⟩, itemE.bare.symm⟩)
    refine Ct.enter Try.func32 rfl rfl fun W => ?_
    apply Wp.seq
    apply Wp.region
    refine WpL.o (O.bxA (fun p3 => ?_))
    refine WpL.v (V.as) ?_
    refine WpL.v (V.as) ?_
    apply WpL.nil
    apply Out.seqN
    apply Wp.seq
    apply Wp.region
    refine WpL.v (V.as) ?_
    apply WpL.nil
    apply Out.seqN
    apply Wp.seq
    apply Wp.seq
    refine Wp.dG [] ?_ (List.Sublist.cons_cons _ (List.Sublist.cons_cons _ (List.Sublist.cons_cons _ (List.Sublist.cons_cons _ List.Sublist.slnil)))) (List.Sublist.cons_cons _ (List.Sublist.cons_cons _ (List.Sublist.cons_cons _ (List.Sublist.cons_cons _ List.Sublist.slnil))))
    refine WpA.tF 0 rfl (V.mv) ?_
    refine WpA.tF 1 rfl (V.eqP) ?_
    refine WpA.tF 2 rfl (V.mv) ?_
    refine WpA.tF 3 rfl (V.ldA tb) ?_
    refine WpA.tF 4 rfl (V.mv) ?_
    refine WpA.tF 5 rfl (V.nc) ?_
    refine WpA.tF 6 rfl (V.fa tb) ?_
    refine WpA.tF 7 rfl (V.ld1 tb (hr := itemC.r)) ?_
    refine WpA.oS 8 rfl (Op1.fn rfl (hG) ⟨?_, ?_, ?_⟩)
    exact holdT
    exact holdT
    refine WpA.tF 9 rfl (V.not) ?_
    refine WpA.tF 10 rfl (V.pF) ?_
    refine WpA.tF 11 rfl (V.mv) ?_
    refine WpA.s 12 rfl ?_
    refine WpA.s 13 rfl ?_
    refine WpA.s 14 rfl ?_
    refine WpA.s 15 rfl ?_
    refine WpA.s 16 rfl ?_
    refine WpA.s 17 rfl ?_
    refine WpA.s 18 rfl ?_
    refine WpA.s 19 rfl ?_
    refine WpA.s 20 rfl ?_
    refine WpA.s 21 rfl ?_
    refine WpA.s 22 rfl ?_
    refine WpA.tF 23 rfl (V.pT) ?_
    refine WpA.tF 24 rfl (V.mv) ?_
    refine WpA.s 25 rfl ?_
    refine WpA.s 26 rfl ?_
    refine WpA.s 27 rfl ?_
    refine WpA.s 28 rfl ?_
    refine WpA.s 29 rfl ?_
    refine WpA.s 30 rfl ?_
    refine WpA.s 31 rfl ?_
    refine WpA.s 32 rfl ?_
    refine WpA.s 33 rfl ?_
    refine WpA.s 34 rfl ?_
    refine WpA.s 35 rfl ?_
    refine WpA.s 36 rfl ?_
    refine WpA.s 37 rfl ?_
    refine WpA.tF 38 rfl (V.pT) ?_
    refine WpA.ou ?_
    apply Out.seqN
    refine Wp.cT ?_
    apply Wp.seq
    apply Wp.region
    refine WpL.v (V.mv) ?_
    refine WpL.v (V.as) ?_
    refine WpL.v (V.as) ?_
    apply WpL.nil
    apply Out.seqN
    apply Wp.ret
    apply Out.seqR
    refine Out.f2 rfl ResIs.t ResIs.t ⟨?_, rfl⟩
    exact rfl
end Go.Proofs.Ytgbflapcadlelaa
