/-
  Layer 1: numbers as bytes; the contracts of the sink and of the source.
-/
import Derived.Test.YtienlncaffliaaaTypes
namespace Go.Proofs.Ytienlncaffliaaa
open Go.HL
set_option linter.unusedSimpArgs false
set_option linter.unusedVariables false
set_option maxRecDepth 8000
def natB (n : Nat) : List UInt8 := if n < 128 then [UInt8.ofNat n] else UInt8.ofNat (128 + n % 128) :: natB (n / 128)
termination_by n
decreasing_by omega
def natI (n : Int) : List UInt8 := natB n.toNat
theorem natB_lo {n : Nat} (h : n < 128) : natB n = [UInt8.ofNat n] := by rw [natB]; exact if_pos h
theorem natB_hi {n : Nat} (h : ¬ n < 128) : natB n = UInt8.ofNat (128 + n % 128) :: natB (n / 128) := by
  rw [natB]; exact if_neg h
theorem natB_len (k : Nat) : ∀ n, n < 128 ^ (k + 1) → (natB n).length ≤ k + 1 := by
  induction k with
  | zero => intro n h; rw [natB_lo (by simpa using h)]; simp
  | succ k ih =>
    intro n h
    by_cases hl : n < 128
    · rw [natB_lo hl]; simp
    · rw [natB_hi hl]
      have := ih (n / 128) (by
        rw [Nat.pow_succ] at h
        exact Nat.div_lt_of_lt_mul (by omega))
      simp; omega
theorem natI_len {n : Int} (h : n ≤ 9223372036854775807) : (natI n).length ≤ 9 := natB_len 8 _ (by omega)
theorem natB_pos (n : Nat) : 1 ≤ (natB n).length := by
  by_cases hl : n < 128
  · rw [natB_lo hl]; simp
  · rw [natB_hi hl]; simp
theorem natI_pos (n : Int) : 1 ≤ (natI n).length := by
  unfold natI
  by_cases hl : n.toNat < 128
  · rw [natB_lo hl]; simp
  · rw [natB_hi hl]; simp
theorem cv64 {n : Int} (h : n ≤ 9223372036854775807) : IntKind.u64.wrap (Max.max n 0) = ((n.toNat : Nat) : Int) := by
  have : Max.max n 0 = ((n.toNat : Nat) : Int) := by omega
  rw [this]
  simp only [IntKind.wrap, IntKind.signed, IntKind.bits]
  simp
  omega
theorem cv8 (m : Nat) (h : m < 128) : IntKind.u8.wrap (m : Int) = ((UInt8.ofNat m).toNat : Int) := by
  simp only [IntKind.wrap, IntKind.signed, IntKind.bits]
  simp
theorem u8wrap (m : Nat) : IntKind.u8.wrap (m : Int) = ((m % 256 : Nat) : Int) := by
  simp only [IntKind.wrap, IntKind.signed, IntKind.bits]
  simp
theorem or128 : ∀ x : Fin 256, (BitVec.ofNat 8 x.val ||| 128#8).toNat = 128 + x.val % 128 := by decide
theorem orB (m : Nat) : bitI .or .u8 (IntKind.u8.wrap (m : Int)) 128 = some ((UInt8.ofNat (128 + m % 128)).toNat : Int) := by
  have h1 := or128 ⟨m % 256, by omega⟩
  have e1 : BitVec.ofInt IntKind.u8.bits (IntKind.u8.wrap (m : Int)) = BitVec.ofNat 8 (m % 256) := by
    rw [u8wrap]; exact BitVec.ofInt_natCast 8 _
  have e2 : BitVec.ofInt IntKind.u8.bits 128 = 128#8 := rfl
  simp only [bitI, e1, e2]
  have h2 : (BitVec.ofNat 8 (m % 256) ||| 128#8).toNat = 128 + m % 128 := by rw [h1]; simp only; omega
  show some (IntKind.u8.wrap ((BitVec.ofNat 8 (m % 256) ||| 128#8).toNat : Int)) = _
  rw [h2, u8wrap]
  congr 1
theorem cvr (m : Nat) : IntKind.u8.wrap (128 + (m : Int) % 128) = ((UInt8.ofNat (128 + m % 128)).toNat : Int) := by
  have : (128 + (m : Int) % 128) = ((128 + m % 128 : Nat) : Int) := by omega
  rw [this, u8wrap]; congr 1
theorem shr7 (m : Nat) : (m : Int).fdiv (2 ^ (Min.min (7 : Int).toNat IntKind.u64.bits)) = ((m / 128 : Nat) : Int) := by
  have : (2 ^ (Min.min (7 : Int).toNat IntKind.u64.bits) : Int) = ((128 : Nat) : Int) := rfl
  rw [this, Int.fdiv_eq_ediv_of_nonneg _ (by omega)]
  omega
theorem O.bxR {P : Go.Program} {r : Option Nat} {W : Go.World} {D : List Nat} {n : Fm} {dst : Nat} {ty : Go.TypeId} {pos : String} {af : Array Go.Edge} {gd : Option (Nat × Bool)} {C : Env → List Ent → Prop} {env : Env} {σ : List Ent}
    {α : Type} (f : α → List Go.Value) (E sz : Nat) {T : Go.TypeId} {x : Go.Operand} {c : List Go.Value} (hx : ev env x = some (A c)) (hC : ∀ b, C ((dst, Ptr b 0) :: env) (cells b T c :: rows f (.slice none 0 0) E sz [] :: σ)) (hd : Nat.blt dst n.n = true := by exact rfl) :
    Op1 P r W D n ⟨some dst, .box T x, ty, pos, af, gd⟩ env σ C :=
  Op1.weakC (C := fun env' σ' => ∃ b, env' = (dst, Ptr b 0) :: env ∧ σ' = cells b T c :: σ) (Op1.boxA hd hx fun b => ⟨b, rfl, rfl⟩) (by
    rintro env' σ' ⟨b, rfl, rfl⟩
    exact ⟨_, hC b, fun w hw => (hw.rowsNil f E sz).perm (List.Perm.swap _ _ _)⟩)
theorem V.bstr1 {P : Go.Program} {n : Fm} {dst : Nat} {env : Env} {σ : List Ent} {ty : Go.TypeId} {pos : String} {af : Array Go.Edge} {gd : Option (Nat × Bool)} (tb : Tabs P) {t u E e a : Nat} {x : Go.Operand} {v : Go.Value} {y : UInt8} (hx : ev env x = some v) (hm : row v E 1 1 [.int .u8 (y.toNat : Int)] ∈ σ)
    (ht : lk1 tb.strs u = some a := by exact rfl) (hu : lk1 tb.slc t = some e := by exact rfl) (he : lkK tb.ints e = some .u8 := by exact rfl) : Val P n env σ ⟨some dst, .convert t u x, ty, pos, af, gd⟩ (S [y]) :=
  V.bstr tb (l := [y]) hx hm ht hu he
/-- Bytes are put behind. -/
theorem sinkNat (b : Nat) (v : Go.Value) (xs : List UInt8) (ns : List Int) (e : Ent) (ao : Option Go.Addr) (cap bb off : Nat) (hR : Rd e ao ns.length bb off 1 (ns.map i64c))
    (hw : ∀ n, n ∈ ns → n ≤ 9223372036854775807) (hx : xs.length + 9 * ns.length ≤ 1000000) :
    Ct Try.prog 20 [Ptr b 0, .slice ao ns.length cap] [cells b 26 (OctaveSink.c ⟨v⟩), rows u8c v 5 1 xs, e]
      (fun r σ' => ∃ v', r = .tuple #[] ∧ σ' = [cells b 26 (OctaveSink.c ⟨v'⟩), rows u8c v' 5 1 (xs ++ ns.flatMap natI), e]) := by
  refine Ct.enter Try.func20 rfl rfl fun W => ?_
  apply Wp.seq
  apply Wp.region
  refine WpL.v (V.mv) ?_
  refine WpL.v (V.lenL tb) ?_
  refine WpL.v (V.mv) ?_
  apply WpL.nil
  apply Out.seqN
  apply Wp.block
  refine Wp.lp [8, 7, 0] (fun x : Nat × List UInt8 × Go.Value => x.1 ≤ ns.length ∧ x.2.1 = xs ++ (ns.take x.1).flatMap natI ∧ x.2.1.length + 9 * (ns.length - x.1) ≤ 1000000)
    (fun x => [(9, I (x.1 : Int))]) (fun x => [cells b 26 (OctaveSink.c ⟨x.2.2⟩), rows u8c x.2.2 5 1 x.2.1]) (fun x => ns.length - x.1) (0, xs, v) ⟨Nat.zero_le _, by simp, by dsimp only; omega⟩ ?_
  rintro ⟨k, pre, v1⟩ ⟨hk, hp, hl⟩ K hK
  dsimp only at hk hp hl
  dsimp only [List.cons_append, List.nil_append]
  have hml := hR.len
  by_cases hlt : k < ns.length
  · have hn : ns.getD k default ≤ 9223372036854775807 := hw _ (by simp [hlt])
    have hnl := natI_len hn
    have hnp := natI_pos (ns.getD k default)
    apply Wp.seq
    apply Wp.region
    refine WpL.v (V.cmp) ?_
    apply WpL.nil
    apply Out.seqN
    apply Wp.seq
    refine Wp.c (fun hb0 => ?_) (fun hb0 => ?_)
    (try simp only [decide_eq_true_eq, decide_eq_false_iff_not, Bool.not_eq_true', Bool.not_eq_false', Bool.not_eq_true, Bool.not_eq_false, not_true_eq_false, not_false_eq_true, reduceCtorEq] at hb0)
    apply Wp.skip
    apply Out.seqN
    apply Wp.seq
    apply Wp.block
    apply Wp.seq
    apply Wp.region
    refine WpL.v (V.ixR tb rfl rfl (by assumption)) ?_
    refine WpL.v (V.ldR1 tb rfl (by assumption) (getMapD1 (by omega))) ?_
    refine WpL.v (V.as) ?_
    apply WpL.nil
    apply Out.seqN
    apply Wp.seq
    apply Wp.region
    refine WpL.v (V.mv) ?_
    refine WpL.v (V.max) ?_
    refine WpL.v (V.cvE tb rfl rfl (cv64 (by assumption))) ?_
    refine WpL.v (V.as) ?_
    apply WpL.nil
    apply Out.seqN
    apply Wp.seq
    apply Wp.block
    rotate_left
    (try simp only [decide_eq_true_eq, decide_eq_false_iff_not, Bool.not_eq_true', Bool.not_eq_false', Bool.not_eq_true, Bool.not_eq_false, not_true_eq_false, not_false_eq_true, reduceCtorEq] at hb0)
    (exfalso; omega)
    refine Wp.lp [9, 8, 7, 0] (fun x : Nat × List UInt8 × Go.Value => ∃ p, x.2.1 = pre ++ p ∧ p ++ natB x.1 = natI (ns.getD k default) ∧ p.length + 1 ≤ 9) (fun x => [(6, .int .u64 (x.1 : Int))]) (fun x => [cells b 26 (OctaveSink.c ⟨x.2.2⟩), rows u8c x.2.2 5 1 x.2.1]) (fun x => x.1) ((ns.getD k default).toNat, pre, v1) ⟨[], by simp, rfl, by simp⟩ ?_
    rintro ⟨m, q, v2⟩ ⟨p, hq, he, hpl⟩ L hL
    dsimp only at he hpl hq
    have hql : q.length = pre.length + p.length := by rw [hq]; simp
    dsimp only [List.cons_append, List.nil_append]
    apply Wp.seq
    apply Wp.seq
    apply Wp.region
    refine WpL.v (V.mv) ?_
    refine WpL.v (V.cmp) ?_
    apply WpL.nil
    apply Out.seqN
    refine Wp.c (fun hc0 => ?_) (fun hc0 => ?_)
    (try simp only [decide_eq_true_eq, decide_eq_false_iff_not, Bool.not_eq_true', Bool.not_eq_false', Bool.not_eq_true, Bool.not_eq_false, not_true_eq_false, not_false_eq_true, reduceCtorEq] at hc0)
    apply Wp.skip
    apply Out.seqN
    apply Wp.block
    apply Wp.seq
    apply Wp.region
    refine WpL.v (V.mv) ?_
    refine WpL.v (V.mv) ?_
    refine WpL.v (V.nc) ?_
    refine WpL.v (V.fa tb) ?_
    refine WpL.v (V.ld1 tb) ?_
    refine WpL.v (V.mv) ?_
    refine WpL.v (V.cvI tb) ?_
    refine WpL.v (V.bitE rfl rfl (orB _)) ?_
    refine WpL.o (O.lit tb (fun p26 => ?_))
    refine WpL.o (O.apL tb rfl rfl (by (intro _; repeat first | exact Upd.here _ _ _ | apply Upd.there)) (SrcL.one tb (by (repeat first | exact List.Mem.head _ | apply List.Mem.tail)) ones_u8c) (fun g27 cap27 => ?_))
    refine WpL.v (V.nc) ?_
    refine WpL.v (V.fa tb) ?_
    refine WpL.o (O.st1 tb ?_)
    apply WpL.nil
    apply Out.seqN
    apply Wp.region
    refine WpL.v (V.mv) ?_
    refine WpL.v (V.shrE rfl rfl (shr7 _)) ?_
    refine WpL.v (V.as) ?_
    apply WpL.nil
    apply Out.blockN
    rotate_left
    (try simp only [decide_eq_true_eq, decide_eq_false_iff_not, Bool.not_eq_true', Bool.not_eq_false', Bool.not_eq_true, Bool.not_eq_false, not_true_eq_false, not_false_eq_true, reduceCtorEq] at hc0)
    apply Wp.exit
    apply Out.seqE
    apply Out.seqE
    apply Out.blockE
    apply Out.seqN
    apply Wp.region
    refine WpL.v (V.mv) ?_
    refine WpL.v (V.mv) ?_
    refine WpL.v (V.nc) ?_
    refine WpL.v (V.fa tb) ?_
    refine WpL.v (V.ld1 tb) ?_
    refine WpL.v (V.mv) ?_
    refine WpL.v (V.cvE tb rfl rfl (cv8 _ (by omega))) ?_
    refine WpL.o (O.lit tb (fun p39 => ?_))
    refine WpL.o (O.apL tb rfl rfl (by (intro _; repeat first | exact Upd.here _ _ _ | apply Upd.there)) (SrcL.one tb (by (repeat first | exact List.Mem.head _ | apply List.Mem.tail)) ones_u8c) (fun g40 cap40 => ?_))
    refine WpL.v (V.nc) ?_
    refine WpL.v (V.fa tb) ?_
    refine WpL.o (O.st1 tb ?_)
    apply WpL.nil
    apply Out.blockN
    apply Out.seqN
    apply Wp.region
    refine WpL.v (V.add) ?_
    refine WpL.v (V.mv) ?_
    apply WpL.nil
    rotate_left
    · have hb := natB_hi (n := m) (by omega)
      have h1 := natB_pos (m / 128)
      have h2 : p.length + ((natB (m / 128)).length + 1) ≤ 9 := by
        have : (p ++ natB m).length = (natI (ns.getD k default)).length := by rw [he]
        rw [hb] at this; simp only [List.length_append, List.length_cons] at this; omega
      exact Out.ag hL (m / 128, q ++ [UInt8.ofNat (128 + m % 128)], _) ⟨p ++ [UInt8.ofNat (128 + m % 128)], by simp [hq], by rw [List.append_assoc, ← he, hb]; rfl, by simp; omega⟩ (by dsimp only; omega)
    · have hb := natB_lo (n := m) (by omega)
      have h2 : p ++ [UInt8.ofNat m] = natI (ns.getD k default) := by rw [← he, hb]
      have h3 : q ++ [UInt8.ofNat m] = xs ++ (ns.take (k + 1)).flatMap natI := by
        rw [hq, List.append_assoc, h2, hp, List.take_succ_eq_append_getElem hlt, List.flatMap_append, List.append_assoc]
        simp [List.getD, hlt]
      exact Out.ag hK (k + 1, q ++ [UInt8.ofNat m], _) ⟨by dsimp only; omega, h3, by simp; omega⟩ (by dsimp only; omega)
  · apply Wp.seq
    apply Wp.region
    refine WpL.v (V.cmp) ?_
    apply WpL.nil
    apply Out.seqN
    apply Wp.seq
    refine Wp.c (fun hd0 => ?_) (fun hd0 => ?_)
    (try simp only [decide_eq_true_eq, decide_eq_false_iff_not, Bool.not_eq_true', Bool.not_eq_false', Bool.not_eq_true, Bool.not_eq_false, not_true_eq_false, not_false_eq_true, reduceCtorEq] at hd0)
    (exfalso; omega)
    (try simp only [decide_eq_true_eq, decide_eq_false_iff_not, Bool.not_eq_true', Bool.not_eq_false', Bool.not_eq_true, Bool.not_eq_false, not_true_eq_false, not_false_eq_true, reduceCtorEq] at hd0)
    apply Wp.exit
    apply Out.seqE
    apply Out.seqE
    apply Out.blockE
    refine Out.e0 rfl  ?_
    obtain rfl : pre = xs ++ ns.flatMap natI := by rw [hp, List.take_of_length_le (by omega)]
    exact ⟨_, _, ⟨v1, rfl, rfl⟩, Sel.cons Rem.here (Sel.cons Rem.here (Sel.cons Rem.here Sel.nil))⟩
theorem refNat (n : Int) (h : n ≤ 9223372036854775807) : Fun Try.prog 53 [I n] (S (natI n)) := by
  refine Ct.enter Try.func53 rfl rfl fun W => ?_
  apply Wp.seq
  apply Wp.region
  refine WpL.v (V.as) ?_
  apply WpL.nil
  apply Out.seqN
  apply Wp.seq
  apply Wp.region
  refine WpL.v (V.mv) ?_
  refine WpL.v (V.max) ?_
  refine WpL.v (V.as) ?_
  apply WpL.nil
  apply Out.seqN
  apply Wp.seq
  apply Wp.region
  refine WpL.v (V.as) ?_
  apply WpL.nil
  apply Out.seqN
  apply Wp.seq
  apply Wp.block
  refine Wp.lp [] (fun x : Nat × List UInt8 => x.2 ++ natB x.1 = natI n ∧ x.2.length + 1 ≤ 9 ∧ x.1 ≤ 9223372036854775807) (fun x => [(3, S x.2), (0, I (x.1 : Int))]) (fun x => []) (fun x => x.1) (n.toNat, []) ⟨rfl, by simp, by dsimp only; omega⟩ ?_ (he := ?_)
  rotate_left
  · exact subEnv.cons rfl rfl (subEnv.cons rfl (by congr 1; dsimp only; omega) subEnv.nil)
  rintro ⟨m, p⟩ ⟨he, hpl, hm⟩ L hL
  dsimp only at he hpl hm
  dsimp only [List.cons_append, List.nil_append]
  apply Wp.seq
  apply Wp.seq
  apply Wp.region
  refine WpL.v (V.mv) ?_
  refine WpL.v (V.cmp) ?_
  apply WpL.nil
  apply Out.seqN
  refine Wp.c (fun hf0 => ?_) (fun hf0 => ?_)
  (try simp only [decide_eq_true_eq, decide_eq_false_iff_not, Bool.not_eq_true', Bool.not_eq_false', Bool.not_eq_true, Bool.not_eq_false, not_true_eq_false, not_false_eq_true, reduceCtorEq] at hf0)
  apply Wp.skip
  apply Out.seqN
  apply Wp.block
  apply Wp.seq
  apply Wp.region
  refine WpL.v (V.mv) ?_
  refine WpL.v (V.mv) ?_
  refine WpL.v (V.rem) ?_
  refine WpL.v (V.add) ?_
  refine WpL.v (V.cvE tb rfl rfl (cvr _)) ?_
  refine WpL.o (O.lit tb (fun p13 => ?_))
  refine WpL.v (V.bstr1 tb rfl (by (repeat first | exact List.Mem.head _ | apply List.Mem.tail))) ?_
  refine WpL.v (V.cat) ?_
  refine WpL.v (V.as) ?_
  apply WpL.nil
  apply Out.seqN
  apply Wp.region
  refine WpL.v (V.mv) ?_
  refine WpL.v (V.quo) ?_
  refine WpL.v (V.as) ?_
  apply WpL.nil
  apply Out.blockN
  rotate_left
  (try simp only [decide_eq_true_eq, decide_eq_false_iff_not, Bool.not_eq_true', Bool.not_eq_false', Bool.not_eq_true, Bool.not_eq_false, not_true_eq_false, not_false_eq_true, reduceCtorEq] at hf0)
  apply Wp.exit
  apply Out.seqE
  apply Out.seqE
  apply Out.blockE
  apply Out.seqN
  apply Wp.seq
  apply Wp.region
  refine WpL.v (V.mv) ?_
  refine WpL.v (V.mv) ?_
  refine WpL.v (V.cvE tb rfl rfl (cv8 _ (by omega))) ?_
  refine WpL.o (O.lit tb (fun p21 => ?_))
  refine WpL.v (V.bstr1 tb rfl (by (repeat first | exact List.Mem.head _ | apply List.Mem.tail))) ?_
  refine WpL.v (V.cat) ?_
  refine WpL.v (V.as) ?_
  apply WpL.nil
  apply Out.seqN
  apply Wp.ret
  refine Out.f1 rfl ResIs.t ⟨?_, rfl⟩
  rotate_left
  · have hb := natB_hi (n := m) (by omega)
    have h1 := natB_pos (m / 128)
    have hnl := natI_len h
    have h2 : p.length + ((natB (m / 128)).length + 1) ≤ 9 := by
      have : (p ++ natB m).length = (natI n).length := by rw [he]
      rw [hb] at this; simp only [List.length_append, List.length_cons] at this; omega
    exact Out.ag hL (m / 128, p ++ [UInt8.ofNat (128 + m % 128)]) ⟨by rw [List.append_assoc, ← he, hb]; rfl, by simp; omega, by dsimp only; omega⟩ (by dsimp only; omega)
  · rw [← he, natB_lo (by omega)]
theorem sinkBytes (b : Nat) (v : Go.Value) (xs : List UInt8) : Ct Try.prog 21 [Ptr b 0] [cells b 26 (OctaveSink.c ⟨v⟩), rows u8c v 5 1 xs] (fun r σ' => r = S xs ∧ σ' = [cells b 26 (OctaveSink.c ⟨v⟩), rows u8c v 5 1 xs]) := by
  refine Ct.enter Try.func21 rfl rfl fun W => ?_
  apply Wp.seq
  apply Wp.region
  refine WpL.v (V.as) ?_
  apply WpL.nil
  apply Out.seqN
  apply Wp.seq
  apply Wp.region
  refine WpL.v (V.mv) ?_
  refine WpL.v (V.nc) ?_
  refine WpL.v (V.fa tb) ?_
  refine WpL.v (V.ld1 tb) ?_
  refine WpL.v (V.bstrL tb) ?_
  refine WpL.v (V.as) ?_
  apply WpL.nil
  apply Out.seqN
  apply Wp.ret
  refine Out.f1 rfl ResIs.t ⟨?_, rfl⟩
  exact rfl
theorem srcFrom (s : List UInt8) : Ct Try.prog 39 [S s] [] (fun r σ' => ∃ b, r = Ptr b 0 ∧ σ' = [cells b 99 (OctaveSource.c ⟨s, false⟩)]) := by
  refine Ct.enter Try.func39 rfl rfl fun W => ?_
  apply Wp.seq
  apply Wp.region
  refine WpL.v (V.as) ?_
  apply WpL.nil
  apply Out.seqN
  apply Wp.seq
  apply Wp.region
  refine WpL.v (V.mv) ?_
  refine WpL.v (V.bld tb) ?_
  refine WpL.o (O.bxA (fun p5 => ?_))
  refine WpL.v (V.as) ?_
  apply WpL.nil
  apply Out.seqN
  apply Wp.ret
  refine Out.e1 rfl ResIs.t ?_
  exact ⟨_, _, ⟨_, rfl, rfl⟩, (by (repeat (first | exact Sel.nil | exact Rem.here | apply Sel.cons | apply Rem.there)))⟩
theorem srcStop (b : Nat) (s : OctaveSource) : Ct Try.prog 48 [Ptr b 0] [cells b 99 s.c] (fun r σ' => r = .tuple #[] ∧ σ' = [cells b 99 (OctaveSource.c ⟨[], true⟩)]) := by
  refine Ct.enter Try.func48 rfl rfl fun W => ?_
  apply Wp.seq
  apply Wp.region
  refine WpL.v (V.mv) ?_
  refine WpL.v (V.neP) ?_
  apply WpL.nil
  apply Out.seqN
  refine Wp.cT ?_
  apply Wp.region
  refine WpL.v (V.mv) ?_
  refine WpL.v (V.mv) ?_
  refine WpL.v (V.nc) ?_
  refine WpL.v (V.fa tb) ?_
  refine WpL.o (O.st1 tb ?_)
  refine WpL.v (V.nc) ?_
  refine WpL.v (V.fa tb) ?_
  refine WpL.o (O.st1 tb ?_)
  apply WpL.nil
  refine Out.f0 rfl  ⟨?_, rfl⟩
  exact rfl
theorem srcStopN : Fun Try.prog 48 [.pointer none] (.tuple #[]) := by
  refine Ct.enter Try.func48 rfl rfl fun W => ?_
  apply Wp.seq
  apply Wp.region
  refine WpL.v (V.mv) ?_
  refine WpL.v (V.neN) ?_
  apply WpL.nil
  apply Out.seqN
  refine Wp.cF ?_
  apply Wp.skip
  refine Out.f0 rfl  ⟨?_, rfl⟩
  exact rfl
theorem srcOver (b : Nat) (s : OctaveSource) : Ct Try.prog 43 [Ptr b 0] [cells b 99 s.c] (fun r σ' => r = B (!s.dry && decide (s.in_ = [])) ∧ σ' = [cells b 99 s.c]) := by
  refine Ct.enter Try.func43 rfl rfl fun W => ?_
  apply Wp.seq
  apply Wp.region
  refine WpL.v (V.as) ?_
  apply WpL.nil
  apply Out.seqN
  apply Wp.seq
  apply Wp.region
  refine WpL.v (V.mv) ?_
  refine WpL.v (V.neP) ?_
  refine WpL.v (V.mv) ?_
  refine WpL.v (V.mv) ?_
  refine WpL.v (V.nc) ?_
  refine WpL.v (V.fa tb) ?_
  refine WpL.v (V.ld1 tb) ?_
  refine WpL.v (V.not) ?_
  refine WpL.v (V.pT) ?_
  refine WpL.v (V.mv) ?_
  refine WpL.pt (fun hj0 => ?_) (fun hj0 => ?_)
  (try simp only [decide_eq_true_eq, decide_eq_false_iff_not, Bool.not_eq_true', Bool.not_eq_false', Bool.not_eq_true, Bool.not_eq_false, not_true_eq_false, not_false_eq_true, reduceCtorEq] at hj0)
  refine WpL.v (V.mv) ?_
  refine WpL.v (V.nc) ?_
  refine WpL.v (V.fa tb) ?_
  refine WpL.v (V.ld1 tb) ?_
  refine WpL.v (V.cmpS) ?_
  refine WpL.v (V.pT) ?_
  refine WpL.v (V.as) ?_
  apply WpL.nil
  apply Out.seqN
  apply Wp.ret
  refine Out.f1 rfl ResIs.t ⟨?_, rfl⟩
  focus (simp [*]; done)
  (try simp only [decide_eq_true_eq, decide_eq_false_iff_not, Bool.not_eq_true', Bool.not_eq_false', Bool.not_eq_true, Bool.not_eq_false, not_true_eq_false, not_false_eq_true, reduceCtorEq] at hj0)
  refine WpL.sk ?_
  refine WpL.sk ?_
  refine WpL.sk ?_
  refine WpL.sk ?_
  refine WpL.sk ?_
  refine WpL.v (V.pF) ?_
  refine WpL.v (V.as) ?_
  apply WpL.nil
  apply Out.seqN
  apply Wp.ret
  refine Out.f1 rfl ResIs.t ⟨?_, rfl⟩
  focus (simp [*]; done)
theorem srcDry (b : Nat) (s : OctaveSource) : Ct Try.prog 42 [Ptr b 0] [cells b 99 s.c] (fun r σ' => r = B s.dry ∧ σ' = [cells b 99 s.c]) := by
  refine Ct.enter Try.func42 rfl rfl fun W => ?_
  apply Wp.seq
  apply Wp.region
  refine WpL.v (V.as) ?_
  apply WpL.nil
  apply Out.seqN
  apply Wp.seq
  apply Wp.region
  refine WpL.v (V.mv) ?_
  refine WpL.v (V.eqP) ?_
  refine WpL.v (V.mv) ?_
  refine WpL.v (V.mv) ?_
  refine WpL.v (V.nc) ?_
  refine WpL.v (V.fa tb) ?_
  refine WpL.v (V.ld1 tb) ?_
  refine WpL.v (V.pF) ?_
  refine WpL.v (V.as) ?_
  apply WpL.nil
  apply Out.seqN
  apply Wp.ret
  refine Out.f1 rfl ResIs.t ⟨?_, rfl⟩
  exact rfl
theorem srcLeft (b : Nat) (s : OctaveSource) : Ct Try.prog 47 [Ptr b 0] [cells b 99 s.c] (fun r σ' => r = I (s.in_.length : Int) ∧ σ' = [cells b 99 s.c]) := by
  refine Ct.enter Try.func47 rfl rfl fun W => ?_
  apply Wp.seq
  apply Wp.region
  refine WpL.v (V.as) ?_
  apply WpL.nil
  apply Out.seqN
  apply Wp.seq
  apply Wp.seq
  apply Wp.region
  refine WpL.v (V.mv) ?_
  refine WpL.v (V.eqP) ?_
  apply WpL.nil
  apply Out.seqN
  refine Wp.cF ?_
  apply Wp.skip
  apply Out.seqN
  apply Wp.seq
  apply Wp.region
  refine WpL.v (V.mv) ?_
  refine WpL.v (V.nc) ?_
  refine WpL.v (V.fa tb) ?_
  refine WpL.v (V.ld1 tb) ?_
  refine WpL.v (V.lenS tb) ?_
  refine WpL.v (V.as) ?_
  apply WpL.nil
  apply Out.seqN
  apply Wp.ret
  refine Out.f1 rfl ResIs.t ⟨?_, rfl⟩
  exact rfl
/-! ### Numbers' bytes -/
theorem natB_mono (a : Nat) : ∀ b, a ≤ b → (natB a).length ≤ (natB b).length := by
  induction a using Nat.strongRecOn with
  | _ a ih =>
    intro b h
    by_cases ha : a < 128
    · rw [natB_lo ha]; exact natB_pos b
    · rw [natB_hi ha, natB_hi (n := b) (by omega)]
      have := ih (a / 128) (by omega) (b / 128) (by omega)
      simp; omega
theorem u8_inj {a b : Nat} (ha : a < 256) (hb : b < 256) (h : UInt8.ofNat a = UInt8.ofNat b) : a = b := by
  have := congrArg UInt8.toNat h
  simp at this
  omega
theorem natB_pre (a : Nat) : ∀ b, (natB b).take (natB a).length = natB a → a = b := by
  induction a using Nat.strongRecOn with
  | _ a ih =>
    intro b h
    by_cases ha : a < 128
    · rw [natB_lo ha] at h
      by_cases hb : b < 128
      · rw [natB_lo hb] at h
        exact (u8_inj (by omega) (by omega) (by simpa using h)).symm
      · rw [natB_hi hb] at h
        have := u8_inj (a := 128 + b % 128) (b := a) (by omega) (by omega) (by simpa using h)
        omega
    · rw [natB_hi ha] at h
      by_cases hb : b < 128
      · rw [natB_lo hb] at h
        have h1 := natB_pos (a / 128)
        have := congrArg List.length h
        simp only [List.length_take, List.length_cons, List.length_nil] at this
        omega
      · rw [natB_hi hb] at h
        simp only [List.length_cons, List.take_succ_cons, List.cons.injEq] at h
        have h1 := u8_inj (by omega) (by omega) h.1
        have h2 := ih (a / 128) (by omega) (b / 128) h.2
        omega
theorem natI_pre {a b : Int} (ha : 0 ≤ a) (hb : 0 ≤ b) (h : (natI b).take (natI a).length = natI a) : a = b := by
  have := natB_pre _ _ h; omega
theorem sinkNat1 (b : Nat) (v : Go.Value) (xs : List UInt8) (n : Int) (g : Nat) (h : n ≤ 9223372036854775807) (hx : xs.length ≤ 900000) :
    Ct Try.prog 20 [Ptr b 0, .slice (some ⟨g, 0, none⟩) 1 1] [cells b 26 (OctaveSink.c ⟨v⟩), rows u8c v 5 1 xs, row (.slice (some ⟨g, 0, none⟩) 1 1) 3 1 1 [I n]]
      (fun r σ' => ∃ v', r = .tuple #[] ∧ σ' = [cells b 26 (OctaveSink.c ⟨v'⟩), rows u8c v' 5 1 (xs ++ natI n), row (.slice (some ⟨g, 0, none⟩) 1 1) 3 1 1 [I n]]) := by
  have := sinkNat b v xs [n] _ _ 1 g 0 (Rd.lits (E := 3) (cap := 1) i64c [n] rfl rfl (fun _ => rfl) (by simp)) (by simpa using h) (by simp; omega)
  simp only [List.flatMap_cons, List.flatMap_nil, List.append_nil] at this
  exact this
theorem sinkNat2 (b : Nat) (v : Go.Value) (xs : List UInt8) (m n : Int) (g : Nat) (hm : m ≤ 9223372036854775807) (h : n ≤ 9223372036854775807) (hx : xs.length ≤ 900000) :
    Ct Try.prog 20 [Ptr b 0, .slice (some ⟨g, 0, none⟩) 2 2] [cells b 26 (OctaveSink.c ⟨v⟩), rows u8c v 5 1 xs, row (.slice (some ⟨g, 0, none⟩) 2 2) 3 1 2 [I m, I n]]
      (fun r σ' => ∃ v', r = .tuple #[] ∧ σ' = [cells b 26 (OctaveSink.c ⟨v'⟩), rows u8c v' 5 1 (xs ++ (natI m ++ natI n)), row (.slice (some ⟨g, 0, none⟩) 2 2) 3 1 2 [I m, I n]]) := by
  have := sinkNat b v xs [m, n] _ _ 2 g 0 (Rd.lits (E := 3) (cap := 2) i64c [m, n] rfl rfl (fun _ => rfl) (by simp)) (by intro q hq; simp at hq; rcases hq with rfl | rfl <;> assumption) (by simp; omega)
  simp only [List.flatMap_cons, List.flatMap_nil, List.append_nil] at this
  exact this
theorem nat300 : natI 300 = [172, 2] := by
  have : (300 : Int).toNat = 300 := rfl
  rw [natI, this, natB_hi (by omega), natB_lo (by omega)]; rfl
theorem alive01 : Fun Try.prog 19 [] (B true) := by
  refine Ct.enter Try.func19 rfl rfl fun W => ?_
  apply Wp.seq
  apply Wp.region
  refine WpL.v (V.as) ?_
  apply WpL.nil
  apply Out.seqN
  apply Wp.seq
  apply Wp.region
  refine WpL.v (V.bld tb) ?_
  refine WpL.o (O.bxR u8c 5 1 rfl (fun p3 => ?_))
  refine WpL.v (V.as) ?_
  apply WpL.nil
  apply Out.seqN
  apply Wp.seq
  apply Wp.region
  refine WpL.v (V.mv) ?_
  refine WpL.o (O.lit tb (fun p5 => ?_))
  refine WpL.o (Op1.callT rfl (sinkNat1 _ _ _ _ _ ?_ ?_) (by (repeat (first | exact Sel.nil | exact Rem.here | apply Sel.cons | apply Rem.there))) ?_)
  (first | with_reducible assumption | omega | (simp only [List.length_append, List.length_cons, List.length_nil, List.length_map] at *; omega) | (focus (simp; done)))
  (first | with_reducible assumption | omega | (simp only [List.length_append, List.length_cons, List.length_nil, List.length_map] at *; omega) | (focus (simp; done)))
  rintro v0 s1 ⟨v'6, ⟨rfl, rfl⟩⟩
  refine incat ?_
  apply WpL.nil
  apply Out.seqN
  apply Wp.seq
  apply Wp.region
  refine WpL.v (V.mv) ?_
  refine WpL.o (Op1.callT rfl (sinkBytes _ _ _) (by (repeat (first | exact Sel.nil | exact Rem.here | apply Sel.cons | apply Rem.there))) ?_)
  rintro v2 s3 ⟨rfl, rfl⟩
  refine incat ?_
  refine WpL.v (V.cmpS) ?_
  refine WpL.v (V.mv) ?_
  refine WpL.pt (fun hm4 => ?_) (fun hm4 => ?_)
  (try simp only [decide_eq_true_eq, decide_eq_false_iff_not, Bool.not_eq_true', Bool.not_eq_false', Bool.not_eq_true, Bool.not_eq_false, not_true_eq_false, not_false_eq_true, reduceCtorEq] at hm4)
  refine WpL.o (Op1.callT rfl (srcFrom _) (by (repeat (first | exact Sel.nil | exact Rem.here | apply Sel.cons | apply Rem.there))) ?_)
  rintro v5 s6 ⟨b11, ⟨rfl, rfl⟩⟩
  refine incat ?_
  refine WpL.o (Op1.callT rfl (srcOver _ _) (by (repeat (first | exact Sel.nil | exact Rem.here | apply Sel.cons | apply Rem.there))) ?_)
  rintro v7 s8 ⟨rfl, rfl⟩
  refine incat ?_
  refine WpL.v (V.pT) ?_
  refine WpL.v (V.mv) ?_
  refine WpL.o (Op1.callT rfl (srcFrom _) (by (repeat (first | exact Sel.nil | exact Rem.here | apply Sel.cons | apply Rem.there))) ?_)
  rintro v9 s10 ⟨b15, ⟨rfl, rfl⟩⟩
  refine incat ?_
  refine WpL.o (Op1.callT rfl (srcOver _ _) (by (repeat (first | exact Sel.nil | exact Rem.here | apply Sel.cons | apply Rem.there))) ?_)
  rintro v11 s12 ⟨rfl, rfl⟩
  refine incat ?_
  refine WpL.v (V.not) ?_
  refine WpL.v (V.pT) ?_
  refine WpL.v (V.as) ?_
  apply WpL.nil
  apply Out.seqN
  apply Wp.ret
  refine Out.f1 rfl ResIs.t ⟨?_, rfl⟩
  exact rfl
  (try simp only [decide_eq_true_eq, decide_eq_false_iff_not, Bool.not_eq_true', Bool.not_eq_false', Bool.not_eq_true, Bool.not_eq_false, not_true_eq_false, not_false_eq_true, reduceCtorEq] at hm4)
  refine WpL.sk ?_
  refine WpL.sk ?_
  refine WpL.v (V.pF) ?_
  refine WpL.v (V.mv) ?_
  refine WpL.sk ?_
  refine WpL.sk ?_
  refine WpL.sk ?_
  refine WpL.v (V.pF) ?_
  refine WpL.v (V.as) ?_
  apply WpL.nil
  apply Out.seqN
  apply Wp.ret
  refine Out.f1 rfl ResIs.t ⟨?_, rfl⟩
  focus (simp_all [nat300]; done)
theorem sinkRaw (b : Nat) (v : Go.Value) (xs t : List UInt8) (hx : xs.length + t.length ≤ 2000000) :
    Ct Try.prog 57 [Ptr b 0, S t] [cells b 26 (OctaveSink.c ⟨v⟩), rows u8c v 5 1 xs] (fun r σ' => ∃ v', r = .tuple #[] ∧ σ' = [cells b 26 (OctaveSink.c ⟨v'⟩), rows u8c v' 5 1 (xs ++ t)]) := by
  refine Ct.enter Try.func57 rfl rfl fun W => ?_
  apply Wp.region
  refine WpL.v (V.mv) ?_
  refine WpL.v (V.mv) ?_
  refine WpL.v (V.nc) ?_
  refine WpL.v (V.fa tb) ?_
  refine WpL.v (V.ld1 tb) ?_
  refine WpL.v (V.mv) ?_
  refine WpL.o (O.apLV tb rfl rfl (by (intro _; repeat first | exact Upd.here _ _ _ | apply Upd.there)) (SrcL.str tb) (fun v10 h110 hv10 => ?_))
  refine WpL.v (V.nc) ?_
  refine WpL.v (V.fa tb) ?_
  refine WpL.o (O.st1 tb ?_)
  apply WpL.nil
  refine Out.e0 rfl  ?_
  exact ⟨_, _, ⟨_, rfl, rfl⟩, (by (repeat (first | exact Sel.nil | exact Rem.here | apply Sel.cons | apply Rem.there)))⟩
theorem sinkText (b : Nat) (v : Go.Value) (xs t : List UInt8) (hx : xs.length + t.length ≤ 800000) :
    Ct Try.prog 55 [Ptr b 0, S t] [cells b 26 (OctaveSink.c ⟨v⟩), rows u8c v 5 1 xs] (fun r σ' => ∃ v', r = .tuple #[] ∧ σ' = [cells b 26 (OctaveSink.c ⟨v'⟩), rows u8c v' 5 1 (xs ++ (natI t.length ++ t))]) := by
  have hnl := natI_len (n := (t.length : Int)) (by omega)
  refine Ct.enter Try.func55 rfl rfl fun W => ?_
  apply Wp.seq
  apply Wp.region
  refine WpL.v (V.mv) ?_
  refine WpL.v (V.mv) ?_
  refine WpL.v (V.lenS tb) ?_
  refine WpL.o (O.lit tb (fun p7 => ?_))
  refine WpL.o (Op1.callT rfl (sinkNat1 _ _ _ _ _ ?_ ?_) (by (repeat (first | exact Sel.nil | exact Rem.here | apply Sel.cons | apply Rem.there))) ?_)
  (first | with_reducible assumption | omega | (simp only [List.length_append, List.length_cons, List.length_nil, List.length_map] at *; omega) | (focus (simp; done)))
  (first | with_reducible assumption | omega | (simp only [List.length_append, List.length_cons, List.length_nil, List.length_map] at *; omega) | (focus (simp; done)))
  rintro v0 s1 ⟨v'8, ⟨rfl, rfl⟩⟩
  refine incat ?_
  apply WpL.nil
  apply Out.seqN
  apply Wp.region
  refine WpL.v (V.mv) ?_
  refine WpL.v (V.mv) ?_
  refine WpL.o (Op1.callT rfl (sinkRaw _ _ _ _ ?_) (by (repeat (first | exact Sel.nil | exact Rem.here | apply Sel.cons | apply Rem.there))) ?_)
  (first | with_reducible assumption | omega | (simp only [List.length_append, List.length_cons, List.length_nil, List.length_map] at *; omega) | (focus (simp; done)))
  rintro v2 s3 ⟨v'11, ⟨rfl, rfl⟩⟩
  refine incat ?_
  apply WpL.nil
  refine Out.e0 rfl  ?_
  rw [List.append_assoc]
  exact ⟨_, _, ⟨_, rfl, rfl⟩, Sel.cons Rem.here (Sel.cons Rem.here Sel.nil)⟩
theorem sinkBit (b : Nat) (v : Go.Value) (xs : List UInt8) (y : Bool) (hx : xs.length ≤ 800000) :
    Ct Try.prog 54 [Ptr b 0, B y] [cells b 26 (OctaveSink.c ⟨v⟩), rows u8c v 5 1 xs] (fun r σ' => ∃ v', r = .tuple #[] ∧ σ' = [cells b 26 (OctaveSink.c ⟨v'⟩), rows u8c v' 5 1 (xs ++ natI (if y then 1 else 0))]) := by
  refine Ct.enter Try.func54 rfl rfl fun W => ?_
  apply Wp.seq
  apply Wp.region
  refine WpL.v (V.mv) ?_
  apply WpL.nil
  apply Out.seqN
  refine Wp.c (fun hsi0 => ?_) (fun hsi0 => ?_)
  (try simp only [decide_eq_true_eq, decide_eq_false_iff_not, Bool.not_eq_true', Bool.not_eq_false', Bool.not_eq_true, Bool.not_eq_false, not_true_eq_false, not_false_eq_true, reduceCtorEq] at hsi0)
  apply Wp.region
  refine WpL.v (V.mv) ?_
  refine WpL.o (O.lit tb (fun p6 => ?_))
  refine WpL.o (Op1.callT rfl (sinkNat1 _ _ _ _ _ ?_ ?_) (by (repeat (first | exact Sel.nil | exact Rem.here | apply Sel.cons | apply Rem.there))) ?_)
  (first | with_reducible assumption | omega | (simp only [List.length_append, List.length_cons, List.length_nil, List.length_map] at *; omega) | (focus (simp; done)))
  (first | with_reducible assumption | omega | (simp only [List.length_append, List.length_cons, List.length_nil, List.length_map] at *; omega) | (focus (simp; done)))
  rintro v1 s2 ⟨v'7, ⟨rfl, rfl⟩⟩
  refine incat ?_
  apply WpL.nil
  refine Out.e0 rfl  ?_
  rotate_left
  (try simp only [decide_eq_true_eq, decide_eq_false_iff_not, Bool.not_eq_true', Bool.not_eq_false', Bool.not_eq_true, Bool.not_eq_false, not_true_eq_false, not_false_eq_true, reduceCtorEq] at hsi0)
  apply Wp.region
  refine WpL.v (V.mv) ?_
  refine WpL.o (O.lit tb (fun p9 => ?_))
  refine WpL.o (Op1.callT rfl (sinkNat1 _ _ _ _ _ ?_ ?_) (by (repeat (first | exact Sel.nil | exact Rem.here | apply Sel.cons | apply Rem.there))) ?_)
  (first | with_reducible assumption | omega | (simp only [List.length_append, List.length_cons, List.length_nil, List.length_map] at *; omega) | (focus (simp; done)))
  (first | with_reducible assumption | omega | (simp only [List.length_append, List.length_cons, List.length_nil, List.length_map] at *; omega) | (focus (simp; done)))
  rintro v3 s4 ⟨v'10, ⟨rfl, rfl⟩⟩
  refine incat ?_
  apply WpL.nil
  refine Out.e0 rfl  ?_
  rotate_left
  · subst hsi0; exact ⟨_, _, ⟨_, rfl, rfl⟩, Sel.cons Rem.here (Sel.cons Rem.here Sel.nil)⟩
  · subst hsi0; exact ⟨_, _, ⟨_, rfl, rfl⟩, Sel.cons Rem.here (Sel.cons Rem.here Sel.nil)⟩
theorem refText (t : List UInt8) (h : t.length ≤ 9223372036854775000) : Fun Try.prog 56 [S t] (S (natI t.length ++ t)) := by
  have := natI_len (n := (t.length : Int)) (by omega)
  refine Ct.enter Try.func56 rfl rfl fun W => ?_
  apply Wp.seq
  apply Wp.region
  refine WpL.v (V.as) ?_
  apply WpL.nil
  apply Out.seqN
  apply Wp.seq
  apply Wp.region
  refine WpL.v (V.mv) ?_
  refine WpL.v (V.lenS tb) ?_
  refine WpL.o (Op1.fn rfl (refNat _ ?_) ?_)
  (first | with_reducible assumption | omega | (simp only [List.length_append, List.length_cons, List.length_nil, List.length_map] at *; omega) | (focus (simp; done)))
  refine WpL.v (V.mv) ?_
  refine WpL.v (V.cat) ?_
  refine WpL.v (V.as) ?_
  apply WpL.nil
  apply Out.seqN
  apply Wp.ret
  refine Out.f1 rfl ResIs.t ⟨?_, rfl⟩
  exact rfl
/-! ### The source -/
def rawS (s : OctaveSource) (n : Int) : List UInt8 × OctaveSource := if s.dry = true ∨ n < 0 ∨ (s.in_.length : Int) < n then ([], ⟨[], true⟩) else (s.in_.take n.toNat, ⟨s.in_.drop n.toNat, s.dry⟩)
theorem srcRaw (b : Nat) (s : OctaveSource) (n : Int) (hs : s.in_.length ≤ 9223372036854775807) : Ct Try.prog 46 [Ptr b 0, I n] [cells b 99 s.c] (fun r σ' => r = S (rawS s n).1 ∧ σ' = [cells b 99 (rawS s n).2.c]) := by
  refine Ct.enter Try.func46 rfl rfl fun W => ?_
  apply Wp.seq
  apply Wp.region
  refine WpL.v (V.as) ?_
  apply WpL.nil
  apply Out.seqN
  apply Wp.seq
  apply Wp.seq
  apply Wp.region
  refine WpL.v (V.mv) ?_
  refine WpL.v (V.eqP) ?_
  refine WpL.v (V.mv) ?_
  refine WpL.v (V.mv) ?_
  refine WpL.v (V.nc) ?_
  refine WpL.v (V.fa tb) ?_
  refine WpL.v (V.ld1 tb) ?_
  refine WpL.v (V.pF) ?_
  refine WpL.v (V.mv) ?_
  refine WpL.pt (fun h0 => ?_) (fun h0 => ?_)
  (try simp only [decide_eq_true_eq, decide_eq_false_iff_not, Bool.not_eq_true', Bool.not_eq_false', Bool.not_eq_true, Bool.not_eq_false, not_true_eq_false, not_false_eq_true, reduceCtorEq] at h0)
  refine WpL.sk ?_
  refine WpL.sk ?_
  refine WpL.v (V.pT) ?_
  refine WpL.v (V.mv) ?_
  refine WpL.sk ?_
  refine WpL.sk ?_
  refine WpL.sk ?_
  refine WpL.sk ?_
  refine WpL.sk ?_
  refine WpL.sk ?_
  refine WpL.sk ?_
  refine WpL.v (V.pT) ?_
  apply WpL.nil
  apply Out.seqN
  refine Wp.cT ?_
  apply Wp.seq
  apply Wp.region
  refine WpL.v (V.mv) ?_
  refine WpL.o (Op1.callT rfl (srcStop _ _) (by (repeat (first | exact Sel.nil | exact Rem.here | apply Sel.cons | apply Rem.there))) ?_)
  rintro v1 s2 ⟨rfl, rfl⟩
  refine incat ?_
  apply WpL.nil
  apply Out.seqN
  apply Wp.seq
  apply Wp.region
  refine WpL.v (V.as) ?_
  apply WpL.nil
  apply Out.seqN
  apply Wp.ret
  apply Out.seqR
  refine Out.e1 rfl ResIs.t ?_
  rotate_left
  (try simp only [decide_eq_true_eq, decide_eq_false_iff_not, Bool.not_eq_true', Bool.not_eq_false', Bool.not_eq_true, Bool.not_eq_false, not_true_eq_false, not_false_eq_true, reduceCtorEq] at h0)
  refine WpL.v (V.mv) ?_
  refine WpL.v (V.cmp) ?_
  refine WpL.v (V.pF) ?_
  refine WpL.v (V.mv) ?_
  refine WpL.pt (fun h3 => ?_) (fun h3 => ?_)
  (try simp only [decide_eq_true_eq, decide_eq_false_iff_not, Bool.not_eq_true', Bool.not_eq_false', Bool.not_eq_true, Bool.not_eq_false, not_true_eq_false, not_false_eq_true, reduceCtorEq] at h3)
  refine WpL.sk ?_
  refine WpL.sk ?_
  refine WpL.sk ?_
  refine WpL.sk ?_
  refine WpL.sk ?_
  refine WpL.sk ?_
  refine WpL.sk ?_
  refine WpL.v (V.pT) ?_
  apply WpL.nil
  apply Out.seqN
  refine Wp.cT ?_
  apply Wp.seq
  apply Wp.region
  refine WpL.v (V.mv) ?_
  refine WpL.o (Op1.callT rfl (srcStop _ _) (by (repeat (first | exact Sel.nil | exact Rem.here | apply Sel.cons | apply Rem.there))) ?_)
  rintro v4 s5 ⟨rfl, rfl⟩
  refine incat ?_
  apply WpL.nil
  apply Out.seqN
  apply Wp.seq
  apply Wp.region
  refine WpL.v (V.as) ?_
  apply WpL.nil
  apply Out.seqN
  apply Wp.ret
  apply Out.seqR
  refine Out.e1 rfl ResIs.t ?_
  rotate_left
  (try simp only [decide_eq_true_eq, decide_eq_false_iff_not, Bool.not_eq_true', Bool.not_eq_false', Bool.not_eq_true, Bool.not_eq_false, not_true_eq_false, not_false_eq_true, reduceCtorEq] at h3)
  refine WpL.v (V.mv) ?_
  refine WpL.v (V.mv) ?_
  refine WpL.v (V.nc) ?_
  refine WpL.v (V.fa tb) ?_
  refine WpL.v (V.ld1 tb) ?_
  refine WpL.v (V.lenS tb) ?_
  refine WpL.v (V.cmp) ?_
  refine WpL.v (V.pF) ?_
  apply WpL.nil
  apply Out.seqN
  refine Wp.c (fun h6 => ?_) (fun h6 => ?_)
  (try simp only [decide_eq_true_eq, decide_eq_false_iff_not, Bool.not_eq_true', Bool.not_eq_false', Bool.not_eq_true, Bool.not_eq_false, not_true_eq_false, not_false_eq_true, reduceCtorEq] at h6)
  apply Wp.seq
  apply Wp.region
  refine WpL.v (V.mv) ?_
  refine WpL.o (Op1.callT rfl (srcStop _ _) (by (repeat (first | exact Sel.nil | exact Rem.here | apply Sel.cons | apply Rem.there))) ?_)
  rintro v7 s8 ⟨rfl, rfl⟩
  refine incat ?_
  apply WpL.nil
  apply Out.seqN
  apply Wp.seq
  apply Wp.region
  refine WpL.v (V.as) ?_
  apply WpL.nil
  apply Out.seqN
  apply Wp.ret
  apply Out.seqR
  refine Out.e1 rfl ResIs.t ?_
  rotate_left
  (try simp only [decide_eq_true_eq, decide_eq_false_iff_not, Bool.not_eq_true', Bool.not_eq_false', Bool.not_eq_true, Bool.not_eq_false, not_true_eq_false, not_false_eq_true, reduceCtorEq] at h6)
  apply Wp.skip
  apply Out.seqN
  apply Wp.seq
  apply Wp.region
  refine WpL.v (V.mv) ?_
  refine WpL.v (V.nc) ?_
  refine WpL.v (V.fa tb) ?_
  refine WpL.v (V.ld1 tb) ?_
  refine WpL.v (V.mv) ?_
  refine WpL.v (V.slHi tb) ?_
  refine WpL.v (V.as) ?_
  apply WpL.nil
  apply Out.seqN
  apply Wp.seq
  apply Wp.region
  refine WpL.v (V.mv) ?_
  refine WpL.v (V.mv) ?_
  refine WpL.v (V.nc) ?_
  refine WpL.v (V.fa tb) ?_
  refine WpL.v (V.ld1 tb) ?_
  refine WpL.v (V.mv) ?_
  refine WpL.v (V.slLo tb) ?_
  refine WpL.v (V.nc) ?_
  refine WpL.v (V.fa tb) ?_
  refine WpL.o (O.st1 tb ?_)
  apply WpL.nil
  apply Out.seqN
  apply Wp.seq
  apply Wp.region
  refine WpL.v (V.mv) ?_
  refine WpL.v (V.as) ?_
  apply WpL.nil
  apply Out.seqN
  apply Wp.ret
  refine Out.e1 rfl ResIs.t ?_
  rotate_left
  all_goals first
    | (rw [show rawS s n = ([], ⟨[], true⟩) from if_pos (by simp_all)]; exact ⟨_, _, ⟨rfl, rfl⟩, Sel.cons Rem.here Sel.nil⟩)
    | (rw [show rawS s n = (s.in_.take n.toNat, ⟨s.in_.drop n.toNat, s.dry⟩) from if_neg (by simp_all)]; exact ⟨_, _, ⟨rfl, rfl⟩, Sel.cons Rem.here Sel.nil⟩)
theorem srcRawN (n : Int) : Fun Try.prog 46 [.pointer none, I n] (S []) := by
  refine Ct.enter Try.func46 rfl rfl fun W => ?_
  apply Wp.seq
  apply Wp.region
  refine WpL.v (V.as) ?_
  apply WpL.nil
  apply Out.seqN
  apply Wp.seq
  apply Wp.seq
  apply Wp.region
  refine WpL.v (V.mv) ?_
  refine WpL.v (V.eqN) ?_
  refine WpL.v (V.mv) ?_
  refine WpL.sk ?_
  refine WpL.sk ?_
  refine WpL.sk ?_
  refine WpL.sk ?_
  refine WpL.v (V.pT) ?_
  refine WpL.v (V.mv) ?_
  refine WpL.sk ?_
  refine WpL.sk ?_
  refine WpL.v (V.pT) ?_
  refine WpL.v (V.mv) ?_
  refine WpL.sk ?_
  refine WpL.sk ?_
  refine WpL.sk ?_
  refine WpL.sk ?_
  refine WpL.sk ?_
  refine WpL.sk ?_
  refine WpL.sk ?_
  refine WpL.v (V.pT) ?_
  apply WpL.nil
  apply Out.seqN
  refine Wp.cT ?_
  apply Wp.seq
  apply Wp.region
  refine WpL.v (V.mv) ?_
  refine WpL.o (Op1.fn rfl (srcStopN) ?_)
  apply WpL.nil
  apply Out.seqN
  apply Wp.seq
  apply Wp.region
  refine WpL.v (V.as) ?_
  apply WpL.nil
  apply Out.seqN
  apply Wp.ret
  apply Out.seqR
  refine Out.f1 rfl ResIs.t ⟨?_, rfl⟩
  exact rfl
def natG : List UInt8 → Nat → Nat → Option (Nat × List UInt8)
  | [], _, _ => none
  | x :: xs, i, acc => if 8 < i then none else if x.toNat < 128 then (if x.toNat = 0 ∧ 0 < i then none else some (acc + x.toNat % 128 * 128 ^ i, xs)) else natG xs (i + 1) (acc + (x.toNat % 128) * 128 ^ i)
def natT (most : Int) (s : OctaveSource) (i acc : Nat) : Int × OctaveSource :=
  if s.dry = true then (0, ⟨[], true⟩) else match natG s.in_ i acc with
    | some (v, rest) => if most < (v : Int) then (0, ⟨[], true⟩) else ((v : Int), ⟨rest, false⟩)
    | none => (0, ⟨[], true⟩)
def natS (s : OctaveSource) (most : Int) : Int × OctaveSource := natT most s 0 0
theorem and127 : ∀ x : Fin 256, (BitVec.ofNat 8 x.val &&& 127#8).toNat = x.val % 128 := by decide
theorem andB (x : UInt8) : bitI .and .u8 (x.toNat : Int) 127 = some ((x.toNat % 128 : Nat) : Int) := by
  have h1 := and127 ⟨x.toNat, x.toNat_lt⟩
  have e1 : BitVec.ofInt IntKind.u8.bits (x.toNat : Int) = BitVec.ofNat 8 x.toNat := BitVec.ofInt_natCast 8 _
  have e2 : BitVec.ofInt IntKind.u8.bits 127 = 127#8 := rfl
  simp only [bitI, e1, e2]
  show some (IntKind.u8.wrap ((BitVec.ofNat 8 x.toNat &&& 127#8).toNat : Int)) = _
  rw [h1, u8wrap]
  simp only
  congr 2
  omega
theorem u64wrap (m : Nat) (h : m < 2 ^ 64) : IntKind.u64.wrap (m : Int) = (m : Int) := by
  simp only [IntKind.wrap, IntKind.signed, IntKind.bits]
  simp
  omega
theorem pow128 (i : Nat) : (2 : Nat) ^ (7 * i) = 128 ^ i := by rw [Nat.pow_mul]
theorem pow128_le {i : Nat} (h : i ≤ 8) : 128 ^ i ≤ 128 ^ 8 := Nat.pow_le_pow_right (by omega) h
theorem shlB (x i : Nat) (hx : x < 128) (hi : i ≤ 8) : IntKind.u64.wrap ((x : Int) * 2 ^ (Min.min (7 * (i : Int)).toNat IntKind.u64.bits)) = ((x * 128 ^ i : Nat) : Int) := by
  have e : Min.min (7 * (i : Int)).toNat IntKind.u64.bits = 7 * i := by
    have : IntKind.u64.bits = 64 := rfl
    omega
  rw [e]
  have e2 : ((x : Int) * 2 ^ (7 * i)) = ((x * 128 ^ i : Nat) : Int) := by
    rw [← pow128]; simp
  rw [e2]
  have := Nat.mul_le_mul (show x ≤ 127 by omega) (pow128_le hi)
  exact u64wrap _ (by omega)
theorem orAdd (a y i : Nat) (ha : a < 128 ^ i) (hi : i ≤ 8) (hy : y < 128) : bitI .or .u64 (a : Int) ((y * 128 ^ i : Nat) : Int) = some ((a + y * 128 ^ i : Nat) : Int) := by
  have h1 := pow128_le hi
  have h2 := Nat.mul_le_mul (show y ≤ 127 by omega) h1
  have e1 : BitVec.ofInt IntKind.u64.bits (a : Int) = BitVec.ofNat 64 a := BitVec.ofInt_natCast 64 _
  have e2 : BitVec.ofInt IntKind.u64.bits ((y * 128 ^ i : Nat) : Int) = BitVec.ofNat 64 (y * 128 ^ i) := BitVec.ofInt_natCast 64 _
  have e3 : a ||| y * 128 ^ i = a + y * 128 ^ i := by
    rw [← pow128] at ha ⊢
    have := Nat.two_pow_add_eq_or_of_lt ha y
    rw [Nat.mul_comm y, Nat.or_comm, ← this]; omega
  simp only [bitI, e1, e2]
  show some (IntKind.u64.wrap ((BitVec.ofNat 64 a ||| BitVec.ofNat 64 (y * 128 ^ i)).toNat : Int)) = _
  rw [BitVec.toNat_or, BitVec.toNat_ofNat, BitVec.toNat_ofNat, Nat.mod_eq_of_lt (by omega), Nat.mod_eq_of_lt (by omega), e3, u64wrap _ (by omega)]
theorem i64wrap (m : Nat) (h : m < 2 ^ 63) : IntKind.i64.wrap (m : Int) = (m : Int) := wrap_in (In.mk64 (by omega))
theorem rawS_one (s : OctaveSource) : rawS s 1 = match s.dry, s.in_ with
    | false, x :: xs => ([x], ⟨xs, false⟩)
    | _, _ => ([], ⟨[], true⟩) := by
  unfold rawS
  cases hd : s.dry <;> cases hi : s.in_ <;> simp <;> omega
theorem natT_cons {most : Int} {c : OctaveSource} {i acc : Nat} {x : UInt8} {xs : List UInt8} (hd : ¬ c.dry = true) (hc : c.in_ = x :: xs) : natT most c i acc =
    if 8 < i then (0, ⟨[], true⟩) else if x.toNat < 128 then (if x.toNat = 0 ∧ 0 < i then (0, ⟨[], true⟩) else if most < ((acc + x.toNat % 128 * 128 ^ i : Nat) : Int) then (0, ⟨[], true⟩) else (((acc + x.toNat % 128 * 128 ^ i : Nat) : Int), ⟨xs, false⟩))
    else natT most ⟨xs, false⟩ (i + 1) (acc + x.toNat % 128 * 128 ^ i) := by
  unfold natT
  rw [if_neg hd, hc]
  simp only [natG]
  by_cases h1 : 8 < i
  · simp only [if_pos h1]
  · by_cases h2 : x.toNat < 128
    · by_cases h3 : x.toNat = 0 ∧ 0 < i
      · simp only [if_neg h1, if_pos h2, if_pos h3]
      · simp only [if_neg h1, if_pos h2, if_neg h3]
    · simp only [if_neg h1, if_neg h2, Bool.false_eq_true, if_false]
theorem srcNat (b : Nat) (s : OctaveSource) (most : Int) (hs : s.in_.length ≤ 9223372036854775807) : Ct Try.prog 40 [Ptr b 0, I most] [cells b 99 s.c] (fun r σ' => r = I (natS s most).1 ∧ σ' = [cells b 99 (natS s most).2.c]) := by
  refine Ct.enter Try.func40 rfl rfl fun W => ?_
  apply Wp.seq
  apply Wp.region
  refine WpL.v (V.as) ?_
  apply WpL.nil
  apply Out.seqN
  apply Wp.seq
  apply Wp.region
  refine WpL.v (V.as) ?_
  apply WpL.nil
  apply Out.seqN
  apply Wp.seq
  apply Wp.region
  refine WpL.v (V.as) ?_
  apply WpL.nil
  apply Out.seqN
  apply Wp.block
  refine Wp.lp [0, 1] (fun x : Nat × Nat × OctaveSource => natT most x.2.2 x.1 x.2.1 = natS s most ∧ x.2.1 < 128 ^ x.1 ∧ x.1 ≤ 9 ∧ x.2.2.in_.length ≤ 9223372036854775807) (fun x => [(5, .int .u64 (x.2.1 : Int)), (6, I (7 * (x.1 : Int)))]) (fun x => [cells b 99 x.2.2.c]) (fun x => 10 - x.1) (0, 0, s) ⟨rfl, by simp, by simp, hs⟩ ?_
  rintro ⟨i, acc, c⟩ ⟨he, ha, hi, hc⟩ K hK
  dsimp only at he ha hi hc
  dsimp only [List.cons_append, List.nil_append]
  have hr := rawS_one c
  by_cases hd : c.dry = true
  · have hraw : Ct Try.prog 46 [Ptr b 0, I 1] [cells b 99 c.c] (fun r σ' => r = S [] ∧ σ' = [cells b 99 (OctaveSource.c ⟨[], true⟩)]) := by
      have := srcRaw b c 1 hc
      rwa [show rawS c 1 = ([], ⟨[], true⟩) by rw [hr, hd]] at this
    apply Wp.seq
    apply Wp.block
    apply Wp.seq
    apply Wp.region
    refine WpL.v (V.mv) ?_
    refine WpL.o (Op1.callT rfl (hraw) (by (repeat (first | exact Sel.nil | exact Rem.here | apply Sel.cons | apply Rem.there))) ?_)
    rintro v0 s1 ⟨rfl, rfl⟩
    refine incat ?_
    refine WpL.v (V.as) ?_
    apply WpL.nil
    apply Out.seqN
    apply Wp.seq
    apply Wp.seq
    apply Wp.region
    refine WpL.v (V.mv) ?_
    refine WpL.v (V.cmpS) ?_
    refine WpL.v (V.mv) ?_
    refine WpL.sk ?_
    refine WpL.sk ?_
    refine WpL.v (V.pT) ?_
    apply WpL.nil
    apply Out.seqN
    refine Wp.cT ?_
    apply Wp.seq
    apply Wp.region
    refine WpL.v (V.mv) ?_
    refine WpL.o (Op1.callT rfl (srcStop _ _) (by (repeat (first | exact Sel.nil | exact Rem.here | apply Sel.cons | apply Rem.there))) ?_)
    rintro v2 s3 ⟨rfl, rfl⟩
    refine incat ?_
    apply WpL.nil
    apply Out.seqN
    apply Wp.seq
    apply Wp.region
    refine WpL.v (V.as) ?_
    apply WpL.nil
    apply Out.seqN
    apply Wp.ret
    apply Out.seqR
    apply Out.blockR
    apply Out.seqR
    apply Out.seqR
    apply Out.blockR
    refine Out.e1 rfl ResIs.t ?_
    rw [← he, show natT most c i acc = (0, ⟨[], true⟩) from if_pos hd]
    exact ⟨_, _, ⟨rfl, rfl⟩, Sel.cons Rem.here Sel.nil⟩
  · cases hcin : c.in_ with
    | nil =>
      have hraw : Ct Try.prog 46 [Ptr b 0, I 1] [cells b 99 c.c] (fun r σ' => r = S [] ∧ σ' = [cells b 99 (OctaveSource.c ⟨[], true⟩)]) := by
        have := srcRaw b c 1 hc
        rwa [show rawS c 1 = ([], ⟨[], true⟩) by rw [hr, hcin]; cases c.dry <;> rfl] at this
      apply Wp.seq
      apply Wp.block
      apply Wp.seq
      apply Wp.region
      refine WpL.v (V.mv) ?_
      refine WpL.o (Op1.callT rfl (hraw) (by (repeat (first | exact Sel.nil | exact Rem.here | apply Sel.cons | apply Rem.there))) ?_)
      rintro v0 s1 ⟨rfl, rfl⟩
      refine incat ?_
      refine WpL.v (V.as) ?_
      apply WpL.nil
      apply Out.seqN
      apply Wp.seq
      apply Wp.seq
      apply Wp.region
      refine WpL.v (V.mv) ?_
      refine WpL.v (V.cmpS) ?_
      refine WpL.v (V.mv) ?_
      refine WpL.sk ?_
      refine WpL.sk ?_
      refine WpL.v (V.pT) ?_
      apply WpL.nil
      apply Out.seqN
      refine Wp.cT ?_
      apply Wp.seq
      apply Wp.region
      refine WpL.v (V.mv) ?_
      refine WpL.o (Op1.callT rfl (srcStop _ _) (by (repeat (first | exact Sel.nil | exact Rem.here | apply Sel.cons | apply Rem.there))) ?_)
      rintro v2 s3 ⟨rfl, rfl⟩
      refine incat ?_
      apply WpL.nil
      apply Out.seqN
      apply Wp.seq
      apply Wp.region
      refine WpL.v (V.as) ?_
      apply WpL.nil
      apply Out.seqN
      apply Wp.ret
      apply Out.seqR
      apply Out.blockR
      apply Out.seqR
      apply Out.seqR
      apply Out.blockR
      refine Out.e1 rfl ResIs.t ?_
      rw [← he, show natT most c i acc = (0, ⟨[], true⟩) by unfold natT; rw [if_neg hd, hcin]; rfl]
      exact ⟨_, _, ⟨rfl, rfl⟩, Sel.cons Rem.here Sel.nil⟩
    | cons x xs =>
      have hraw : Ct Try.prog 46 [Ptr b 0, I 1] [cells b 99 c.c] (fun r σ' => r = S [x] ∧ σ' = [cells b 99 (OctaveSource.c ⟨xs, false⟩)]) := by
        have := srcRaw b c 1 hc
        rwa [show rawS c 1 = ([x], ⟨xs, false⟩) by rw [hr, hcin]; simp at hd; rw [hd]] at this
      have hB : i ≤ 8 → acc + (x.toNat % 128) * 128 ^ i < 2 ^ 63 := fun h8 => by
        have h1 := pow128_le h8
        have h2 := Nat.mul_le_mul (show x.toNat % 128 ≤ 127 by omega) h1
        omega
      have hxl := x.toNat_lt
      clear hr
      apply Wp.seq
      apply Wp.block
      apply Wp.seq
      apply Wp.region
      refine WpL.v (V.mv) ?_
      refine WpL.o (Op1.callT rfl (hraw) (by (repeat (first | exact Sel.nil | exact Rem.here | apply Sel.cons | apply Rem.there))) ?_)
      rintro v0 s1 ⟨rfl, rfl⟩
      refine incat ?_
      refine WpL.v (V.as) ?_
      apply WpL.nil
      apply Out.seqN
      apply Wp.seq
      apply Wp.seq
      apply Wp.region
      refine WpL.v (V.mv) ?_
      refine WpL.v (V.cmpS) ?_
      refine WpL.v (V.mv) ?_
      refine WpL.pt (fun h2 => ?_) (fun h2 => ?_)
      (try simp only [decide_eq_true_eq, decide_eq_false_iff_not, Bool.not_eq_true', Bool.not_eq_false', Bool.not_eq_true, Bool.not_eq_false, not_true_eq_false, not_false_eq_true, reduceCtorEq] at h2)
      (try simp only [decide_eq_true_eq, decide_eq_false_iff_not, Bool.not_eq_true', Bool.not_eq_false', Bool.not_eq_true, Bool.not_eq_false, not_true_eq_false, not_false_eq_true, reduceCtorEq] at h2)
      refine WpL.v (V.mv) ?_
      refine WpL.v (V.cmp) ?_
      refine WpL.v (V.pF) ?_
      apply WpL.nil
      apply Out.seqN
      refine Wp.c (fun h3 => ?_) (fun h3 => ?_)
      (try simp only [decide_eq_true_eq, decide_eq_false_iff_not, Bool.not_eq_true', Bool.not_eq_false', Bool.not_eq_true, Bool.not_eq_false, not_true_eq_false, not_false_eq_true, reduceCtorEq] at h3)
      apply Wp.seq
      apply Wp.region
      refine WpL.v (V.mv) ?_
      refine WpL.o (Op1.callT rfl (srcStop _ _) (by (repeat (first | exact Sel.nil | exact Rem.here | apply Sel.cons | apply Rem.there))) ?_)
      rintro v4 s5 ⟨rfl, rfl⟩
      refine incat ?_
      apply WpL.nil
      apply Out.seqN
      apply Wp.seq
      apply Wp.region
      refine WpL.v (V.as) ?_
      apply WpL.nil
      apply Out.seqN
      apply Wp.ret
      apply Out.seqR
      apply Out.blockR
      apply Out.seqR
      apply Out.seqR
      apply Out.blockR
      refine Out.e1 rfl ResIs.t ?_
      rotate_left
      (try simp only [decide_eq_true_eq, decide_eq_false_iff_not, Bool.not_eq_true', Bool.not_eq_false', Bool.not_eq_true, Bool.not_eq_false, not_true_eq_false, not_false_eq_true, reduceCtorEq] at h3)
      apply Wp.skip
      apply Out.seqN
      apply Wp.seq
      apply Wp.region
      refine WpL.v (V.mv) ?_
      refine WpL.v (V.mv) ?_
      refine WpL.v (V.ixS tb rfl rfl (by omega) rfl) ?_
      refine WpL.v (V.bitE rfl rfl (andB _)) ?_
      refine WpL.v (V.cvE tb rfl rfl (u64wrap _ (by omega))) ?_
      refine WpL.v (V.mv) ?_
      refine WpL.v (V.shlE rfl rfl (shlB _ _ (by omega) (by omega))) ?_
      refine WpL.v (V.bitE rfl rfl (orAdd _ _ _ (by assumption) (by omega) (by omega))) ?_
      refine WpL.v (V.as) ?_
      apply WpL.nil
      apply Out.seqN
      apply Wp.seq
      apply Wp.region
      refine WpL.v (V.mv) ?_
      refine WpL.v (V.ixS tb rfl rfl (by omega) rfl) ?_
      refine WpL.v (V.cmp) ?_
      apply WpL.nil
      apply Out.seqN
      refine Wp.c (fun h6 => ?_) (fun h6 => ?_)
      (try simp only [decide_eq_true_eq, decide_eq_false_iff_not, Bool.not_eq_true', Bool.not_eq_false', Bool.not_eq_true, Bool.not_eq_false, not_true_eq_false, not_false_eq_true, reduceCtorEq] at h6)
      apply Wp.seq
      apply Wp.seq
      apply Wp.region
      refine WpL.v (V.mv) ?_
      refine WpL.v (V.ixS tb rfl rfl (by omega) rfl) ?_
      refine WpL.v (V.cmp) ?_
      refine WpL.v (V.mv) ?_
      refine WpL.pt (fun h7 => ?_) (fun h7 => ?_)
      (try simp only [decide_eq_true_eq, decide_eq_false_iff_not, Bool.not_eq_true', Bool.not_eq_false', Bool.not_eq_true, Bool.not_eq_false, not_true_eq_false, not_false_eq_true, reduceCtorEq] at h7)
      refine WpL.v (V.mv) ?_
      refine WpL.v (V.cmp) ?_
      refine WpL.v (V.pT) ?_
      refine WpL.v (V.mv) ?_
      refine WpL.pt (fun h8 => ?_) (fun h8 => ?_)
      (try simp only [decide_eq_true_eq, decide_eq_false_iff_not, Bool.not_eq_true', Bool.not_eq_false', Bool.not_eq_true, Bool.not_eq_false, not_true_eq_false, not_false_eq_true, reduceCtorEq] at h8)
      refine WpL.sk ?_
      refine WpL.sk ?_
      refine WpL.sk ?_
      refine WpL.sk ?_
      refine WpL.v (V.pT) ?_
      apply WpL.nil
      apply Out.seqN
      refine Wp.cT ?_
      apply Wp.seq
      apply Wp.region
      refine WpL.v (V.mv) ?_
      refine WpL.o (Op1.callT rfl (srcStop _ _) (by (repeat (first | exact Sel.nil | exact Rem.here | apply Sel.cons | apply Rem.there))) ?_)
      rintro v9 s10 ⟨rfl, rfl⟩
      refine incat ?_
      apply WpL.nil
      apply Out.seqN
      apply Wp.seq
      apply Wp.region
      refine WpL.v (V.as) ?_
      apply WpL.nil
      apply Out.seqN
      apply Wp.ret
      apply Out.seqR
      apply Out.blockR
      apply Out.seqR
      apply Out.seqR
      apply Out.blockR
      refine Out.e1 rfl ResIs.t ?_
      rotate_left
      (try simp only [decide_eq_true_eq, decide_eq_false_iff_not, Bool.not_eq_true', Bool.not_eq_false', Bool.not_eq_true, Bool.not_eq_false, not_true_eq_false, not_false_eq_true, reduceCtorEq] at h8)
      refine WpL.v (V.mv) ?_
      refine WpL.v (V.cvE tb rfl rfl (i64wrap _ (hB (by omega)))) ?_
      refine WpL.v (V.mv) ?_
      refine WpL.v (V.cmp) ?_
      refine WpL.v (V.pF) ?_
      apply WpL.nil
      apply Out.seqN
      refine Wp.c (fun h11 => ?_) (fun h11 => ?_)
      (try simp only [decide_eq_true_eq, decide_eq_false_iff_not, Bool.not_eq_true', Bool.not_eq_false', Bool.not_eq_true, Bool.not_eq_false, not_true_eq_false, not_false_eq_true, reduceCtorEq] at h11)
      apply Wp.seq
      apply Wp.region
      refine WpL.v (V.mv) ?_
      refine WpL.o (Op1.callT rfl (srcStop _ _) (by (repeat (first | exact Sel.nil | exact Rem.here | apply Sel.cons | apply Rem.there))) ?_)
      rintro v12 s13 ⟨rfl, rfl⟩
      refine incat ?_
      apply WpL.nil
      apply Out.seqN
      apply Wp.seq
      apply Wp.region
      refine WpL.v (V.as) ?_
      apply WpL.nil
      apply Out.seqN
      apply Wp.ret
      apply Out.seqR
      apply Out.blockR
      apply Out.seqR
      apply Out.seqR
      apply Out.blockR
      refine Out.e1 rfl ResIs.t ?_
      rotate_left
      (try simp only [decide_eq_true_eq, decide_eq_false_iff_not, Bool.not_eq_true', Bool.not_eq_false', Bool.not_eq_true, Bool.not_eq_false, not_true_eq_false, not_false_eq_true, reduceCtorEq] at h11)
      apply Wp.skip
      apply Out.seqN
      apply Wp.seq
      apply Wp.region
      refine WpL.v (V.mv) ?_
      refine WpL.v (V.cvE tb rfl rfl (i64wrap _ (hB (by omega)))) ?_
      refine WpL.v (V.as) ?_
      apply WpL.nil
      apply Out.seqN
      apply Wp.ret
      apply Out.blockR
      apply Out.seqR
      apply Out.seqR
      apply Out.blockR
      refine Out.e1 rfl ResIs.t ?_
      rotate_left
      (try simp only [decide_eq_true_eq, decide_eq_false_iff_not, Bool.not_eq_true', Bool.not_eq_false', Bool.not_eq_true, Bool.not_eq_false, not_true_eq_false, not_false_eq_true, reduceCtorEq] at h7)
      refine WpL.sk ?_
      refine WpL.sk ?_
      refine WpL.v (V.pF) ?_
      refine WpL.v (V.mv) ?_
      refine WpL.v (V.mv) ?_
      refine WpL.v (V.cvE tb rfl rfl (i64wrap _ (hB (by omega)))) ?_
      refine WpL.v (V.mv) ?_
      refine WpL.v (V.cmp) ?_
      refine WpL.v (V.pF) ?_
      apply WpL.nil
      apply Out.seqN
      refine Wp.c (fun h14 => ?_) (fun h14 => ?_)
      (try simp only [decide_eq_true_eq, decide_eq_false_iff_not, Bool.not_eq_true', Bool.not_eq_false', Bool.not_eq_true, Bool.not_eq_false, not_true_eq_false, not_false_eq_true, reduceCtorEq] at h14)
      apply Wp.seq
      apply Wp.region
      refine WpL.v (V.mv) ?_
      refine WpL.o (Op1.callT rfl (srcStop _ _) (by (repeat (first | exact Sel.nil | exact Rem.here | apply Sel.cons | apply Rem.there))) ?_)
      rintro v15 s16 ⟨rfl, rfl⟩
      refine incat ?_
      apply WpL.nil
      apply Out.seqN
      apply Wp.seq
      apply Wp.region
      refine WpL.v (V.as) ?_
      apply WpL.nil
      apply Out.seqN
      apply Wp.ret
      apply Out.seqR
      apply Out.blockR
      apply Out.seqR
      apply Out.seqR
      apply Out.blockR
      refine Out.e1 rfl ResIs.t ?_
      rotate_left
      (try simp only [decide_eq_true_eq, decide_eq_false_iff_not, Bool.not_eq_true', Bool.not_eq_false', Bool.not_eq_true, Bool.not_eq_false, not_true_eq_false, not_false_eq_true, reduceCtorEq] at h14)
      apply Wp.skip
      apply Out.seqN
      apply Wp.seq
      apply Wp.region
      refine WpL.v (V.mv) ?_
      refine WpL.v (V.cvE tb rfl rfl (i64wrap _ (hB (by omega)))) ?_
      refine WpL.v (V.as) ?_
      apply WpL.nil
      apply Out.seqN
      apply Wp.ret
      apply Out.blockR
      apply Out.seqR
      apply Out.seqR
      apply Out.blockR
      refine Out.e1 rfl ResIs.t ?_
      rotate_left
      (try simp only [decide_eq_true_eq, decide_eq_false_iff_not, Bool.not_eq_true', Bool.not_eq_false', Bool.not_eq_true, Bool.not_eq_false, not_true_eq_false, not_false_eq_true, reduceCtorEq] at h6)
      apply Wp.skip
      apply Out.blockN
      apply Out.seqN
      apply Wp.region
      refine WpL.v (V.mv) ?_
      refine WpL.v (V.add) ?_
      refine WpL.v (V.as) ?_
      apply WpL.nil
      rotate_left
      all_goals first
        | (rw [← he, natT_cons hd hcin, if_pos (by omega)]; exact ⟨_, _, ⟨rfl, rfl⟩, Sel.cons Rem.here Sel.nil⟩; done)
        | (rw [← he, natT_cons hd hcin, if_neg (by omega), if_pos (by omega), if_pos (by omega)]; exact ⟨_, _, ⟨rfl, rfl⟩, Sel.cons Rem.here Sel.nil⟩; done)
        | (rw [← he, natT_cons hd hcin, if_neg (by omega), if_pos (by omega), if_neg (by omega), if_pos (by assumption)]; exact ⟨_, _, ⟨rfl, rfl⟩, Sel.cons Rem.here Sel.nil⟩; done)
        | (rw [← he, natT_cons hd hcin, if_neg (by omega), if_pos (by omega), if_neg (by omega), if_neg (by assumption)]; exact ⟨_, _, ⟨rfl, rfl⟩, Sel.cons Rem.here Sel.nil⟩; done)
        | skip
      have hlt : acc + x.toNat % 128 * 128 ^ i < 128 ^ (i + 1) := by
        have h2 := Nat.mul_le_mul_right (128 ^ i) (show x.toNat % 128 + 1 ≤ 128 by omega)
        rw [Nat.pow_succ]
        rw [Nat.add_mul] at h2
        omega
      exact Out.ag hK (i + 1, acc + x.toNat % 128 * 128 ^ i, ⟨xs, false⟩) ⟨by dsimp only; rw [← he, natT_cons hd hcin, if_neg (by omega), if_neg (by omega)], hlt, by dsimp only; omega, by dsimp only; rw [hcin] at hc; simp at hc; omega⟩ (by dsimp only; omega)
theorem srcBit (b : Nat) (s : OctaveSource) (hs : s.in_.length ≤ 9223372036854775807) : Ct Try.prog 44 [Ptr b 0] [cells b 99 s.c] (fun r σ' => r = B (decide ((natS s 1).1 = 1)) ∧ σ' = [cells b 99 (natS s 1).2.c]) := by
  refine Ct.enter Try.func44 rfl rfl fun W => ?_
  apply Wp.seq
  apply Wp.region
  refine WpL.v (V.as) ?_
  apply WpL.nil
  apply Out.seqN
  apply Wp.seq
  apply Wp.region
  refine WpL.v (V.mv) ?_
  refine WpL.o (Op1.callT rfl (srcNat _ _ _ ?_) (by (repeat (first | exact Sel.nil | exact Rem.here | apply Sel.cons | apply Rem.there))) ?_)
  (first | with_reducible assumption | omega | (simp only [List.length_append, List.length_cons, List.length_nil, List.length_map] at *; omega) | (focus (simp; done)))
  rintro v0 s1 ⟨rfl, rfl⟩
  refine incat ?_
  refine WpL.v (V.cmp) ?_
  refine WpL.v (V.as) ?_
  apply WpL.nil
  apply Out.seqN
  apply Wp.ret
  refine Out.f1 rfl ResIs.t ⟨?_, rfl⟩
  exact rfl
theorem natG_len : ∀ (l : List UInt8) (i acc v : Nat) (rest : List UInt8), natG l i acc = some (v, rest) → rest.length ≤ l.length
  | [], _, _, _, _, h => by simp [natG] at h
  | x :: xs, i, acc, v, rest, h => by
    simp only [natG] at h
    split at h
    · cases h
    · split at h
      · split at h
        · cases h
        · simp only [Option.some.injEq, Prod.mk.injEq] at h
          rw [← h.2]; simp
      · have := natG_len xs _ _ _ _ h
        simp; omega
theorem natS_len (s : OctaveSource) (most : Int) : (natS s most).2.in_.length ≤ s.in_.length := by
  unfold natS natT
  split
  · simp
  · split
    · rename_i v rest h
      have := natG_len _ _ _ _ _ h
      split <;> simp <;> omega
    · simp
def textS (s : OctaveSource) (most : Int) : List UInt8 × OctaveSource := rawS (natS s most).2 (natS s most).1
theorem srcText (b : Nat) (s : OctaveSource) (most : Int) (hs : s.in_.length ≤ 9223372036854775807) : Ct Try.prog 45 [Ptr b 0, I most] [cells b 99 s.c] (fun r σ' => r = S (textS s most).1 ∧ σ' = [cells b 99 (textS s most).2.c]) := by
  have hl := natS_len s most
  refine Ct.enter Try.func45 rfl rfl fun W => ?_
  apply Wp.seq
  apply Wp.region
  refine WpL.v (V.as) ?_
  apply WpL.nil
  apply Out.seqN
  apply Wp.seq
  apply Wp.region
  refine WpL.v (V.mv) ?_
  refine WpL.v (V.mv) ?_
  refine WpL.v (V.mv) ?_
  refine WpL.o (Op1.callT rfl (srcNat _ _ _ ?_) (by (repeat (first | exact Sel.nil | exact Rem.here | apply Sel.cons | apply Rem.there))) ?_)
  (first | with_reducible assumption | omega | (simp only [List.length_append, List.length_cons, List.length_nil, List.length_map] at *; omega) | (focus (simp; done)))
  rintro v0 s1 ⟨rfl, rfl⟩
  refine incat ?_
  refine WpL.o (Op1.callT rfl (srcRaw _ _ _ ?_) (by (repeat (first | exact Sel.nil | exact Rem.here | apply Sel.cons | apply Rem.there))) ?_)
  (first | with_reducible assumption | omega | (simp only [List.length_append, List.length_cons, List.length_nil, List.length_map] at *; omega) | (focus (simp; done)))
  rintro v2 s3 ⟨rfl, rfl⟩
  refine incat ?_
  refine WpL.v (V.as) ?_
  apply WpL.nil
  apply Out.seqN
  apply Wp.ret
  refine Out.f1 rfl ResIs.t ⟨?_, rfl⟩
  exact rfl
end Go.Proofs.Ytienlncaffliaaa
