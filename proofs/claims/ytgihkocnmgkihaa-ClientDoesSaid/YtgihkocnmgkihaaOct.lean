/-
  Layer 1: numbers as bytes; the contracts of the sink and of the source.
-/
import Derived.Test.YtgihkocnmgkihaaReg4
namespace Go.Proofs.Ytgihkocnmgkihaa
open Go.HL
set_option linter.unusedSimpArgs false
set_option linter.unusedVariables false
set_option maxRecDepth 8000
def natB (n : Nat) : List UInt8 := if n < 128 then [UInt8.ofNat n] else UInt8.ofNat (128 + n % 128) :: natB (n / 128)
termination_by n
decreasing_by omega
def natI (n : Int) : List UInt8 := natB n.toNat
theorem natB_lo {n : Nat} (h : n < 128) : natB n = [UInt8.ofNat n] := by rw [natB]; exact if_pos h
theorem natB_hi {n : Nat} (h : ¬ n < 128) : natB n = UInt8.ofNat (128 + n % 128) :: natB (n / 128) := by
  rw [natB]; exact if_neg h
theorem natB_len (k : Nat) : ∀ n, n < 128 ^ (k + 1) → (natB n).length ≤ k + 1 := by
  induction k with
  | zero => intro n h; rw [natB_lo (by simpa using h)]; simp
  | succ k ih =>
    intro n h
    by_cases hl : n < 128
    · rw [natB_lo hl]; simp
    · rw [natB_hi hl]
      have := ih (n / 128) (by
        rw [Nat.pow_succ] at h
        exact Nat.div_lt_of_lt_mul (by omega))
      simp; omega
theorem natI_len {n : Int} (h : n ≤ 9223372036854775807) : (natI n).length ≤ 9 := natB_len 8 _ (by omega)
theorem natB_pos (n : Nat) : 1 ≤ (natB n).length := by
  by_cases hl : n < 128
  · rw [natB_lo hl]; simp
  · rw [natB_hi hl]; simp
theorem natI_pos (n : Int) : 1 ≤ (natI n).length := by
  unfold natI
  by_cases hl : n.toNat < 128
  · rw [natB_lo hl]; simp
  · rw [natB_hi hl]; simp
theorem cv64 {n : Int} (h : n ≤ 9223372036854775807) : IntKind.u64.wrap (Max.max n 0) = ((n.toNat : Nat) : Int) := by
  have : Max.max n 0 = ((n.toNat : Nat) : Int) := by omega
  rw [this]
  simp only [IntKind.wrap, IntKind.signed, IntKind.bits]
  simp
  omega
theorem cv8 (m : Nat) (h : m < 128) : IntKind.u8.wrap (m : Int) = ((UInt8.ofNat m).toNat : Int) := by
  simp only [IntKind.wrap, IntKind.signed, IntKind.bits]
  simp
theorem u8wrap (m : Nat) : IntKind.u8.wrap (m : Int) = ((m % 256 : Nat) : Int) := by
  simp only [IntKind.wrap, IntKind.signed, IntKind.bits]
  simp
theorem or128 : ∀ x : Fin 256, (BitVec.ofNat 8 x.val ||| 128#8).toNat = 128 + x.val % 128 := by decide
theorem orB (m : Nat) : bitI .or .u8 (IntKind.u8.wrap (m : Int)) 128 = some ((UInt8.ofNat (128 + m % 128)).toNat : Int) := by
  have h1 := or128 ⟨m % 256, by omega⟩
  have e1 : BitVec.ofInt IntKind.u8.bits (IntKind.u8.wrap (m : Int)) = BitVec.ofNat 8 (m % 256) := by
    rw [u8wrap]; exact BitVec.ofInt_natCast 8 _
  have e2 : BitVec.ofInt IntKind.u8.bits 128 = 128#8 := rfl
  simp only [bitI, e1, e2]
  have h2 : (BitVec.ofNat 8 (m % 256) ||| 128#8).toNat = 128 + m % 128 := by rw [h1]; simp only; omega
  show some (IntKind.u8.wrap ((BitVec.ofNat 8 (m % 256) ||| 128#8).toNat : Int)) = _
  rw [h2, u8wrap]
  congr 1
theorem cvr (m : Nat) : IntKind.u8.wrap (128 + (m : Int) % 128) = ((UInt8.ofNat (128 + m % 128)).toNat : Int) := by
  have : (128 + (m : Int) % 128) = ((128 + m % 128 : Nat) : Int) := by omega
  rw [this, u8wrap]; congr 1
theorem shr7 (m : Nat) : (m : Int).fdiv (2 ^ (Min.min (7 : Int).toNat IntKind.u64.bits)) = ((m / 128 : Nat) : Int) := by
  have : (2 ^ (Min.min (7 : Int).toNat IntKind.u64.bits) : Int) = ((128 : Nat) : Int) := rfl
  rw [this, Int.fdiv_eq_ediv_of_nonneg _ (by omega)]
  omega
theorem O.bxR {P : Go.Program} {r : Option Nat} {W : Go.World} {D : List Nat} {n : Fm} {dst : Nat} {ty : Go.TypeId} {pos : String} {af : Array Go.Edge} {gd : Option (Nat × Bool)} {C : Env → List Ent → Prop} {env : Env} {σ : List Ent}
    {α : Type} (f : α → List Go.Value) (E sz : Nat) {T : Go.TypeId} {x : Go.Operand} {c : List Go.Value} (hx : ev env x = some (A c)) (hC : ∀ b, C ((dst, Ptr b 0) :: env) (cells b T c :: rows f (.slice none 0 0) E sz [] :: σ)) (hd : Nat.blt dst n.n = true := by exact rfl) :
    Op1 P r W D n ⟨some dst, .box T x, ty, pos, af, gd⟩ env σ C :=
  Op1.weakC (C := fun env' σ' => ∃ b, env' = (dst, Ptr b 0) :: env ∧ σ' = cells b T c :: σ) (Op1.boxA hd hx fun b => ⟨b, rfl, rfl⟩) (by
    rintro env' σ' ⟨b, rfl, rfl⟩
    exact ⟨_, hC b, fun w hw => (hw.rowsNil f E sz).perm (List.Perm.swap _ _ _)⟩)
theorem V.bstr1 {P : Go.Program} {n : Fm} {dst : Nat} {env : Env} {σ : List Ent} {ty : Go.TypeId} {pos : String} {af : Array Go.Edge} {gd : Option (Nat × Bool)} (tb : Tabs P) {t u E e a : Nat} {x : Go.Operand} {v : Go.Value} {y : UInt8} (hx : ev env x = some v) (hm : row v E 1 1 [.int .u8 (y.toNat : Int)] ∈ σ)
    (ht : lk1 tb.strs u = some a := by exact rfl) (hu : lk1 tb.slc t = some e := by exact rfl) (he : lkK tb.ints e = some .u8 := by exact rfl) : Val P n env σ ⟨some dst, .convert t u x, ty, pos, af, gd⟩ (S [y]) :=
  V.bstr tb (l := [y]) hx hm ht hu he
/-- Bytes are put behind. -/
theorem sinkNat (b : Nat) (v : Go.Value) (xs : List UInt8) (ns : List Int) (e : Ent) (ao : Option Go.Addr) (cap bb off : Nat) (hR : Rd e ao ns.length bb off 1 (ns.map i64c))
    (hw : ∀ n, n ∈ ns → n ≤ 9223372036854775807) (hx : xs.length + 9 * ns.length ≤ 1000000) :
    Ct Try.prog 46 [Ptr b 0, .slice ao ns.length cap] [cells b 83 (OctaveSink.c ⟨v⟩), rows u8c v 5 1 xs, e]
      (fun r σ' => ∃ v', r = .tuple #[] ∧ σ' = [cells b 83 (OctaveSink.c ⟨v'⟩), rows u8c v' 5 1 (xs ++ ns.flatMap natI), e]) := by
  refine Ct.enter Try.func46 rfl rfl fun W => ?_
  apply Wp.seq
  apply Wp.region
  refine WpL.v (V.mv) ?_
  refine WpL.v (V.lenL tb) ?_
  refine WpL.v (V.mv) ?_
  apply WpL.nil
  apply Out.seqN
  apply Wp.block
  refine Wp.lp [8, 7, 0] (fun x : Nat × List UInt8 × Go.Value => x.1 ≤ ns.length ∧ x.2.1 = xs ++ (ns.take x.1).flatMap natI ∧ x.2.1.length + 9 * (ns.length - x.1) ≤ 1000000)
    (fun x => [(9, I (x.1 : Int))]) (fun x => [cells b 83 (OctaveSink.c ⟨x.2.2⟩), rows u8c x.2.2 5 1 x.2.1]) (fun x => ns.length - x.1) (0, xs, v) ⟨Nat.zero_le _, by simp, by dsimp only; omega⟩ ?_
  rintro ⟨k, pre, v1⟩ ⟨hk, hp, hl⟩ K hK
  dsimp only at hk hp hl
  dsimp only [List.cons_append, List.nil_append]
  have hml := hR.len
  by_cases hlt : k < ns.length
  · have hn : ns.getD k default ≤ 9223372036854775807 := hw _ (by simp [hlt])
    have hnl := natI_len hn
    have hnp := natI_pos (ns.getD k default)
    apply Wp.seq
    apply Wp.region
    refine WpL.v (V.cmp) ?_
    apply WpL.nil
    apply Out.seqN
    apply Wp.seq
    refine Wp.c (fun hb0 => ?_) (fun hb0 => ?_)
    (try simp only [decide_eq_true_eq, decide_eq_false_iff_not, Bool.not_eq_true', Bool.not_eq_false', Bool.not_eq_true, Bool.not_eq_false, not_true_eq_false, not_false_eq_true, reduceCtorEq] at hb0)
    apply Wp.skip
    apply Out.seqN
    apply Wp.seq
    apply Wp.block
    apply Wp.seq
    apply Wp.region
    refine WpL.v (V.ixR tb rfl rfl (by assumption)) ?_
    refine WpL.v (V.ldR1 tb rfl (by assumption) (getMapD1 (by omega))) ?_
    refine WpL.v (V.as) ?_
    apply WpL.nil
    apply Out.seqN
    apply Wp.seq
    apply Wp.region
    refine WpL.v (V.mv) ?_
    refine WpL.v (V.max) ?_
    refine WpL.v (V.cvE tb rfl rfl (cv64 (by assumption))) ?_
    refine WpL.v (V.as) ?_
    apply WpL.nil
    apply Out.seqN
    apply Wp.seq
    apply Wp.block
    rotate_left
    (try simp only [decide_eq_true_eq, decide_eq_false_iff_not, Bool.not_eq_true', Bool.not_eq_false', Bool.not_eq_true, Bool.not_eq_false, not_true_eq_false, not_false_eq_true, reduceCtorEq] at hb0)
    (exfalso; omega)
    refine Wp.lp [9, 8, 7, 0] (fun x : Nat × List UInt8 × Go.Value => ∃ p, x.2.1 = pre ++ p ∧ p ++ natB x.1 = natI (ns.getD k default) ∧ p.length + 1 ≤ 9) (fun x => [(6, .int .u64 (x.1 : Int))]) (fun x => [cells b 83 (OctaveSink.c ⟨x.2.2⟩), rows u8c x.2.2 5 1 x.2.1]) (fun x => x.1) ((ns.getD k default).toNat, pre, v1) ⟨[], by simp, rfl, by simp⟩ ?_
    rintro ⟨m, q, v2⟩ ⟨p, hq, he, hpl⟩ L hL
    dsimp only at he hpl hq
    have hql : q.length = pre.length + p.length := by rw [hq]; simp
    dsimp only [List.cons_append, List.nil_append]
    apply Wp.seq
    apply Wp.seq
    apply Wp.region
    refine WpL.v (V.mv) ?_
    refine WpL.v (V.cmp) ?_
    apply WpL.nil
    apply Out.seqN
    refine Wp.c (fun hc0 => ?_) (fun hc0 => ?_)
    (try simp only [decide_eq_true_eq, decide_eq_false_iff_not, Bool.not_eq_true', Bool.not_eq_false', Bool.not_eq_true, Bool.not_eq_false, not_true_eq_false, not_false_eq_true, reduceCtorEq] at hc0)
    apply Wp.skip
    apply Out.seqN
    apply Wp.block
    apply Wp.seq
    apply Wp.region
    refine WpL.v (V.mv) ?_
    refine WpL.v (V.mv) ?_
    refine WpL.v (V.nc) ?_
    refine WpL.v (V.fa tb) ?_
    refine WpL.v (V.ld1 tb) ?_
    refine WpL.v (V.mv) ?_
    refine WpL.v (V.cvI tb) ?_
    refine WpL.v (V.bitE rfl rfl (orB _)) ?_
    refine WpL.o (O.lit tb (fun p26 => ?_))
    refine WpL.o (O.apL tb rfl rfl (by (intro _; repeat first | exact Upd.here _ _ _ | apply Upd.there)) (SrcL.one tb (by (repeat first | exact List.Mem.head _ | apply List.Mem.tail)) ones_u8c) (fun g27 cap27 => ?_))
    refine WpL.v (V.nc) ?_
    refine WpL.v (V.fa tb) ?_
    refine WpL.o (O.st1 tb ?_)
    apply WpL.nil
    apply Out.seqN
    apply Wp.region
    refine WpL.v (V.mv) ?_
    refine WpL.v (V.shrE rfl rfl (shr7 _)) ?_
    refine WpL.v (V.as) ?_
    apply WpL.nil
    apply Out.blockN
    rotate_left
    (try simp only [decide_eq_true_eq, decide_eq_false_iff_not, Bool.not_eq_true', Bool.not_eq_false', Bool.not_eq_true, Bool.not_eq_false, not_true_eq_false, not_false_eq_true, reduceCtorEq] at hc0)
    apply Wp.exit
    apply Out.seqE
    apply Out.seqE
    apply Out.blockE
    apply Out.seqN
    apply Wp.region
    refine WpL.v (V.mv) ?_
    refine WpL.v (V.mv) ?_
    refine WpL.v (V.nc) ?_
    refine WpL.v (V.fa tb) ?_
    refine WpL.v (V.ld1 tb) ?_
    refine WpL.v (V.mv) ?_
    refine WpL.v (V.cvE tb rfl rfl (cv8 _ (by omega))) ?_
    refine WpL.o (O.lit tb (fun p39 => ?_))
    refine WpL.o (O.apL tb rfl rfl (by (intro _; repeat first | exact Upd.here _ _ _ | apply Upd.there)) (SrcL.one tb (by (repeat first | exact List.Mem.head _ | apply List.Mem.tail)) ones_u8c) (fun g40 cap40 => ?_))
    refine WpL.v (V.nc) ?_
    refine WpL.v (V.fa tb) ?_
    refine WpL.o (O.st1 tb ?_)
    apply WpL.nil
    apply Out.blockN
    apply Out.seqN
    apply Wp.region
    refine WpL.v (V.add) ?_
    refine WpL.v (V.mv) ?_
    apply WpL.nil
    rotate_left
    · have hb := natB_hi (n := m) (by omega)
      have h1 := natB_pos (m / 128)
      have h2 : p.length + ((natB (m / 128)).length + 1) ≤ 9 := by
        have : (p ++ natB m).length = (natI (ns.getD k default)).length := by rw [he]
        rw [hb] at this; simp only [List.length_append, List.length_cons] at this; omega
      exact Out.ag hL (m / 128, q ++ [UInt8.ofNat (128 + m % 128)], _) ⟨p ++ [UInt8.ofNat (128 + m % 128)], by simp [hq], by rw [List.append_assoc, ← he, hb]; rfl, by simp; omega⟩ (by dsimp only; omega)
    · have hb := natB_lo (n := m) (by omega)
      have h2 : p ++ [UInt8.ofNat m] = natI (ns.getD k default) := by rw [← he, hb]
      have h3 : q ++ [UInt8.ofNat m] = xs ++ (ns.take (k + 1)).flatMap natI := by
        rw [hq, List.append_assoc, h2, hp, List.take_succ_eq_append_getElem hlt, List.flatMap_append, List.append_assoc]
        simp [List.getD, hlt]
      exact Out.ag hK (k + 1, q ++ [UInt8.ofNat m], _) ⟨by dsimp only; omega, h3, by simp; omega⟩ (by dsimp only; omega)
  · apply Wp.seq
    apply Wp.region
    refine WpL.v (V.cmp) ?_
    apply WpL.nil
    apply Out.seqN
    apply Wp.seq
    refine Wp.c (fun hd0 => ?_) (fun hd0 => ?_)
    (try simp only [decide_eq_true_eq, decide_eq_false_iff_not, Bool.not_eq_true', Bool.not_eq_false', Bool.not_eq_true, Bool.not_eq_false, not_true_eq_false, not_false_eq_true, reduceCtorEq] at hd0)
    (exfalso; omega)
    (try simp only [decide_eq_true_eq, decide_eq_false_iff_not, Bool.not_eq_true', Bool.not_eq_false', Bool.not_eq_true, Bool.not_eq_false, not_true_eq_false, not_false_eq_true, reduceCtorEq] at hd0)
    apply Wp.exit
    apply Out.seqE
    apply Out.seqE
    apply Out.blockE
    refine Out.e0 rfl  ?_
    obtain rfl : pre = xs ++ ns.flatMap natI := by rw [hp, List.take_of_length_le (by omega)]
    exact ⟨_, _, ⟨v1, rfl, rfl⟩, Sel.cons Rem.here (Sel.cons Rem.here (Sel.cons Rem.here Sel.nil))⟩
theorem refNat (n : Int) (h : n ≤ 9223372036854775807) : Fun Try.prog 49 [I n] (S (natI n)) := by
  refine Ct.enter Try.func49 rfl rfl fun W => ?_
  apply Wp.seq
  apply Wp.region
  refine WpL.v (V.as) ?_
  apply WpL.nil
  apply Out.seqN
  apply Wp.seq
  apply Wp.region
  refine WpL.v (V.mv) ?_
  refine WpL.v (V.max) ?_
  refine WpL.v (V.as) ?_
  apply WpL.nil
  apply Out.seqN
  apply Wp.seq
  apply Wp.region
  refine WpL.v (V.as) ?_
  apply WpL.nil
  apply Out.seqN
  apply Wp.seq
  apply Wp.block
  refine Wp.lp [] (fun x : Nat × List UInt8 => x.2 ++ natB x.1 = natI n ∧ x.2.length + 1 ≤ 9 ∧ x.1 ≤ 9223372036854775807) (fun x => [(3, S x.2), (0, I (x.1 : Int))]) (fun x => []) (fun x => x.1) (n.toNat, []) ⟨rfl, by simp, by dsimp only; omega⟩ ?_ (he := ?_)
  rotate_left
  · exact subEnv.cons rfl rfl (subEnv.cons rfl (by congr 1; dsimp only; omega) subEnv.nil)
  rintro ⟨m, p⟩ ⟨he, hpl, hm⟩ L hL
  dsimp only at he hpl hm
  dsimp only [List.cons_append, List.nil_append]
  apply Wp.seq
  apply Wp.seq
  apply Wp.region
  refine WpL.v (V.mv) ?_
  refine WpL.v (V.cmp) ?_
  apply WpL.nil
  apply Out.seqN
  refine Wp.c (fun hf0 => ?_) (fun hf0 => ?_)
  (try simp only [decide_eq_true_eq, decide_eq_false_iff_not, Bool.not_eq_true', Bool.not_eq_false', Bool.not_eq_true, Bool.not_eq_false, not_true_eq_false, not_false_eq_true, reduceCtorEq] at hf0)
  apply Wp.skip
  apply Out.seqN
  apply Wp.block
  apply Wp.seq
  apply Wp.region
  refine WpL.v (V.mv) ?_
  refine WpL.v (V.mv) ?_
  refine WpL.v (V.rem) ?_
  refine WpL.v (V.add) ?_
  refine WpL.v (V.cvE tb rfl rfl (cvr _)) ?_
  refine WpL.o (O.lit tb (fun p13 => ?_))
  refine WpL.v (V.bstr1 tb rfl (by (repeat first | exact List.Mem.head _ | apply List.Mem.tail))) ?_
  refine WpL.v (V.cat) ?_
  refine WpL.v (V.as) ?_
  apply WpL.nil
  apply Out.seqN
  apply Wp.region
  refine WpL.v (V.mv) ?_
  refine WpL.v (V.quo) ?_
  refine WpL.v (V.as) ?_
  apply WpL.nil
  apply Out.blockN
  rotate_left
  (try simp only [decide_eq_true_eq, decide_eq_false_iff_not, Bool.not_eq_true', Bool.not_eq_false', Bool.not_eq_true, Bool.not_eq_false, not_true_eq_false, not_false_eq_true, reduceCtorEq] at hf0)
  apply Wp.exit
  apply Out.seqE
  apply Out.seqE
  apply Out.blockE
  apply Out.seqN
  apply Wp.seq
  apply Wp.region
  refine WpL.v (V.mv) ?_
  refine WpL.v (V.mv) ?_
  refine WpL.v (V.cvE tb rfl rfl (cv8 _ (by omega))) ?_
  refine WpL.o (O.lit tb (fun p21 => ?_))
  refine WpL.v (V.bstr1 tb rfl (by (repeat first | exact List.Mem.head _ | apply List.Mem.tail))) ?_
  refine WpL.v (V.cat) ?_
  refine WpL.v (V.as) ?_
  apply WpL.nil
  apply Out.seqN
  apply Wp.ret
  refine Out.f1 rfl ResIs.t ⟨?_, rfl⟩
  rotate_left
  · have hb := natB_hi (n := m) (by omega)
    have h1 := natB_pos (m / 128)
    have hnl := natI_len h
    have h2 : p.length + ((natB (m / 128)).length + 1) ≤ 9 := by
      have : (p ++ natB m).length = (natI n).length := by rw [he]
      rw [hb] at this; simp only [List.length_append, List.length_cons] at this; omega
    exact Out.ag hL (m / 128, p ++ [UInt8.ofNat (128 + m % 128)]) ⟨by rw [List.append_assoc, ← he, hb]; rfl, by simp; omega, by dsimp only; omega⟩ (by dsimp only; omega)
  · rw [← he, natB_lo (by omega)]
theorem sinkBytes (b : Nat) (v : Go.Value) (xs : List UInt8) : Ct Try.prog 47 [Ptr b 0] [cells b 83 (OctaveSink.c ⟨v⟩), rows u8c v 5 1 xs] (fun r σ' => r = S xs ∧ σ' = [cells b 83 (OctaveSink.c ⟨v⟩), rows u8c v 5 1 xs]) := by
  refine Ct.enter Try.func47 rfl rfl fun W => ?_
  apply Wp.seq
  apply Wp.region
  refine WpL.v (V.as) ?_
  apply WpL.nil
  apply Out.seqN
  apply Wp.seq
  apply Wp.region
  refine WpL.v (V.mv) ?_
  refine WpL.v (V.nc) ?_
  refine WpL.v (V.fa tb) ?_
  refine WpL.v (V.ld1 tb) ?_
  refine WpL.v (V.bstrL tb) ?_
  refine WpL.v (V.as) ?_
  apply WpL.nil
  apply Out.seqN
  apply Wp.ret
  refine Out.f1 rfl ResIs.t ⟨?_, rfl⟩
  exact rfl
theorem sinkNat1 (b : Nat) (v : Go.Value) (xs : List UInt8) (n : Int) (g : Nat) (h : n ≤ 9223372036854775807) (hx : xs.length ≤ 900000) :
    Ct Try.prog 46 [Ptr b 0, .slice (some ⟨g, 0, none⟩) 1 1] [cells b 83 (OctaveSink.c ⟨v⟩), rows u8c v 5 1 xs, row (.slice (some ⟨g, 0, none⟩) 1 1) 3 1 1 [I n]]
      (fun r σ' => ∃ v', r = .tuple #[] ∧ σ' = [cells b 83 (OctaveSink.c ⟨v'⟩), rows u8c v' 5 1 (xs ++ natI n), row (.slice (some ⟨g, 0, none⟩) 1 1) 3 1 1 [I n]]) := by
  have := sinkNat b v xs [n] _ _ 1 g 0 (Rd.lits (E := 3) (cap := 1) i64c [n] rfl rfl (fun _ => rfl) (by simp)) (by simpa using h) (by simp; omega)
  simp only [List.flatMap_cons, List.flatMap_nil, List.append_nil] at this
  exact this
theorem sinkRaw (b : Nat) (v : Go.Value) (xs t : List UInt8) (hx : xs.length + t.length ≤ 2000000) :
    Ct Try.prog 57 [Ptr b 0, S t] [cells b 83 (OctaveSink.c ⟨v⟩), rows u8c v 5 1 xs] (fun r σ' => ∃ v', r = .tuple #[] ∧ σ' = [cells b 83 (OctaveSink.c ⟨v'⟩), rows u8c v' 5 1 (xs ++ t)]) := by
  refine Ct.enter Try.func57 rfl rfl fun W => ?_
  apply Wp.region
  refine WpL.v (V.mv) ?_
  refine WpL.v (V.mv) ?_
  refine WpL.v (V.nc) ?_
  refine WpL.v (V.fa tb) ?_
  refine WpL.v (V.ld1 tb) ?_
  refine WpL.v (V.mv) ?_
  refine WpL.o (O.apLV tb rfl rfl (by (intro _; repeat first | exact Upd.here _ _ _ | apply Upd.there)) (SrcL.str tb) (fun v10 h110 hv10 => ?_))
  refine WpL.v (V.nc) ?_
  refine WpL.v (V.fa tb) ?_
  refine WpL.o (O.st1 tb ?_)
  apply WpL.nil
  refine Out.e0 rfl  ?_
  exact ⟨_, _, ⟨_, rfl, rfl⟩, (by (repeat (first | exact Sel.nil | exact Rem.here | apply Sel.cons | apply Rem.there)))⟩
theorem sinkNat2 (b : Nat) (v : Go.Value) (xs : List UInt8) (m n : Int) (g : Nat) (hm : m ≤ 9223372036854775807) (h : n ≤ 9223372036854775807) (hx : xs.length ≤ 900000) :
    Ct Try.prog 46 [Ptr b 0, .slice (some ⟨g, 0, none⟩) 2 2] [cells b 83 (OctaveSink.c ⟨v⟩), rows u8c v 5 1 xs, row (.slice (some ⟨g, 0, none⟩) 2 2) 3 1 2 [I m, I n]]
      (fun r σ' => ∃ v', r = .tuple #[] ∧ σ' = [cells b 83 (OctaveSink.c ⟨v'⟩), rows u8c v' 5 1 (xs ++ (natI m ++ natI n)), row (.slice (some ⟨g, 0, none⟩) 2 2) 3 1 2 [I m, I n]]) := by
  have := sinkNat b v xs [m, n] _ _ 2 g 0 (Rd.lits (E := 3) (cap := 2) i64c [m, n] rfl rfl (fun _ => rfl) (by simp)) (by intro q hq; simp at hq; rcases hq with rfl | rfl <;> assumption) (by simp; omega)
  simp only [List.flatMap_cons, List.flatMap_nil, List.append_nil] at this
  exact this
theorem sinkText (b : Nat) (v : Go.Value) (xs t : List UInt8) (hx : xs.length + t.length ≤ 800000) :
    Ct Try.prog 45 [Ptr b 0, S t] [cells b 83 (OctaveSink.c ⟨v⟩), rows u8c v 5 1 xs] (fun r σ' => ∃ v', r = .tuple #[] ∧ σ' = [cells b 83 (OctaveSink.c ⟨v'⟩), rows u8c v' 5 1 (xs ++ (natI t.length ++ t))]) := by
  have hnl := natI_len (n := (t.length : Int)) (by omega)
  refine Ct.enter Try.func45 rfl rfl fun W => ?_
  apply Wp.seq
  apply Wp.region
  refine WpL.v (V.mv) ?_
  refine WpL.v (V.mv) ?_
  refine WpL.v (V.lenS tb) ?_
  refine WpL.o (O.lit tb (fun p7 => ?_))
  refine WpL.o (Op1.callT rfl (sinkNat1 _ _ _ _ _ ?_ ?_) (by (repeat (first | exact Sel.nil | exact Rem.here | apply Sel.cons | apply Rem.there))) ?_)
  (first | with_reducible assumption | omega | (simp only [List.length_append, List.length_cons, List.length_nil, List.length_map] at *; omega) | (focus (simp; done)))
  (first | with_reducible assumption | omega | (simp only [List.length_append, List.length_cons, List.length_nil, List.length_map] at *; omega) | (focus (simp; done)))
  rintro v0 s1 ⟨v'8, ⟨rfl, rfl⟩⟩
  refine incat ?_
  apply WpL.nil
  apply Out.seqN
  apply Wp.region
  refine WpL.v (V.mv) ?_
  refine WpL.v (V.mv) ?_
  refine WpL.o (Op1.callT rfl (sinkRaw _ _ _ _ ?_) (by (repeat (first | exact Sel.nil | exact Rem.here | apply Sel.cons | apply Rem.there))) ?_)
  (first | with_reducible assumption | omega | (simp only [List.length_append, List.length_cons, List.length_nil, List.length_map] at *; omega) | (focus (simp; done)))
  rintro v2 s3 ⟨v'11, ⟨rfl, rfl⟩⟩
  refine incat ?_
  apply WpL.nil
  refine Out.e0 rfl  ?_
  rw [List.append_assoc]
  exact ⟨_, _, ⟨_, rfl, rfl⟩, Sel.cons Rem.here (Sel.cons Rem.here Sel.nil)⟩
theorem refText (t : List UInt8) (h : t.length ≤ 9223372036854775000) : Fun Try.prog 48 [S t] (S (natI t.length ++ t)) := by
  have := natI_len (n := (t.length : Int)) (by omega)
  refine Ct.enter Try.func48 rfl rfl fun W => ?_
  apply Wp.seq
  apply Wp.region
  refine WpL.v (V.as) ?_
  apply WpL.nil
  apply Out.seqN
  apply Wp.seq
  apply Wp.region
  refine WpL.v (V.mv) ?_
  refine WpL.v (V.lenS tb) ?_
  refine WpL.o (Op1.fn rfl (refNat _ ?_) ?_)
  (first | with_reducible assumption | omega | (simp only [List.length_append, List.length_cons, List.length_nil, List.length_map] at *; omega) | (focus (simp; done)))
  refine WpL.v (V.mv) ?_
  refine WpL.v (V.cat) ?_
  refine WpL.v (V.as) ?_
  apply WpL.nil
  apply Out.seqN
  apply Wp.ret
  refine Out.f1 rfl ResIs.t ⟨?_, rfl⟩
  exact rfl
end Go.Proofs.Ytgihkocnmgkihaa
