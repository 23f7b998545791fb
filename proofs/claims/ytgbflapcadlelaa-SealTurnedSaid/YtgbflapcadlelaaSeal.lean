/-
  Layer 6: a text sealed.
-/
import Derived.Test.YtgbflapcadlelaaRef
namespace Go.Proofs.Ytgbflapcadlelaa
open Go.HL
set_option linter.unusedSimpArgs false
set_option linter.unusedVariables false
set_option maxRecDepth 8000
def fourB (c : Nat) : List UInt8 := [UInt8.ofNat c, UInt8.ofNat (c / 256), UInt8.ofNat (c / 65536), UInt8.ofNat (c / 16777216)]
theorem cv8N (m : Nat) : IntKind.u8.wrap (m : Int) = ((UInt8.ofNat m).toNat : Int) := by
  rw [u8wrap]; simp
theorem shrN (m e d : Nat) (he : 2 ^ e = d) (h : e < 32) : (m : Int).fdiv (2 ^ (Min.min ((e : Int)).toNat IntKind.u32.bits)) = ((m / d : Nat) : Int) := by
  have e1 : Min.min ((e : Int)).toNat IntKind.u32.bits = e := by
    have : IntKind.u32.bits = 32 := rfl
    omega
  rw [e1, Int.fdiv_eq_ediv_of_nonneg _ (by exact Int.le_of_lt (Int.pow_pos (by decide))), ← he]
  simp
theorem V.bstr4 {P : Go.Program} {n : Fm} {dst : Nat} {env : Env} {σ : List Ent} {ty : Go.TypeId} {pos : String} {af : Array Go.Edge} {gd : Option (Nat × Bool)} (tb : Tabs P) {t u E e a : Nat} {x : Go.Operand} {v : Go.Value} {y1 y2 y3 y4 : UInt8} (hx : ev env x = some v) (hm : row v E 1 4 [.int .u8 (y1.toNat : Int), .int .u8 (y2.toNat : Int), .int .u8 (y3.toNat : Int), .int .u8 (y4.toNat : Int)] ∈ σ)
    (ht : lk1 tb.strs u = some a := by exact rfl) (hu : lk1 tb.slc t = some e := by exact rfl) (he : lkK tb.ints e = some .u8 := by exact rfl) : Val P n env σ ⟨some dst, .convert t u x, ty, pos, af, gd⟩ (S [y1, y2, y3, y4]) :=
  V.bstr tb (l := [y1, y2, y3, y4]) hx hm ht hu he
theorem four_any (c : Nat) : Fun Try.prog 72 [.int .u32 (c : Int)] (S (fourB c)) := by
  refine Ct.enter Try.func72 rfl rfl fun W => ?_
  apply Wp.seq
  apply Wp.region
  refine WpL.v (V.as) ?_
  apply WpL.nil
  apply Out.seqN
  apply Wp.seq
  apply Wp.region
  refine WpL.v (V.mv) ?_
  refine WpL.v (V.cvE tb rfl rfl (cv8N _)) ?_
  refine WpL.v (V.mv) ?_
  refine WpL.v (V.shrE rfl rfl (shrN _ 8 256 rfl (by decide))) ?_
  refine WpL.v (V.cvE tb rfl rfl (cv8N _)) ?_
  refine WpL.v (V.mv) ?_
  refine WpL.v (V.shrE rfl rfl (shrN _ 16 65536 rfl (by decide))) ?_
  refine WpL.v (V.cvE tb rfl rfl (cv8N _)) ?_
  refine WpL.v (V.mv) ?_
  refine WpL.v (V.shrE rfl rfl (shrN _ 24 16777216 rfl (by decide))) ?_
  refine WpL.v (V.cvE tb rfl rfl (cv8N _)) ?_
  refine WpL.o (O.lit tb (fun p14 => ?_))
  refine WpL.v (V.bstr4 tb rfl (by (repeat first | exact List.Mem.head _ | apply List.Mem.tail))) ?_
  refine WpL.v (V.as) ?_
  apply WpL.nil
  apply Out.seqN
  apply Wp.ret
  refine Out.f1 rfl ResIs.t ⟨?_, rfl⟩
  exact rfl
def sumS (s : List UInt8) : Nat := 4294967295 - sumF 4294967295 s
theorem sumS_lt (s : List UInt8) : sumS s < 4294967296 := by unfold sumS; omega
def sealB (s : List UInt8) : List UInt8 := if 16384 < s.length then [] else natI s.length ++ fourB (sumS (natI s.length ++ s)) ++ s
theorem cv8M (m : Nat) : IntKind.u8.wrap ((m % 256 : Nat) : Int) = ((UInt8.ofNat m).toNat : Int) := by
  rw [u8wrap]; simp
theorem quoN {c : Nat} (d : Nat) (hd : 0 < d) (h : c < 4294967296) : IntKind.u32.wrap ((c : Int).tdiv (d : Int)) = ((c / d : Nat) : Int) := by
  rw [show (c : Int).tdiv (d : Int) = ((c / d : Nat) : Int) by rw [Int.tdiv_eq_ediv_of_nonneg (by omega)]; simp]
  exact u32wrap _ (Nat.lt_of_le_of_lt (Nat.div_le_self c d) h)
theorem V.rem256 {P : Go.Program} {n : Fm} {dst : Nat} {env : Env} {σ : List Ent} {ty : Go.TypeId} {pos : String} {af : Array Go.Edge} {gd : Option (Nat × Bool)} {t ty' : Nat} {x y : Go.Operand} {k : Go.IntKind} {c : Nat} (hx : ev env x = some (.int k (c : Int))) (hy : ev env y = some (.int k 256)) : Val P n env σ ⟨some dst, .binOp .rem t x y ty', ty, pos, af, gd⟩ (.int k ((c % 256 : Nat) : Int)) := by
  have := V.rem (P := P) (n := n) (env := env) (σ := σ) (dst := dst) (ty := ty) (pos := pos) (af := af) (gd := gd) (t := t) (ty' := ty') hx hy ⟨Int.natCast_nonneg _, by decide⟩
  rwa [show (c : Int) % 256 = ((c % 256 : Nat) : Int) by omega] at this
theorem refSeal (s : List UInt8) (hs : s.length ≤ 9223372036854770000) : Fun Try.prog 24 [S s] (S (sealB s)) := by
  have h1 : (s.length : Int) ≤ 9223372036854775807 := by omega
  have hnl := natI_len h1
  have hS := refSum (natI s.length ++ s) (by rw [List.length_append]; omega)
  have hlt := sumS_lt (natI s.length ++ s)
  have hS' : Fun Try.prog 22 [S (natI s.length ++ s)] (.int .u32 (sumS (natI s.length ++ s) : Int)) := hS
  refine Ct.enter Try.func24 rfl rfl fun W => ?_
  apply Wp.seq
  apply Wp.region
  refine WpL.v (V.as) ?_
  apply WpL.nil
  apply Out.seqN
  apply Wp.seq
  apply Wp.seq
  apply Wp.region
  refine WpL.v (V.mv) ?_
  refine WpL.v (V.lenS tb) ?_
  refine WpL.v (V.cmp) ?_
  apply WpL.nil
  apply Out.seqN
  refine Wp.c (fun hrs0 => ?_) (fun hrs0 => ?_)
  (try simp only [decide_eq_true_eq, decide_eq_false_iff_not, Bool.not_eq_true', Bool.not_eq_false', Bool.not_eq_true, Bool.not_eq_false, not_true_eq_false, not_false_eq_true, reduceCtorEq] at hrs0)
  apply Wp.seq
  apply Wp.region
  refine WpL.v (V.as) ?_
  apply WpL.nil
  apply Out.seqN
  apply Wp.ret
  apply Out.seqR
  refine Out.f1 rfl ResIs.t ⟨?_, rfl⟩
  rotate_left
  (try simp only [decide_eq_true_eq, decide_eq_false_iff_not, Bool.not_eq_true', Bool.not_eq_false', Bool.not_eq_true, Bool.not_eq_false, not_true_eq_false, not_false_eq_true, reduceCtorEq] at hrs0)
  apply Wp.skip
  apply Out.seqN
  apply Wp.seq
  apply Wp.region
  refine WpL.v (V.mv) ?_
  refine WpL.v (V.lenS tb) ?_
  refine WpL.o (Op1.fn rfl (refNat _ ?_) ?_)
  (first | with_reducible assumption | omega | (simp only [List.length_append, List.length_cons, List.length_nil, List.length_map] at *; omega) | (focus (simp; done)))
  refine WpL.v (V.as) ?_
  apply WpL.nil
  apply Out.seqN
  apply Wp.seq
  apply Wp.region
  refine WpL.v (V.mv) ?_
  refine WpL.v (V.mv) ?_
  refine WpL.v (V.cat) ?_
  refine WpL.o (Op1.fn rfl (hS') ?_)
  refine WpL.v (V.as) ?_
  apply WpL.nil
  apply Out.seqN
  apply Wp.seq
  apply Wp.region
  refine WpL.v (V.mv) ?_
  refine WpL.v (V.mv) ?_
  refine WpL.v (V.rem256 rfl rfl) ?_
  refine WpL.v (V.cvE tb rfl rfl (cv8M _)) ?_
  refine WpL.v (V.mv) ?_
  refine WpL.v (V.quoE rfl rfl (quoN 256 (by decide) hlt)) ?_
  refine WpL.v (V.rem256 rfl rfl) ?_
  refine WpL.v (V.cvE tb rfl rfl (cv8M _)) ?_
  refine WpL.v (V.mv) ?_
  refine WpL.v (V.quoE rfl rfl (quoN 65536 (by decide) hlt)) ?_
  refine WpL.v (V.rem256 rfl rfl) ?_
  refine WpL.v (V.cvE tb rfl rfl (cv8M _)) ?_
  refine WpL.v (V.mv) ?_
  refine WpL.v (V.quoE rfl rfl (quoN 16777216 (by decide) hlt)) ?_
  refine WpL.v (V.cvE tb rfl rfl (cv8N _)) ?_
  refine WpL.o (O.lit tb (fun p30 => ?_))
  refine WpL.v (V.bstr4 tb rfl (by (repeat first | exact List.Mem.head _ | apply List.Mem.tail))) ?_
  refine WpL.v (V.cat) ?_
  refine WpL.v (V.mv) ?_
  refine WpL.v (V.cat) ?_
  refine WpL.v (V.as) ?_
  apply WpL.nil
  apply Out.seqN
  apply Wp.ret
  refine Out.f1 rfl ResIs.t ⟨?_, rfl⟩
  rotate_left
  · rw [sealB, if_pos (by omega)]
  · rw [sealB, if_neg (by omega)]; rfl
theorem sum_two (g : Nat) (a b : List UInt8) (ha : a.length ≤ 9223372036854775807) (hb : b.length ≤ 9223372036854775807) : Ct Try.prog 21 [.slice (some ⟨g, 0, none⟩) 2 2] [row (.slice (some ⟨g, 0, none⟩) 2 2) 9 1 2 [S a, S b]]
    (fun r σ' => r = .int .u32 (sumS (a ++ b) : Int) ∧ σ' = [row (.slice (some ⟨g, 0, none⟩) 2 2) 9 1 2 [S a, S b]]) := by
  have := sum_any _ _ 2 g 0 [a, b] (Rd.lits (E := 9) (cap := 2) strc [a, b] rfl rfl (fun _ => rfl) (by simp)) (by simp; omega)
  rw [show 4294967295 - sumL [a, b] = sumS (a ++ b) by rw [sumS, sumF_app]; rfl] at this
  exact this
theorem sum_one (g : Nat) (a : List UInt8) (ha : a.length ≤ 9223372036854775807) : Ct Try.prog 21 [.slice (some ⟨g, 0, none⟩) 1 1] [row (.slice (some ⟨g, 0, none⟩) 1 1) 9 1 1 [S a]]
    (fun r σ' => r = .int .u32 (sumS a : Int) ∧ σ' = [row (.slice (some ⟨g, 0, none⟩) 1 1) 9 1 1 [S a]]) := by
  have := sum_any _ _ 1 g 0 [a] (Rd.lits (E := 9) (cap := 1) strc [a] rfl rfl (fun _ => rfl) (by simp)) (by simp; omega)
  exact this
theorem seal_any (s : List UInt8) (hs : s.length ≤ 9223372036854770000) : Fun Try.prog 23 [S s] (S (sealB s)) := by
  have h1 : (s.length : Int) ≤ 9223372036854775807 := by omega
  have hnl := natI_len h1
  have hf : (fourB (sumS ([] ++ natI s.length ++ s))).length = 4 := rfl
  refine Ct.enter Try.func23 rfl rfl fun W => ?_
  apply Wp.seq
  apply Wp.region
  refine WpL.v (V.as) ?_
  apply WpL.nil
  apply Out.seqN
  apply Wp.seq
  apply Wp.seq
  apply Wp.region
  refine WpL.v (V.mv) ?_
  refine WpL.v (V.lenS tb) ?_
  refine WpL.v (V.cmp) ?_
  apply WpL.nil
  apply Out.seqN
  refine Wp.c (fun hse0 => ?_) (fun hse0 => ?_)
  (try simp only [decide_eq_true_eq, decide_eq_false_iff_not, Bool.not_eq_true', Bool.not_eq_false', Bool.not_eq_true, Bool.not_eq_false, not_true_eq_false, not_false_eq_true, reduceCtorEq] at hse0)
  apply Wp.seq
  apply Wp.region
  refine WpL.v (V.as) ?_
  apply WpL.nil
  apply Out.seqN
  apply Wp.ret
  apply Out.seqR
  refine Out.f1 rfl ResIs.t ⟨?_, rfl⟩
  rotate_left
  (try simp only [decide_eq_true_eq, decide_eq_false_iff_not, Bool.not_eq_true', Bool.not_eq_false', Bool.not_eq_true, Bool.not_eq_false, not_true_eq_false, not_false_eq_true, reduceCtorEq] at hse0)
  apply Wp.skip
  apply Out.seqN
  apply Wp.seq
  apply Wp.region
  refine WpL.v (V.bld tb) ?_
  refine WpL.o (O.bxR u8c 5 1 rfl (fun p8 => ?_))
  refine WpL.v (V.as) ?_
  apply WpL.nil
  apply Out.seqN
  apply Wp.seq
  apply Wp.region
  refine WpL.v (V.mv) ?_
  refine WpL.v (V.mv) ?_
  refine WpL.v (V.lenS tb) ?_
  refine WpL.o (O.lit tb (fun p12 => ?_))
  refine WpL.o (Op1.callT rfl (sinkNat1 _ _ _ _ _ ?_ ?_) (by (repeat (first | exact Sel.nil | exact Rem.here | apply Sel.cons | apply Rem.there))) ?_)
  (first | with_reducible assumption | omega | (simp only [List.length_append, List.length_cons, List.length_nil, List.length_map] at *; omega) | (focus (simp; done)))
  (first | with_reducible assumption | omega | (simp only [List.length_append, List.length_cons, List.length_nil, List.length_map] at *; omega) | (focus (simp; done)))
  rintro v1 s2 ⟨v'13, ⟨rfl, rfl⟩⟩
  refine incat ?_
  apply WpL.nil
  apply Out.seqN
  apply Wp.seq
  apply Wp.region
  refine WpL.v (V.mv) ?_
  refine WpL.v (V.mv) ?_
  refine WpL.o (Op1.callT rfl (sinkBytes _ _ _) (by (repeat (first | exact Sel.nil | exact Rem.here | apply Sel.cons | apply Rem.there))) ?_)
  rintro v3 s4 ⟨rfl, rfl⟩
  refine incat ?_
  refine WpL.v (V.mv) ?_
  refine WpL.o (O.lit tb (fun p18 => ?_))
  refine WpL.o (Op1.callT rfl (sum_two _ _ _ ?_ ?_) (by (repeat (first | exact Sel.nil | exact Rem.here | apply Sel.cons | apply Rem.there))) ?_)
  (first | with_reducible assumption | omega | (simp only [List.length_append, List.length_cons, List.length_nil, List.length_map] at *; omega) | (focus (simp; done)))
  (first | with_reducible assumption | omega | (simp only [List.length_append, List.length_cons, List.length_nil, List.length_map] at *; omega) | (focus (simp; done)))
  rintro v5 s6 ⟨rfl, rfl⟩
  refine incat ?_
  refine WpL.o (Op1.fn rfl (four_any _) ?_)
  refine WpL.o (Op1.callT rfl (sinkRaw _ _ _ _ ?_) (by (repeat (first | exact Sel.nil | exact Rem.here | apply Sel.cons | apply Rem.there))) ?_)
  (first | with_reducible assumption | omega | (simp only [List.length_append, List.length_cons, List.length_nil, List.length_map] at *; omega) | (focus (simp; done)))
  rintro v7 s8 ⟨v'21, ⟨rfl, rfl⟩⟩
  refine incat ?_
  apply WpL.nil
  apply Out.seqN
  apply Wp.seq
  apply Wp.region
  refine WpL.v (V.mv) ?_
  refine WpL.v (V.mv) ?_
  refine WpL.o (Op1.callT rfl (sinkRaw _ _ _ _ ?_) (by (repeat (first | exact Sel.nil | exact Rem.here | apply Sel.cons | apply Rem.there))) ?_)
  (first | with_reducible assumption | omega | (simp only [List.length_append, List.length_cons, List.length_nil, List.length_map] at *; omega) | (focus (simp; done)))
  rintro v9 s10 ⟨v'24, ⟨rfl, rfl⟩⟩
  refine incat ?_
  apply WpL.nil
  apply Out.seqN
  apply Wp.seq
  apply Wp.region
  refine WpL.v (V.mv) ?_
  refine WpL.o (Op1.callT rfl (sinkBytes _ _ _) (by (repeat (first | exact Sel.nil | exact Rem.here | apply Sel.cons | apply Rem.there))) ?_)
  rintro v11 s12 ⟨rfl, rfl⟩
  refine incat ?_
  refine WpL.v (V.as) ?_
  apply WpL.nil
  apply Out.seqN
  apply Wp.ret
  refine Out.f1 rfl ResIs.t ⟨?_, rfl⟩
  rotate_left
  · rw [sealB, if_pos (by omega)]
  · rw [sealB, if_neg (by omega)]; simp
theorem sum9 : sumS ([49, 50, 51, 52] ++ [53, 54, 55, 56, 57]) = 3421780262 := by decide +kernel
theorem seal0 : (sealB []).length = 5 := by
  have h : natI ((([] : List UInt8).length : Nat) : Int) = [UInt8.ofNat 0] := natB_lo (by decide)
  rw [sealB, if_neg (by decide), h]; rfl
theorem alive06 : Fun Try.prog 20 [] (B true) := by
  have hA (g : Nat) : Ct Try.prog 21 [.slice (some ⟨g, 0, none⟩) 2 2] [row (.slice (some ⟨g, 0, none⟩) 2 2) 9 1 2 [S [49, 50, 51, 52], S [53, 54, 55, 56, 57]]]
      (fun r σ' => r = .int .u32 3421780262 ∧ σ' = [row (.slice (some ⟨g, 0, none⟩) 2 2) 9 1 2 [S [49, 50, 51, 52], S [53, 54, 55, 56, 57]]]) := by
    have := sum_two g [49, 50, 51, 52] [53, 54, 55, 56, 57] (by decide) (by decide)
    rw [sum9] at this
    exact this
  have hB : Fun Try.prog 23 [S []] (S (sealB [])) := seal_any [] (by decide)
  have h0 := seal0
  refine Ct.enter Try.func20 rfl rfl fun W => ?_
  apply Wp.seq
  apply Wp.region
  refine WpL.v (V.as) ?_
  apply WpL.nil
  apply Out.seqN
  apply Wp.seq
  apply Wp.region
  refine WpL.o (O.lit tb (fun p1 => ?_))
  refine WpL.o (Op1.callT rfl (hA _) (by (repeat (first | exact Sel.nil | exact Rem.here | apply Sel.cons | apply Rem.there))) ?_)
  rintro v0 s1 ⟨rfl, rfl⟩
  refine incat ?_
  refine WpL.v (V.cmp) ?_
  refine WpL.v (V.mv) ?_
  refine WpL.o (Op1.fn rfl (hB) ?_)
  refine WpL.v (V.lenS tb) ?_
  refine WpL.v (V.cmp) ?_
  refine WpL.v (V.pT) ?_
  refine WpL.v (V.as) ?_
  apply WpL.nil
  apply Out.seqN
  apply Wp.ret
  refine Out.f1 rfl ResIs.t ⟨?_, rfl⟩
  rw [h0]; rfl
end Go.Proofs.Ytgbflapcadlelaa
