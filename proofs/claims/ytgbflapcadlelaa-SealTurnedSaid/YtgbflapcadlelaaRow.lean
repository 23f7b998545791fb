/-
  Layer 6: a row of sealed texts: strings.Builder.
-/
import Derived.Test.YtgbflapcadlelaaOpen
import Derived.Test.YtgbflapcadlelaaHeapC
namespace Go.Proofs.Ytgbflapcadlelaa
open Go.HL
set_option linter.unusedSimpArgs false
set_option linter.unusedVariables false
set_option maxRecDepth 8000
/-- A builder: its own address, or none yet. -/
def bldE (b : Nat) (u : Bool) (v : Go.Value) (l : List UInt8) : List Ent := [cells b 135 [if u then Ptr b 0 else .pointer none, v], rows u8c v 5 1 l]
theorem f88_at : Try.prog.funcs[88]? = some Try.f88 := by kernel_rfl
theorem copyCheck0 (b : Nat) (v : Go.Value) : Ct Try.prog 87 [Ptr b 0] [cells b 135 [.pointer none, v]] (fun r σ' => r = .tuple #[] ∧ σ' = [cells b 135 [Ptr b 0, v]]) := by
  refine Ct.enter Try.func87 rfl rfl fun W => ?_
  apply Wp.seq
  apply Wp.region
  refine WpL.v (V.mv) ?_
  refine WpL.v (V.nc) ?_
  refine WpL.v (V.fa tb) ?_
  refine WpL.v (V.ld1 tb) ?_
  refine WpL.v (V.eqN) ?_
  apply WpL.nil
  apply Out.seqN
  refine Wp.cT ?_
  apply Wp.region
  refine WpL.v (V.mv) ?_
  refine WpL.v (V.mv) ?_
  refine WpL.v (V.toU (src := 133) (dt := 143) (t := 135) rfl (by exact List.Mem.head _) (by kernel_rfl) (by kernel_rfl) (by kernel_rfl) (by simp)) ?_
  refine WpL.v (V.noEsc f88_at (by kernel_rfl) (by kernel_rfl) (by kernel_rfl) (by kernel_rfl) rfl) ?_
  refine WpL.v (V.fromU (src := 143) (dt := 133) (t := 135) rfl (by exact List.Mem.head _) (by kernel_rfl) (by kernel_rfl) (by kernel_rfl) (by kernel_rfl)) ?_
  refine WpL.v (V.nc) ?_
  refine WpL.v (V.fa tb) ?_
  refine WpL.o (O.st1 tb ?_)
  apply WpL.nil
  refine Out.f0 rfl  ⟨?_, rfl⟩
  exact rfl
theorem copyCheck1 (b : Nat) (v : Go.Value) : Ct Try.prog 87 [Ptr b 0] [cells b 135 [Ptr b 0, v]] (fun r σ' => r = .tuple #[] ∧ σ' = [cells b 135 [Ptr b 0, v]]) := by
  refine Ct.enter Try.func87 rfl rfl fun W => ?_
  apply Wp.seq
  apply Wp.region
  refine WpL.v (V.mv) ?_
  refine WpL.v (V.nc) ?_
  refine WpL.v (V.fa tb) ?_
  refine WpL.v (V.ld1 tb) ?_
  refine WpL.v (V.eqP) ?_
  apply WpL.nil
  apply Out.seqN
  refine Wp.cF ?_
  apply Wp.seq
  apply Wp.region
  refine WpL.v (V.mv) ?_
  refine WpL.v (V.nc) ?_
  refine WpL.v (V.fa tb) ?_
  refine WpL.v (V.ld1 tb) ?_
  refine WpL.v (V.mv) ?_
  refine WpL.v (V.neSelf (e := 135) rfl rfl (by kernel_rfl) (by kernel_rfl)) ?_
  apply WpL.nil
  apply Out.seqN
  refine Wp.cF ?_
  apply Wp.skip
  refine Out.f0 rfl  ⟨?_, rfl⟩
  exact rfl
theorem write0 (b : Nat) (t : List UInt8) (ht : t.length ≤ 1000000) :
    Ct Try.prog 83 [Ptr b 0, S t] [cells b 135 [.pointer none, .slice none 0 0], rows u8c (.slice none 0 0) 5 1 []] (fun r σ' => ∃ v', r = .tuple #[I (t.length : Int), .nilIface] ∧ (v' = .slice none 0 0 ↔ (Go.Value.slice none 0 0) = .slice none 0 0 ∧ t.length = 0) ∧ σ' = [cells b 135 [Ptr b 0, v'], rows u8c v' 5 1 t]) := by
  refine Ct.enter Try.func83 rfl rfl fun W => ?_
  apply Wp.seq
  apply Wp.region
  refine WpL.v (V.as) ?_
  refine WpL.v (V.as) ?_
  apply WpL.nil
  apply Out.seqN
  apply Wp.seq
  apply Wp.region
  refine WpL.v (V.mv) ?_
  refine WpL.o (Op1.callT rfl (copyCheck0 _ _) (by (repeat (first | exact Sel.nil | exact Rem.here | apply Sel.cons | apply Rem.there))) ?_)
  rintro v0 s1 ⟨rfl, rfl⟩
  refine incat ?_
  apply WpL.nil
  apply Out.seqN
  apply Wp.seq
  apply Wp.region
  refine WpL.v (V.mv) ?_
  refine WpL.v (V.mv) ?_
  refine WpL.v (V.nc) ?_
  refine WpL.v (V.fa tb) ?_
  refine WpL.v (V.ld1 tb) ?_
  refine WpL.v (V.mv) ?_
  refine WpL.o (O.apLV tb rfl rfl (by (intro _; repeat first | exact Upd.here _ _ _ | apply Upd.there)) (SrcL.str tb) (fun v14 h114 hv14 => ?_))
  refine WpL.v (V.nc) ?_
  refine WpL.v (V.fa tb) ?_
  refine WpL.o (O.st1 tb ?_)
  apply WpL.nil
  apply Out.seqN
  apply Wp.seq
  apply Wp.region
  refine WpL.v (V.mv) ?_
  refine WpL.v (V.lenS tb) ?_
  refine WpL.v (V.as) ?_
  refine WpL.v (V.as) ?_
  apply WpL.nil
  apply Out.seqN
  apply Wp.ret
  refine Out.e2 rfl ResIs.t ResIs.t ?_
  focus (exact ⟨_, _, ⟨v14, rfl, hv14, rfl⟩, (by (repeat (first | exact Sel.nil | exact Rem.here | apply Sel.cons | apply Rem.there)))⟩; done)
theorem write1 (b : Nat) (v : Go.Value) (l t : List UInt8) (hl : l.length + t.length ≤ 2000000) :
    Ct Try.prog 83 [Ptr b 0, S t] [cells b 135 [Ptr b 0, v], rows u8c v 5 1 l] (fun r σ' => ∃ v', r = .tuple #[I (t.length : Int), .nilIface] ∧ (v' = .slice none 0 0 ↔ v = .slice none 0 0 ∧ t.length = 0) ∧ σ' = [cells b 135 [Ptr b 0, v'], rows u8c v' 5 1 (l ++ t)]) := by
  refine Ct.enter Try.func83 rfl rfl fun W => ?_
  apply Wp.seq
  apply Wp.region
  refine WpL.v (V.as) ?_
  refine WpL.v (V.as) ?_
  apply WpL.nil
  apply Out.seqN
  apply Wp.seq
  apply Wp.region
  refine WpL.v (V.mv) ?_
  refine WpL.o (Op1.callT rfl (copyCheck1 _ _) (by (repeat (first | exact Sel.nil | exact Rem.here | apply Sel.cons | apply Rem.there))) ?_)
  rintro v0 s1 ⟨rfl, rfl⟩
  refine incat ?_
  apply WpL.nil
  apply Out.seqN
  apply Wp.seq
  apply Wp.region
  refine WpL.v (V.mv) ?_
  refine WpL.v (V.mv) ?_
  refine WpL.v (V.nc) ?_
  refine WpL.v (V.fa tb) ?_
  refine WpL.v (V.ld1 tb) ?_
  refine WpL.v (V.mv) ?_
  refine WpL.o (O.apLV tb rfl rfl (by (intro _; repeat first | exact Upd.here _ _ _ | apply Upd.there)) (SrcL.str tb) (fun v14 h114 hv14 => ?_))
  refine WpL.v (V.nc) ?_
  refine WpL.v (V.fa tb) ?_
  refine WpL.o (O.st1 tb ?_)
  apply WpL.nil
  apply Out.seqN
  apply Wp.seq
  apply Wp.region
  refine WpL.v (V.mv) ?_
  refine WpL.v (V.lenS tb) ?_
  refine WpL.v (V.as) ?_
  refine WpL.v (V.as) ?_
  apply WpL.nil
  apply Out.seqN
  apply Wp.ret
  refine Out.e2 rfl ResIs.t ResIs.t ?_
  focus (exact ⟨_, _, ⟨v14, rfl, hv14, rfl⟩, (by (repeat (first | exact Sel.nil | exact Rem.here | apply Sel.cons | apply Rem.there)))⟩; done)
theorem str0 (b : Nat) (a : Go.Value) : Ct Try.prog 84 [Ptr b 0] [cells b 135 [a, .slice none 0 0]] (fun r σ' => r = S [] ∧ σ' = []) := by
  refine Ct.enter Try.func84 rfl rfl fun W => ?_
  apply Wp.seq
  apply Wp.region
  refine WpL.v (V.as) ?_
  apply WpL.nil
  apply Out.seqN
  apply Wp.seq
  refine Wp.dG [] ?_ (List.Sublist.cons_cons _ List.Sublist.slnil) (List.Sublist.cons_cons _ List.Sublist.slnil)
  refine WpA.tF 0 rfl (V.mv) ?_
  refine WpA.tF 1 rfl (V.nc) ?_
  refine WpA.tF 2 rfl (V.fa tb) ?_
  refine WpA.tF 3 rfl (V.ld1 tb) ?_
  refine WpA.tF 4 rfl (V.usdN rfl) ?_
  refine WpA.tF 5 rfl (V.mv) ?_
  refine WpA.tF 6 rfl (V.nc) ?_
  refine WpA.tF 7 rfl (V.fa tb) ?_
  refine WpA.tF 8 rfl (V.ld1 tb) ?_
  refine WpA.tF 9 rfl (V.lenL tb) ?_
  refine WpA.tF 10 rfl (V.ustrN rfl rfl) ?_
  refine WpA.tF 11 rfl (V.as) ?_
  refine WpA.ou ?_
  apply Out.seqN
  apply Wp.ret
  refine Out.f1 rfl ResIs.t ⟨?_, rfl⟩
  exact rfl
theorem str1 (b : Nat) (a : Go.Value) (g cap : Nat) (l : List UInt8) (h0 : l ≠ []) (hc : cap ≠ 0) : Ct Try.prog 84 [Ptr b 0] [cells b 135 [a, .slice (some ⟨g, 0, none⟩) l.length cap], rows u8c (.slice (some ⟨g, 0, none⟩) l.length cap) 5 1 l] (fun r σ' => r = S l ∧ σ' = []) := by
  refine Ct.enter Try.func84 rfl rfl fun W => ?_
  apply Wp.seq
  apply Wp.region
  refine WpL.v (V.as) ?_
  apply WpL.nil
  apply Out.seqN
  apply Wp.seq
  refine Wp.dG [] ?_ (List.Sublist.cons_cons _ (List.Sublist.cons _ List.Sublist.slnil)) (List.Sublist.cons_cons _ (List.Sublist.cons _ List.Sublist.slnil))
  refine WpA.tF 0 rfl (V.mv) ?_
  refine WpA.tF 1 rfl (V.nc) ?_
  refine WpA.tF 2 rfl (V.fa tb) ?_
  refine WpA.tF 3 rfl (V.ld1 tb) ?_
  refine WpA.tF 4 rfl (V.usd rfl hc) ?_
  refine WpA.tF 5 rfl (V.mv) ?_
  refine WpA.tF 6 rfl (V.nc) ?_
  refine WpA.tF 7 rfl (V.fa tb) ?_
  refine WpA.tF 8 rfl (V.ld1 tb) ?_
  refine WpA.tF 9 rfl (V.lenL tb) ?_
  refine WpA.oS 10 rfl (Op1.ustr rfl rfl h0 (by kernel_rfl) (by kernel_rfl) (by (repeat first | exact Upd.here _ _ _ | apply Upd.there)) rfl ⟨?_, ?_, ?_⟩)
  exact holdT
  exact holdT
  refine WpA.tF 11 rfl (V.as) ?_
  refine WpA.ou ?_
  apply Out.seqN
  apply Wp.ret
  refine Out.f1 rfl ResIs.t ⟨?_, rfl⟩
  exact rfl
def rowB (ts : List (List UInt8)) : List UInt8 := ts.flatMap sealB
theorem rowB_snoc (ts : List (List UInt8)) (t : List UInt8) : rowB (ts ++ [t]) = rowB ts ++ sealB t := by simp [rowB]
theorem sealB_len {t : List UInt8} (h : t.length ≤ 16384) : 5 ≤ (sealB t).length ∧ (sealB t).length ≤ t.length + 13 := by
  have h1 : 1 ≤ (natI (t.length : Int)).length := natB_pos _
  have h2 := natI_len (n := (t.length : Int)) (by omega)
  rw [sealB, if_neg (by omega)]
  simp only [List.length_append, fourB, List.length_cons, List.length_nil]
  omega
theorem rowB_len {ts : List (List UInt8)} (h : ∀ t, t ∈ ts → t.length ≤ 16384) : (rowB ts).length ≤ 20000 * ts.length := by
  induction ts with
  | nil => simp [rowB]
  | cons t ts ih =>
    have h1 := sealB_len (h t (by simp))
    have h2 := ih fun x hx => h x (by simp [hx])
    have h3 := h t (by simp)
    simp only [rowB, List.flatMap_cons, List.length_append, List.length_cons] at h2 ⊢
    omega
theorem seal_row (e : Ent) (ao : Option Go.Addr) (cap bb off : Nat) (ts : List (List UInt8)) (hR : Rd e ao ts.length bb off 1 (ts.map strc)) (h : ∀ t, t ∈ ts → t.length ≤ 16384) (hn : ts.length ≤ 45) :
    Ct Try.prog 67 [.slice ao ts.length cap] [e] (fun r σ' => r = S (rowB ts) ∧ σ' = [e]) := by
  refine Ct.enter Try.func67 rfl rfl fun W => ?_
  apply Wp.seq
  apply Wp.region
  refine WpL.v (V.as) ?_
  apply WpL.nil
  apply Out.seqN
  apply Wp.seq
  apply Wp.region
  refine WpL.o (O.al tb (fun p3 => ?_))
  apply WpL.nil
  apply Out.seqN
  apply Wp.seq
  apply Wp.seq
  apply Wp.region
  refine WpL.v (V.mv) ?_
  refine WpL.v (V.lenL tb) ?_
  refine WpL.v (V.mv) ?_
  apply WpL.nil
  apply Out.seqN
  apply Wp.block
  refine Wp.nilRows u8c 5 1 ?_
  refine Wp.lp [7, 6, 3] (fun y : Nat × Go.Value => y.1 ≤ ts.length ∧ (y.1 = 0 → y.2 = .slice none 0 0) ∧ (y.2 = .slice none 0 0 → y.1 = 0)) (fun y => [(8, I (y.1 : Int))]) (fun y => [cells p3 135 [if y.1 = 0 then .pointer none else Ptr p3 0, y.2], rows u8c y.2 5 1 (rowB (ts.take y.1))]) (fun y => ts.length - y.1) (0, .slice none 0 0) ⟨Nat.zero_le _, fun _ => rfl, fun _ => rfl⟩ ?_
  rintro ⟨i, v⟩ ⟨hi, hv, hv2⟩ K hK
  dsimp only at hi hv hv2
  dsimp only [List.cons_append, List.nil_append]
  by_cases hlt : i < ts.length
  · obtain ⟨t, hx⟩ := getS hlt
    have e1 := take_snocS hx
    have hgd : ts.getD i default = t := by simp [List.getD, hx]
    have ht := h t (List.mem_of_getElem? hx)
    have hsl := sealB_len ht
    have hA := seal_any (ts.getD i default) (by rw [hgd]; omega)
    have hrl := rowB_len (ts := ts.take i) (fun x hx => h x (List.mem_of_mem_take hx))
    rw [List.length_take] at hrl
    by_cases h0 : i = 0
    · subst h0
      obtain rfl := hv rfl
      have hW (b : Nat) := write0 b (sealB (ts.getD 0 default)) (by rw [hgd]; omega)
      rw [if_pos rfl, show rowB (ts.take 0) = [] from rfl]
      apply Wp.seq
      apply Wp.region
      refine WpL.v (V.cmp) ?_
      apply WpL.nil
      apply Out.seqN
      apply Wp.seq
      refine Wp.c (fun hr10 => ?_) (fun hr10 => ?_)
      (try simp only [decide_eq_true_eq, decide_eq_false_iff_not, Bool.not_eq_true', Bool.not_eq_false', Bool.not_eq_true, Bool.not_eq_false, not_true_eq_false, not_false_eq_true, reduceCtorEq] at hr10)
      apply Wp.skip
      apply Out.seqN
      apply Wp.seq
      apply Wp.block
      apply Wp.seq
      apply Wp.region
      refine WpL.v (V.ixR tb rfl rfl (by assumption)) ?_
      refine WpL.v (V.ldR1 tb rfl (by assumption) (getMapD1 (by omega))) ?_
      refine WpL.v (V.as) ?_
      apply WpL.nil
      apply Out.seqN
      apply Wp.region
      refine WpL.v (V.mv) ?_
      refine WpL.o (Op1.fn rfl (hA) ?_)
      refine WpL.o (Op1.callT rfl (hW _) (by (repeat (first | exact Sel.nil | exact Rem.here | apply Sel.cons | apply Rem.there))) ?_)
      rintro v2 s3 ⟨v'14, ⟨rfl, ⟨hx1, rfl⟩⟩⟩
      refine incat ?_
      apply WpL.nil
      apply Out.blockN
      apply Out.seqN
      apply Wp.region
      refine WpL.v (V.add) ?_
      refine WpL.v (V.mv) ?_
      apply WpL.nil
      rotate_left
      (try simp only [decide_eq_true_eq, decide_eq_false_iff_not, Bool.not_eq_true', Bool.not_eq_false', Bool.not_eq_true, Bool.not_eq_false, not_true_eq_false, not_false_eq_true, reduceCtorEq] at hr10)
      (exfalso; omega)
      refine Out.ag (ρ := []) hK (1, v'14) ⟨by show 1 ≤ _; omega, by simp, fun h1 => ?_⟩ (by show ts.length - 1 < ts.length - 0; omega) (hs := ?_)
      · rw [hgd] at hx1
        have := (hx1.1 h1).2
        omega
      · dsimp only [List.cons_append, List.nil_append]
        rw [if_neg (by decide), show rowB (ts.take 1) = sealB (ts.getD 0 default) by rw [show ts.take 1 = ts.take (0 + 1) from rfl, e1, hgd]; simp [rowB]]
        exact Sel.cons Rem.here (Sel.cons Rem.here (Sel.cons Rem.here Sel.nil))
    · have hW (b : Nat) := write1 b v (rowB (ts.take i)) (sealB (ts.getD i default)) (by rw [hgd]; omega)
      rw [if_neg h0]
      apply Wp.seq
      apply Wp.region
      refine WpL.v (V.cmp) ?_
      apply WpL.nil
      apply Out.seqN
      apply Wp.seq
      refine Wp.c (fun hr20 => ?_) (fun hr20 => ?_)
      (try simp only [decide_eq_true_eq, decide_eq_false_iff_not, Bool.not_eq_true', Bool.not_eq_false', Bool.not_eq_true, Bool.not_eq_false, not_true_eq_false, not_false_eq_true, reduceCtorEq] at hr20)
      apply Wp.skip
      apply Out.seqN
      apply Wp.seq
      apply Wp.block
      apply Wp.seq
      apply Wp.region
      refine WpL.v (V.ixR tb rfl rfl (by assumption)) ?_
      refine WpL.v (V.ldR1 tb rfl (by assumption) (getMapD1 (by omega))) ?_
      refine WpL.v (V.as) ?_
      apply WpL.nil
      apply Out.seqN
      apply Wp.region
      refine WpL.v (V.mv) ?_
      refine WpL.o (Op1.fn rfl (hA) ?_)
      refine WpL.o (Op1.callT rfl (hW _) (by (repeat (first | exact Sel.nil | exact Rem.here | apply Sel.cons | apply Rem.there))) ?_)
      rintro v2 s3 ⟨v'14, ⟨rfl, ⟨hx1, rfl⟩⟩⟩
      refine incat ?_
      apply WpL.nil
      apply Out.blockN
      apply Out.seqN
      apply Wp.region
      refine WpL.v (V.add) ?_
      refine WpL.v (V.mv) ?_
      apply WpL.nil
      rotate_left
      (try simp only [decide_eq_true_eq, decide_eq_false_iff_not, Bool.not_eq_true', Bool.not_eq_false', Bool.not_eq_true, Bool.not_eq_false, not_true_eq_false, not_false_eq_true, reduceCtorEq] at hr20)
      (exfalso; omega)
      refine Out.ag (ρ := []) hK (i + 1, v'14) ⟨by show i + 1 ≤ _; omega, by simp, fun h1 => ?_⟩ (by show ts.length - (i + 1) < ts.length - i; omega) (hs := ?_)
      · rw [hgd] at hx1
        have := (hx1.1 h1).2
        omega
      · dsimp only [List.cons_append, List.nil_append]
        rw [if_neg (by omega), e1, rowB_snoc, ← hgd]
        exact Sel.cons Rem.here (Sel.cons Rem.here (Sel.cons Rem.here Sel.nil))
  · obtain rfl : i = ts.length := by omega
    rw [List.take_length]
    refine Wp.form (f := u8c) (v := v) (l := rowB ts) (by (repeat first | exact List.Mem.head _ | apply List.Mem.tail)) (fun h1 h2 => ?_) (fun g cap2 hvv => ?_)
    · subst h1
      rw [h2]
      apply Wp.seq
      apply Wp.region
      refine WpL.v (V.cmp) ?_
      apply WpL.nil
      apply Out.seqN
      apply Wp.seq
      refine Wp.c (fun hr30 => ?_) (fun hr30 => ?_)
      (try simp only [decide_eq_true_eq, decide_eq_false_iff_not, Bool.not_eq_true', Bool.not_eq_false', Bool.not_eq_true, Bool.not_eq_false, not_true_eq_false, not_false_eq_true, reduceCtorEq] at hr30)
      (exfalso; omega)
      (try simp only [decide_eq_true_eq, decide_eq_false_iff_not, Bool.not_eq_true', Bool.not_eq_false', Bool.not_eq_true, Bool.not_eq_false, not_true_eq_false, not_false_eq_true, reduceCtorEq] at hr30)
      apply Wp.exit
      apply Out.seqE
      apply Out.seqE
      apply Out.blockE
      apply Out.seqN
      apply Wp.seq
      apply Wp.region
      refine WpL.o (Op1.callT rfl (str0 _ _) (by (repeat (first | exact Sel.nil | exact Rem.here | apply Sel.cons | apply Rem.there))) ?_)
      rintro v1 s2 ⟨rfl, rfl⟩
      refine incat ?_
      refine WpL.v (V.as) ?_
      apply WpL.nil
      apply Out.seqN
      apply Wp.ret
      refine Out.f1 rfl ResIs.t ⟨?_, rfl⟩
      exact rfl
    · subst hvv
      refine Wp.rowsLe (f := u8c) (l := rowB ts) (by (repeat first | exact List.Mem.head _ | apply List.Mem.tail)) fun hle => ?_
      have hne : rowB ts ≠ [] := by
        cases ts with
        | nil => have := hv rfl; simp at this
        | cons t ts =>
          have := (sealB_len (h t (by simp))).1
          intro h2
          rw [rowB, List.flatMap_cons, List.append_eq_nil_iff] at h2
          rw [h2.1] at this
          simp at this
      have hc2 : cap2 ≠ 0 := by
        have : (rowB ts).length ≠ 0 := by simpa using hne
        omega
      have hS (b : Nat) (a : Go.Value) := str1 b a g cap2 (rowB ts) hne hc2
      apply Wp.seq
      apply Wp.region
      refine WpL.v (V.cmp) ?_
      apply WpL.nil
      apply Out.seqN
      apply Wp.seq
      refine Wp.c (fun hr40 => ?_) (fun hr40 => ?_)
      (try simp only [decide_eq_true_eq, decide_eq_false_iff_not, Bool.not_eq_true', Bool.not_eq_false', Bool.not_eq_true, Bool.not_eq_false, not_true_eq_false, not_false_eq_true, reduceCtorEq] at hr40)
      (exfalso; omega)
      (try simp only [decide_eq_true_eq, decide_eq_false_iff_not, Bool.not_eq_true', Bool.not_eq_false', Bool.not_eq_true, Bool.not_eq_false, not_true_eq_false, not_false_eq_true, reduceCtorEq] at hr40)
      apply Wp.exit
      apply Out.seqE
      apply Out.seqE
      apply Out.blockE
      apply Out.seqN
      apply Wp.seq
      apply Wp.region
      refine WpL.o (Op1.callT rfl (hS _ _) (by (repeat (first | exact Sel.nil | exact Rem.here | apply Sel.cons | apply Rem.there))) ?_)
      rintro v1 s2 ⟨rfl, rfl⟩
      refine incat ?_
      refine WpL.v (V.as) ?_
      apply WpL.nil
      apply Out.seqN
      apply Wp.ret
      refine Out.f1 rfl ResIs.t ⟨?_, rfl⟩
      exact rfl
end Go.Proofs.Ytgbflapcadlelaa
