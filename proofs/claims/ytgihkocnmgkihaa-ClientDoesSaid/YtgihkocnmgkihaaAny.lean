/-
  Layer 20: any deed; two replies that lie in rows.
-/
import Derived.Test.YtgihkocnmgkihaaByt
namespace Go.HL
open Go
/-- A contract's end said otherwise, with what is known there. -/
theorem Ct.postW {P : Program} {σ : List Ent} {f : FuncId} {args : List Value} {R R' : Value → List Ent → Prop} (h : Ct P f args σ R) (hr : ∀ v σ' W D w, R v σ' → H W D σ' w → ∃ τ, R' v τ ∧ H W D τ w) : Ct P f args σ R' := Ct.of fun w h0 =>
  (h.get w h0).mono fun e w' ⟨v, σ', he, hR, hH⟩ => by
    obtain ⟨τ, h1, h2⟩ := hr v σ' _ _ _ hR hH
    exact ⟨v, τ, he, h1, h2⟩
end Go.HL
namespace Go.Proofs.Ytgihkocnmgkihaa
open Go.HL
set_option linter.unusedSimpArgs false
set_option linter.unusedVariables false
set_option maxRecDepth 8000
/-- What a deed comes to. -/
structure DR where
  err : Int
  val : List UInt8
  ver : Int
  keys : List (List UInt8)
  l : PM
def doA (l : PM) (d : TDeed) : DR := if d.Kind = 5 then ⟨0, [], 0, listL d.Key l, l⟩ else ⟨(doN l d).1.Err, (doN l d).1.Value, (doN l d).1.Version, [], (doN l d).2⟩
theorem doN_keys (l : PM) (d : TDeed) : (doN l d).1.Keys = .slice none 0 0 := by
  unfold doN rep
  repeat' split
  all_goals rfl
theorem RI.any {n : Nat} {l : PM} (h : RI n l) (d : TDeed) : RI (n + 1) (doA l d).l := by
  unfold doA
  split
  · exact h.up
  · exact h.do_ d
theorem RZ.any {n : Nat} {l : PM} (hi : RI n l) (h : RZ l) {d : TDeed} (hd : d.Key.length + d.Value.length ≤ 100) : RZ (doA l d).l := by
  unfold doA
  split
  · exact h
  · exact h.do_ hi hd
theorem reg_any (b m n : Nat) (l : PM) (d : TDeed) (hi : RI n l) (hn : n ≤ 10000) :
    Ct Try.prog 15 [Ptr b 0, A d.c] [cells b 74 (RegistryRegistry.c ⟨.map (some m)⟩), mE m l] (fun r σ' => ∃ ao len cap, r = A (RegistryReply.c ⟨(doA l d).err, (doA l d).val, (doA l d).ver, .slice ao len cap⟩) ∧ σ' = [rows strc (.slice ao len cap) 9 1 (doA l d).keys, cells b 74 (RegistryRegistry.c ⟨.map (some m)⟩), mE m (doA l d).l]) := by
  have hl := hi.len
  have hv := hi.ver d.Key
  unfold doA
  by_cases hk : d.Kind = 5
  · simp only [if_pos hk]
    refine Ct.postW (reg_list b m l d hk (by omega)) ?_
    rintro v σ' W D w ⟨x, rfl, rfl⟩ hH
    have hH2 := hH.perm (List.perm_append_comm (l₁ := rgE b m l) (l₂ := [_]))
    obtain ⟨ao, cap, _, _, rfl, _⟩ := rowsRd (f := strc) (sz := 1) (E := 9) (fun _ => rfl) (List.Mem.head _) w hH2
    exact ⟨_, ⟨ao, _, cap, rfl, rfl⟩, hH2⟩
  · simp only [if_neg hk]
    refine Ct.postW (reg_do b m l d hk (by omega)) ?_
    rintro v σ' W D w ⟨rfl, rfl⟩ hH
    refine ⟨_, ⟨none, 0, 0, ?_, rfl⟩, hH.rowsNil strc 9 1⟩
    rw [← doN_keys l d]
theorem ref_any (b : Nat) (E : Go.TypeId) (rest : List Go.Value) (ks vs ns : Go.Value) (n : Nat) (l : PM) (d : TDeed) (hi : RI n l) (hn : n ≤ 10000) :
    Ct Try.prog 19 [Ptr b 0, A d.c] (rfE b E rest ks vs ns (canon l)) (fun r σ' => ∃ ao len cap ks' vs' ns', r = A (Caucusref20Reply.c ⟨(doA l d).err, (doA l d).val, (doA l d).ver, .slice ao len cap⟩) ∧ σ' = rows strc (.slice ao len cap) 9 1 (doA l d).keys :: rfE b E rest ks' vs' ns' (canon (doA l d).l)) := by
  unfold doA
  by_cases hk : d.Kind = 5
  · simp only [if_pos hk]
    refine Ct.postW (ref_list b E rest ks vs ns n l d hi hn hk) ?_
    rintro v σ' W D w ⟨x, rfl, rfl⟩ hH
    have hH2 := hH.perm (List.perm_append_comm (l₁ := rfE b E rest ks vs ns (canon l)) (l₂ := [_]))
    obtain ⟨ao, cap, _, _, rfl, _⟩ := rowsRd (f := strc) (sz := 1) (E := 9) (fun _ => rfl) (List.Mem.head _) w hH2
    exact ⟨_, ⟨ao, _, cap, ks, vs, ns, rfl, rfl⟩, hH2⟩
  · simp only [if_neg hk]
    refine Ct.postW (ref_do b E rest ks vs ns n l d hi hn hk) ?_
    rintro v σ' W D w ⟨ks', vs', ns', rfl, rfl⟩ hH
    exact ⟨_, ⟨none, 0, 0, ks', vs', ns', rfl, rfl⟩, hH.rowsNil strc 9 1⟩
theorem KR.one {W : Go.World} {D : List Nat} {σ : List Ent} {v : Go.Value} {k : List (List UInt8)} (hm : rows strc v 9 1 k ∈ σ) : ∀ w, H W D σ w → KR (rows strc v 9 1 k) v k := fun w hw => by
  obtain ⟨ao, cap, b, off, h1, h2⟩ := rowsRd (f := strc) (sz := 1) (E := 9) (fun _ => rfl) hm w hw
  exact ⟨ao, cap, b, off, h1, h2⟩
theorem KR.bag1 {e e2 : Ent} {v : Go.Value} {k : List (List UInt8)} (h : KR e v k) : KR (bag [e, e2]) v k := by
  obtain ⟨ao, cap, b, off, h1, h2⟩ := h
  exact ⟨ao, cap, b, off, h1, Rd.bag1 h2⟩
theorem KR.bag2 {e e2 : Ent} {v : Go.Value} {k : List (List UInt8)} (h : KR e2 v k) : KR (bag [e, e2]) v k := by
  obtain ⟨ao, cap, b, off, h1, h2⟩ := h
  exact ⟨ao, cap, b, off, h1, Rd.bag2 h2⟩
theorem same_rows (a b : RegistryReply) (ka kb : List (List UInt8)) : Ct Try.prog 16 [A a.c, A b.c] [rows strc a.Keys 9 1 ka, rows strc b.Keys 9 1 kb] (fun r σ' => r = B (sameR a b ka kb) ∧ σ' = [rows strc a.Keys 9 1 ka, rows strc b.Keys 9 1 kb]) := by
  refine Ct.known (p := KR (rows strc a.Keys 9 1 ka) a.Keys ka) (fun w hw => KR.one (List.Mem.head _) w hw) fun h1 => ?_
  refine Ct.known (p := KR (rows strc b.Keys 9 1 kb) b.Keys kb) (fun w hw => KR.one (List.Mem.tail _ (List.Mem.head _)) w hw) fun h2 => ?_
  refine Ct.eqv (τ := [bag [rows strc a.Keys 9 1 ka, rows strc b.Keys 9 1 kb]]) Eqv.bag.symm (same20 _ a b ka kb h1.bag1 h2.bag2) ?_
  rintro v σ' ⟨rfl, rfl⟩
  exact ⟨_, ⟨rfl, rfl⟩, Eqv.bag⟩
theorem same_self (a : RegistryReply) (ka : List (List UInt8)) : Ct Try.prog 16 [A a.c, A a.c] [rows strc a.Keys 9 1 ka] (fun r σ' => r = B true ∧ σ' = [rows strc a.Keys 9 1 ka]) := by
  refine Ct.known (p := KR (rows strc a.Keys 9 1 ka) a.Keys ka) (fun w hw => KR.one (List.Mem.head _) w hw) fun h1 => ?_
  refine Ct.mono (same20 _ a a ka ka h1 h1) ?_
  rintro v σ' ⟨rfl, rfl⟩
  refine ⟨?_, rfl⟩
  unfold sameR
  simp
theorem refSame_rows (a b : Caucusref20Reply) (ka kb : List (List UInt8)) : Ct Try.prog 17 [A a.c, A b.c] [rows strc a.Keys 9 1 ka, rows strc b.Keys 9 1 kb] (fun r σ' => r = B (decide (ka = kb) && (decide (a.Err = b.Err) && decide (a.Value = b.Value) && decide (a.Version = b.Version))) ∧ σ' = [rows strc a.Keys 9 1 ka, rows strc b.Keys 9 1 kb]) := by
  refine Ct.known (p := KR (rows strc a.Keys 9 1 ka) a.Keys ka) (fun w hw => KR.one (List.Mem.head _) w hw) fun h1 => ?_
  refine Ct.known (p := KR (rows strc b.Keys 9 1 kb) b.Keys kb) (fun w hw => KR.one (List.Mem.tail _ (List.Mem.head _)) w hw) fun h2 => ?_
  refine Ct.eqv (τ := [bag [rows strc a.Keys 9 1 ka, rows strc b.Keys 9 1 kb]]) Eqv.bag.symm (refSame _ a b ka kb h1.bag1 h2.bag2) ?_
  rintro v σ' ⟨rfl, rfl⟩
  exact ⟨_, ⟨rfl, rfl⟩, Eqv.bag⟩
/-- What a key's reading comes to. -/
theorem doA_get (l : PM) (k : List UInt8) : doA l ⟨1, k, [], 0, 0, 0⟩ = if (mget l k).isSome = true then ⟨0, (look l k).Value, (look l k).Version, [], l⟩ else ⟨5, [], 0, [], l⟩ := by
  unfold doA doN rep
  by_cases h : (mget l k).isSome = true <;> simp [h]
theorem look_none {l : PM} {k : List UInt8} (h : mget l k = none) : look l k = RegistryPair.z := by unfold look; rw [h]; rfl
theorem look_some {l : PM} {k : List UInt8} {p : RegistryPair} (h : mget l k = some p) : look l k = p := by unfold look; rw [h]; rfl
theorem doA_nop {l : PM} {d : TDeed} (h : writes d = false) : (doA l d).l = l := by
  simp only [writes, Bool.and_eq_false_iff, decide_eq_false_iff_not] at h
  unfold doA doN
  by_cases h5 : d.Kind = 5
  · rw [if_pos h5]
  · rw [if_neg h5, if_neg (show ¬ d.Kind = 2 by omega), if_neg (show ¬ d.Kind = 3 by omega), if_neg (show ¬ d.Kind = 4 by omega)]
    repeat' split
    all_goals rfl
theorem doA_err {l : PM} {d : TDeed} (h : (doA l d).err ≠ 0) : (doA l d).l = l := by
  revert h
  unfold doA doN rep
  by_cases h5 : d.Kind = 5
  · simp [h5]
  · simp only [if_neg h5]
    repeat' split
    all_goals simp
/-- Where something is written, and no error. -/
theorem doA_ok {l : PM} {d : TDeed} (hw : writes d = true) (he : (doA l d).err = 0) :
    (d.Kind = 4 ∧ (mget l d.Key).isSome = true ∧ doA l d = ⟨0, [], (look l d.Key).Version, [], mdel l d.Key⟩) ∨ (d.Kind ≠ 4 ∧ (d.Kind = 3 → d.Version = (look l d.Key).Version) ∧ doA l d = ⟨0, [], (look l d.Key).Version + 1, [], putL l d.Key d.Value⟩) := by
  simp only [writes, Bool.and_eq_true, decide_eq_true_eq] at hw
  have h5 : ¬ d.Kind = 5 := by omega
  revert he
  unfold doA doN rep
  simp only [if_neg h5, if_neg (show ¬ d.Kind = 0 by omega)]
  by_cases h2 : d.Kind = 2
  · simp [h2]
  · simp only [if_neg h2]
    by_cases h3 : d.Kind = 3
    · simp only [if_pos h3]
      by_cases hv : (look l d.Key).Version = d.Version
      · simp [hv, h3]
      · simp [hv]
    · have h4 : d.Kind = 4 := by omega
      simp only [if_neg h3, if_pos (show d.Kind = 1 ∨ d.Kind = 4 by omega), if_pos h4]
      by_cases hs : (mget l d.Key).isSome = true
      · simp [hs, h4]
      · simp [hs]
end Go.Proofs.Ytgihkocnmgkihaa
