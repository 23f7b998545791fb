/-
  Layer 21: the client's machine: what a deed comes to.
-/
import Derived.Test.YtgihkocnmgkihaaClo
namespace Go.Proofs.Ytgihkocnmgkihaa
open Go.HL
set_option linter.unusedSimpArgs false
set_option linter.unusedVariables false
set_option maxRecDepth 8000
/-- A reply. -/
structure RV where
  err : Int
  val : List UInt8
  ver : Int
  keys : List (List UInt8)
def RV.z : RV := ⟨0, [], 0, []⟩
def DR.rv (x : DR) : RV := ⟨x.err, x.val, x.ver, x.keys⟩
def RV.c (x : RV) (v : Go.Value) : List Go.Value := RegistryReply.c ⟨x.err, x.val, x.ver, v⟩
abbrev SSL := List (Int × (Int × RV))
/-- A machine: the registry, the sessions, how many deeds were done. -/
structure CS where
  l : PM
  ss : SSL
  cnt : Int
def CS.z : CS := ⟨[], [], 0⟩
def CS.get (s : CS) (k : Int) : Int × RV := (mget s.ss k).getD (0, RV.z)
def doC (s : CS) (d : TDeed) : RV × CS :=
  if goodD d = false then (⟨1, [], 0, []⟩, s)
  else if d.Session = 0 then ((doA s.l d).rv, ⟨(doA s.l d).l, s.ss, s.cnt + 1⟩)
  else if d.Number < (s.get d.Session).1 then (⟨9, [], 0, []⟩, s)
  else if (s.get d.Session).1 < d.Number then ((doA s.l d).rv, ⟨(doA s.l d).l, mput s.ss d.Session (d.Number, (doA s.l d).rv), s.cnt + 1⟩)
  else ((s.get d.Session).2, s)
def LV.f (x : LV) : Int × RV := (x.num, ⟨x.err, x.val, x.ver, x.keys⟩)
def fgt (sl : SM) : SSL := sl.map fun p => (p.1, p.2.f)
theorem mget_fgt (sl : SM) (k : Int) : mget (fgt sl) k = (mget sl k).map LV.f := by
  induction sl with
  | nil => rfl
  | cons p sl ih =>
    show mget ((p.1, p.2.f) :: fgt sl) k = _
    rw [mget_cons, mget_cons, ih]
    by_cases h : k = p.1 <;> simp [h]
theorem mput_fgt (sl : SM) (k : Int) (x : LV) : fgt (mput sl k x) = mput (fgt sl) k x.f := by
  induction sl with
  | nil => rw [mput_nil]; show _ = mput [] k x.f; rw [mput_nil]; rfl
  | cons p sl ih =>
    show _ = mput ((p.1, p.2.f) :: fgt sl) k x.f
    rw [mput_cons, mput_cons]
    by_cases h : k = p.1
    · simp only [if_pos h]; rfl
    · simp only [if_neg h]
      show (p.1, p.2.f) :: fgt (mput sl k x) = _
      rw [ih]
theorem lookS_f (sl : SM) (k : Int) : (lookS sl k).f = (mget (fgt sl) k).getD (0, RV.z) := by
  rw [mget_fgt]
  unfold lookS
  cases mget sl k <;> rfl
/-- Rows of keys, all that were laid. -/
abbrev GB := List (Go.Value × List (List UInt8))
def gL (g : GB) : List Ent := g.map fun p => rows strc p.1 9 1 p.2
def gE (g : GB) : Ent := bag (gL g)
theorem KR.of_bag {g : GB} {v : Go.Value} {k : List (List UInt8)} (hm : (v, k) ∈ g) {W : Go.World} {D : List Nat} {σ : List Ent} (hg : gE g ∈ σ) : ∀ w, H W D σ w → KR (gE g) v k := fun w hw => by
  have hh := hw.mem hg
  unfold gE at hh ⊢
  rw [bag_holds] at hh
  have hr : rows strc v 9 1 k ∈ gL g := List.mem_map.2 ⟨(v, k), hm, rfl⟩
  have hown := hh.1 _ hr
  have h1 : (v = .slice none 0 0 ∧ k = []) ∨ ∃ g cap, v = .slice (some ⟨g, 0, none⟩) k.length cap ∧ k.length ≤ cap ∧ cap ≤ Go.maxLen :=
    rowsForm (f := strc) (E := 9) (sz := 1) (W := w) (D := doms [rows strc v 9 1 k]) (List.Mem.head []) w ⟨fun e he => by
      obtain rfl : e = _ := by simpa using he
      exact hown, by
        have := hh.2
        obtain ⟨a, b, e⟩ := List.append_of_mem hr
        rw [e, doms_append, doms_cons, List.nodup_append, List.nodup_append] at this
        simpa [doms] using this.2.1.1, fun b hb => .inl hb, fun _ _ _ => rfl, Nat.le_refl _, rfl, rfl, rfl⟩
  rcases h1 with ⟨rfl, rfl⟩ | ⟨gg, cap, rfl, _, h2⟩
  · exact ⟨none, 0, 0, 0, rfl, Rd.nil⟩
  · have hR := Rd.rows (f := strc) (g := gg) (E := 9) (sz := 1) (cap := cap) (l := k) (fun _ => rfl) (by simp only [Go.maxLen] at h2; omega)
    exact ⟨some ⟨gg, 0, none⟩, cap, gg, 0, rfl, ⟨hR.length, hR.small, hR.addr, fun w2 hw2 => hR.reads w2 (((bag_holds _ _).1 hw2).1 _ hr)⟩⟩
/-- One more row is put to those that were laid. -/
theorem H.lay {W : Go.World} {D : List Nat} {σ : List Ent} {w : Go.World} {g : GB} {v : Go.Value} {k : List (List UInt8)} (h : H W D (rows strc v 9 1 k :: gE g :: σ) w) : H W D (gE ((v, k) :: g) :: σ) w := by
  have h1 : H W D (gE g :: (rows strc v 9 1 k :: σ)) w := h.perm (List.Perm.swap _ _ _)
  unfold gE at *
  have h2 := h1.unbag
  have h3 : H W D ((rows strc v 9 1 k :: gL g) ++ σ) w := h2.perm (by
    show (gL g ++ rows strc v 9 1 k :: σ).Perm ((rows strc v 9 1 k :: gL g) ++ σ)
    exact List.perm_middle)
  exact h3.toBag
def cmE (b rb rm sm : Nat) (l : PM) (sl : SM) (g : GB) (cnt : Int) : List Ent :=
  [cells b 96 (ClientMachine.c ⟨Ptr rb 0, .map (some sm), cnt⟩), cells rb 74 (RegistryRegistry.c ⟨.map (some rm)⟩), mE rm l, mS sm sl, gE g]
/-- How the sessions lie in memory. -/
structure HI (ss : SSL) (sl : SM) (g : GB) : Prop where
  fo : fgt sl = ss
  mem : ∀ k x, mget sl k = some x → (x.kv, x.keys) ∈ g ∧ (x.keys = [] → x.kv = .slice none 0 0)
theorem HI.zero : HI [] [] [] := ⟨rfl, fun k x h => by rw [mget_nil] at h; cases h⟩
theorem HI.put {ss : SSL} {sl : SM} {g : GB} (h : HI ss sl g) (k : Int) (x : LV) (h0 : x.keys = [] → x.kv = .slice none 0 0) : HI (mput ss k x.f) (mput sl k x) ((x.kv, x.keys) :: g) :=
  ⟨by rw [mput_fgt, h.fo], fun k2 x2 hx => by
    rw [mget_mput] at hx
    by_cases e : k2 = k
    · rw [if_pos e] at hx
      cases hx
      exact ⟨List.mem_cons_self, h0⟩
    · rw [if_neg e] at hx
      have := h.mem k2 x2 hx
      exact ⟨List.mem_cons_of_mem _ this.1, this.2⟩⟩
theorem HI.look {ss : SSL} {sl : SM} {g : GB} (h : HI ss sl g) (l : PM) (cnt : Int) (k : Int) : (lookS sl k).f = CS.get ⟨l, ss, cnt⟩ k := by
  rw [lookS_f, h.fo]; rfl
/-- What holds of a machine behind at most n deeds. -/
structure CI (n : Nat) (s : CS) : Prop where
  reg : RI n s.l
  nod : (s.ss.map (·.1)).Nodup
  len : s.ss.length ≤ n
  cnt : 0 ≤ s.cnt ∧ s.cnt ≤ n
  ses : ∀ k x, mget s.ss k = some x → 1 ≤ k ∧ k ≤ 1099511627776 ∧ 1 ≤ x.1 ∧ x.1 ≤ 1099511627776 ∧ x.2.keys.length ≤ n
theorem CI.zero : CI 0 CS.z := ⟨RI.zero, List.nodup_nil, Nat.le_refl _, ⟨Int.le_refl _, Int.le_refl _⟩, fun k x h => by rw [show CS.z.ss = [] from rfl, mget_nil] at h; cases h⟩
theorem CI.up {n : Nat} {s : CS} (h : CI n s) : CI (n + 1) s := ⟨h.reg.up, h.nod, by have := h.len; omega, by have := h.cnt; omega, fun k x hx => by have := h.ses k x hx; omega⟩
theorem doA_keys_len {n : Nat} {l : PM} (h : RI n l) (d : TDeed) : (doA l d).keys.length ≤ n := by
  unfold doA
  split
  · show (listL d.Key l).length ≤ n
    unfold listL
    rw [List.length_map]
    have := pairsL_len d.Key l
    have := h.len
    omega
  · exact Nat.zero_le _
theorem mput_lenG {α β : Type} [DecidableEq α] {l : List (α × β)} {k : α} {p : β} : (mput l k p).length ≤ l.length + 1 := by
  induction l with
  | nil => rw [mput_nil]; exact Nat.le_refl _
  | cons q l ih =>
    rw [mput_cons]
    split
    · simp
    · simp only [List.length_cons]; omega
theorem good_num {d : TDeed} (h : goodD d = true) : 0 ≤ d.Session ∧ d.Session ≤ 1099511627776 ∧ 0 ≤ d.Number ∧ d.Number ≤ 1099511627776 ∧ (d.Session = 0 ↔ d.Number = 0) := by
  have := (of_decide_eq_true h).1
  exact ⟨this.2.2.1, this.2.2.2.1, this.2.2.2.2.1, this.2.2.2.2.2.1, this.2.2.2.2.2.2.1⟩
theorem CI.do_ {n : Nat} {s : CS} (h : CI n s) (d : TDeed) : CI (n + 1) (doC s d).2 := by
  unfold doC
  split
  · exact h.up
  · rename_i hg
    have hg2 : goodD d = true := by simpa using hg
    have hn := good_num hg2
    split
    · exact ⟨h.reg.any d, h.nod, by have := h.len; show s.ss.length ≤ _; omega, by have := h.cnt; show 0 ≤ s.cnt + 1 ∧ s.cnt + 1 ≤ ((n + 1 : Nat) : Int); omega, fun k x hx => by have := h.ses k x hx; omega⟩
    · rename_i hs
      split
      · exact h.up
      · split
        · rename_i hlt
          refine ⟨h.reg.any d, mput_nodup h.nod, Nat.le_trans mput_lenG (by have := h.len; omega), by have := h.cnt; show 0 ≤ s.cnt + 1 ∧ s.cnt + 1 ≤ ((n + 1 : Nat) : Int); omega, fun k x hx => ?_⟩
          have hx2 : mget (mput s.ss d.Session (d.Number, (doA s.l d).rv)) k = some x := hx
          rw [mget_mput] at hx2
          by_cases e : k = d.Session
          · rw [if_pos e] at hx2
            cases hx2
            have := doA_keys_len h.reg d
            refine ⟨by omega, by omega, by show 1 ≤ d.Number; omega, by show d.Number ≤ _; omega, by show (doA s.l d).keys.length ≤ _; omega⟩
          · rw [if_neg e] at hx2
            have := h.ses k x hx2
            omega
        · exact h.up
end Go.Proofs.Ytgihkocnmgkihaa
