/-
  A seventeenth part of the heap logic: three effects that may come in any order; a contract's end with what is known there.
-/
import Derived.Test.YtgihkocnmgkihaaHeapJ
namespace Go.HL
open Go
section
variable {P : Program} {r : Option Nat} {W : World} {D : List Nat} {n : Fm} {env : Env} {σ : List Ent} {ops : Array Oper}
theorem WpA.e3 {M : Act → World → Prop} {σS σT : List Ent} {tl : List Nat} {fuel : Nat} {listed : Array Bool} {lv : Bool} {oi oj ok : Oper} (i j k : Nat) (hi : ops[i]? = some oi) (hj : ops[j]? = some oj) (hk : ops[k]? = some ok)
    (h1 : Op1 P r W D n oi env σ (fun env' σ' => (∀ w, H W D σ' w → Hold σS w) ∧ (∀ w, H W D σ' w → Hold σT w) ∧ WpA P r W D n ops M σS σT tl true fuel (listed.setIfInBounds i true) env' σ'))
    (h2 : Op1 P r W D n oj env σ (fun env' σ' => (∀ w, H W D σ' w → Hold σS w) ∧ (∀ w, H W D σ' w → Hold σT w) ∧ WpA P r W D n ops M σS σT tl true fuel (listed.setIfInBounds j true) env' σ'))
    (h3 : Op1 P r W D n ok env σ (fun env' σ' => (∀ w, H W D σ' w → Hold σS w) ∧ (∀ w, H W D σ' w → Hold σT w) ∧ WpA P r W D n ops M σS σT tl true fuel (listed.setIfInBounds k true) env' σ'))
    (hb : (Region.ready .any ops listed == [i, j, k] && ![i, j, k].isEmpty) = true := by kernel_rfl) (hgi : guardIs env ops oi.guard = some true := by exact rfl) (hgj : guardIs env ops oj.guard = some true := by exact rfl) (hgk : guardIs env ops ok.guard = some true := by exact rfl) :
    WpA P r W D n ops M σS σT tl lv (fuel + 1) listed env σ :=
  WpA.each [i, j, k] hb (by
    intro m hm
    rcases List.mem_cons.1 hm with rfl | hm
    · exact ⟨oi, hi, hgi, h1⟩
    · rcases List.mem_cons.1 hm with rfl | hm
      · exact ⟨oj, hj, hgj, h2⟩
      · obtain rfl : m = k := by simpa using hm
        exact ⟨ok, hk, hgk, h3⟩)
end
/-- A field of one cell of a struct that is a value. -/
theorem V.fld1 {P : Program} (tb : Tabs P) {n : Fm} {env : Env} {σ : List Ent} {dst : Nat} {ty : TypeId} {pos : String} {af : Array Edge} {gd : Option (Nat × Bool)} {s f off T : Nat} {x : Operand} {cs : List Value} {v : Value} (hx : ev env x = some (A cs)) (hf : fieldIs P s f off T = true)
    (hr : Reads P T off cs v) : Val P n env σ ⟨some dst, .field s x f, ty, pos, af, gd⟩ v := Val.of fun a w hF _ => by
  unfold fieldIs at hf
  split at hf
  · rename_i fs hu
    split at hf
    · rename_i fd hfd
      simp only [Bool.and_eq_true, beq_iff_eq] at hf
      obtain ⟨h2, h3⟩ := hf
      have hi : (Instr.field s (A cs) f).run P w = .ok v w := by
        unfold Instr.field
        simp only [Sem.run_bind, run_underlying hu, Result.andThen_ok, hfd, asAgg, Sem.run_pure, h2, h3, hr.part w]
      simp only [execOp, hF.eval hx, hi, Sem.run_bind, Result.andThen_ok, Sem.run_pure]
    · cases hf
  · cases hf
end Go.HL
