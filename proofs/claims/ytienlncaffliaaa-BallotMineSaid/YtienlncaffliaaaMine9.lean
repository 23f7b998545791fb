/-
  Layer 2: BallotMine's region in which two ballots are asked for, in whatever order.
-/
import Derived.Test.YtienlncaffliaaaBal3
namespace Go.HL
open Go
section
variable {P : Program} {r : Option Nat} {W : World} {D : List Nat} {n : Nat} {env env' : Env} {σ σ' ρ : List Ent}
theorem WpA.weak {ops : Array Oper} {M : Act → World → Prop} {σS : List Ent} {tl : List Nat} {lv : Bool} {fuel : Nat} {listed : Array Bool} (h : WpA P r W D n ops M σS tl lv fuel listed env' σ')
    (he : subEnv env env' := by (repeat (first | exact subEnv.nil | refine subEnv.cons rfl rfl ?_))) (hs : Sel σ σ' ρ := by (repeat (first | exact Sel.nil | exact Rem.here | apply Sel.cons | apply Rem.there))) : WpA P r W D n ops M σS tl lv fuel listed env σ := by
  unfold WpA at *
  exact fun a w hF hH hL => h a w (hF.sub he.get) (hH.sel hs) hL
theorem Out.weak {Q : Post} {e : Exit} (h : Out W D n Q e env' σ') (he : subEnv env env' := by (repeat (first | exact subEnv.nil | refine subEnv.cons rfl rfl ?_))) (hs : Sel σ σ' ρ := by (repeat (first | exact Sel.nil | exact Rem.here | apply Sel.cons | apply Rem.there))) : Out W D n Q e env σ := by
  unfold Out at *
  exact fun a w hF hH => h a w (hF.sub he.get) (hH.sel hs)
theorem all1 {p : Nat → Prop} {i : Nat} (h1 : p i) : ∀ k ∈ [i], p k := by simpa using h1
theorem all2 {p : Nat → Prop} {i j : Nat} (h1 : p i) (h2 : p j) : ∀ k ∈ [i, j], p k := by simpa using ⟨h1, h2⟩
theorem all3 {p : Nat → Prop} {i j k : Nat} (h1 : p i) (h2 : p j) (h3 : p k) : ∀ m ∈ [i, j, k], p m := by simpa using ⟨h1, h2, h3⟩
theorem all4 {p : Nat → Prop} {i j k l : Nat} (h1 : p i) (h2 : p j) (h3 : p k) (h4 : p l) : ∀ m ∈ [i, j, k, l], p m := by simpa using ⟨h1, h2, h3, h4⟩
def regOps (k : Nat) : Code → Option (Array Oper)
  | .region id ops _ => if Nat.beq id k then some ops else none
  | .seq a b => match regOps k a with
    | some x => some x
    | none => regOps k b
  | .cond _ a b => match regOps k a with
    | some x => some x
    | none => regOps k b
  | .block _ c => regOps k c
  | .loop c => regOps k c
  | .scope c => regOps k c
  | _ => none
end
end Go.HL
namespace Go.Proofs.Ytienlncaffliaaa
open Go.HL
set_option linter.unusedSimpArgs false
set_option linter.unusedVariables false
set_option maxRecDepth 8000
set_option maxHeartbeats 1600000
abbrev mineE (a b n k : Int) (x y : TBallot) (p9 p10 : Nat) : Env := [(44, I a), (45, A x.c), (48, I b), (49, A y.c), (0, I a), (1, I b), (3, I n), (11, I k), (9, Ptr p9 0), (10, Ptr p10 0)]
abbrev mineS (x y : TBallot) (p9 p10 : Nat) : List Ent := [cells p9 37 x.c, cells p10 37 y.c]
theorem mine9 {W : Go.World} {D : List Nat} {Q : Go.Exit → Go.Act → Go.World → Prop} (a b n k : Int) (x y : TBallot) (p9 p10 : Nat) (hx : x.Round ≤ 4611686018427387904) (hy : y.Round ≤ 4611686018427387904)
    (hM : ∀ p q, Out W D Try.f7.ntmps Q .normal ([(12, Ptr p 0), (13, Ptr q 0)] ++ mineE a b n k x y p9 p10) ([cells p 37 (nextB a [x]).c, cells q 37 (nextB b [y]).c] ++ mineS x y p9 p10)) :
    WpA Try.prog none W D Try.f7.ntmps ((Try.f7.body.bind (regOps 9)).getD #[]) (Q .normal) (mineS x y p9 p10) [] true 8 #[true, true, false, false, true, true, false, false, false, false, false, false] ([] ++ mineE a b n k x y p9 p10) ([] ++ mineS x y p9 p10) := by
  have L29 : ∀ p q g h : Nat, WpA Try.prog none W D Try.f7.ntmps ((Try.f7.body.bind (regOps 9)).getD #[]) (Q .normal) (mineS x y p9 p10) [] true 0 #[true, true, true, true, true, true, true, true, true, true, true, true] ([(12, Ptr p 0), (46, .slice (some ⟨g, 0, none⟩) 1 1), (47, A (nextB a [x]).c), (13, Ptr q 0), (50, .slice (some ⟨h, 0, none⟩) 1 1), (51, A (nextB b [y]).c)] ++ mineE a b n k x y p9 p10) ([cells p 37 (nextB a [x]).c, row (.slice (some ⟨g, 0, none⟩) 1 1) 37 2 1 x.c, cells q 37 (nextB b [y]).c, row (.slice (some ⟨h, 0, none⟩) 1 1) 37 2 1 y.c] ++ mineS x y p9 p10) := by
    intro p q g h
    exact WpA.ou (hM p q).weak
  have L28 : ∀ p q g h : Nat, WpA Try.prog none W D Try.f7.ntmps ((Try.f7.body.bind (regOps 9)).getD #[]) (Q .normal) (mineS x y p9 p10) [] true 1 #[true, true, true, true, true, true, true, true, true, true, true, false] ([(12, Ptr p 0), (46, .slice (some ⟨g, 0, none⟩) 1 1), (47, A (nextB a [x]).c), (13, Ptr q 0), (50, .slice (some ⟨h, 0, none⟩) 1 1), (51, A (nextB b [y]).c)] ++ mineE a b n k x y p9 p10) ([cells p 37 (nextB a [x]).c, row (.slice (some ⟨g, 0, none⟩) 1 1) 37 2 1 x.c, cells q 37 TBallot.z.c, row (.slice (some ⟨h, 0, none⟩) 1 1) 37 2 1 y.c] ++ mineS x y p9 p10) := by
    intro p q g h
    refine WpA.each [11] (by kernel_rfl) ?_
    refine all1 ?_
    · refine ⟨_, rfl, rfl, O.stA tb ?_⟩
      exact ⟨holdT, (L29 p q g h).weak⟩
  have L27 : ∀ p q g h : Nat, WpA Try.prog none W D Try.f7.ntmps ((Try.f7.body.bind (regOps 9)).getD #[]) (Q .normal) (mineS x y p9 p10) [] true 2 #[true, true, true, true, true, true, true, true, true, true, false, false] ([(12, Ptr p 0), (46, .slice (some ⟨g, 0, none⟩) 1 1), (47, A (nextB a [x]).c), (13, Ptr q 0), (50, .slice (some ⟨h, 0, none⟩) 1 1), (51, A (nextB b [y]).c)] ++ mineE a b n k x y p9 p10) ([cells p 37 TBallot.z.c, row (.slice (some ⟨g, 0, none⟩) 1 1) 37 2 1 x.c, cells q 37 TBallot.z.c, row (.slice (some ⟨h, 0, none⟩) 1 1) 37 2 1 y.c] ++ mineS x y p9 p10) := by
    intro p q g h
    refine WpA.each [10] (by kernel_rfl) ?_
    refine all1 ?_
    · refine ⟨_, rfl, rfl, O.stA tb ?_⟩
      exact ⟨holdT, (L28 p q g h).weak⟩
  have L24 : ∀ p q g h : Nat, WpA Try.prog none W D Try.f7.ntmps ((Try.f7.body.bind (regOps 9)).getD #[]) (Q .normal) (mineS x y p9 p10) [] true 3 #[true, true, true, true, true, true, true, true, true, false, false, false] ([(12, Ptr p 0), (46, .slice (some ⟨g, 0, none⟩) 1 1), (47, A (nextB a [x]).c), (50, .slice (some ⟨h, 0, none⟩) 1 1), (51, A (nextB b [y]).c)] ++ mineE a b n k x y p9 p10) ([cells p 37 TBallot.z.c, row (.slice (some ⟨g, 0, none⟩) 1 1) 37 2 1 x.c, row (.slice (some ⟨h, 0, none⟩) 1 1) 37 2 1 y.c] ++ mineS x y p9 p10) := by
    intro p q g h
    refine WpA.each [9] (by kernel_rfl) ?_
    refine all1 ?_
    · refine ⟨_, rfl, rfl, O.al tb (fun z => ?_)⟩
      exact ⟨holdT, (L27 p z g h).weak⟩
  have L25 : ∀ p q g h : Nat, WpA Try.prog none W D Try.f7.ntmps ((Try.f7.body.bind (regOps 9)).getD #[]) (Q .normal) (mineS x y p9 p10) [] true 3 #[true, true, true, true, true, true, true, true, false, true, false, false] ([(46, .slice (some ⟨g, 0, none⟩) 1 1), (47, A (nextB a [x]).c), (13, Ptr q 0), (50, .slice (some ⟨h, 0, none⟩) 1 1), (51, A (nextB b [y]).c)] ++ mineE a b n k x y p9 p10) ([row (.slice (some ⟨g, 0, none⟩) 1 1) 37 2 1 x.c, cells q 37 TBallot.z.c, row (.slice (some ⟨h, 0, none⟩) 1 1) 37 2 1 y.c] ++ mineS x y p9 p10) := by
    intro p q g h
    refine WpA.each [8] (by kernel_rfl) ?_
    refine all1 ?_
    · refine ⟨_, rfl, rfl, O.al tb (fun z => ?_)⟩
      exact ⟨holdT, (L27 z q g h).weak⟩
  have L26 : ∀ p q g h : Nat, WpA Try.prog none W D Try.f7.ntmps ((Try.f7.body.bind (regOps 9)).getD #[]) (Q .normal) (mineS x y p9 p10) [] true 3 #[true, true, true, true, true, true, true, false, true, true, false, false] ([(12, Ptr p 0), (46, .slice (some ⟨g, 0, none⟩) 1 1), (47, A (nextB a [x]).c), (13, Ptr q 0), (50, .slice (some ⟨h, 0, none⟩) 1 1)] ++ mineE a b n k x y p9 p10) ([cells p 37 TBallot.z.c, row (.slice (some ⟨g, 0, none⟩) 1 1) 37 2 1 x.c, cells q 37 TBallot.z.c, row (.slice (some ⟨h, 0, none⟩) 1 1) 37 2 1 y.c] ++ mineS x y p9 p10) := by
    intro p q g h
    refine WpA.each [7] (by kernel_rfl) ?_
    refine all1 ?_
    · refine ⟨_, rfl, rfl, Op1.callT rfl (next_lit y h b hy) (by (repeat (first | exact Sel.nil | exact Rem.here | apply Sel.cons | apply Rem.there))) ?_⟩
      rintro v σ' ⟨rfl, rfl⟩
      refine incat ?_
      exact ⟨holdT, (L27 p q g h).weak⟩
  have L19 : ∀ p q g h : Nat, WpA Try.prog none W D Try.f7.ntmps ((Try.f7.body.bind (regOps 9)).getD #[]) (Q .normal) (mineS x y p9 p10) [] true 4 #[true, true, true, true, true, true, true, true, false, false, false, false] ([(46, .slice (some ⟨g, 0, none⟩) 1 1), (47, A (nextB a [x]).c), (50, .slice (some ⟨h, 0, none⟩) 1 1), (51, A (nextB b [y]).c)] ++ mineE a b n k x y p9 p10) ([row (.slice (some ⟨g, 0, none⟩) 1 1) 37 2 1 x.c, row (.slice (some ⟨h, 0, none⟩) 1 1) 37 2 1 y.c] ++ mineS x y p9 p10) := by
    intro p q g h
    refine WpA.each [8, 9] (by kernel_rfl) ?_
    refine all2 ?_ ?_
    · refine ⟨_, rfl, rfl, O.al tb (fun z => ?_)⟩
      exact ⟨holdT, (L24 z q g h).weak⟩
    · refine ⟨_, rfl, rfl, O.al tb (fun z => ?_)⟩
      exact ⟨holdT, (L25 p z g h).weak⟩
  have L20 : ∀ p q g h : Nat, WpA Try.prog none W D Try.f7.ntmps ((Try.f7.body.bind (regOps 9)).getD #[]) (Q .normal) (mineS x y p9 p10) [] true 4 #[true, true, true, true, true, true, true, false, true, false, false, false] ([(12, Ptr p 0), (46, .slice (some ⟨g, 0, none⟩) 1 1), (47, A (nextB a [x]).c), (50, .slice (some ⟨h, 0, none⟩) 1 1)] ++ mineE a b n k x y p9 p10) ([cells p 37 TBallot.z.c, row (.slice (some ⟨g, 0, none⟩) 1 1) 37 2 1 x.c, row (.slice (some ⟨h, 0, none⟩) 1 1) 37 2 1 y.c] ++ mineS x y p9 p10) := by
    intro p q g h
    refine WpA.each [7, 9] (by kernel_rfl) ?_
    refine all2 ?_ ?_
    · refine ⟨_, rfl, rfl, Op1.callT rfl (next_lit y h b hy) (by (repeat (first | exact Sel.nil | exact Rem.here | apply Sel.cons | apply Rem.there))) ?_⟩
      rintro v σ' ⟨rfl, rfl⟩
      refine incat ?_
      exact ⟨holdT, (L24 p q g h).weak⟩
    · refine ⟨_, rfl, rfl, O.al tb (fun z => ?_)⟩
      exact ⟨holdT, (L26 p z g h).weak⟩
  have L21 : ∀ p q g h : Nat, WpA Try.prog none W D Try.f7.ntmps ((Try.f7.body.bind (regOps 9)).getD #[]) (Q .normal) (mineS x y p9 p10) [] true 4 #[true, true, true, true, true, true, true, false, false, true, false, false] ([(46, .slice (some ⟨g, 0, none⟩) 1 1), (47, A (nextB a [x]).c), (13, Ptr q 0), (50, .slice (some ⟨h, 0, none⟩) 1 1)] ++ mineE a b n k x y p9 p10) ([row (.slice (some ⟨g, 0, none⟩) 1 1) 37 2 1 x.c, cells q 37 TBallot.z.c, row (.slice (some ⟨h, 0, none⟩) 1 1) 37 2 1 y.c] ++ mineS x y p9 p10) := by
    intro p q g h
    refine WpA.each [7, 8] (by kernel_rfl) ?_
    refine all2 ?_ ?_
    · refine ⟨_, rfl, rfl, Op1.callT rfl (next_lit y h b hy) (by (repeat (first | exact Sel.nil | exact Rem.here | apply Sel.cons | apply Rem.there))) ?_⟩
      rintro v σ' ⟨rfl, rfl⟩
      refine incat ?_
      exact ⟨holdT, (L25 p q g h).weak⟩
    · refine ⟨_, rfl, rfl, O.al tb (fun z => ?_)⟩
      exact ⟨holdT, (L26 z q g h).weak⟩
  have L22 : ∀ p q g h : Nat, WpA Try.prog none W D Try.f7.ntmps ((Try.f7.body.bind (regOps 9)).getD #[]) (Q .normal) (mineS x y p9 p10) [] true 4 #[true, true, true, true, true, true, false, false, true, true, false, false] ([(12, Ptr p 0), (46, .slice (some ⟨g, 0, none⟩) 1 1), (47, A (nextB a [x]).c), (13, Ptr q 0)] ++ mineE a b n k x y p9 p10) ([cells p 37 TBallot.z.c, row (.slice (some ⟨g, 0, none⟩) 1 1) 37 2 1 x.c, cells q 37 TBallot.z.c] ++ mineS x y p9 p10) := by
    intro p q g h
    refine WpA.each [6] (by kernel_rfl) ?_
    refine all1 ?_
    · refine ⟨_, rfl, rfl, O.lit tb (fun z => ?_)⟩
      exact ⟨holdT, (L26 p q g z).weak⟩
  have L23 : ∀ p q g h : Nat, WpA Try.prog none W D Try.f7.ntmps ((Try.f7.body.bind (regOps 9)).getD #[]) (Q .normal) (mineS x y p9 p10) [] true 4 #[true, true, true, false, true, true, true, false, true, true, false, false] ([(12, Ptr p 0), (46, .slice (some ⟨g, 0, none⟩) 1 1), (13, Ptr q 0), (50, .slice (some ⟨h, 0, none⟩) 1 1)] ++ mineE a b n k x y p9 p10) ([cells p 37 TBallot.z.c, row (.slice (some ⟨g, 0, none⟩) 1 1) 37 2 1 x.c, cells q 37 TBallot.z.c, row (.slice (some ⟨h, 0, none⟩) 1 1) 37 2 1 y.c] ++ mineS x y p9 p10) := by
    intro p q g h
    refine WpA.each [3] (by kernel_rfl) ?_
    refine all1 ?_
    · refine ⟨_, rfl, rfl, Op1.callT rfl (next_lit x g a hx) (by (repeat (first | exact Sel.nil | exact Rem.here | apply Sel.cons | apply Rem.there))) ?_⟩
      rintro v σ' ⟨rfl, rfl⟩
      refine incat ?_
      exact ⟨holdT, (L26 p q g h).weak⟩
  have L12 : ∀ p q g h : Nat, WpA Try.prog none W D Try.f7.ntmps ((Try.f7.body.bind (regOps 9)).getD #[]) (Q .normal) (mineS x y p9 p10) [] true 5 #[true, true, true, true, true, true, true, false, false, false, false, false] ([(46, .slice (some ⟨g, 0, none⟩) 1 1), (47, A (nextB a [x]).c), (50, .slice (some ⟨h, 0, none⟩) 1 1)] ++ mineE a b n k x y p9 p10) ([row (.slice (some ⟨g, 0, none⟩) 1 1) 37 2 1 x.c, row (.slice (some ⟨h, 0, none⟩) 1 1) 37 2 1 y.c] ++ mineS x y p9 p10) := by
    intro p q g h
    refine WpA.each [7, 8, 9] (by kernel_rfl) ?_
    refine all3 ?_ ?_ ?_
    · refine ⟨_, rfl, rfl, Op1.callT rfl (next_lit y h b hy) (by (repeat (first | exact Sel.nil | exact Rem.here | apply Sel.cons | apply Rem.there))) ?_⟩
      rintro v σ' ⟨rfl, rfl⟩
      refine incat ?_
      exact ⟨holdT, (L19 p q g h).weak⟩
    · refine ⟨_, rfl, rfl, O.al tb (fun z => ?_)⟩
      exact ⟨holdT, (L20 z q g h).weak⟩
    · refine ⟨_, rfl, rfl, O.al tb (fun z => ?_)⟩
      exact ⟨holdT, (L21 p z g h).weak⟩
  have L13 : ∀ p q g h : Nat, WpA Try.prog none W D Try.f7.ntmps ((Try.f7.body.bind (regOps 9)).getD #[]) (Q .normal) (mineS x y p9 p10) [] true 5 #[true, true, true, true, true, true, false, false, true, false, false, false] ([(12, Ptr p 0), (46, .slice (some ⟨g, 0, none⟩) 1 1), (47, A (nextB a [x]).c)] ++ mineE a b n k x y p9 p10) ([cells p 37 TBallot.z.c, row (.slice (some ⟨g, 0, none⟩) 1 1) 37 2 1 x.c] ++ mineS x y p9 p10) := by
    intro p q g h
    refine WpA.each [6, 9] (by kernel_rfl) ?_
    refine all2 ?_ ?_
    · refine ⟨_, rfl, rfl, O.lit tb (fun z => ?_)⟩
      exact ⟨holdT, (L20 p q g z).weak⟩
    · refine ⟨_, rfl, rfl, O.al tb (fun z => ?_)⟩
      exact ⟨holdT, (L22 p z g h).weak⟩
  have L14 : ∀ p q g h : Nat, WpA Try.prog none W D Try.f7.ntmps ((Try.f7.body.bind (regOps 9)).getD #[]) (Q .normal) (mineS x y p9 p10) [] true 5 #[true, true, true, true, true, true, false, false, false, true, false, false] ([(46, .slice (some ⟨g, 0, none⟩) 1 1), (47, A (nextB a [x]).c), (13, Ptr q 0)] ++ mineE a b n k x y p9 p10) ([row (.slice (some ⟨g, 0, none⟩) 1 1) 37 2 1 x.c, cells q 37 TBallot.z.c] ++ mineS x y p9 p10) := by
    intro p q g h
    refine WpA.each [6, 8] (by kernel_rfl) ?_
    refine all2 ?_ ?_
    · refine ⟨_, rfl, rfl, O.lit tb (fun z => ?_)⟩
      exact ⟨holdT, (L21 p q g z).weak⟩
    · refine ⟨_, rfl, rfl, O.al tb (fun z => ?_)⟩
      exact ⟨holdT, (L22 z q g h).weak⟩
  have L15 : ∀ p q g h : Nat, WpA Try.prog none W D Try.f7.ntmps ((Try.f7.body.bind (regOps 9)).getD #[]) (Q .normal) (mineS x y p9 p10) [] true 5 #[true, true, true, false, true, true, true, false, true, false, false, false] ([(12, Ptr p 0), (46, .slice (some ⟨g, 0, none⟩) 1 1), (50, .slice (some ⟨h, 0, none⟩) 1 1)] ++ mineE a b n k x y p9 p10) ([cells p 37 TBallot.z.c, row (.slice (some ⟨g, 0, none⟩) 1 1) 37 2 1 x.c, row (.slice (some ⟨h, 0, none⟩) 1 1) 37 2 1 y.c] ++ mineS x y p9 p10) := by
    intro p q g h
    refine WpA.each [3, 9] (by kernel_rfl) ?_
    refine all2 ?_ ?_
    · refine ⟨_, rfl, rfl, Op1.callT rfl (next_lit x g a hx) (by (repeat (first | exact Sel.nil | exact Rem.here | apply Sel.cons | apply Rem.there))) ?_⟩
      rintro v σ' ⟨rfl, rfl⟩
      refine incat ?_
      exact ⟨holdT, (L20 p q g h).weak⟩
    · refine ⟨_, rfl, rfl, O.al tb (fun z => ?_)⟩
      exact ⟨holdT, (L23 p z g h).weak⟩
  have L16 : ∀ p q g h : Nat, WpA Try.prog none W D Try.f7.ntmps ((Try.f7.body.bind (regOps 9)).getD #[]) (Q .normal) (mineS x y p9 p10) [] true 5 #[true, true, true, false, true, true, true, false, false, true, false, false] ([(46, .slice (some ⟨g, 0, none⟩) 1 1), (13, Ptr q 0), (50, .slice (some ⟨h, 0, none⟩) 1 1)] ++ mineE a b n k x y p9 p10) ([row (.slice (some ⟨g, 0, none⟩) 1 1) 37 2 1 x.c, cells q 37 TBallot.z.c, row (.slice (some ⟨h, 0, none⟩) 1 1) 37 2 1 y.c] ++ mineS x y p9 p10) := by
    intro p q g h
    refine WpA.each [3, 8] (by kernel_rfl) ?_
    refine all2 ?_ ?_
    · refine ⟨_, rfl, rfl, Op1.callT rfl (next_lit x g a hx) (by (repeat (first | exact Sel.nil | exact Rem.here | apply Sel.cons | apply Rem.there))) ?_⟩
      rintro v σ' ⟨rfl, rfl⟩
      refine incat ?_
      exact ⟨holdT, (L21 p q g h).weak⟩
    · refine ⟨_, rfl, rfl, O.al tb (fun z => ?_)⟩
      exact ⟨holdT, (L23 z q g h).weak⟩
  have L17 : ∀ p q g h : Nat, WpA Try.prog none W D Try.f7.ntmps ((Try.f7.body.bind (regOps 9)).getD #[]) (Q .normal) (mineS x y p9 p10) [] true 5 #[true, true, true, false, true, true, false, false, true, true, false, false] ([(12, Ptr p 0), (46, .slice (some ⟨g, 0, none⟩) 1 1), (13, Ptr q 0)] ++ mineE a b n k x y p9 p10) ([cells p 37 TBallot.z.c, row (.slice (some ⟨g, 0, none⟩) 1 1) 37 2 1 x.c, cells q 37 TBallot.z.c] ++ mineS x y p9 p10) := by
    intro p q g h
    refine WpA.each [3, 6] (by kernel_rfl) ?_
    refine all2 ?_ ?_
    · refine ⟨_, rfl, rfl, Op1.callT rfl (next_lit x g a hx) (by (repeat (first | exact Sel.nil | exact Rem.here | apply Sel.cons | apply Rem.there))) ?_⟩
      rintro v σ' ⟨rfl, rfl⟩
      refine incat ?_
      exact ⟨holdT, (L22 p q g h).weak⟩
    · refine ⟨_, rfl, rfl, O.lit tb (fun z => ?_)⟩
      exact ⟨holdT, (L23 p q g z).weak⟩
  have L18 : ∀ p q g h : Nat, WpA Try.prog none W D Try.f7.ntmps ((Try.f7.body.bind (regOps 9)).getD #[]) (Q .normal) (mineS x y p9 p10) [] true 5 #[true, true, false, false, true, true, true, false, true, true, false, false] ([(12, Ptr p 0), (13, Ptr q 0), (50, .slice (some ⟨h, 0, none⟩) 1 1)] ++ mineE a b n k x y p9 p10) ([cells p 37 TBallot.z.c, cells q 37 TBallot.z.c, row (.slice (some ⟨h, 0, none⟩) 1 1) 37 2 1 y.c] ++ mineS x y p9 p10) := by
    intro p q g h
    refine WpA.each [2] (by kernel_rfl) ?_
    refine all1 ?_
    · refine ⟨_, rfl, rfl, O.lit tb (fun z => ?_)⟩
      exact ⟨holdT, (L23 p q z h).weak⟩
  have L5 : ∀ p q g h : Nat, WpA Try.prog none W D Try.f7.ntmps ((Try.f7.body.bind (regOps 9)).getD #[]) (Q .normal) (mineS x y p9 p10) [] true 6 #[true, true, true, true, true, true, false, false, false, false, false, false] ([(46, .slice (some ⟨g, 0, none⟩) 1 1), (47, A (nextB a [x]).c)] ++ mineE a b n k x y p9 p10) ([row (.slice (some ⟨g, 0, none⟩) 1 1) 37 2 1 x.c] ++ mineS x y p9 p10) := by
    intro p q g h
    refine WpA.each [6, 8, 9] (by kernel_rfl) ?_
    refine all3 ?_ ?_ ?_
    · refine ⟨_, rfl, rfl, O.lit tb (fun z => ?_)⟩
      exact ⟨holdT, (L12 p q g z).weak⟩
    · refine ⟨_, rfl, rfl, O.al tb (fun z => ?_)⟩
      exact ⟨holdT, (L13 z q g h).weak⟩
    · refine ⟨_, rfl, rfl, O.al tb (fun z => ?_)⟩
      exact ⟨holdT, (L14 p z g h).weak⟩
  have L6 : ∀ p q g h : Nat, WpA Try.prog none W D Try.f7.ntmps ((Try.f7.body.bind (regOps 9)).getD #[]) (Q .normal) (mineS x y p9 p10) [] true 6 #[true, true, true, false, true, true, true, false, false, false, false, false] ([(46, .slice (some ⟨g, 0, none⟩) 1 1), (50, .slice (some ⟨h, 0, none⟩) 1 1)] ++ mineE a b n k x y p9 p10) ([row (.slice (some ⟨g, 0, none⟩) 1 1) 37 2 1 x.c, row (.slice (some ⟨h, 0, none⟩) 1 1) 37 2 1 y.c] ++ mineS x y p9 p10) := by
    intro p q g h
    refine WpA.each [3, 8, 9] (by kernel_rfl) ?_
    refine all3 ?_ ?_ ?_
    · refine ⟨_, rfl, rfl, Op1.callT rfl (next_lit x g a hx) (by (repeat (first | exact Sel.nil | exact Rem.here | apply Sel.cons | apply Rem.there))) ?_⟩
      rintro v σ' ⟨rfl, rfl⟩
      refine incat ?_
      exact ⟨holdT, (L12 p q g h).weak⟩
    · refine ⟨_, rfl, rfl, O.al tb (fun z => ?_)⟩
      exact ⟨holdT, (L15 z q g h).weak⟩
    · refine ⟨_, rfl, rfl, O.al tb (fun z => ?_)⟩
      exact ⟨holdT, (L16 p z g h).weak⟩
  have L7 : ∀ p q g h : Nat, WpA Try.prog none W D Try.f7.ntmps ((Try.f7.body.bind (regOps 9)).getD #[]) (Q .normal) (mineS x y p9 p10) [] true 6 #[true, true, true, false, true, true, false, false, true, false, false, false] ([(12, Ptr p 0), (46, .slice (some ⟨g, 0, none⟩) 1 1)] ++ mineE a b n k x y p9 p10) ([cells p 37 TBallot.z.c, row (.slice (some ⟨g, 0, none⟩) 1 1) 37 2 1 x.c] ++ mineS x y p9 p10) := by
    intro p q g h
    refine WpA.each [3, 6, 9] (by kernel_rfl) ?_
    refine all3 ?_ ?_ ?_
    · refine ⟨_, rfl, rfl, Op1.callT rfl (next_lit x g a hx) (by (repeat (first | exact Sel.nil | exact Rem.here | apply Sel.cons | apply Rem.there))) ?_⟩
      rintro v σ' ⟨rfl, rfl⟩
      refine incat ?_
      exact ⟨holdT, (L13 p q g h).weak⟩
    · refine ⟨_, rfl, rfl, O.lit tb (fun z => ?_)⟩
      exact ⟨holdT, (L15 p q g z).weak⟩
    · refine ⟨_, rfl, rfl, O.al tb (fun z => ?_)⟩
      exact ⟨holdT, (L17 p z g h).weak⟩
  have L8 : ∀ p q g h : Nat, WpA Try.prog none W D Try.f7.ntmps ((Try.f7.body.bind (regOps 9)).getD #[]) (Q .normal) (mineS x y p9 p10) [] true 6 #[true, true, true, false, true, true, false, false, false, true, false, false] ([(46, .slice (some ⟨g, 0, none⟩) 1 1), (13, Ptr q 0)] ++ mineE a b n k x y p9 p10) ([row (.slice (some ⟨g, 0, none⟩) 1 1) 37 2 1 x.c, cells q 37 TBallot.z.c] ++ mineS x y p9 p10) := by
    intro p q g h
    refine WpA.each [3, 6, 8] (by kernel_rfl) ?_
    refine all3 ?_ ?_ ?_
    · refine ⟨_, rfl, rfl, Op1.callT rfl (next_lit x g a hx) (by (repeat (first | exact Sel.nil | exact Rem.here | apply Sel.cons | apply Rem.there))) ?_⟩
      rintro v σ' ⟨rfl, rfl⟩
      refine incat ?_
      exact ⟨holdT, (L14 p q g h).weak⟩
    · refine ⟨_, rfl, rfl, O.lit tb (fun z => ?_)⟩
      exact ⟨holdT, (L16 p q g z).weak⟩
    · refine ⟨_, rfl, rfl, O.al tb (fun z => ?_)⟩
      exact ⟨holdT, (L17 z q g h).weak⟩
  have L9 : ∀ p q g h : Nat, WpA Try.prog none W D Try.f7.ntmps ((Try.f7.body.bind (regOps 9)).getD #[]) (Q .normal) (mineS x y p9 p10) [] true 6 #[true, true, false, false, true, true, true, false, true, false, false, false] ([(12, Ptr p 0), (50, .slice (some ⟨h, 0, none⟩) 1 1)] ++ mineE a b n k x y p9 p10) ([cells p 37 TBallot.z.c, row (.slice (some ⟨h, 0, none⟩) 1 1) 37 2 1 y.c] ++ mineS x y p9 p10) := by
    intro p q g h
    refine WpA.each [2, 9] (by kernel_rfl) ?_
    refine all2 ?_ ?_
    · refine ⟨_, rfl, rfl, O.lit tb (fun z => ?_)⟩
      exact ⟨holdT, (L15 p q z h).weak⟩
    · refine ⟨_, rfl, rfl, O.al tb (fun z => ?_)⟩
      exact ⟨holdT, (L18 p z g h).weak⟩
  have L10 : ∀ p q g h : Nat, WpA Try.prog none W D Try.f7.ntmps ((Try.f7.body.bind (regOps 9)).getD #[]) (Q .normal) (mineS x y p9 p10) [] true 6 #[true, true, false, false, true, true, true, false, false, true, false, false] ([(13, Ptr q 0), (50, .slice (some ⟨h, 0, none⟩) 1 1)] ++ mineE a b n k x y p9 p10) ([cells q 37 TBallot.z.c, row (.slice (some ⟨h, 0, none⟩) 1 1) 37 2 1 y.c] ++ mineS x y p9 p10) := by
    intro p q g h
    refine WpA.each [2, 8] (by kernel_rfl) ?_
    refine all2 ?_ ?_
    · refine ⟨_, rfl, rfl, O.lit tb (fun z => ?_)⟩
      exact ⟨holdT, (L16 p q z h).weak⟩
    · refine ⟨_, rfl, rfl, O.al tb (fun z => ?_)⟩
      exact ⟨holdT, (L18 z q g h).weak⟩
  have L11 : ∀ p q g h : Nat, WpA Try.prog none W D Try.f7.ntmps ((Try.f7.body.bind (regOps 9)).getD #[]) (Q .normal) (mineS x y p9 p10) [] true 6 #[true, true, false, false, true, true, false, false, true, true, false, false] ([(12, Ptr p 0), (13, Ptr q 0)] ++ mineE a b n k x y p9 p10) ([cells p 37 TBallot.z.c, cells q 37 TBallot.z.c] ++ mineS x y p9 p10) := by
    intro p q g h
    refine WpA.each [2, 6] (by kernel_rfl) ?_
    refine all2 ?_ ?_
    · refine ⟨_, rfl, rfl, O.lit tb (fun z => ?_)⟩
      exact ⟨holdT, (L17 p q z h).weak⟩
    · refine ⟨_, rfl, rfl, O.lit tb (fun z => ?_)⟩
      exact ⟨holdT, (L18 p q g z).weak⟩
  have L1 : ∀ p q g h : Nat, WpA Try.prog none W D Try.f7.ntmps ((Try.f7.body.bind (regOps 9)).getD #[]) (Q .normal) (mineS x y p9 p10) [] true 7 #[true, true, true, false, true, true, false, false, false, false, false, false] ([(46, .slice (some ⟨g, 0, none⟩) 1 1)] ++ mineE a b n k x y p9 p10) ([row (.slice (some ⟨g, 0, none⟩) 1 1) 37 2 1 x.c] ++ mineS x y p9 p10) := by
    intro p q g h
    refine WpA.each [3, 6, 8, 9] (by kernel_rfl) ?_
    refine all4 ?_ ?_ ?_ ?_
    · refine ⟨_, rfl, rfl, Op1.callT rfl (next_lit x g a hx) (by (repeat (first | exact Sel.nil | exact Rem.here | apply Sel.cons | apply Rem.there))) ?_⟩
      rintro v σ' ⟨rfl, rfl⟩
      refine incat ?_
      exact ⟨holdT, (L5 p q g h).weak⟩
    · refine ⟨_, rfl, rfl, O.lit tb (fun z => ?_)⟩
      exact ⟨holdT, (L6 p q g z).weak⟩
    · refine ⟨_, rfl, rfl, O.al tb (fun z => ?_)⟩
      exact ⟨holdT, (L7 z q g h).weak⟩
    · refine ⟨_, rfl, rfl, O.al tb (fun z => ?_)⟩
      exact ⟨holdT, (L8 p z g h).weak⟩
  have L2 : ∀ p q g h : Nat, WpA Try.prog none W D Try.f7.ntmps ((Try.f7.body.bind (regOps 9)).getD #[]) (Q .normal) (mineS x y p9 p10) [] true 7 #[true, true, false, false, true, true, true, false, false, false, false, false] ([(50, .slice (some ⟨h, 0, none⟩) 1 1)] ++ mineE a b n k x y p9 p10) ([row (.slice (some ⟨h, 0, none⟩) 1 1) 37 2 1 y.c] ++ mineS x y p9 p10) := by
    intro p q g h
    refine WpA.each [2, 8, 9] (by kernel_rfl) ?_
    refine all3 ?_ ?_ ?_
    · refine ⟨_, rfl, rfl, O.lit tb (fun z => ?_)⟩
      exact ⟨holdT, (L6 p q z h).weak⟩
    · refine ⟨_, rfl, rfl, O.al tb (fun z => ?_)⟩
      exact ⟨holdT, (L9 z q g h).weak⟩
    · refine ⟨_, rfl, rfl, O.al tb (fun z => ?_)⟩
      exact ⟨holdT, (L10 p z g h).weak⟩
  have L3 : ∀ p q g h : Nat, WpA Try.prog none W D Try.f7.ntmps ((Try.f7.body.bind (regOps 9)).getD #[]) (Q .normal) (mineS x y p9 p10) [] true 7 #[true, true, false, false, true, true, false, false, true, false, false, false] ([(12, Ptr p 0)] ++ mineE a b n k x y p9 p10) ([cells p 37 TBallot.z.c] ++ mineS x y p9 p10) := by
    intro p q g h
    refine WpA.each [2, 6, 9] (by kernel_rfl) ?_
    refine all3 ?_ ?_ ?_
    · refine ⟨_, rfl, rfl, O.lit tb (fun z => ?_)⟩
      exact ⟨holdT, (L7 p q z h).weak⟩
    · refine ⟨_, rfl, rfl, O.lit tb (fun z => ?_)⟩
      exact ⟨holdT, (L9 p q g z).weak⟩
    · refine ⟨_, rfl, rfl, O.al tb (fun z => ?_)⟩
      exact ⟨holdT, (L11 p z g h).weak⟩
  have L4 : ∀ p q g h : Nat, WpA Try.prog none W D Try.f7.ntmps ((Try.f7.body.bind (regOps 9)).getD #[]) (Q .normal) (mineS x y p9 p10) [] true 7 #[true, true, false, false, true, true, false, false, false, true, false, false] ([(13, Ptr q 0)] ++ mineE a b n k x y p9 p10) ([cells q 37 TBallot.z.c] ++ mineS x y p9 p10) := by
    intro p q g h
    refine WpA.each [2, 6, 8] (by kernel_rfl) ?_
    refine all3 ?_ ?_ ?_
    · refine ⟨_, rfl, rfl, O.lit tb (fun z => ?_)⟩
      exact ⟨holdT, (L8 p q z h).weak⟩
    · refine ⟨_, rfl, rfl, O.lit tb (fun z => ?_)⟩
      exact ⟨holdT, (L10 p q g z).weak⟩
    · refine ⟨_, rfl, rfl, O.al tb (fun z => ?_)⟩
      exact ⟨holdT, (L11 z q g h).weak⟩
  have L0 : ∀ p q g h : Nat, WpA Try.prog none W D Try.f7.ntmps ((Try.f7.body.bind (regOps 9)).getD #[]) (Q .normal) (mineS x y p9 p10) [] true 8 #[true, true, false, false, true, true, false, false, false, false, false, false] ([] ++ mineE a b n k x y p9 p10) ([] ++ mineS x y p9 p10) := by
    intro p q g h
    refine WpA.each [2, 6, 8, 9] (by kernel_rfl) ?_
    refine all4 ?_ ?_ ?_ ?_
    · refine ⟨_, rfl, rfl, O.lit tb (fun z => ?_)⟩
      exact ⟨holdT, (L1 p q z h).weak⟩
    · refine ⟨_, rfl, rfl, O.lit tb (fun z => ?_)⟩
      exact ⟨holdT, (L2 p q g z).weak⟩
    · refine ⟨_, rfl, rfl, O.al tb (fun z => ?_)⟩
      exact ⟨holdT, (L3 z q g h).weak⟩
    · refine ⟨_, rfl, rfl, O.al tb (fun z => ?_)⟩
      exact ⟨holdT, (L4 p z g h).weak⟩
  exact (L0 0 0 0 0)
theorem mine5 {W : Go.World} {D : List Nat} {Q : Go.Exit → Go.Act → Go.World → Prop} (a b n : Int) (x : TBallot) (p6 : Nat)
    (hM : ∀ p q, Out W D Try.f7.ntmps Q .normal ([(9, Ptr p 0), (10, Ptr q 0), (0, I a), (1, I b), (3, I n)]) ([cells p 37 x.c, cells q 37 x.c])) :
    WpA Try.prog none W D Try.f7.ntmps ((Try.f7.body.bind (regOps 5)).getD #[]) (Q .normal) [cells p6 37 x.c] [] true 4 #[true, true, false, false, false, false] [(37, A x.c), (38, A x.c), (0, I a), (1, I b), (3, I n)] [cells p6 37 x.c] := by
  have L5 : ∀ p q : Nat, WpA Try.prog none W D Try.f7.ntmps ((Try.f7.body.bind (regOps 5)).getD #[]) (Q .normal) [cells p6 37 x.c] [] true 2 #[true, true, true, true, false, false] [(9, Ptr p 0), (10, Ptr q 0), (37, A x.c), (38, A x.c), (0, I a), (1, I b), (3, I n)] [cells p 37 TBallot.z.c, cells q 37 TBallot.z.c, cells p6 37 x.c] := by
    intro p q
    refine WpA.oS 4 rfl (O.stA tb ?_)
    refine ⟨holdT, ?_⟩
    refine WpA.oS 5 rfl (O.stA tb ?_)
    refine ⟨holdT, ?_⟩
    exact WpA.ou (hM p q).weak
  refine WpA.each [2, 3] (by kernel_rfl) (all2 ?_ ?_)
  · refine ⟨_, rfl, rfl, O.al tb (fun p => ?_)⟩
    refine ⟨holdT, ?_⟩
    refine WpA.oS 3 rfl (O.al tb (fun q => ?_))
    exact ⟨holdT, (L5 p q).weak⟩
  · refine ⟨_, rfl, rfl, O.al tb (fun q => ?_)⟩
    refine ⟨holdT, ?_⟩
    refine WpA.oS 2 rfl (O.al tb (fun p => ?_))
    exact ⟨holdT, (L5 p q).weak⟩
end Go.Proofs.Ytienlncaffliaaa
