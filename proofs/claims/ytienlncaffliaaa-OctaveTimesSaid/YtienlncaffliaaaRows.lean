/-
  No cell of these rows narrows 'for every input' (looked for: loops, veiled, ifaces, maps, wideKeys, modest, calm, conditions, laid).
  DERIVED. THE GIVEN ROWS OF THIS SEAT. 16 by the template 'for every input the law returns true; each argument reads behind the call as it read before'; 0 by the template 'total and deterministic' (their statements: YtienlncaffliaaaTotals.lean).
  GIVEN WITH THE SEED: the statements are not yours to turn. If you find one false, say at which input.
  Laid BY PROGRAM, IN A SANDBOX (cutbox-rows.mjs): the forced cells as the released guide's own fill.sh prints them over the translation c1e767db7d758bf4… (all of the seat's roots in one cut). By AI agents, Wed Nov 11 2026. No macro, syntax, notation, axiom, sorry.
-/
import Derived.Test.YtienlncaffliaaaChecked
import GoSem.Claim
import GoSem.ClaimJoined
import GoSem.ClaimMapViews
import Derived.JoinedTies
import Derived.KernelRfl
namespace Go.Proofs.Ytienlncaffliaaa
/- THE CELL 'sum', in the pinned program and in every row, IS THE sha256 OF THE DUMP (.gsa) THAT YtienlncaffliaaaProg.lean LOADS. Nothing in Lean hashes anything: it is a label: what it is worth is what the hold of that sum in a sandbox is worth. -/
noncomputable def Try.pinned : Pinned := { name := "ytienlncaffliaaa", sum := "c1e767db7d758bf447b6a810caaf6ac848922aebaee4a805c5fe06a5a6df7e62", checked := Try.checked }
namespace Rows
def none {H : Type} : Left H := { results := [], args := [] }

/-- 'caucuslaw01.OctaveRises': WHATEVER THE INPUT: true; the input reads as it did. -/
def octaveRisesSpec : ChangeSpec := { name := "octaveRises", fn := fun _ => fun
  | [d1, d2] => { results := [.lit (.bool true)], args := [d1, d2] }
  | _ => none }
def octaveRisesRow : OpenClaim := { program := "ytienlncaffliaaa", sum := "c1e767db7d758bf447b6a810caaf6ac848922aebaee4a805c5fe06a5a6df7e62", func := "caucus/caucuslaw01.OctaveRises", spec := "octaveRises", apart := false }
def OctaveRisesSaid : Prop := octaveRisesRow.holds Try.pinned (OpenSpec.ofChange octaveRisesSpec)

/-- ITS FALSE NEIGHBOUR: 'it returns false'. Refute it at one input. -/
def octaveRisesWrong : ChangeSpec := { name := "octaveRises", fn := fun _ => fun
  | [d1, d2] => { results := [.lit (.bool false)], args := [d1, d2] }
  | _ => none }
def OctaveRisesWrongFalsely : Prop := octaveRisesRow.holds Try.pinned (OpenSpec.ofChange octaveRisesWrong)

/-- 'caucuslaw01.OctaveParts': WHATEVER THE INPUT: true; the input reads as it did. -/
def octavePartsSpec : ChangeSpec := { name := "octaveParts", fn := fun _ => fun
  | [d1, d2] => { results := [.lit (.bool true)], args := [d1, d2] }
  | _ => none }
def octavePartsRow : OpenClaim := { program := "ytienlncaffliaaa", sum := "c1e767db7d758bf447b6a810caaf6ac848922aebaee4a805c5fe06a5a6df7e62", func := "caucus/caucuslaw01.OctaveParts", spec := "octaveParts", apart := false }
def OctavePartsSaid : Prop := octavePartsRow.holds Try.pinned (OpenSpec.ofChange octavePartsSpec)

/-- ITS FALSE NEIGHBOUR: 'it returns false'. Refute it at one input. -/
def octavePartsWrong : ChangeSpec := { name := "octaveParts", fn := fun _ => fun
  | [d1, d2] => { results := [.lit (.bool false)], args := [d1, d2] }
  | _ => none }
def OctavePartsWrongFalsely : Prop := octavePartsRow.holds Try.pinned (OpenSpec.ofChange octavePartsWrong)

/-- 'caucuslaw13.LatticePromises': WHATEVER THE INPUT: true; the input reads as it did. -/
def latticePromisesSpec : ChangeSpec := { name := "latticePromises", fn := fun _ => fun
  | [d] => { results := [.lit (.bool true)], args := [d] }
  | _ => none }
def latticePromisesRow : OpenClaim := { program := "ytienlncaffliaaa", sum := "c1e767db7d758bf447b6a810caaf6ac848922aebaee4a805c5fe06a5a6df7e62", func := "caucus/caucuslaw13.LatticePromises", spec := "latticePromises", apart := false }
def LatticePromisesSaid : Prop := latticePromisesRow.holds Try.pinned (OpenSpec.ofChange latticePromisesSpec)

/-- ITS FALSE NEIGHBOUR: 'it returns false'. Refute it at one input. -/
def latticePromisesWrong : ChangeSpec := { name := "latticePromises", fn := fun _ => fun
  | [d] => { results := [.lit (.bool false)], args := [d] }
  | _ => none }
def LatticePromisesWrongFalsely : Prop := latticePromisesRow.holds Try.pinned (OpenSpec.ofChange latticePromisesWrong)

/-- 'caucuslaw02.BallotNext': WHATEVER THE INPUT: true; the input reads as it did. -/
def ballotNextSpec : ChangeSpec := { name := "ballotNext", fn := fun _ => fun
  | [d1, d2] => { results := [.lit (.bool true)], args := [d1, d2] }
  | _ => none }
def ballotNextRow : OpenClaim := { program := "ytienlncaffliaaa", sum := "c1e767db7d758bf447b6a810caaf6ac848922aebaee4a805c5fe06a5a6df7e62", func := "caucus/caucuslaw02.BallotNext", spec := "ballotNext", unfollowed := true, recurses := true, apart := false }
def BallotNextSaid : Prop := ballotNextRow.holds Try.pinned (OpenSpec.ofChange ballotNextSpec)

/-- ITS FALSE NEIGHBOUR: 'it returns false'. Refute it at one input. -/
def ballotNextWrong : ChangeSpec := { name := "ballotNext", fn := fun _ => fun
  | [d1, d2] => { results := [.lit (.bool false)], args := [d1, d2] }
  | _ => none }
def BallotNextWrongFalsely : Prop := ballotNextRow.holds Try.pinned (OpenSpec.ofChange ballotNextWrong)

/-- 'caucuslaw02.BallotMine': WHATEVER THE INPUT: true; the input reads as it did. -/
def ballotMineSpec : ChangeSpec := { name := "ballotMine", fn := fun _ => fun
  | [d1, d2, d3, d4] => { results := [.lit (.bool true)], args := [d1, d2, d3, d4] }
  | _ => none }
def ballotMineRow : OpenClaim := { program := "ytienlncaffliaaa", sum := "c1e767db7d758bf447b6a810caaf6ac848922aebaee4a805c5fe06a5a6df7e62", func := "caucus/caucuslaw02.BallotMine", spec := "ballotMine", unfollowed := true, recurses := true, apart := false }
def BallotMineSaid : Prop := ballotMineRow.holds Try.pinned (OpenSpec.ofChange ballotMineSpec)

/-- ITS FALSE NEIGHBOUR: 'it returns false'. Refute it at one input. -/
def ballotMineWrong : ChangeSpec := { name := "ballotMine", fn := fun _ => fun
  | [d1, d2, d3, d4] => { results := [.lit (.bool false)], args := [d1, d2, d3, d4] }
  | _ => none }
def BallotMineWrongFalsely : Prop := ballotMineRow.holds Try.pinned (OpenSpec.ofChange ballotMineWrong)

/-- 'caucuslaw13.LatticeSteps': WHATEVER THE INPUT: true; the input reads as it did. -/
def latticeStepsSpec : ChangeSpec := { name := "latticeSteps", fn := fun _ => fun
  | [d1, d2] => { results := [.lit (.bool true)], args := [d1, d2] }
  | _ => none }
def latticeStepsRow : OpenClaim := { program := "ytienlncaffliaaa", sum := "c1e767db7d758bf447b6a810caaf6ac848922aebaee4a805c5fe06a5a6df7e62", func := "caucus/caucuslaw13.LatticeSteps", spec := "latticeSteps", apart := false }
def LatticeStepsSaid : Prop := latticeStepsRow.holds Try.pinned (OpenSpec.ofChange latticeStepsSpec)

/-- ITS FALSE NEIGHBOUR: 'it returns false'. Refute it at one input. -/
def latticeStepsWrong : ChangeSpec := { name := "latticeSteps", fn := fun _ => fun
  | [d1, d2] => { results := [.lit (.bool false)], args := [d1, d2] }
  | _ => none }
def LatticeStepsWrongFalsely : Prop := latticeStepsRow.holds Try.pinned (OpenSpec.ofChange latticeStepsWrong)

/-- 'caucuslaw13.LatticeOnce': WHATEVER THE INPUT: true; the input reads as it did. -/
def latticeOnceSpec : ChangeSpec := { name := "latticeOnce", fn := fun _ => fun
  | [d1, d2, d3] => { results := [.lit (.bool true)], args := [d1, d2, d3] }
  | _ => none }
def latticeOnceRow : OpenClaim := { program := "ytienlncaffliaaa", sum := "c1e767db7d758bf447b6a810caaf6ac848922aebaee4a805c5fe06a5a6df7e62", func := "caucus/caucuslaw13.LatticeOnce", spec := "latticeOnce", apart := false }
def LatticeOnceSaid : Prop := latticeOnceRow.holds Try.pinned (OpenSpec.ofChange latticeOnceSpec)

/-- ITS FALSE NEIGHBOUR: 'it returns false'. Refute it at one input. -/
def latticeOnceWrong : ChangeSpec := { name := "latticeOnce", fn := fun _ => fun
  | [d1, d2, d3] => { results := [.lit (.bool false)], args := [d1, d2, d3] }
  | _ => none }
def LatticeOnceWrongFalsely : Prop := latticeOnceRow.holds Try.pinned (OpenSpec.ofChange latticeOnceWrong)

/-- 'caucuslaw13.LatticeStays': WHATEVER THE INPUT: true; the input reads as it did. -/
def latticeStaysSpec : ChangeSpec := { name := "latticeStays", fn := fun _ => fun
  | [d1, d2] => { results := [.lit (.bool true)], args := [d1, d2] }
  | _ => none }
def latticeStaysRow : OpenClaim := { program := "ytienlncaffliaaa", sum := "c1e767db7d758bf447b6a810caaf6ac848922aebaee4a805c5fe06a5a6df7e62", func := "caucus/caucuslaw13.LatticeStays", spec := "latticeStays", apart := false }
def LatticeStaysSaid : Prop := latticeStaysRow.holds Try.pinned (OpenSpec.ofChange latticeStaysSpec)

/-- ITS FALSE NEIGHBOUR: 'it returns false'. Refute it at one input. -/
def latticeStaysWrong : ChangeSpec := { name := "latticeStays", fn := fun _ => fun
  | [d1, d2] => { results := [.lit (.bool false)], args := [d1, d2] }
  | _ => none }
def LatticeStaysWrongFalsely : Prop := latticeStaysRow.holds Try.pinned (OpenSpec.ofChange latticeStaysWrong)

/-- 'caucuslaw02.BallotOrder': WHATEVER THE INPUT: true; the input reads as it did. -/
def ballotOrderSpec : ChangeSpec := { name := "ballotOrder", fn := fun _ => fun
  | [d1, d2, d3, d4] => { results := [.lit (.bool true)], args := [d1, d2, d3, d4] }
  | _ => none }
def ballotOrderRow : OpenClaim := { program := "ytienlncaffliaaa", sum := "c1e767db7d758bf447b6a810caaf6ac848922aebaee4a805c5fe06a5a6df7e62", func := "caucus/caucuslaw02.BallotOrder", spec := "ballotOrder", unfollowed := true, recurses := true, apart := false }
def BallotOrderSaid : Prop := ballotOrderRow.holds Try.pinned (OpenSpec.ofChange ballotOrderSpec)

/-- ITS FALSE NEIGHBOUR: 'it returns false'. Refute it at one input. -/
def ballotOrderWrong : ChangeSpec := { name := "ballotOrder", fn := fun _ => fun
  | [d1, d2, d3, d4] => { results := [.lit (.bool false)], args := [d1, d2, d3, d4] }
  | _ => none }
def BallotOrderWrongFalsely : Prop := ballotOrderRow.holds Try.pinned (OpenSpec.ofChange ballotOrderWrong)

/-- 'caucuslaw13.LatticeFollows': WHATEVER THE INPUT: true; the input reads as it did. -/
def latticeFollowsSpec : ChangeSpec := { name := "latticeFollows", fn := fun _ => fun
  | [d1, d2] => { results := [.lit (.bool true)], args := [d1, d2] }
  | _ => none }
def latticeFollowsRow : OpenClaim := { program := "ytienlncaffliaaa", sum := "c1e767db7d758bf447b6a810caaf6ac848922aebaee4a805c5fe06a5a6df7e62", func := "caucus/caucuslaw13.LatticeFollows", spec := "latticeFollows", apart := false }
def LatticeFollowsSaid : Prop := latticeFollowsRow.holds Try.pinned (OpenSpec.ofChange latticeFollowsSpec)

/-- ITS FALSE NEIGHBOUR: 'it returns false'. Refute it at one input. -/
def latticeFollowsWrong : ChangeSpec := { name := "latticeFollows", fn := fun _ => fun
  | [d1, d2] => { results := [.lit (.bool false)], args := [d1, d2] }
  | _ => none }
def LatticeFollowsWrongFalsely : Prop := latticeFollowsRow.holds Try.pinned (OpenSpec.ofChange latticeFollowsWrong)

/-- 'caucuslaw01.OctaveNumbers': WHATEVER THE INPUT: true; the input reads as it did. -/
def octaveNumbersSpec : ChangeSpec := { name := "octaveNumbers", fn := fun _ => fun
  | [d1, d2, d3] => { results := [.lit (.bool true)], args := [d1, d2, d3] }
  | _ => none }
def octaveNumbersRow : OpenClaim := { program := "ytienlncaffliaaa", sum := "c1e767db7d758bf447b6a810caaf6ac848922aebaee4a805c5fe06a5a6df7e62", func := "caucus/caucuslaw01.OctaveNumbers", spec := "octaveNumbers", apart := false }
def OctaveNumbersSaid : Prop := octaveNumbersRow.holds Try.pinned (OpenSpec.ofChange octaveNumbersSpec)

/-- ITS FALSE NEIGHBOUR: 'it returns false'. Refute it at one input. -/
def octaveNumbersWrong : ChangeSpec := { name := "octaveNumbers", fn := fun _ => fun
  | [d1, d2, d3] => { results := [.lit (.bool false)], args := [d1, d2, d3] }
  | _ => none }
def OctaveNumbersWrongFalsely : Prop := octaveNumbersRow.holds Try.pinned (OpenSpec.ofChange octaveNumbersWrong)

/-- 'caucuslaw01.OctaveGives': WHATEVER THE INPUT: true; the input reads as it did. -/
def octaveGivesSpec : ChangeSpec := { name := "octaveGives", fn := fun _ => fun
  | [d1, d2] => { results := [.lit (.bool true)], args := [d1, d2] }
  | _ => none }
def octaveGivesRow : OpenClaim := { program := "ytienlncaffliaaa", sum := "c1e767db7d758bf447b6a810caaf6ac848922aebaee4a805c5fe06a5a6df7e62", func := "caucus/caucuslaw01.OctaveGives", spec := "octaveGives", apart := false }
def OctaveGivesSaid : Prop := octaveGivesRow.holds Try.pinned (OpenSpec.ofChange octaveGivesSpec)

/-- ITS FALSE NEIGHBOUR: 'it returns false'. Refute it at one input. -/
def octaveGivesWrong : ChangeSpec := { name := "octaveGives", fn := fun _ => fun
  | [d1, d2] => { results := [.lit (.bool false)], args := [d1, d2] }
  | _ => none }
def OctaveGivesWrongFalsely : Prop := octaveGivesRow.holds Try.pinned (OpenSpec.ofChange octaveGivesWrong)

/-- 'caucuslaw01.OctaveTimes': WHATEVER THE INPUT: true; the input reads as it did. -/
def octaveTimesSpec : ChangeSpec := { name := "octaveTimes", fn := fun _ => fun
  | [d1, d2, d3] => { results := [.lit (.bool true)], args := [d1, d2, d3] }
  | _ => none }
def octaveTimesRow : OpenClaim := { program := "ytienlncaffliaaa", sum := "c1e767db7d758bf447b6a810caaf6ac848922aebaee4a805c5fe06a5a6df7e62", func := "caucus/caucuslaw01.OctaveTimes", spec := "octaveTimes", unfollowed := true, recurses := true, apart := false }
def OctaveTimesSaid : Prop := octaveTimesRow.holds Try.pinned (OpenSpec.ofChange octaveTimesSpec)

/-- ITS FALSE NEIGHBOUR: 'it returns false'. Refute it at one input. -/
def octaveTimesWrong : ChangeSpec := { name := "octaveTimes", fn := fun _ => fun
  | [d1, d2, d3] => { results := [.lit (.bool false)], args := [d1, d2, d3] }
  | _ => none }
def OctaveTimesWrongFalsely : Prop := octaveTimesRow.holds Try.pinned (OpenSpec.ofChange octaveTimesWrong)

/-- 'caucuslaw13.LatticeForward': WHATEVER THE INPUT: true; the input reads as it did. -/
def latticeForwardSpec : ChangeSpec := { name := "latticeForward", fn := fun _ => fun
  | [d] => { results := [.lit (.bool true)], args := [d] }
  | _ => none }
def latticeForwardRow : OpenClaim := { program := "ytienlncaffliaaa", sum := "c1e767db7d758bf447b6a810caaf6ac848922aebaee4a805c5fe06a5a6df7e62", func := "caucus/caucuslaw13.LatticeForward", spec := "latticeForward", apart := false }
def LatticeForwardSaid : Prop := latticeForwardRow.holds Try.pinned (OpenSpec.ofChange latticeForwardSpec)

/-- ITS FALSE NEIGHBOUR: 'it returns false'. Refute it at one input. -/
def latticeForwardWrong : ChangeSpec := { name := "latticeForward", fn := fun _ => fun
  | [d] => { results := [.lit (.bool false)], args := [d] }
  | _ => none }
def LatticeForwardWrongFalsely : Prop := latticeForwardRow.holds Try.pinned (OpenSpec.ofChange latticeForwardWrong)

/-- 'caucuslaw01.OctavePuts': WHATEVER THE INPUT: true; the input reads as it did. -/
def octavePutsSpec : ChangeSpec := { name := "octavePuts", fn := fun _ => fun
  | [d] => { results := [.lit (.bool true)], args := [d] }
  | _ => none }
def octavePutsRow : OpenClaim := { program := "ytienlncaffliaaa", sum := "c1e767db7d758bf447b6a810caaf6ac848922aebaee4a805c5fe06a5a6df7e62", func := "caucus/caucuslaw01.OctavePuts", spec := "octavePuts", apart := false }
def OctavePutsSaid : Prop := octavePutsRow.holds Try.pinned (OpenSpec.ofChange octavePutsSpec)

/-- ITS FALSE NEIGHBOUR: 'it returns false'. Refute it at one input. -/
def octavePutsWrong : ChangeSpec := { name := "octavePuts", fn := fun _ => fun
  | [d] => { results := [.lit (.bool false)], args := [d] }
  | _ => none }
def OctavePutsWrongFalsely : Prop := octavePutsRow.holds Try.pinned (OpenSpec.ofChange octavePutsWrong)

/-- 'caucuslaw02.BallotBytes': WHATEVER THE INPUT: true; the input reads as it did. -/
def ballotBytesSpec : ChangeSpec := { name := "ballotBytes", fn := fun _ => fun
  | [d1, d2] => { results := [.lit (.bool true)], args := [d1, d2] }
  | _ => none }
def ballotBytesRow : OpenClaim := { program := "ytienlncaffliaaa", sum := "c1e767db7d758bf447b6a810caaf6ac848922aebaee4a805c5fe06a5a6df7e62", func := "caucus/caucuslaw02.BallotBytes", spec := "ballotBytes", unfollowed := true, recurses := true, apart := false }
def BallotBytesSaid : Prop := ballotBytesRow.holds Try.pinned (OpenSpec.ofChange ballotBytesSpec)

/-- ITS FALSE NEIGHBOUR: 'it returns false'. Refute it at one input. -/
def ballotBytesWrong : ChangeSpec := { name := "ballotBytes", fn := fun _ => fun
  | [d1, d2] => { results := [.lit (.bool false)], args := [d1, d2] }
  | _ => none }
def BallotBytesWrongFalsely : Prop := ballotBytesRow.holds Try.pinned (OpenSpec.ofChange ballotBytesWrong)

/- THE SECOND FORM. 'bulk': how many values and letters a reading holds, each counted each time it is reached (what is shared counts as often as it is met; a slice's spare places count too). A statement '..UptoSaid' is the law's where the arguments, and the package variables that the reading takes, are together of bulk at most 1048576: NARROWER than '..Said'. Prove '..Said' where nothing that the law and all that it calls make is longer than what came in: it says more and counts as full. Else prove '..UptoSaid'. A law counts once. -/
mutual
def uptoBulk {H : Type} : DataW H → Nat
  | .lit (.string bytes) => bytes.length + 1
  | .lit _ => 1
  | .nil => 1
  | .ptr d => uptoBulk d + 1
  | .slice elems spare => uptoBulkAll elems + uptoBulkAll spare + 1
  | .agg parts => uptoBulkAll parts + 1
  | .iface _ d => uptoBulk d + 1
  | .map entries => uptoBulkEntries entries + 1
  | .held _ => 1
def uptoBulkAll {H : Type} : List (DataW H) → Nat
  | [] => 0
  | d :: r => uptoBulk d + uptoBulkAll r
def uptoBulkEntries {H : Type} : List (Lit × DataW H) → Nat
  | [] => 0
  | x :: r => uptoBulkEntry x + uptoBulkEntries r
def uptoBulkEntry {H : Type} : Lit × DataW H → Nat
  | (.string bytes, d) => bytes.length + uptoBulk d + 1
  | (_, d) => uptoBulk d + 1
 end
def uptoSmall : (H : Type) → List (DataW H) → Bool := fun _ ds => decide (uptoBulkAll ds ≤ 1048576)
def OpenSpec.upto (s : _root_.Go.ChangeSpec) : _root_.Go.OpenSpec := { _root_.Go.OpenSpec.ofChange s with cond := some uptoSmall }

/-- 'caucuslaw01.OctaveRises', WHERE WHAT IT READS IS OF BULK AT MOST 1048576: true; the input reads as it did. -/
def octaveRisesUptoRow : OpenClaim := { program := "ytienlncaffliaaa", sum := "c1e767db7d758bf447b6a810caaf6ac848922aebaee4a805c5fe06a5a6df7e62", func := "caucus/caucuslaw01.OctaveRises", spec := "octaveRises", apart := false, narrowed := true }
def OctaveRisesUptoSaid : Prop := octaveRisesUptoRow.holds Try.pinned (OpenSpec.upto octaveRisesSpec)

/-- 'caucuslaw01.OctaveParts', WHERE WHAT IT READS IS OF BULK AT MOST 1048576: true; the input reads as it did. -/
def octavePartsUptoRow : OpenClaim := { program := "ytienlncaffliaaa", sum := "c1e767db7d758bf447b6a810caaf6ac848922aebaee4a805c5fe06a5a6df7e62", func := "caucus/caucuslaw01.OctaveParts", spec := "octaveParts", apart := false, narrowed := true }
def OctavePartsUptoSaid : Prop := octavePartsUptoRow.holds Try.pinned (OpenSpec.upto octavePartsSpec)

/-- 'caucuslaw13.LatticePromises', WHERE WHAT IT READS IS OF BULK AT MOST 1048576: true; the input reads as it did. -/
def latticePromisesUptoRow : OpenClaim := { program := "ytienlncaffliaaa", sum := "c1e767db7d758bf447b6a810caaf6ac848922aebaee4a805c5fe06a5a6df7e62", func := "caucus/caucuslaw13.LatticePromises", spec := "latticePromises", apart := false, narrowed := true }
def LatticePromisesUptoSaid : Prop := latticePromisesUptoRow.holds Try.pinned (OpenSpec.upto latticePromisesSpec)

/-- 'caucuslaw02.BallotNext', WHERE WHAT IT READS IS OF BULK AT MOST 1048576: true; the input reads as it did. -/
def ballotNextUptoRow : OpenClaim := { program := "ytienlncaffliaaa", sum := "c1e767db7d758bf447b6a810caaf6ac848922aebaee4a805c5fe06a5a6df7e62", func := "caucus/caucuslaw02.BallotNext", spec := "ballotNext", unfollowed := true, recurses := true, apart := false, narrowed := true }
def BallotNextUptoSaid : Prop := ballotNextUptoRow.holds Try.pinned (OpenSpec.upto ballotNextSpec)

/-- 'caucuslaw02.BallotMine', WHERE WHAT IT READS IS OF BULK AT MOST 1048576: true; the input reads as it did. -/
def ballotMineUptoRow : OpenClaim := { program := "ytienlncaffliaaa", sum := "c1e767db7d758bf447b6a810caaf6ac848922aebaee4a805c5fe06a5a6df7e62", func := "caucus/caucuslaw02.BallotMine", spec := "ballotMine", unfollowed := true, recurses := true, apart := false, narrowed := true }
def BallotMineUptoSaid : Prop := ballotMineUptoRow.holds Try.pinned (OpenSpec.upto ballotMineSpec)

/-- 'caucuslaw13.LatticeSteps', WHERE WHAT IT READS IS OF BULK AT MOST 1048576: true; the input reads as it did. -/
def latticeStepsUptoRow : OpenClaim := { program := "ytienlncaffliaaa", sum := "c1e767db7d758bf447b6a810caaf6ac848922aebaee4a805c5fe06a5a6df7e62", func := "caucus/caucuslaw13.LatticeSteps", spec := "latticeSteps", apart := false, narrowed := true }
def LatticeStepsUptoSaid : Prop := latticeStepsUptoRow.holds Try.pinned (OpenSpec.upto latticeStepsSpec)

/-- 'caucuslaw13.LatticeOnce', WHERE WHAT IT READS IS OF BULK AT MOST 1048576: true; the input reads as it did. -/
def latticeOnceUptoRow : OpenClaim := { program := "ytienlncaffliaaa", sum := "c1e767db7d758bf447b6a810caaf6ac848922aebaee4a805c5fe06a5a6df7e62", func := "caucus/caucuslaw13.LatticeOnce", spec := "latticeOnce", apart := false, narrowed := true }
def LatticeOnceUptoSaid : Prop := latticeOnceUptoRow.holds Try.pinned (OpenSpec.upto latticeOnceSpec)

/-- 'caucuslaw13.LatticeStays', WHERE WHAT IT READS IS OF BULK AT MOST 1048576: true; the input reads as it did. -/
def latticeStaysUptoRow : OpenClaim := { program := "ytienlncaffliaaa", sum := "c1e767db7d758bf447b6a810caaf6ac848922aebaee4a805c5fe06a5a6df7e62", func := "caucus/caucuslaw13.LatticeStays", spec := "latticeStays", apart := false, narrowed := true }
def LatticeStaysUptoSaid : Prop := latticeStaysUptoRow.holds Try.pinned (OpenSpec.upto latticeStaysSpec)

/-- 'caucuslaw02.BallotOrder', WHERE WHAT IT READS IS OF BULK AT MOST 1048576: true; the input reads as it did. -/
def ballotOrderUptoRow : OpenClaim := { program := "ytienlncaffliaaa", sum := "c1e767db7d758bf447b6a810caaf6ac848922aebaee4a805c5fe06a5a6df7e62", func := "caucus/caucuslaw02.BallotOrder", spec := "ballotOrder", unfollowed := true, recurses := true, apart := false, narrowed := true }
def BallotOrderUptoSaid : Prop := ballotOrderUptoRow.holds Try.pinned (OpenSpec.upto ballotOrderSpec)

/-- 'caucuslaw13.LatticeFollows', WHERE WHAT IT READS IS OF BULK AT MOST 1048576: true; the input reads as it did. -/
def latticeFollowsUptoRow : OpenClaim := { program := "ytienlncaffliaaa", sum := "c1e767db7d758bf447b6a810caaf6ac848922aebaee4a805c5fe06a5a6df7e62", func := "caucus/caucuslaw13.LatticeFollows", spec := "latticeFollows", apart := false, narrowed := true }
def LatticeFollowsUptoSaid : Prop := latticeFollowsUptoRow.holds Try.pinned (OpenSpec.upto latticeFollowsSpec)

/-- 'caucuslaw01.OctaveNumbers', WHERE WHAT IT READS IS OF BULK AT MOST 1048576: true; the input reads as it did. -/
def octaveNumbersUptoRow : OpenClaim := { program := "ytienlncaffliaaa", sum := "c1e767db7d758bf447b6a810caaf6ac848922aebaee4a805c5fe06a5a6df7e62", func := "caucus/caucuslaw01.OctaveNumbers", spec := "octaveNumbers", apart := false, narrowed := true }
def OctaveNumbersUptoSaid : Prop := octaveNumbersUptoRow.holds Try.pinned (OpenSpec.upto octaveNumbersSpec)

/-- 'caucuslaw01.OctaveGives', WHERE WHAT IT READS IS OF BULK AT MOST 1048576: true; the input reads as it did. -/
def octaveGivesUptoRow : OpenClaim := { program := "ytienlncaffliaaa", sum := "c1e767db7d758bf447b6a810caaf6ac848922aebaee4a805c5fe06a5a6df7e62", func := "caucus/caucuslaw01.OctaveGives", spec := "octaveGives", apart := false, narrowed := true }
def OctaveGivesUptoSaid : Prop := octaveGivesUptoRow.holds Try.pinned (OpenSpec.upto octaveGivesSpec)

/-- 'caucuslaw01.OctaveTimes', WHERE WHAT IT READS IS OF BULK AT MOST 1048576: true; the input reads as it did. -/
def octaveTimesUptoRow : OpenClaim := { program := "ytienlncaffliaaa", sum := "c1e767db7d758bf447b6a810caaf6ac848922aebaee4a805c5fe06a5a6df7e62", func := "caucus/caucuslaw01.OctaveTimes", spec := "octaveTimes", unfollowed := true, recurses := true, apart := false, narrowed := true }
def OctaveTimesUptoSaid : Prop := octaveTimesUptoRow.holds Try.pinned (OpenSpec.upto octaveTimesSpec)

/-- 'caucuslaw13.LatticeForward', WHERE WHAT IT READS IS OF BULK AT MOST 1048576: true; the input reads as it did. -/
def latticeForwardUptoRow : OpenClaim := { program := "ytienlncaffliaaa", sum := "c1e767db7d758bf447b6a810caaf6ac848922aebaee4a805c5fe06a5a6df7e62", func := "caucus/caucuslaw13.LatticeForward", spec := "latticeForward", apart := false, narrowed := true }
def LatticeForwardUptoSaid : Prop := latticeForwardUptoRow.holds Try.pinned (OpenSpec.upto latticeForwardSpec)

/-- 'caucuslaw01.OctavePuts', WHERE WHAT IT READS IS OF BULK AT MOST 1048576: true; the input reads as it did. -/
def octavePutsUptoRow : OpenClaim := { program := "ytienlncaffliaaa", sum := "c1e767db7d758bf447b6a810caaf6ac848922aebaee4a805c5fe06a5a6df7e62", func := "caucus/caucuslaw01.OctavePuts", spec := "octavePuts", apart := false, narrowed := true }
def OctavePutsUptoSaid : Prop := octavePutsUptoRow.holds Try.pinned (OpenSpec.upto octavePutsSpec)

/-- 'caucuslaw02.BallotBytes', WHERE WHAT IT READS IS OF BULK AT MOST 1048576: true; the input reads as it did. -/
def ballotBytesUptoRow : OpenClaim := { program := "ytienlncaffliaaa", sum := "c1e767db7d758bf447b6a810caaf6ac848922aebaee4a805c5fe06a5a6df7e62", func := "caucus/caucuslaw02.BallotBytes", spec := "ballotBytes", unfollowed := true, recurses := true, apart := false, narrowed := true }
def BallotBytesUptoSaid : Prop := ballotBytesUptoRow.holds Try.pinned (OpenSpec.upto ballotBytesSpec)

end Rows
end Go.Proofs.Ytienlncaffliaaa
