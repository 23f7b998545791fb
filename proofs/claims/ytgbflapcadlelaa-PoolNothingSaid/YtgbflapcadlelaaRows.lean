/-
  No cell of these rows narrows 'for every input' (looked for: loops, veiled, ifaces, maps, wideKeys, modest, calm, conditions, laid).
  DERIVED. THE GIVEN ROWS OF THIS SEAT. 17 by the template 'for every input the law returns true; each argument reads behind the call as it read before'; 0 by the template 'total and deterministic' (their statements: YtgbflapcadlelaaTotals.lean).
  GIVEN WITH THE SEED: the statements are not yours to turn. If you find one false, say at which input.
  Laid BY PROGRAM, IN A SANDBOX (cutbox-rows.mjs): the forced cells as the released guide's own fill.sh prints them over the translation 89c17a69a3a3dcf3… (all of the seat's roots in one cut). By AI agents, Wed Nov 11 2026. No macro, syntax, notation, axiom, sorry.
-/
import Derived.Test.YtgbflapcadlelaaChecked
import GoSem.Claim
import GoSem.ClaimJoined
import GoSem.ClaimMapViews
import Derived.JoinedTies
import Derived.KernelRfl
namespace Go.Proofs.Ytgbflapcadlelaa
/- THE CELL 'sum', in the pinned program and in every row, IS THE sha256 OF THE DUMP (.gsa) THAT YtgbflapcadlelaaProg.lean LOADS. Nothing in Lean hashes anything: it is a label: what it is worth is what the hold of that sum in a sandbox is worth. -/
noncomputable def Try.pinned : Pinned := { name := "ytgbflapcadlelaa", sum := "89c17a69a3a3dcf3ee0e8eee433f7edc2552c187532bb8713f79d7c3343a6dfc", checked := Try.checked }
namespace Rows
def none {H : Type} : Left H := { results := [], args := [] }

/-- 'caucuslaw06.SealIs': WHATEVER THE INPUT: true; the input reads as it did. -/
def sealIsSpec : ChangeSpec := { name := "sealIs", fn := fun _ => fun
  | [d1, d2] => { results := [.lit (.bool true)], args := [d1, d2] }
  | _ => none }
def sealIsRow : OpenClaim := { program := "ytgbflapcadlelaa", sum := "89c17a69a3a3dcf3ee0e8eee433f7edc2552c187532bb8713f79d7c3343a6dfc", func := "caucus/caucuslaw06.SealIs", spec := "sealIs", plainKeys := false, apart := false }
def SealIsSaid : Prop := sealIsRow.holds Try.pinned (OpenSpec.ofChange sealIsSpec)

/-- ITS FALSE NEIGHBOUR: 'it returns false'. Refute it at one input. -/
def sealIsWrong : ChangeSpec := { name := "sealIs", fn := fun _ => fun
  | [d1, d2] => { results := [.lit (.bool false)], args := [d1, d2] }
  | _ => none }
def SealIsWrongFalsely : Prop := sealIsRow.holds Try.pinned (OpenSpec.ofChange sealIsWrong)

/-- 'caucuslaw03.ItemRows': WHATEVER THE INPUT: true; the input reads as it did. -/
def itemRowsSpec : ChangeSpec := { name := "itemRows", fn := fun _ => fun
  | [d1, d2, d3] => { results := [.lit (.bool true)], args := [d1, d2, d3] }
  | _ => none }
def itemRowsRow : OpenClaim := { program := "ytgbflapcadlelaa", sum := "89c17a69a3a3dcf3ee0e8eee433f7edc2552c187532bb8713f79d7c3343a6dfc", func := "caucus/caucuslaw03.ItemRows", spec := "itemRows", unfollowed := true, recurses := true, plainKeys := false, apart := false }
def ItemRowsSaid : Prop := itemRowsRow.holds Try.pinned (OpenSpec.ofChange itemRowsSpec)

/-- ITS FALSE NEIGHBOUR: 'it returns false'. Refute it at one input. -/
def itemRowsWrong : ChangeSpec := { name := "itemRows", fn := fun _ => fun
  | [d1, d2, d3] => { results := [.lit (.bool false)], args := [d1, d2, d3] }
  | _ => none }
def ItemRowsWrongFalsely : Prop := itemRowsRow.holds Try.pinned (OpenSpec.ofChange itemRowsWrong)

/-- 'caucuslaw03.ItemStops': WHATEVER THE INPUT: true; the input reads as it did. -/
def itemStopsSpec : ChangeSpec := { name := "itemStops", fn := fun _ => fun
  | [d1, d2, d3] => { results := [.lit (.bool true)], args := [d1, d2, d3] }
  | _ => none }
def itemStopsRow : OpenClaim := { program := "ytgbflapcadlelaa", sum := "89c17a69a3a3dcf3ee0e8eee433f7edc2552c187532bb8713f79d7c3343a6dfc", func := "caucus/caucuslaw03.ItemStops", spec := "itemStops", unfollowed := true, recurses := true, plainKeys := false, apart := false }
def ItemStopsSaid : Prop := itemStopsRow.holds Try.pinned (OpenSpec.ofChange itemStopsSpec)

/-- ITS FALSE NEIGHBOUR: 'it returns false'. Refute it at one input. -/
def itemStopsWrong : ChangeSpec := { name := "itemStops", fn := fun _ => fun
  | [d1, d2, d3] => { results := [.lit (.bool false)], args := [d1, d2, d3] }
  | _ => none }
def ItemStopsWrongFalsely : Prop := itemStopsRow.holds Try.pinned (OpenSpec.ofChange itemStopsWrong)

/-- 'caucuslaw03.ItemLast': WHATEVER THE INPUT: true; the input reads as it did. -/
def itemLastSpec : ChangeSpec := { name := "itemLast", fn := fun _ => fun
  | [d1, d2, d3, d4] => { results := [.lit (.bool true)], args := [d1, d2, d3, d4] }
  | _ => none }
def itemLastRow : OpenClaim := { program := "ytgbflapcadlelaa", sum := "89c17a69a3a3dcf3ee0e8eee433f7edc2552c187532bb8713f79d7c3343a6dfc", func := "caucus/caucuslaw03.ItemLast", spec := "itemLast", unfollowed := true, recurses := true, plainKeys := false, apart := false }
def ItemLastSaid : Prop := itemLastRow.holds Try.pinned (OpenSpec.ofChange itemLastSpec)

/-- ITS FALSE NEIGHBOUR: 'it returns false'. Refute it at one input. -/
def itemLastWrong : ChangeSpec := { name := "itemLast", fn := fun _ => fun
  | [d1, d2, d3, d4] => { results := [.lit (.bool false)], args := [d1, d2, d3, d4] }
  | _ => none }
def ItemLastWrongFalsely : Prop := itemLastRow.holds Try.pinned (OpenSpec.ofChange itemLastWrong)

/-- 'caucuslaw03.ItemTop': WHATEVER THE INPUT: true; the input reads as it did. -/
def itemTopSpec : ChangeSpec := { name := "itemTop", fn := fun _ => fun
  | [d1, d2] => { results := [.lit (.bool true)], args := [d1, d2] }
  | _ => none }
def itemTopRow : OpenClaim := { program := "ytgbflapcadlelaa", sum := "89c17a69a3a3dcf3ee0e8eee433f7edc2552c187532bb8713f79d7c3343a6dfc", func := "caucus/caucuslaw03.ItemTop", spec := "itemTop", unfollowed := true, recurses := true, plainKeys := false, apart := false }
def ItemTopSaid : Prop := itemTopRow.holds Try.pinned (OpenSpec.ofChange itemTopSpec)

/-- ITS FALSE NEIGHBOUR: 'it returns false'. Refute it at one input. -/
def itemTopWrong : ChangeSpec := { name := "itemTop", fn := fun _ => fun
  | [d1, d2] => { results := [.lit (.bool false)], args := [d1, d2] }
  | _ => none }
def ItemTopWrongFalsely : Prop := itemTopRow.holds Try.pinned (OpenSpec.ofChange itemTopWrong)

/-- 'caucuslaw03.ItemOrder': WHATEVER THE INPUT: true; the input reads as it did. -/
def itemOrderSpec : ChangeSpec := { name := "itemOrder", fn := fun _ => fun
  | [d1, d2, d3, d4] => { results := [.lit (.bool true)], args := [d1, d2, d3, d4] }
  | _ => none }
def itemOrderRow : OpenClaim := { program := "ytgbflapcadlelaa", sum := "89c17a69a3a3dcf3ee0e8eee433f7edc2552c187532bb8713f79d7c3343a6dfc", func := "caucus/caucuslaw03.ItemOrder", spec := "itemOrder", unfollowed := true, recurses := true, plainKeys := false, apart := false }
def ItemOrderSaid : Prop := itemOrderRow.holds Try.pinned (OpenSpec.ofChange itemOrderSpec)

/-- ITS FALSE NEIGHBOUR: 'it returns false'. Refute it at one input. -/
def itemOrderWrong : ChangeSpec := { name := "itemOrder", fn := fun _ => fun
  | [d1, d2, d3, d4] => { results := [.lit (.bool false)], args := [d1, d2, d3, d4] }
  | _ => none }
def ItemOrderWrongFalsely : Prop := itemOrderRow.holds Try.pinned (OpenSpec.ofChange itemOrderWrong)

/-- 'caucuslaw11.PoolFull': WHATEVER THE INPUT: true; the input reads as it did. -/
def poolFullSpec : ChangeSpec := { name := "poolFull", fn := fun _ => fun
  | [d1, d2] => { results := [.lit (.bool true)], args := [d1, d2] }
  | _ => none }
def poolFullRow : OpenClaim := { program := "ytgbflapcadlelaa", sum := "89c17a69a3a3dcf3ee0e8eee433f7edc2552c187532bb8713f79d7c3343a6dfc", func := "caucus/caucuslaw11.PoolFull", spec := "poolFull", plainKeys := false, apart := false }
def PoolFullSaid : Prop := poolFullRow.holds Try.pinned (OpenSpec.ofChange poolFullSpec)

/-- ITS FALSE NEIGHBOUR: 'it returns false'. Refute it at one input. -/
def poolFullWrong : ChangeSpec := { name := "poolFull", fn := fun _ => fun
  | [d1, d2] => { results := [.lit (.bool false)], args := [d1, d2] }
  | _ => none }
def PoolFullWrongFalsely : Prop := poolFullRow.holds Try.pinned (OpenSpec.ofChange poolFullWrong)

/-- 'caucuslaw11.PoolOrder': WHATEVER THE INPUT: true; the input reads as it did. -/
def poolOrderSpec : ChangeSpec := { name := "poolOrder", fn := fun _ => fun
  | [d] => { results := [.lit (.bool true)], args := [d] }
  | _ => none }
def poolOrderRow : OpenClaim := { program := "ytgbflapcadlelaa", sum := "89c17a69a3a3dcf3ee0e8eee433f7edc2552c187532bb8713f79d7c3343a6dfc", func := "caucus/caucuslaw11.PoolOrder", spec := "poolOrder", plainKeys := false, apart := false }
def PoolOrderSaid : Prop := poolOrderRow.holds Try.pinned (OpenSpec.ofChange poolOrderSpec)

/-- ITS FALSE NEIGHBOUR: 'it returns false'. Refute it at one input. -/
def poolOrderWrong : ChangeSpec := { name := "poolOrder", fn := fun _ => fun
  | [d] => { results := [.lit (.bool false)], args := [d] }
  | _ => none }
def PoolOrderWrongFalsely : Prop := poolOrderRow.holds Try.pinned (OpenSpec.ofChange poolOrderWrong)

/-- 'caucuslaw11.PoolCuts': WHATEVER THE INPUT: true; the input reads as it did. -/
def poolCutsSpec : ChangeSpec := { name := "poolCuts", fn := fun _ => fun
  | [d1, d2, d3] => { results := [.lit (.bool true)], args := [d1, d2, d3] }
  | _ => none }
def poolCutsRow : OpenClaim := { program := "ytgbflapcadlelaa", sum := "89c17a69a3a3dcf3ee0e8eee433f7edc2552c187532bb8713f79d7c3343a6dfc", func := "caucus/caucuslaw11.PoolCuts", spec := "poolCuts", plainKeys := false, apart := false }
def PoolCutsSaid : Prop := poolCutsRow.holds Try.pinned (OpenSpec.ofChange poolCutsSpec)

/-- ITS FALSE NEIGHBOUR: 'it returns false'. Refute it at one input. -/
def poolCutsWrong : ChangeSpec := { name := "poolCuts", fn := fun _ => fun
  | [d1, d2, d3] => { results := [.lit (.bool false)], args := [d1, d2, d3] }
  | _ => none }
def PoolCutsWrongFalsely : Prop := poolCutsRow.holds Try.pinned (OpenSpec.ofChange poolCutsWrong)

/-- 'caucuslaw11.PoolNothing': WHATEVER THE INPUT: true; the input reads as it did. -/
def poolNothingSpec : ChangeSpec := { name := "poolNothing", fn := fun _ => fun
  | [d] => { results := [.lit (.bool true)], args := [d] }
  | _ => none }
def poolNothingRow : OpenClaim := { program := "ytgbflapcadlelaa", sum := "89c17a69a3a3dcf3ee0e8eee433f7edc2552c187532bb8713f79d7c3343a6dfc", func := "caucus/caucuslaw11.PoolNothing", spec := "poolNothing", plainKeys := false, apart := false }
def PoolNothingSaid : Prop := poolNothingRow.holds Try.pinned (OpenSpec.ofChange poolNothingSpec)

/-- ITS FALSE NEIGHBOUR: 'it returns false'. Refute it at one input. -/
def poolNothingWrong : ChangeSpec := { name := "poolNothing", fn := fun _ => fun
  | [d] => { results := [.lit (.bool false)], args := [d] }
  | _ => none }
def PoolNothingWrongFalsely : Prop := poolNothingRow.holds Try.pinned (OpenSpec.ofChange poolNothingWrong)

/-- 'caucuslaw11.PoolDoes': WHATEVER THE INPUT: true; the input reads as it did. -/
def poolDoesSpec : ChangeSpec := { name := "poolDoes", fn := fun _ => fun
  | [d] => { results := [.lit (.bool true)], args := [d] }
  | _ => none }
def poolDoesRow : OpenClaim := { program := "ytgbflapcadlelaa", sum := "89c17a69a3a3dcf3ee0e8eee433f7edc2552c187532bb8713f79d7c3343a6dfc", func := "caucus/caucuslaw11.PoolDoes", spec := "poolDoes", plainKeys := false, apart := false }
def PoolDoesSaid : Prop := poolDoesRow.holds Try.pinned (OpenSpec.ofChange poolDoesSpec)

/-- ITS FALSE NEIGHBOUR: 'it returns false'. Refute it at one input. -/
def poolDoesWrong : ChangeSpec := { name := "poolDoes", fn := fun _ => fun
  | [d] => { results := [.lit (.bool false)], args := [d] }
  | _ => none }
def PoolDoesWrongFalsely : Prop := poolDoesRow.holds Try.pinned (OpenSpec.ofChange poolDoesWrong)

/-- 'caucuslaw06.SealTurned': WHATEVER THE INPUT: true; the input reads as it did. -/
def sealTurnedSpec : ChangeSpec := { name := "sealTurned", fn := fun _ => fun
  | [d1, d2, d3] => { results := [.lit (.bool true)], args := [d1, d2, d3] }
  | _ => none }
def sealTurnedRow : OpenClaim := { program := "ytgbflapcadlelaa", sum := "89c17a69a3a3dcf3ee0e8eee433f7edc2552c187532bb8713f79d7c3343a6dfc", func := "caucus/caucuslaw06.SealTurned", spec := "sealTurned", plainKeys := false, apart := false }
def SealTurnedSaid : Prop := sealTurnedRow.holds Try.pinned (OpenSpec.ofChange sealTurnedSpec)

/-- ITS FALSE NEIGHBOUR: 'it returns false'. Refute it at one input. -/
def sealTurnedWrong : ChangeSpec := { name := "sealTurned", fn := fun _ => fun
  | [d1, d2, d3] => { results := [.lit (.bool false)], args := [d1, d2, d3] }
  | _ => none }
def SealTurnedWrongFalsely : Prop := sealTurnedRow.holds Try.pinned (OpenSpec.ofChange sealTurnedWrong)

/-- 'caucuslaw03.ItemBytes': WHATEVER THE INPUT: true; the input reads as it did. -/
def itemBytesSpec : ChangeSpec := { name := "itemBytes", fn := fun _ => fun
  | [d1, d2] => { results := [.lit (.bool true)], args := [d1, d2] }
  | _ => none }
def itemBytesRow : OpenClaim := { program := "ytgbflapcadlelaa", sum := "89c17a69a3a3dcf3ee0e8eee433f7edc2552c187532bb8713f79d7c3343a6dfc", func := "caucus/caucuslaw03.ItemBytes", spec := "itemBytes", unfollowed := true, recurses := true, plainKeys := false, apart := false }
def ItemBytesSaid : Prop := itemBytesRow.holds Try.pinned (OpenSpec.ofChange itemBytesSpec)

/-- ITS FALSE NEIGHBOUR: 'it returns false'. Refute it at one input. -/
def itemBytesWrong : ChangeSpec := { name := "itemBytes", fn := fun _ => fun
  | [d1, d2] => { results := [.lit (.bool false)], args := [d1, d2] }
  | _ => none }
def ItemBytesWrongFalsely : Prop := itemBytesRow.holds Try.pinned (OpenSpec.ofChange itemBytesWrong)

/-- 'caucuslaw06.SealOpens': WHATEVER THE INPUT: true; the input reads as it did. -/
def sealOpensSpec : ChangeSpec := { name := "sealOpens", fn := fun _ => fun
  | [d] => { results := [.lit (.bool true)], args := [d] }
  | _ => none }
def sealOpensRow : OpenClaim := { program := "ytgbflapcadlelaa", sum := "89c17a69a3a3dcf3ee0e8eee433f7edc2552c187532bb8713f79d7c3343a6dfc", func := "caucus/caucuslaw06.SealOpens", spec := "sealOpens", unfollowed := true, recurses := true, plainKeys := false, apart := false }
def SealOpensSaid : Prop := sealOpensRow.holds Try.pinned (OpenSpec.ofChange sealOpensSpec)

/-- ITS FALSE NEIGHBOUR: 'it returns false'. Refute it at one input. -/
def sealOpensWrong : ChangeSpec := { name := "sealOpens", fn := fun _ => fun
  | [d] => { results := [.lit (.bool false)], args := [d] }
  | _ => none }
def SealOpensWrongFalsely : Prop := sealOpensRow.holds Try.pinned (OpenSpec.ofChange sealOpensWrong)

/-- 'caucuslaw06.SealStops': WHATEVER THE INPUT: true; the input reads as it did. -/
def sealStopsSpec : ChangeSpec := { name := "sealStops", fn := fun _ => fun
  | [d1, d2, d3] => { results := [.lit (.bool true)], args := [d1, d2, d3] }
  | _ => none }
def sealStopsRow : OpenClaim := { program := "ytgbflapcadlelaa", sum := "89c17a69a3a3dcf3ee0e8eee433f7edc2552c187532bb8713f79d7c3343a6dfc", func := "caucus/caucuslaw06.SealStops", spec := "sealStops", inPlace := ["internal/abi.NoEscape"], unfollowed := true, recurses := true, plainKeys := false, apart := false }
def SealStopsSaid : Prop := sealStopsRow.holds Try.pinned (OpenSpec.ofChange sealStopsSpec)

/-- ITS FALSE NEIGHBOUR: 'it returns false'. Refute it at one input. -/
def sealStopsWrong : ChangeSpec := { name := "sealStops", fn := fun _ => fun
  | [d1, d2, d3] => { results := [.lit (.bool false)], args := [d1, d2, d3] }
  | _ => none }
def SealStopsWrongFalsely : Prop := sealStopsRow.holds Try.pinned (OpenSpec.ofChange sealStopsWrong)

/-- 'caucuslaw06.SealSplits': WHATEVER THE INPUT: true; the input reads as it did. -/
def sealSplitsSpec : ChangeSpec := { name := "sealSplits", fn := fun _ => fun
  | [d1, d2] => { results := [.lit (.bool true)], args := [d1, d2] }
  | _ => none }
def sealSplitsRow : OpenClaim := { program := "ytgbflapcadlelaa", sum := "89c17a69a3a3dcf3ee0e8eee433f7edc2552c187532bb8713f79d7c3343a6dfc", func := "caucus/caucuslaw06.SealSplits", spec := "sealSplits", inPlace := ["internal/abi.NoEscape"], unfollowed := true, recurses := true, plainKeys := false, apart := false }
def SealSplitsSaid : Prop := sealSplitsRow.holds Try.pinned (OpenSpec.ofChange sealSplitsSpec)

/-- ITS FALSE NEIGHBOUR: 'it returns false'. Refute it at one input. -/
def sealSplitsWrong : ChangeSpec := { name := "sealSplits", fn := fun _ => fun
  | [d1, d2] => { results := [.lit (.bool false)], args := [d1, d2] }
  | _ => none }
def SealSplitsWrongFalsely : Prop := sealSplitsRow.holds Try.pinned (OpenSpec.ofChange sealSplitsWrong)

/-- 'caucuslaw06.SealRows': WHATEVER THE INPUT: true; the input reads as it did. -/
def sealRowsSpec : ChangeSpec := { name := "sealRows", fn := fun _ => fun
  | [d1, d2] => { results := [.lit (.bool true)], args := [d1, d2] }
  | _ => none }
def sealRowsRow : OpenClaim := { program := "ytgbflapcadlelaa", sum := "89c17a69a3a3dcf3ee0e8eee433f7edc2552c187532bb8713f79d7c3343a6dfc", func := "caucus/caucuslaw06.SealRows", spec := "sealRows", inPlace := ["internal/abi.NoEscape"], unfollowed := true, recurses := true, plainKeys := false, apart := false }
def SealRowsSaid : Prop := sealRowsRow.holds Try.pinned (OpenSpec.ofChange sealRowsSpec)

/-- ITS FALSE NEIGHBOUR: 'it returns false'. Refute it at one input. -/
def sealRowsWrong : ChangeSpec := { name := "sealRows", fn := fun _ => fun
  | [d1, d2] => { results := [.lit (.bool false)], args := [d1, d2] }
  | _ => none }
def SealRowsWrongFalsely : Prop := sealRowsRow.holds Try.pinned (OpenSpec.ofChange sealRowsWrong)

/- THE SECOND FORM. 'bulk': how many values and letters a reading holds, each counted each time it is reached (what is shared counts as often as it is met; a slice's spare places count too). A statement '..UptoSaid' is the law's where the arguments, and the package variables that the reading takes, are together of bulk at most 1048576: NARROWER than '..Said'. Prove '..Said' where nothing that the law and all that it calls make is longer than what came in: it says more and counts as full. Else prove '..UptoSaid'. A law counts once. -/
mutual
def uptoBulk {H : Type} : DataW H → Nat
  | .lit (.string bytes) => bytes.length + 1
  | .lit _ => 1
  | .nil => 1
  | .ptr d => uptoBulk d + 1
  | .slice elems spare => uptoBulkAll elems + uptoBulkAll spare + 1
  | .agg parts => uptoBulkAll parts + 1
  | .iface _ d => uptoBulk d + 1
  | .map entries => uptoBulkEntries entries + 1
  | .held _ => 1
def uptoBulkAll {H : Type} : List (DataW H) → Nat
  | [] => 0
  | d :: r => uptoBulk d + uptoBulkAll r
def uptoBulkEntries {H : Type} : List (Lit × DataW H) → Nat
  | [] => 0
  | x :: r => uptoBulkEntry x + uptoBulkEntries r
def uptoBulkEntry {H : Type} : Lit × DataW H → Nat
  | (.string bytes, d) => bytes.length + uptoBulk d + 1
  | (_, d) => uptoBulk d + 1
 end
def uptoSmall : (H : Type) → List (DataW H) → Bool := fun _ ds => decide (uptoBulkAll ds ≤ 1048576)
def OpenSpec.upto (s : _root_.Go.ChangeSpec) : _root_.Go.OpenSpec := { _root_.Go.OpenSpec.ofChange s with cond := some uptoSmall }

/-- 'caucuslaw06.SealIs', WHERE WHAT IT READS IS OF BULK AT MOST 1048576: true; the input reads as it did. -/
def sealIsUptoRow : OpenClaim := { program := "ytgbflapcadlelaa", sum := "89c17a69a3a3dcf3ee0e8eee433f7edc2552c187532bb8713f79d7c3343a6dfc", func := "caucus/caucuslaw06.SealIs", spec := "sealIs", plainKeys := false, apart := false, narrowed := true }
def SealIsUptoSaid : Prop := sealIsUptoRow.holds Try.pinned (OpenSpec.upto sealIsSpec)

/-- 'caucuslaw03.ItemRows', WHERE WHAT IT READS IS OF BULK AT MOST 1048576: true; the input reads as it did. -/
def itemRowsUptoRow : OpenClaim := { program := "ytgbflapcadlelaa", sum := "89c17a69a3a3dcf3ee0e8eee433f7edc2552c187532bb8713f79d7c3343a6dfc", func := "caucus/caucuslaw03.ItemRows", spec := "itemRows", unfollowed := true, recurses := true, plainKeys := false, apart := false, narrowed := true }
def ItemRowsUptoSaid : Prop := itemRowsUptoRow.holds Try.pinned (OpenSpec.upto itemRowsSpec)

/-- 'caucuslaw03.ItemStops', WHERE WHAT IT READS IS OF BULK AT MOST 1048576: true; the input reads as it did. -/
def itemStopsUptoRow : OpenClaim := { program := "ytgbflapcadlelaa", sum := "89c17a69a3a3dcf3ee0e8eee433f7edc2552c187532bb8713f79d7c3343a6dfc", func := "caucus/caucuslaw03.ItemStops", spec := "itemStops", unfollowed := true, recurses := true, plainKeys := false, apart := false, narrowed := true }
def ItemStopsUptoSaid : Prop := itemStopsUptoRow.holds Try.pinned (OpenSpec.upto itemStopsSpec)

/-- 'caucuslaw03.ItemLast', WHERE WHAT IT READS IS OF BULK AT MOST 1048576: true; the input reads as it did. -/
def itemLastUptoRow : OpenClaim := { program := "ytgbflapcadlelaa", sum := "89c17a69a3a3dcf3ee0e8eee433f7edc2552c187532bb8713f79d7c3343a6dfc", func := "caucus/caucuslaw03.ItemLast", spec := "itemLast", unfollowed := true, recurses := true, plainKeys := false, apart := false, narrowed := true }
def ItemLastUptoSaid : Prop := itemLastUptoRow.holds Try.pinned (OpenSpec.upto itemLastSpec)

/-- 'caucuslaw03.ItemTop', WHERE WHAT IT READS IS OF BULK AT MOST 1048576: true; the input reads as it did. -/
def itemTopUptoRow : OpenClaim := { program := "ytgbflapcadlelaa", sum := "89c17a69a3a3dcf3ee0e8eee433f7edc2552c187532bb8713f79d7c3343a6dfc", func := "caucus/caucuslaw03.ItemTop", spec := "itemTop", unfollowed := true, recurses := true, plainKeys := false, apart := false, narrowed := true }
def ItemTopUptoSaid : Prop := itemTopUptoRow.holds Try.pinned (OpenSpec.upto itemTopSpec)

/-- 'caucuslaw03.ItemOrder', WHERE WHAT IT READS IS OF BULK AT MOST 1048576: true; the input reads as it did. -/
def itemOrderUptoRow : OpenClaim := { program := "ytgbflapcadlelaa", sum := "89c17a69a3a3dcf3ee0e8eee433f7edc2552c187532bb8713f79d7c3343a6dfc", func := "caucus/caucuslaw03.ItemOrder", spec := "itemOrder", unfollowed := true, recurses := true, plainKeys := false, apart := false, narrowed := true }
def ItemOrderUptoSaid : Prop := itemOrderUptoRow.holds Try.pinned (OpenSpec.upto itemOrderSpec)

/-- 'caucuslaw11.PoolFull', WHERE WHAT IT READS IS OF BULK AT MOST 1048576: true; the input reads as it did. -/
def poolFullUptoRow : OpenClaim := { program := "ytgbflapcadlelaa", sum := "89c17a69a3a3dcf3ee0e8eee433f7edc2552c187532bb8713f79d7c3343a6dfc", func := "caucus/caucuslaw11.PoolFull", spec := "poolFull", plainKeys := false, apart := false, narrowed := true }
def PoolFullUptoSaid : Prop := poolFullUptoRow.holds Try.pinned (OpenSpec.upto poolFullSpec)

/-- 'caucuslaw11.PoolOrder', WHERE WHAT IT READS IS OF BULK AT MOST 1048576: true; the input reads as it did. -/
def poolOrderUptoRow : OpenClaim := { program := "ytgbflapcadlelaa", sum := "89c17a69a3a3dcf3ee0e8eee433f7edc2552c187532bb8713f79d7c3343a6dfc", func := "caucus/caucuslaw11.PoolOrder", spec := "poolOrder", plainKeys := false, apart := false, narrowed := true }
def PoolOrderUptoSaid : Prop := poolOrderUptoRow.holds Try.pinned (OpenSpec.upto poolOrderSpec)

/-- 'caucuslaw11.PoolCuts', WHERE WHAT IT READS IS OF BULK AT MOST 1048576: true; the input reads as it did. -/
def poolCutsUptoRow : OpenClaim := { program := "ytgbflapcadlelaa", sum := "89c17a69a3a3dcf3ee0e8eee433f7edc2552c187532bb8713f79d7c3343a6dfc", func := "caucus/caucuslaw11.PoolCuts", spec := "poolCuts", plainKeys := false, apart := false, narrowed := true }
def PoolCutsUptoSaid : Prop := poolCutsUptoRow.holds Try.pinned (OpenSpec.upto poolCutsSpec)

/-- 'caucuslaw11.PoolNothing', WHERE WHAT IT READS IS OF BULK AT MOST 1048576: true; the input reads as it did. -/
def poolNothingUptoRow : OpenClaim := { program := "ytgbflapcadlelaa", sum := "89c17a69a3a3dcf3ee0e8eee433f7edc2552c187532bb8713f79d7c3343a6dfc", func := "caucus/caucuslaw11.PoolNothing", spec := "poolNothing", plainKeys := false, apart := false, narrowed := true }
def PoolNothingUptoSaid : Prop := poolNothingUptoRow.holds Try.pinned (OpenSpec.upto poolNothingSpec)

/-- 'caucuslaw11.PoolDoes', WHERE WHAT IT READS IS OF BULK AT MOST 1048576: true; the input reads as it did. -/
def poolDoesUptoRow : OpenClaim := { program := "ytgbflapcadlelaa", sum := "89c17a69a3a3dcf3ee0e8eee433f7edc2552c187532bb8713f79d7c3343a6dfc", func := "caucus/caucuslaw11.PoolDoes", spec := "poolDoes", plainKeys := false, apart := false, narrowed := true }
def PoolDoesUptoSaid : Prop := poolDoesUptoRow.holds Try.pinned (OpenSpec.upto poolDoesSpec)

/-- 'caucuslaw06.SealTurned', WHERE WHAT IT READS IS OF BULK AT MOST 1048576: true; the input reads as it did. -/
def sealTurnedUptoRow : OpenClaim := { program := "ytgbflapcadlelaa", sum := "89c17a69a3a3dcf3ee0e8eee433f7edc2552c187532bb8713f79d7c3343a6dfc", func := "caucus/caucuslaw06.SealTurned", spec := "sealTurned", plainKeys := false, apart := false, narrowed := true }
def SealTurnedUptoSaid : Prop := sealTurnedUptoRow.holds Try.pinned (OpenSpec.upto sealTurnedSpec)

/-- 'caucuslaw03.ItemBytes', WHERE WHAT IT READS IS OF BULK AT MOST 1048576: true; the input reads as it did. -/
def itemBytesUptoRow : OpenClaim := { program := "ytgbflapcadlelaa", sum := "89c17a69a3a3dcf3ee0e8eee433f7edc2552c187532bb8713f79d7c3343a6dfc", func := "caucus/caucuslaw03.ItemBytes", spec := "itemBytes", unfollowed := true, recurses := true, plainKeys := false, apart := false, narrowed := true }
def ItemBytesUptoSaid : Prop := itemBytesUptoRow.holds Try.pinned (OpenSpec.upto itemBytesSpec)

/-- 'caucuslaw06.SealOpens', WHERE WHAT IT READS IS OF BULK AT MOST 1048576: true; the input reads as it did. -/
def sealOpensUptoRow : OpenClaim := { program := "ytgbflapcadlelaa", sum := "89c17a69a3a3dcf3ee0e8eee433f7edc2552c187532bb8713f79d7c3343a6dfc", func := "caucus/caucuslaw06.SealOpens", spec := "sealOpens", unfollowed := true, recurses := true, plainKeys := false, apart := false, narrowed := true }
def SealOpensUptoSaid : Prop := sealOpensUptoRow.holds Try.pinned (OpenSpec.upto sealOpensSpec)

/-- 'caucuslaw06.SealStops', WHERE WHAT IT READS IS OF BULK AT MOST 1048576: true; the input reads as it did. -/
def sealStopsUptoRow : OpenClaim := { program := "ytgbflapcadlelaa", sum := "89c17a69a3a3dcf3ee0e8eee433f7edc2552c187532bb8713f79d7c3343a6dfc", func := "caucus/caucuslaw06.SealStops", spec := "sealStops", inPlace := ["internal/abi.NoEscape"], unfollowed := true, recurses := true, plainKeys := false, apart := false, narrowed := true }
def SealStopsUptoSaid : Prop := sealStopsUptoRow.holds Try.pinned (OpenSpec.upto sealStopsSpec)

/-- 'caucuslaw06.SealSplits', WHERE WHAT IT READS IS OF BULK AT MOST 1048576: true; the input reads as it did. -/
def sealSplitsUptoRow : OpenClaim := { program := "ytgbflapcadlelaa", sum := "89c17a69a3a3dcf3ee0e8eee433f7edc2552c187532bb8713f79d7c3343a6dfc", func := "caucus/caucuslaw06.SealSplits", spec := "sealSplits", inPlace := ["internal/abi.NoEscape"], unfollowed := true, recurses := true, plainKeys := false, apart := false, narrowed := true }
def SealSplitsUptoSaid : Prop := sealSplitsUptoRow.holds Try.pinned (OpenSpec.upto sealSplitsSpec)

/-- 'caucuslaw06.SealRows', WHERE WHAT IT READS IS OF BULK AT MOST 1048576: true; the input reads as it did. -/
def sealRowsUptoRow : OpenClaim := { program := "ytgbflapcadlelaa", sum := "89c17a69a3a3dcf3ee0e8eee433f7edc2552c187532bb8713f79d7c3343a6dfc", func := "caucus/caucuslaw06.SealRows", spec := "sealRows", inPlace := ["internal/abi.NoEscape"], unfollowed := true, recurses := true, plainKeys := false, apart := false, narrowed := true }
def SealRowsUptoSaid : Prop := sealRowsUptoRow.holds Try.pinned (OpenSpec.upto sealRowsSpec)

end Rows
end Go.Proofs.Ytgbflapcadlelaa
