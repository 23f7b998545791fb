/-
  No cell of these rows narrows 'for every input' (looked for: loops, veiled, ifaces, maps, wideKeys, modest, calm, conditions, laid).
  DERIVED. THE GIVEN ROWS OF THIS SEAT. 20 by the template 'for every input the law returns true; each argument reads behind the call as it read before'; 0 by the template 'total and deterministic' (their statements: YthoepbbpmdmfeaaTotals.lean).
  GIVEN WITH THE SEED: the statements are not yours to turn. If you find one false, say at which input.
  Laid BY PROGRAM, IN A SANDBOX (cutbox-rows.mjs): the forced cells as the released guide's own fill.sh prints them over the translation 7fcf592368daf250… (all of the seat's roots in one cut). By AI agents, Wed Nov 11 2026. No macro, syntax, notation, axiom, sorry.
-/
import Derived.Test.YthoepbbpmdmfeaaChecked
import GoSem.Claim
import GoSem.ClaimJoined
import GoSem.ClaimMapViews
import Derived.JoinedTies
import Derived.KernelRfl
namespace Go.Proofs.Ythoepbbpmdmfeaa
/- THE CELL 'sum', in the pinned program and in every row, IS THE sha256 OF THE DUMP (.gsa) THAT YthoepbbpmdmfeaaProg.lean LOADS. Nothing in Lean hashes anything: it is a label: what it is worth is what the hold of that sum in a sandbox is worth. -/
noncomputable def Try.pinned : Pinned := { name := "ythoepbbpmdmfeaa", sum := "7fcf592368daf25059109dc7022dc1d8629a0c92048871ac1ea22e71dba1af86", checked := Try.checked }
namespace Rows
def none {H : Type} : Left H := { results := [], args := [] }

/-- 'caucuslaw16.RescueChooses': WHATEVER THE INPUT: true; the input reads as it did. -/
def rescueChoosesSpec : ChangeSpec := { name := "rescueChooses", fn := fun _ => fun
  | [d1, d2, d3] => { results := [.lit (.bool true)], args := [d1, d2, d3] }
  | _ => none }
def rescueChoosesRow : OpenClaim := { program := "ythoepbbpmdmfeaa", sum := "7fcf592368daf25059109dc7022dc1d8629a0c92048871ac1ea22e71dba1af86", func := "caucus/caucuslaw16.RescueChooses", spec := "rescueChooses", plainKeys := false, apart := false }
def RescueChoosesSaid : Prop := rescueChoosesRow.holds Try.pinned (OpenSpec.ofChange rescueChoosesSpec)

/-- ITS FALSE NEIGHBOUR: 'it returns false'. Refute it at one input. -/
def rescueChoosesWrong : ChangeSpec := { name := "rescueChooses", fn := fun _ => fun
  | [d1, d2, d3] => { results := [.lit (.bool false)], args := [d1, d2, d3] }
  | _ => none }
def RescueChoosesWrongFalsely : Prop := rescueChoosesRow.holds Try.pinned (OpenSpec.ofChange rescueChoosesWrong)

/-- 'caucuslaw16.RescueAccepted': WHATEVER THE INPUT: true; the input reads as it did. -/
def rescueAcceptedSpec : ChangeSpec := { name := "rescueAccepted", fn := fun _ => fun
  | [d1, d2, d3, d4, d5, d6, d7] => { results := [.lit (.bool true)], args := [d1, d2, d3, d4, d5, d6, d7] }
  | _ => none }
def rescueAcceptedRow : OpenClaim := { program := "ythoepbbpmdmfeaa", sum := "7fcf592368daf25059109dc7022dc1d8629a0c92048871ac1ea22e71dba1af86", func := "caucus/caucuslaw16.RescueAccepted", spec := "rescueAccepted", plainKeys := false, apart := false }
def RescueAcceptedSaid : Prop := rescueAcceptedRow.holds Try.pinned (OpenSpec.ofChange rescueAcceptedSpec)

/-- ITS FALSE NEIGHBOUR: 'it returns false'. Refute it at one input. -/
def rescueAcceptedWrong : ChangeSpec := { name := "rescueAccepted", fn := fun _ => fun
  | [d1, d2, d3, d4, d5, d6, d7] => { results := [.lit (.bool false)], args := [d1, d2, d3, d4, d5, d6, d7] }
  | _ => none }
def RescueAcceptedWrongFalsely : Prop := rescueAcceptedRow.holds Try.pinned (OpenSpec.ofChange rescueAcceptedWrong)

/-- 'caucuslaw16.RescueFast': WHATEVER THE INPUT: true; the input reads as it did. -/
def rescueFastSpec : ChangeSpec := { name := "rescueFast", fn := fun _ => fun
  | [d1, d2, d3, d4, d5, d6] => { results := [.lit (.bool true)], args := [d1, d2, d3, d4, d5, d6] }
  | _ => none }
def rescueFastRow : OpenClaim := { program := "ythoepbbpmdmfeaa", sum := "7fcf592368daf25059109dc7022dc1d8629a0c92048871ac1ea22e71dba1af86", func := "caucus/caucuslaw16.RescueFast", spec := "rescueFast", plainKeys := false, apart := false }
def RescueFastSaid : Prop := rescueFastRow.holds Try.pinned (OpenSpec.ofChange rescueFastSpec)

/-- ITS FALSE NEIGHBOUR: 'it returns false'. Refute it at one input. -/
def rescueFastWrong : ChangeSpec := { name := "rescueFast", fn := fun _ => fun
  | [d1, d2, d3, d4, d5, d6] => { results := [.lit (.bool false)], args := [d1, d2, d3, d4, d5, d6] }
  | _ => none }
def RescueFastWrongFalsely : Prop := rescueFastRow.holds Try.pinned (OpenSpec.ofChange rescueFastWrong)

/-- 'caucuslaw16.RescueTurned': WHATEVER THE INPUT: true; the input reads as it did. -/
def rescueTurnedSpec : ChangeSpec := { name := "rescueTurned", fn := fun _ => fun
  | [d1, d2, d3, d4] => { results := [.lit (.bool true)], args := [d1, d2, d3, d4] }
  | _ => none }
def rescueTurnedRow : OpenClaim := { program := "ythoepbbpmdmfeaa", sum := "7fcf592368daf25059109dc7022dc1d8629a0c92048871ac1ea22e71dba1af86", func := "caucus/caucuslaw16.RescueTurned", spec := "rescueTurned", plainKeys := false, apart := false }
def RescueTurnedSaid : Prop := rescueTurnedRow.holds Try.pinned (OpenSpec.ofChange rescueTurnedSpec)

/-- ITS FALSE NEIGHBOUR: 'it returns false'. Refute it at one input. -/
def rescueTurnedWrong : ChangeSpec := { name := "rescueTurned", fn := fun _ => fun
  | [d1, d2, d3, d4] => { results := [.lit (.bool false)], args := [d1, d2, d3, d4] }
  | _ => none }
def RescueTurnedWrongFalsely : Prop := rescueTurnedRow.holds Try.pinned (OpenSpec.ofChange rescueTurnedWrong)

/-- 'caucuslaw16.RescueNone': WHATEVER THE INPUT: true; the input reads as it did. -/
def rescueNoneSpec : ChangeSpec := { name := "rescueNone", fn := fun _ => fun
  | [d1, d2, d3, d4, d5] => { results := [.lit (.bool true)], args := [d1, d2, d3, d4, d5] }
  | _ => none }
def rescueNoneRow : OpenClaim := { program := "ythoepbbpmdmfeaa", sum := "7fcf592368daf25059109dc7022dc1d8629a0c92048871ac1ea22e71dba1af86", func := "caucus/caucuslaw16.RescueNone", spec := "rescueNone", plainKeys := false, apart := false }
def RescueNoneSaid : Prop := rescueNoneRow.holds Try.pinned (OpenSpec.ofChange rescueNoneSpec)

/-- ITS FALSE NEIGHBOUR: 'it returns false'. Refute it at one input. -/
def rescueNoneWrong : ChangeSpec := { name := "rescueNone", fn := fun _ => fun
  | [d1, d2, d3, d4, d5] => { results := [.lit (.bool false)], args := [d1, d2, d3, d4, d5] }
  | _ => none }
def RescueNoneWrongFalsely : Prop := rescueNoneRow.holds Try.pinned (OpenSpec.ofChange rescueNoneWrong)

/-- 'caucuslaw14.LeadVotes': WHATEVER THE INPUT: true; the input reads as it did. -/
def leadVotesSpec : ChangeSpec := { name := "leadVotes", fn := fun _ => fun
  | [d1, d2] => { results := [.lit (.bool true)], args := [d1, d2] }
  | _ => none }
def leadVotesRow : OpenClaim := { program := "ythoepbbpmdmfeaa", sum := "7fcf592368daf25059109dc7022dc1d8629a0c92048871ac1ea22e71dba1af86", func := "caucus/caucuslaw14.LeadVotes", spec := "leadVotes", unfollowed := true, recurses := true, plainKeys := false, apart := false }
def LeadVotesSaid : Prop := leadVotesRow.holds Try.pinned (OpenSpec.ofChange leadVotesSpec)

/-- ITS FALSE NEIGHBOUR: 'it returns false'. Refute it at one input. -/
def leadVotesWrong : ChangeSpec := { name := "leadVotes", fn := fun _ => fun
  | [d1, d2] => { results := [.lit (.bool false)], args := [d1, d2] }
  | _ => none }
def LeadVotesWrongFalsely : Prop := leadVotesRow.holds Try.pinned (OpenSpec.ofChange leadVotesWrong)

/-- 'caucuslaw14.LeadTurned': WHATEVER THE INPUT: true; the input reads as it did. -/
def leadTurnedSpec : ChangeSpec := { name := "leadTurned", fn := fun _ => fun
  | [d1, d2, d3] => { results := [.lit (.bool true)], args := [d1, d2, d3] }
  | _ => none }
def leadTurnedRow : OpenClaim := { program := "ythoepbbpmdmfeaa", sum := "7fcf592368daf25059109dc7022dc1d8629a0c92048871ac1ea22e71dba1af86", func := "caucus/caucuslaw14.LeadTurned", spec := "leadTurned", unfollowed := true, recurses := true, plainKeys := false, apart := false }
def LeadTurnedSaid : Prop := leadTurnedRow.holds Try.pinned (OpenSpec.ofChange leadTurnedSpec)

/-- ITS FALSE NEIGHBOUR: 'it returns false'. Refute it at one input. -/
def leadTurnedWrong : ChangeSpec := { name := "leadTurned", fn := fun _ => fun
  | [d1, d2, d3] => { results := [.lit (.bool false)], args := [d1, d2, d3] }
  | _ => none }
def LeadTurnedWrongFalsely : Prop := leadTurnedRow.holds Try.pinned (OpenSpec.ofChange leadTurnedWrong)

/-- 'caucuslaw14.LeadSays': WHATEVER THE INPUT: true; the input reads as it did. -/
def leadSaysSpec : ChangeSpec := { name := "leadSays", fn := fun _ => fun
  | [d1, d2] => { results := [.lit (.bool true)], args := [d1, d2] }
  | _ => none }
def leadSaysRow : OpenClaim := { program := "ythoepbbpmdmfeaa", sum := "7fcf592368daf25059109dc7022dc1d8629a0c92048871ac1ea22e71dba1af86", func := "caucus/caucuslaw14.LeadSays", spec := "leadSays", unfollowed := true, recurses := true, plainKeys := false, apart := false }
def LeadSaysSaid : Prop := leadSaysRow.holds Try.pinned (OpenSpec.ofChange leadSaysSpec)

/-- ITS FALSE NEIGHBOUR: 'it returns false'. Refute it at one input. -/
def leadSaysWrong : ChangeSpec := { name := "leadSays", fn := fun _ => fun
  | [d1, d2] => { results := [.lit (.bool false)], args := [d1, d2] }
  | _ => none }
def LeadSaysWrongFalsely : Prop := leadSaysRow.holds Try.pinned (OpenSpec.ofChange leadSaysWrong)

/-- 'caucuslaw14.LeadQuorums': WHATEVER THE INPUT: true; the input reads as it did. -/
def leadQuorumsSpec : ChangeSpec := { name := "leadQuorums", fn := fun _ => fun
  | [d1, d2] => { results := [.lit (.bool true)], args := [d1, d2] }
  | _ => none }
def leadQuorumsRow : OpenClaim := { program := "ythoepbbpmdmfeaa", sum := "7fcf592368daf25059109dc7022dc1d8629a0c92048871ac1ea22e71dba1af86", func := "caucus/caucuslaw14.LeadQuorums", spec := "leadQuorums", unfollowed := true, recurses := true, plainKeys := false, apart := false }
def LeadQuorumsSaid : Prop := leadQuorumsRow.holds Try.pinned (OpenSpec.ofChange leadQuorumsSpec)

/-- ITS FALSE NEIGHBOUR: 'it returns false'. Refute it at one input. -/
def leadQuorumsWrong : ChangeSpec := { name := "leadQuorums", fn := fun _ => fun
  | [d1, d2] => { results := [.lit (.bool false)], args := [d1, d2] }
  | _ => none }
def LeadQuorumsWrongFalsely : Prop := leadQuorumsRow.holds Try.pinned (OpenSpec.ofChange leadQuorumsWrong)

/-- 'caucuslaw14.LeadEnds': WHATEVER THE INPUT: true; the input reads as it did. -/
def leadEndsSpec : ChangeSpec := { name := "leadEnds", fn := fun _ => fun
  | [d1, d2, d3] => { results := [.lit (.bool true)], args := [d1, d2, d3] }
  | _ => none }
def leadEndsRow : OpenClaim := { program := "ythoepbbpmdmfeaa", sum := "7fcf592368daf25059109dc7022dc1d8629a0c92048871ac1ea22e71dba1af86", func := "caucus/caucuslaw14.LeadEnds", spec := "leadEnds", unfollowed := true, recurses := true, plainKeys := false, apart := false }
def LeadEndsSaid : Prop := leadEndsRow.holds Try.pinned (OpenSpec.ofChange leadEndsSpec)

/-- ITS FALSE NEIGHBOUR: 'it returns false'. Refute it at one input. -/
def leadEndsWrong : ChangeSpec := { name := "leadEnds", fn := fun _ => fun
  | [d1, d2, d3] => { results := [.lit (.bool false)], args := [d1, d2, d3] }
  | _ => none }
def LeadEndsWrongFalsely : Prop := leadEndsRow.holds Try.pinned (OpenSpec.ofChange leadEndsWrong)

/-- 'caucuslaw14.LeadDoes': WHATEVER THE INPUT: true; the input reads as it did. -/
def leadDoesSpec : ChangeSpec := { name := "leadDoes", fn := fun _ => fun
  | [d1, d2] => { results := [.lit (.bool true)], args := [d1, d2] }
  | _ => none }
def leadDoesRow : OpenClaim := { program := "ythoepbbpmdmfeaa", sum := "7fcf592368daf25059109dc7022dc1d8629a0c92048871ac1ea22e71dba1af86", func := "caucus/caucuslaw14.LeadDoes", spec := "leadDoes", unfollowed := true, recurses := true, plainKeys := false, apart := false }
def LeadDoesSaid : Prop := leadDoesRow.holds Try.pinned (OpenSpec.ofChange leadDoesSpec)

/-- ITS FALSE NEIGHBOUR: 'it returns false'. Refute it at one input. -/
def leadDoesWrong : ChangeSpec := { name := "leadDoes", fn := fun _ => fun
  | [d1, d2] => { results := [.lit (.bool false)], args := [d1, d2] }
  | _ => none }
def LeadDoesWrongFalsely : Prop := leadDoesRow.holds Try.pinned (OpenSpec.ofChange leadDoesWrong)

/-- 'caucuslaw10.WheelUntil': WHATEVER THE INPUT: true; the input reads as it did. -/
def wheelUntilSpec : ChangeSpec := { name := "wheelUntil", fn := fun _ => fun
  | [d1, d2, d3, d4] => { results := [.lit (.bool true)], args := [d1, d2, d3, d4] }
  | _ => none }
def wheelUntilRow : OpenClaim := { program := "ythoepbbpmdmfeaa", sum := "7fcf592368daf25059109dc7022dc1d8629a0c92048871ac1ea22e71dba1af86", func := "caucus/caucuslaw10.WheelUntil", spec := "wheelUntil", inPlace := ["slices.overlaps[caucus/wheel.spoke[int]]"], unfollowed := true, recurses := true, plainKeys := false, apart := false }
def WheelUntilSaid : Prop := wheelUntilRow.holds Try.pinned (OpenSpec.ofChange wheelUntilSpec)

/-- ITS FALSE NEIGHBOUR: 'it returns false'. Refute it at one input. -/
def wheelUntilWrong : ChangeSpec := { name := "wheelUntil", fn := fun _ => fun
  | [d1, d2, d3, d4] => { results := [.lit (.bool false)], args := [d1, d2, d3, d4] }
  | _ => none }
def WheelUntilWrongFalsely : Prop := wheelUntilRow.holds Try.pinned (OpenSpec.ofChange wheelUntilWrong)

/-- 'caucuslaw10.WheelSorts': WHATEVER THE INPUT: true; the input reads as it did. -/
def wheelSortsSpec : ChangeSpec := { name := "wheelSorts", fn := fun _ => fun
  | [d] => { results := [.lit (.bool true)], args := [d] }
  | _ => none }
def wheelSortsRow : OpenClaim := { program := "ythoepbbpmdmfeaa", sum := "7fcf592368daf25059109dc7022dc1d8629a0c92048871ac1ea22e71dba1af86", func := "caucus/caucuslaw10.WheelSorts", spec := "wheelSorts", inPlace := ["slices.overlaps[caucus/wheel.spoke[int]]"], unfollowed := true, recurses := true, plainKeys := false, apart := false }
def WheelSortsSaid : Prop := wheelSortsRow.holds Try.pinned (OpenSpec.ofChange wheelSortsSpec)

/-- ITS FALSE NEIGHBOUR: 'it returns false'. Refute it at one input. -/
def wheelSortsWrong : ChangeSpec := { name := "wheelSorts", fn := fun _ => fun
  | [d] => { results := [.lit (.bool false)], args := [d] }
  | _ => none }
def WheelSortsWrongFalsely : Prop := wheelSortsRow.holds Try.pinned (OpenSpec.ofChange wheelSortsWrong)

/-- 'caucuslaw10.WheelStops': WHATEVER THE INPUT: true; the input reads as it did. -/
def wheelStopsSpec : ChangeSpec := { name := "wheelStops", fn := fun _ => fun
  | [d1, d2, d3] => { results := [.lit (.bool true)], args := [d1, d2, d3] }
  | _ => none }
def wheelStopsRow : OpenClaim := { program := "ythoepbbpmdmfeaa", sum := "7fcf592368daf25059109dc7022dc1d8629a0c92048871ac1ea22e71dba1af86", func := "caucus/caucuslaw10.WheelStops", spec := "wheelStops", inPlace := ["slices.overlaps[caucus/wheel.spoke[int]]"], unfollowed := true, recurses := true, plainKeys := false, apart := false }
def WheelStopsSaid : Prop := wheelStopsRow.holds Try.pinned (OpenSpec.ofChange wheelStopsSpec)

/-- ITS FALSE NEIGHBOUR: 'it returns false'. Refute it at one input. -/
def wheelStopsWrong : ChangeSpec := { name := "wheelStops", fn := fun _ => fun
  | [d1, d2, d3] => { results := [.lit (.bool false)], args := [d1, d2, d3] }
  | _ => none }
def WheelStopsWrongFalsely : Prop := wheelStopsRow.holds Try.pinned (OpenSpec.ofChange wheelStopsWrong)

/-- 'caucuslaw10.WheelDoes': WHATEVER THE INPUT: true; the input reads as it did. -/
def wheelDoesSpec : ChangeSpec := { name := "wheelDoes", fn := fun _ => fun
  | [d] => { results := [.lit (.bool true)], args := [d] }
  | _ => none }
def wheelDoesRow : OpenClaim := { program := "ythoepbbpmdmfeaa", sum := "7fcf592368daf25059109dc7022dc1d8629a0c92048871ac1ea22e71dba1af86", func := "caucus/caucuslaw10.WheelDoes", spec := "wheelDoes", inPlace := ["slices.overlaps[caucus/wheel.spoke[int]]"], unfollowed := true, recurses := true, plainKeys := false, apart := false }
def WheelDoesSaid : Prop := wheelDoesRow.holds Try.pinned (OpenSpec.ofChange wheelDoesSpec)

/-- ITS FALSE NEIGHBOUR: 'it returns false'. Refute it at one input. -/
def wheelDoesWrong : ChangeSpec := { name := "wheelDoes", fn := fun _ => fun
  | [d] => { results := [.lit (.bool false)], args := [d] }
  | _ => none }
def WheelDoesWrongFalsely : Prop := wheelDoesRow.holds Try.pinned (OpenSpec.ofChange wheelDoesWrong)

/-- 'caucuslaw10.WheelAgain': WHATEVER THE INPUT: true; the input reads as it did. -/
def wheelAgainSpec : ChangeSpec := { name := "wheelAgain", fn := fun _ => fun
  | [d1, d2, d3] => { results := [.lit (.bool true)], args := [d1, d2, d3] }
  | _ => none }
def wheelAgainRow : OpenClaim := { program := "ythoepbbpmdmfeaa", sum := "7fcf592368daf25059109dc7022dc1d8629a0c92048871ac1ea22e71dba1af86", func := "caucus/caucuslaw10.WheelAgain", spec := "wheelAgain", inPlace := ["slices.overlaps[caucus/wheel.spoke[int]]"], unfollowed := true, recurses := true, plainKeys := false, apart := false }
def WheelAgainSaid : Prop := wheelAgainRow.holds Try.pinned (OpenSpec.ofChange wheelAgainSpec)

/-- ITS FALSE NEIGHBOUR: 'it returns false'. Refute it at one input. -/
def wheelAgainWrong : ChangeSpec := { name := "wheelAgain", fn := fun _ => fun
  | [d1, d2, d3] => { results := [.lit (.bool false)], args := [d1, d2, d3] }
  | _ => none }
def WheelAgainWrongFalsely : Prop := wheelAgainRow.holds Try.pinned (OpenSpec.ofChange wheelAgainWrong)

/-- 'caucuslaw17.PaceWaits': WHATEVER THE INPUT: true; the input reads as it did. -/
def paceWaitsSpec : ChangeSpec := { name := "paceWaits", fn := fun _ => fun
  | [d1, d2, d3, d4, d5] => { results := [.lit (.bool true)], args := [d1, d2, d3, d4, d5] }
  | _ => none }
def paceWaitsRow : OpenClaim := { program := "ythoepbbpmdmfeaa", sum := "7fcf592368daf25059109dc7022dc1d8629a0c92048871ac1ea22e71dba1af86", func := "caucus/caucuslaw17.PaceWaits", spec := "paceWaits", inPlace := ["slices.overlaps[caucus/wheel.spoke[caucus/api.Item]]"], unfollowed := true, recurses := true, plainKeys := false, apart := false }
def PaceWaitsSaid : Prop := paceWaitsRow.holds Try.pinned (OpenSpec.ofChange paceWaitsSpec)

/-- ITS FALSE NEIGHBOUR: 'it returns false'. Refute it at one input. -/
def paceWaitsWrong : ChangeSpec := { name := "paceWaits", fn := fun _ => fun
  | [d1, d2, d3, d4, d5] => { results := [.lit (.bool false)], args := [d1, d2, d3, d4, d5] }
  | _ => none }
def PaceWaitsWrongFalsely : Prop := paceWaitsRow.holds Try.pinned (OpenSpec.ofChange paceWaitsWrong)

/-- 'caucuslaw16.RescueGoes': WHATEVER THE INPUT: true; the input reads as it did. -/
def rescueGoesSpec : ChangeSpec := { name := "rescueGoes", fn := fun _ => fun
  | [d1, d2, d3, d4, d5] => { results := [.lit (.bool true)], args := [d1, d2, d3, d4, d5] }
  | _ => none }
def rescueGoesRow : OpenClaim := { program := "ythoepbbpmdmfeaa", sum := "7fcf592368daf25059109dc7022dc1d8629a0c92048871ac1ea22e71dba1af86", func := "caucus/caucuslaw16.RescueGoes", spec := "rescueGoes", unfollowed := true, recurses := true, plainKeys := false, apart := false }
def RescueGoesSaid : Prop := rescueGoesRow.holds Try.pinned (OpenSpec.ofChange rescueGoesSpec)

/-- ITS FALSE NEIGHBOUR: 'it returns false'. Refute it at one input. -/
def rescueGoesWrong : ChangeSpec := { name := "rescueGoes", fn := fun _ => fun
  | [d1, d2, d3, d4, d5] => { results := [.lit (.bool false)], args := [d1, d2, d3, d4, d5] }
  | _ => none }
def RescueGoesWrongFalsely : Prop := rescueGoesRow.holds Try.pinned (OpenSpec.ofChange rescueGoesWrong)

/-- 'caucuslaw17.PaceGrows': WHATEVER THE INPUT: true; the input reads as it did. -/
def paceGrowsSpec : ChangeSpec := { name := "paceGrows", fn := fun _ => fun
  | [d1, d2, d3, d4, d5] => { results := [.lit (.bool true)], args := [d1, d2, d3, d4, d5] }
  | _ => none }
def paceGrowsRow : OpenClaim := { program := "ythoepbbpmdmfeaa", sum := "7fcf592368daf25059109dc7022dc1d8629a0c92048871ac1ea22e71dba1af86", func := "caucus/caucuslaw17.PaceGrows", spec := "paceGrows", inPlace := ["slices.overlaps[caucus/wheel.spoke[caucus/api.Item]]"], unfollowed := true, recurses := true, plainKeys := false, apart := false }
def PaceGrowsSaid : Prop := paceGrowsRow.holds Try.pinned (OpenSpec.ofChange paceGrowsSpec)

/-- ITS FALSE NEIGHBOUR: 'it returns false'. Refute it at one input. -/
def paceGrowsWrong : ChangeSpec := { name := "paceGrows", fn := fun _ => fun
  | [d1, d2, d3, d4, d5] => { results := [.lit (.bool false)], args := [d1, d2, d3, d4, d5] }
  | _ => none }
def PaceGrowsWrongFalsely : Prop := paceGrowsRow.holds Try.pinned (OpenSpec.ofChange paceGrowsWrong)

/-- 'caucuslaw17.PaceDrops': WHATEVER THE INPUT: true; the input reads as it did. -/
def paceDropsSpec : ChangeSpec := { name := "paceDrops", fn := fun _ => fun
  | [d1, d2, d3, d4, d5] => { results := [.lit (.bool true)], args := [d1, d2, d3, d4, d5] }
  | _ => none }
def paceDropsRow : OpenClaim := { program := "ythoepbbpmdmfeaa", sum := "7fcf592368daf25059109dc7022dc1d8629a0c92048871ac1ea22e71dba1af86", func := "caucus/caucuslaw17.PaceDrops", spec := "paceDrops", inPlace := ["slices.overlaps[caucus/wheel.spoke[caucus/api.Item]]"], unfollowed := true, recurses := true, plainKeys := false, apart := false }
def PaceDropsSaid : Prop := paceDropsRow.holds Try.pinned (OpenSpec.ofChange paceDropsSpec)

/-- ITS FALSE NEIGHBOUR: 'it returns false'. Refute it at one input. -/
def paceDropsWrong : ChangeSpec := { name := "paceDrops", fn := fun _ => fun
  | [d1, d2, d3, d4, d5] => { results := [.lit (.bool false)], args := [d1, d2, d3, d4, d5] }
  | _ => none }
def PaceDropsWrongFalsely : Prop := paceDropsRow.holds Try.pinned (OpenSpec.ofChange paceDropsWrong)

/- THE SECOND FORM. 'bulk': how many values and letters a reading holds, each counted each time it is reached (what is shared counts as often as it is met; a slice's spare places count too). A statement '..UptoSaid' is the law's where the arguments, and the package variables that the reading takes, are together of bulk at most 1048576: NARROWER than '..Said'. Prove '..Said' where nothing that the law and all that it calls make is longer than what came in: it says more and counts as full. Else prove '..UptoSaid'. A law counts once. -/
mutual
def uptoBulk {H : Type} : DataW H → Nat
  | .lit (.string bytes) => bytes.length + 1
  | .lit _ => 1
  | .nil => 1
  | .ptr d => uptoBulk d + 1
  | .slice elems spare => uptoBulkAll elems + uptoBulkAll spare + 1
  | .agg parts => uptoBulkAll parts + 1
  | .iface _ d => uptoBulk d + 1
  | .map entries => uptoBulkEntries entries + 1
  | .held _ => 1
def uptoBulkAll {H : Type} : List (DataW H) → Nat
  | [] => 0
  | d :: r => uptoBulk d + uptoBulkAll r
def uptoBulkEntries {H : Type} : List (Lit × DataW H) → Nat
  | [] => 0
  | x :: r => uptoBulkEntry x + uptoBulkEntries r
def uptoBulkEntry {H : Type} : Lit × DataW H → Nat
  | (.string bytes, d) => bytes.length + uptoBulk d + 1
  | (_, d) => uptoBulk d + 1
 end
def uptoSmall : (H : Type) → List (DataW H) → Bool := fun _ ds => decide (uptoBulkAll ds ≤ 1048576)
def OpenSpec.upto (s : _root_.Go.ChangeSpec) : _root_.Go.OpenSpec := { _root_.Go.OpenSpec.ofChange s with cond := some uptoSmall }

/-- 'caucuslaw16.RescueChooses', WHERE WHAT IT READS IS OF BULK AT MOST 1048576: true; the input reads as it did. -/
def rescueChoosesUptoRow : OpenClaim := { program := "ythoepbbpmdmfeaa", sum := "7fcf592368daf25059109dc7022dc1d8629a0c92048871ac1ea22e71dba1af86", func := "caucus/caucuslaw16.RescueChooses", spec := "rescueChooses", plainKeys := false, apart := false, narrowed := true }
def RescueChoosesUptoSaid : Prop := rescueChoosesUptoRow.holds Try.pinned (OpenSpec.upto rescueChoosesSpec)

/-- 'caucuslaw16.RescueAccepted', WHERE WHAT IT READS IS OF BULK AT MOST 1048576: true; the input reads as it did. -/
def rescueAcceptedUptoRow : OpenClaim := { program := "ythoepbbpmdmfeaa", sum := "7fcf592368daf25059109dc7022dc1d8629a0c92048871ac1ea22e71dba1af86", func := "caucus/caucuslaw16.RescueAccepted", spec := "rescueAccepted", plainKeys := false, apart := false, narrowed := true }
def RescueAcceptedUptoSaid : Prop := rescueAcceptedUptoRow.holds Try.pinned (OpenSpec.upto rescueAcceptedSpec)

/-- 'caucuslaw16.RescueFast', WHERE WHAT IT READS IS OF BULK AT MOST 1048576: true; the input reads as it did. -/
def rescueFastUptoRow : OpenClaim := { program := "ythoepbbpmdmfeaa", sum := "7fcf592368daf25059109dc7022dc1d8629a0c92048871ac1ea22e71dba1af86", func := "caucus/caucuslaw16.RescueFast", spec := "rescueFast", plainKeys := false, apart := false, narrowed := true }
def RescueFastUptoSaid : Prop := rescueFastUptoRow.holds Try.pinned (OpenSpec.upto rescueFastSpec)

/-- 'caucuslaw16.RescueTurned', WHERE WHAT IT READS IS OF BULK AT MOST 1048576: true; the input reads as it did. -/
def rescueTurnedUptoRow : OpenClaim := { program := "ythoepbbpmdmfeaa", sum := "7fcf592368daf25059109dc7022dc1d8629a0c92048871ac1ea22e71dba1af86", func := "caucus/caucuslaw16.RescueTurned", spec := "rescueTurned", plainKeys := false, apart := false, narrowed := true }
def RescueTurnedUptoSaid : Prop := rescueTurnedUptoRow.holds Try.pinned (OpenSpec.upto rescueTurnedSpec)

/-- 'caucuslaw16.RescueNone', WHERE WHAT IT READS IS OF BULK AT MOST 1048576: true; the input reads as it did. -/
def rescueNoneUptoRow : OpenClaim := { program := "ythoepbbpmdmfeaa", sum := "7fcf592368daf25059109dc7022dc1d8629a0c92048871ac1ea22e71dba1af86", func := "caucus/caucuslaw16.RescueNone", spec := "rescueNone", plainKeys := false, apart := false, narrowed := true }
def RescueNoneUptoSaid : Prop := rescueNoneUptoRow.holds Try.pinned (OpenSpec.upto rescueNoneSpec)

/-- 'caucuslaw14.LeadVotes', WHERE WHAT IT READS IS OF BULK AT MOST 1048576: true; the input reads as it did. -/
def leadVotesUptoRow : OpenClaim := { program := "ythoepbbpmdmfeaa", sum := "7fcf592368daf25059109dc7022dc1d8629a0c92048871ac1ea22e71dba1af86", func := "caucus/caucuslaw14.LeadVotes", spec := "leadVotes", unfollowed := true, recurses := true, plainKeys := false, apart := false, narrowed := true }
def LeadVotesUptoSaid : Prop := leadVotesUptoRow.holds Try.pinned (OpenSpec.upto leadVotesSpec)

/-- 'caucuslaw14.LeadTurned', WHERE WHAT IT READS IS OF BULK AT MOST 1048576: true; the input reads as it did. -/
def leadTurnedUptoRow : OpenClaim := { program := "ythoepbbpmdmfeaa", sum := "7fcf592368daf25059109dc7022dc1d8629a0c92048871ac1ea22e71dba1af86", func := "caucus/caucuslaw14.LeadTurned", spec := "leadTurned", unfollowed := true, recurses := true, plainKeys := false, apart := false, narrowed := true }
def LeadTurnedUptoSaid : Prop := leadTurnedUptoRow.holds Try.pinned (OpenSpec.upto leadTurnedSpec)

/-- 'caucuslaw14.LeadSays', WHERE WHAT IT READS IS OF BULK AT MOST 1048576: true; the input reads as it did. -/
def leadSaysUptoRow : OpenClaim := { program := "ythoepbbpmdmfeaa", sum := "7fcf592368daf25059109dc7022dc1d8629a0c92048871ac1ea22e71dba1af86", func := "caucus/caucuslaw14.LeadSays", spec := "leadSays", unfollowed := true, recurses := true, plainKeys := false, apart := false, narrowed := true }
def LeadSaysUptoSaid : Prop := leadSaysUptoRow.holds Try.pinned (OpenSpec.upto leadSaysSpec)

/-- 'caucuslaw14.LeadQuorums', WHERE WHAT IT READS IS OF BULK AT MOST 1048576: true; the input reads as it did. -/
def leadQuorumsUptoRow : OpenClaim := { program := "ythoepbbpmdmfeaa", sum := "7fcf592368daf25059109dc7022dc1d8629a0c92048871ac1ea22e71dba1af86", func := "caucus/caucuslaw14.LeadQuorums", spec := "leadQuorums", unfollowed := true, recurses := true, plainKeys := false, apart := false, narrowed := true }
def LeadQuorumsUptoSaid : Prop := leadQuorumsUptoRow.holds Try.pinned (OpenSpec.upto leadQuorumsSpec)

/-- 'caucuslaw14.LeadEnds', WHERE WHAT IT READS IS OF BULK AT MOST 1048576: true; the input reads as it did. -/
def leadEndsUptoRow : OpenClaim := { program := "ythoepbbpmdmfeaa", sum := "7fcf592368daf25059109dc7022dc1d8629a0c92048871ac1ea22e71dba1af86", func := "caucus/caucuslaw14.LeadEnds", spec := "leadEnds", unfollowed := true, recurses := true, plainKeys := false, apart := false, narrowed := true }
def LeadEndsUptoSaid : Prop := leadEndsUptoRow.holds Try.pinned (OpenSpec.upto leadEndsSpec)

/-- 'caucuslaw14.LeadDoes', WHERE WHAT IT READS IS OF BULK AT MOST 1048576: true; the input reads as it did. -/
def leadDoesUptoRow : OpenClaim := { program := "ythoepbbpmdmfeaa", sum := "7fcf592368daf25059109dc7022dc1d8629a0c92048871ac1ea22e71dba1af86", func := "caucus/caucuslaw14.LeadDoes", spec := "leadDoes", unfollowed := true, recurses := true, plainKeys := false, apart := false, narrowed := true }
def LeadDoesUptoSaid : Prop := leadDoesUptoRow.holds Try.pinned (OpenSpec.upto leadDoesSpec)

/-- 'caucuslaw10.WheelUntil', WHERE WHAT IT READS IS OF BULK AT MOST 1048576: true; the input reads as it did. -/
def wheelUntilUptoRow : OpenClaim := { program := "ythoepbbpmdmfeaa", sum := "7fcf592368daf25059109dc7022dc1d8629a0c92048871ac1ea22e71dba1af86", func := "caucus/caucuslaw10.WheelUntil", spec := "wheelUntil", inPlace := ["slices.overlaps[caucus/wheel.spoke[int]]"], unfollowed := true, recurses := true, plainKeys := false, apart := false, narrowed := true }
def WheelUntilUptoSaid : Prop := wheelUntilUptoRow.holds Try.pinned (OpenSpec.upto wheelUntilSpec)

/-- 'caucuslaw10.WheelSorts', WHERE WHAT IT READS IS OF BULK AT MOST 1048576: true; the input reads as it did. -/
def wheelSortsUptoRow : OpenClaim := { program := "ythoepbbpmdmfeaa", sum := "7fcf592368daf25059109dc7022dc1d8629a0c92048871ac1ea22e71dba1af86", func := "caucus/caucuslaw10.WheelSorts", spec := "wheelSorts", inPlace := ["slices.overlaps[caucus/wheel.spoke[int]]"], unfollowed := true, recurses := true, plainKeys := false, apart := false, narrowed := true }
def WheelSortsUptoSaid : Prop := wheelSortsUptoRow.holds Try.pinned (OpenSpec.upto wheelSortsSpec)

/-- 'caucuslaw10.WheelStops', WHERE WHAT IT READS IS OF BULK AT MOST 1048576: true; the input reads as it did. -/
def wheelStopsUptoRow : OpenClaim := { program := "ythoepbbpmdmfeaa", sum := "7fcf592368daf25059109dc7022dc1d8629a0c92048871ac1ea22e71dba1af86", func := "caucus/caucuslaw10.WheelStops", spec := "wheelStops", inPlace := ["slices.overlaps[caucus/wheel.spoke[int]]"], unfollowed := true, recurses := true, plainKeys := false, apart := false, narrowed := true }
def WheelStopsUptoSaid : Prop := wheelStopsUptoRow.holds Try.pinned (OpenSpec.upto wheelStopsSpec)

/-- 'caucuslaw10.WheelDoes', WHERE WHAT IT READS IS OF BULK AT MOST 1048576: true; the input reads as it did. -/
def wheelDoesUptoRow : OpenClaim := { program := "ythoepbbpmdmfeaa", sum := "7fcf592368daf25059109dc7022dc1d8629a0c92048871ac1ea22e71dba1af86", func := "caucus/caucuslaw10.WheelDoes", spec := "wheelDoes", inPlace := ["slices.overlaps[caucus/wheel.spoke[int]]"], unfollowed := true, recurses := true, plainKeys := false, apart := false, narrowed := true }
def WheelDoesUptoSaid : Prop := wheelDoesUptoRow.holds Try.pinned (OpenSpec.upto wheelDoesSpec)

/-- 'caucuslaw10.WheelAgain', WHERE WHAT IT READS IS OF BULK AT MOST 1048576: true; the input reads as it did. -/
def wheelAgainUptoRow : OpenClaim := { program := "ythoepbbpmdmfeaa", sum := "7fcf592368daf25059109dc7022dc1d8629a0c92048871ac1ea22e71dba1af86", func := "caucus/caucuslaw10.WheelAgain", spec := "wheelAgain", inPlace := ["slices.overlaps[caucus/wheel.spoke[int]]"], unfollowed := true, recurses := true, plainKeys := false, apart := false, narrowed := true }
def WheelAgainUptoSaid : Prop := wheelAgainUptoRow.holds Try.pinned (OpenSpec.upto wheelAgainSpec)

/-- 'caucuslaw17.PaceWaits', WHERE WHAT IT READS IS OF BULK AT MOST 1048576: true; the input reads as it did. -/
def paceWaitsUptoRow : OpenClaim := { program := "ythoepbbpmdmfeaa", sum := "7fcf592368daf25059109dc7022dc1d8629a0c92048871ac1ea22e71dba1af86", func := "caucus/caucuslaw17.PaceWaits", spec := "paceWaits", inPlace := ["slices.overlaps[caucus/wheel.spoke[caucus/api.Item]]"], unfollowed := true, recurses := true, plainKeys := false, apart := false, narrowed := true }
def PaceWaitsUptoSaid : Prop := paceWaitsUptoRow.holds Try.pinned (OpenSpec.upto paceWaitsSpec)

/-- 'caucuslaw16.RescueGoes', WHERE WHAT IT READS IS OF BULK AT MOST 1048576: true; the input reads as it did. -/
def rescueGoesUptoRow : OpenClaim := { program := "ythoepbbpmdmfeaa", sum := "7fcf592368daf25059109dc7022dc1d8629a0c92048871ac1ea22e71dba1af86", func := "caucus/caucuslaw16.RescueGoes", spec := "rescueGoes", unfollowed := true, recurses := true, plainKeys := false, apart := false, narrowed := true }
def RescueGoesUptoSaid : Prop := rescueGoesUptoRow.holds Try.pinned (OpenSpec.upto rescueGoesSpec)

/-- 'caucuslaw17.PaceGrows', WHERE WHAT IT READS IS OF BULK AT MOST 1048576: true; the input reads as it did. -/
def paceGrowsUptoRow : OpenClaim := { program := "ythoepbbpmdmfeaa", sum := "7fcf592368daf25059109dc7022dc1d8629a0c92048871ac1ea22e71dba1af86", func := "caucus/caucuslaw17.PaceGrows", spec := "paceGrows", inPlace := ["slices.overlaps[caucus/wheel.spoke[caucus/api.Item]]"], unfollowed := true, recurses := true, plainKeys := false, apart := false, narrowed := true }
def PaceGrowsUptoSaid : Prop := paceGrowsUptoRow.holds Try.pinned (OpenSpec.upto paceGrowsSpec)

/-- 'caucuslaw17.PaceDrops', WHERE WHAT IT READS IS OF BULK AT MOST 1048576: true; the input reads as it did. -/
def paceDropsUptoRow : OpenClaim := { program := "ythoepbbpmdmfeaa", sum := "7fcf592368daf25059109dc7022dc1d8629a0c92048871ac1ea22e71dba1af86", func := "caucus/caucuslaw17.PaceDrops", spec := "paceDrops", inPlace := ["slices.overlaps[caucus/wheel.spoke[caucus/api.Item]]"], unfollowed := true, recurses := true, plainKeys := false, apart := false, narrowed := true }
def PaceDropsUptoSaid : Prop := paceDropsUptoRow.holds Try.pinned (OpenSpec.upto paceDropsSpec)

end Rows
end Go.Proofs.Ythoepbbpmdmfeaa
