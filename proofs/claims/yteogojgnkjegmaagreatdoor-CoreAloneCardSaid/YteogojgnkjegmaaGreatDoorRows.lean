/-
  NARROWER THAN 'FOR EVERY INPUT', by the rows' own cells (each row's printed sentence says how): CoreAgrees: laid · CoreProposed: laid · CoreTold: laid · CoreFast: laid · CoreAlone: laid.
  DERIVED. THE GIVEN ROWS OF THIS SEAT. 5 by the template 'for every input the law returns true; each argument reads behind the call as it read before'; 0 by the template 'total and deterministic' (their statements: YteogojgnkjegmaaGreatDoorTotals.lean).
  GIVEN WITH THE SEED: the statements are not yours to turn. If you find one false, say at which input.
  Laid BY PROGRAM, IN A SANDBOX (cutbox-rows.mjs): the forced cells as the released guide's own fill.sh prints them over the translation 1c5b95b38861762e… (all of the seat's roots in one cut). By AI agents, Wed Nov 11 2026. No macro, syntax, notation, axiom, sorry.
-/
import Derived.Test.YteogojgnkjegmaaGreatDoorChecked
import GoSem.Claim
import GoSem.ClaimJoined
import GoSem.ClaimMapViews
import Derived.JoinedTies
import Derived.KernelRfl
namespace Go.Proofs.YteogojgnkjegmaaGreatDoor
/- THE CELL 'sum', in the pinned program and in every row, IS THE sha256 OF THE DUMP (.gsa) THAT YteogojgnkjegmaaGreatDoorProg.lean LOADS. Nothing in Lean hashes anything: it is a label: what it is worth is what the hold of that sum in a sandbox is worth. -/
noncomputable def Tryz.pinned : Pinned := { name := "yteogojgnkjegmaagreatdoor", sum := "1c5b95b38861762ef7a8ffa0ccbd8cbf58ae7a80ed2670e3653a43169caf8c01", checked := Tryz.checked }
namespace Rows
def none {H : Type} : Left H := { results := [], args := [] }

/- WHAT THE LISTED PACKAGE-LEVEL VARIABLES READ AS WHEN THE CALL BEGINS. Each datum BY PROGRAM (the guide's laid-datum.mjs) off the statement by which the dump's own 'gosem.cut.vars' lays the variable. In a bare row this is a premise. The card (YteogojgnkjegmaaGreatDoorCards.lean) ties it to the program's text. -/
def laid_caucus_mail_kinds {H : Type} : DataW H := .agg [.agg [.lit (.bool false), .lit (.bool false)], .agg [.lit (.bool true), .lit (.bool false)], .agg [.lit (.bool true), .lit (.bool false)], .agg [.lit (.bool true), .lit (.bool false)], .agg [.lit (.bool false), .lit (.bool false)], .agg [.lit (.bool true), .lit (.bool false)], .agg [.lit (.bool false), .lit (.bool false)], .agg [.lit (.bool true), .lit (.bool true)], .agg [.lit (.bool false), .lit (.bool false)]]

/-- 'caucustop.CoreAgrees': WHATEVER THE INPUT: true; the input reads as it did. -/
def coreAgreesSpec : ChangeSpec := { name := "coreAgrees", fn := fun _ => fun
  | [d1, d2] => { results := [.lit (.bool true)], args := [d1, d2] }
  | _ => none }
def coreAgreesRow : OpenClaim := { program := "yteogojgnkjegmaagreatdoor", sum := "1c5b95b38861762ef7a8ffa0ccbd8cbf58ae7a80ed2670e3653a43169caf8c01", func := "caucus/caucustop.CoreAgrees", spec := "coreAgrees", inPlace := ["slices.overlaps[caucus/wheel.spoke[caucus/api.Item]]"], unfollowed := true, recurses := true, named := ["caucus/mail.kinds"], plainKeys := false, apart := false, laid := [("caucus/mail.kinds", laid_caucus_mail_kinds)] }
def CoreAgreesSaid : Prop := coreAgreesRow.holds Tryz.pinned (OpenSpec.ofChange coreAgreesSpec)

/-- ITS FALSE NEIGHBOUR: 'it returns false'. Refute it at one input. -/
def coreAgreesWrong : ChangeSpec := { name := "coreAgrees", fn := fun _ => fun
  | [d1, d2] => { results := [.lit (.bool false)], args := [d1, d2] }
  | _ => none }
def CoreAgreesWrongFalsely : Prop := coreAgreesRow.holds Tryz.pinned (OpenSpec.ofChange coreAgreesWrong)

/-- 'caucustop.CoreProposed': WHATEVER THE INPUT: true; the input reads as it did. -/
def coreProposedSpec : ChangeSpec := { name := "coreProposed", fn := fun _ => fun
  | [d1, d2] => { results := [.lit (.bool true)], args := [d1, d2] }
  | _ => none }
def coreProposedRow : OpenClaim := { program := "yteogojgnkjegmaagreatdoor", sum := "1c5b95b38861762ef7a8ffa0ccbd8cbf58ae7a80ed2670e3653a43169caf8c01", func := "caucus/caucustop.CoreProposed", spec := "coreProposed", inPlace := ["slices.overlaps[caucus/wheel.spoke[caucus/api.Item]]"], unfollowed := true, recurses := true, named := ["caucus/mail.kinds"], plainKeys := false, apart := false, laid := [("caucus/mail.kinds", laid_caucus_mail_kinds)] }
def CoreProposedSaid : Prop := coreProposedRow.holds Tryz.pinned (OpenSpec.ofChange coreProposedSpec)

/-- ITS FALSE NEIGHBOUR: 'it returns false'. Refute it at one input. -/
def coreProposedWrong : ChangeSpec := { name := "coreProposed", fn := fun _ => fun
  | [d1, d2] => { results := [.lit (.bool false)], args := [d1, d2] }
  | _ => none }
def CoreProposedWrongFalsely : Prop := coreProposedRow.holds Tryz.pinned (OpenSpec.ofChange coreProposedWrong)

/-- 'caucustop.CoreTold': WHATEVER THE INPUT: true; the input reads as it did. -/
def coreToldSpec : ChangeSpec := { name := "coreTold", fn := fun _ => fun
  | [d1, d2] => { results := [.lit (.bool true)], args := [d1, d2] }
  | _ => none }
def coreToldRow : OpenClaim := { program := "yteogojgnkjegmaagreatdoor", sum := "1c5b95b38861762ef7a8ffa0ccbd8cbf58ae7a80ed2670e3653a43169caf8c01", func := "caucus/caucustop.CoreTold", spec := "coreTold", inPlace := ["slices.overlaps[caucus/wheel.spoke[caucus/api.Item]]"], unfollowed := true, recurses := true, named := ["caucus/mail.kinds"], plainKeys := false, apart := false, laid := [("caucus/mail.kinds", laid_caucus_mail_kinds)] }
def CoreToldSaid : Prop := coreToldRow.holds Tryz.pinned (OpenSpec.ofChange coreToldSpec)

/-- ITS FALSE NEIGHBOUR: 'it returns false'. Refute it at one input. -/
def coreToldWrong : ChangeSpec := { name := "coreTold", fn := fun _ => fun
  | [d1, d2] => { results := [.lit (.bool false)], args := [d1, d2] }
  | _ => none }
def CoreToldWrongFalsely : Prop := coreToldRow.holds Tryz.pinned (OpenSpec.ofChange coreToldWrong)

/-- 'caucustop.CoreFast': WHATEVER THE INPUT: true; the input reads as it did. -/
def coreFastSpec : ChangeSpec := { name := "coreFast", fn := fun _ => fun
  | [d1, d2, d3, d4, d5] => { results := [.lit (.bool true)], args := [d1, d2, d3, d4, d5] }
  | _ => none }
def coreFastRow : OpenClaim := { program := "yteogojgnkjegmaagreatdoor", sum := "1c5b95b38861762ef7a8ffa0ccbd8cbf58ae7a80ed2670e3653a43169caf8c01", func := "caucus/caucustop.CoreFast", spec := "coreFast", inPlace := ["slices.overlaps[caucus/wheel.spoke[caucus/api.Item]]"], unfollowed := true, recurses := true, named := ["caucus/mail.kinds"], plainKeys := false, apart := false, laid := [("caucus/mail.kinds", laid_caucus_mail_kinds)] }
def CoreFastSaid : Prop := coreFastRow.holds Tryz.pinned (OpenSpec.ofChange coreFastSpec)

/-- ITS FALSE NEIGHBOUR: 'it returns false'. Refute it at one input. -/
def coreFastWrong : ChangeSpec := { name := "coreFast", fn := fun _ => fun
  | [d1, d2, d3, d4, d5] => { results := [.lit (.bool false)], args := [d1, d2, d3, d4, d5] }
  | _ => none }
def CoreFastWrongFalsely : Prop := coreFastRow.holds Tryz.pinned (OpenSpec.ofChange coreFastWrong)

/-- 'caucustop.CoreAlone': WHATEVER THE INPUT: true; the input reads as it did. -/
def coreAloneSpec : ChangeSpec := { name := "coreAlone", fn := fun _ => fun
  | [d1, d2] => { results := [.lit (.bool true)], args := [d1, d2] }
  | _ => none }
def coreAloneRow : OpenClaim := { program := "yteogojgnkjegmaagreatdoor", sum := "1c5b95b38861762ef7a8ffa0ccbd8cbf58ae7a80ed2670e3653a43169caf8c01", func := "caucus/caucustop.CoreAlone", spec := "coreAlone", inPlace := ["slices.overlaps[caucus/wheel.spoke[caucus/api.Item]]"], unfollowed := true, recurses := true, named := ["caucus/mail.kinds"], plainKeys := false, apart := false, laid := [("caucus/mail.kinds", laid_caucus_mail_kinds)] }
def CoreAloneSaid : Prop := coreAloneRow.holds Tryz.pinned (OpenSpec.ofChange coreAloneSpec)

/-- ITS FALSE NEIGHBOUR: 'it returns false'. Refute it at one input. -/
def coreAloneWrong : ChangeSpec := { name := "coreAlone", fn := fun _ => fun
  | [d1, d2] => { results := [.lit (.bool false)], args := [d1, d2] }
  | _ => none }
def CoreAloneWrongFalsely : Prop := coreAloneRow.holds Tryz.pinned (OpenSpec.ofChange coreAloneWrong)

/- THE SECOND FORM. 'bulk': how many values and letters a reading holds, each counted each time it is reached (what is shared counts as often as it is met; a slice's spare places count too). A statement '..UptoSaid' is the law's where the arguments, and the package variables that the reading takes, are together of bulk at most 1048576: NARROWER than '..Said'. Prove '..Said' where nothing that the law and all that it calls make is longer than what came in: it says more and counts as full. Else prove '..UptoSaid'. A law counts once. -/
mutual
def uptoBulk {H : Type} : DataW H → Nat
  | .lit (.string bytes) => bytes.length + 1
  | .lit _ => 1
  | .nil => 1
  | .ptr d => uptoBulk d + 1
  | .slice elems spare => uptoBulkAll elems + uptoBulkAll spare + 1
  | .agg parts => uptoBulkAll parts + 1
  | .iface _ d => uptoBulk d + 1
  | .map entries => uptoBulkEntries entries + 1
  | .held _ => 1
def uptoBulkAll {H : Type} : List (DataW H) → Nat
  | [] => 0
  | d :: r => uptoBulk d + uptoBulkAll r
def uptoBulkEntries {H : Type} : List (Lit × DataW H) → Nat
  | [] => 0
  | x :: r => uptoBulkEntry x + uptoBulkEntries r
def uptoBulkEntry {H : Type} : Lit × DataW H → Nat
  | (.string bytes, d) => bytes.length + uptoBulk d + 1
  | (_, d) => uptoBulk d + 1
 end
def uptoSmall : (H : Type) → List (DataW H) → Bool := fun _ ds => decide (uptoBulkAll ds ≤ 1048576)
def OpenSpec.upto (s : _root_.Go.ChangeSpec) : _root_.Go.OpenSpec := { _root_.Go.OpenSpec.ofChange s with cond := some uptoSmall }

/-- 'caucustop.CoreAgrees', WHERE WHAT IT READS IS OF BULK AT MOST 1048576: true; the input reads as it did. -/
def coreAgreesUptoRow : OpenClaim := { program := "yteogojgnkjegmaagreatdoor", sum := "1c5b95b38861762ef7a8ffa0ccbd8cbf58ae7a80ed2670e3653a43169caf8c01", func := "caucus/caucustop.CoreAgrees", spec := "coreAgrees", inPlace := ["slices.overlaps[caucus/wheel.spoke[caucus/api.Item]]"], unfollowed := true, recurses := true, named := ["caucus/mail.kinds"], plainKeys := false, apart := false, laid := [("caucus/mail.kinds", laid_caucus_mail_kinds)], narrowed := true }
def CoreAgreesUptoSaid : Prop := coreAgreesUptoRow.holds Tryz.pinned (OpenSpec.upto coreAgreesSpec)

/-- 'caucustop.CoreProposed', WHERE WHAT IT READS IS OF BULK AT MOST 1048576: true; the input reads as it did. -/
def coreProposedUptoRow : OpenClaim := { program := "yteogojgnkjegmaagreatdoor", sum := "1c5b95b38861762ef7a8ffa0ccbd8cbf58ae7a80ed2670e3653a43169caf8c01", func := "caucus/caucustop.CoreProposed", spec := "coreProposed", inPlace := ["slices.overlaps[caucus/wheel.spoke[caucus/api.Item]]"], unfollowed := true, recurses := true, named := ["caucus/mail.kinds"], plainKeys := false, apart := false, laid := [("caucus/mail.kinds", laid_caucus_mail_kinds)], narrowed := true }
def CoreProposedUptoSaid : Prop := coreProposedUptoRow.holds Tryz.pinned (OpenSpec.upto coreProposedSpec)

/-- 'caucustop.CoreTold', WHERE WHAT IT READS IS OF BULK AT MOST 1048576: true; the input reads as it did. -/
def coreToldUptoRow : OpenClaim := { program := "yteogojgnkjegmaagreatdoor", sum := "1c5b95b38861762ef7a8ffa0ccbd8cbf58ae7a80ed2670e3653a43169caf8c01", func := "caucus/caucustop.CoreTold", spec := "coreTold", inPlace := ["slices.overlaps[caucus/wheel.spoke[caucus/api.Item]]"], unfollowed := true, recurses := true, named := ["caucus/mail.kinds"], plainKeys := false, apart := false, laid := [("caucus/mail.kinds", laid_caucus_mail_kinds)], narrowed := true }
def CoreToldUptoSaid : Prop := coreToldUptoRow.holds Tryz.pinned (OpenSpec.upto coreToldSpec)

/-- 'caucustop.CoreFast', WHERE WHAT IT READS IS OF BULK AT MOST 1048576: true; the input reads as it did. -/
def coreFastUptoRow : OpenClaim := { program := "yteogojgnkjegmaagreatdoor", sum := "1c5b95b38861762ef7a8ffa0ccbd8cbf58ae7a80ed2670e3653a43169caf8c01", func := "caucus/caucustop.CoreFast", spec := "coreFast", inPlace := ["slices.overlaps[caucus/wheel.spoke[caucus/api.Item]]"], unfollowed := true, recurses := true, named := ["caucus/mail.kinds"], plainKeys := false, apart := false, laid := [("caucus/mail.kinds", laid_caucus_mail_kinds)], narrowed := true }
def CoreFastUptoSaid : Prop := coreFastUptoRow.holds Tryz.pinned (OpenSpec.upto coreFastSpec)

/-- 'caucustop.CoreAlone', WHERE WHAT IT READS IS OF BULK AT MOST 1048576: true; the input reads as it did. -/
def coreAloneUptoRow : OpenClaim := { program := "yteogojgnkjegmaagreatdoor", sum := "1c5b95b38861762ef7a8ffa0ccbd8cbf58ae7a80ed2670e3653a43169caf8c01", func := "caucus/caucustop.CoreAlone", spec := "coreAlone", inPlace := ["slices.overlaps[caucus/wheel.spoke[caucus/api.Item]]"], unfollowed := true, recurses := true, named := ["caucus/mail.kinds"], plainKeys := false, apart := false, laid := [("caucus/mail.kinds", laid_caucus_mail_kinds)], narrowed := true }
def CoreAloneUptoSaid : Prop := coreAloneUptoRow.holds Tryz.pinned (OpenSpec.upto coreAloneSpec)

end Rows
end Go.Proofs.YteogojgnkjegmaaGreatDoor
