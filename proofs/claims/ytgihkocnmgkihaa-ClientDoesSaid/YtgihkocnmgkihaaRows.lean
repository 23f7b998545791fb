/-
  No cell of these rows narrows 'for every input' (looked for: loops, veiled, ifaces, maps, wideKeys, modest, calm, conditions, laid).
  DERIVED. THE GIVEN ROWS OF THIS SEAT. 9 by the template 'for every input the law returns true; each argument reads behind the call as it read before'; 0 by the template 'total and deterministic' (their statements: YtgihkocnmgkihaaTotals.lean).
  GIVEN WITH THE SEED: the statements are not yours to turn. If you find one false, say at which input.
  Laid BY PROGRAM, IN A SANDBOX (cutbox-rows.mjs): the forced cells as the released guide's own fill.sh prints them over the translation b013399e5596c294… (all of the seat's roots in one cut). By AI agents, Wed Nov 11 2026. No macro, syntax, notation, axiom, sorry.
-/
import Derived.Test.YtgihkocnmgkihaaChecked
import GoSem.Claim
import GoSem.ClaimJoined
import GoSem.ClaimMapViews
import Derived.JoinedTies
import Derived.KernelRfl
namespace Go.Proofs.Ytgihkocnmgkihaa
/- THE CELL 'sum', in the pinned program and in every row, IS THE sha256 OF THE DUMP (.gsa) THAT YtgihkocnmgkihaaProg.lean LOADS. Nothing in Lean hashes anything: it is a label: what it is worth is what the hold of that sum in a sandbox is worth. -/
noncomputable def Try.pinned : Pinned := { name := "ytgihkocnmgkihaa", sum := "b013399e5596c294ae0b7f2d06ad9c0f5c0f380188d2091b01a71f52b1419883", checked := Try.checked }
namespace Rows
def none {H : Type} : Left H := { results := [], args := [] }

/-- 'caucuslaw20.RegistryReads': WHATEVER THE INPUT: true; the input reads as it did. -/
def registryReadsSpec : ChangeSpec := { name := "registryReads", fn := fun _ => fun
  | [d1, d2, d3, d4] => { results := [.lit (.bool true)], args := [d1, d2, d3, d4] }
  | _ => none }
def registryReadsRow : OpenClaim := { program := "ytgihkocnmgkihaa", sum := "b013399e5596c294ae0b7f2d06ad9c0f5c0f380188d2091b01a71f52b1419883", func := "caucus/caucuslaw20.RegistryReads", spec := "registryReads", unfollowed := true, recurses := true, apart := false }
def RegistryReadsSaid : Prop := registryReadsRow.holds Try.pinned (OpenSpec.ofChange registryReadsSpec)

/-- ITS FALSE NEIGHBOUR: 'it returns false'. Refute it at one input. -/
def registryReadsWrong : ChangeSpec := { name := "registryReads", fn := fun _ => fun
  | [d1, d2, d3, d4] => { results := [.lit (.bool false)], args := [d1, d2, d3, d4] }
  | _ => none }
def RegistryReadsWrongFalsely : Prop := registryReadsRow.holds Try.pinned (OpenSpec.ofChange registryReadsWrong)

/-- 'caucuslaw20.RegistrySame': WHATEVER THE INPUT: true; the input reads as it did. -/
def registrySameSpec : ChangeSpec := { name := "registrySame", fn := fun _ => fun
  | [d1, d2] => { results := [.lit (.bool true)], args := [d1, d2] }
  | _ => none }
def registrySameRow : OpenClaim := { program := "ytgihkocnmgkihaa", sum := "b013399e5596c294ae0b7f2d06ad9c0f5c0f380188d2091b01a71f52b1419883", func := "caucus/caucuslaw20.RegistrySame", spec := "registrySame", unfollowed := true, recurses := true, apart := false }
def RegistrySameSaid : Prop := registrySameRow.holds Try.pinned (OpenSpec.ofChange registrySameSpec)

/-- ITS FALSE NEIGHBOUR: 'it returns false'. Refute it at one input. -/
def registrySameWrong : ChangeSpec := { name := "registrySame", fn := fun _ => fun
  | [d1, d2] => { results := [.lit (.bool false)], args := [d1, d2] }
  | _ => none }
def RegistrySameWrongFalsely : Prop := registrySameRow.holds Try.pinned (OpenSpec.ofChange registrySameWrong)

/-- 'caucuslaw20.RegistryDoes': WHATEVER THE INPUT: true; the input reads as it did. -/
def registryDoesSpec : ChangeSpec := { name := "registryDoes", fn := fun _ => fun
  | [d1, d2] => { results := [.lit (.bool true)], args := [d1, d2] }
  | _ => none }
def registryDoesRow : OpenClaim := { program := "ytgihkocnmgkihaa", sum := "b013399e5596c294ae0b7f2d06ad9c0f5c0f380188d2091b01a71f52b1419883", func := "caucus/caucuslaw20.RegistryDoes", spec := "registryDoes", unfollowed := true, recurses := true, apart := false }
def RegistryDoesSaid : Prop := registryDoesRow.holds Try.pinned (OpenSpec.ofChange registryDoesSpec)

/-- ITS FALSE NEIGHBOUR: 'it returns false'. Refute it at one input. -/
def registryDoesWrong : ChangeSpec := { name := "registryDoes", fn := fun _ => fun
  | [d1, d2] => { results := [.lit (.bool false)], args := [d1, d2] }
  | _ => none }
def RegistryDoesWrongFalsely : Prop := registryDoesRow.holds Try.pinned (OpenSpec.ofChange registryDoesWrong)

/-- 'caucuslaw20.RegistryApart': WHATEVER THE INPUT: true; the input reads as it did. -/
def registryApartSpec : ChangeSpec := { name := "registryApart", fn := fun _ => fun
  | [d1, d2, d3] => { results := [.lit (.bool true)], args := [d1, d2, d3] }
  | _ => none }
def registryApartRow : OpenClaim := { program := "ytgihkocnmgkihaa", sum := "b013399e5596c294ae0b7f2d06ad9c0f5c0f380188d2091b01a71f52b1419883", func := "caucus/caucuslaw20.RegistryApart", spec := "registryApart", unfollowed := true, recurses := true, apart := false }
def RegistryApartSaid : Prop := registryApartRow.holds Try.pinned (OpenSpec.ofChange registryApartSpec)

/-- ITS FALSE NEIGHBOUR: 'it returns false'. Refute it at one input. -/
def registryApartWrong : ChangeSpec := { name := "registryApart", fn := fun _ => fun
  | [d1, d2, d3] => { results := [.lit (.bool false)], args := [d1, d2, d3] }
  | _ => none }
def RegistryApartWrongFalsely : Prop := registryApartRow.holds Try.pinned (OpenSpec.ofChange registryApartWrong)

/-- 'caucuslaw20.RegistryVersions': WHATEVER THE INPUT: true; the input reads as it did. -/
def registryVersionsSpec : ChangeSpec := { name := "registryVersions", fn := fun _ => fun
  | [d1, d2] => { results := [.lit (.bool true)], args := [d1, d2] }
  | _ => none }
def registryVersionsRow : OpenClaim := { program := "ytgihkocnmgkihaa", sum := "b013399e5596c294ae0b7f2d06ad9c0f5c0f380188d2091b01a71f52b1419883", func := "caucus/caucuslaw20.RegistryVersions", spec := "registryVersions", unfollowed := true, recurses := true, apart := false }
def RegistryVersionsSaid : Prop := registryVersionsRow.holds Try.pinned (OpenSpec.ofChange registryVersionsSpec)

/-- ITS FALSE NEIGHBOUR: 'it returns false'. Refute it at one input. -/
def registryVersionsWrong : ChangeSpec := { name := "registryVersions", fn := fun _ => fun
  | [d1, d2] => { results := [.lit (.bool false)], args := [d1, d2] }
  | _ => none }
def RegistryVersionsWrongFalsely : Prop := registryVersionsRow.holds Try.pinned (OpenSpec.ofChange registryVersionsWrong)

/-- 'caucuslaw21.ClientFresh': WHATEVER THE INPUT: true; the input reads as it did. -/
def clientFreshSpec : ChangeSpec := { name := "clientFresh", fn := fun _ => fun
  | [d1, d2] => { results := [.lit (.bool true)], args := [d1, d2] }
  | _ => none }
def clientFreshRow : OpenClaim := { program := "ytgihkocnmgkihaa", sum := "b013399e5596c294ae0b7f2d06ad9c0f5c0f380188d2091b01a71f52b1419883", func := "caucus/caucuslaw21.ClientFresh", spec := "clientFresh", unfollowed := true, recurses := true, apart := false }
def ClientFreshSaid : Prop := clientFreshRow.holds Try.pinned (OpenSpec.ofChange clientFreshSpec)

/-- ITS FALSE NEIGHBOUR: 'it returns false'. Refute it at one input. -/
def clientFreshWrong : ChangeSpec := { name := "clientFresh", fn := fun _ => fun
  | [d1, d2] => { results := [.lit (.bool false)], args := [d1, d2] }
  | _ => none }
def ClientFreshWrongFalsely : Prop := clientFreshRow.holds Try.pinned (OpenSpec.ofChange clientFreshWrong)

/-- 'caucuslaw21.ClientDoes': WHATEVER THE INPUT: true; the input reads as it did. -/
def clientDoesSpec : ChangeSpec := { name := "clientDoes", fn := fun _ => fun
  | [d1, d2] => { results := [.lit (.bool true)], args := [d1, d2] }
  | _ => none }
def clientDoesRow : OpenClaim := { program := "ytgihkocnmgkihaa", sum := "b013399e5596c294ae0b7f2d06ad9c0f5c0f380188d2091b01a71f52b1419883", func := "caucus/caucuslaw21.ClientDoes", spec := "clientDoes", unfollowed := true, recurses := true, apart := false }
def ClientDoesSaid : Prop := clientDoesRow.holds Try.pinned (OpenSpec.ofChange clientDoesSpec)

/-- ITS FALSE NEIGHBOUR: 'it returns false'. Refute it at one input. -/
def clientDoesWrong : ChangeSpec := { name := "clientDoes", fn := fun _ => fun
  | [d1, d2] => { results := [.lit (.bool false)], args := [d1, d2] }
  | _ => none }
def ClientDoesWrongFalsely : Prop := clientDoesRow.holds Try.pinned (OpenSpec.ofChange clientDoesWrong)

/-- 'caucuslaw21.ClientOnce': WHATEVER THE INPUT: true; the input reads as it did. -/
def clientOnceSpec : ChangeSpec := { name := "clientOnce", fn := fun _ => fun
  | [d] => { results := [.lit (.bool true)], args := [d] }
  | _ => none }
def clientOnceRow : OpenClaim := { program := "ytgihkocnmgkihaa", sum := "b013399e5596c294ae0b7f2d06ad9c0f5c0f380188d2091b01a71f52b1419883", func := "caucus/caucuslaw21.ClientOnce", spec := "clientOnce", unfollowed := true, recurses := true, apart := false }
def ClientOnceSaid : Prop := clientOnceRow.holds Try.pinned (OpenSpec.ofChange clientOnceSpec)

/-- ITS FALSE NEIGHBOUR: 'it returns false'. Refute it at one input. -/
def clientOnceWrong : ChangeSpec := { name := "clientOnce", fn := fun _ => fun
  | [d] => { results := [.lit (.bool false)], args := [d] }
  | _ => none }
def ClientOnceWrongFalsely : Prop := clientOnceRow.holds Try.pinned (OpenSpec.ofChange clientOnceWrong)

/-- 'caucuslaw21.ClientApart': WHATEVER THE INPUT: true; the input reads as it did. -/
def clientApartSpec : ChangeSpec := { name := "clientApart", fn := fun _ => fun
  | [d1, d2, d3] => { results := [.lit (.bool true)], args := [d1, d2, d3] }
  | _ => none }
def clientApartRow : OpenClaim := { program := "ytgihkocnmgkihaa", sum := "b013399e5596c294ae0b7f2d06ad9c0f5c0f380188d2091b01a71f52b1419883", func := "caucus/caucuslaw21.ClientApart", spec := "clientApart", unfollowed := true, recurses := true, apart := false }
def ClientApartSaid : Prop := clientApartRow.holds Try.pinned (OpenSpec.ofChange clientApartSpec)

/-- ITS FALSE NEIGHBOUR: 'it returns false'. Refute it at one input. -/
def clientApartWrong : ChangeSpec := { name := "clientApart", fn := fun _ => fun
  | [d1, d2, d3] => { results := [.lit (.bool false)], args := [d1, d2, d3] }
  | _ => none }
def ClientApartWrongFalsely : Prop := clientApartRow.holds Try.pinned (OpenSpec.ofChange clientApartWrong)

/- THE SECOND FORM. 'bulk': how many values and letters a reading holds, each counted each time it is reached (what is shared counts as often as it is met; a slice's spare places count too). A statement '..UptoSaid' is the law's where the arguments, and the package variables that the reading takes, are together of bulk at most 1048576: NARROWER than '..Said'. Prove '..Said' where nothing that the law and all that it calls make is longer than what came in: it says more and counts as full. Else prove '..UptoSaid'. A law counts once. -/
mutual
def uptoBulk {H : Type} : DataW H → Nat
  | .lit (.string bytes) => bytes.length + 1
  | .lit _ => 1
  | .nil => 1
  | .ptr d => uptoBulk d + 1
  | .slice elems spare => uptoBulkAll elems + uptoBulkAll spare + 1
  | .agg parts => uptoBulkAll parts + 1
  | .iface _ d => uptoBulk d + 1
  | .map entries => uptoBulkEntries entries + 1
  | .held _ => 1
def uptoBulkAll {H : Type} : List (DataW H) → Nat
  | [] => 0
  | d :: r => uptoBulk d + uptoBulkAll r
def uptoBulkEntries {H : Type} : List (Lit × DataW H) → Nat
  | [] => 0
  | x :: r => uptoBulkEntry x + uptoBulkEntries r
def uptoBulkEntry {H : Type} : Lit × DataW H → Nat
  | (.string bytes, d) => bytes.length + uptoBulk d + 1
  | (_, d) => uptoBulk d + 1
 end
def uptoSmall : (H : Type) → List (DataW H) → Bool := fun _ ds => decide (uptoBulkAll ds ≤ 1048576)
def OpenSpec.upto (s : _root_.Go.ChangeSpec) : _root_.Go.OpenSpec := { _root_.Go.OpenSpec.ofChange s with cond := some uptoSmall }

/-- 'caucuslaw20.RegistryReads', WHERE WHAT IT READS IS OF BULK AT MOST 1048576: true; the input reads as it did. -/
def registryReadsUptoRow : OpenClaim := { program := "ytgihkocnmgkihaa", sum := "b013399e5596c294ae0b7f2d06ad9c0f5c0f380188d2091b01a71f52b1419883", func := "caucus/caucuslaw20.RegistryReads", spec := "registryReads", unfollowed := true, recurses := true, apart := false, narrowed := true }
def RegistryReadsUptoSaid : Prop := registryReadsUptoRow.holds Try.pinned (OpenSpec.upto registryReadsSpec)

/-- 'caucuslaw20.RegistrySame', WHERE WHAT IT READS IS OF BULK AT MOST 1048576: true; the input reads as it did. -/
def registrySameUptoRow : OpenClaim := { program := "ytgihkocnmgkihaa", sum := "b013399e5596c294ae0b7f2d06ad9c0f5c0f380188d2091b01a71f52b1419883", func := "caucus/caucuslaw20.RegistrySame", spec := "registrySame", unfollowed := true, recurses := true, apart := false, narrowed := true }
def RegistrySameUptoSaid : Prop := registrySameUptoRow.holds Try.pinned (OpenSpec.upto registrySameSpec)

/-- 'caucuslaw20.RegistryDoes', WHERE WHAT IT READS IS OF BULK AT MOST 1048576: true; the input reads as it did. -/
def registryDoesUptoRow : OpenClaim := { program := "ytgihkocnmgkihaa", sum := "b013399e5596c294ae0b7f2d06ad9c0f5c0f380188d2091b01a71f52b1419883", func := "caucus/caucuslaw20.RegistryDoes", spec := "registryDoes", unfollowed := true, recurses := true, apart := false, narrowed := true }
def RegistryDoesUptoSaid : Prop := registryDoesUptoRow.holds Try.pinned (OpenSpec.upto registryDoesSpec)

/-- 'caucuslaw20.RegistryApart', WHERE WHAT IT READS IS OF BULK AT MOST 1048576: true; the input reads as it did. -/
def registryApartUptoRow : OpenClaim := { program := "ytgihkocnmgkihaa", sum := "b013399e5596c294ae0b7f2d06ad9c0f5c0f380188d2091b01a71f52b1419883", func := "caucus/caucuslaw20.RegistryApart", spec := "registryApart", unfollowed := true, recurses := true, apart := false, narrowed := true }
def RegistryApartUptoSaid : Prop := registryApartUptoRow.holds Try.pinned (OpenSpec.upto registryApartSpec)

/-- 'caucuslaw20.RegistryVersions', WHERE WHAT IT READS IS OF BULK AT MOST 1048576: true; the input reads as it did. -/
def registryVersionsUptoRow : OpenClaim := { program := "ytgihkocnmgkihaa", sum := "b013399e5596c294ae0b7f2d06ad9c0f5c0f380188d2091b01a71f52b1419883", func := "caucus/caucuslaw20.RegistryVersions", spec := "registryVersions", unfollowed := true, recurses := true, apart := false, narrowed := true }
def RegistryVersionsUptoSaid : Prop := registryVersionsUptoRow.holds Try.pinned (OpenSpec.upto registryVersionsSpec)

/-- 'caucuslaw21.ClientFresh', WHERE WHAT IT READS IS OF BULK AT MOST 1048576: true; the input reads as it did. -/
def clientFreshUptoRow : OpenClaim := { program := "ytgihkocnmgkihaa", sum := "b013399e5596c294ae0b7f2d06ad9c0f5c0f380188d2091b01a71f52b1419883", func := "caucus/caucuslaw21.ClientFresh", spec := "clientFresh", unfollowed := true, recurses := true, apart := false, narrowed := true }
def ClientFreshUptoSaid : Prop := clientFreshUptoRow.holds Try.pinned (OpenSpec.upto clientFreshSpec)

/-- 'caucuslaw21.ClientDoes', WHERE WHAT IT READS IS OF BULK AT MOST 1048576: true; the input reads as it did. -/
def clientDoesUptoRow : OpenClaim := { program := "ytgihkocnmgkihaa", sum := "b013399e5596c294ae0b7f2d06ad9c0f5c0f380188d2091b01a71f52b1419883", func := "caucus/caucuslaw21.ClientDoes", spec := "clientDoes", unfollowed := true, recurses := true, apart := false, narrowed := true }
def ClientDoesUptoSaid : Prop := clientDoesUptoRow.holds Try.pinned (OpenSpec.upto clientDoesSpec)

/-- 'caucuslaw21.ClientOnce', WHERE WHAT IT READS IS OF BULK AT MOST 1048576: true; the input reads as it did. -/
def clientOnceUptoRow : OpenClaim := { program := "ytgihkocnmgkihaa", sum := "b013399e5596c294ae0b7f2d06ad9c0f5c0f380188d2091b01a71f52b1419883", func := "caucus/caucuslaw21.ClientOnce", spec := "clientOnce", unfollowed := true, recurses := true, apart := false, narrowed := true }
def ClientOnceUptoSaid : Prop := clientOnceUptoRow.holds Try.pinned (OpenSpec.upto clientOnceSpec)

/-- 'caucuslaw21.ClientApart', WHERE WHAT IT READS IS OF BULK AT MOST 1048576: true; the input reads as it did. -/
def clientApartUptoRow : OpenClaim := { program := "ytgihkocnmgkihaa", sum := "b013399e5596c294ae0b7f2d06ad9c0f5c0f380188d2091b01a71f52b1419883", func := "caucus/caucuslaw21.ClientApart", spec := "clientApart", unfollowed := true, recurses := true, apart := false, narrowed := true }
def ClientApartUptoSaid : Prop := clientApartUptoRow.holds Try.pinned (OpenSpec.upto clientApartSpec)

end Rows
end Go.Proofs.Ytgihkocnmgkihaa
