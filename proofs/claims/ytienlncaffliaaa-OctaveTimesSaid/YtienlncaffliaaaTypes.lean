/-
  The types of this seat's program as Lean structures, their cells, and the program's tables. Written by a program of ours (gentypes.py).
-/
import Derived.Test.YtienlncaffliaaaRows
import Derived.Test.YtienlncaffliaaaHeap
namespace Go.Proofs.Ytienlncaffliaaa
open Go.HL

structure OctaveSink where
  out : Go.Value
def OctaveSink.c (x : OctaveSink) : List Go.Value := [x.out]
def OctaveSink.z : OctaveSink := ⟨.slice none 0 0⟩
instance : Inhabited OctaveSink := ⟨OctaveSink.z⟩
theorem OctaveSink.len (x : OctaveSink) : x.c.length = 1 := rfl
instance (x : OctaveSink) : SegOf 0 1 x.c x.c := ⟨rfl⟩
instance (x y : OctaveSink) : SplOf 0 x.c y.c x.c := ⟨rfl⟩
instance (x : OctaveSink) (y : Go.Value) : SplOf 0 [y] x.c ({ x with out := y } : OctaveSink).c := ⟨rfl⟩

structure TBallot where
  Round : Int
  Rep : Int
  deriving DecidableEq
def TBallot.c (x : TBallot) : List Go.Value := [.int .i64 x.Round, .int .i64 x.Rep]
def TBallot.z : TBallot := ⟨0, 0⟩
instance : Inhabited TBallot := ⟨TBallot.z⟩
theorem TBallot.ones : Ones TBallot.c := fun _ => rfl
theorem TBallot.len (x : TBallot) : x.c.length = 2 := rfl
instance (x : TBallot) : SegOf 0 2 x.c x.c := ⟨rfl⟩
instance (x y : TBallot) : SplOf 0 x.c y.c x.c := ⟨rfl⟩
instance (x : TBallot) (y : Int) : SplOf 0 [.int .i64 y] x.c ({ x with Round := y } : TBallot).c := ⟨rfl⟩
instance (x : TBallot) (y : Int) : SplOf 1 [.int .i64 y] x.c ({ x with Rep := y } : TBallot).c := ⟨rfl⟩

structure TDeed where
  Kind : Int
  Key : List UInt8
  Value : List UInt8
  Version : Int
  Session : Int
  Number : Int
  deriving DecidableEq
def TDeed.c (x : TDeed) : List Go.Value := [.int .i64 x.Kind, S x.Key, S x.Value, .int .i64 x.Version, .int .i64 x.Session, .int .i64 x.Number]
def TDeed.z : TDeed := ⟨0, [], [], 0, 0, 0⟩
instance : Inhabited TDeed := ⟨TDeed.z⟩
theorem TDeed.ones : Ones TDeed.c := fun _ => rfl
theorem TDeed.len (x : TDeed) : x.c.length = 6 := rfl
instance (x : TDeed) : SegOf 0 6 x.c x.c := ⟨rfl⟩
instance (x y : TDeed) : SplOf 0 x.c y.c x.c := ⟨rfl⟩
instance (x : TDeed) (y : Int) : SplOf 0 [.int .i64 y] x.c ({ x with Kind := y } : TDeed).c := ⟨rfl⟩
instance (x : TDeed) (y : List UInt8) : SplOf 1 [S y] x.c ({ x with Key := y } : TDeed).c := ⟨rfl⟩
instance (x : TDeed) (y : List UInt8) : SplOf 2 [S y] x.c ({ x with Value := y } : TDeed).c := ⟨rfl⟩
instance (x : TDeed) (y : Int) : SplOf 3 [.int .i64 y] x.c ({ x with Version := y } : TDeed).c := ⟨rfl⟩
instance (x : TDeed) (y : Int) : SplOf 4 [.int .i64 y] x.c ({ x with Session := y } : TDeed).c := ⟨rfl⟩
instance (x : TDeed) (y : Int) : SplOf 5 [.int .i64 y] x.c ({ x with Number := y } : TDeed).c := ⟨rfl⟩

structure TDeps where
  e0 : Int
  e1 : Int
  e2 : Int
  e3 : Int
  e4 : Int
  e5 : Int
  e6 : Int
  deriving DecidableEq
def TDeps.c (x : TDeps) : List Go.Value := [.int .i64 x.e0, .int .i64 x.e1, .int .i64 x.e2, .int .i64 x.e3, .int .i64 x.e4, .int .i64 x.e5, .int .i64 x.e6]
def TDeps.z : TDeps := ⟨0, 0, 0, 0, 0, 0, 0⟩
instance : Inhabited TDeps := ⟨TDeps.z⟩
theorem TDeps.ones : Ones TDeps.c := fun _ => rfl
theorem TDeps.len (x : TDeps) : x.c.length = 7 := rfl
instance (x : TDeps) : SegOf 0 7 x.c x.c := ⟨rfl⟩
instance (x y : TDeps) : SplOf 0 x.c y.c x.c := ⟨rfl⟩
instance (x : TDeps) (y : Int) : SplOf 0 [.int .i64 y] x.c ({ x with e0 := y } : TDeps).c := ⟨rfl⟩
instance (x : TDeps) (y : Int) : SplOf 1 [.int .i64 y] x.c ({ x with e1 := y } : TDeps).c := ⟨rfl⟩
instance (x : TDeps) (y : Int) : SplOf 2 [.int .i64 y] x.c ({ x with e2 := y } : TDeps).c := ⟨rfl⟩
instance (x : TDeps) (y : Int) : SplOf 3 [.int .i64 y] x.c ({ x with e3 := y } : TDeps).c := ⟨rfl⟩
instance (x : TDeps) (y : Int) : SplOf 4 [.int .i64 y] x.c ({ x with e4 := y } : TDeps).c := ⟨rfl⟩
instance (x : TDeps) (y : Int) : SplOf 5 [.int .i64 y] x.c ({ x with e5 := y } : TDeps).c := ⟨rfl⟩
instance (x : TDeps) (y : Int) : SplOf 6 [.int .i64 y] x.c ({ x with e6 := y } : TDeps).c := ⟨rfl⟩

structure TCall where
  Deed : TDeed
  Deps : TDeps
  Seq : Int
  deriving DecidableEq
def TCall.c (x : TCall) : List Go.Value := x.Deed.c ++ (x.Deps.c ++ ([.int .i64 x.Seq]))
def TCall.z : TCall := ⟨TDeed.z, TDeps.z, 0⟩
instance : Inhabited TCall := ⟨TCall.z⟩
theorem TCall.ones : Ones TCall.c := fun _ => rfl
theorem TCall.len (x : TCall) : x.c.length = 14 := rfl
instance (x : TCall) : SegOf 0 14 x.c x.c := ⟨rfl⟩
instance (x y : TCall) : SplOf 0 x.c y.c x.c := ⟨rfl⟩
instance (x : TCall) : SegOf 0 6 x.c x.Deed.c := ⟨rfl⟩
instance (x : TCall) (y : TDeed) : SplOf 0 y.c x.c ({ x with Deed := y } : TCall).c := ⟨rfl⟩
instance (x : TCall) (y : Int) : SplOf 0 [.int .i64 y] x.c ({ x with Deed := { x.Deed with Kind := y } } : TCall).c := ⟨rfl⟩
instance (x : TCall) (y : List UInt8) : SplOf 1 [S y] x.c ({ x with Deed := { x.Deed with Key := y } } : TCall).c := ⟨rfl⟩
instance (x : TCall) (y : List UInt8) : SplOf 2 [S y] x.c ({ x with Deed := { x.Deed with Value := y } } : TCall).c := ⟨rfl⟩
instance (x : TCall) (y : Int) : SplOf 3 [.int .i64 y] x.c ({ x with Deed := { x.Deed with Version := y } } : TCall).c := ⟨rfl⟩
instance (x : TCall) (y : Int) : SplOf 4 [.int .i64 y] x.c ({ x with Deed := { x.Deed with Session := y } } : TCall).c := ⟨rfl⟩
instance (x : TCall) (y : Int) : SplOf 5 [.int .i64 y] x.c ({ x with Deed := { x.Deed with Number := y } } : TCall).c := ⟨rfl⟩
instance (x : TCall) : SegOf 6 7 x.c x.Deps.c := ⟨rfl⟩
instance (x : TCall) (y : TDeps) : SplOf 6 y.c x.c ({ x with Deps := y } : TCall).c := ⟨rfl⟩
instance (x : TCall) (y : Int) : SplOf 6 [.int .i64 y] x.c ({ x with Deps := { x.Deps with e0 := y } } : TCall).c := ⟨rfl⟩
instance (x : TCall) (y : Int) : SplOf 7 [.int .i64 y] x.c ({ x with Deps := { x.Deps with e1 := y } } : TCall).c := ⟨rfl⟩
instance (x : TCall) (y : Int) : SplOf 8 [.int .i64 y] x.c ({ x with Deps := { x.Deps with e2 := y } } : TCall).c := ⟨rfl⟩
instance (x : TCall) (y : Int) : SplOf 9 [.int .i64 y] x.c ({ x with Deps := { x.Deps with e3 := y } } : TCall).c := ⟨rfl⟩
instance (x : TCall) (y : Int) : SplOf 10 [.int .i64 y] x.c ({ x with Deps := { x.Deps with e4 := y } } : TCall).c := ⟨rfl⟩
instance (x : TCall) (y : Int) : SplOf 11 [.int .i64 y] x.c ({ x with Deps := { x.Deps with e5 := y } } : TCall).c := ⟨rfl⟩
instance (x : TCall) (y : Int) : SplOf 12 [.int .i64 y] x.c ({ x with Deps := { x.Deps with e6 := y } } : TCall).c := ⟨rfl⟩
instance (x : TCall) (y : Int) : SplOf 13 [.int .i64 y] x.c ({ x with Seq := y } : TCall).c := ⟨rfl⟩

structure TInst where
  Promised : TBallot
  Vote : TBallot
  Status : Int
  Call : TCall
  Same : Bool
  deriving DecidableEq
def TInst.c (x : TInst) : List Go.Value := x.Promised.c ++ (x.Vote.c ++ ([.int .i64 x.Status] ++ (x.Call.c ++ ([.bool x.Same]))))
def TInst.z : TInst := ⟨TBallot.z, TBallot.z, 0, TCall.z, false⟩
instance : Inhabited TInst := ⟨TInst.z⟩
theorem TInst.ones : Ones TInst.c := fun _ => rfl
theorem TInst.len (x : TInst) : x.c.length = 20 := rfl
instance (x : TInst) : SegOf 0 20 x.c x.c := ⟨rfl⟩
instance (x y : TInst) : SplOf 0 x.c y.c x.c := ⟨rfl⟩
instance (x : TInst) : SegOf 0 2 x.c x.Promised.c := ⟨rfl⟩
instance (x : TInst) (y : TBallot) : SplOf 0 y.c x.c ({ x with Promised := y } : TInst).c := ⟨rfl⟩
instance (x : TInst) (y : Int) : SplOf 0 [.int .i64 y] x.c ({ x with Promised := { x.Promised with Round := y } } : TInst).c := ⟨rfl⟩
instance (x : TInst) (y : Int) : SplOf 1 [.int .i64 y] x.c ({ x with Promised := { x.Promised with Rep := y } } : TInst).c := ⟨rfl⟩
instance (x : TInst) : SegOf 2 2 x.c x.Vote.c := ⟨rfl⟩
instance (x : TInst) (y : TBallot) : SplOf 2 y.c x.c ({ x with Vote := y } : TInst).c := ⟨rfl⟩
instance (x : TInst) (y : Int) : SplOf 2 [.int .i64 y] x.c ({ x with Vote := { x.Vote with Round := y } } : TInst).c := ⟨rfl⟩
instance (x : TInst) (y : Int) : SplOf 3 [.int .i64 y] x.c ({ x with Vote := { x.Vote with Rep := y } } : TInst).c := ⟨rfl⟩
instance (x : TInst) (y : Int) : SplOf 4 [.int .i64 y] x.c ({ x with Status := y } : TInst).c := ⟨rfl⟩
instance (x : TInst) : SegOf 5 14 x.c x.Call.c := ⟨rfl⟩
instance (x : TInst) (y : TCall) : SplOf 5 y.c x.c ({ x with Call := y } : TInst).c := ⟨rfl⟩
instance (x : TInst) : SegOf 5 6 x.c x.Call.Deed.c := ⟨rfl⟩
instance (x : TInst) (y : TDeed) : SplOf 5 y.c x.c ({ x with Call := { x.Call with Deed := y } } : TInst).c := ⟨rfl⟩
instance (x : TInst) (y : Int) : SplOf 5 [.int .i64 y] x.c ({ x with Call := { x.Call with Deed := { x.Call.Deed with Kind := y } } } : TInst).c := ⟨rfl⟩
instance (x : TInst) (y : List UInt8) : SplOf 6 [S y] x.c ({ x with Call := { x.Call with Deed := { x.Call.Deed with Key := y } } } : TInst).c := ⟨rfl⟩
instance (x : TInst) (y : List UInt8) : SplOf 7 [S y] x.c ({ x with Call := { x.Call with Deed := { x.Call.Deed with Value := y } } } : TInst).c := ⟨rfl⟩
instance (x : TInst) (y : Int) : SplOf 8 [.int .i64 y] x.c ({ x with Call := { x.Call with Deed := { x.Call.Deed with Version := y } } } : TInst).c := ⟨rfl⟩
instance (x : TInst) (y : Int) : SplOf 9 [.int .i64 y] x.c ({ x with Call := { x.Call with Deed := { x.Call.Deed with Session := y } } } : TInst).c := ⟨rfl⟩
instance (x : TInst) (y : Int) : SplOf 10 [.int .i64 y] x.c ({ x with Call := { x.Call with Deed := { x.Call.Deed with Number := y } } } : TInst).c := ⟨rfl⟩
instance (x : TInst) : SegOf 11 7 x.c x.Call.Deps.c := ⟨rfl⟩
instance (x : TInst) (y : TDeps) : SplOf 11 y.c x.c ({ x with Call := { x.Call with Deps := y } } : TInst).c := ⟨rfl⟩
instance (x : TInst) (y : Int) : SplOf 11 [.int .i64 y] x.c ({ x with Call := { x.Call with Deps := { x.Call.Deps with e0 := y } } } : TInst).c := ⟨rfl⟩
instance (x : TInst) (y : Int) : SplOf 12 [.int .i64 y] x.c ({ x with Call := { x.Call with Deps := { x.Call.Deps with e1 := y } } } : TInst).c := ⟨rfl⟩
instance (x : TInst) (y : Int) : SplOf 13 [.int .i64 y] x.c ({ x with Call := { x.Call with Deps := { x.Call.Deps with e2 := y } } } : TInst).c := ⟨rfl⟩
instance (x : TInst) (y : Int) : SplOf 14 [.int .i64 y] x.c ({ x with Call := { x.Call with Deps := { x.Call.Deps with e3 := y } } } : TInst).c := ⟨rfl⟩
instance (x : TInst) (y : Int) : SplOf 15 [.int .i64 y] x.c ({ x with Call := { x.Call with Deps := { x.Call.Deps with e4 := y } } } : TInst).c := ⟨rfl⟩
instance (x : TInst) (y : Int) : SplOf 16 [.int .i64 y] x.c ({ x with Call := { x.Call with Deps := { x.Call.Deps with e5 := y } } } : TInst).c := ⟨rfl⟩
instance (x : TInst) (y : Int) : SplOf 17 [.int .i64 y] x.c ({ x with Call := { x.Call with Deps := { x.Call.Deps with e6 := y } } } : TInst).c := ⟨rfl⟩
instance (x : TInst) (y : Int) : SplOf 18 [.int .i64 y] x.c ({ x with Call := { x.Call with Seq := y } } : TInst).c := ⟨rfl⟩
instance (x : TInst) (y : Bool) : SplOf 19 [.bool y] x.c ({ x with Same := y } : TInst).c := ⟨rfl⟩

structure Caucuslaw13Step where
  Kind : Int
  Ballot : TBallot
  Call : TCall
  Same : Bool
  deriving DecidableEq
def Caucuslaw13Step.c (x : Caucuslaw13Step) : List Go.Value := [.int .i64 x.Kind] ++ (x.Ballot.c ++ (x.Call.c ++ ([.bool x.Same])))
def Caucuslaw13Step.z : Caucuslaw13Step := ⟨0, TBallot.z, TCall.z, false⟩
instance : Inhabited Caucuslaw13Step := ⟨Caucuslaw13Step.z⟩
theorem Caucuslaw13Step.ones : Ones Caucuslaw13Step.c := fun _ => rfl
theorem Caucuslaw13Step.len (x : Caucuslaw13Step) : x.c.length = 18 := rfl
instance (x : Caucuslaw13Step) : SegOf 0 18 x.c x.c := ⟨rfl⟩
instance (x y : Caucuslaw13Step) : SplOf 0 x.c y.c x.c := ⟨rfl⟩
instance (x : Caucuslaw13Step) (y : Int) : SplOf 0 [.int .i64 y] x.c ({ x with Kind := y } : Caucuslaw13Step).c := ⟨rfl⟩
instance (x : Caucuslaw13Step) : SegOf 1 2 x.c x.Ballot.c := ⟨rfl⟩
instance (x : Caucuslaw13Step) (y : TBallot) : SplOf 1 y.c x.c ({ x with Ballot := y } : Caucuslaw13Step).c := ⟨rfl⟩
instance (x : Caucuslaw13Step) (y : Int) : SplOf 1 [.int .i64 y] x.c ({ x with Ballot := { x.Ballot with Round := y } } : Caucuslaw13Step).c := ⟨rfl⟩
instance (x : Caucuslaw13Step) (y : Int) : SplOf 2 [.int .i64 y] x.c ({ x with Ballot := { x.Ballot with Rep := y } } : Caucuslaw13Step).c := ⟨rfl⟩
instance (x : Caucuslaw13Step) : SegOf 3 14 x.c x.Call.c := ⟨rfl⟩
instance (x : Caucuslaw13Step) (y : TCall) : SplOf 3 y.c x.c ({ x with Call := y } : Caucuslaw13Step).c := ⟨rfl⟩
instance (x : Caucuslaw13Step) : SegOf 3 6 x.c x.Call.Deed.c := ⟨rfl⟩
instance (x : Caucuslaw13Step) (y : TDeed) : SplOf 3 y.c x.c ({ x with Call := { x.Call with Deed := y } } : Caucuslaw13Step).c := ⟨rfl⟩
instance (x : Caucuslaw13Step) (y : Int) : SplOf 3 [.int .i64 y] x.c ({ x with Call := { x.Call with Deed := { x.Call.Deed with Kind := y } } } : Caucuslaw13Step).c := ⟨rfl⟩
instance (x : Caucuslaw13Step) (y : List UInt8) : SplOf 4 [S y] x.c ({ x with Call := { x.Call with Deed := { x.Call.Deed with Key := y } } } : Caucuslaw13Step).c := ⟨rfl⟩
instance (x : Caucuslaw13Step) (y : List UInt8) : SplOf 5 [S y] x.c ({ x with Call := { x.Call with Deed := { x.Call.Deed with Value := y } } } : Caucuslaw13Step).c := ⟨rfl⟩
instance (x : Caucuslaw13Step) (y : Int) : SplOf 6 [.int .i64 y] x.c ({ x with Call := { x.Call with Deed := { x.Call.Deed with Version := y } } } : Caucuslaw13Step).c := ⟨rfl⟩
instance (x : Caucuslaw13Step) (y : Int) : SplOf 7 [.int .i64 y] x.c ({ x with Call := { x.Call with Deed := { x.Call.Deed with Session := y } } } : Caucuslaw13Step).c := ⟨rfl⟩
instance (x : Caucuslaw13Step) (y : Int) : SplOf 8 [.int .i64 y] x.c ({ x with Call := { x.Call with Deed := { x.Call.Deed with Number := y } } } : Caucuslaw13Step).c := ⟨rfl⟩
instance (x : Caucuslaw13Step) : SegOf 9 7 x.c x.Call.Deps.c := ⟨rfl⟩
instance (x : Caucuslaw13Step) (y : TDeps) : SplOf 9 y.c x.c ({ x with Call := { x.Call with Deps := y } } : Caucuslaw13Step).c := ⟨rfl⟩
instance (x : Caucuslaw13Step) (y : Int) : SplOf 9 [.int .i64 y] x.c ({ x with Call := { x.Call with Deps := { x.Call.Deps with e0 := y } } } : Caucuslaw13Step).c := ⟨rfl⟩
instance (x : Caucuslaw13Step) (y : Int) : SplOf 10 [.int .i64 y] x.c ({ x with Call := { x.Call with Deps := { x.Call.Deps with e1 := y } } } : Caucuslaw13Step).c := ⟨rfl⟩
instance (x : Caucuslaw13Step) (y : Int) : SplOf 11 [.int .i64 y] x.c ({ x with Call := { x.Call with Deps := { x.Call.Deps with e2 := y } } } : Caucuslaw13Step).c := ⟨rfl⟩
instance (x : Caucuslaw13Step) (y : Int) : SplOf 12 [.int .i64 y] x.c ({ x with Call := { x.Call with Deps := { x.Call.Deps with e3 := y } } } : Caucuslaw13Step).c := ⟨rfl⟩
instance (x : Caucuslaw13Step) (y : Int) : SplOf 13 [.int .i64 y] x.c ({ x with Call := { x.Call with Deps := { x.Call.Deps with e4 := y } } } : Caucuslaw13Step).c := ⟨rfl⟩
instance (x : Caucuslaw13Step) (y : Int) : SplOf 14 [.int .i64 y] x.c ({ x with Call := { x.Call with Deps := { x.Call.Deps with e5 := y } } } : Caucuslaw13Step).c := ⟨rfl⟩
instance (x : Caucuslaw13Step) (y : Int) : SplOf 15 [.int .i64 y] x.c ({ x with Call := { x.Call with Deps := { x.Call.Deps with e6 := y } } } : Caucuslaw13Step).c := ⟨rfl⟩
instance (x : Caucuslaw13Step) (y : Int) : SplOf 16 [.int .i64 y] x.c ({ x with Call := { x.Call with Seq := y } } : Caucuslaw13Step).c := ⟨rfl⟩
instance (x : Caucuslaw13Step) (y : Bool) : SplOf 17 [.bool y] x.c ({ x with Same := y } : Caucuslaw13Step).c := ⟨rfl⟩

structure Caucuslaw01Item where
  Kind : Int
  N : Int
  Yes : Bool
  T : List UInt8
  deriving DecidableEq
def Caucuslaw01Item.c (x : Caucuslaw01Item) : List Go.Value := [.int .i64 x.Kind, .int .i64 x.N, .bool x.Yes, S x.T]
def Caucuslaw01Item.z : Caucuslaw01Item := ⟨0, 0, false, []⟩
instance : Inhabited Caucuslaw01Item := ⟨Caucuslaw01Item.z⟩
theorem Caucuslaw01Item.ones : Ones Caucuslaw01Item.c := fun _ => rfl
theorem Caucuslaw01Item.len (x : Caucuslaw01Item) : x.c.length = 4 := rfl
instance (x : Caucuslaw01Item) : SegOf 0 4 x.c x.c := ⟨rfl⟩
instance (x y : Caucuslaw01Item) : SplOf 0 x.c y.c x.c := ⟨rfl⟩
instance (x : Caucuslaw01Item) (y : Int) : SplOf 0 [.int .i64 y] x.c ({ x with Kind := y } : Caucuslaw01Item).c := ⟨rfl⟩
instance (x : Caucuslaw01Item) (y : Int) : SplOf 1 [.int .i64 y] x.c ({ x with N := y } : Caucuslaw01Item).c := ⟨rfl⟩
instance (x : Caucuslaw01Item) (y : Bool) : SplOf 2 [.bool y] x.c ({ x with Yes := y } : Caucuslaw01Item).c := ⟨rfl⟩
instance (x : Caucuslaw01Item) (y : List UInt8) : SplOf 3 [S y] x.c ({ x with T := y } : Caucuslaw01Item).c := ⟨rfl⟩

structure OctaveSource where
  in_ : List UInt8
  dry : Bool
  deriving DecidableEq
def OctaveSource.c (x : OctaveSource) : List Go.Value := [S x.in_, .bool x.dry]
def OctaveSource.z : OctaveSource := ⟨[], false⟩
instance : Inhabited OctaveSource := ⟨OctaveSource.z⟩
theorem OctaveSource.ones : Ones OctaveSource.c := fun _ => rfl
theorem OctaveSource.len (x : OctaveSource) : x.c.length = 2 := rfl
instance (x : OctaveSource) : SegOf 0 2 x.c x.c := ⟨rfl⟩
instance (x y : OctaveSource) : SplOf 0 x.c y.c x.c := ⟨rfl⟩
instance (x : OctaveSource) (y : List UInt8) : SplOf 0 [S y] x.c ({ x with in_ := y } : OctaveSource).c := ⟨rfl⟩
instance (x : OctaveSource) (y : Bool) : SplOf 1 [.bool y] x.c ({ x with dry := y } : OctaveSource).c := ⟨rfl⟩

def tbZ : List (Nat × List Value) := [(2, [.int .i64 0]), (3, [.int .i64 0]), (4, [.bool false]), (5, [.int .u8 0]), (6, [.int .u8 0]), (7, [.int .i64 0, .int .i64 0, .bool false, .int .u8 0]), (8, [.int .i64 0, .int .i64 0, .bool false, .int .u8 0]), (9, [S []]), (10, [S []]), (11, [S []]), (12, [.int .u64 0]), (13, [S [], .int .u64 0]), (14, [S [], .int .u64 0]), (15, [.pointer none]), (16, [.pointer none]), (17, [.pointer none]), (18, [.pointer none]), (19, [.pointer none]), (21, [.int .i32 0]), (23, [.pointer none]), (24, [.slice none 0 0]), (25, [.slice none 0 0]), (26, OctaveSink.z.c), (30, [.slice none 0 0]), (35, [.slice none 0 0]), (36, [.int .i64 0, .int .i64 0]), (37, TBallot.z.c), (38, [.int .i64 0, S [], S [], .int .i64 0, .int .i64 0, .int .i64 0]), (39, TDeed.z.c), (40, [.int .i64 0, .int .i64 0, .int .i64 0, .int .i64 0, .int .i64 0, .int .i64 0, .int .i64 0]), (41, TDeps.z.c), (42, [.int .i64 0, S [], S [], .int .i64 0, .int .i64 0, .int .i64 0, .int .i64 0, .int .i64 0, .int .i64 0, .int .i64 0, .int .i64 0, .int .i64 0, .int .i64 0, .int .i64 0]), (43, TCall.z.c), (44, [.int .i64 0, .int .i64 0, .int .i64 0, .int .i64 0, .int .i64 0, .int .i64 0, S [], S [], .int .i64 0, .int .i64 0, .int .i64 0, .int .i64 0, .int .i64 0, .int .i64 0, .int .i64 0, .int .i64 0, .int .i64 0, .int .i64 0, .int .i64 0, .bool false]), (45, TInst.z.c), (55, [.int .i64 0, .int .i64 0, .int .i64 0, .int .i64 0, S [], S [], .int .i64 0, .int .i64 0, .int .i64 0, .int .i64 0, .int .i64 0, .int .i64 0, .int .i64 0, .int .i64 0, .int .i64 0, .int .i64 0, .int .i64 0, .bool false]), (56, Caucuslaw13Step.z.c), (66, [.pointer none]), (72, [.int .i64 0, .int .i64 0, .bool false, S []]), (73, Caucuslaw01Item.z.c), (80, [.slice none 0 0]), (81, [.slice none 0 0]), (87, [.slice none 0 0]), (88, [.int .u64 0]), (89, [.int .u64 0]), (98, [S [], .bool false]), (99, OctaveSource.z.c), (102, [.pointer none, .pointer none, .pointer none, S []]), (103, [.pointer none, .pointer none, .pointer none, S []]), (104, []), (105, []), (106, []), (107, [.int .u32 0]), (108, [.int .u8 0]), (109, [.int .u8 0]), (111, [.pointer none]), (112, [.int .i32 0]), (113, [.int .i32 0]), (114, [.int .u64 0, .int .u64 0, .int .u32 0, .int .u8 0, .int .u8 0, .int .u8 0, .int .u8 0, .nilFunc, .pointer none, .int .i32 0, .int .i32 0]), (115, [.int .u64 0, .int .u64 0, .int .u32 0, .int .u8 0, .int .u8 0, .int .u8 0, .int .u8 0, .nilFunc, .pointer none, .int .i32 0, .int .i32 0])]
set_option maxRecDepth 100000 in
theorem tbZ_ok : ZerosOk Try.prog tbZ := ⟨by kernel_rfl, by kernel_rfl, by kernel_rfl, by kernel_rfl, by kernel_rfl, by kernel_rfl, by kernel_rfl, by kernel_rfl, by kernel_rfl, by kernel_rfl, by kernel_rfl, by kernel_rfl, by kernel_rfl, by kernel_rfl, by kernel_rfl, by kernel_rfl, by kernel_rfl, by kernel_rfl, by kernel_rfl, by kernel_rfl, by kernel_rfl, by kernel_rfl, by kernel_rfl, by kernel_rfl, by kernel_rfl, by kernel_rfl, by kernel_rfl, by kernel_rfl, by kernel_rfl, by kernel_rfl, by kernel_rfl, by kernel_rfl, by kernel_rfl, by kernel_rfl, by kernel_rfl, by kernel_rfl, by kernel_rfl, by kernel_rfl, by kernel_rfl, by kernel_rfl, by kernel_rfl, by kernel_rfl, by kernel_rfl, by kernel_rfl, by kernel_rfl, by kernel_rfl, by kernel_rfl, by kernel_rfl, by kernel_rfl, by kernel_rfl, by kernel_rfl, by kernel_rfl, by kernel_rfl, by kernel_rfl, by kernel_rfl, by kernel_rfl, by kernel_rfl, by kernel_rfl, by kernel_rfl, by kernel_rfl, trivial⟩
def tb : Tabs Try.prog where
  fld := [(7, 0, 0), (7, 1, 1), (7, 2, 2), (7, 3, 3), (8, 0, 0), (8, 1, 1), (8, 2, 2), (8, 3, 3), (13, 0, 0), (13, 1, 1), (14, 0, 0), (14, 1, 1), (18, 0, 0), (19, 0, 0), (25, 0, 0), (26, 0, 0), (36, 0, 0), (36, 1, 1), (37, 0, 0), (37, 1, 1), (38, 0, 0), (38, 1, 1), (38, 2, 2), (38, 3, 3), (38, 4, 4), (38, 5, 5), (39, 0, 0), (39, 1, 1), (39, 2, 2), (39, 3, 3), (39, 4, 4), (39, 5, 5), (42, 0, 0), (42, 1, 6), (42, 2, 13), (43, 0, 0), (43, 1, 6), (43, 2, 13), (44, 0, 0), (44, 1, 2), (44, 2, 4), (44, 3, 5), (44, 4, 19), (45, 0, 0), (45, 1, 2), (45, 2, 4), (45, 3, 5), (45, 4, 19), (55, 0, 0), (55, 1, 1), (55, 2, 3), (55, 3, 17), (56, 0, 0), (56, 1, 1), (56, 2, 3), (56, 3, 17), (72, 0, 0), (72, 1, 1), (72, 2, 2), (72, 3, 3), (73, 0, 0), (73, 1, 1), (73, 2, 2), (73, 3, 3), (98, 0, 0), (98, 1, 1), (99, 0, 0), (99, 1, 1), (102, 0, 0), (102, 1, 1), (102, 2, 2), (102, 3, 3), (103, 0, 0), (103, 1, 1), (103, 2, 2), (103, 3, 3), (114, 0, 0), (114, 1, 1), (114, 2, 2), (114, 3, 3), (114, 4, 4), (114, 5, 5), (114, 6, 6), (114, 7, 7), (114, 8, 8), (114, 9, 9), (114, 10, 10), (115, 0, 0), (115, 1, 1), (115, 2, 2), (115, 3, 3), (115, 4, 4), (115, 5, 5), (115, 6, 6), (115, 7, 7), (115, 8, 8), (115, 9, 9), (115, 10, 10)]
  fk := [(7, 0, 1), (7, 1, 1), (7, 2, 1), (7, 3, 1), (8, 0, 1), (8, 1, 1), (8, 2, 1), (8, 3, 1), (13, 0, 1), (13, 1, 1), (14, 0, 1), (14, 1, 1), (18, 0, 1), (19, 0, 1), (25, 0, 1), (26, 0, 1), (36, 0, 1), (36, 1, 1), (37, 0, 1), (37, 1, 1), (38, 0, 1), (38, 1, 1), (38, 2, 1), (38, 3, 1), (38, 4, 1), (38, 5, 1), (39, 0, 1), (39, 1, 1), (39, 2, 1), (39, 3, 1), (39, 4, 1), (39, 5, 1), (42, 0, 6), (42, 1, 7), (42, 2, 1), (43, 0, 6), (43, 1, 7), (43, 2, 1), (44, 0, 2), (44, 1, 2), (44, 2, 1), (44, 3, 14), (44, 4, 1), (45, 0, 2), (45, 1, 2), (45, 2, 1), (45, 3, 14), (45, 4, 1), (55, 0, 1), (55, 1, 2), (55, 2, 14), (55, 3, 1), (56, 0, 1), (56, 1, 2), (56, 2, 14), (56, 3, 1), (72, 0, 1), (72, 1, 1), (72, 2, 1), (72, 3, 1), (73, 0, 1), (73, 1, 1), (73, 2, 1), (73, 3, 1), (98, 0, 1), (98, 1, 1), (99, 0, 1), (99, 1, 1), (102, 0, 1), (102, 1, 1), (102, 2, 1), (102, 3, 1), (103, 0, 1), (103, 1, 1), (103, 2, 1), (103, 3, 1), (114, 0, 1), (114, 1, 1), (114, 2, 1), (114, 3, 1), (114, 4, 1), (114, 5, 1), (114, 6, 1), (114, 8, 1), (114, 9, 1), (114, 10, 1), (115, 0, 1), (115, 1, 1), (115, 2, 1), (115, 3, 1), (115, 4, 1), (115, 5, 1), (115, 6, 1), (115, 8, 1), (115, 9, 1), (115, 10, 1)]
  slc := [(24, 5), (30, 73), (35, 37), (80, 56), (81, 45), (87, 3)]
  szs := [(2, 1), (3, 1), (4, 1), (5, 1), (6, 1), (7, 4), (8, 4), (9, 1), (10, 1), (11, 1), (12, 1), (13, 2), (14, 2), (15, 1), (16, 1), (17, 1), (18, 1), (19, 1), (21, 1), (23, 1), (24, 1), (25, 1), (26, 1), (30, 1), (35, 1), (36, 2), (37, 2), (38, 6), (39, 6), (40, 7), (41, 7), (42, 14), (43, 14), (44, 20), (45, 20), (55, 18), (56, 18), (66, 1), (72, 4), (73, 4), (80, 1), (81, 1), (87, 1), (88, 1), (89, 1), (98, 2), (99, 2), (102, 4), (103, 4), (104, 0), (105, 0), (106, 0), (107, 1), (108, 1), (109, 1), (111, 1), (112, 1), (113, 1), (114, 11), (115, 11)]
  agg := [(7, 4), (8, 4), (13, 2), (14, 2), (18, 1), (19, 1), (25, 1), (26, 1), (36, 2), (37, 2), (38, 6), (39, 6), (40, 7), (41, 7), (42, 14), (43, 14), (44, 20), (45, 20), (55, 18), (56, 18), (72, 4), (73, 4), (98, 2), (99, 2), (102, 4), (103, 4), (104, 0), (105, 0), (106, 0), (114, 11), (115, 11)]
  one := [(2, 1), (3, 1), (4, 1), (5, 1), (6, 1), (9, 1), (10, 1), (11, 1), (12, 1), (15, 1), (16, 1), (17, 1), (21, 1), (23, 1), (24, 1), (30, 1), (35, 1), (66, 1), (80, 1), (81, 1), (87, 1), (88, 1), (89, 1), (107, 1), (108, 1), (109, 1), (111, 1), (112, 1), (113, 1)]
  zeros := tbZ
  ints := [(2, .i64), (3, .i64), (5, .u8), (6, .u8), (12, .u64), (21, .i32), (88, .u64), (89, .u64), (107, .u32), (108, .u8), (109, .u8), (112, .i32), (113, .i32)]
  strs := [(9, 0), (10, 0), (11, 0)]
  bools := [(4, 0)]
  byt := [(2, 8), (3, 8), (4, 1), (5, 1), (6, 1), (7, 24), (8, 24), (9, 16), (10, 16), (11, 16), (12, 8), (13, 24), (14, 24), (15, 8), (16, 8), (17, 8), (18, 8), (19, 8), (21, 4), (23, 8), (24, 24), (25, 24), (26, 24), (30, 24), (35, 24), (36, 16), (37, 16), (38, 64), (39, 64), (40, 56), (41, 56), (42, 128), (43, 128), (44, 176), (45, 176), (55, 160), (56, 160), (66, 8), (72, 40), (73, 40), (80, 24), (81, 24), (87, 24), (88, 8), (89, 8), (98, 24), (99, 24), (102, 40), (103, 40), (104, 0), (105, 0), (106, 0), (107, 4), (108, 1), (109, 1), (111, 8), (112, 4), (113, 4), (114, 48), (115, 48)]
  arr := [(40, 7, 3), (41, 7, 3), (104, 0, 16)]
  fld_ok := by kernel_rfl
  fk_ok := by kernel_rfl
  slc_ok := by kernel_rfl
  szs_ok := by kernel_rfl
  agg_ok := by kernel_rfl
  one_ok := by kernel_rfl
  ints_ok := by kernel_rfl
  strs_ok := by kernel_rfl
  bools_ok := by kernel_rfl
  byt_ok := by kernel_rfl
  arr_ok := by kernel_rfl
  zeros_ok := tbZ_ok

theorem TBallot.eqT (x y : TBallot) (d : Nat) : EqT Try.prog (d + 2) 37 (A x.c) (A y.c) (decide (x = y)) := by
  have h := EqT.struct (P := Try.prog) (d := d + 1) (T := 37) (xs := x.c) (ys := y.c) (l := [(3, 0), (3, 1)]) (by kernel_rfl) ⟨_, _, _, _, .one (tb.oneAt (T := 3) rfl) rfl, .one (tb.oneAt (T := 3) rfl) rfl, (EqT.int (tb.intAt (T := 3) rfl)), ⟨_, _, _, _, .one (tb.oneAt (T := 3) rfl) rfl, .one (tb.oneAt (T := 3) rfl) rfl, (EqT.int (tb.intAt (T := 3) rfl)), rfl, rfl⟩, rfl⟩
  refine Eq.mp (congrArg (EqT Try.prog (d + 2) 37 (A x.c) (A y.c)) ?_) h
  rw [Bool.eq_iff_iff]; cases x; cases y; simp [TBallot.mk.injEq]
theorem TDeed.eqT (x y : TDeed) (d : Nat) : EqT Try.prog (d + 2) 39 (A x.c) (A y.c) (decide (x = y)) := by
  have h := EqT.struct (P := Try.prog) (d := d + 1) (T := 39) (xs := x.c) (ys := y.c) (l := [(3, 0), (9, 1), (9, 2), (3, 3), (3, 4), (3, 5)]) (by kernel_rfl) ⟨_, _, _, _, .one (tb.oneAt (T := 3) rfl) rfl, .one (tb.oneAt (T := 3) rfl) rfl, (EqT.int (tb.intAt (T := 3) rfl)), ⟨_, _, _, _, .one (tb.oneAt (T := 9) rfl) rfl, .one (tb.oneAt (T := 9) rfl) rfl, (EqT.str (tb.strAt (T := 9) rfl)), ⟨_, _, _, _, .one (tb.oneAt (T := 9) rfl) rfl, .one (tb.oneAt (T := 9) rfl) rfl, (EqT.str (tb.strAt (T := 9) rfl)), ⟨_, _, _, _, .one (tb.oneAt (T := 3) rfl) rfl, .one (tb.oneAt (T := 3) rfl) rfl, (EqT.int (tb.intAt (T := 3) rfl)), ⟨_, _, _, _, .one (tb.oneAt (T := 3) rfl) rfl, .one (tb.oneAt (T := 3) rfl) rfl, (EqT.int (tb.intAt (T := 3) rfl)), ⟨_, _, _, _, .one (tb.oneAt (T := 3) rfl) rfl, .one (tb.oneAt (T := 3) rfl) rfl, (EqT.int (tb.intAt (T := 3) rfl)), rfl, rfl⟩, rfl⟩, rfl⟩, rfl⟩, rfl⟩, rfl⟩
  refine Eq.mp (congrArg (EqT Try.prog (d + 2) 39 (A x.c) (A y.c)) ?_) h
  rw [Bool.eq_iff_iff]; cases x; cases y; simp [TDeed.mk.injEq]
theorem TDeps.eqT (x y : TDeps) (d : Nat) : EqT Try.prog (d + 2) 41 (A x.c) (A y.c) (decide (x = y)) := by
  have h := EqT.array (P := Try.prog) (d := d + 1) (T := 41) (xs := x.c) (ys := y.c) (l := [(3, 0), (3, 1), (3, 2), (3, 3), (3, 4), (3, 5), (3, 6)]) (by kernel_rfl) ⟨_, _, _, _, .one (tb.oneAt (T := 3) rfl) rfl, .one (tb.oneAt (T := 3) rfl) rfl, (EqT.int (tb.intAt (T := 3) rfl)), ⟨_, _, _, _, .one (tb.oneAt (T := 3) rfl) rfl, .one (tb.oneAt (T := 3) rfl) rfl, (EqT.int (tb.intAt (T := 3) rfl)), ⟨_, _, _, _, .one (tb.oneAt (T := 3) rfl) rfl, .one (tb.oneAt (T := 3) rfl) rfl, (EqT.int (tb.intAt (T := 3) rfl)), ⟨_, _, _, _, .one (tb.oneAt (T := 3) rfl) rfl, .one (tb.oneAt (T := 3) rfl) rfl, (EqT.int (tb.intAt (T := 3) rfl)), ⟨_, _, _, _, .one (tb.oneAt (T := 3) rfl) rfl, .one (tb.oneAt (T := 3) rfl) rfl, (EqT.int (tb.intAt (T := 3) rfl)), ⟨_, _, _, _, .one (tb.oneAt (T := 3) rfl) rfl, .one (tb.oneAt (T := 3) rfl) rfl, (EqT.int (tb.intAt (T := 3) rfl)), ⟨_, _, _, _, .one (tb.oneAt (T := 3) rfl) rfl, .one (tb.oneAt (T := 3) rfl) rfl, (EqT.int (tb.intAt (T := 3) rfl)), rfl, rfl⟩, rfl⟩, rfl⟩, rfl⟩, rfl⟩, rfl⟩, rfl⟩
  refine Eq.mp (congrArg (EqT Try.prog (d + 2) 41 (A x.c) (A y.c)) ?_) h
  rw [Bool.eq_iff_iff]; cases x; cases y; simp [TDeps.mk.injEq]
theorem TCall.eqT (x y : TCall) (d : Nat) : EqT Try.prog (d + 3) 43 (A x.c) (A y.c) (decide (x = y)) := by
  have h := EqT.struct (P := Try.prog) (d := d + 2) (T := 43) (xs := x.c) (ys := y.c) (l := [(39, 0), (41, 6), (3, 13)]) (by kernel_rfl) ⟨_, _, _, _, .agg (tb.aggAt (T := 39) rfl) rfl SegOf.eq, .agg (tb.aggAt (T := 39) rfl) rfl SegOf.eq, (TDeed.eqT _ _ (d + 0)), ⟨_, _, _, _, .agg (tb.aggAt (T := 41) rfl) rfl SegOf.eq, .agg (tb.aggAt (T := 41) rfl) rfl SegOf.eq, (TDeps.eqT _ _ (d + 0)), ⟨_, _, _, _, .one (tb.oneAt (T := 3) rfl) rfl, .one (tb.oneAt (T := 3) rfl) rfl, (EqT.int (tb.intAt (T := 3) rfl)), rfl, rfl⟩, rfl⟩, rfl⟩
  refine Eq.mp (congrArg (EqT Try.prog (d + 3) 43 (A x.c) (A y.c)) ?_) h
  rw [Bool.eq_iff_iff]; cases x; cases y; simp [TCall.mk.injEq]
theorem TInst.eqT (x y : TInst) (d : Nat) : EqT Try.prog (d + 4) 45 (A x.c) (A y.c) (decide (x = y)) := by
  have h := EqT.struct (P := Try.prog) (d := d + 3) (T := 45) (xs := x.c) (ys := y.c) (l := [(37, 0), (37, 2), (3, 4), (43, 5), (4, 19)]) (by kernel_rfl) ⟨_, _, _, _, .agg (tb.aggAt (T := 37) rfl) rfl SegOf.eq, .agg (tb.aggAt (T := 37) rfl) rfl SegOf.eq, (TBallot.eqT _ _ (d + 1)), ⟨_, _, _, _, .agg (tb.aggAt (T := 37) rfl) rfl SegOf.eq, .agg (tb.aggAt (T := 37) rfl) rfl SegOf.eq, (TBallot.eqT _ _ (d + 1)), ⟨_, _, _, _, .one (tb.oneAt (T := 3) rfl) rfl, .one (tb.oneAt (T := 3) rfl) rfl, (EqT.int (tb.intAt (T := 3) rfl)), ⟨_, _, _, _, .agg (tb.aggAt (T := 43) rfl) rfl SegOf.eq, .agg (tb.aggAt (T := 43) rfl) rfl SegOf.eq, (TCall.eqT _ _ (d + 0)), ⟨_, _, _, _, .one (tb.oneAt (T := 4) rfl) rfl, .one (tb.oneAt (T := 4) rfl) rfl, (EqT.bool (tb.boolAt (T := 4) rfl)), rfl, rfl⟩, rfl⟩, rfl⟩, rfl⟩, rfl⟩
  refine Eq.mp (congrArg (EqT Try.prog (d + 4) 45 (A x.c) (A y.c)) ?_) h
  rw [Bool.eq_iff_iff]; cases x; cases y; simp [TInst.mk.injEq]
theorem Caucuslaw13Step.eqT (x y : Caucuslaw13Step) (d : Nat) : EqT Try.prog (d + 4) 56 (A x.c) (A y.c) (decide (x = y)) := by
  have h := EqT.struct (P := Try.prog) (d := d + 3) (T := 56) (xs := x.c) (ys := y.c) (l := [(3, 0), (37, 1), (43, 3), (4, 17)]) (by kernel_rfl) ⟨_, _, _, _, .one (tb.oneAt (T := 3) rfl) rfl, .one (tb.oneAt (T := 3) rfl) rfl, (EqT.int (tb.intAt (T := 3) rfl)), ⟨_, _, _, _, .agg (tb.aggAt (T := 37) rfl) rfl SegOf.eq, .agg (tb.aggAt (T := 37) rfl) rfl SegOf.eq, (TBallot.eqT _ _ (d + 1)), ⟨_, _, _, _, .agg (tb.aggAt (T := 43) rfl) rfl SegOf.eq, .agg (tb.aggAt (T := 43) rfl) rfl SegOf.eq, (TCall.eqT _ _ (d + 0)), ⟨_, _, _, _, .one (tb.oneAt (T := 4) rfl) rfl, .one (tb.oneAt (T := 4) rfl) rfl, (EqT.bool (tb.boolAt (T := 4) rfl)), rfl, rfl⟩, rfl⟩, rfl⟩, rfl⟩
  refine Eq.mp (congrArg (EqT Try.prog (d + 4) 56 (A x.c) (A y.c)) ?_) h
  rw [Bool.eq_iff_iff]; cases x; cases y; simp [Caucuslaw13Step.mk.injEq]
theorem Caucuslaw01Item.eqT (x y : Caucuslaw01Item) (d : Nat) : EqT Try.prog (d + 2) 73 (A x.c) (A y.c) (decide (x = y)) := by
  have h := EqT.struct (P := Try.prog) (d := d + 1) (T := 73) (xs := x.c) (ys := y.c) (l := [(3, 0), (3, 1), (4, 2), (9, 3)]) (by kernel_rfl) ⟨_, _, _, _, .one (tb.oneAt (T := 3) rfl) rfl, .one (tb.oneAt (T := 3) rfl) rfl, (EqT.int (tb.intAt (T := 3) rfl)), ⟨_, _, _, _, .one (tb.oneAt (T := 3) rfl) rfl, .one (tb.oneAt (T := 3) rfl) rfl, (EqT.int (tb.intAt (T := 3) rfl)), ⟨_, _, _, _, .one (tb.oneAt (T := 4) rfl) rfl, .one (tb.oneAt (T := 4) rfl) rfl, (EqT.bool (tb.boolAt (T := 4) rfl)), ⟨_, _, _, _, .one (tb.oneAt (T := 9) rfl) rfl, .one (tb.oneAt (T := 9) rfl) rfl, (EqT.str (tb.strAt (T := 9) rfl)), rfl, rfl⟩, rfl⟩, rfl⟩, rfl⟩
  refine Eq.mp (congrArg (EqT Try.prog (d + 2) 73 (A x.c) (A y.c)) ?_) h
  rw [Bool.eq_iff_iff]; cases x; cases y; simp [Caucuslaw01Item.mk.injEq]
theorem OctaveSource.eqT (x y : OctaveSource) (d : Nat) : EqT Try.prog (d + 2) 99 (A x.c) (A y.c) (decide (x = y)) := by
  have h := EqT.struct (P := Try.prog) (d := d + 1) (T := 99) (xs := x.c) (ys := y.c) (l := [(9, 0), (4, 1)]) (by kernel_rfl) ⟨_, _, _, _, .one (tb.oneAt (T := 9) rfl) rfl, .one (tb.oneAt (T := 9) rfl) rfl, (EqT.str (tb.strAt (T := 9) rfl)), ⟨_, _, _, _, .one (tb.oneAt (T := 4) rfl) rfl, .one (tb.oneAt (T := 4) rfl) rfl, (EqT.bool (tb.boolAt (T := 4) rfl)), rfl, rfl⟩, rfl⟩
  refine Eq.mp (congrArg (EqT Try.prog (d + 2) 99 (A x.c) (A y.c)) ?_) h
  rw [Bool.eq_iff_iff]; cases x; cases y; simp [OctaveSource.mk.injEq]
def TBallot.wf (x : TBallot) : Prop := In .i64 x.Round ∧ In .i64 x.Rep
theorem TBallot.leaves : leaves Try.prog 40 37 = some [.i .i64, .i .i64] := by kernel_rfl
theorem TBallot.fit {cs : List Go.Value} (h0 : Fits [.i .i64, .i .i64] cs) : ∃ x : TBallot, cs = x.c ∧ x.wf := by
  obtain ⟨_, _, rfl, ⟨n0, rfl, w0⟩, h1⟩ := Fits.cons h0
  obtain ⟨_, _, rfl, ⟨n1, rfl, w1⟩, h2⟩ := Fits.cons h1
  obtain rfl := Fits.nil h2
  exact ⟨⟨n0, n1⟩, rfl, ⟨w0, w1⟩⟩
def TDeed.wf (x : TDeed) : Prop := In .i64 x.Kind ∧ x.Key.length ≤ 140737488351232 ∧ x.Value.length ≤ 140737488351232 ∧ In .i64 x.Version ∧ In .i64 x.Session ∧ In .i64 x.Number
theorem TDeed.leaves : leaves Try.prog 40 39 = some [.i .i64, .s, .s, .i .i64, .i .i64, .i .i64] := by kernel_rfl
theorem TDeed.fit {cs : List Go.Value} (h0 : Fits [.i .i64, .s, .s, .i .i64, .i .i64, .i .i64] cs) : ∃ x : TDeed, cs = x.c ∧ x.wf := by
  obtain ⟨_, _, rfl, ⟨n0, rfl, w0⟩, h1⟩ := Fits.cons h0
  obtain ⟨_, _, rfl, ⟨n1, rfl, w1⟩, h2⟩ := Fits.cons h1
  obtain ⟨_, _, rfl, ⟨n2, rfl, w2⟩, h3⟩ := Fits.cons h2
  obtain ⟨_, _, rfl, ⟨n3, rfl, w3⟩, h4⟩ := Fits.cons h3
  obtain ⟨_, _, rfl, ⟨n4, rfl, w4⟩, h5⟩ := Fits.cons h4
  obtain ⟨_, _, rfl, ⟨n5, rfl, w5⟩, h6⟩ := Fits.cons h5
  obtain rfl := Fits.nil h6
  exact ⟨⟨n0, n1, n2, n3, n4, n5⟩, rfl, ⟨w0, w1, w2, w3, w4, w5⟩⟩
def TDeps.wf (x : TDeps) : Prop := In .i64 x.e0 ∧ In .i64 x.e1 ∧ In .i64 x.e2 ∧ In .i64 x.e3 ∧ In .i64 x.e4 ∧ In .i64 x.e5 ∧ In .i64 x.e6
theorem TDeps.leaves : leaves Try.prog 40 41 = some [.i .i64, .i .i64, .i .i64, .i .i64, .i .i64, .i .i64, .i .i64] := by kernel_rfl
theorem TDeps.fit {cs : List Go.Value} (h0 : Fits [.i .i64, .i .i64, .i .i64, .i .i64, .i .i64, .i .i64, .i .i64] cs) : ∃ x : TDeps, cs = x.c ∧ x.wf := by
  obtain ⟨_, _, rfl, ⟨n0, rfl, w0⟩, h1⟩ := Fits.cons h0
  obtain ⟨_, _, rfl, ⟨n1, rfl, w1⟩, h2⟩ := Fits.cons h1
  obtain ⟨_, _, rfl, ⟨n2, rfl, w2⟩, h3⟩ := Fits.cons h2
  obtain ⟨_, _, rfl, ⟨n3, rfl, w3⟩, h4⟩ := Fits.cons h3
  obtain ⟨_, _, rfl, ⟨n4, rfl, w4⟩, h5⟩ := Fits.cons h4
  obtain ⟨_, _, rfl, ⟨n5, rfl, w5⟩, h6⟩ := Fits.cons h5
  obtain ⟨_, _, rfl, ⟨n6, rfl, w6⟩, h7⟩ := Fits.cons h6
  obtain rfl := Fits.nil h7
  exact ⟨⟨n0, n1, n2, n3, n4, n5, n6⟩, rfl, ⟨w0, w1, w2, w3, w4, w5, w6⟩⟩
def TCall.wf (x : TCall) : Prop := x.Deed.wf ∧ x.Deps.wf ∧ In .i64 x.Seq
theorem TCall.leaves : leaves Try.prog 40 43 = some [.i .i64, .s, .s, .i .i64, .i .i64, .i .i64, .i .i64, .i .i64, .i .i64, .i .i64, .i .i64, .i .i64, .i .i64, .i .i64] := by kernel_rfl
theorem TCall.fit {cs : List Go.Value} (h0 : Fits [.i .i64, .s, .s, .i .i64, .i .i64, .i .i64, .i .i64, .i .i64, .i .i64, .i .i64, .i .i64, .i .i64, .i .i64, .i .i64] cs) : ∃ x : TCall, cs = x.c ∧ x.wf := by
  obtain ⟨_, _, rfl, ⟨n0, rfl, w0⟩, h1⟩ := Fits.cons h0
  obtain ⟨_, _, rfl, ⟨n1, rfl, w1⟩, h2⟩ := Fits.cons h1
  obtain ⟨_, _, rfl, ⟨n2, rfl, w2⟩, h3⟩ := Fits.cons h2
  obtain ⟨_, _, rfl, ⟨n3, rfl, w3⟩, h4⟩ := Fits.cons h3
  obtain ⟨_, _, rfl, ⟨n4, rfl, w4⟩, h5⟩ := Fits.cons h4
  obtain ⟨_, _, rfl, ⟨n5, rfl, w5⟩, h6⟩ := Fits.cons h5
  obtain ⟨_, _, rfl, ⟨n6, rfl, w6⟩, h7⟩ := Fits.cons h6
  obtain ⟨_, _, rfl, ⟨n7, rfl, w7⟩, h8⟩ := Fits.cons h7
  obtain ⟨_, _, rfl, ⟨n8, rfl, w8⟩, h9⟩ := Fits.cons h8
  obtain ⟨_, _, rfl, ⟨n9, rfl, w9⟩, h10⟩ := Fits.cons h9
  obtain ⟨_, _, rfl, ⟨n10, rfl, w10⟩, h11⟩ := Fits.cons h10
  obtain ⟨_, _, rfl, ⟨n11, rfl, w11⟩, h12⟩ := Fits.cons h11
  obtain ⟨_, _, rfl, ⟨n12, rfl, w12⟩, h13⟩ := Fits.cons h12
  obtain ⟨_, _, rfl, ⟨n13, rfl, w13⟩, h14⟩ := Fits.cons h13
  obtain rfl := Fits.nil h14
  exact ⟨⟨⟨n0, n1, n2, n3, n4, n5⟩, ⟨n6, n7, n8, n9, n10, n11, n12⟩, n13⟩, rfl, ⟨⟨w0, w1, w2, w3, w4, w5⟩, ⟨w6, w7, w8, w9, w10, w11, w12⟩, w13⟩⟩
def TInst.wf (x : TInst) : Prop := x.Promised.wf ∧ x.Vote.wf ∧ In .i64 x.Status ∧ x.Call.wf
theorem TInst.leaves : leaves Try.prog 40 45 = some [.i .i64, .i .i64, .i .i64, .i .i64, .i .i64, .i .i64, .s, .s, .i .i64, .i .i64, .i .i64, .i .i64, .i .i64, .i .i64, .i .i64, .i .i64, .i .i64, .i .i64, .i .i64, .b] := by kernel_rfl
theorem TInst.fit {cs : List Go.Value} (h0 : Fits [.i .i64, .i .i64, .i .i64, .i .i64, .i .i64, .i .i64, .s, .s, .i .i64, .i .i64, .i .i64, .i .i64, .i .i64, .i .i64, .i .i64, .i .i64, .i .i64, .i .i64, .i .i64, .b] cs) : ∃ x : TInst, cs = x.c ∧ x.wf := by
  obtain ⟨_, _, rfl, ⟨n0, rfl, w0⟩, h1⟩ := Fits.cons h0
  obtain ⟨_, _, rfl, ⟨n1, rfl, w1⟩, h2⟩ := Fits.cons h1
  obtain ⟨_, _, rfl, ⟨n2, rfl, w2⟩, h3⟩ := Fits.cons h2
  obtain ⟨_, _, rfl, ⟨n3, rfl, w3⟩, h4⟩ := Fits.cons h3
  obtain ⟨_, _, rfl, ⟨n4, rfl, w4⟩, h5⟩ := Fits.cons h4
  obtain ⟨_, _, rfl, ⟨n5, rfl, w5⟩, h6⟩ := Fits.cons h5
  obtain ⟨_, _, rfl, ⟨n6, rfl, w6⟩, h7⟩ := Fits.cons h6
  obtain ⟨_, _, rfl, ⟨n7, rfl, w7⟩, h8⟩ := Fits.cons h7
  obtain ⟨_, _, rfl, ⟨n8, rfl, w8⟩, h9⟩ := Fits.cons h8
  obtain ⟨_, _, rfl, ⟨n9, rfl, w9⟩, h10⟩ := Fits.cons h9
  obtain ⟨_, _, rfl, ⟨n10, rfl, w10⟩, h11⟩ := Fits.cons h10
  obtain ⟨_, _, rfl, ⟨n11, rfl, w11⟩, h12⟩ := Fits.cons h11
  obtain ⟨_, _, rfl, ⟨n12, rfl, w12⟩, h13⟩ := Fits.cons h12
  obtain ⟨_, _, rfl, ⟨n13, rfl, w13⟩, h14⟩ := Fits.cons h13
  obtain ⟨_, _, rfl, ⟨n14, rfl, w14⟩, h15⟩ := Fits.cons h14
  obtain ⟨_, _, rfl, ⟨n15, rfl, w15⟩, h16⟩ := Fits.cons h15
  obtain ⟨_, _, rfl, ⟨n16, rfl, w16⟩, h17⟩ := Fits.cons h16
  obtain ⟨_, _, rfl, ⟨n17, rfl, w17⟩, h18⟩ := Fits.cons h17
  obtain ⟨_, _, rfl, ⟨n18, rfl, w18⟩, h19⟩ := Fits.cons h18
  obtain ⟨_, _, rfl, ⟨n19, rfl⟩, h20⟩ := Fits.cons h19
  obtain rfl := Fits.nil h20
  exact ⟨⟨⟨n0, n1⟩, ⟨n2, n3⟩, n4, ⟨⟨n5, n6, n7, n8, n9, n10⟩, ⟨n11, n12, n13, n14, n15, n16, n17⟩, n18⟩, n19⟩, rfl, ⟨⟨w0, w1⟩, ⟨w2, w3⟩, w4, ⟨⟨w5, w6, w7, w8, w9, w10⟩, ⟨w11, w12, w13, w14, w15, w16, w17⟩, w18⟩⟩⟩
def Caucuslaw13Step.wf (x : Caucuslaw13Step) : Prop := In .i64 x.Kind ∧ x.Ballot.wf ∧ x.Call.wf
theorem Caucuslaw13Step.leaves : leaves Try.prog 40 56 = some [.i .i64, .i .i64, .i .i64, .i .i64, .s, .s, .i .i64, .i .i64, .i .i64, .i .i64, .i .i64, .i .i64, .i .i64, .i .i64, .i .i64, .i .i64, .i .i64, .b] := by kernel_rfl
theorem Caucuslaw13Step.fit {cs : List Go.Value} (h0 : Fits [.i .i64, .i .i64, .i .i64, .i .i64, .s, .s, .i .i64, .i .i64, .i .i64, .i .i64, .i .i64, .i .i64, .i .i64, .i .i64, .i .i64, .i .i64, .i .i64, .b] cs) : ∃ x : Caucuslaw13Step, cs = x.c ∧ x.wf := by
  obtain ⟨_, _, rfl, ⟨n0, rfl, w0⟩, h1⟩ := Fits.cons h0
  obtain ⟨_, _, rfl, ⟨n1, rfl, w1⟩, h2⟩ := Fits.cons h1
  obtain ⟨_, _, rfl, ⟨n2, rfl, w2⟩, h3⟩ := Fits.cons h2
  obtain ⟨_, _, rfl, ⟨n3, rfl, w3⟩, h4⟩ := Fits.cons h3
  obtain ⟨_, _, rfl, ⟨n4, rfl, w4⟩, h5⟩ := Fits.cons h4
  obtain ⟨_, _, rfl, ⟨n5, rfl, w5⟩, h6⟩ := Fits.cons h5
  obtain ⟨_, _, rfl, ⟨n6, rfl, w6⟩, h7⟩ := Fits.cons h6
  obtain ⟨_, _, rfl, ⟨n7, rfl, w7⟩, h8⟩ := Fits.cons h7
  obtain ⟨_, _, rfl, ⟨n8, rfl, w8⟩, h9⟩ := Fits.cons h8
  obtain ⟨_, _, rfl, ⟨n9, rfl, w9⟩, h10⟩ := Fits.cons h9
  obtain ⟨_, _, rfl, ⟨n10, rfl, w10⟩, h11⟩ := Fits.cons h10
  obtain ⟨_, _, rfl, ⟨n11, rfl, w11⟩, h12⟩ := Fits.cons h11
  obtain ⟨_, _, rfl, ⟨n12, rfl, w12⟩, h13⟩ := Fits.cons h12
  obtain ⟨_, _, rfl, ⟨n13, rfl, w13⟩, h14⟩ := Fits.cons h13
  obtain ⟨_, _, rfl, ⟨n14, rfl, w14⟩, h15⟩ := Fits.cons h14
  obtain ⟨_, _, rfl, ⟨n15, rfl, w15⟩, h16⟩ := Fits.cons h15
  obtain ⟨_, _, rfl, ⟨n16, rfl, w16⟩, h17⟩ := Fits.cons h16
  obtain ⟨_, _, rfl, ⟨n17, rfl⟩, h18⟩ := Fits.cons h17
  obtain rfl := Fits.nil h18
  exact ⟨⟨n0, ⟨n1, n2⟩, ⟨⟨n3, n4, n5, n6, n7, n8⟩, ⟨n9, n10, n11, n12, n13, n14, n15⟩, n16⟩, n17⟩, rfl, ⟨w0, ⟨w1, w2⟩, ⟨⟨w3, w4, w5, w6, w7, w8⟩, ⟨w9, w10, w11, w12, w13, w14, w15⟩, w16⟩⟩⟩
def Caucuslaw01Item.wf (x : Caucuslaw01Item) : Prop := In .i64 x.Kind ∧ In .i64 x.N ∧ x.T.length ≤ 140737488351232
theorem Caucuslaw01Item.leaves : leaves Try.prog 40 73 = some [.i .i64, .i .i64, .b, .s] := by kernel_rfl
theorem Caucuslaw01Item.fit {cs : List Go.Value} (h0 : Fits [.i .i64, .i .i64, .b, .s] cs) : ∃ x : Caucuslaw01Item, cs = x.c ∧ x.wf := by
  obtain ⟨_, _, rfl, ⟨n0, rfl, w0⟩, h1⟩ := Fits.cons h0
  obtain ⟨_, _, rfl, ⟨n1, rfl, w1⟩, h2⟩ := Fits.cons h1
  obtain ⟨_, _, rfl, ⟨n2, rfl⟩, h3⟩ := Fits.cons h2
  obtain ⟨_, _, rfl, ⟨n3, rfl, w3⟩, h4⟩ := Fits.cons h3
  obtain rfl := Fits.nil h4
  exact ⟨⟨n0, n1, n2, n3⟩, rfl, ⟨w0, w1, w3⟩⟩
def OctaveSource.wf (x : OctaveSource) : Prop := x.in_.length ≤ 140737488351232
theorem OctaveSource.leaves : leaves Try.prog 40 99 = some [.s, .b] := by kernel_rfl
theorem OctaveSource.fit {cs : List Go.Value} (h0 : Fits [.s, .b] cs) : ∃ x : OctaveSource, cs = x.c ∧ x.wf := by
  obtain ⟨_, _, rfl, ⟨n0, rfl, w0⟩, h1⟩ := Fits.cons h0
  obtain ⟨_, _, rfl, ⟨n1, rfl⟩, h2⟩ := Fits.cons h1
  obtain rfl := Fits.nil h2
  exact ⟨⟨n0, n1⟩, rfl, w0⟩
theorem laid : laidOutB Try.prog = true := by kernel_rfl
theorem own : ownKnob Try.prog.godebug = none := by kernel_rfl
theorem mixed : Try.prog.follows .mixedOrders = true := by kernel_rfl

end Go.Proofs.Ytienlncaffliaaa
