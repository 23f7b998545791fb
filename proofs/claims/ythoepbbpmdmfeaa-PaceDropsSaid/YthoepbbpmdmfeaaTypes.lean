/-
  The types of this seat's program as Lean structures, their cells, and the program's tables. Written by a program of ours (gentypes.py).
-/
import Derived.Test.YthoepbbpmdmfeaaRows
import Derived.Test.YthoepbbpmdmfeaaHeap
namespace Go.Proofs.Ythoepbbpmdmfeaa
open Go.HL

structure TItem where
  Rep : Int
  Num : Int
  deriving DecidableEq
def TItem.c (x : TItem) : List Go.Value := [.int .i64 x.Rep, .int .i64 x.Num]
def TItem.z : TItem := ⟨0, 0⟩
instance : Inhabited TItem := ⟨TItem.z⟩
theorem TItem.ones : Ones TItem.c := fun _ => rfl
theorem TItem.len (x : TItem) : x.c.length = 2 := rfl
instance (x : TItem) : SegOf 0 2 x.c x.c := ⟨rfl⟩
instance (x y : TItem) : SplOf 0 x.c y.c x.c := ⟨rfl⟩
instance (x : TItem) (y : Int) : SplOf 0 [.int .i64 y] x.c ({ x with Rep := y } : TItem).c := ⟨rfl⟩
instance (x : TItem) (y : Int) : SplOf 1 [.int .i64 y] x.c ({ x with Num := y } : TItem).c := ⟨rfl⟩

structure TDeed where
  Kind : Int
  Key : List UInt8
  Value : List UInt8
  Version : Int
  Session : Int
  Number : Int
  deriving DecidableEq
def TDeed.c (x : TDeed) : List Go.Value := [.int .i64 x.Kind, S x.Key, S x.Value, .int .i64 x.Version, .int .i64 x.Session, .int .i64 x.Number]
def TDeed.z : TDeed := ⟨0, [], [], 0, 0, 0⟩
instance : Inhabited TDeed := ⟨TDeed.z⟩
theorem TDeed.ones : Ones TDeed.c := fun _ => rfl
theorem TDeed.len (x : TDeed) : x.c.length = 6 := rfl
instance (x : TDeed) : SegOf 0 6 x.c x.c := ⟨rfl⟩
instance (x y : TDeed) : SplOf 0 x.c y.c x.c := ⟨rfl⟩
instance (x : TDeed) (y : Int) : SplOf 0 [.int .i64 y] x.c ({ x with Kind := y } : TDeed).c := ⟨rfl⟩
instance (x : TDeed) (y : List UInt8) : SplOf 1 [S y] x.c ({ x with Key := y } : TDeed).c := ⟨rfl⟩
instance (x : TDeed) (y : List UInt8) : SplOf 2 [S y] x.c ({ x with Value := y } : TDeed).c := ⟨rfl⟩
instance (x : TDeed) (y : Int) : SplOf 3 [.int .i64 y] x.c ({ x with Version := y } : TDeed).c := ⟨rfl⟩
instance (x : TDeed) (y : Int) : SplOf 4 [.int .i64 y] x.c ({ x with Session := y } : TDeed).c := ⟨rfl⟩
instance (x : TDeed) (y : Int) : SplOf 5 [.int .i64 y] x.c ({ x with Number := y } : TDeed).c := ⟨rfl⟩

structure TDeps where
  e0 : Int
  e1 : Int
  e2 : Int
  e3 : Int
  e4 : Int
  e5 : Int
  e6 : Int
  deriving DecidableEq
def TDeps.c (x : TDeps) : List Go.Value := [.int .i64 x.e0, .int .i64 x.e1, .int .i64 x.e2, .int .i64 x.e3, .int .i64 x.e4, .int .i64 x.e5, .int .i64 x.e6]
def TDeps.z : TDeps := ⟨0, 0, 0, 0, 0, 0, 0⟩
instance : Inhabited TDeps := ⟨TDeps.z⟩
theorem TDeps.ones : Ones TDeps.c := fun _ => rfl
theorem TDeps.len (x : TDeps) : x.c.length = 7 := rfl
instance (x : TDeps) : SegOf 0 7 x.c x.c := ⟨rfl⟩
instance (x y : TDeps) : SplOf 0 x.c y.c x.c := ⟨rfl⟩
instance (x : TDeps) (y : Int) : SplOf 0 [.int .i64 y] x.c ({ x with e0 := y } : TDeps).c := ⟨rfl⟩
instance (x : TDeps) (y : Int) : SplOf 1 [.int .i64 y] x.c ({ x with e1 := y } : TDeps).c := ⟨rfl⟩
instance (x : TDeps) (y : Int) : SplOf 2 [.int .i64 y] x.c ({ x with e2 := y } : TDeps).c := ⟨rfl⟩
instance (x : TDeps) (y : Int) : SplOf 3 [.int .i64 y] x.c ({ x with e3 := y } : TDeps).c := ⟨rfl⟩
instance (x : TDeps) (y : Int) : SplOf 4 [.int .i64 y] x.c ({ x with e4 := y } : TDeps).c := ⟨rfl⟩
instance (x : TDeps) (y : Int) : SplOf 5 [.int .i64 y] x.c ({ x with e5 := y } : TDeps).c := ⟨rfl⟩
instance (x : TDeps) (y : Int) : SplOf 6 [.int .i64 y] x.c ({ x with e6 := y } : TDeps).c := ⟨rfl⟩

structure TCall where
  Deed : TDeed
  Deps : TDeps
  Seq : Int
  deriving DecidableEq
def TCall.c (x : TCall) : List Go.Value := x.Deed.c ++ (x.Deps.c ++ ([.int .i64 x.Seq]))
def TCall.z : TCall := ⟨TDeed.z, TDeps.z, 0⟩
instance : Inhabited TCall := ⟨TCall.z⟩
theorem TCall.ones : Ones TCall.c := fun _ => rfl
theorem TCall.len (x : TCall) : x.c.length = 14 := rfl
instance (x : TCall) : SegOf 0 14 x.c x.c := ⟨rfl⟩
instance (x y : TCall) : SplOf 0 x.c y.c x.c := ⟨rfl⟩
instance (x : TCall) : SegOf 0 6 x.c x.Deed.c := ⟨rfl⟩
instance (x : TCall) (y : TDeed) : SplOf 0 y.c x.c ({ x with Deed := y } : TCall).c := ⟨rfl⟩
instance (x : TCall) (y : Int) : SplOf 0 [.int .i64 y] x.c ({ x with Deed := { x.Deed with Kind := y } } : TCall).c := ⟨rfl⟩
instance (x : TCall) (y : List UInt8) : SplOf 1 [S y] x.c ({ x with Deed := { x.Deed with Key := y } } : TCall).c := ⟨rfl⟩
instance (x : TCall) (y : List UInt8) : SplOf 2 [S y] x.c ({ x with Deed := { x.Deed with Value := y } } : TCall).c := ⟨rfl⟩
instance (x : TCall) (y : Int) : SplOf 3 [.int .i64 y] x.c ({ x with Deed := { x.Deed with Version := y } } : TCall).c := ⟨rfl⟩
instance (x : TCall) (y : Int) : SplOf 4 [.int .i64 y] x.c ({ x with Deed := { x.Deed with Session := y } } : TCall).c := ⟨rfl⟩
instance (x : TCall) (y : Int) : SplOf 5 [.int .i64 y] x.c ({ x with Deed := { x.Deed with Number := y } } : TCall).c := ⟨rfl⟩
instance (x : TCall) : SegOf 6 7 x.c x.Deps.c := ⟨rfl⟩
instance (x : TCall) (y : TDeps) : SplOf 6 y.c x.c ({ x with Deps := y } : TCall).c := ⟨rfl⟩
instance (x : TCall) (y : Int) : SplOf 6 [.int .i64 y] x.c ({ x with Deps := { x.Deps with e0 := y } } : TCall).c := ⟨rfl⟩
instance (x : TCall) (y : Int) : SplOf 7 [.int .i64 y] x.c ({ x with Deps := { x.Deps with e1 := y } } : TCall).c := ⟨rfl⟩
instance (x : TCall) (y : Int) : SplOf 8 [.int .i64 y] x.c ({ x with Deps := { x.Deps with e2 := y } } : TCall).c := ⟨rfl⟩
instance (x : TCall) (y : Int) : SplOf 9 [.int .i64 y] x.c ({ x with Deps := { x.Deps with e3 := y } } : TCall).c := ⟨rfl⟩
instance (x : TCall) (y : Int) : SplOf 10 [.int .i64 y] x.c ({ x with Deps := { x.Deps with e4 := y } } : TCall).c := ⟨rfl⟩
instance (x : TCall) (y : Int) : SplOf 11 [.int .i64 y] x.c ({ x with Deps := { x.Deps with e5 := y } } : TCall).c := ⟨rfl⟩
instance (x : TCall) (y : Int) : SplOf 12 [.int .i64 y] x.c ({ x with Deps := { x.Deps with e6 := y } } : TCall).c := ⟨rfl⟩
instance (x : TCall) (y : Int) : SplOf 13 [.int .i64 y] x.c ({ x with Seq := y } : TCall).c := ⟨rfl⟩

structure TBallot where
  Round : Int
  Rep : Int
  deriving DecidableEq
def TBallot.c (x : TBallot) : List Go.Value := [.int .i64 x.Round, .int .i64 x.Rep]
def TBallot.z : TBallot := ⟨0, 0⟩
instance : Inhabited TBallot := ⟨TBallot.z⟩
theorem TBallot.ones : Ones TBallot.c := fun _ => rfl
theorem TBallot.len (x : TBallot) : x.c.length = 2 := rfl
instance (x : TBallot) : SegOf 0 2 x.c x.c := ⟨rfl⟩
instance (x y : TBallot) : SplOf 0 x.c y.c x.c := ⟨rfl⟩
instance (x : TBallot) (y : Int) : SplOf 0 [.int .i64 y] x.c ({ x with Round := y } : TBallot).c := ⟨rfl⟩
instance (x : TBallot) (y : Int) : SplOf 1 [.int .i64 y] x.c ({ x with Rep := y } : TBallot).c := ⟨rfl⟩

structure TMsg where
  Kind : Int
  From : Int
  To : Int
  Item : TItem
  Ballot : TBallot
  Vote : TBallot
  Status : Int
  Same : Bool
  Call : TCall
  deriving DecidableEq
def TMsg.c (x : TMsg) : List Go.Value := [.int .i64 x.Kind, .int .i64 x.From, .int .i64 x.To] ++ (x.Item.c ++ (x.Ballot.c ++ (x.Vote.c ++ ([.int .i64 x.Status, .bool x.Same] ++ (x.Call.c)))))
def TMsg.z : TMsg := ⟨0, 0, 0, TItem.z, TBallot.z, TBallot.z, 0, false, TCall.z⟩
instance : Inhabited TMsg := ⟨TMsg.z⟩
theorem TMsg.ones : Ones TMsg.c := fun _ => rfl
theorem TMsg.len (x : TMsg) : x.c.length = 25 := rfl
instance (x : TMsg) : SegOf 0 25 x.c x.c := ⟨rfl⟩
instance (x y : TMsg) : SplOf 0 x.c y.c x.c := ⟨rfl⟩
instance (x : TMsg) (y : Int) : SplOf 0 [.int .i64 y] x.c ({ x with Kind := y } : TMsg).c := ⟨rfl⟩
instance (x : TMsg) (y : Int) : SplOf 1 [.int .i64 y] x.c ({ x with From := y } : TMsg).c := ⟨rfl⟩
instance (x : TMsg) (y : Int) : SplOf 2 [.int .i64 y] x.c ({ x with To := y } : TMsg).c := ⟨rfl⟩
instance (x : TMsg) : SegOf 3 2 x.c x.Item.c := ⟨rfl⟩
instance (x : TMsg) (y : TItem) : SplOf 3 y.c x.c ({ x with Item := y } : TMsg).c := ⟨rfl⟩
instance (x : TMsg) (y : Int) : SplOf 3 [.int .i64 y] x.c ({ x with Item := { x.Item with Rep := y } } : TMsg).c := ⟨rfl⟩
instance (x : TMsg) (y : Int) : SplOf 4 [.int .i64 y] x.c ({ x with Item := { x.Item with Num := y } } : TMsg).c := ⟨rfl⟩
instance (x : TMsg) : SegOf 5 2 x.c x.Ballot.c := ⟨rfl⟩
instance (x : TMsg) (y : TBallot) : SplOf 5 y.c x.c ({ x with Ballot := y } : TMsg).c := ⟨rfl⟩
instance (x : TMsg) (y : Int) : SplOf 5 [.int .i64 y] x.c ({ x with Ballot := { x.Ballot with Round := y } } : TMsg).c := ⟨rfl⟩
instance (x : TMsg) (y : Int) : SplOf 6 [.int .i64 y] x.c ({ x with Ballot := { x.Ballot with Rep := y } } : TMsg).c := ⟨rfl⟩
instance (x : TMsg) : SegOf 7 2 x.c x.Vote.c := ⟨rfl⟩
instance (x : TMsg) (y : TBallot) : SplOf 7 y.c x.c ({ x with Vote := y } : TMsg).c := ⟨rfl⟩
instance (x : TMsg) (y : Int) : SplOf 7 [.int .i64 y] x.c ({ x with Vote := { x.Vote with Round := y } } : TMsg).c := ⟨rfl⟩
instance (x : TMsg) (y : Int) : SplOf 8 [.int .i64 y] x.c ({ x with Vote := { x.Vote with Rep := y } } : TMsg).c := ⟨rfl⟩
instance (x : TMsg) (y : Int) : SplOf 9 [.int .i64 y] x.c ({ x with Status := y } : TMsg).c := ⟨rfl⟩
instance (x : TMsg) (y : Bool) : SplOf 10 [.bool y] x.c ({ x with Same := y } : TMsg).c := ⟨rfl⟩
instance (x : TMsg) : SegOf 11 14 x.c x.Call.c := ⟨rfl⟩
instance (x : TMsg) (y : TCall) : SplOf 11 y.c x.c ({ x with Call := y } : TMsg).c := ⟨rfl⟩
instance (x : TMsg) : SegOf 11 6 x.c x.Call.Deed.c := ⟨rfl⟩
instance (x : TMsg) (y : TDeed) : SplOf 11 y.c x.c ({ x with Call := { x.Call with Deed := y } } : TMsg).c := ⟨rfl⟩
instance (x : TMsg) (y : Int) : SplOf 11 [.int .i64 y] x.c ({ x with Call := { x.Call with Deed := { x.Call.Deed with Kind := y } } } : TMsg).c := ⟨rfl⟩
instance (x : TMsg) (y : List UInt8) : SplOf 12 [S y] x.c ({ x with Call := { x.Call with Deed := { x.Call.Deed with Key := y } } } : TMsg).c := ⟨rfl⟩
instance (x : TMsg) (y : List UInt8) : SplOf 13 [S y] x.c ({ x with Call := { x.Call with Deed := { x.Call.Deed with Value := y } } } : TMsg).c := ⟨rfl⟩
instance (x : TMsg) (y : Int) : SplOf 14 [.int .i64 y] x.c ({ x with Call := { x.Call with Deed := { x.Call.Deed with Version := y } } } : TMsg).c := ⟨rfl⟩
instance (x : TMsg) (y : Int) : SplOf 15 [.int .i64 y] x.c ({ x with Call := { x.Call with Deed := { x.Call.Deed with Session := y } } } : TMsg).c := ⟨rfl⟩
instance (x : TMsg) (y : Int) : SplOf 16 [.int .i64 y] x.c ({ x with Call := { x.Call with Deed := { x.Call.Deed with Number := y } } } : TMsg).c := ⟨rfl⟩
instance (x : TMsg) : SegOf 17 7 x.c x.Call.Deps.c := ⟨rfl⟩
instance (x : TMsg) (y : TDeps) : SplOf 17 y.c x.c ({ x with Call := { x.Call with Deps := y } } : TMsg).c := ⟨rfl⟩
instance (x : TMsg) (y : Int) : SplOf 17 [.int .i64 y] x.c ({ x with Call := { x.Call with Deps := { x.Call.Deps with e0 := y } } } : TMsg).c := ⟨rfl⟩
instance (x : TMsg) (y : Int) : SplOf 18 [.int .i64 y] x.c ({ x with Call := { x.Call with Deps := { x.Call.Deps with e1 := y } } } : TMsg).c := ⟨rfl⟩
instance (x : TMsg) (y : Int) : SplOf 19 [.int .i64 y] x.c ({ x with Call := { x.Call with Deps := { x.Call.Deps with e2 := y } } } : TMsg).c := ⟨rfl⟩
instance (x : TMsg) (y : Int) : SplOf 20 [.int .i64 y] x.c ({ x with Call := { x.Call with Deps := { x.Call.Deps with e3 := y } } } : TMsg).c := ⟨rfl⟩
instance (x : TMsg) (y : Int) : SplOf 21 [.int .i64 y] x.c ({ x with Call := { x.Call with Deps := { x.Call.Deps with e4 := y } } } : TMsg).c := ⟨rfl⟩
instance (x : TMsg) (y : Int) : SplOf 22 [.int .i64 y] x.c ({ x with Call := { x.Call with Deps := { x.Call.Deps with e5 := y } } } : TMsg).c := ⟨rfl⟩
instance (x : TMsg) (y : Int) : SplOf 23 [.int .i64 y] x.c ({ x with Call := { x.Call with Deps := { x.Call.Deps with e6 := y } } } : TMsg).c := ⟨rfl⟩
instance (x : TMsg) (y : Int) : SplOf 24 [.int .i64 y] x.c ({ x with Call := { x.Call with Seq := y } } : TMsg).c := ⟨rfl⟩

structure Caucuslaw14Vote where
  Rep : Int
  N : Int
  deriving DecidableEq
def Caucuslaw14Vote.c (x : Caucuslaw14Vote) : List Go.Value := [.int .i64 x.Rep, .int .i64 x.N]
def Caucuslaw14Vote.z : Caucuslaw14Vote := ⟨0, 0⟩
instance : Inhabited Caucuslaw14Vote := ⟨Caucuslaw14Vote.z⟩
theorem Caucuslaw14Vote.ones : Ones Caucuslaw14Vote.c := fun _ => rfl
theorem Caucuslaw14Vote.len (x : Caucuslaw14Vote) : x.c.length = 2 := rfl
instance (x : Caucuslaw14Vote) : SegOf 0 2 x.c x.c := ⟨rfl⟩
instance (x y : Caucuslaw14Vote) : SplOf 0 x.c y.c x.c := ⟨rfl⟩
instance (x : Caucuslaw14Vote) (y : Int) : SplOf 0 [.int .i64 y] x.c ({ x with Rep := y } : Caucuslaw14Vote).c := ⟨rfl⟩
instance (x : Caucuslaw14Vote) (y : Int) : SplOf 1 [.int .i64 y] x.c ({ x with N := y } : Caucuslaw14Vote).c := ⟨rfl⟩

structure Caucuslaw14Case where
  N : Int
  Self : Int
  Item : TItem
  Ballot : TBallot
  Call : TCall
  Phase : Int
  deriving DecidableEq
def Caucuslaw14Case.c (x : Caucuslaw14Case) : List Go.Value := [.int .i64 x.N, .int .i64 x.Self] ++ (x.Item.c ++ (x.Ballot.c ++ (x.Call.c ++ ([.int .i64 x.Phase]))))
def Caucuslaw14Case.z : Caucuslaw14Case := ⟨0, 0, TItem.z, TBallot.z, TCall.z, 0⟩
instance : Inhabited Caucuslaw14Case := ⟨Caucuslaw14Case.z⟩
theorem Caucuslaw14Case.ones : Ones Caucuslaw14Case.c := fun _ => rfl
theorem Caucuslaw14Case.len (x : Caucuslaw14Case) : x.c.length = 21 := rfl
instance (x : Caucuslaw14Case) : SegOf 0 21 x.c x.c := ⟨rfl⟩
instance (x y : Caucuslaw14Case) : SplOf 0 x.c y.c x.c := ⟨rfl⟩
instance (x : Caucuslaw14Case) (y : Int) : SplOf 0 [.int .i64 y] x.c ({ x with N := y } : Caucuslaw14Case).c := ⟨rfl⟩
instance (x : Caucuslaw14Case) (y : Int) : SplOf 1 [.int .i64 y] x.c ({ x with Self := y } : Caucuslaw14Case).c := ⟨rfl⟩
instance (x : Caucuslaw14Case) : SegOf 2 2 x.c x.Item.c := ⟨rfl⟩
instance (x : Caucuslaw14Case) (y : TItem) : SplOf 2 y.c x.c ({ x with Item := y } : Caucuslaw14Case).c := ⟨rfl⟩
instance (x : Caucuslaw14Case) (y : Int) : SplOf 2 [.int .i64 y] x.c ({ x with Item := { x.Item with Rep := y } } : Caucuslaw14Case).c := ⟨rfl⟩
instance (x : Caucuslaw14Case) (y : Int) : SplOf 3 [.int .i64 y] x.c ({ x with Item := { x.Item with Num := y } } : Caucuslaw14Case).c := ⟨rfl⟩
instance (x : Caucuslaw14Case) : SegOf 4 2 x.c x.Ballot.c := ⟨rfl⟩
instance (x : Caucuslaw14Case) (y : TBallot) : SplOf 4 y.c x.c ({ x with Ballot := y } : Caucuslaw14Case).c := ⟨rfl⟩
instance (x : Caucuslaw14Case) (y : Int) : SplOf 4 [.int .i64 y] x.c ({ x with Ballot := { x.Ballot with Round := y } } : Caucuslaw14Case).c := ⟨rfl⟩
instance (x : Caucuslaw14Case) (y : Int) : SplOf 5 [.int .i64 y] x.c ({ x with Ballot := { x.Ballot with Rep := y } } : Caucuslaw14Case).c := ⟨rfl⟩
instance (x : Caucuslaw14Case) : SegOf 6 14 x.c x.Call.c := ⟨rfl⟩
instance (x : Caucuslaw14Case) (y : TCall) : SplOf 6 y.c x.c ({ x with Call := y } : Caucuslaw14Case).c := ⟨rfl⟩
instance (x : Caucuslaw14Case) : SegOf 6 6 x.c x.Call.Deed.c := ⟨rfl⟩
instance (x : Caucuslaw14Case) (y : TDeed) : SplOf 6 y.c x.c ({ x with Call := { x.Call with Deed := y } } : Caucuslaw14Case).c := ⟨rfl⟩
instance (x : Caucuslaw14Case) (y : Int) : SplOf 6 [.int .i64 y] x.c ({ x with Call := { x.Call with Deed := { x.Call.Deed with Kind := y } } } : Caucuslaw14Case).c := ⟨rfl⟩
instance (x : Caucuslaw14Case) (y : List UInt8) : SplOf 7 [S y] x.c ({ x with Call := { x.Call with Deed := { x.Call.Deed with Key := y } } } : Caucuslaw14Case).c := ⟨rfl⟩
instance (x : Caucuslaw14Case) (y : List UInt8) : SplOf 8 [S y] x.c ({ x with Call := { x.Call with Deed := { x.Call.Deed with Value := y } } } : Caucuslaw14Case).c := ⟨rfl⟩
instance (x : Caucuslaw14Case) (y : Int) : SplOf 9 [.int .i64 y] x.c ({ x with Call := { x.Call with Deed := { x.Call.Deed with Version := y } } } : Caucuslaw14Case).c := ⟨rfl⟩
instance (x : Caucuslaw14Case) (y : Int) : SplOf 10 [.int .i64 y] x.c ({ x with Call := { x.Call with Deed := { x.Call.Deed with Session := y } } } : Caucuslaw14Case).c := ⟨rfl⟩
instance (x : Caucuslaw14Case) (y : Int) : SplOf 11 [.int .i64 y] x.c ({ x with Call := { x.Call with Deed := { x.Call.Deed with Number := y } } } : Caucuslaw14Case).c := ⟨rfl⟩
instance (x : Caucuslaw14Case) : SegOf 12 7 x.c x.Call.Deps.c := ⟨rfl⟩
instance (x : Caucuslaw14Case) (y : TDeps) : SplOf 12 y.c x.c ({ x with Call := { x.Call with Deps := y } } : Caucuslaw14Case).c := ⟨rfl⟩
instance (x : Caucuslaw14Case) (y : Int) : SplOf 12 [.int .i64 y] x.c ({ x with Call := { x.Call with Deps := { x.Call.Deps with e0 := y } } } : Caucuslaw14Case).c := ⟨rfl⟩
instance (x : Caucuslaw14Case) (y : Int) : SplOf 13 [.int .i64 y] x.c ({ x with Call := { x.Call with Deps := { x.Call.Deps with e1 := y } } } : Caucuslaw14Case).c := ⟨rfl⟩
instance (x : Caucuslaw14Case) (y : Int) : SplOf 14 [.int .i64 y] x.c ({ x with Call := { x.Call with Deps := { x.Call.Deps with e2 := y } } } : Caucuslaw14Case).c := ⟨rfl⟩
instance (x : Caucuslaw14Case) (y : Int) : SplOf 15 [.int .i64 y] x.c ({ x with Call := { x.Call with Deps := { x.Call.Deps with e3 := y } } } : Caucuslaw14Case).c := ⟨rfl⟩
instance (x : Caucuslaw14Case) (y : Int) : SplOf 16 [.int .i64 y] x.c ({ x with Call := { x.Call with Deps := { x.Call.Deps with e4 := y } } } : Caucuslaw14Case).c := ⟨rfl⟩
instance (x : Caucuslaw14Case) (y : Int) : SplOf 17 [.int .i64 y] x.c ({ x with Call := { x.Call with Deps := { x.Call.Deps with e5 := y } } } : Caucuslaw14Case).c := ⟨rfl⟩
instance (x : Caucuslaw14Case) (y : Int) : SplOf 18 [.int .i64 y] x.c ({ x with Call := { x.Call with Deps := { x.Call.Deps with e6 := y } } } : Caucuslaw14Case).c := ⟨rfl⟩
instance (x : Caucuslaw14Case) (y : Int) : SplOf 19 [.int .i64 y] x.c ({ x with Call := { x.Call with Seq := y } } : Caucuslaw14Case).c := ⟨rfl⟩
instance (x : Caucuslaw14Case) (y : Int) : SplOf 20 [.int .i64 y] x.c ({ x with Phase := y } : Caucuslaw14Case).c := ⟨rfl⟩

structure Caucuslaw14Step where
  Late : Bool
  Msg : TMsg
  deriving DecidableEq
def Caucuslaw14Step.c (x : Caucuslaw14Step) : List Go.Value := [.bool x.Late] ++ (x.Msg.c)
def Caucuslaw14Step.z : Caucuslaw14Step := ⟨false, TMsg.z⟩
instance : Inhabited Caucuslaw14Step := ⟨Caucuslaw14Step.z⟩
theorem Caucuslaw14Step.ones : Ones Caucuslaw14Step.c := fun _ => rfl
theorem Caucuslaw14Step.len (x : Caucuslaw14Step) : x.c.length = 26 := rfl
instance (x : Caucuslaw14Step) : SegOf 0 26 x.c x.c := ⟨rfl⟩
instance (x y : Caucuslaw14Step) : SplOf 0 x.c y.c x.c := ⟨rfl⟩
instance (x : Caucuslaw14Step) (y : Bool) : SplOf 0 [.bool y] x.c ({ x with Late := y } : Caucuslaw14Step).c := ⟨rfl⟩
instance (x : Caucuslaw14Step) : SegOf 1 25 x.c x.Msg.c := ⟨rfl⟩
instance (x : Caucuslaw14Step) (y : TMsg) : SplOf 1 y.c x.c ({ x with Msg := y } : Caucuslaw14Step).c := ⟨rfl⟩
instance (x : Caucuslaw14Step) (y : Int) : SplOf 1 [.int .i64 y] x.c ({ x with Msg := { x.Msg with Kind := y } } : Caucuslaw14Step).c := ⟨rfl⟩
instance (x : Caucuslaw14Step) (y : Int) : SplOf 2 [.int .i64 y] x.c ({ x with Msg := { x.Msg with From := y } } : Caucuslaw14Step).c := ⟨rfl⟩
instance (x : Caucuslaw14Step) (y : Int) : SplOf 3 [.int .i64 y] x.c ({ x with Msg := { x.Msg with To := y } } : Caucuslaw14Step).c := ⟨rfl⟩
instance (x : Caucuslaw14Step) : SegOf 4 2 x.c x.Msg.Item.c := ⟨rfl⟩
instance (x : Caucuslaw14Step) (y : TItem) : SplOf 4 y.c x.c ({ x with Msg := { x.Msg with Item := y } } : Caucuslaw14Step).c := ⟨rfl⟩
instance (x : Caucuslaw14Step) (y : Int) : SplOf 4 [.int .i64 y] x.c ({ x with Msg := { x.Msg with Item := { x.Msg.Item with Rep := y } } } : Caucuslaw14Step).c := ⟨rfl⟩
instance (x : Caucuslaw14Step) (y : Int) : SplOf 5 [.int .i64 y] x.c ({ x with Msg := { x.Msg with Item := { x.Msg.Item with Num := y } } } : Caucuslaw14Step).c := ⟨rfl⟩
instance (x : Caucuslaw14Step) : SegOf 6 2 x.c x.Msg.Ballot.c := ⟨rfl⟩
instance (x : Caucuslaw14Step) (y : TBallot) : SplOf 6 y.c x.c ({ x with Msg := { x.Msg with Ballot := y } } : Caucuslaw14Step).c := ⟨rfl⟩
instance (x : Caucuslaw14Step) (y : Int) : SplOf 6 [.int .i64 y] x.c ({ x with Msg := { x.Msg with Ballot := { x.Msg.Ballot with Round := y } } } : Caucuslaw14Step).c := ⟨rfl⟩
instance (x : Caucuslaw14Step) (y : Int) : SplOf 7 [.int .i64 y] x.c ({ x with Msg := { x.Msg with Ballot := { x.Msg.Ballot with Rep := y } } } : Caucuslaw14Step).c := ⟨rfl⟩
instance (x : Caucuslaw14Step) : SegOf 8 2 x.c x.Msg.Vote.c := ⟨rfl⟩
instance (x : Caucuslaw14Step) (y : TBallot) : SplOf 8 y.c x.c ({ x with Msg := { x.Msg with Vote := y } } : Caucuslaw14Step).c := ⟨rfl⟩
instance (x : Caucuslaw14Step) (y : Int) : SplOf 8 [.int .i64 y] x.c ({ x with Msg := { x.Msg with Vote := { x.Msg.Vote with Round := y } } } : Caucuslaw14Step).c := ⟨rfl⟩
instance (x : Caucuslaw14Step) (y : Int) : SplOf 9 [.int .i64 y] x.c ({ x with Msg := { x.Msg with Vote := { x.Msg.Vote with Rep := y } } } : Caucuslaw14Step).c := ⟨rfl⟩
instance (x : Caucuslaw14Step) (y : Int) : SplOf 10 [.int .i64 y] x.c ({ x with Msg := { x.Msg with Status := y } } : Caucuslaw14Step).c := ⟨rfl⟩
instance (x : Caucuslaw14Step) (y : Bool) : SplOf 11 [.bool y] x.c ({ x with Msg := { x.Msg with Same := y } } : Caucuslaw14Step).c := ⟨rfl⟩
instance (x : Caucuslaw14Step) : SegOf 12 14 x.c x.Msg.Call.c := ⟨rfl⟩
instance (x : Caucuslaw14Step) (y : TCall) : SplOf 12 y.c x.c ({ x with Msg := { x.Msg with Call := y } } : Caucuslaw14Step).c := ⟨rfl⟩
instance (x : Caucuslaw14Step) : SegOf 12 6 x.c x.Msg.Call.Deed.c := ⟨rfl⟩
instance (x : Caucuslaw14Step) (y : TDeed) : SplOf 12 y.c x.c ({ x with Msg := { x.Msg with Call := { x.Msg.Call with Deed := y } } } : Caucuslaw14Step).c := ⟨rfl⟩
instance (x : Caucuslaw14Step) (y : Int) : SplOf 12 [.int .i64 y] x.c ({ x with Msg := { x.Msg with Call := { x.Msg.Call with Deed := { x.Msg.Call.Deed with Kind := y } } } } : Caucuslaw14Step).c := ⟨rfl⟩
instance (x : Caucuslaw14Step) (y : List UInt8) : SplOf 13 [S y] x.c ({ x with Msg := { x.Msg with Call := { x.Msg.Call with Deed := { x.Msg.Call.Deed with Key := y } } } } : Caucuslaw14Step).c := ⟨rfl⟩
instance (x : Caucuslaw14Step) (y : List UInt8) : SplOf 14 [S y] x.c ({ x with Msg := { x.Msg with Call := { x.Msg.Call with Deed := { x.Msg.Call.Deed with Value := y } } } } : Caucuslaw14Step).c := ⟨rfl⟩
instance (x : Caucuslaw14Step) (y : Int) : SplOf 15 [.int .i64 y] x.c ({ x with Msg := { x.Msg with Call := { x.Msg.Call with Deed := { x.Msg.Call.Deed with Version := y } } } } : Caucuslaw14Step).c := ⟨rfl⟩
instance (x : Caucuslaw14Step) (y : Int) : SplOf 16 [.int .i64 y] x.c ({ x with Msg := { x.Msg with Call := { x.Msg.Call with Deed := { x.Msg.Call.Deed with Session := y } } } } : Caucuslaw14Step).c := ⟨rfl⟩
instance (x : Caucuslaw14Step) (y : Int) : SplOf 17 [.int .i64 y] x.c ({ x with Msg := { x.Msg with Call := { x.Msg.Call with Deed := { x.Msg.Call.Deed with Number := y } } } } : Caucuslaw14Step).c := ⟨rfl⟩
instance (x : Caucuslaw14Step) : SegOf 18 7 x.c x.Msg.Call.Deps.c := ⟨rfl⟩
instance (x : Caucuslaw14Step) (y : TDeps) : SplOf 18 y.c x.c ({ x with Msg := { x.Msg with Call := { x.Msg.Call with Deps := y } } } : Caucuslaw14Step).c := ⟨rfl⟩
instance (x : Caucuslaw14Step) (y : Int) : SplOf 18 [.int .i64 y] x.c ({ x with Msg := { x.Msg with Call := { x.Msg.Call with Deps := { x.Msg.Call.Deps with e0 := y } } } } : Caucuslaw14Step).c := ⟨rfl⟩
instance (x : Caucuslaw14Step) (y : Int) : SplOf 19 [.int .i64 y] x.c ({ x with Msg := { x.Msg with Call := { x.Msg.Call with Deps := { x.Msg.Call.Deps with e1 := y } } } } : Caucuslaw14Step).c := ⟨rfl⟩
instance (x : Caucuslaw14Step) (y : Int) : SplOf 20 [.int .i64 y] x.c ({ x with Msg := { x.Msg with Call := { x.Msg.Call with Deps := { x.Msg.Call.Deps with e2 := y } } } } : Caucuslaw14Step).c := ⟨rfl⟩
instance (x : Caucuslaw14Step) (y : Int) : SplOf 21 [.int .i64 y] x.c ({ x with Msg := { x.Msg with Call := { x.Msg.Call with Deps := { x.Msg.Call.Deps with e3 := y } } } } : Caucuslaw14Step).c := ⟨rfl⟩
instance (x : Caucuslaw14Step) (y : Int) : SplOf 22 [.int .i64 y] x.c ({ x with Msg := { x.Msg with Call := { x.Msg.Call with Deps := { x.Msg.Call.Deps with e4 := y } } } } : Caucuslaw14Step).c := ⟨rfl⟩
instance (x : Caucuslaw14Step) (y : Int) : SplOf 23 [.int .i64 y] x.c ({ x with Msg := { x.Msg with Call := { x.Msg.Call with Deps := { x.Msg.Call.Deps with e5 := y } } } } : Caucuslaw14Step).c := ⟨rfl⟩
instance (x : Caucuslaw14Step) (y : Int) : SplOf 24 [.int .i64 y] x.c ({ x with Msg := { x.Msg with Call := { x.Msg.Call with Deps := { x.Msg.Call.Deps with e6 := y } } } } : Caucuslaw14Step).c := ⟨rfl⟩
instance (x : Caucuslaw14Step) (y : Int) : SplOf 25 [.int .i64 y] x.c ({ x with Msg := { x.Msg with Call := { x.Msg.Call with Seq := y } } } : Caucuslaw14Step).c := ⟨rfl⟩

structure Caucusref14Lead where
  N : Int
  Self : Int
  Item : TItem
  Ballot : TBallot
  Call : TCall
  Phase : Int
  Pres : Go.Value
  Oks : Go.Value
def Caucusref14Lead.c (x : Caucusref14Lead) : List Go.Value := [.int .i64 x.N, .int .i64 x.Self] ++ (x.Item.c ++ (x.Ballot.c ++ (x.Call.c ++ ([.int .i64 x.Phase, x.Pres, x.Oks]))))
def Caucusref14Lead.z : Caucusref14Lead := ⟨0, 0, TItem.z, TBallot.z, TCall.z, 0, .slice none 0 0, .slice none 0 0⟩
instance : Inhabited Caucusref14Lead := ⟨Caucusref14Lead.z⟩
theorem Caucusref14Lead.len (x : Caucusref14Lead) : x.c.length = 23 := rfl
instance (x : Caucusref14Lead) : SegOf 0 23 x.c x.c := ⟨rfl⟩
instance (x y : Caucusref14Lead) : SplOf 0 x.c y.c x.c := ⟨rfl⟩
instance (x : Caucusref14Lead) (y : Int) : SplOf 0 [.int .i64 y] x.c ({ x with N := y } : Caucusref14Lead).c := ⟨rfl⟩
instance (x : Caucusref14Lead) (y : Int) : SplOf 1 [.int .i64 y] x.c ({ x with Self := y } : Caucusref14Lead).c := ⟨rfl⟩
instance (x : Caucusref14Lead) : SegOf 2 2 x.c x.Item.c := ⟨rfl⟩
instance (x : Caucusref14Lead) (y : TItem) : SplOf 2 y.c x.c ({ x with Item := y } : Caucusref14Lead).c := ⟨rfl⟩
instance (x : Caucusref14Lead) (y : Int) : SplOf 2 [.int .i64 y] x.c ({ x with Item := { x.Item with Rep := y } } : Caucusref14Lead).c := ⟨rfl⟩
instance (x : Caucusref14Lead) (y : Int) : SplOf 3 [.int .i64 y] x.c ({ x with Item := { x.Item with Num := y } } : Caucusref14Lead).c := ⟨rfl⟩
instance (x : Caucusref14Lead) : SegOf 4 2 x.c x.Ballot.c := ⟨rfl⟩
instance (x : Caucusref14Lead) (y : TBallot) : SplOf 4 y.c x.c ({ x with Ballot := y } : Caucusref14Lead).c := ⟨rfl⟩
instance (x : Caucusref14Lead) (y : Int) : SplOf 4 [.int .i64 y] x.c ({ x with Ballot := { x.Ballot with Round := y } } : Caucusref14Lead).c := ⟨rfl⟩
instance (x : Caucusref14Lead) (y : Int) : SplOf 5 [.int .i64 y] x.c ({ x with Ballot := { x.Ballot with Rep := y } } : Caucusref14Lead).c := ⟨rfl⟩
instance (x : Caucusref14Lead) : SegOf 6 14 x.c x.Call.c := ⟨rfl⟩
instance (x : Caucusref14Lead) (y : TCall) : SplOf 6 y.c x.c ({ x with Call := y } : Caucusref14Lead).c := ⟨rfl⟩
instance (x : Caucusref14Lead) : SegOf 6 6 x.c x.Call.Deed.c := ⟨rfl⟩
instance (x : Caucusref14Lead) (y : TDeed) : SplOf 6 y.c x.c ({ x with Call := { x.Call with Deed := y } } : Caucusref14Lead).c := ⟨rfl⟩
instance (x : Caucusref14Lead) (y : Int) : SplOf 6 [.int .i64 y] x.c ({ x with Call := { x.Call with Deed := { x.Call.Deed with Kind := y } } } : Caucusref14Lead).c := ⟨rfl⟩
instance (x : Caucusref14Lead) (y : List UInt8) : SplOf 7 [S y] x.c ({ x with Call := { x.Call with Deed := { x.Call.Deed with Key := y } } } : Caucusref14Lead).c := ⟨rfl⟩
instance (x : Caucusref14Lead) (y : List UInt8) : SplOf 8 [S y] x.c ({ x with Call := { x.Call with Deed := { x.Call.Deed with Value := y } } } : Caucusref14Lead).c := ⟨rfl⟩
instance (x : Caucusref14Lead) (y : Int) : SplOf 9 [.int .i64 y] x.c ({ x with Call := { x.Call with Deed := { x.Call.Deed with Version := y } } } : Caucusref14Lead).c := ⟨rfl⟩
instance (x : Caucusref14Lead) (y : Int) : SplOf 10 [.int .i64 y] x.c ({ x with Call := { x.Call with Deed := { x.Call.Deed with Session := y } } } : Caucusref14Lead).c := ⟨rfl⟩
instance (x : Caucusref14Lead) (y : Int) : SplOf 11 [.int .i64 y] x.c ({ x with Call := { x.Call with Deed := { x.Call.Deed with Number := y } } } : Caucusref14Lead).c := ⟨rfl⟩
instance (x : Caucusref14Lead) : SegOf 12 7 x.c x.Call.Deps.c := ⟨rfl⟩
instance (x : Caucusref14Lead) (y : TDeps) : SplOf 12 y.c x.c ({ x with Call := { x.Call with Deps := y } } : Caucusref14Lead).c := ⟨rfl⟩
instance (x : Caucusref14Lead) (y : Int) : SplOf 12 [.int .i64 y] x.c ({ x with Call := { x.Call with Deps := { x.Call.Deps with e0 := y } } } : Caucusref14Lead).c := ⟨rfl⟩
instance (x : Caucusref14Lead) (y : Int) : SplOf 13 [.int .i64 y] x.c ({ x with Call := { x.Call with Deps := { x.Call.Deps with e1 := y } } } : Caucusref14Lead).c := ⟨rfl⟩
instance (x : Caucusref14Lead) (y : Int) : SplOf 14 [.int .i64 y] x.c ({ x with Call := { x.Call with Deps := { x.Call.Deps with e2 := y } } } : Caucusref14Lead).c := ⟨rfl⟩
instance (x : Caucusref14Lead) (y : Int) : SplOf 15 [.int .i64 y] x.c ({ x with Call := { x.Call with Deps := { x.Call.Deps with e3 := y } } } : Caucusref14Lead).c := ⟨rfl⟩
instance (x : Caucusref14Lead) (y : Int) : SplOf 16 [.int .i64 y] x.c ({ x with Call := { x.Call with Deps := { x.Call.Deps with e4 := y } } } : Caucusref14Lead).c := ⟨rfl⟩
instance (x : Caucusref14Lead) (y : Int) : SplOf 17 [.int .i64 y] x.c ({ x with Call := { x.Call with Deps := { x.Call.Deps with e5 := y } } } : Caucusref14Lead).c := ⟨rfl⟩
instance (x : Caucusref14Lead) (y : Int) : SplOf 18 [.int .i64 y] x.c ({ x with Call := { x.Call with Deps := { x.Call.Deps with e6 := y } } } : Caucusref14Lead).c := ⟨rfl⟩
instance (x : Caucusref14Lead) (y : Int) : SplOf 19 [.int .i64 y] x.c ({ x with Call := { x.Call with Seq := y } } : Caucusref14Lead).c := ⟨rfl⟩
instance (x : Caucusref14Lead) (y : Int) : SplOf 20 [.int .i64 y] x.c ({ x with Phase := y } : Caucusref14Lead).c := ⟨rfl⟩
instance (x : Caucusref14Lead) (y : Go.Value) : SplOf 21 [y] x.c ({ x with Pres := y } : Caucusref14Lead).c := ⟨rfl⟩
instance (x : Caucusref14Lead) (y : Go.Value) : SplOf 22 [y] x.c ({ x with Oks := y } : Caucusref14Lead).c := ⟨rfl⟩

structure Caucusref10Wheel where
  Keys : Go.Value
  Dues : Go.Value
def Caucusref10Wheel.c (x : Caucusref10Wheel) : List Go.Value := [x.Keys, x.Dues]
def Caucusref10Wheel.z : Caucusref10Wheel := ⟨.slice none 0 0, .slice none 0 0⟩
instance : Inhabited Caucusref10Wheel := ⟨Caucusref10Wheel.z⟩
theorem Caucusref10Wheel.len (x : Caucusref10Wheel) : x.c.length = 2 := rfl
instance (x : Caucusref10Wheel) : SegOf 0 2 x.c x.c := ⟨rfl⟩
instance (x y : Caucusref10Wheel) : SplOf 0 x.c y.c x.c := ⟨rfl⟩
instance (x : Caucusref10Wheel) (y : Go.Value) : SplOf 0 [y] x.c ({ x with Keys := y } : Caucusref10Wheel).c := ⟨rfl⟩
instance (x : Caucusref10Wheel) (y : Go.Value) : SplOf 1 [y] x.c ({ x with Dues := y } : Caucusref10Wheel).c := ⟨rfl⟩

structure Caucuslaw10Call where
  Kind : Int
  Key : Int
  N : Int
  deriving DecidableEq
def Caucuslaw10Call.c (x : Caucuslaw10Call) : List Go.Value := [.int .i64 x.Kind, .int .i64 x.Key, .int .i64 x.N]
def Caucuslaw10Call.z : Caucuslaw10Call := ⟨0, 0, 0⟩
instance : Inhabited Caucuslaw10Call := ⟨Caucuslaw10Call.z⟩
theorem Caucuslaw10Call.ones : Ones Caucuslaw10Call.c := fun _ => rfl
theorem Caucuslaw10Call.len (x : Caucuslaw10Call) : x.c.length = 3 := rfl
instance (x : Caucuslaw10Call) : SegOf 0 3 x.c x.c := ⟨rfl⟩
instance (x y : Caucuslaw10Call) : SplOf 0 x.c y.c x.c := ⟨rfl⟩
instance (x : Caucuslaw10Call) (y : Int) : SplOf 0 [.int .i64 y] x.c ({ x with Kind := y } : Caucuslaw10Call).c := ⟨rfl⟩
instance (x : Caucuslaw10Call) (y : Int) : SplOf 1 [.int .i64 y] x.c ({ x with Key := y } : Caucuslaw10Call).c := ⟨rfl⟩
instance (x : Caucuslaw10Call) (y : Int) : SplOf 2 [.int .i64 y] x.c ({ x with N := y } : Caucuslaw10Call).c := ⟨rfl⟩

structure Caucuslaw17Call where
  Kind : Int
  Now : Int
  Item : TItem
  deriving DecidableEq
def Caucuslaw17Call.c (x : Caucuslaw17Call) : List Go.Value := [.int .i64 x.Kind, .int .i64 x.Now] ++ (x.Item.c)
def Caucuslaw17Call.z : Caucuslaw17Call := ⟨0, 0, TItem.z⟩
instance : Inhabited Caucuslaw17Call := ⟨Caucuslaw17Call.z⟩
theorem Caucuslaw17Call.ones : Ones Caucuslaw17Call.c := fun _ => rfl
theorem Caucuslaw17Call.len (x : Caucuslaw17Call) : x.c.length = 4 := rfl
instance (x : Caucuslaw17Call) : SegOf 0 4 x.c x.c := ⟨rfl⟩
instance (x y : Caucuslaw17Call) : SplOf 0 x.c y.c x.c := ⟨rfl⟩
instance (x : Caucuslaw17Call) (y : Int) : SplOf 0 [.int .i64 y] x.c ({ x with Kind := y } : Caucuslaw17Call).c := ⟨rfl⟩
instance (x : Caucuslaw17Call) (y : Int) : SplOf 1 [.int .i64 y] x.c ({ x with Now := y } : Caucuslaw17Call).c := ⟨rfl⟩
instance (x : Caucuslaw17Call) : SegOf 2 2 x.c x.Item.c := ⟨rfl⟩
instance (x : Caucuslaw17Call) (y : TItem) : SplOf 2 y.c x.c ({ x with Item := y } : Caucuslaw17Call).c := ⟨rfl⟩
instance (x : Caucuslaw17Call) (y : Int) : SplOf 2 [.int .i64 y] x.c ({ x with Item := { x.Item with Rep := y } } : Caucuslaw17Call).c := ⟨rfl⟩
instance (x : Caucuslaw17Call) (y : Int) : SplOf 3 [.int .i64 y] x.c ({ x with Item := { x.Item with Num := y } } : Caucuslaw17Call).c := ⟨rfl⟩

structure WheelWheelOfInt where
  list : Go.Value
  turn : Int
def WheelWheelOfInt.c (x : WheelWheelOfInt) : List Go.Value := [x.list, .int .i64 x.turn]
def WheelWheelOfInt.z : WheelWheelOfInt := ⟨.slice none 0 0, 0⟩
instance : Inhabited WheelWheelOfInt := ⟨WheelWheelOfInt.z⟩
theorem WheelWheelOfInt.len (x : WheelWheelOfInt) : x.c.length = 2 := rfl
instance (x : WheelWheelOfInt) : SegOf 0 2 x.c x.c := ⟨rfl⟩
instance (x y : WheelWheelOfInt) : SplOf 0 x.c y.c x.c := ⟨rfl⟩
instance (x : WheelWheelOfInt) (y : Go.Value) : SplOf 0 [y] x.c ({ x with list := y } : WheelWheelOfInt).c := ⟨rfl⟩
instance (x : WheelWheelOfInt) (y : Int) : SplOf 1 [.int .i64 y] x.c ({ x with turn := y } : WheelWheelOfInt).c := ⟨rfl⟩

structure WheelSpokeOfInt where
  key : Int
  due : Int
  turn : Int
  deriving DecidableEq
def WheelSpokeOfInt.c (x : WheelSpokeOfInt) : List Go.Value := [.int .i64 x.key, .int .i64 x.due, .int .i64 x.turn]
def WheelSpokeOfInt.z : WheelSpokeOfInt := ⟨0, 0, 0⟩
instance : Inhabited WheelSpokeOfInt := ⟨WheelSpokeOfInt.z⟩
theorem WheelSpokeOfInt.ones : Ones WheelSpokeOfInt.c := fun _ => rfl
theorem WheelSpokeOfInt.len (x : WheelSpokeOfInt) : x.c.length = 3 := rfl
instance (x : WheelSpokeOfInt) : SegOf 0 3 x.c x.c := ⟨rfl⟩
instance (x y : WheelSpokeOfInt) : SplOf 0 x.c y.c x.c := ⟨rfl⟩
instance (x : WheelSpokeOfInt) (y : Int) : SplOf 0 [.int .i64 y] x.c ({ x with key := y } : WheelSpokeOfInt).c := ⟨rfl⟩
instance (x : WheelSpokeOfInt) (y : Int) : SplOf 1 [.int .i64 y] x.c ({ x with due := y } : WheelSpokeOfInt).c := ⟨rfl⟩
instance (x : WheelSpokeOfInt) (y : Int) : SplOf 2 [.int .i64 y] x.c ({ x with turn := y } : WheelSpokeOfInt).c := ⟨rfl⟩

structure PacePace where
  n : Int
  self : Int
  due : Go.Value
  tries : Go.Value
def PacePace.c (x : PacePace) : List Go.Value := [.int .i64 x.n, .int .i64 x.self, x.due, x.tries]
def PacePace.z : PacePace := ⟨0, 0, .pointer none, .map none⟩
instance : Inhabited PacePace := ⟨PacePace.z⟩
theorem PacePace.len (x : PacePace) : x.c.length = 4 := rfl
instance (x : PacePace) : SegOf 0 4 x.c x.c := ⟨rfl⟩
instance (x y : PacePace) : SplOf 0 x.c y.c x.c := ⟨rfl⟩
instance (x : PacePace) (y : Int) : SplOf 0 [.int .i64 y] x.c ({ x with n := y } : PacePace).c := ⟨rfl⟩
instance (x : PacePace) (y : Int) : SplOf 1 [.int .i64 y] x.c ({ x with self := y } : PacePace).c := ⟨rfl⟩
instance (x : PacePace) (y : Go.Value) : SplOf 2 [y] x.c ({ x with due := y } : PacePace).c := ⟨rfl⟩
instance (x : PacePace) (y : Go.Value) : SplOf 3 [y] x.c ({ x with tries := y } : PacePace).c := ⟨rfl⟩

structure WheelWheelOfItem where
  list : Go.Value
  turn : Int
def WheelWheelOfItem.c (x : WheelWheelOfItem) : List Go.Value := [x.list, .int .i64 x.turn]
def WheelWheelOfItem.z : WheelWheelOfItem := ⟨.slice none 0 0, 0⟩
instance : Inhabited WheelWheelOfItem := ⟨WheelWheelOfItem.z⟩
theorem WheelWheelOfItem.len (x : WheelWheelOfItem) : x.c.length = 2 := rfl
instance (x : WheelWheelOfItem) : SegOf 0 2 x.c x.c := ⟨rfl⟩
instance (x y : WheelWheelOfItem) : SplOf 0 x.c y.c x.c := ⟨rfl⟩
instance (x : WheelWheelOfItem) (y : Go.Value) : SplOf 0 [y] x.c ({ x with list := y } : WheelWheelOfItem).c := ⟨rfl⟩
instance (x : WheelWheelOfItem) (y : Int) : SplOf 1 [.int .i64 y] x.c ({ x with turn := y } : WheelWheelOfItem).c := ⟨rfl⟩

structure WheelSpokeOfItem where
  key : TItem
  due : Int
  turn : Int
  deriving DecidableEq
def WheelSpokeOfItem.c (x : WheelSpokeOfItem) : List Go.Value := x.key.c ++ ([.int .i64 x.due, .int .i64 x.turn])
def WheelSpokeOfItem.z : WheelSpokeOfItem := ⟨TItem.z, 0, 0⟩
instance : Inhabited WheelSpokeOfItem := ⟨WheelSpokeOfItem.z⟩
theorem WheelSpokeOfItem.ones : Ones WheelSpokeOfItem.c := fun _ => rfl
theorem WheelSpokeOfItem.len (x : WheelSpokeOfItem) : x.c.length = 4 := rfl
instance (x : WheelSpokeOfItem) : SegOf 0 4 x.c x.c := ⟨rfl⟩
instance (x y : WheelSpokeOfItem) : SplOf 0 x.c y.c x.c := ⟨rfl⟩
instance (x : WheelSpokeOfItem) : SegOf 0 2 x.c x.key.c := ⟨rfl⟩
instance (x : WheelSpokeOfItem) (y : TItem) : SplOf 0 y.c x.c ({ x with key := y } : WheelSpokeOfItem).c := ⟨rfl⟩
instance (x : WheelSpokeOfItem) (y : Int) : SplOf 0 [.int .i64 y] x.c ({ x with key := { x.key with Rep := y } } : WheelSpokeOfItem).c := ⟨rfl⟩
instance (x : WheelSpokeOfItem) (y : Int) : SplOf 1 [.int .i64 y] x.c ({ x with key := { x.key with Num := y } } : WheelSpokeOfItem).c := ⟨rfl⟩
instance (x : WheelSpokeOfItem) (y : Int) : SplOf 2 [.int .i64 y] x.c ({ x with due := y } : WheelSpokeOfItem).c := ⟨rfl⟩
instance (x : WheelSpokeOfItem) (y : Int) : SplOf 3 [.int .i64 y] x.c ({ x with turn := y } : WheelSpokeOfItem).c := ⟨rfl⟩

/-- Votes that are messages; votes that are bools. -/
def votesC (l : List TMsg) (h : List Bool) (n : Int) : List Go.Value := l.flatMap TMsg.c ++ (h.map (fun b => B b) ++ [I n])
def oksC (l : List Bool) (h : List Bool) (n : Int) : List Go.Value := l.map (fun b => B b) ++ (h.map (fun b => B b) ++ [I n])
structure LeadS where
  n : Int
  self : Int
  item : TItem
  ballot : TBallot
  call : TCall
  phase : Int
  pl : List TMsg
  ph : List Bool
  pn : Int
  ol : List Bool
  oh : List Bool
  om : Int
def LeadS.c (x : LeadS) : List Go.Value := [.int .i64 x.n, .int .i64 x.self] ++ (x.item.c ++ (x.ballot.c ++ (x.call.c ++ ([.int .i64 x.phase] ++ (votesC x.pl x.ph x.pn ++ oksC x.ol x.oh x.om)))))
def LeadS.z : LeadS := ⟨0, 0, TItem.z, TBallot.z, TCall.z, 0, List.replicate 7 TMsg.z, List.replicate 7 false, 0, List.replicate 7 false, List.replicate 7 false, 0⟩
instance (x : LeadS) (y : Int) : SplOf 0 [.int .i64 y] x.c ({ x with n := y } : LeadS).c := ⟨rfl⟩
instance (x : LeadS) (y : Int) : SplOf 1 [.int .i64 y] x.c ({ x with self := y } : LeadS).c := ⟨rfl⟩
instance (x : LeadS) (y : Int) : SplOf 20 [.int .i64 y] x.c ({ x with phase := y } : LeadS).c := ⟨rfl⟩
instance (x : LeadS) : SegOf 2 2 x.c x.item.c := ⟨rfl⟩
instance (x : LeadS) (y : TItem) : SplOf 2 y.c x.c ({ x with item := y } : LeadS).c := ⟨rfl⟩
instance (x : LeadS) : SegOf 4 2 x.c x.ballot.c := ⟨rfl⟩
instance (x : LeadS) (y : TBallot) : SplOf 4 y.c x.c ({ x with ballot := y } : LeadS).c := ⟨rfl⟩
instance (x : LeadS) : SegOf 6 14 x.c x.call.c := ⟨rfl⟩
instance (x : LeadS) (y : TCall) : SplOf 6 y.c x.c ({ x with call := y } : LeadS).c := ⟨rfl⟩
structure RescS where
  n : Int
  self : Int
  item : TItem
  ballot : TBallot
  lost : Bool
  gl : List TMsg
  gh : List Bool
  gn : Int
  next : Go.Value
def RescS.c (x : RescS) : List Go.Value := [.int .i64 x.n, .int .i64 x.self] ++ (x.item.c ++ (x.ballot.c ++ ([.bool x.lost] ++ (votesC x.gl x.gh x.gn ++ [x.next]))))
def RescS.z : RescS := ⟨0, 0, TItem.z, TBallot.z, false, List.replicate 7 TMsg.z, List.replicate 7 false, 0, .pointer none⟩
instance (x : RescS) (y : Int) : SplOf 0 [.int .i64 y] x.c ({ x with n := y } : RescS).c := ⟨rfl⟩
instance (x : RescS) (y : Int) : SplOf 1 [.int .i64 y] x.c ({ x with self := y } : RescS).c := ⟨rfl⟩
instance (x : RescS) (y : Bool) : SplOf 6 [.bool y] x.c ({ x with lost := y } : RescS).c := ⟨rfl⟩
instance (x : RescS) : SegOf 2 2 x.c x.item.c := ⟨rfl⟩
instance (x : RescS) (y : TItem) : SplOf 2 y.c x.c ({ x with item := y } : RescS).c := ⟨rfl⟩
instance (x : RescS) : SegOf 4 2 x.c x.ballot.c := ⟨rfl⟩
instance (x : RescS) (y : TBallot) : SplOf 4 y.c x.c ({ x with ballot := y } : RescS).c := ⟨rfl⟩

def tbZ : List (Nat × List Value) := [(2, [.int .i64 0]), (3, [.int .i64 0]), (4, [.bool false]), (5, [.int .u8 0]), (6, [.int .u8 0]), (7, [.int .i64 0, .int .i64 0, .bool false, .int .u8 0]), (8, [.int .i64 0, .int .i64 0, .bool false, .int .u8 0]), (9, [S []]), (10, [S []]), (11, [S []]), (12, [.int .u64 0]), (13, [S [], .int .u64 0]), (14, [S [], .int .u64 0]), (15, [.pointer none]), (16, [.pointer none]), (17, [.pointer none]), (18, [.pointer none]), (19, [.pointer none]), (21, [.int .i32 0]), (22, [.int .i64 0, .int .i64 0]), (23, TItem.z.c), (24, [.slice none 0 0]), (27, [.int .i64 0]), (28, [.int .i64 0, S [], S [], .int .i64 0, .int .i64 0, .int .i64 0]), (29, TDeed.z.c), (30, [.int .i64 0, .int .i64 0, .int .i64 0, .int .i64 0, .int .i64 0, .int .i64 0, .int .i64 0]), (31, TDeps.z.c), (32, [.int .i64 0, S [], S [], .int .i64 0, .int .i64 0, .int .i64 0, .int .i64 0, .int .i64 0, .int .i64 0, .int .i64 0, .int .i64 0, .int .i64 0, .int .i64 0, .int .i64 0]), (33, TCall.z.c), (39, [.int .i64 0, .int .i64 0]), (40, TBallot.z.c), (41, [.slice none 0 0]), (43, [.int .i64 0, .int .i64 0, .int .i64 0, .int .i64 0, .int .i64 0, .int .i64 0, .int .i64 0, .int .i64 0, .int .i64 0, .int .i64 0, .bool false, .int .i64 0, S [], S [], .int .i64 0, .int .i64 0, .int .i64 0, .int .i64 0, .int .i64 0, .int .i64 0, .int .i64 0, .int .i64 0, .int .i64 0, .int .i64 0, .int .i64 0]), (44, TMsg.z.c), (46, [.map none]), (51, [.int .u64 0]), (53, [.slice none 0 0]), (54, [.pointer none]), (55, [.bool false, .bool false, .bool false, .bool false, .bool false, .bool false, .bool false]), (56, [.int .i64 0, .int .i64 0, .int .i64 0, .int .i64 0, .int .i64 0, .int .i64 0, .int .i64 0, .bool false, .bool false, .bool false, .bool false, .bool false, .bool false, .bool false, .int .i64 0]), (57, [.int .i64 0, .int .i64 0, .int .i64 0, .int .i64 0, .int .i64 0, .int .i64 0, .int .i64 0, .bool false, .bool false, .bool false, .bool false, .bool false, .bool false, .bool false, .int .i64 0]), (58, [.map none]), (59, [.int .i64 0, .int .i64 0]), (60, Caucuslaw14Vote.z.c), (68, [.int .i64 0, .int .i64 0, .int .i64 0, .int .i64 0, .int .i64 0, .int .i64 0, .int .i64 0, S [], S [], .int .i64 0, .int .i64 0, .int .i64 0, .int .i64 0, .int .i64 0, .int .i64 0, .int .i64 0, .int .i64 0, .int .i64 0, .int .i64 0, .int .i64 0, .int .i64 0]), (69, Caucuslaw14Case.z.c), (70, [.slice none 0 0]), (72, [.pointer none]), (73, [.pointer none]), (78, [.int .i64 0]), (82, [.slice none 0 0]), (83, [.bool false, .int .i64 0, .int .i64 0, .int .i64 0, .int .i64 0, .int .i64 0, .int .i64 0, .int .i64 0, .int .i64 0, .int .i64 0, .int .i64 0, .bool false, .int .i64 0, S [], S [], .int .i64 0, .int .i64 0, .int .i64 0, .int .i64 0, .int .i64 0, .int .i64 0, .int .i64 0, .int .i64 0, .int .i64 0, .int .i64 0, .int .i64 0]), (84, Caucuslaw14Step.z.c), (87, [.int .i64 0, .int .i64 0, .int .i64 0, .int .i64 0, .int .i64 0, .int .i64 0, .int .i64 0, S [], S [], .int .i64 0, .int .i64 0, .int .i64 0, .int .i64 0, .int .i64 0, .int .i64 0, .int .i64 0, .int .i64 0, .int .i64 0, .int .i64 0, .int .i64 0, .int .i64 0, .slice none 0 0, .slice none 0 0]), (88, Caucusref14Lead.z.c), (91, [.int .i64 0, .int .i64 0, .int .i64 0, .int .i64 0]), (92, [.slice none 0 0]), (93, [.pointer none]), (95, [.pointer none]), (96, [.slice none 0 0, .slice none 0 0]), (97, Caucusref10Wheel.z.c), (98, [.int .i64 0, .int .i64 0, .int .i64 0]), (99, Caucuslaw10Call.z.c), (113, [.pointer none]), (116, [.pointer none]), (125, [.slice none 0 0]), (126, [.int .i64 0, .int .i64 0, .int .i64 0, .int .i64 0]), (127, Caucuslaw17Call.z.c), (138, votesC (List.replicate 7 TMsg.z) (List.replicate 7 false) 0), (139, [.bool false, .bool false, .bool false, .bool false, .bool false, .bool false, .bool false, .bool false, .bool false, .bool false, .bool false, .bool false, .bool false, .bool false, .int .i64 0]), (140, [.bool false, .bool false, .bool false, .bool false, .bool false, .bool false, .bool false, .bool false, .bool false, .bool false, .bool false, .bool false, .bool false, .bool false, .int .i64 0]), (142, LeadS.z.c), (144, [.slice none 0 0]), (145, [.slice none 0 0, .int .i64 0]), (146, WheelWheelOfInt.z.c), (147, [.int .i64 0, .int .i64 0, .int .i64 0]), (148, WheelSpokeOfInt.z.c), (154, RescS.z.c), (157, [.pointer none]), (159, [.map none]), (160, [.int .i64 0, .int .i64 0, .pointer none, .map none]), (161, PacePace.z.c), (162, [.slice none 0 0]), (172, [.pointer none]), (173, [.pointer none]), (179, [.slice none 0 0]), (180, [.slice none 0 0, .int .i64 0]), (181, WheelWheelOfItem.z.c), (182, [.int .i64 0, .int .i64 0, .int .i64 0, .int .i64 0]), (183, WheelSpokeOfItem.z.c), (191, [.slice none 0 0]), (199, [.pointer none, .pointer none, .pointer none, S []]), (200, [.pointer none, .pointer none, .pointer none, S []]), (201, []), (202, []), (203, []), (204, [.int .u32 0]), (205, [.int .u8 0]), (206, [.int .u8 0]), (208, [.pointer none]), (209, [.int .i32 0]), (210, [.int .i32 0]), (211, [.int .u64 0, .int .u64 0, .int .u32 0, .int .u8 0, .int .u8 0, .int .u8 0, .int .u8 0, .nilFunc, .pointer none, .int .i32 0, .int .i32 0]), (212, [.int .u64 0, .int .u64 0, .int .u32 0, .int .u8 0, .int .u8 0, .int .u8 0, .int .u8 0, .nilFunc, .pointer none, .int .i32 0, .int .i32 0])]
set_option maxRecDepth 100000 in
theorem tbZ_ok : ZerosOk Try.prog tbZ := ⟨by kernel_rfl, by kernel_rfl, by kernel_rfl, by kernel_rfl, by kernel_rfl, by kernel_rfl, by kernel_rfl, by kernel_rfl, by kernel_rfl, by kernel_rfl, by kernel_rfl, by kernel_rfl, by kernel_rfl, by kernel_rfl, by kernel_rfl, by kernel_rfl, by kernel_rfl, by kernel_rfl, by kernel_rfl, by kernel_rfl, by kernel_rfl, by kernel_rfl, by kernel_rfl, by kernel_rfl, by kernel_rfl, by kernel_rfl, by kernel_rfl, by kernel_rfl, by kernel_rfl, by kernel_rfl, by kernel_rfl, by kernel_rfl, by kernel_rfl, by kernel_rfl, by kernel_rfl, by kernel_rfl, by kernel_rfl, by kernel_rfl, by kernel_rfl, by kernel_rfl, by kernel_rfl, by kernel_rfl, by kernel_rfl, by kernel_rfl, by kernel_rfl, by kernel_rfl, by kernel_rfl, by kernel_rfl, by kernel_rfl, by kernel_rfl, by kernel_rfl, by kernel_rfl, by kernel_rfl, by kernel_rfl, by kernel_rfl, by kernel_rfl, by kernel_rfl, by kernel_rfl, by kernel_rfl, by kernel_rfl, by kernel_rfl, by kernel_rfl, by kernel_rfl, by kernel_rfl, by kernel_rfl, by kernel_rfl, by kernel_rfl, by kernel_rfl, by kernel_rfl, by kernel_rfl, by kernel_rfl, by kernel_rfl, by kernel_rfl, by kernel_rfl, by kernel_rfl, by kernel_rfl, by kernel_rfl, by kernel_rfl, by kernel_rfl, by kernel_rfl, by kernel_rfl, by kernel_rfl, by kernel_rfl, by kernel_rfl, by kernel_rfl, by kernel_rfl, by kernel_rfl, by kernel_rfl, by kernel_rfl, by kernel_rfl, by kernel_rfl, by kernel_rfl, by kernel_rfl, by kernel_rfl, by kernel_rfl, by kernel_rfl, by kernel_rfl, by kernel_rfl, by kernel_rfl, by kernel_rfl, by kernel_rfl, by kernel_rfl, by kernel_rfl, by kernel_rfl, trivial⟩
def tb : Tabs Try.prog where
  fld := [(7, 0, 0), (7, 1, 1), (7, 2, 2), (7, 3, 3), (8, 0, 0), (8, 1, 1), (8, 2, 2), (8, 3, 3), (13, 0, 0), (13, 1, 1), (14, 0, 0), (14, 1, 1), (18, 0, 0), (19, 0, 0), (22, 0, 0), (22, 1, 1), (23, 0, 0), (23, 1, 1), (28, 0, 0), (28, 1, 1), (28, 2, 2), (28, 3, 3), (28, 4, 4), (28, 5, 5), (29, 0, 0), (29, 1, 1), (29, 2, 2), (29, 3, 3), (29, 4, 4), (29, 5, 5), (32, 0, 0), (32, 1, 6), (32, 2, 13), (33, 0, 0), (33, 1, 6), (33, 2, 13), (39, 0, 0), (39, 1, 1), (40, 0, 0), (40, 1, 1), (43, 0, 0), (43, 1, 1), (43, 2, 2), (43, 3, 3), (43, 4, 5), (43, 5, 7), (43, 6, 9), (43, 7, 10), (43, 8, 11), (44, 0, 0), (44, 1, 1), (44, 2, 2), (44, 3, 3), (44, 4, 5), (44, 5, 7), (44, 6, 9), (44, 7, 10), (44, 8, 11), (56, 0, 0), (56, 1, 7), (56, 2, 14), (57, 0, 0), (57, 1, 7), (57, 2, 14), (59, 0, 0), (59, 1, 1), (60, 0, 0), (60, 1, 1), (68, 0, 0), (68, 1, 1), (68, 2, 2), (68, 3, 4), (68, 4, 6), (68, 5, 20), (69, 0, 0), (69, 1, 1), (69, 2, 2), (69, 3, 4), (69, 4, 6), (69, 5, 20), (83, 0, 0), (83, 1, 1), (84, 0, 0), (84, 1, 1), (87, 0, 0), (87, 1, 1), (87, 2, 2), (87, 3, 4), (87, 4, 6), (87, 5, 20), (87, 6, 21), (87, 7, 22), (88, 0, 0), (88, 1, 1), (88, 2, 2), (88, 3, 4), (88, 4, 6), (88, 5, 20), (88, 6, 21), (88, 7, 22), (96, 0, 0), (96, 1, 1), (97, 0, 0), (97, 1, 1), (98, 0, 0), (98, 1, 1), (98, 2, 2), (99, 0, 0), (99, 1, 1), (99, 2, 2), (126, 0, 0), (126, 1, 1), (126, 2, 2), (127, 0, 0), (127, 1, 1), (127, 2, 2), (137, 0, 0), (137, 1, 175), (137, 2, 182), (138, 0, 0), (138, 1, 175), (138, 2, 182), (139, 0, 0), (139, 1, 7), (139, 2, 14), (140, 0, 0), (140, 1, 7), (140, 2, 14), (141, 0, 0), (141, 1, 1), (141, 2, 2), (141, 3, 4), (141, 4, 6), (141, 5, 20), (141, 6, 21), (141, 7, 204), (142, 0, 0), (142, 1, 1), (142, 2, 2), (142, 3, 4), (142, 4, 6), (142, 5, 20), (142, 6, 21), (142, 7, 204), (145, 0, 0), (145, 1, 1), (146, 0, 0), (146, 1, 1), (147, 0, 0), (147, 1, 1), (147, 2, 2), (148, 0, 0), (148, 1, 1), (148, 2, 2), (153, 0, 0), (153, 1, 1), (153, 2, 2), (153, 3, 4), (153, 4, 6), (153, 5, 7), (153, 6, 190), (154, 0, 0), (154, 1, 1), (154, 2, 2), (154, 3, 4), (154, 4, 6), (154, 5, 7), (154, 6, 190), (160, 0, 0), (160, 1, 1), (160, 2, 2), (160, 3, 3), (161, 0, 0), (161, 1, 1), (161, 2, 2), (161, 3, 3), (180, 0, 0), (180, 1, 1), (181, 0, 0), (181, 1, 1), (182, 0, 0), (182, 1, 2), (182, 2, 3), (183, 0, 0), (183, 1, 2), (183, 2, 3), (199, 0, 0), (199, 1, 1), (199, 2, 2), (199, 3, 3), (200, 0, 0), (200, 1, 1), (200, 2, 2), (200, 3, 3), (211, 0, 0), (211, 1, 1), (211, 2, 2), (211, 3, 3), (211, 4, 4), (211, 5, 5), (211, 6, 6), (211, 7, 7), (211, 8, 8), (211, 9, 9), (211, 10, 10), (212, 0, 0), (212, 1, 1), (212, 2, 2), (212, 3, 3), (212, 4, 4), (212, 5, 5), (212, 6, 6), (212, 7, 7), (212, 8, 8), (212, 9, 9), (212, 10, 10)]
  fk := [(7, 0, 1), (7, 1, 1), (7, 2, 1), (7, 3, 1), (8, 0, 1), (8, 1, 1), (8, 2, 1), (8, 3, 1), (13, 0, 1), (13, 1, 1), (14, 0, 1), (14, 1, 1), (18, 0, 1), (19, 0, 1), (22, 0, 1), (22, 1, 1), (23, 0, 1), (23, 1, 1), (28, 0, 1), (28, 1, 1), (28, 2, 1), (28, 3, 1), (28, 4, 1), (28, 5, 1), (29, 0, 1), (29, 1, 1), (29, 2, 1), (29, 3, 1), (29, 4, 1), (29, 5, 1), (32, 0, 6), (32, 1, 7), (32, 2, 1), (33, 0, 6), (33, 1, 7), (33, 2, 1), (39, 0, 1), (39, 1, 1), (40, 0, 1), (40, 1, 1), (43, 0, 1), (43, 1, 1), (43, 2, 1), (43, 3, 2), (43, 4, 2), (43, 5, 2), (43, 6, 1), (43, 7, 1), (43, 8, 14), (44, 0, 1), (44, 1, 1), (44, 2, 1), (44, 3, 2), (44, 4, 2), (44, 5, 2), (44, 6, 1), (44, 7, 1), (44, 8, 14), (56, 0, 7), (56, 1, 7), (56, 2, 1), (57, 0, 7), (57, 1, 7), (57, 2, 1), (59, 0, 1), (59, 1, 1), (60, 0, 1), (60, 1, 1), (68, 0, 1), (68, 1, 1), (68, 2, 2), (68, 3, 2), (68, 4, 14), (68, 5, 1), (69, 0, 1), (69, 1, 1), (69, 2, 2), (69, 3, 2), (69, 4, 14), (69, 5, 1), (83, 0, 1), (83, 1, 25), (84, 0, 1), (84, 1, 25), (87, 0, 1), (87, 1, 1), (87, 2, 2), (87, 3, 2), (87, 4, 14), (87, 5, 1), (87, 6, 1), (87, 7, 1), (88, 0, 1), (88, 1, 1), (88, 2, 2), (88, 3, 2), (88, 4, 14), (88, 5, 1), (88, 6, 1), (88, 7, 1), (96, 0, 1), (96, 1, 1), (97, 0, 1), (97, 1, 1), (98, 0, 1), (98, 1, 1), (98, 2, 1), (99, 0, 1), (99, 1, 1), (99, 2, 1), (126, 0, 1), (126, 1, 1), (126, 2, 2), (127, 0, 1), (127, 1, 1), (127, 2, 2), (137, 0, 175), (137, 1, 7), (137, 2, 1), (138, 0, 175), (138, 1, 7), (138, 2, 1), (139, 0, 7), (139, 1, 7), (139, 2, 1), (140, 0, 7), (140, 1, 7), (140, 2, 1), (141, 0, 1), (141, 1, 1), (141, 2, 2), (141, 3, 2), (141, 4, 14), (141, 5, 1), (141, 6, 183), (141, 7, 15), (142, 0, 1), (142, 1, 1), (142, 2, 2), (142, 3, 2), (142, 4, 14), (142, 5, 1), (142, 6, 183), (142, 7, 15), (145, 0, 1), (145, 1, 1), (146, 0, 1), (146, 1, 1), (147, 0, 1), (147, 1, 1), (147, 2, 1), (148, 0, 1), (148, 1, 1), (148, 2, 1), (153, 0, 1), (153, 1, 1), (153, 2, 2), (153, 3, 2), (153, 4, 1), (153, 5, 183), (153, 6, 1), (154, 0, 1), (154, 1, 1), (154, 2, 2), (154, 3, 2), (154, 4, 1), (154, 5, 183), (154, 6, 1), (160, 0, 1), (160, 1, 1), (160, 2, 1), (160, 3, 1), (161, 0, 1), (161, 1, 1), (161, 2, 1), (161, 3, 1), (180, 0, 1), (180, 1, 1), (181, 0, 1), (181, 1, 1), (182, 0, 2), (182, 1, 1), (182, 2, 1), (183, 0, 2), (183, 1, 1), (183, 2, 1), (199, 0, 1), (199, 1, 1), (199, 2, 1), (199, 3, 1), (200, 0, 1), (200, 1, 1), (200, 2, 1), (200, 3, 1), (211, 0, 1), (211, 1, 1), (211, 2, 1), (211, 3, 1), (211, 4, 1), (211, 5, 1), (211, 6, 1), (211, 8, 1), (211, 9, 1), (211, 10, 1), (212, 0, 1), (212, 1, 1), (212, 2, 1), (212, 3, 1), (212, 4, 1), (212, 5, 1), (212, 6, 1), (212, 8, 1), (212, 9, 1), (212, 10, 1)]
  slc := [(24, 44), (41, 3), (53, 60), (70, 33), (82, 84), (92, 99), (125, 127), (144, 148), (162, 23), (179, 183), (191, 31)]
  szs := [(2, 1), (3, 1), (4, 1), (5, 1), (6, 1), (7, 4), (8, 4), (9, 1), (10, 1), (11, 1), (12, 1), (13, 2), (14, 2), (15, 1), (16, 1), (17, 1), (18, 1), (19, 1), (21, 1), (22, 2), (23, 2), (24, 1), (27, 1), (28, 6), (29, 6), (30, 7), (31, 7), (32, 14), (33, 14), (39, 2), (40, 2), (41, 1), (43, 25), (44, 25), (46, 1), (51, 1), (53, 1), (54, 1), (55, 7), (56, 15), (57, 15), (58, 1), (59, 2), (60, 2), (68, 21), (69, 21), (70, 1), (72, 1), (73, 1), (78, 1), (82, 1), (83, 26), (84, 26), (87, 23), (88, 23), (91, 4), (92, 1), (93, 1), (95, 1), (96, 2), (97, 2), (98, 3), (99, 3), (113, 1), (116, 1), (125, 1), (126, 4), (127, 4), (136, 175), (137, 183), (138, 183), (139, 15), (140, 15), (141, 219), (142, 219), (144, 1), (145, 2), (146, 2), (147, 3), (148, 3), (153, 191), (154, 191), (157, 1), (159, 1), (160, 4), (161, 4), (162, 1), (172, 1), (173, 1), (179, 1), (180, 2), (181, 2), (182, 4), (183, 4), (191, 1), (199, 4), (200, 4), (201, 0), (202, 0), (203, 0), (204, 1), (205, 1), (206, 1), (208, 1), (209, 1), (210, 1), (211, 11), (212, 11)]
  agg := [(7, 4), (8, 4), (13, 2), (14, 2), (18, 1), (19, 1), (22, 2), (23, 2), (28, 6), (29, 6), (30, 7), (31, 7), (32, 14), (33, 14), (39, 2), (40, 2), (43, 25), (44, 25), (55, 7), (56, 15), (57, 15), (59, 2), (60, 2), (68, 21), (69, 21), (83, 26), (84, 26), (87, 23), (88, 23), (91, 4), (96, 2), (97, 2), (98, 3), (99, 3), (126, 4), (127, 4), (136, 175), (137, 183), (138, 183), (139, 15), (140, 15), (141, 219), (142, 219), (145, 2), (146, 2), (147, 3), (148, 3), (153, 191), (154, 191), (160, 4), (161, 4), (180, 2), (181, 2), (182, 4), (183, 4), (199, 4), (200, 4), (201, 0), (202, 0), (203, 0), (211, 11), (212, 11)]
  one := [(2, 1), (3, 1), (4, 1), (5, 1), (6, 1), (9, 1), (10, 1), (11, 1), (12, 1), (15, 1), (16, 1), (17, 1), (21, 1), (24, 1), (27, 1), (41, 1), (46, 1), (51, 1), (53, 1), (54, 1), (58, 1), (70, 1), (72, 1), (73, 1), (78, 1), (82, 1), (92, 1), (93, 1), (95, 1), (113, 1), (116, 1), (125, 1), (144, 1), (157, 1), (159, 1), (162, 1), (172, 1), (173, 1), (179, 1), (191, 1), (204, 1), (205, 1), (206, 1), (208, 1), (209, 1), (210, 1)]
  zeros := tbZ
  ints := [(2, .i64), (3, .i64), (5, .u8), (6, .u8), (12, .u64), (21, .i32), (27, .i64), (51, .u64), (78, .i64), (204, .u32), (205, .u8), (206, .u8), (209, .i32), (210, .i32)]
  strs := [(9, 0), (10, 0), (11, 0)]
  bools := [(4, 0)]
  byt := [(2, 8), (3, 8), (4, 1), (5, 1), (6, 1), (7, 24), (8, 24), (9, 16), (10, 16), (11, 16), (12, 8), (13, 24), (14, 24), (15, 8), (16, 8), (17, 8), (18, 8), (19, 8), (21, 4), (22, 16), (23, 16), (24, 24), (27, 8), (28, 64), (29, 64), (30, 56), (31, 56), (32, 128), (33, 128), (39, 16), (40, 16), (41, 24), (43, 216), (44, 216), (46, 8), (51, 8), (53, 24), (54, 8), (55, 7), (56, 72), (57, 72), (58, 8), (59, 16), (60, 16), (68, 184), (69, 184), (70, 24), (72, 8), (73, 8), (78, 8), (82, 24), (83, 224), (84, 224), (87, 232), (88, 232), (91, 32), (92, 24), (93, 8), (95, 8), (96, 48), (97, 48), (98, 24), (99, 24), (113, 8), (116, 8), (125, 24), (126, 32), (127, 32), (136, 1512), (137, 1528), (138, 1528), (139, 24), (140, 24), (141, 1736), (142, 1736), (144, 24), (145, 32), (146, 32), (147, 24), (148, 24), (153, 1592), (154, 1592), (157, 8), (159, 8), (160, 32), (161, 32), (162, 24), (172, 8), (173, 8), (179, 24), (180, 32), (181, 32), (182, 32), (183, 32), (191, 24), (199, 40), (200, 40), (201, 0), (202, 0), (203, 0), (204, 4), (205, 1), (206, 1), (208, 8), (209, 4), (210, 4), (211, 48), (212, 48)]
  arr := [(30, 7, 3), (31, 7, 3), (55, 7, 4), (91, 4, 3), (136, 7, 44), (201, 0, 16)]
  fld_ok := by kernel_rfl
  fk_ok := by kernel_rfl
  slc_ok := by kernel_rfl
  szs_ok := by kernel_rfl
  agg_ok := by kernel_rfl
  one_ok := by kernel_rfl
  ints_ok := by kernel_rfl
  strs_ok := by kernel_rfl
  bools_ok := by kernel_rfl
  byt_ok := by kernel_rfl
  arr_ok := by kernel_rfl
  zeros_ok := tbZ_ok

theorem TItem.eqT (x y : TItem) (d : Nat) : EqT Try.prog (d + 2) 23 (A x.c) (A y.c) (decide (x = y)) := by
  have h := EqT.struct (P := Try.prog) (d := d + 1) (T := 23) (xs := x.c) (ys := y.c) (l := [(3, 0), (3, 1)]) (by kernel_rfl) ⟨_, _, _, _, .one (tb.oneAt (T := 3) rfl) rfl, .one (tb.oneAt (T := 3) rfl) rfl, (EqT.int (tb.intAt (T := 3) rfl)), ⟨_, _, _, _, .one (tb.oneAt (T := 3) rfl) rfl, .one (tb.oneAt (T := 3) rfl) rfl, (EqT.int (tb.intAt (T := 3) rfl)), rfl, rfl⟩, rfl⟩
  refine Eq.mp (congrArg (EqT Try.prog (d + 2) 23 (A x.c) (A y.c)) ?_) h
  rw [Bool.eq_iff_iff]; cases x; cases y; simp [TItem.mk.injEq]
theorem TDeed.eqT (x y : TDeed) (d : Nat) : EqT Try.prog (d + 2) 29 (A x.c) (A y.c) (decide (x = y)) := by
  have h := EqT.struct (P := Try.prog) (d := d + 1) (T := 29) (xs := x.c) (ys := y.c) (l := [(3, 0), (9, 1), (9, 2), (3, 3), (3, 4), (3, 5)]) (by kernel_rfl) ⟨_, _, _, _, .one (tb.oneAt (T := 3) rfl) rfl, .one (tb.oneAt (T := 3) rfl) rfl, (EqT.int (tb.intAt (T := 3) rfl)), ⟨_, _, _, _, .one (tb.oneAt (T := 9) rfl) rfl, .one (tb.oneAt (T := 9) rfl) rfl, (EqT.str (tb.strAt (T := 9) rfl)), ⟨_, _, _, _, .one (tb.oneAt (T := 9) rfl) rfl, .one (tb.oneAt (T := 9) rfl) rfl, (EqT.str (tb.strAt (T := 9) rfl)), ⟨_, _, _, _, .one (tb.oneAt (T := 3) rfl) rfl, .one (tb.oneAt (T := 3) rfl) rfl, (EqT.int (tb.intAt (T := 3) rfl)), ⟨_, _, _, _, .one (tb.oneAt (T := 3) rfl) rfl, .one (tb.oneAt (T := 3) rfl) rfl, (EqT.int (tb.intAt (T := 3) rfl)), ⟨_, _, _, _, .one (tb.oneAt (T := 3) rfl) rfl, .one (tb.oneAt (T := 3) rfl) rfl, (EqT.int (tb.intAt (T := 3) rfl)), rfl, rfl⟩, rfl⟩, rfl⟩, rfl⟩, rfl⟩, rfl⟩
  refine Eq.mp (congrArg (EqT Try.prog (d + 2) 29 (A x.c) (A y.c)) ?_) h
  rw [Bool.eq_iff_iff]; cases x; cases y; simp [TDeed.mk.injEq]
theorem TDeps.eqT (x y : TDeps) (d : Nat) : EqT Try.prog (d + 2) 31 (A x.c) (A y.c) (decide (x = y)) := by
  have h := EqT.array (P := Try.prog) (d := d + 1) (T := 31) (xs := x.c) (ys := y.c) (l := [(3, 0), (3, 1), (3, 2), (3, 3), (3, 4), (3, 5), (3, 6)]) (by kernel_rfl) ⟨_, _, _, _, .one (tb.oneAt (T := 3) rfl) rfl, .one (tb.oneAt (T := 3) rfl) rfl, (EqT.int (tb.intAt (T := 3) rfl)), ⟨_, _, _, _, .one (tb.oneAt (T := 3) rfl) rfl, .one (tb.oneAt (T := 3) rfl) rfl, (EqT.int (tb.intAt (T := 3) rfl)), ⟨_, _, _, _, .one (tb.oneAt (T := 3) rfl) rfl, .one (tb.oneAt (T := 3) rfl) rfl, (EqT.int (tb.intAt (T := 3) rfl)), ⟨_, _, _, _, .one (tb.oneAt (T := 3) rfl) rfl, .one (tb.oneAt (T := 3) rfl) rfl, (EqT.int (tb.intAt (T := 3) rfl)), ⟨_, _, _, _, .one (tb.oneAt (T := 3) rfl) rfl, .one (tb.oneAt (T := 3) rfl) rfl, (EqT.int (tb.intAt (T := 3) rfl)), ⟨_, _, _, _, .one (tb.oneAt (T := 3) rfl) rfl, .one (tb.oneAt (T := 3) rfl) rfl, (EqT.int (tb.intAt (T := 3) rfl)), ⟨_, _, _, _, .one (tb.oneAt (T := 3) rfl) rfl, .one (tb.oneAt (T := 3) rfl) rfl, (EqT.int (tb.intAt (T := 3) rfl)), rfl, rfl⟩, rfl⟩, rfl⟩, rfl⟩, rfl⟩, rfl⟩, rfl⟩
  refine Eq.mp (congrArg (EqT Try.prog (d + 2) 31 (A x.c) (A y.c)) ?_) h
  rw [Bool.eq_iff_iff]; cases x; cases y; simp [TDeps.mk.injEq]
theorem TCall.eqT (x y : TCall) (d : Nat) : EqT Try.prog (d + 3) 33 (A x.c) (A y.c) (decide (x = y)) := by
  have h := EqT.struct (P := Try.prog) (d := d + 2) (T := 33) (xs := x.c) (ys := y.c) (l := [(29, 0), (31, 6), (3, 13)]) (by kernel_rfl) ⟨_, _, _, _, .agg (tb.aggAt (T := 29) rfl) rfl SegOf.eq, .agg (tb.aggAt (T := 29) rfl) rfl SegOf.eq, (TDeed.eqT _ _ (d + 0)), ⟨_, _, _, _, .agg (tb.aggAt (T := 31) rfl) rfl SegOf.eq, .agg (tb.aggAt (T := 31) rfl) rfl SegOf.eq, (TDeps.eqT _ _ (d + 0)), ⟨_, _, _, _, .one (tb.oneAt (T := 3) rfl) rfl, .one (tb.oneAt (T := 3) rfl) rfl, (EqT.int (tb.intAt (T := 3) rfl)), rfl, rfl⟩, rfl⟩, rfl⟩
  refine Eq.mp (congrArg (EqT Try.prog (d + 3) 33 (A x.c) (A y.c)) ?_) h
  rw [Bool.eq_iff_iff]; cases x; cases y; simp [TCall.mk.injEq]
theorem TBallot.eqT (x y : TBallot) (d : Nat) : EqT Try.prog (d + 2) 40 (A x.c) (A y.c) (decide (x = y)) := by
  have h := EqT.struct (P := Try.prog) (d := d + 1) (T := 40) (xs := x.c) (ys := y.c) (l := [(3, 0), (3, 1)]) (by kernel_rfl) ⟨_, _, _, _, .one (tb.oneAt (T := 3) rfl) rfl, .one (tb.oneAt (T := 3) rfl) rfl, (EqT.int (tb.intAt (T := 3) rfl)), ⟨_, _, _, _, .one (tb.oneAt (T := 3) rfl) rfl, .one (tb.oneAt (T := 3) rfl) rfl, (EqT.int (tb.intAt (T := 3) rfl)), rfl, rfl⟩, rfl⟩
  refine Eq.mp (congrArg (EqT Try.prog (d + 2) 40 (A x.c) (A y.c)) ?_) h
  rw [Bool.eq_iff_iff]; cases x; cases y; simp [TBallot.mk.injEq]
theorem TMsg.eqT (x y : TMsg) (d : Nat) : EqT Try.prog (d + 4) 44 (A x.c) (A y.c) (decide (x = y)) := by
  have h := EqT.struct (P := Try.prog) (d := d + 3) (T := 44) (xs := x.c) (ys := y.c) (l := [(3, 0), (3, 1), (3, 2), (23, 3), (40, 5), (40, 7), (3, 9), (4, 10), (33, 11)]) (by kernel_rfl) ⟨_, _, _, _, .one (tb.oneAt (T := 3) rfl) rfl, .one (tb.oneAt (T := 3) rfl) rfl, (EqT.int (tb.intAt (T := 3) rfl)), ⟨_, _, _, _, .one (tb.oneAt (T := 3) rfl) rfl, .one (tb.oneAt (T := 3) rfl) rfl, (EqT.int (tb.intAt (T := 3) rfl)), ⟨_, _, _, _, .one (tb.oneAt (T := 3) rfl) rfl, .one (tb.oneAt (T := 3) rfl) rfl, (EqT.int (tb.intAt (T := 3) rfl)), ⟨_, _, _, _, .agg (tb.aggAt (T := 23) rfl) rfl SegOf.eq, .agg (tb.aggAt (T := 23) rfl) rfl SegOf.eq, (TItem.eqT _ _ (d + 1)), ⟨_, _, _, _, .agg (tb.aggAt (T := 40) rfl) rfl SegOf.eq, .agg (tb.aggAt (T := 40) rfl) rfl SegOf.eq, (TBallot.eqT _ _ (d + 1)), ⟨_, _, _, _, .agg (tb.aggAt (T := 40) rfl) rfl SegOf.eq, .agg (tb.aggAt (T := 40) rfl) rfl SegOf.eq, (TBallot.eqT _ _ (d + 1)), ⟨_, _, _, _, .one (tb.oneAt (T := 3) rfl) rfl, .one (tb.oneAt (T := 3) rfl) rfl, (EqT.int (tb.intAt (T := 3) rfl)), ⟨_, _, _, _, .one (tb.oneAt (T := 4) rfl) rfl, .one (tb.oneAt (T := 4) rfl) rfl, (EqT.bool (tb.boolAt (T := 4) rfl)), ⟨_, _, _, _, .agg (tb.aggAt (T := 33) rfl) rfl SegOf.eq, .agg (tb.aggAt (T := 33) rfl) rfl SegOf.eq, (TCall.eqT _ _ (d + 0)), rfl, rfl⟩, rfl⟩, rfl⟩, rfl⟩, rfl⟩, rfl⟩, rfl⟩, rfl⟩, rfl⟩
  refine Eq.mp (congrArg (EqT Try.prog (d + 4) 44 (A x.c) (A y.c)) ?_) h
  rw [Bool.eq_iff_iff]; cases x; cases y; simp [TMsg.mk.injEq]
theorem Caucuslaw14Vote.eqT (x y : Caucuslaw14Vote) (d : Nat) : EqT Try.prog (d + 2) 60 (A x.c) (A y.c) (decide (x = y)) := by
  have h := EqT.struct (P := Try.prog) (d := d + 1) (T := 60) (xs := x.c) (ys := y.c) (l := [(3, 0), (3, 1)]) (by kernel_rfl) ⟨_, _, _, _, .one (tb.oneAt (T := 3) rfl) rfl, .one (tb.oneAt (T := 3) rfl) rfl, (EqT.int (tb.intAt (T := 3) rfl)), ⟨_, _, _, _, .one (tb.oneAt (T := 3) rfl) rfl, .one (tb.oneAt (T := 3) rfl) rfl, (EqT.int (tb.intAt (T := 3) rfl)), rfl, rfl⟩, rfl⟩
  refine Eq.mp (congrArg (EqT Try.prog (d + 2) 60 (A x.c) (A y.c)) ?_) h
  rw [Bool.eq_iff_iff]; cases x; cases y; simp [Caucuslaw14Vote.mk.injEq]
theorem Caucuslaw14Case.eqT (x y : Caucuslaw14Case) (d : Nat) : EqT Try.prog (d + 4) 69 (A x.c) (A y.c) (decide (x = y)) := by
  have h := EqT.struct (P := Try.prog) (d := d + 3) (T := 69) (xs := x.c) (ys := y.c) (l := [(3, 0), (3, 1), (23, 2), (40, 4), (33, 6), (3, 20)]) (by kernel_rfl) ⟨_, _, _, _, .one (tb.oneAt (T := 3) rfl) rfl, .one (tb.oneAt (T := 3) rfl) rfl, (EqT.int (tb.intAt (T := 3) rfl)), ⟨_, _, _, _, .one (tb.oneAt (T := 3) rfl) rfl, .one (tb.oneAt (T := 3) rfl) rfl, (EqT.int (tb.intAt (T := 3) rfl)), ⟨_, _, _, _, .agg (tb.aggAt (T := 23) rfl) rfl SegOf.eq, .agg (tb.aggAt (T := 23) rfl) rfl SegOf.eq, (TItem.eqT _ _ (d + 1)), ⟨_, _, _, _, .agg (tb.aggAt (T := 40) rfl) rfl SegOf.eq, .agg (tb.aggAt (T := 40) rfl) rfl SegOf.eq, (TBallot.eqT _ _ (d + 1)), ⟨_, _, _, _, .agg (tb.aggAt (T := 33) rfl) rfl SegOf.eq, .agg (tb.aggAt (T := 33) rfl) rfl SegOf.eq, (TCall.eqT _ _ (d + 0)), ⟨_, _, _, _, .one (tb.oneAt (T := 3) rfl) rfl, .one (tb.oneAt (T := 3) rfl) rfl, (EqT.int (tb.intAt (T := 3) rfl)), rfl, rfl⟩, rfl⟩, rfl⟩, rfl⟩, rfl⟩, rfl⟩
  refine Eq.mp (congrArg (EqT Try.prog (d + 4) 69 (A x.c) (A y.c)) ?_) h
  rw [Bool.eq_iff_iff]; cases x; cases y; simp [Caucuslaw14Case.mk.injEq]
theorem Caucuslaw14Step.eqT (x y : Caucuslaw14Step) (d : Nat) : EqT Try.prog (d + 5) 84 (A x.c) (A y.c) (decide (x = y)) := by
  have h := EqT.struct (P := Try.prog) (d := d + 4) (T := 84) (xs := x.c) (ys := y.c) (l := [(4, 0), (44, 1)]) (by kernel_rfl) ⟨_, _, _, _, .one (tb.oneAt (T := 4) rfl) rfl, .one (tb.oneAt (T := 4) rfl) rfl, (EqT.bool (tb.boolAt (T := 4) rfl)), ⟨_, _, _, _, .agg (tb.aggAt (T := 44) rfl) rfl SegOf.eq, .agg (tb.aggAt (T := 44) rfl) rfl SegOf.eq, (TMsg.eqT _ _ (d + 0)), rfl, rfl⟩, rfl⟩
  refine Eq.mp (congrArg (EqT Try.prog (d + 5) 84 (A x.c) (A y.c)) ?_) h
  rw [Bool.eq_iff_iff]; cases x; cases y; simp [Caucuslaw14Step.mk.injEq]
theorem Caucuslaw10Call.eqT (x y : Caucuslaw10Call) (d : Nat) : EqT Try.prog (d + 2) 99 (A x.c) (A y.c) (decide (x = y)) := by
  have h := EqT.struct (P := Try.prog) (d := d + 1) (T := 99) (xs := x.c) (ys := y.c) (l := [(3, 0), (3, 1), (3, 2)]) (by kernel_rfl) ⟨_, _, _, _, .one (tb.oneAt (T := 3) rfl) rfl, .one (tb.oneAt (T := 3) rfl) rfl, (EqT.int (tb.intAt (T := 3) rfl)), ⟨_, _, _, _, .one (tb.oneAt (T := 3) rfl) rfl, .one (tb.oneAt (T := 3) rfl) rfl, (EqT.int (tb.intAt (T := 3) rfl)), ⟨_, _, _, _, .one (tb.oneAt (T := 3) rfl) rfl, .one (tb.oneAt (T := 3) rfl) rfl, (EqT.int (tb.intAt (T := 3) rfl)), rfl, rfl⟩, rfl⟩, rfl⟩
  refine Eq.mp (congrArg (EqT Try.prog (d + 2) 99 (A x.c) (A y.c)) ?_) h
  rw [Bool.eq_iff_iff]; cases x; cases y; simp [Caucuslaw10Call.mk.injEq]
theorem Caucuslaw17Call.eqT (x y : Caucuslaw17Call) (d : Nat) : EqT Try.prog (d + 3) 127 (A x.c) (A y.c) (decide (x = y)) := by
  have h := EqT.struct (P := Try.prog) (d := d + 2) (T := 127) (xs := x.c) (ys := y.c) (l := [(3, 0), (3, 1), (23, 2)]) (by kernel_rfl) ⟨_, _, _, _, .one (tb.oneAt (T := 3) rfl) rfl, .one (tb.oneAt (T := 3) rfl) rfl, (EqT.int (tb.intAt (T := 3) rfl)), ⟨_, _, _, _, .one (tb.oneAt (T := 3) rfl) rfl, .one (tb.oneAt (T := 3) rfl) rfl, (EqT.int (tb.intAt (T := 3) rfl)), ⟨_, _, _, _, .agg (tb.aggAt (T := 23) rfl) rfl SegOf.eq, .agg (tb.aggAt (T := 23) rfl) rfl SegOf.eq, (TItem.eqT _ _ (d + 0)), rfl, rfl⟩, rfl⟩, rfl⟩
  refine Eq.mp (congrArg (EqT Try.prog (d + 3) 127 (A x.c) (A y.c)) ?_) h
  rw [Bool.eq_iff_iff]; cases x; cases y; simp [Caucuslaw17Call.mk.injEq]
theorem WheelSpokeOfInt.eqT (x y : WheelSpokeOfInt) (d : Nat) : EqT Try.prog (d + 2) 148 (A x.c) (A y.c) (decide (x = y)) := by
  have h := EqT.struct (P := Try.prog) (d := d + 1) (T := 148) (xs := x.c) (ys := y.c) (l := [(3, 0), (3, 1), (3, 2)]) (by kernel_rfl) ⟨_, _, _, _, .one (tb.oneAt (T := 3) rfl) rfl, .one (tb.oneAt (T := 3) rfl) rfl, (EqT.int (tb.intAt (T := 3) rfl)), ⟨_, _, _, _, .one (tb.oneAt (T := 3) rfl) rfl, .one (tb.oneAt (T := 3) rfl) rfl, (EqT.int (tb.intAt (T := 3) rfl)), ⟨_, _, _, _, .one (tb.oneAt (T := 3) rfl) rfl, .one (tb.oneAt (T := 3) rfl) rfl, (EqT.int (tb.intAt (T := 3) rfl)), rfl, rfl⟩, rfl⟩, rfl⟩
  refine Eq.mp (congrArg (EqT Try.prog (d + 2) 148 (A x.c) (A y.c)) ?_) h
  rw [Bool.eq_iff_iff]; cases x; cases y; simp [WheelSpokeOfInt.mk.injEq]
theorem WheelSpokeOfItem.eqT (x y : WheelSpokeOfItem) (d : Nat) : EqT Try.prog (d + 3) 183 (A x.c) (A y.c) (decide (x = y)) := by
  have h := EqT.struct (P := Try.prog) (d := d + 2) (T := 183) (xs := x.c) (ys := y.c) (l := [(23, 0), (3, 2), (3, 3)]) (by kernel_rfl) ⟨_, _, _, _, .agg (tb.aggAt (T := 23) rfl) rfl SegOf.eq, .agg (tb.aggAt (T := 23) rfl) rfl SegOf.eq, (TItem.eqT _ _ (d + 0)), ⟨_, _, _, _, .one (tb.oneAt (T := 3) rfl) rfl, .one (tb.oneAt (T := 3) rfl) rfl, (EqT.int (tb.intAt (T := 3) rfl)), ⟨_, _, _, _, .one (tb.oneAt (T := 3) rfl) rfl, .one (tb.oneAt (T := 3) rfl) rfl, (EqT.int (tb.intAt (T := 3) rfl)), rfl, rfl⟩, rfl⟩, rfl⟩
  refine Eq.mp (congrArg (EqT Try.prog (d + 3) 183 (A x.c) (A y.c)) ?_) h
  rw [Bool.eq_iff_iff]; cases x; cases y; simp [WheelSpokeOfItem.mk.injEq]
def TItem.wf (x : TItem) : Prop := In .i64 x.Rep ∧ In .i64 x.Num
theorem TItem.leaves : leaves Try.prog 40 23 = some [.i .i64, .i .i64] := by kernel_rfl
theorem TItem.fit {cs : List Go.Value} (h0 : Fits [.i .i64, .i .i64] cs) : ∃ x : TItem, cs = x.c ∧ x.wf := by
  obtain ⟨_, _, rfl, ⟨n0, rfl, w0⟩, h1⟩ := Fits.cons h0
  obtain ⟨_, _, rfl, ⟨n1, rfl, w1⟩, h2⟩ := Fits.cons h1
  obtain rfl := Fits.nil h2
  exact ⟨⟨n0, n1⟩, rfl, ⟨w0, w1⟩⟩
def TDeed.wf (x : TDeed) : Prop := In .i64 x.Kind ∧ x.Key.length ≤ 140737488351232 ∧ x.Value.length ≤ 140737488351232 ∧ In .i64 x.Version ∧ In .i64 x.Session ∧ In .i64 x.Number
theorem TDeed.leaves : leaves Try.prog 40 29 = some [.i .i64, .s, .s, .i .i64, .i .i64, .i .i64] := by kernel_rfl
theorem TDeed.fit {cs : List Go.Value} (h0 : Fits [.i .i64, .s, .s, .i .i64, .i .i64, .i .i64] cs) : ∃ x : TDeed, cs = x.c ∧ x.wf := by
  obtain ⟨_, _, rfl, ⟨n0, rfl, w0⟩, h1⟩ := Fits.cons h0
  obtain ⟨_, _, rfl, ⟨n1, rfl, w1⟩, h2⟩ := Fits.cons h1
  obtain ⟨_, _, rfl, ⟨n2, rfl, w2⟩, h3⟩ := Fits.cons h2
  obtain ⟨_, _, rfl, ⟨n3, rfl, w3⟩, h4⟩ := Fits.cons h3
  obtain ⟨_, _, rfl, ⟨n4, rfl, w4⟩, h5⟩ := Fits.cons h4
  obtain ⟨_, _, rfl, ⟨n5, rfl, w5⟩, h6⟩ := Fits.cons h5
  obtain rfl := Fits.nil h6
  exact ⟨⟨n0, n1, n2, n3, n4, n5⟩, rfl, ⟨w0, w1, w2, w3, w4, w5⟩⟩
def TDeps.wf (x : TDeps) : Prop := In .i64 x.e0 ∧ In .i64 x.e1 ∧ In .i64 x.e2 ∧ In .i64 x.e3 ∧ In .i64 x.e4 ∧ In .i64 x.e5 ∧ In .i64 x.e6
theorem TDeps.leaves : leaves Try.prog 40 31 = some [.i .i64, .i .i64, .i .i64, .i .i64, .i .i64, .i .i64, .i .i64] := by kernel_rfl
theorem TDeps.fit {cs : List Go.Value} (h0 : Fits [.i .i64, .i .i64, .i .i64, .i .i64, .i .i64, .i .i64, .i .i64] cs) : ∃ x : TDeps, cs = x.c ∧ x.wf := by
  obtain ⟨_, _, rfl, ⟨n0, rfl, w0⟩, h1⟩ := Fits.cons h0
  obtain ⟨_, _, rfl, ⟨n1, rfl, w1⟩, h2⟩ := Fits.cons h1
  obtain ⟨_, _, rfl, ⟨n2, rfl, w2⟩, h3⟩ := Fits.cons h2
  obtain ⟨_, _, rfl, ⟨n3, rfl, w3⟩, h4⟩ := Fits.cons h3
  obtain ⟨_, _, rfl, ⟨n4, rfl, w4⟩, h5⟩ := Fits.cons h4
  obtain ⟨_, _, rfl, ⟨n5, rfl, w5⟩, h6⟩ := Fits.cons h5
  obtain ⟨_, _, rfl, ⟨n6, rfl, w6⟩, h7⟩ := Fits.cons h6
  obtain rfl := Fits.nil h7
  exact ⟨⟨n0, n1, n2, n3, n4, n5, n6⟩, rfl, ⟨w0, w1, w2, w3, w4, w5, w6⟩⟩
def TCall.wf (x : TCall) : Prop := x.Deed.wf ∧ x.Deps.wf ∧ In .i64 x.Seq
theorem TCall.leaves : leaves Try.prog 40 33 = some [.i .i64, .s, .s, .i .i64, .i .i64, .i .i64, .i .i64, .i .i64, .i .i64, .i .i64, .i .i64, .i .i64, .i .i64, .i .i64] := by kernel_rfl
theorem TCall.fit {cs : List Go.Value} (h0 : Fits [.i .i64, .s, .s, .i .i64, .i .i64, .i .i64, .i .i64, .i .i64, .i .i64, .i .i64, .i .i64, .i .i64, .i .i64, .i .i64] cs) : ∃ x : TCall, cs = x.c ∧ x.wf := by
  obtain ⟨_, _, rfl, ⟨n0, rfl, w0⟩, h1⟩ := Fits.cons h0
  obtain ⟨_, _, rfl, ⟨n1, rfl, w1⟩, h2⟩ := Fits.cons h1
  obtain ⟨_, _, rfl, ⟨n2, rfl, w2⟩, h3⟩ := Fits.cons h2
  obtain ⟨_, _, rfl, ⟨n3, rfl, w3⟩, h4⟩ := Fits.cons h3
  obtain ⟨_, _, rfl, ⟨n4, rfl, w4⟩, h5⟩ := Fits.cons h4
  obtain ⟨_, _, rfl, ⟨n5, rfl, w5⟩, h6⟩ := Fits.cons h5
  obtain ⟨_, _, rfl, ⟨n6, rfl, w6⟩, h7⟩ := Fits.cons h6
  obtain ⟨_, _, rfl, ⟨n7, rfl, w7⟩, h8⟩ := Fits.cons h7
  obtain ⟨_, _, rfl, ⟨n8, rfl, w8⟩, h9⟩ := Fits.cons h8
  obtain ⟨_, _, rfl, ⟨n9, rfl, w9⟩, h10⟩ := Fits.cons h9
  obtain ⟨_, _, rfl, ⟨n10, rfl, w10⟩, h11⟩ := Fits.cons h10
  obtain ⟨_, _, rfl, ⟨n11, rfl, w11⟩, h12⟩ := Fits.cons h11
  obtain ⟨_, _, rfl, ⟨n12, rfl, w12⟩, h13⟩ := Fits.cons h12
  obtain ⟨_, _, rfl, ⟨n13, rfl, w13⟩, h14⟩ := Fits.cons h13
  obtain rfl := Fits.nil h14
  exact ⟨⟨⟨n0, n1, n2, n3, n4, n5⟩, ⟨n6, n7, n8, n9, n10, n11, n12⟩, n13⟩, rfl, ⟨⟨w0, w1, w2, w3, w4, w5⟩, ⟨w6, w7, w8, w9, w10, w11, w12⟩, w13⟩⟩
def TBallot.wf (x : TBallot) : Prop := In .i64 x.Round ∧ In .i64 x.Rep
theorem TBallot.leaves : leaves Try.prog 40 40 = some [.i .i64, .i .i64] := by kernel_rfl
theorem TBallot.fit {cs : List Go.Value} (h0 : Fits [.i .i64, .i .i64] cs) : ∃ x : TBallot, cs = x.c ∧ x.wf := by
  obtain ⟨_, _, rfl, ⟨n0, rfl, w0⟩, h1⟩ := Fits.cons h0
  obtain ⟨_, _, rfl, ⟨n1, rfl, w1⟩, h2⟩ := Fits.cons h1
  obtain rfl := Fits.nil h2
  exact ⟨⟨n0, n1⟩, rfl, ⟨w0, w1⟩⟩
def TMsg.wf (x : TMsg) : Prop := In .i64 x.Kind ∧ In .i64 x.From ∧ In .i64 x.To ∧ x.Item.wf ∧ x.Ballot.wf ∧ x.Vote.wf ∧ In .i64 x.Status ∧ x.Call.wf
theorem TMsg.leaves : leaves Try.prog 40 44 = some [.i .i64, .i .i64, .i .i64, .i .i64, .i .i64, .i .i64, .i .i64, .i .i64, .i .i64, .i .i64, .b, .i .i64, .s, .s, .i .i64, .i .i64, .i .i64, .i .i64, .i .i64, .i .i64, .i .i64, .i .i64, .i .i64, .i .i64, .i .i64] := by kernel_rfl
theorem TMsg.fit {cs : List Go.Value} (h0 : Fits [.i .i64, .i .i64, .i .i64, .i .i64, .i .i64, .i .i64, .i .i64, .i .i64, .i .i64, .i .i64, .b, .i .i64, .s, .s, .i .i64, .i .i64, .i .i64, .i .i64, .i .i64, .i .i64, .i .i64, .i .i64, .i .i64, .i .i64, .i .i64] cs) : ∃ x : TMsg, cs = x.c ∧ x.wf := by
  obtain ⟨_, _, rfl, ⟨n0, rfl, w0⟩, h1⟩ := Fits.cons h0
  obtain ⟨_, _, rfl, ⟨n1, rfl, w1⟩, h2⟩ := Fits.cons h1
  obtain ⟨_, _, rfl, ⟨n2, rfl, w2⟩, h3⟩ := Fits.cons h2
  obtain ⟨_, _, rfl, ⟨n3, rfl, w3⟩, h4⟩ := Fits.cons h3
  obtain ⟨_, _, rfl, ⟨n4, rfl, w4⟩, h5⟩ := Fits.cons h4
  obtain ⟨_, _, rfl, ⟨n5, rfl, w5⟩, h6⟩ := Fits.cons h5
  obtain ⟨_, _, rfl, ⟨n6, rfl, w6⟩, h7⟩ := Fits.cons h6
  obtain ⟨_, _, rfl, ⟨n7, rfl, w7⟩, h8⟩ := Fits.cons h7
  obtain ⟨_, _, rfl, ⟨n8, rfl, w8⟩, h9⟩ := Fits.cons h8
  obtain ⟨_, _, rfl, ⟨n9, rfl, w9⟩, h10⟩ := Fits.cons h9
  obtain ⟨_, _, rfl, ⟨n10, rfl⟩, h11⟩ := Fits.cons h10
  obtain ⟨_, _, rfl, ⟨n11, rfl, w11⟩, h12⟩ := Fits.cons h11
  obtain ⟨_, _, rfl, ⟨n12, rfl, w12⟩, h13⟩ := Fits.cons h12
  obtain ⟨_, _, rfl, ⟨n13, rfl, w13⟩, h14⟩ := Fits.cons h13
  obtain ⟨_, _, rfl, ⟨n14, rfl, w14⟩, h15⟩ := Fits.cons h14
  obtain ⟨_, _, rfl, ⟨n15, rfl, w15⟩, h16⟩ := Fits.cons h15
  obtain ⟨_, _, rfl, ⟨n16, rfl, w16⟩, h17⟩ := Fits.cons h16
  obtain ⟨_, _, rfl, ⟨n17, rfl, w17⟩, h18⟩ := Fits.cons h17
  obtain ⟨_, _, rfl, ⟨n18, rfl, w18⟩, h19⟩ := Fits.cons h18
  obtain ⟨_, _, rfl, ⟨n19, rfl, w19⟩, h20⟩ := Fits.cons h19
  obtain ⟨_, _, rfl, ⟨n20, rfl, w20⟩, h21⟩ := Fits.cons h20
  obtain ⟨_, _, rfl, ⟨n21, rfl, w21⟩, h22⟩ := Fits.cons h21
  obtain ⟨_, _, rfl, ⟨n22, rfl, w22⟩, h23⟩ := Fits.cons h22
  obtain ⟨_, _, rfl, ⟨n23, rfl, w23⟩, h24⟩ := Fits.cons h23
  obtain ⟨_, _, rfl, ⟨n24, rfl, w24⟩, h25⟩ := Fits.cons h24
  obtain rfl := Fits.nil h25
  exact ⟨⟨n0, n1, n2, ⟨n3, n4⟩, ⟨n5, n6⟩, ⟨n7, n8⟩, n9, n10, ⟨⟨n11, n12, n13, n14, n15, n16⟩, ⟨n17, n18, n19, n20, n21, n22, n23⟩, n24⟩⟩, rfl, ⟨w0, w1, w2, ⟨w3, w4⟩, ⟨w5, w6⟩, ⟨w7, w8⟩, w9, ⟨⟨w11, w12, w13, w14, w15, w16⟩, ⟨w17, w18, w19, w20, w21, w22, w23⟩, w24⟩⟩⟩
def Caucuslaw14Vote.wf (x : Caucuslaw14Vote) : Prop := In .i64 x.Rep ∧ In .i64 x.N
theorem Caucuslaw14Vote.leaves : leaves Try.prog 40 60 = some [.i .i64, .i .i64] := by kernel_rfl
theorem Caucuslaw14Vote.fit {cs : List Go.Value} (h0 : Fits [.i .i64, .i .i64] cs) : ∃ x : Caucuslaw14Vote, cs = x.c ∧ x.wf := by
  obtain ⟨_, _, rfl, ⟨n0, rfl, w0⟩, h1⟩ := Fits.cons h0
  obtain ⟨_, _, rfl, ⟨n1, rfl, w1⟩, h2⟩ := Fits.cons h1
  obtain rfl := Fits.nil h2
  exact ⟨⟨n0, n1⟩, rfl, ⟨w0, w1⟩⟩
def Caucuslaw14Case.wf (x : Caucuslaw14Case) : Prop := In .i64 x.N ∧ In .i64 x.Self ∧ x.Item.wf ∧ x.Ballot.wf ∧ x.Call.wf ∧ In .i64 x.Phase
theorem Caucuslaw14Case.leaves : leaves Try.prog 40 69 = some [.i .i64, .i .i64, .i .i64, .i .i64, .i .i64, .i .i64, .i .i64, .s, .s, .i .i64, .i .i64, .i .i64, .i .i64, .i .i64, .i .i64, .i .i64, .i .i64, .i .i64, .i .i64, .i .i64, .i .i64] := by kernel_rfl
theorem Caucuslaw14Case.fit {cs : List Go.Value} (h0 : Fits [.i .i64, .i .i64, .i .i64, .i .i64, .i .i64, .i .i64, .i .i64, .s, .s, .i .i64, .i .i64, .i .i64, .i .i64, .i .i64, .i .i64, .i .i64, .i .i64, .i .i64, .i .i64, .i .i64, .i .i64] cs) : ∃ x : Caucuslaw14Case, cs = x.c ∧ x.wf := by
  obtain ⟨_, _, rfl, ⟨n0, rfl, w0⟩, h1⟩ := Fits.cons h0
  obtain ⟨_, _, rfl, ⟨n1, rfl, w1⟩, h2⟩ := Fits.cons h1
  obtain ⟨_, _, rfl, ⟨n2, rfl, w2⟩, h3⟩ := Fits.cons h2
  obtain ⟨_, _, rfl, ⟨n3, rfl, w3⟩, h4⟩ := Fits.cons h3
  obtain ⟨_, _, rfl, ⟨n4, rfl, w4⟩, h5⟩ := Fits.cons h4
  obtain ⟨_, _, rfl, ⟨n5, rfl, w5⟩, h6⟩ := Fits.cons h5
  obtain ⟨_, _, rfl, ⟨n6, rfl, w6⟩, h7⟩ := Fits.cons h6
  obtain ⟨_, _, rfl, ⟨n7, rfl, w7⟩, h8⟩ := Fits.cons h7
  obtain ⟨_, _, rfl, ⟨n8, rfl, w8⟩, h9⟩ := Fits.cons h8
  obtain ⟨_, _, rfl, ⟨n9, rfl, w9⟩, h10⟩ := Fits.cons h9
  obtain ⟨_, _, rfl, ⟨n10, rfl, w10⟩, h11⟩ := Fits.cons h10
  obtain ⟨_, _, rfl, ⟨n11, rfl, w11⟩, h12⟩ := Fits.cons h11
  obtain ⟨_, _, rfl, ⟨n12, rfl, w12⟩, h13⟩ := Fits.cons h12
  obtain ⟨_, _, rfl, ⟨n13, rfl, w13⟩, h14⟩ := Fits.cons h13
  obtain ⟨_, _, rfl, ⟨n14, rfl, w14⟩, h15⟩ := Fits.cons h14
  obtain ⟨_, _, rfl, ⟨n15, rfl, w15⟩, h16⟩ := Fits.cons h15
  obtain ⟨_, _, rfl, ⟨n16, rfl, w16⟩, h17⟩ := Fits.cons h16
  obtain ⟨_, _, rfl, ⟨n17, rfl, w17⟩, h18⟩ := Fits.cons h17
  obtain ⟨_, _, rfl, ⟨n18, rfl, w18⟩, h19⟩ := Fits.cons h18
  obtain ⟨_, _, rfl, ⟨n19, rfl, w19⟩, h20⟩ := Fits.cons h19
  obtain ⟨_, _, rfl, ⟨n20, rfl, w20⟩, h21⟩ := Fits.cons h20
  obtain rfl := Fits.nil h21
  exact ⟨⟨n0, n1, ⟨n2, n3⟩, ⟨n4, n5⟩, ⟨⟨n6, n7, n8, n9, n10, n11⟩, ⟨n12, n13, n14, n15, n16, n17, n18⟩, n19⟩, n20⟩, rfl, ⟨w0, w1, ⟨w2, w3⟩, ⟨w4, w5⟩, ⟨⟨w6, w7, w8, w9, w10, w11⟩, ⟨w12, w13, w14, w15, w16, w17, w18⟩, w19⟩, w20⟩⟩
def Caucuslaw14Step.wf (x : Caucuslaw14Step) : Prop := x.Msg.wf
theorem Caucuslaw14Step.leaves : leaves Try.prog 40 84 = some [.b, .i .i64, .i .i64, .i .i64, .i .i64, .i .i64, .i .i64, .i .i64, .i .i64, .i .i64, .i .i64, .b, .i .i64, .s, .s, .i .i64, .i .i64, .i .i64, .i .i64, .i .i64, .i .i64, .i .i64, .i .i64, .i .i64, .i .i64, .i .i64] := by kernel_rfl
theorem Caucuslaw14Step.fit {cs : List Go.Value} (h0 : Fits [.b, .i .i64, .i .i64, .i .i64, .i .i64, .i .i64, .i .i64, .i .i64, .i .i64, .i .i64, .i .i64, .b, .i .i64, .s, .s, .i .i64, .i .i64, .i .i64, .i .i64, .i .i64, .i .i64, .i .i64, .i .i64, .i .i64, .i .i64, .i .i64] cs) : ∃ x : Caucuslaw14Step, cs = x.c ∧ x.wf := by
  obtain ⟨_, _, rfl, ⟨n0, rfl⟩, h1⟩ := Fits.cons h0
  obtain ⟨_, _, rfl, ⟨n1, rfl, w1⟩, h2⟩ := Fits.cons h1
  obtain ⟨_, _, rfl, ⟨n2, rfl, w2⟩, h3⟩ := Fits.cons h2
  obtain ⟨_, _, rfl, ⟨n3, rfl, w3⟩, h4⟩ := Fits.cons h3
  obtain ⟨_, _, rfl, ⟨n4, rfl, w4⟩, h5⟩ := Fits.cons h4
  obtain ⟨_, _, rfl, ⟨n5, rfl, w5⟩, h6⟩ := Fits.cons h5
  obtain ⟨_, _, rfl, ⟨n6, rfl, w6⟩, h7⟩ := Fits.cons h6
  obtain ⟨_, _, rfl, ⟨n7, rfl, w7⟩, h8⟩ := Fits.cons h7
  obtain ⟨_, _, rfl, ⟨n8, rfl, w8⟩, h9⟩ := Fits.cons h8
  obtain ⟨_, _, rfl, ⟨n9, rfl, w9⟩, h10⟩ := Fits.cons h9
  obtain ⟨_, _, rfl, ⟨n10, rfl, w10⟩, h11⟩ := Fits.cons h10
  obtain ⟨_, _, rfl, ⟨n11, rfl⟩, h12⟩ := Fits.cons h11
  obtain ⟨_, _, rfl, ⟨n12, rfl, w12⟩, h13⟩ := Fits.cons h12
  obtain ⟨_, _, rfl, ⟨n13, rfl, w13⟩, h14⟩ := Fits.cons h13
  obtain ⟨_, _, rfl, ⟨n14, rfl, w14⟩, h15⟩ := Fits.cons h14
  obtain ⟨_, _, rfl, ⟨n15, rfl, w15⟩, h16⟩ := Fits.cons h15
  obtain ⟨_, _, rfl, ⟨n16, rfl, w16⟩, h17⟩ := Fits.cons h16
  obtain ⟨_, _, rfl, ⟨n17, rfl, w17⟩, h18⟩ := Fits.cons h17
  obtain ⟨_, _, rfl, ⟨n18, rfl, w18⟩, h19⟩ := Fits.cons h18
  obtain ⟨_, _, rfl, ⟨n19, rfl, w19⟩, h20⟩ := Fits.cons h19
  obtain ⟨_, _, rfl, ⟨n20, rfl, w20⟩, h21⟩ := Fits.cons h20
  obtain ⟨_, _, rfl, ⟨n21, rfl, w21⟩, h22⟩ := Fits.cons h21
  obtain ⟨_, _, rfl, ⟨n22, rfl, w22⟩, h23⟩ := Fits.cons h22
  obtain ⟨_, _, rfl, ⟨n23, rfl, w23⟩, h24⟩ := Fits.cons h23
  obtain ⟨_, _, rfl, ⟨n24, rfl, w24⟩, h25⟩ := Fits.cons h24
  obtain ⟨_, _, rfl, ⟨n25, rfl, w25⟩, h26⟩ := Fits.cons h25
  obtain rfl := Fits.nil h26
  exact ⟨⟨n0, ⟨n1, n2, n3, ⟨n4, n5⟩, ⟨n6, n7⟩, ⟨n8, n9⟩, n10, n11, ⟨⟨n12, n13, n14, n15, n16, n17⟩, ⟨n18, n19, n20, n21, n22, n23, n24⟩, n25⟩⟩⟩, rfl, ⟨w1, w2, w3, ⟨w4, w5⟩, ⟨w6, w7⟩, ⟨w8, w9⟩, w10, ⟨⟨w12, w13, w14, w15, w16, w17⟩, ⟨w18, w19, w20, w21, w22, w23, w24⟩, w25⟩⟩⟩
def Caucuslaw10Call.wf (x : Caucuslaw10Call) : Prop := In .i64 x.Kind ∧ In .i64 x.Key ∧ In .i64 x.N
theorem Caucuslaw10Call.leaves : leaves Try.prog 40 99 = some [.i .i64, .i .i64, .i .i64] := by kernel_rfl
theorem Caucuslaw10Call.fit {cs : List Go.Value} (h0 : Fits [.i .i64, .i .i64, .i .i64] cs) : ∃ x : Caucuslaw10Call, cs = x.c ∧ x.wf := by
  obtain ⟨_, _, rfl, ⟨n0, rfl, w0⟩, h1⟩ := Fits.cons h0
  obtain ⟨_, _, rfl, ⟨n1, rfl, w1⟩, h2⟩ := Fits.cons h1
  obtain ⟨_, _, rfl, ⟨n2, rfl, w2⟩, h3⟩ := Fits.cons h2
  obtain rfl := Fits.nil h3
  exact ⟨⟨n0, n1, n2⟩, rfl, ⟨w0, w1, w2⟩⟩
def Caucuslaw17Call.wf (x : Caucuslaw17Call) : Prop := In .i64 x.Kind ∧ In .i64 x.Now ∧ x.Item.wf
theorem Caucuslaw17Call.leaves : leaves Try.prog 40 127 = some [.i .i64, .i .i64, .i .i64, .i .i64] := by kernel_rfl
theorem Caucuslaw17Call.fit {cs : List Go.Value} (h0 : Fits [.i .i64, .i .i64, .i .i64, .i .i64] cs) : ∃ x : Caucuslaw17Call, cs = x.c ∧ x.wf := by
  obtain ⟨_, _, rfl, ⟨n0, rfl, w0⟩, h1⟩ := Fits.cons h0
  obtain ⟨_, _, rfl, ⟨n1, rfl, w1⟩, h2⟩ := Fits.cons h1
  obtain ⟨_, _, rfl, ⟨n2, rfl, w2⟩, h3⟩ := Fits.cons h2
  obtain ⟨_, _, rfl, ⟨n3, rfl, w3⟩, h4⟩ := Fits.cons h3
  obtain rfl := Fits.nil h4
  exact ⟨⟨n0, n1, ⟨n2, n3⟩⟩, rfl, ⟨w0, w1, ⟨w2, w3⟩⟩⟩
def WheelSpokeOfInt.wf (x : WheelSpokeOfInt) : Prop := In .i64 x.key ∧ In .i64 x.due ∧ In .i64 x.turn
theorem WheelSpokeOfInt.leaves : leaves Try.prog 40 148 = some [.i .i64, .i .i64, .i .i64] := by kernel_rfl
theorem WheelSpokeOfInt.fit {cs : List Go.Value} (h0 : Fits [.i .i64, .i .i64, .i .i64] cs) : ∃ x : WheelSpokeOfInt, cs = x.c ∧ x.wf := by
  obtain ⟨_, _, rfl, ⟨n0, rfl, w0⟩, h1⟩ := Fits.cons h0
  obtain ⟨_, _, rfl, ⟨n1, rfl, w1⟩, h2⟩ := Fits.cons h1
  obtain ⟨_, _, rfl, ⟨n2, rfl, w2⟩, h3⟩ := Fits.cons h2
  obtain rfl := Fits.nil h3
  exact ⟨⟨n0, n1, n2⟩, rfl, ⟨w0, w1, w2⟩⟩
def WheelSpokeOfItem.wf (x : WheelSpokeOfItem) : Prop := x.key.wf ∧ In .i64 x.due ∧ In .i64 x.turn
theorem WheelSpokeOfItem.leaves : leaves Try.prog 40 183 = some [.i .i64, .i .i64, .i .i64, .i .i64] := by kernel_rfl
theorem WheelSpokeOfItem.fit {cs : List Go.Value} (h0 : Fits [.i .i64, .i .i64, .i .i64, .i .i64] cs) : ∃ x : WheelSpokeOfItem, cs = x.c ∧ x.wf := by
  obtain ⟨_, _, rfl, ⟨n0, rfl, w0⟩, h1⟩ := Fits.cons h0
  obtain ⟨_, _, rfl, ⟨n1, rfl, w1⟩, h2⟩ := Fits.cons h1
  obtain ⟨_, _, rfl, ⟨n2, rfl, w2⟩, h3⟩ := Fits.cons h2
  obtain ⟨_, _, rfl, ⟨n3, rfl, w3⟩, h4⟩ := Fits.cons h3
  obtain rfl := Fits.nil h4
  exact ⟨⟨⟨n0, n1⟩, n2, n3⟩, rfl, ⟨⟨w0, w1⟩, w2, w3⟩⟩
theorem laid : laidOutB Try.prog = true := by kernel_rfl
theorem own : ownKnob Try.prog.godebug = none := by kernel_rfl
theorem mixed : Try.prog.follows .mixedOrders = true := by kernel_rfl

end Go.Proofs.Ythoepbbpmdmfeaa
