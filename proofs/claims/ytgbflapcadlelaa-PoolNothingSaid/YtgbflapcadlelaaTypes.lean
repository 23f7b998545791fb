/-
  The types of this seat's program as Lean structures, their cells, and the program's tables. Written by a program of ours (gentypes.py).
-/
import Derived.Test.YtgbflapcadlelaaRows
import Derived.Test.YtgbflapcadlelaaHeap
namespace Go.Proofs.Ytgbflapcadlelaa
open Go.HL

structure TItem where
  Rep : Int
  Num : Int
  deriving DecidableEq
def TItem.c (x : TItem) : List Go.Value := [.int .i64 x.Rep, .int .i64 x.Num]
def TItem.z : TItem := ⟨0, 0⟩
instance : Inhabited TItem := ⟨TItem.z⟩
theorem TItem.ones : Ones TItem.c := fun _ => rfl
theorem TItem.len (x : TItem) : x.c.length = 2 := rfl
instance (x : TItem) : SegOf 0 2 x.c x.c := ⟨rfl⟩
instance (x y : TItem) : SplOf 0 x.c y.c x.c := ⟨rfl⟩
instance (x : TItem) (y : Int) : SplOf 0 [.int .i64 y] x.c ({ x with Rep := y } : TItem).c := ⟨rfl⟩
instance (x : TItem) (y : Int) : SplOf 1 [.int .i64 y] x.c ({ x with Num := y } : TItem).c := ⟨rfl⟩

structure Caucusref03Rows where
  N : Int
  Items : Go.Value
  Vals : Go.Value
def Caucusref03Rows.c (x : Caucusref03Rows) : List Go.Value := [.int .i64 x.N, x.Items, x.Vals]
def Caucusref03Rows.z : Caucusref03Rows := ⟨0, .slice none 0 0, .slice none 0 0⟩
instance : Inhabited Caucusref03Rows := ⟨Caucusref03Rows.z⟩
theorem Caucusref03Rows.len (x : Caucusref03Rows) : x.c.length = 3 := rfl
instance (x : Caucusref03Rows) : SegOf 0 3 x.c x.c := ⟨rfl⟩
instance (x y : Caucusref03Rows) : SplOf 0 x.c y.c x.c := ⟨rfl⟩
instance (x : Caucusref03Rows) (y : Int) : SplOf 0 [.int .i64 y] x.c ({ x with N := y } : Caucusref03Rows).c := ⟨rfl⟩
instance (x : Caucusref03Rows) (y : Go.Value) : SplOf 1 [y] x.c ({ x with Items := y } : Caucusref03Rows).c := ⟨rfl⟩
instance (x : Caucusref03Rows) (y : Go.Value) : SplOf 2 [y] x.c ({ x with Vals := y } : Caucusref03Rows).c := ⟨rfl⟩

structure Caucuslaw03Call where
  Item : TItem
  N : Int
  deriving DecidableEq
def Caucuslaw03Call.c (x : Caucuslaw03Call) : List Go.Value := x.Item.c ++ ([.int .i64 x.N])
def Caucuslaw03Call.z : Caucuslaw03Call := ⟨TItem.z, 0⟩
instance : Inhabited Caucuslaw03Call := ⟨Caucuslaw03Call.z⟩
theorem Caucuslaw03Call.ones : Ones Caucuslaw03Call.c := fun _ => rfl
theorem Caucuslaw03Call.len (x : Caucuslaw03Call) : x.c.length = 3 := rfl
instance (x : Caucuslaw03Call) : SegOf 0 3 x.c x.c := ⟨rfl⟩
instance (x y : Caucuslaw03Call) : SplOf 0 x.c y.c x.c := ⟨rfl⟩
instance (x : Caucuslaw03Call) : SegOf 0 2 x.c x.Item.c := ⟨rfl⟩
instance (x : Caucuslaw03Call) (y : TItem) : SplOf 0 y.c x.c ({ x with Item := y } : Caucuslaw03Call).c := ⟨rfl⟩
instance (x : Caucuslaw03Call) (y : Int) : SplOf 0 [.int .i64 y] x.c ({ x with Item := { x.Item with Rep := y } } : Caucuslaw03Call).c := ⟨rfl⟩
instance (x : Caucuslaw03Call) (y : Int) : SplOf 1 [.int .i64 y] x.c ({ x with Item := { x.Item with Num := y } } : Caucuslaw03Call).c := ⟨rfl⟩
instance (x : Caucuslaw03Call) (y : Int) : SplOf 2 [.int .i64 y] x.c ({ x with N := y } : Caucuslaw03Call).c := ⟨rfl⟩

structure PoolLetter where
  From : Int
  To : Int
  Bytes : List UInt8
  deriving DecidableEq
def PoolLetter.c (x : PoolLetter) : List Go.Value := [.int .i64 x.From, .int .i64 x.To, S x.Bytes]
def PoolLetter.z : PoolLetter := ⟨0, 0, []⟩
instance : Inhabited PoolLetter := ⟨PoolLetter.z⟩
theorem PoolLetter.ones : Ones PoolLetter.c := fun _ => rfl
theorem PoolLetter.len (x : PoolLetter) : x.c.length = 3 := rfl
instance (x : PoolLetter) : SegOf 0 3 x.c x.c := ⟨rfl⟩
instance (x y : PoolLetter) : SplOf 0 x.c y.c x.c := ⟨rfl⟩
instance (x : PoolLetter) (y : Int) : SplOf 0 [.int .i64 y] x.c ({ x with From := y } : PoolLetter).c := ⟨rfl⟩
instance (x : PoolLetter) (y : Int) : SplOf 1 [.int .i64 y] x.c ({ x with To := y } : PoolLetter).c := ⟨rfl⟩
instance (x : PoolLetter) (y : List UInt8) : SplOf 2 [S y] x.c ({ x with Bytes := y } : PoolLetter).c := ⟨rfl⟩

structure Caucuslaw11Call where
  Kind : Int
  Letter : PoolLetter
  N : Int
  M : Int
  deriving DecidableEq
def Caucuslaw11Call.c (x : Caucuslaw11Call) : List Go.Value := [.int .i64 x.Kind] ++ (x.Letter.c ++ ([.int .i64 x.N, .int .i64 x.M]))
def Caucuslaw11Call.z : Caucuslaw11Call := ⟨0, PoolLetter.z, 0, 0⟩
instance : Inhabited Caucuslaw11Call := ⟨Caucuslaw11Call.z⟩
theorem Caucuslaw11Call.ones : Ones Caucuslaw11Call.c := fun _ => rfl
theorem Caucuslaw11Call.len (x : Caucuslaw11Call) : x.c.length = 6 := rfl
instance (x : Caucuslaw11Call) : SegOf 0 6 x.c x.c := ⟨rfl⟩
instance (x y : Caucuslaw11Call) : SplOf 0 x.c y.c x.c := ⟨rfl⟩
instance (x : Caucuslaw11Call) (y : Int) : SplOf 0 [.int .i64 y] x.c ({ x with Kind := y } : Caucuslaw11Call).c := ⟨rfl⟩
instance (x : Caucuslaw11Call) : SegOf 1 3 x.c x.Letter.c := ⟨rfl⟩
instance (x : Caucuslaw11Call) (y : PoolLetter) : SplOf 1 y.c x.c ({ x with Letter := y } : Caucuslaw11Call).c := ⟨rfl⟩
instance (x : Caucuslaw11Call) (y : Int) : SplOf 1 [.int .i64 y] x.c ({ x with Letter := { x.Letter with From := y } } : Caucuslaw11Call).c := ⟨rfl⟩
instance (x : Caucuslaw11Call) (y : Int) : SplOf 2 [.int .i64 y] x.c ({ x with Letter := { x.Letter with To := y } } : Caucuslaw11Call).c := ⟨rfl⟩
instance (x : Caucuslaw11Call) (y : List UInt8) : SplOf 3 [S y] x.c ({ x with Letter := { x.Letter with Bytes := y } } : Caucuslaw11Call).c := ⟨rfl⟩
instance (x : Caucuslaw11Call) (y : Int) : SplOf 4 [.int .i64 y] x.c ({ x with N := y } : Caucuslaw11Call).c := ⟨rfl⟩
instance (x : Caucuslaw11Call) (y : Int) : SplOf 5 [.int .i64 y] x.c ({ x with M := y } : Caucuslaw11Call).c := ⟨rfl⟩

structure Caucusref11Pool where
  From : Go.Value
  To : Go.Value
  Text : Go.Value
  Cuts : Go.Value
  Lost : Int
def Caucusref11Pool.c (x : Caucusref11Pool) : List Go.Value := [x.From, x.To, x.Text, x.Cuts, .int .i64 x.Lost]
def Caucusref11Pool.z : Caucusref11Pool := ⟨.slice none 0 0, .slice none 0 0, .slice none 0 0, .slice none 0 0, 0⟩
instance : Inhabited Caucusref11Pool := ⟨Caucusref11Pool.z⟩
theorem Caucusref11Pool.len (x : Caucusref11Pool) : x.c.length = 5 := rfl
instance (x : Caucusref11Pool) : SegOf 0 5 x.c x.c := ⟨rfl⟩
instance (x y : Caucusref11Pool) : SplOf 0 x.c y.c x.c := ⟨rfl⟩
instance (x : Caucusref11Pool) (y : Go.Value) : SplOf 0 [y] x.c ({ x with From := y } : Caucusref11Pool).c := ⟨rfl⟩
instance (x : Caucusref11Pool) (y : Go.Value) : SplOf 1 [y] x.c ({ x with To := y } : Caucusref11Pool).c := ⟨rfl⟩
instance (x : Caucusref11Pool) (y : Go.Value) : SplOf 2 [y] x.c ({ x with Text := y } : Caucusref11Pool).c := ⟨rfl⟩
instance (x : Caucusref11Pool) (y : Go.Value) : SplOf 3 [y] x.c ({ x with Cuts := y } : Caucusref11Pool).c := ⟨rfl⟩
instance (x : Caucusref11Pool) (y : Int) : SplOf 4 [.int .i64 y] x.c ({ x with Lost := y } : Caucusref11Pool).c := ⟨rfl⟩

structure OctaveSink where
  out : Go.Value
def OctaveSink.c (x : OctaveSink) : List Go.Value := [x.out]
def OctaveSink.z : OctaveSink := ⟨.slice none 0 0⟩
instance : Inhabited OctaveSink := ⟨OctaveSink.z⟩
theorem OctaveSink.len (x : OctaveSink) : x.c.length = 1 := rfl
instance (x : OctaveSink) : SegOf 0 1 x.c x.c := ⟨rfl⟩
instance (x y : OctaveSink) : SplOf 0 x.c y.c x.c := ⟨rfl⟩
instance (x : OctaveSink) (y : Go.Value) : SplOf 0 [y] x.c ({ x with out := y } : OctaveSink).c := ⟨rfl⟩

structure OctaveSource where
  in_ : List UInt8
  dry : Bool
  deriving DecidableEq
def OctaveSource.c (x : OctaveSource) : List Go.Value := [S x.in_, .bool x.dry]
def OctaveSource.z : OctaveSource := ⟨[], false⟩
instance : Inhabited OctaveSource := ⟨OctaveSource.z⟩
theorem OctaveSource.ones : Ones OctaveSource.c := fun _ => rfl
theorem OctaveSource.len (x : OctaveSource) : x.c.length = 2 := rfl
instance (x : OctaveSource) : SegOf 0 2 x.c x.c := ⟨rfl⟩
instance (x y : OctaveSource) : SplOf 0 x.c y.c x.c := ⟨rfl⟩
instance (x : OctaveSource) (y : List UInt8) : SplOf 0 [S y] x.c ({ x with in_ := y } : OctaveSource).c := ⟨rfl⟩
instance (x : OctaveSource) (y : Bool) : SplOf 1 [.bool y] x.c ({ x with dry := y } : OctaveSource).c := ⟨rfl⟩

def tbZ : List (Nat × List Value) := [(2, [.int .i64 0]), (3, [.int .i64 0]), (4, [.bool false]), (5, [.int .u8 0]), (6, [.int .u8 0]), (7, [.int .i64 0, .int .i64 0, .bool false, .int .u8 0]), (8, [.int .i64 0, .int .i64 0, .bool false, .int .u8 0]), (9, [S []]), (10, [S []]), (11, [S []]), (12, [.int .u64 0]), (13, [S [], .int .u64 0]), (14, [S [], .int .u64 0]), (15, [.pointer none]), (16, [.pointer none]), (17, [.pointer none]), (18, [.pointer none]), (19, [.pointer none]), (21, [.int .i32 0]), (23, [.int .u32 0]), (28, [.slice none 0 0]), (29, [.int .i64 0, .int .i64 0]), (30, TItem.z.c), (31, [.pointer none]), (33, [.pointer none]), (34, [.slice none 0 0]), (35, [.slice none 0 0]), (36, [.int .i64 0, .slice none 0 0, .slice none 0 0]), (37, Caucusref03Rows.z.c), (38, [.int .i64 0, .int .i64 0, .int .i64 0]), (39, Caucuslaw03Call.z.c), (51, [.map none]), (56, [.pointer none]), (58, [.slice none 0 0]), (60, [.int .i64 0, .int .i64 0, S []]), (61, PoolLetter.z.c), (68, [.slice none 0 0]), (70, [.map none]), (71, [.int .i64 0, .int .i64 0, .int .i64 0, S [], .int .i64 0, .int .i64 0]), (72, Caucuslaw11Call.z.c), (75, [.pointer none]), (76, [.slice none 0 0]), (77, [.slice none 0 0]), (78, [.slice none 0 0, .slice none 0 0, .slice none 0 0, .slice none 0 0, .int .i64 0]), (79, Caucusref11Pool.z.c), (85, [.int .i64 0, .int .i64 0]), (87, [.slice none 0 0]), (88, [.int .u64 0]), (92, [.pointer none]), (93, [.slice none 0 0]), (94, OctaveSink.z.c), (96, [.pointer none]), (118, [.slice none 0 0, .slice none 0 0, .slice none 0 0, .slice none 0 0, .slice none 0 0, .slice none 0 0, .slice none 0 0]), (119, [.slice none 0 0]), (120, [.slice none 0 0, .slice none 0 0, .slice none 0 0, .slice none 0 0, .slice none 0 0, .slice none 0 0, .slice none 0 0]), (121, [.int .i64 0, .slice none 0 0, .slice none 0 0, .slice none 0 0, .slice none 0 0, .slice none 0 0, .slice none 0 0, .slice none 0 0, .slice none 0 0, .slice none 0 0, .slice none 0 0, .slice none 0 0, .slice none 0 0, .slice none 0 0, .slice none 0 0]), (122, [.int .i64 0, .slice none 0 0, .slice none 0 0, .slice none 0 0, .slice none 0 0, .slice none 0 0, .slice none 0 0, .slice none 0 0, .slice none 0 0, .slice none 0 0, .slice none 0 0, .slice none 0 0, .slice none 0 0, .slice none 0 0, .slice none 0 0]), (123, [.bool false, .bool false, .bool false, .bool false, .bool false, .bool false, .bool false]), (124, [.bool false, .bool false, .bool false, .bool false, .bool false, .bool false, .bool false, .bool false, .bool false, .bool false, .bool false, .bool false, .bool false, .bool false, .bool false, .bool false, .bool false, .bool false, .bool false, .bool false, .bool false, .bool false, .bool false, .bool false, .bool false, .bool false, .bool false, .bool false, .bool false, .bool false, .bool false, .bool false, .bool false, .bool false, .bool false, .bool false, .bool false, .bool false, .bool false, .bool false, .bool false, .bool false, .bool false, .bool false, .bool false, .bool false, .bool false, .bool false, .bool false]), (125, [.slice none 0 0, .bool false, .bool false, .bool false, .bool false, .bool false, .bool false, .bool false, .bool false, .bool false, .bool false, .bool false, .bool false, .bool false, .bool false, .bool false, .bool false, .bool false, .bool false, .bool false, .bool false, .bool false, .bool false, .bool false, .bool false, .bool false, .bool false, .bool false, .bool false, .bool false, .bool false, .bool false, .bool false, .bool false, .bool false, .bool false, .bool false, .bool false, .bool false, .bool false, .bool false, .bool false, .bool false, .bool false, .bool false, .bool false, .bool false, .bool false, .bool false, .bool false, .int .i64 0]), (126, [.slice none 0 0, .bool false, .bool false, .bool false, .bool false, .bool false, .bool false, .bool false, .bool false, .bool false, .bool false, .bool false, .bool false, .bool false, .bool false, .bool false, .bool false, .bool false, .bool false, .bool false, .bool false, .bool false, .bool false, .bool false, .bool false, .bool false, .bool false, .bool false, .bool false, .bool false, .bool false, .bool false, .bool false, .bool false, .bool false, .bool false, .bool false, .bool false, .bool false, .bool false, .bool false, .bool false, .bool false, .bool false, .bool false, .bool false, .bool false, .bool false, .bool false, .bool false, .int .i64 0]), (129, [S [], .bool false]), (130, OctaveSource.z.c), (133, [.pointer none]), (134, [.pointer none, .slice none 0 0]), (135, [.pointer none, .slice none 0 0]), (141, [.int .u64 0]), (142, [.pointer none]), (145, [.pointer none, .pointer none, .pointer none, S []]), (146, [.pointer none, .pointer none, .pointer none, S []]), (147, []), (148, []), (149, []), (150, [.int .u8 0]), (151, [.int .u8 0]), (153, [.int .i32 0]), (154, [.int .i32 0]), (155, [.int .u64 0, .int .u64 0, .int .u32 0, .int .u8 0, .int .u8 0, .int .u8 0, .int .u8 0, .nilFunc, .pointer none, .int .i32 0, .int .i32 0]), (156, [.int .u64 0, .int .u64 0, .int .u32 0, .int .u8 0, .int .u8 0, .int .u8 0, .int .u8 0, .nilFunc, .pointer none, .int .i32 0, .int .i32 0])]
set_option maxRecDepth 100000 in
theorem tbZ_ok : ZerosOk Try.prog tbZ := ⟨by kernel_rfl, by kernel_rfl, by kernel_rfl, by kernel_rfl, by kernel_rfl, by kernel_rfl, by kernel_rfl, by kernel_rfl, by kernel_rfl, by kernel_rfl, by kernel_rfl, by kernel_rfl, by kernel_rfl, by kernel_rfl, by kernel_rfl, by kernel_rfl, by kernel_rfl, by kernel_rfl, by kernel_rfl, by kernel_rfl, by kernel_rfl, by kernel_rfl, by kernel_rfl, by kernel_rfl, by kernel_rfl, by kernel_rfl, by kernel_rfl, by kernel_rfl, by kernel_rfl, by kernel_rfl, by kernel_rfl, by kernel_rfl, by kernel_rfl, by kernel_rfl, by kernel_rfl, by kernel_rfl, by kernel_rfl, by kernel_rfl, by kernel_rfl, by kernel_rfl, by kernel_rfl, by kernel_rfl, by kernel_rfl, by kernel_rfl, by kernel_rfl, by kernel_rfl, by kernel_rfl, by kernel_rfl, by kernel_rfl, by kernel_rfl, by kernel_rfl, by kernel_rfl, by kernel_rfl, by kernel_rfl, by kernel_rfl, by kernel_rfl, by kernel_rfl, by kernel_rfl, by kernel_rfl, by kernel_rfl, by kernel_rfl, by kernel_rfl, by kernel_rfl, by kernel_rfl, by kernel_rfl, by kernel_rfl, by kernel_rfl, by kernel_rfl, by kernel_rfl, by kernel_rfl, by kernel_rfl, by kernel_rfl, by kernel_rfl, by kernel_rfl, by kernel_rfl, by kernel_rfl, by kernel_rfl, by kernel_rfl, by kernel_rfl, trivial⟩
def tb : Tabs Try.prog where
  fld := [(7, 0, 0), (7, 1, 1), (7, 2, 2), (7, 3, 3), (8, 0, 0), (8, 1, 1), (8, 2, 2), (8, 3, 3), (13, 0, 0), (13, 1, 1), (14, 0, 0), (14, 1, 1), (18, 0, 0), (19, 0, 0), (29, 0, 0), (29, 1, 1), (30, 0, 0), (30, 1, 1), (36, 0, 0), (36, 1, 1), (36, 2, 2), (37, 0, 0), (37, 1, 1), (37, 2, 2), (38, 0, 0), (38, 1, 2), (39, 0, 0), (39, 1, 2), (60, 0, 0), (60, 1, 1), (60, 2, 2), (61, 0, 0), (61, 1, 1), (61, 2, 2), (71, 0, 0), (71, 1, 1), (71, 2, 4), (71, 3, 5), (72, 0, 0), (72, 1, 1), (72, 2, 4), (72, 3, 5), (78, 0, 0), (78, 1, 1), (78, 2, 2), (78, 3, 3), (78, 4, 4), (79, 0, 0), (79, 1, 1), (79, 2, 2), (79, 3, 3), (79, 4, 4), (93, 0, 0), (94, 0, 0), (121, 0, 0), (121, 1, 1), (121, 2, 8), (122, 0, 0), (122, 1, 1), (122, 2, 8), (125, 0, 0), (125, 1, 1), (125, 2, 50), (126, 0, 0), (126, 1, 1), (126, 2, 50), (129, 0, 0), (129, 1, 1), (130, 0, 0), (130, 1, 1), (134, 0, 0), (134, 1, 1), (135, 0, 0), (135, 1, 1), (145, 0, 0), (145, 1, 1), (145, 2, 2), (145, 3, 3), (146, 0, 0), (146, 1, 1), (146, 2, 2), (146, 3, 3), (155, 0, 0), (155, 1, 1), (155, 2, 2), (155, 3, 3), (155, 4, 4), (155, 5, 5), (155, 6, 6), (155, 7, 7), (155, 8, 8), (155, 9, 9), (155, 10, 10), (156, 0, 0), (156, 1, 1), (156, 2, 2), (156, 3, 3), (156, 4, 4), (156, 5, 5), (156, 6, 6), (156, 7, 7), (156, 8, 8), (156, 9, 9), (156, 10, 10)]
  fk := [(7, 0, 1), (7, 1, 1), (7, 2, 1), (7, 3, 1), (8, 0, 1), (8, 1, 1), (8, 2, 1), (8, 3, 1), (13, 0, 1), (13, 1, 1), (14, 0, 1), (14, 1, 1), (18, 0, 1), (19, 0, 1), (29, 0, 1), (29, 1, 1), (30, 0, 1), (30, 1, 1), (36, 0, 1), (36, 1, 1), (36, 2, 1), (37, 0, 1), (37, 1, 1), (37, 2, 1), (38, 0, 2), (38, 1, 1), (39, 0, 2), (39, 1, 1), (60, 0, 1), (60, 1, 1), (60, 2, 1), (61, 0, 1), (61, 1, 1), (61, 2, 1), (71, 0, 1), (71, 1, 3), (71, 2, 1), (71, 3, 1), (72, 0, 1), (72, 1, 3), (72, 2, 1), (72, 3, 1), (78, 0, 1), (78, 1, 1), (78, 2, 1), (78, 3, 1), (78, 4, 1), (79, 0, 1), (79, 1, 1), (79, 2, 1), (79, 3, 1), (79, 4, 1), (93, 0, 1), (94, 0, 1), (121, 0, 1), (121, 1, 7), (121, 2, 7), (122, 0, 1), (122, 1, 7), (122, 2, 7), (125, 0, 1), (125, 1, 49), (125, 2, 1), (126, 0, 1), (126, 1, 49), (126, 2, 1), (129, 0, 1), (129, 1, 1), (130, 0, 1), (130, 1, 1), (134, 0, 1), (134, 1, 1), (135, 0, 1), (135, 1, 1), (145, 0, 1), (145, 1, 1), (145, 2, 1), (145, 3, 1), (146, 0, 1), (146, 1, 1), (146, 2, 1), (146, 3, 1), (155, 0, 1), (155, 1, 1), (155, 2, 1), (155, 3, 1), (155, 4, 1), (155, 5, 1), (155, 6, 1), (155, 8, 1), (155, 9, 1), (155, 10, 1), (156, 0, 1), (156, 1, 1), (156, 2, 1), (156, 3, 1), (156, 4, 1), (156, 5, 1), (156, 6, 1), (156, 8, 1), (156, 9, 1), (156, 10, 1)]
  slc := [(28, 39), (34, 30), (35, 3), (58, 61), (68, 72), (76, 9), (77, 85), (87, 5), (119, 4)]
  szs := [(2, 1), (3, 1), (4, 1), (5, 1), (6, 1), (7, 4), (8, 4), (9, 1), (10, 1), (11, 1), (12, 1), (13, 2), (14, 2), (15, 1), (16, 1), (17, 1), (18, 1), (19, 1), (21, 1), (23, 1), (28, 1), (29, 2), (30, 2), (31, 1), (33, 1), (34, 1), (35, 1), (36, 3), (37, 3), (38, 3), (39, 3), (51, 1), (56, 1), (58, 1), (60, 3), (61, 3), (68, 1), (70, 1), (71, 6), (72, 6), (75, 1), (76, 1), (77, 1), (78, 5), (79, 5), (85, 2), (87, 1), (88, 1), (92, 1), (93, 1), (94, 1), (96, 1), (118, 7), (119, 1), (120, 7), (121, 15), (122, 15), (123, 7), (124, 49), (125, 51), (126, 51), (129, 2), (130, 2), (133, 1), (134, 2), (135, 2), (141, 1), (142, 1), (145, 4), (146, 4), (147, 0), (148, 0), (149, 0), (150, 1), (151, 1), (153, 1), (154, 1), (155, 11), (156, 11)]
  agg := [(7, 4), (8, 4), (13, 2), (14, 2), (18, 1), (19, 1), (29, 2), (30, 2), (36, 3), (37, 3), (38, 3), (39, 3), (60, 3), (61, 3), (71, 6), (72, 6), (78, 5), (79, 5), (85, 2), (93, 1), (94, 1), (118, 7), (120, 7), (121, 15), (122, 15), (123, 7), (124, 49), (125, 51), (126, 51), (129, 2), (130, 2), (134, 2), (135, 2), (145, 4), (146, 4), (147, 0), (148, 0), (149, 0), (155, 11), (156, 11)]
  one := [(2, 1), (3, 1), (4, 1), (5, 1), (6, 1), (9, 1), (10, 1), (11, 1), (12, 1), (15, 1), (16, 1), (17, 1), (21, 1), (23, 1), (28, 1), (31, 1), (33, 1), (34, 1), (35, 1), (51, 1), (56, 1), (58, 1), (68, 1), (70, 1), (75, 1), (76, 1), (77, 1), (87, 1), (88, 1), (92, 1), (96, 1), (119, 1), (133, 1), (141, 1), (142, 1), (150, 1), (151, 1), (153, 1), (154, 1)]
  zeros := tbZ
  ints := [(2, .i64), (3, .i64), (5, .u8), (6, .u8), (12, .u64), (21, .i32), (23, .u32), (88, .u64), (141, .u64), (150, .u8), (151, .u8), (153, .i32), (154, .i32)]
  strs := [(9, 0), (10, 0), (11, 0)]
  bools := [(4, 0)]
  byt := [(2, 8), (3, 8), (4, 1), (5, 1), (6, 1), (7, 24), (8, 24), (9, 16), (10, 16), (11, 16), (12, 8), (13, 24), (14, 24), (15, 8), (16, 8), (17, 8), (18, 8), (19, 8), (21, 4), (23, 4), (28, 24), (29, 16), (30, 16), (31, 8), (33, 8), (34, 24), (35, 24), (36, 56), (37, 56), (38, 24), (39, 24), (51, 8), (56, 8), (58, 24), (60, 32), (61, 32), (68, 24), (70, 8), (71, 56), (72, 56), (75, 8), (76, 24), (77, 24), (78, 104), (79, 104), (85, 16), (87, 24), (88, 8), (92, 8), (93, 24), (94, 24), (96, 8), (118, 168), (119, 24), (120, 168), (121, 344), (122, 344), (123, 7), (124, 49), (125, 88), (126, 88), (129, 24), (130, 24), (133, 8), (134, 32), (135, 32), (141, 8), (142, 8), (145, 40), (146, 40), (147, 0), (148, 0), (149, 0), (150, 1), (151, 1), (153, 4), (154, 4), (155, 48), (156, 48)]
  arr := [(85, 2, 3), (118, 7, 35), (120, 7, 119), (123, 7, 4), (124, 7, 123), (147, 0, 16)]
  fld_ok := by kernel_rfl
  fk_ok := by kernel_rfl
  slc_ok := by kernel_rfl
  szs_ok := by kernel_rfl
  agg_ok := by kernel_rfl
  one_ok := by kernel_rfl
  ints_ok := by kernel_rfl
  strs_ok := by kernel_rfl
  bools_ok := by kernel_rfl
  byt_ok := by kernel_rfl
  arr_ok := by kernel_rfl
  zeros_ok := tbZ_ok

theorem TItem.eqT (x y : TItem) (d : Nat) : EqT Try.prog (d + 2) 30 (A x.c) (A y.c) (decide (x = y)) := by
  have h := EqT.struct (P := Try.prog) (d := d + 1) (T := 30) (xs := x.c) (ys := y.c) (l := [(3, 0), (3, 1)]) (by kernel_rfl) ⟨_, _, _, _, .one (tb.oneAt (T := 3) rfl) rfl, .one (tb.oneAt (T := 3) rfl) rfl, (EqT.int (tb.intAt (T := 3) rfl)), ⟨_, _, _, _, .one (tb.oneAt (T := 3) rfl) rfl, .one (tb.oneAt (T := 3) rfl) rfl, (EqT.int (tb.intAt (T := 3) rfl)), rfl, rfl⟩, rfl⟩
  refine Eq.mp (congrArg (EqT Try.prog (d + 2) 30 (A x.c) (A y.c)) ?_) h
  rw [Bool.eq_iff_iff]; cases x; cases y; simp [TItem.mk.injEq]
theorem Caucuslaw03Call.eqT (x y : Caucuslaw03Call) (d : Nat) : EqT Try.prog (d + 3) 39 (A x.c) (A y.c) (decide (x = y)) := by
  have h := EqT.struct (P := Try.prog) (d := d + 2) (T := 39) (xs := x.c) (ys := y.c) (l := [(30, 0), (3, 2)]) (by kernel_rfl) ⟨_, _, _, _, .agg (tb.aggAt (T := 30) rfl) rfl SegOf.eq, .agg (tb.aggAt (T := 30) rfl) rfl SegOf.eq, (TItem.eqT _ _ (d + 0)), ⟨_, _, _, _, .one (tb.oneAt (T := 3) rfl) rfl, .one (tb.oneAt (T := 3) rfl) rfl, (EqT.int (tb.intAt (T := 3) rfl)), rfl, rfl⟩, rfl⟩
  refine Eq.mp (congrArg (EqT Try.prog (d + 3) 39 (A x.c) (A y.c)) ?_) h
  rw [Bool.eq_iff_iff]; cases x; cases y; simp [Caucuslaw03Call.mk.injEq]
theorem PoolLetter.eqT (x y : PoolLetter) (d : Nat) : EqT Try.prog (d + 2) 61 (A x.c) (A y.c) (decide (x = y)) := by
  have h := EqT.struct (P := Try.prog) (d := d + 1) (T := 61) (xs := x.c) (ys := y.c) (l := [(3, 0), (3, 1), (9, 2)]) (by kernel_rfl) ⟨_, _, _, _, .one (tb.oneAt (T := 3) rfl) rfl, .one (tb.oneAt (T := 3) rfl) rfl, (EqT.int (tb.intAt (T := 3) rfl)), ⟨_, _, _, _, .one (tb.oneAt (T := 3) rfl) rfl, .one (tb.oneAt (T := 3) rfl) rfl, (EqT.int (tb.intAt (T := 3) rfl)), ⟨_, _, _, _, .one (tb.oneAt (T := 9) rfl) rfl, .one (tb.oneAt (T := 9) rfl) rfl, (EqT.str (tb.strAt (T := 9) rfl)), rfl, rfl⟩, rfl⟩, rfl⟩
  refine Eq.mp (congrArg (EqT Try.prog (d + 2) 61 (A x.c) (A y.c)) ?_) h
  rw [Bool.eq_iff_iff]; cases x; cases y; simp [PoolLetter.mk.injEq]
theorem Caucuslaw11Call.eqT (x y : Caucuslaw11Call) (d : Nat) : EqT Try.prog (d + 3) 72 (A x.c) (A y.c) (decide (x = y)) := by
  have h := EqT.struct (P := Try.prog) (d := d + 2) (T := 72) (xs := x.c) (ys := y.c) (l := [(3, 0), (61, 1), (3, 4), (3, 5)]) (by kernel_rfl) ⟨_, _, _, _, .one (tb.oneAt (T := 3) rfl) rfl, .one (tb.oneAt (T := 3) rfl) rfl, (EqT.int (tb.intAt (T := 3) rfl)), ⟨_, _, _, _, .agg (tb.aggAt (T := 61) rfl) rfl SegOf.eq, .agg (tb.aggAt (T := 61) rfl) rfl SegOf.eq, (PoolLetter.eqT _ _ (d + 0)), ⟨_, _, _, _, .one (tb.oneAt (T := 3) rfl) rfl, .one (tb.oneAt (T := 3) rfl) rfl, (EqT.int (tb.intAt (T := 3) rfl)), ⟨_, _, _, _, .one (tb.oneAt (T := 3) rfl) rfl, .one (tb.oneAt (T := 3) rfl) rfl, (EqT.int (tb.intAt (T := 3) rfl)), rfl, rfl⟩, rfl⟩, rfl⟩, rfl⟩
  refine Eq.mp (congrArg (EqT Try.prog (d + 3) 72 (A x.c) (A y.c)) ?_) h
  rw [Bool.eq_iff_iff]; cases x; cases y; simp [Caucuslaw11Call.mk.injEq]
theorem OctaveSource.eqT (x y : OctaveSource) (d : Nat) : EqT Try.prog (d + 2) 130 (A x.c) (A y.c) (decide (x = y)) := by
  have h := EqT.struct (P := Try.prog) (d := d + 1) (T := 130) (xs := x.c) (ys := y.c) (l := [(9, 0), (4, 1)]) (by kernel_rfl) ⟨_, _, _, _, .one (tb.oneAt (T := 9) rfl) rfl, .one (tb.oneAt (T := 9) rfl) rfl, (EqT.str (tb.strAt (T := 9) rfl)), ⟨_, _, _, _, .one (tb.oneAt (T := 4) rfl) rfl, .one (tb.oneAt (T := 4) rfl) rfl, (EqT.bool (tb.boolAt (T := 4) rfl)), rfl, rfl⟩, rfl⟩
  refine Eq.mp (congrArg (EqT Try.prog (d + 2) 130 (A x.c) (A y.c)) ?_) h
  rw [Bool.eq_iff_iff]; cases x; cases y; simp [OctaveSource.mk.injEq]
def TItem.wf (x : TItem) : Prop := In .i64 x.Rep ∧ In .i64 x.Num
theorem TItem.leaves : leaves Try.prog 40 30 = some [.i .i64, .i .i64] := by kernel_rfl
theorem TItem.fit {cs : List Go.Value} (h0 : Fits [.i .i64, .i .i64] cs) : ∃ x : TItem, cs = x.c ∧ x.wf := by
  obtain ⟨_, _, rfl, ⟨n0, rfl, w0⟩, h1⟩ := Fits.cons h0
  obtain ⟨_, _, rfl, ⟨n1, rfl, w1⟩, h2⟩ := Fits.cons h1
  obtain rfl := Fits.nil h2
  exact ⟨⟨n0, n1⟩, rfl, ⟨w0, w1⟩⟩
def Caucuslaw03Call.wf (x : Caucuslaw03Call) : Prop := x.Item.wf ∧ In .i64 x.N
theorem Caucuslaw03Call.leaves : leaves Try.prog 40 39 = some [.i .i64, .i .i64, .i .i64] := by kernel_rfl
theorem Caucuslaw03Call.fit {cs : List Go.Value} (h0 : Fits [.i .i64, .i .i64, .i .i64] cs) : ∃ x : Caucuslaw03Call, cs = x.c ∧ x.wf := by
  obtain ⟨_, _, rfl, ⟨n0, rfl, w0⟩, h1⟩ := Fits.cons h0
  obtain ⟨_, _, rfl, ⟨n1, rfl, w1⟩, h2⟩ := Fits.cons h1
  obtain ⟨_, _, rfl, ⟨n2, rfl, w2⟩, h3⟩ := Fits.cons h2
  obtain rfl := Fits.nil h3
  exact ⟨⟨⟨n0, n1⟩, n2⟩, rfl, ⟨⟨w0, w1⟩, w2⟩⟩
def PoolLetter.wf (x : PoolLetter) : Prop := In .i64 x.From ∧ In .i64 x.To ∧ x.Bytes.length ≤ 140737488351232
theorem PoolLetter.leaves : leaves Try.prog 40 61 = some [.i .i64, .i .i64, .s] := by kernel_rfl
theorem PoolLetter.fit {cs : List Go.Value} (h0 : Fits [.i .i64, .i .i64, .s] cs) : ∃ x : PoolLetter, cs = x.c ∧ x.wf := by
  obtain ⟨_, _, rfl, ⟨n0, rfl, w0⟩, h1⟩ := Fits.cons h0
  obtain ⟨_, _, rfl, ⟨n1, rfl, w1⟩, h2⟩ := Fits.cons h1
  obtain ⟨_, _, rfl, ⟨n2, rfl, w2⟩, h3⟩ := Fits.cons h2
  obtain rfl := Fits.nil h3
  exact ⟨⟨n0, n1, n2⟩, rfl, ⟨w0, w1, w2⟩⟩
def Caucuslaw11Call.wf (x : Caucuslaw11Call) : Prop := In .i64 x.Kind ∧ x.Letter.wf ∧ In .i64 x.N ∧ In .i64 x.M
theorem Caucuslaw11Call.leaves : leaves Try.prog 40 72 = some [.i .i64, .i .i64, .i .i64, .s, .i .i64, .i .i64] := by kernel_rfl
theorem Caucuslaw11Call.fit {cs : List Go.Value} (h0 : Fits [.i .i64, .i .i64, .i .i64, .s, .i .i64, .i .i64] cs) : ∃ x : Caucuslaw11Call, cs = x.c ∧ x.wf := by
  obtain ⟨_, _, rfl, ⟨n0, rfl, w0⟩, h1⟩ := Fits.cons h0
  obtain ⟨_, _, rfl, ⟨n1, rfl, w1⟩, h2⟩ := Fits.cons h1
  obtain ⟨_, _, rfl, ⟨n2, rfl, w2⟩, h3⟩ := Fits.cons h2
  obtain ⟨_, _, rfl, ⟨n3, rfl, w3⟩, h4⟩ := Fits.cons h3
  obtain ⟨_, _, rfl, ⟨n4, rfl, w4⟩, h5⟩ := Fits.cons h4
  obtain ⟨_, _, rfl, ⟨n5, rfl, w5⟩, h6⟩ := Fits.cons h5
  obtain rfl := Fits.nil h6
  exact ⟨⟨n0, ⟨n1, n2, n3⟩, n4, n5⟩, rfl, ⟨w0, ⟨w1, w2, w3⟩, w4, w5⟩⟩
def OctaveSource.wf (x : OctaveSource) : Prop := x.in_.length ≤ 140737488351232
theorem OctaveSource.leaves : leaves Try.prog 40 130 = some [.s, .b] := by kernel_rfl
theorem OctaveSource.fit {cs : List Go.Value} (h0 : Fits [.s, .b] cs) : ∃ x : OctaveSource, cs = x.c ∧ x.wf := by
  obtain ⟨_, _, rfl, ⟨n0, rfl, w0⟩, h1⟩ := Fits.cons h0
  obtain ⟨_, _, rfl, ⟨n1, rfl⟩, h2⟩ := Fits.cons h1
  obtain rfl := Fits.nil h2
  exact ⟨⟨n0, n1⟩, rfl, w0⟩
theorem laid : laidOutB Try.prog = true := by kernel_rfl
theorem own : ownKnob Try.prog.godebug = none := by kernel_rfl
theorem mixed : Try.prog.follows .mixedOrders = true := by kernel_rfl

end Go.Proofs.Ytgbflapcadlelaa
