/-
  The types of this seat's program as Lean structures, their cells, and the program's tables. Written by a program of ours (gentypes.py).
-/
import Derived.Test.YtgihkocnmgkihaaRows
import Derived.Test.YtgihkocnmgkihaaHeap
namespace Go.Proofs.Ytgihkocnmgkihaa
open Go.HL

structure TDeed where
  Kind : Int
  Key : List UInt8
  Value : List UInt8
  Version : Int
  Session : Int
  Number : Int
  deriving DecidableEq
def TDeed.c (x : TDeed) : List Go.Value := [.int .i64 x.Kind, S x.Key, S x.Value, .int .i64 x.Version, .int .i64 x.Session, .int .i64 x.Number]
def TDeed.z : TDeed := ⟨0, [], [], 0, 0, 0⟩
instance : Inhabited TDeed := ⟨TDeed.z⟩
theorem TDeed.ones : Ones TDeed.c := fun _ => rfl
theorem TDeed.len (x : TDeed) : x.c.length = 6 := rfl
instance (x : TDeed) : SegOf 0 6 x.c x.c := ⟨rfl⟩
instance (x y : TDeed) : SplOf 0 x.c y.c x.c := ⟨rfl⟩
instance (x : TDeed) (y : Int) : SplOf 0 [.int .i64 y] x.c ({ x with Kind := y } : TDeed).c := ⟨rfl⟩
instance (x : TDeed) (y : List UInt8) : SplOf 1 [S y] x.c ({ x with Key := y } : TDeed).c := ⟨rfl⟩
instance (x : TDeed) (y : List UInt8) : SplOf 2 [S y] x.c ({ x with Value := y } : TDeed).c := ⟨rfl⟩
instance (x : TDeed) (y : Int) : SplOf 3 [.int .i64 y] x.c ({ x with Version := y } : TDeed).c := ⟨rfl⟩
instance (x : TDeed) (y : Int) : SplOf 4 [.int .i64 y] x.c ({ x with Session := y } : TDeed).c := ⟨rfl⟩
instance (x : TDeed) (y : Int) : SplOf 5 [.int .i64 y] x.c ({ x with Number := y } : TDeed).c := ⟨rfl⟩

structure RegistryReply where
  Err : Int
  Value : List UInt8
  Version : Int
  Keys : Go.Value
def RegistryReply.c (x : RegistryReply) : List Go.Value := [.int .i64 x.Err, S x.Value, .int .i64 x.Version, x.Keys]
def RegistryReply.z : RegistryReply := ⟨0, [], 0, .slice none 0 0⟩
instance : Inhabited RegistryReply := ⟨RegistryReply.z⟩
theorem RegistryReply.len (x : RegistryReply) : x.c.length = 4 := rfl
instance (x : RegistryReply) : SegOf 0 4 x.c x.c := ⟨rfl⟩
instance (x y : RegistryReply) : SplOf 0 x.c y.c x.c := ⟨rfl⟩
instance (x : RegistryReply) (y : Int) : SplOf 0 [.int .i64 y] x.c ({ x with Err := y } : RegistryReply).c := ⟨rfl⟩
instance (x : RegistryReply) (y : List UInt8) : SplOf 1 [S y] x.c ({ x with Value := y } : RegistryReply).c := ⟨rfl⟩
instance (x : RegistryReply) (y : Int) : SplOf 2 [.int .i64 y] x.c ({ x with Version := y } : RegistryReply).c := ⟨rfl⟩
instance (x : RegistryReply) (y : Go.Value) : SplOf 3 [y] x.c ({ x with Keys := y } : RegistryReply).c := ⟨rfl⟩

structure Caucusref20Reply where
  Err : Int
  Value : List UInt8
  Version : Int
  Keys : Go.Value
def Caucusref20Reply.c (x : Caucusref20Reply) : List Go.Value := [.int .i64 x.Err, S x.Value, .int .i64 x.Version, x.Keys]
def Caucusref20Reply.z : Caucusref20Reply := ⟨0, [], 0, .slice none 0 0⟩
instance : Inhabited Caucusref20Reply := ⟨Caucusref20Reply.z⟩
theorem Caucusref20Reply.len (x : Caucusref20Reply) : x.c.length = 4 := rfl
instance (x : Caucusref20Reply) : SegOf 0 4 x.c x.c := ⟨rfl⟩
instance (x y : Caucusref20Reply) : SplOf 0 x.c y.c x.c := ⟨rfl⟩
instance (x : Caucusref20Reply) (y : Int) : SplOf 0 [.int .i64 y] x.c ({ x with Err := y } : Caucusref20Reply).c := ⟨rfl⟩
instance (x : Caucusref20Reply) (y : List UInt8) : SplOf 1 [S y] x.c ({ x with Value := y } : Caucusref20Reply).c := ⟨rfl⟩
instance (x : Caucusref20Reply) (y : Int) : SplOf 2 [.int .i64 y] x.c ({ x with Version := y } : Caucusref20Reply).c := ⟨rfl⟩
instance (x : Caucusref20Reply) (y : Go.Value) : SplOf 3 [y] x.c ({ x with Keys := y } : Caucusref20Reply).c := ⟨rfl⟩

structure Caucusref20Registry where
  Keys : Go.Value
  Vals : Go.Value
  Vers : Go.Value
def Caucusref20Registry.c (x : Caucusref20Registry) : List Go.Value := [x.Keys, x.Vals, x.Vers]
def Caucusref20Registry.z : Caucusref20Registry := ⟨.slice none 0 0, .slice none 0 0, .slice none 0 0⟩
instance : Inhabited Caucusref20Registry := ⟨Caucusref20Registry.z⟩
theorem Caucusref20Registry.len (x : Caucusref20Registry) : x.c.length = 3 := rfl
instance (x : Caucusref20Registry) : SegOf 0 3 x.c x.c := ⟨rfl⟩
instance (x y : Caucusref20Registry) : SplOf 0 x.c y.c x.c := ⟨rfl⟩
instance (x : Caucusref20Registry) (y : Go.Value) : SplOf 0 [y] x.c ({ x with Keys := y } : Caucusref20Registry).c := ⟨rfl⟩
instance (x : Caucusref20Registry) (y : Go.Value) : SplOf 1 [y] x.c ({ x with Vals := y } : Caucusref20Registry).c := ⟨rfl⟩
instance (x : Caucusref20Registry) (y : Go.Value) : SplOf 2 [y] x.c ({ x with Vers := y } : Caucusref20Registry).c := ⟨rfl⟩

structure RegistryPair where
  Key : List UInt8
  Value : List UInt8
  Version : Int
  deriving DecidableEq
def RegistryPair.c (x : RegistryPair) : List Go.Value := [S x.Key, S x.Value, .int .i64 x.Version]
def RegistryPair.z : RegistryPair := ⟨[], [], 0⟩
instance : Inhabited RegistryPair := ⟨RegistryPair.z⟩
theorem RegistryPair.ones : Ones RegistryPair.c := fun _ => rfl
theorem RegistryPair.len (x : RegistryPair) : x.c.length = 3 := rfl
instance (x : RegistryPair) : SegOf 0 3 x.c x.c := ⟨rfl⟩
instance (x y : RegistryPair) : SplOf 0 x.c y.c x.c := ⟨rfl⟩
instance (x : RegistryPair) (y : List UInt8) : SplOf 0 [S y] x.c ({ x with Key := y } : RegistryPair).c := ⟨rfl⟩
instance (x : RegistryPair) (y : List UInt8) : SplOf 1 [S y] x.c ({ x with Value := y } : RegistryPair).c := ⟨rfl⟩
instance (x : RegistryPair) (y : Int) : SplOf 2 [.int .i64 y] x.c ({ x with Version := y } : RegistryPair).c := ⟨rfl⟩

structure Caucusref21Machine where
  Reg : Caucusref20Registry
  Ids : Go.Value
  Numbers : Go.Value
  Replies : Go.Value
  Count : Int
def Caucusref21Machine.c (x : Caucusref21Machine) : List Go.Value := x.Reg.c ++ ([x.Ids, x.Numbers, x.Replies, .int .i64 x.Count])
def Caucusref21Machine.z : Caucusref21Machine := ⟨Caucusref20Registry.z, .slice none 0 0, .slice none 0 0, .slice none 0 0, 0⟩
instance : Inhabited Caucusref21Machine := ⟨Caucusref21Machine.z⟩
theorem Caucusref21Machine.len (x : Caucusref21Machine) : x.c.length = 7 := rfl
instance (x : Caucusref21Machine) : SegOf 0 7 x.c x.c := ⟨rfl⟩
instance (x y : Caucusref21Machine) : SplOf 0 x.c y.c x.c := ⟨rfl⟩
instance (x : Caucusref21Machine) : SegOf 0 3 x.c x.Reg.c := ⟨rfl⟩
instance (x : Caucusref21Machine) (y : Caucusref20Registry) : SplOf 0 y.c x.c ({ x with Reg := y } : Caucusref21Machine).c := ⟨rfl⟩
instance (x : Caucusref21Machine) (y : Go.Value) : SplOf 0 [y] x.c ({ x with Reg := { x.Reg with Keys := y } } : Caucusref21Machine).c := ⟨rfl⟩
instance (x : Caucusref21Machine) (y : Go.Value) : SplOf 1 [y] x.c ({ x with Reg := { x.Reg with Vals := y } } : Caucusref21Machine).c := ⟨rfl⟩
instance (x : Caucusref21Machine) (y : Go.Value) : SplOf 2 [y] x.c ({ x with Reg := { x.Reg with Vers := y } } : Caucusref21Machine).c := ⟨rfl⟩
instance (x : Caucusref21Machine) (y : Go.Value) : SplOf 3 [y] x.c ({ x with Ids := y } : Caucusref21Machine).c := ⟨rfl⟩
instance (x : Caucusref21Machine) (y : Go.Value) : SplOf 4 [y] x.c ({ x with Numbers := y } : Caucusref21Machine).c := ⟨rfl⟩
instance (x : Caucusref21Machine) (y : Go.Value) : SplOf 5 [y] x.c ({ x with Replies := y } : Caucusref21Machine).c := ⟨rfl⟩
instance (x : Caucusref21Machine) (y : Int) : SplOf 6 [.int .i64 y] x.c ({ x with Count := y } : Caucusref21Machine).c := ⟨rfl⟩

structure RegistryRegistry where
  pairs : Go.Value
def RegistryRegistry.c (x : RegistryRegistry) : List Go.Value := [x.pairs]
def RegistryRegistry.z : RegistryRegistry := ⟨.map none⟩
instance : Inhabited RegistryRegistry := ⟨RegistryRegistry.z⟩
theorem RegistryRegistry.len (x : RegistryRegistry) : x.c.length = 1 := rfl
instance (x : RegistryRegistry) : SegOf 0 1 x.c x.c := ⟨rfl⟩
instance (x y : RegistryRegistry) : SplOf 0 x.c y.c x.c := ⟨rfl⟩
instance (x : RegistryRegistry) (y : Go.Value) : SplOf 0 [y] x.c ({ x with pairs := y } : RegistryRegistry).c := ⟨rfl⟩

structure OctaveSink where
  out : Go.Value
def OctaveSink.c (x : OctaveSink) : List Go.Value := [x.out]
def OctaveSink.z : OctaveSink := ⟨.slice none 0 0⟩
instance : Inhabited OctaveSink := ⟨OctaveSink.z⟩
theorem OctaveSink.len (x : OctaveSink) : x.c.length = 1 := rfl
instance (x : OctaveSink) : SegOf 0 1 x.c x.c := ⟨rfl⟩
instance (x y : OctaveSink) : SplOf 0 x.c y.c x.c := ⟨rfl⟩
instance (x : OctaveSink) (y : Go.Value) : SplOf 0 [y] x.c ({ x with out := y } : OctaveSink).c := ⟨rfl⟩

structure ClientMachine where
  registry : Go.Value
  sessions : Go.Value
  count : Int
def ClientMachine.c (x : ClientMachine) : List Go.Value := [x.registry, x.sessions, .int .i64 x.count]
def ClientMachine.z : ClientMachine := ⟨.pointer none, .map none, 0⟩
instance : Inhabited ClientMachine := ⟨ClientMachine.z⟩
theorem ClientMachine.len (x : ClientMachine) : x.c.length = 3 := rfl
instance (x : ClientMachine) : SegOf 0 3 x.c x.c := ⟨rfl⟩
instance (x y : ClientMachine) : SplOf 0 x.c y.c x.c := ⟨rfl⟩
instance (x : ClientMachine) (y : Go.Value) : SplOf 0 [y] x.c ({ x with registry := y } : ClientMachine).c := ⟨rfl⟩
instance (x : ClientMachine) (y : Go.Value) : SplOf 1 [y] x.c ({ x with sessions := y } : ClientMachine).c := ⟨rfl⟩
instance (x : ClientMachine) (y : Int) : SplOf 2 [.int .i64 y] x.c ({ x with count := y } : ClientMachine).c := ⟨rfl⟩

structure ClientLast where
  number : Int
  reply : RegistryReply
def ClientLast.c (x : ClientLast) : List Go.Value := [.int .i64 x.number] ++ (x.reply.c)
def ClientLast.z : ClientLast := ⟨0, RegistryReply.z⟩
instance : Inhabited ClientLast := ⟨ClientLast.z⟩
theorem ClientLast.len (x : ClientLast) : x.c.length = 5 := rfl
instance (x : ClientLast) : SegOf 0 5 x.c x.c := ⟨rfl⟩
instance (x y : ClientLast) : SplOf 0 x.c y.c x.c := ⟨rfl⟩
instance (x : ClientLast) (y : Int) : SplOf 0 [.int .i64 y] x.c ({ x with number := y } : ClientLast).c := ⟨rfl⟩
instance (x : ClientLast) : SegOf 1 4 x.c x.reply.c := ⟨rfl⟩
instance (x : ClientLast) (y : RegistryReply) : SplOf 1 y.c x.c ({ x with reply := y } : ClientLast).c := ⟨rfl⟩
instance (x : ClientLast) (y : Int) : SplOf 1 [.int .i64 y] x.c ({ x with reply := { x.reply with Err := y } } : ClientLast).c := ⟨rfl⟩
instance (x : ClientLast) (y : List UInt8) : SplOf 2 [S y] x.c ({ x with reply := { x.reply with Value := y } } : ClientLast).c := ⟨rfl⟩
instance (x : ClientLast) (y : Int) : SplOf 3 [.int .i64 y] x.c ({ x with reply := { x.reply with Version := y } } : ClientLast).c := ⟨rfl⟩
instance (x : ClientLast) (y : Go.Value) : SplOf 4 [y] x.c ({ x with reply := { x.reply with Keys := y } } : ClientLast).c := ⟨rfl⟩

def tbZ : List (Nat × List Value) := [(2, [.int .i64 0]), (3, [.int .i64 0]), (4, [.bool false]), (5, [.int .u8 0]), (6, [.int .u8 0]), (7, [.int .i64 0, .int .i64 0, .bool false, .int .u8 0]), (8, [.int .i64 0, .int .i64 0, .bool false, .int .u8 0]), (9, [S []]), (10, [S []]), (11, [S []]), (12, [.int .u64 0]), (13, [S [], .int .u64 0]), (14, [S [], .int .u64 0]), (15, [.pointer none]), (16, [.pointer none]), (17, [.pointer none]), (18, [.pointer none]), (19, [.pointer none]), (21, [.int .i32 0]), (22, [.slice none 0 0]), (25, [.pointer none]), (27, [.int .i64 0, S [], S [], .int .i64 0, .int .i64 0, .int .i64 0]), (28, TDeed.z.c), (29, [.int .i64 0]), (30, [.slice none 0 0]), (31, [.int .i64 0, S [], .int .i64 0, .slice none 0 0]), (32, RegistryReply.z.c), (34, [.int .u64 0]), (38, [.int .i64 0, S [], .int .i64 0, .slice none 0 0]), (39, Caucusref20Reply.z.c), (41, [.pointer none]), (42, [.slice none 0 0]), (43, [.slice none 0 0, .slice none 0 0, .slice none 0 0]), (44, Caucusref20Registry.z.c), (51, [S [], S [], .int .i64 0]), (52, RegistryPair.z.c), (59, [.pointer none]), (62, [.pointer none]), (63, [.slice none 0 0]), (64, [.slice none 0 0, .slice none 0 0, .slice none 0 0, .slice none 0 0, .slice none 0 0, .slice none 0 0, .int .i64 0]), (65, Caucusref21Machine.z.c), (70, [.map none]), (71, [.map none]), (72, [.map none]), (73, [.map none]), (74, RegistryRegistry.z.c), (80, [.pointer none]), (81, [.slice none 0 0]), (82, [.slice none 0 0]), (83, OctaveSink.z.c), (94, [.map none]), (95, [.pointer none, .map none, .int .i64 0]), (96, ClientMachine.z.c), (97, [.int .i64 0, .int .i64 0, S [], .int .i64 0, .slice none 0 0]), (98, ClientLast.z.c), (106, [.int .u64 0]), (117, [.int .i64 0]), (125, [.int .u32 0]), (132, [.int .u64 0]), (136, [.pointer none]), (140, [.pointer none]), (144, [.pointer none, .pointer none, .pointer none, S []]), (145, [.pointer none, .pointer none, .pointer none, S []]), (146, []), (147, []), (148, []), (149, [.int .u8 0]), (150, [.int .u8 0]), (152, [.pointer none]), (153, [.int .i32 0]), (154, [.int .i32 0]), (155, [.int .u64 0, .int .u64 0, .int .u32 0, .int .u8 0, .int .u8 0, .int .u8 0, .int .u8 0, .nilFunc, .pointer none, .int .i32 0, .int .i32 0]), (156, [.int .u64 0, .int .u64 0, .int .u32 0, .int .u8 0, .int .u8 0, .int .u8 0, .int .u8 0, .nilFunc, .pointer none, .int .i32 0, .int .i32 0])]
set_option maxRecDepth 100000 in
theorem tbZ_ok : ZerosOk Try.prog tbZ := ⟨by kernel_rfl, by kernel_rfl, by kernel_rfl, by kernel_rfl, by kernel_rfl, by kernel_rfl, by kernel_rfl, by kernel_rfl, by kernel_rfl, by kernel_rfl, by kernel_rfl, by kernel_rfl, by kernel_rfl, by kernel_rfl, by kernel_rfl, by kernel_rfl, by kernel_rfl, by kernel_rfl, by kernel_rfl, by kernel_rfl, by kernel_rfl, by kernel_rfl, by kernel_rfl, by kernel_rfl, by kernel_rfl, by kernel_rfl, by kernel_rfl, by kernel_rfl, by kernel_rfl, by kernel_rfl, by kernel_rfl, by kernel_rfl, by kernel_rfl, by kernel_rfl, by kernel_rfl, by kernel_rfl, by kernel_rfl, by kernel_rfl, by kernel_rfl, by kernel_rfl, by kernel_rfl, by kernel_rfl, by kernel_rfl, by kernel_rfl, by kernel_rfl, by kernel_rfl, by kernel_rfl, by kernel_rfl, by kernel_rfl, by kernel_rfl, by kernel_rfl, by kernel_rfl, by kernel_rfl, by kernel_rfl, by kernel_rfl, by kernel_rfl, by kernel_rfl, by kernel_rfl, by kernel_rfl, by kernel_rfl, by kernel_rfl, by kernel_rfl, by kernel_rfl, by kernel_rfl, by kernel_rfl, by kernel_rfl, by kernel_rfl, by kernel_rfl, by kernel_rfl, by kernel_rfl, by kernel_rfl, by kernel_rfl, by kernel_rfl, trivial⟩
def tb : Tabs Try.prog where
  fld := [(7, 0, 0), (7, 1, 1), (7, 2, 2), (7, 3, 3), (8, 0, 0), (8, 1, 1), (8, 2, 2), (8, 3, 3), (13, 0, 0), (13, 1, 1), (14, 0, 0), (14, 1, 1), (18, 0, 0), (19, 0, 0), (27, 0, 0), (27, 1, 1), (27, 2, 2), (27, 3, 3), (27, 4, 4), (27, 5, 5), (28, 0, 0), (28, 1, 1), (28, 2, 2), (28, 3, 3), (28, 4, 4), (28, 5, 5), (31, 0, 0), (31, 1, 1), (31, 2, 2), (31, 3, 3), (32, 0, 0), (32, 1, 1), (32, 2, 2), (32, 3, 3), (38, 0, 0), (38, 1, 1), (38, 2, 2), (38, 3, 3), (39, 0, 0), (39, 1, 1), (39, 2, 2), (39, 3, 3), (43, 0, 0), (43, 1, 1), (43, 2, 2), (44, 0, 0), (44, 1, 1), (44, 2, 2), (51, 0, 0), (51, 1, 1), (51, 2, 2), (52, 0, 0), (52, 1, 1), (52, 2, 2), (64, 0, 0), (64, 1, 3), (64, 2, 4), (64, 3, 5), (64, 4, 6), (65, 0, 0), (65, 1, 3), (65, 2, 4), (65, 3, 5), (65, 4, 6), (73, 0, 0), (74, 0, 0), (82, 0, 0), (83, 0, 0), (95, 0, 0), (95, 1, 1), (95, 2, 2), (96, 0, 0), (96, 1, 1), (96, 2, 2), (97, 0, 0), (97, 1, 1), (98, 0, 0), (98, 1, 1), (144, 0, 0), (144, 1, 1), (144, 2, 2), (144, 3, 3), (145, 0, 0), (145, 1, 1), (145, 2, 2), (145, 3, 3), (155, 0, 0), (155, 1, 1), (155, 2, 2), (155, 3, 3), (155, 4, 4), (155, 5, 5), (155, 6, 6), (155, 7, 7), (155, 8, 8), (155, 9, 9), (155, 10, 10), (156, 0, 0), (156, 1, 1), (156, 2, 2), (156, 3, 3), (156, 4, 4), (156, 5, 5), (156, 6, 6), (156, 7, 7), (156, 8, 8), (156, 9, 9), (156, 10, 10)]
  fk := [(7, 0, 1), (7, 1, 1), (7, 2, 1), (7, 3, 1), (8, 0, 1), (8, 1, 1), (8, 2, 1), (8, 3, 1), (13, 0, 1), (13, 1, 1), (14, 0, 1), (14, 1, 1), (18, 0, 1), (19, 0, 1), (27, 0, 1), (27, 1, 1), (27, 2, 1), (27, 3, 1), (27, 4, 1), (27, 5, 1), (28, 0, 1), (28, 1, 1), (28, 2, 1), (28, 3, 1), (28, 4, 1), (28, 5, 1), (31, 0, 1), (31, 1, 1), (31, 2, 1), (31, 3, 1), (32, 0, 1), (32, 1, 1), (32, 2, 1), (32, 3, 1), (38, 0, 1), (38, 1, 1), (38, 2, 1), (38, 3, 1), (39, 0, 1), (39, 1, 1), (39, 2, 1), (39, 3, 1), (43, 0, 1), (43, 1, 1), (43, 2, 1), (44, 0, 1), (44, 1, 1), (44, 2, 1), (51, 0, 1), (51, 1, 1), (51, 2, 1), (52, 0, 1), (52, 1, 1), (52, 2, 1), (64, 0, 3), (64, 1, 1), (64, 2, 1), (64, 3, 1), (64, 4, 1), (65, 0, 3), (65, 1, 1), (65, 2, 1), (65, 3, 1), (65, 4, 1), (73, 0, 1), (74, 0, 1), (82, 0, 1), (83, 0, 1), (95, 0, 1), (95, 1, 1), (95, 2, 1), (96, 0, 1), (96, 1, 1), (96, 2, 1), (97, 0, 1), (97, 1, 4), (98, 0, 1), (98, 1, 4), (144, 0, 1), (144, 1, 1), (144, 2, 1), (144, 3, 1), (145, 0, 1), (145, 1, 1), (145, 2, 1), (145, 3, 1), (155, 0, 1), (155, 1, 1), (155, 2, 1), (155, 3, 1), (155, 4, 1), (155, 5, 1), (155, 6, 1), (155, 8, 1), (155, 9, 1), (155, 10, 1), (156, 0, 1), (156, 1, 1), (156, 2, 1), (156, 3, 1), (156, 4, 1), (156, 5, 1), (156, 6, 1), (156, 8, 1), (156, 9, 1), (156, 10, 1)]
  slc := [(22, 28), (30, 9), (42, 3), (63, 39), (81, 5)]
  szs := [(2, 1), (3, 1), (4, 1), (5, 1), (6, 1), (7, 4), (8, 4), (9, 1), (10, 1), (11, 1), (12, 1), (13, 2), (14, 2), (15, 1), (16, 1), (17, 1), (18, 1), (19, 1), (21, 1), (22, 1), (25, 1), (27, 6), (28, 6), (29, 1), (30, 1), (31, 4), (32, 4), (34, 1), (38, 4), (39, 4), (41, 1), (42, 1), (43, 3), (44, 3), (51, 3), (52, 3), (59, 1), (62, 1), (63, 1), (64, 7), (65, 7), (70, 1), (71, 1), (72, 1), (73, 1), (74, 1), (80, 1), (81, 1), (82, 1), (83, 1), (94, 1), (95, 3), (96, 3), (97, 5), (98, 5), (106, 1), (117, 1), (125, 1), (132, 1), (136, 1), (140, 1), (144, 4), (145, 4), (146, 0), (147, 0), (148, 0), (149, 1), (150, 1), (152, 1), (153, 1), (154, 1), (155, 11), (156, 11)]
  agg := [(7, 4), (8, 4), (13, 2), (14, 2), (18, 1), (19, 1), (27, 6), (28, 6), (31, 4), (32, 4), (38, 4), (39, 4), (43, 3), (44, 3), (51, 3), (52, 3), (64, 7), (65, 7), (73, 1), (74, 1), (82, 1), (83, 1), (95, 3), (96, 3), (97, 5), (98, 5), (144, 4), (145, 4), (146, 0), (147, 0), (148, 0), (155, 11), (156, 11)]
  one := [(2, 1), (3, 1), (4, 1), (5, 1), (6, 1), (9, 1), (10, 1), (11, 1), (12, 1), (15, 1), (16, 1), (17, 1), (21, 1), (22, 1), (25, 1), (29, 1), (30, 1), (34, 1), (41, 1), (42, 1), (59, 1), (62, 1), (63, 1), (70, 1), (71, 1), (72, 1), (80, 1), (81, 1), (94, 1), (106, 1), (117, 1), (125, 1), (132, 1), (136, 1), (140, 1), (149, 1), (150, 1), (152, 1), (153, 1), (154, 1)]
  zeros := tbZ
  ints := [(2, .i64), (3, .i64), (5, .u8), (6, .u8), (12, .u64), (21, .i32), (29, .i64), (34, .u64), (106, .u64), (117, .i64), (125, .u32), (132, .u64), (149, .u8), (150, .u8), (153, .i32), (154, .i32)]
  strs := [(9, 0), (10, 0), (11, 0)]
  bools := [(4, 0)]
  byt := [(2, 8), (3, 8), (4, 1), (5, 1), (6, 1), (7, 24), (8, 24), (9, 16), (10, 16), (11, 16), (12, 8), (13, 24), (14, 24), (15, 8), (16, 8), (17, 8), (18, 8), (19, 8), (21, 4), (22, 24), (25, 8), (27, 64), (28, 64), (29, 8), (30, 24), (31, 56), (32, 56), (34, 8), (38, 56), (39, 56), (41, 8), (42, 24), (43, 72), (44, 72), (51, 40), (52, 40), (59, 8), (62, 8), (63, 24), (64, 152), (65, 152), (70, 8), (71, 8), (72, 8), (73, 8), (74, 8), (80, 8), (81, 24), (82, 24), (83, 24), (94, 8), (95, 24), (96, 24), (97, 64), (98, 64), (106, 8), (117, 8), (125, 4), (132, 8), (136, 8), (140, 8), (144, 40), (145, 40), (146, 0), (147, 0), (148, 0), (149, 1), (150, 1), (152, 8), (153, 4), (154, 4), (155, 48), (156, 48)]
  arr := [(146, 0, 16)]
  fld_ok := by kernel_rfl
  fk_ok := by kernel_rfl
  slc_ok := by kernel_rfl
  szs_ok := by kernel_rfl
  agg_ok := by kernel_rfl
  one_ok := by kernel_rfl
  ints_ok := by kernel_rfl
  strs_ok := by kernel_rfl
  bools_ok := by kernel_rfl
  byt_ok := by kernel_rfl
  arr_ok := by kernel_rfl
  zeros_ok := tbZ_ok

theorem TDeed.eqT (x y : TDeed) (d : Nat) : EqT Try.prog (d + 2) 28 (A x.c) (A y.c) (decide (x = y)) := by
  have h := EqT.struct (P := Try.prog) (d := d + 1) (T := 28) (xs := x.c) (ys := y.c) (l := [(3, 0), (9, 1), (9, 2), (3, 3), (3, 4), (3, 5)]) (by kernel_rfl) ⟨_, _, _, _, .one (tb.oneAt (T := 3) rfl) rfl, .one (tb.oneAt (T := 3) rfl) rfl, (EqT.int (tb.intAt (T := 3) rfl)), ⟨_, _, _, _, .one (tb.oneAt (T := 9) rfl) rfl, .one (tb.oneAt (T := 9) rfl) rfl, (EqT.str (tb.strAt (T := 9) rfl)), ⟨_, _, _, _, .one (tb.oneAt (T := 9) rfl) rfl, .one (tb.oneAt (T := 9) rfl) rfl, (EqT.str (tb.strAt (T := 9) rfl)), ⟨_, _, _, _, .one (tb.oneAt (T := 3) rfl) rfl, .one (tb.oneAt (T := 3) rfl) rfl, (EqT.int (tb.intAt (T := 3) rfl)), ⟨_, _, _, _, .one (tb.oneAt (T := 3) rfl) rfl, .one (tb.oneAt (T := 3) rfl) rfl, (EqT.int (tb.intAt (T := 3) rfl)), ⟨_, _, _, _, .one (tb.oneAt (T := 3) rfl) rfl, .one (tb.oneAt (T := 3) rfl) rfl, (EqT.int (tb.intAt (T := 3) rfl)), rfl, rfl⟩, rfl⟩, rfl⟩, rfl⟩, rfl⟩, rfl⟩
  refine Eq.mp (congrArg (EqT Try.prog (d + 2) 28 (A x.c) (A y.c)) ?_) h
  rw [Bool.eq_iff_iff]; cases x; cases y; simp [TDeed.mk.injEq]
theorem RegistryPair.eqT (x y : RegistryPair) (d : Nat) : EqT Try.prog (d + 2) 52 (A x.c) (A y.c) (decide (x = y)) := by
  have h := EqT.struct (P := Try.prog) (d := d + 1) (T := 52) (xs := x.c) (ys := y.c) (l := [(9, 0), (9, 1), (3, 2)]) (by kernel_rfl) ⟨_, _, _, _, .one (tb.oneAt (T := 9) rfl) rfl, .one (tb.oneAt (T := 9) rfl) rfl, (EqT.str (tb.strAt (T := 9) rfl)), ⟨_, _, _, _, .one (tb.oneAt (T := 9) rfl) rfl, .one (tb.oneAt (T := 9) rfl) rfl, (EqT.str (tb.strAt (T := 9) rfl)), ⟨_, _, _, _, .one (tb.oneAt (T := 3) rfl) rfl, .one (tb.oneAt (T := 3) rfl) rfl, (EqT.int (tb.intAt (T := 3) rfl)), rfl, rfl⟩, rfl⟩, rfl⟩
  refine Eq.mp (congrArg (EqT Try.prog (d + 2) 52 (A x.c) (A y.c)) ?_) h
  rw [Bool.eq_iff_iff]; cases x; cases y; simp [RegistryPair.mk.injEq]
def TDeed.wf (x : TDeed) : Prop := In .i64 x.Kind ∧ x.Key.length ≤ 140737488351232 ∧ x.Value.length ≤ 140737488351232 ∧ In .i64 x.Version ∧ In .i64 x.Session ∧ In .i64 x.Number
theorem TDeed.leaves : leaves Try.prog 40 28 = some [.i .i64, .s, .s, .i .i64, .i .i64, .i .i64] := by kernel_rfl
theorem TDeed.fit {cs : List Go.Value} (h0 : Fits [.i .i64, .s, .s, .i .i64, .i .i64, .i .i64] cs) : ∃ x : TDeed, cs = x.c ∧ x.wf := by
  obtain ⟨_, _, rfl, ⟨n0, rfl, w0⟩, h1⟩ := Fits.cons h0
  obtain ⟨_, _, rfl, ⟨n1, rfl, w1⟩, h2⟩ := Fits.cons h1
  obtain ⟨_, _, rfl, ⟨n2, rfl, w2⟩, h3⟩ := Fits.cons h2
  obtain ⟨_, _, rfl, ⟨n3, rfl, w3⟩, h4⟩ := Fits.cons h3
  obtain ⟨_, _, rfl, ⟨n4, rfl, w4⟩, h5⟩ := Fits.cons h4
  obtain ⟨_, _, rfl, ⟨n5, rfl, w5⟩, h6⟩ := Fits.cons h5
  obtain rfl := Fits.nil h6
  exact ⟨⟨n0, n1, n2, n3, n4, n5⟩, rfl, ⟨w0, w1, w2, w3, w4, w5⟩⟩
def RegistryPair.wf (x : RegistryPair) : Prop := x.Key.length ≤ 140737488351232 ∧ x.Value.length ≤ 140737488351232 ∧ In .i64 x.Version
theorem RegistryPair.leaves : leaves Try.prog 40 52 = some [.s, .s, .i .i64] := by kernel_rfl
theorem RegistryPair.fit {cs : List Go.Value} (h0 : Fits [.s, .s, .i .i64] cs) : ∃ x : RegistryPair, cs = x.c ∧ x.wf := by
  obtain ⟨_, _, rfl, ⟨n0, rfl, w0⟩, h1⟩ := Fits.cons h0
  obtain ⟨_, _, rfl, ⟨n1, rfl, w1⟩, h2⟩ := Fits.cons h1
  obtain ⟨_, _, rfl, ⟨n2, rfl, w2⟩, h3⟩ := Fits.cons h2
  obtain rfl := Fits.nil h3
  exact ⟨⟨n0, n1, n2⟩, rfl, ⟨w0, w1, w2⟩⟩
theorem laid : laidOutB Try.prog = true := by kernel_rfl
theorem own : ownKnob Try.prog.godebug = none := by kernel_rfl
theorem mixed : Try.prog.follows .mixedOrders = true := by kernel_rfl

end Go.Proofs.Ytgihkocnmgkihaa
