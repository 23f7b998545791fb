/-
 Part of the proof.
-/
import Derived.Test.YteogojgnkjegmaaGreatDoorAb
import Derived.Test.YteogojgnkjegmaaGreatDoorRows
set_option linter.all false
set_option maxRecDepth 8000
set_option maxHeartbeats 8000000
namespace Go.Proofs.YteogojgnkjegmaaGreatDoor
open Go.ay Go.Proofs.Tryz
structure bN where
 Kind:Int
 Key:ab aS
 Value:ab aS
 Version:Int
 cP:Int
 Number:Int
 deriving DecidableEq
def bN.c(x:bN):ab aj:=[.int .i64 x.Kind,S x.Key,S x.Value,.int .i64 x.Version,.int .i64 x.cP,.int .i64 x.Number]
def bN.z:bN:=⟨0,[],[],0,0,0⟩
instance(x:bN):eZ 0 6 x.c x.c:=⟨rfl⟩
instance(x y:bN):bA 0 x.c y.c x.c:=⟨rfl⟩
instance(x:bN)(y:Int):bA 0 [.int .i64 y] x.c ({x with Kind:=y}:bN).c:=⟨rfl⟩
instance(x:bN)(y:ab aS):bA 1 [S y] x.c ({x with Key:=y}:bN).c:=⟨rfl⟩
instance(x:bN)(y:ab aS):bA 2 [S y] x.c ({x with Value:=y}:bN).c:=⟨rfl⟩
instance(x:bN)(y:Int):bA 3 [.int .i64 y] x.c ({x with Version:=y}:bN).c:=⟨rfl⟩
instance(x:bN)(y:Int):bA 4 [.int .i64 y] x.c ({x with cP:=y}:bN).c:=⟨rfl⟩
instance(x:bN)(y:Int):bA 5 [.int .i64 y] x.c ({x with Number:=y}:bN).c:=⟨rfl⟩
structure fS where
 Kind:Int
 a1:Int
 cv:bN
 N:Int
 kH:Int
 ss:Int
 deriving DecidableEq
def fS.c(x:fS):ab aj:=[.int .i64 x.Kind,.int .i64 x.a1]++(x.cv.c++([.int .i64 x.N,.int .i64 x.kH,.int .u8 x.ss]))
def fS.z:fS:=⟨0,0,bN.z,0,0,0⟩
instance(x:fS):eZ 0 11 x.c x.c:=⟨rfl⟩
instance(x y:fS):bA 0 x.c y.c x.c:=⟨rfl⟩
instance(x:fS):eZ 2 6 x.c x.cv.c:=⟨rfl⟩
structure lf where
 vb:aj
 n:Int
 my:aj
 when:aj
 at_:Int
def lf.c(x:lf):ab aj:=[x.vb,.int .i64 x.n,x.my,x.when,.int .i64 x.at_]
def lf.z:lf:=⟨.pointer none,0,.map none,.map none,0⟩
instance(x:lf)(y:aj):bA 0 [y] x.c ({x with vb:=y}:lf).c:=⟨rfl⟩
instance(x:lf)(y:Int):bA 1 [.int .i64 y] x.c ({x with n:=y}:lf).c:=⟨rfl⟩
instance(x:lf)(y:aj):bA 2 [y] x.c ({x with my:=y}:lf).c:=⟨rfl⟩
instance(x:lf)(y:aj):bA 3 [y] x.c ({x with when:=y}:lf).c:=⟨rfl⟩
instance(x:lf)(y:Int):bA 4 [.int .i64 y] x.c ({x with at_:=y}:lf).c:=⟨rfl⟩
structure ag where
 a1:Int
 bT:Int
 deriving DecidableEq
def ag.c(x:ag):ab aj:=[.int .i64 x.a1,.int .i64 x.bT]
def ag.z:ag:=⟨0,0⟩
def ag.F':jj ag.c:=λ_=>rfl
def ag.len(x:ag):x.c.length=2:=rfl
instance(x:ag):eZ 0 2 x.c x.c:=⟨rfl⟩
instance(x y:ag):bA 0 x.c y.c x.c:=⟨rfl⟩
instance(x:ag)(y:Int):bA 0 [.int .i64 y] x.c ({x with a1:=y}:ag).c:=⟨rfl⟩
instance(x:ag)(y:Int):bA 1 [.int .i64 y] x.c ({x with bT:=y}:ag).c:=⟨rfl⟩
structure bm where
 Round:Int
 a1:Int
 deriving DecidableEq
def bm.c(x:bm):ab aj:=[.int .i64 x.Round,.int .i64 x.a1]
def bm.z:bm:=⟨0,0⟩
instance:Inhabited bm:=⟨bm.z⟩
def bm.len(x:bm):x.c.length=2:=rfl
instance(x:bm):eZ 0 2 x.c x.c:=⟨rfl⟩
instance(x y:bm):bA 0 x.c y.c x.c:=⟨rfl⟩
instance(x:bm)(y:Int):bA 0 [.int .i64 y] x.c ({x with Round:=y}:bm).c:=⟨rfl⟩
instance(x:bm)(y:Int):bA 1 [.int .i64 y] x.c ({x with a1:=y}:bm).c:=⟨rfl⟩
structure bX where
 gC:Int
 dx:Int
 bv:Int
 gm:Int
 om:Int
 nB:Int
 pE:Int
 deriving DecidableEq
def bX.c(x:bX):ab aj:=[.int .i64 x.gC,.int .i64 x.dx,.int .i64 x.bv,.int .i64 x.gm,.int .i64 x.om,.int .i64 x.nB,.int .i64 x.pE]
def bX.z:bX:=⟨0,0,0,0,0,0,0⟩
def bX.len(x:bX):x.c.length=7:=rfl
instance(x:bX):eZ 0 7 x.c x.c:=⟨rfl⟩
instance(x y:bX):bA 0 x.c y.c x.c:=⟨rfl⟩
structure aN where
 cv:bN
 eG:bX
 Seq:Int
 deriving DecidableEq
def aN.c(x:aN):ab aj:=x.cv.c++(x.eG.c++([.int .i64 x.Seq]))
def aN.z:aN:=⟨bN.z,bX.z,0⟩
instance:Inhabited aN:=⟨aN.z⟩
def aN.F':jj aN.c:=λ_=>rfl
def aN.len(x:aN):x.c.length=14:=rfl
instance(x:aN):eZ 0 14 x.c x.c:=⟨rfl⟩
instance(x y:aN):bA 0 x.c y.c x.c:=⟨rfl⟩
instance(x:aN):eZ 0 6 x.c x.cv.c:=⟨rfl⟩
instance(x:aN)(y:bN):bA 0 y.c x.c ({x with cv:=y}:aN).c:=⟨rfl⟩
instance(x:aN):eZ 6 7 x.c x.eG.c:=⟨rfl⟩
instance(x:aN)(y:bX):bA 6 y.c x.c ({x with eG:=y}:aN).c:=⟨rfl⟩
instance(x:aN)(y:Int):bA 13 [.int .i64 y] x.c ({x with Seq:=y}:aN).c:=⟨rfl⟩
structure aX where
 bO:bm
 b0:bm
 Status:Int
 Call:aN
 cL:Bool
 deriving DecidableEq
def aX.c(x:aX):ab aj:=x.bO.c++(x.b0.c++([.int .i64 x.Status]++(x.Call.c++([.bool x.cL]))))
def aX.z:aX:=⟨bm.z,bm.z,0,aN.z,false⟩
instance:Inhabited aX:=⟨aX.z⟩
def aX.F':jj aX.c:=λ_=>rfl
def aX.len(x:aX):x.c.length=20:=rfl
instance(x:aX):eZ 0 20 x.c x.c:=⟨rfl⟩
instance(x y:aX):bA 0 x.c y.c x.c:=⟨rfl⟩
instance(x:aX):eZ 0 2 x.c x.bO.c:=⟨rfl⟩
instance(x:aX)(y:bm):bA 0 y.c x.c ({x with bO:=y}:aX).c:=⟨rfl⟩
instance(x:aX):eZ 2 2 x.c x.b0.c:=⟨rfl⟩
instance(x:aX)(y:bm):bA 2 y.c x.c ({x with b0:=y}:aX).c:=⟨rfl⟩
instance(x:aX)(y:Int):bA 4 [.int .i64 y] x.c ({x with Status:=y}:aX).c:=⟨rfl⟩
instance(x:aX):eZ 5 14 x.c x.Call.c:=⟨rfl⟩
instance(x:aX)(y:aN):bA 5 y.c x.c ({x with Call:=y}:aX).c:=⟨rfl⟩
instance(x:aX):eZ 5 6 x.c x.Call.cv.c:=⟨rfl⟩
instance(x:aX)(y:Bool):bA 19 [.bool y] x.c ({x with cL:=y}:aX).c:=⟨rfl⟩
structure hL where
 A8:Int
 Value:ab aS
 Version:Int
 Keys:aj
def hL.c(x:hL):ab aj:=[.int .i64 x.A8,S x.Value,.int .i64 x.Version,x.Keys]
def hL.z:hL:=⟨0,[],0,.slice none 0 0⟩
instance(x:hL):eZ 0 4 x.c x.c:=⟨rfl⟩
instance(x y:hL):bA 0 x.c y.c x.c:=⟨rfl⟩
instance(x:hL)(y:Int):bA 0 [.int .i64 y] x.c ({x with A8:=y}:hL).c:=⟨rfl⟩
instance(x:hL)(y:ab aS):bA 1 [S y] x.c ({x with Value:=y}:hL).c:=⟨rfl⟩
instance(x:hL)(y:Int):bA 2 [.int .i64 y] x.c ({x with Version:=y}:hL).c:=⟨rfl⟩
instance(x:hL)(y:aj):bA 3 [y] x.c ({x with Keys:=y}:hL).c:=⟨rfl⟩
structure o9 where
 Item:ag
 ER:hL
def o9.c(x:o9):ab aj:=x.Item.c++(x.ER.c)
def o9.z:o9:=⟨ag.z,hL.z⟩
instance(x:o9)(y:ag):bA 0 y.c x.c ({x with Item:=y}:o9).c:=⟨rfl⟩
instance(x:o9)(y:hL):bA 2 y.c x.c ({x with ER:=y}:o9).c:=⟨rfl⟩
structure vc where
 Told:o9
 a1:Int
 Kw:Int
def vc.c(x:vc):ab aj:=x.Told.c++([.int .i64 x.a1,.int .i64 x.Kw])
def vc.z:vc:=⟨o9.z,0,0⟩
structure kK where
 n:Int
 ES:aj
 aH:aj
 bo:aj
 now:Int
 told:aj
def kK.c(x:kK):ab aj:=[.int .i64 x.n,x.ES,x.aH,x.bo,.int .i64 x.now,x.told]
def kK.z:kK:=⟨0,.slice none 0 0,.slice none 0 0,.pointer none,0,.slice none 0 0⟩
instance(x:kK)(y:Int):bA 0 [.int .i64 y] x.c ({x with n:=y}:kK).c:=⟨rfl⟩
instance(x:kK)(y:aj):bA 1 [y] x.c ({x with ES:=y}:kK).c:=⟨rfl⟩
instance(x:kK)(y:aj):bA 2 [y] x.c ({x with aH:=y}:kK).c:=⟨rfl⟩
instance(x:kK)(y:aj):bA 3 [y] x.c ({x with bo:=y}:kK).c:=⟨rfl⟩
instance(x:kK)(y:Int):bA 4 [.int .i64 y] x.c ({x with now:=y}:kK).c:=⟨rfl⟩
instance(x:kK)(y:aj):bA 5 [y] x.c ({x with told:=y}:kK).c:=⟨rfl⟩
structure gp where
 n:Int
 self:Int
 now:Int
 space:aj
 leads:aj
 ET:aj
 EU:aj
 run:aj
 machine:aj
 dX:aj
 high:aj
 inbox:aj
 out:aj
 told:aj
def gp.c(x:gp):ab aj:=[.int .i64 x.n,.int .i64 x.self,.int .i64 x.now,x.space,x.leads,x.ET,x.EU,x.run,x.machine,x.dX,x.high,x.inbox,x.out,x.told]
def gp.z:gp:=⟨0,0,0,.pointer none,.map none,.map none,.pointer none,.pointer none,.pointer none,.map none,.map none,.slice none 0 0,.slice none 0 0,.slice none 0 0⟩
instance(x:gp)(y:Int):bA 0 [.int .i64 y] x.c ({x with n:=y}:gp).c:=⟨rfl⟩
instance(x:gp)(y:Int):bA 1 [.int .i64 y] x.c ({x with self:=y}:gp).c:=⟨rfl⟩
instance(x:gp)(y:Int):bA 2 [.int .i64 y] x.c ({x with now:=y}:gp).c:=⟨rfl⟩
instance(x:gp)(y:aj):bA 3 [y] x.c ({x with space:=y}:gp).c:=⟨rfl⟩
instance(x:gp)(y:aj):bA 4 [y] x.c ({x with leads:=y}:gp).c:=⟨rfl⟩
instance(x:gp)(y:aj):bA 5 [y] x.c ({x with ET:=y}:gp).c:=⟨rfl⟩
instance(x:gp)(y:aj):bA 6 [y] x.c ({x with EU:=y}:gp).c:=⟨rfl⟩
instance(x:gp)(y:aj):bA 7 [y] x.c ({x with run:=y}:gp).c:=⟨rfl⟩
instance(x:gp)(y:aj):bA 8 [y] x.c ({x with machine:=y}:gp).c:=⟨rfl⟩
instance(x:gp)(y:aj):bA 9 [y] x.c ({x with dX:=y}:gp).c:=⟨rfl⟩
instance(x:gp)(y:aj):bA 10 [y] x.c ({x with high:=y}:gp).c:=⟨rfl⟩
instance(x:gp)(y:aj):bA 11 [y] x.c ({x with inbox:=y}:gp).c:=⟨rfl⟩
instance(x:gp)(y:aj):bA 12 [y] x.c ({x with out:=y}:gp).c:=⟨rfl⟩
instance(x:gp)(y:aj):bA 13 [y] x.c ({x with told:=y}:gp).c:=⟨rfl⟩
structure jG where
 log:aj
 keys:aj
 lists:aj
 wT:aj
def jG.c(x:jG):ab aj:=[x.log,x.keys,x.lists,x.wT]
def jG.z:jG:=⟨.pointer none,.map none,.slice none 0 0,.map none⟩
instance(x:jG)(y:aj):bA 0 [y] x.c ({x with log:=y}:jG).c:=⟨rfl⟩
instance(x:jG)(y:aj):bA 1 [y] x.c ({x with keys:=y}:jG).c:=⟨rfl⟩
instance(x:jG)(y:aj):bA 2 [y] x.c ({x with lists:=y}:jG).c:=⟨rfl⟩
instance(x:jG)(y:aj):bA 3 [y] x.c ({x with wT:=y}:jG).c:=⟨rfl⟩
structure lY where
 EV:aj
 n:Int
 rows:aj
def lY.c(x:lY):ab aj:=[x.EV,.int .i64 x.n,x.rows]
def lY.z:lY:=⟨.pointer none,0,.pointer none⟩
instance(x:lY)(y:aj):bA 0 [y] x.c ({x with EV:=y}:lY).c:=⟨rfl⟩
instance(x:lY)(y:Int):bA 1 [.int .i64 y] x.c ({x with n:=y}:lY).c:=⟨rfl⟩
instance(x:lY)(y:aj):bA 2 [y] x.c ({x with rows:=y}:lY).c:=⟨rfl⟩
structure b8 where
 bh:Int
 bK:Int
 Bytes:ab aS
 deriving DecidableEq
def b8.c(x:b8):ab aj:=[.int .i64 x.bh,.int .i64 x.bK,S x.Bytes]
def b8.z:b8:=⟨0,0,[]⟩
instance:Inhabited b8:=⟨b8.z⟩
def b8.F':jj b8.c:=λ_=>rfl
def b8.len(x:b8):x.c.length=3:=rfl
instance(x:b8):eZ 0 3 x.c x.c:=⟨rfl⟩
instance(x y:b8):bA 0 x.c y.c x.c:=⟨rfl⟩
instance(x:b8)(y:Int):bA 0 [.int .i64 y] x.c ({x with bh:=y}:b8).c:=⟨rfl⟩
instance(x:b8)(y:Int):bA 1 [.int .i64 y] x.c ({x with bK:=y}:b8).c:=⟨rfl⟩
instance(x:b8)(y:ab aS):bA 2 [S y] x.c ({x with Bytes:=y}:b8).c:=⟨rfl⟩
structure lA where
 data:aj
 safe:Int
def lA.c(x:lA):ab aj:=[x.data,.int .i64 x.safe]
def lA.z:lA:=⟨.slice none 0 0,0⟩
instance(x:lA)(y:aj):bA 0 [y] x.c ({x with data:=y}:lA).c:=⟨rfl⟩
instance(x:lA)(y:Int):bA 1 [.int .i64 y] x.c ({x with safe:=y}:lA).c:=⟨rfl⟩
structure aD where
 Kind:Int
 bh:Int
 bK:Int
 Item:ag
 bB:bm
 b0:bm
 Status:Int
 cL:Bool
 Call:aN
 deriving DecidableEq
def aD.c(x:aD):ab aj:=[.int .i64 x.Kind,.int .i64 x.bh,.int .i64 x.bK]++(x.Item.c++(x.bB.c++(x.b0.c++([.int .i64 x.Status,.bool x.cL]++(x.Call.c)))))
def aD.z:aD:=⟨0,0,0,ag.z,bm.z,bm.z,0,false,aN.z⟩
def aD.F':jj aD.c:=λ_=>rfl
def aD.len(x:aD):x.c.length=25:=rfl
instance(x:aD):eZ 0 25 x.c x.c:=⟨rfl⟩
instance(x y:aD):bA 0 x.c y.c x.c:=⟨rfl⟩
instance(x:aD)(y:Int):bA 0 [.int .i64 y] x.c ({x with Kind:=y}:aD).c:=⟨rfl⟩
instance(x:aD)(y:Int):bA 1 [.int .i64 y] x.c ({x with bh:=y}:aD).c:=⟨rfl⟩
instance(x:aD)(y:Int):bA 2 [.int .i64 y] x.c ({x with bK:=y}:aD).c:=⟨rfl⟩
instance(x:aD):eZ 3 2 x.c x.Item.c:=⟨rfl⟩
instance(x:aD)(y:ag):bA 3 y.c x.c ({x with Item:=y}:aD).c:=⟨rfl⟩
instance(x:aD):eZ 5 2 x.c x.bB.c:=⟨rfl⟩
instance(x:aD)(y:bm):bA 5 y.c x.c ({x with bB:=y}:aD).c:=⟨rfl⟩
instance(x:aD):eZ 7 2 x.c x.b0.c:=⟨rfl⟩
instance(x:aD)(y:bm):bA 7 y.c x.c ({x with b0:=y}:aD).c:=⟨rfl⟩
instance(x:aD)(y:Int):bA 9 [.int .i64 y] x.c ({x with Status:=y}:aD).c:=⟨rfl⟩
instance(x:aD)(y:Bool):bA 10 [.bool y] x.c ({x with cL:=y}:aD).c:=⟨rfl⟩
instance(x:aD):eZ 11 14 x.c x.Call.c:=⟨rfl⟩
instance(x:aD)(y:aN):bA 11 y.c x.c ({x with Call:=y}:aD).c:=⟨rfl⟩
instance(x:aD):eZ 11 6 x.c x.Call.cv.c:=⟨rfl⟩
structure mz where
 n:Int
 self:Int
 due:aj
 tries:aj
def mz.c(x:mz):ab aj:=[.int .i64 x.n,.int .i64 x.self,x.due,x.tries]
def mz.z:mz:=⟨0,0,.pointer none,.map none⟩
instance(x:mz)(y:Int):bA 0 [.int .i64 y] x.c ({x with n:=y}:mz).c:=⟨rfl⟩
instance(x:mz)(y:Int):bA 1 [.int .i64 y] x.c ({x with self:=y}:mz).c:=⟨rfl⟩
instance(x:mz)(y:aj):bA 2 [y] x.c ({x with due:=y}:mz).c:=⟨rfl⟩
instance(x:mz)(y:aj):bA 3 [y] x.c ({x with tries:=y}:mz).c:=⟨rfl⟩
structure pa where
 graph:aj
 done:aj
 open_:aj
def pa.c(x:pa):ab aj:=[x.graph,x.done,x.open_]
def pa.z:pa:=⟨.pointer none,.slice none 0 0,.slice none 0 0⟩
instance(x:pa)(y:aj):bA 0 [y] x.c ({x with graph:=y}:pa).c:=⟨rfl⟩
instance(x:pa)(y:aj):bA 1 [y] x.c ({x with done:=y}:pa).c:=⟨rfl⟩
instance(x:pa)(y:aj):bA 2 [y] x.c ({x with open_:=y}:pa).c:=⟨rfl⟩
structure mA where
 EW:aj
 wT:aj
 count:Int
def mA.c(x:mA):ab aj:=[x.EW,x.wT,.int .i64 x.count]
def mA.z:mA:=⟨.pointer none,.map none,0⟩
instance(x:mA)(y:aj):bA 0 [y] x.c ({x with EW:=y}:mA).c:=⟨rfl⟩
instance(x:mA)(y:aj):bA 1 [y] x.c ({x with wT:=y}:mA).c:=⟨rfl⟩
instance(x:mA)(y:Int):bA 2 [.int .i64 y] x.c ({x with count:=y}:mA).c:=⟨rfl⟩
structure gd where
 out:aj
def gd.c(x:gd):ab aj:=[x.out]
def gd.z:gd:=⟨.slice none 0 0⟩
instance(x:gd)(y:aj):bA 0 [y] x.c ({x with out:=y}:gd).c:=⟨rfl⟩
structure kL where
 list:aj
 jh:Int
def kL.c(x:kL):ab aj:=[x.list,.int .i64 x.jh]
def kL.z:kL:=⟨.slice none 0 0,0⟩
instance(x:kL)(y:aj):bA 0 [y] x.c ({x with list:=y}:kL).c:=⟨rfl⟩
instance(x:kL)(y:Int):bA 1 [.int .i64 y] x.c ({x with jh:=y}:kL).c:=⟨rfl⟩
structure pF where
 calls:aj
 done:aj
def pF.c(x:pF):ab aj:=[x.calls,x.done]
def pF.z:pF:=⟨.pointer none,.pointer none⟩
instance(x:pF)(y:aj):bA 0 [y] x.c ({x with calls:=y}:pF).c:=⟨rfl⟩
instance(x:pF)(y:aj):bA 1 [y] x.c ({x with done:=y}:pF).c:=⟨rfl⟩
structure lZ where
 EX:aj
def lZ.c(x:lZ):ab aj:=[x.EX]
def lZ.z:lZ:=⟨.map none⟩
instance(x:lZ)(y:aj):bA 0 [y] x.c ({x with EX:=y}:lZ).c:=⟨rfl⟩
structure br where
 key:ag
 due:Int
 jh:Int
 deriving DecidableEq
def br.c(x:br):ab aj:=x.key.c++([.int .i64 x.due,.int .i64 x.jh])
def br.z:br:=⟨ag.z,0,0⟩
def br.F':jj br.c:=λ_=>rfl
def br.len(x:br):x.c.length=4:=rfl
instance(x:br):eZ 0 4 x.c x.c:=⟨rfl⟩
instance(x y:br):bA 0 x.c y.c x.c:=⟨rfl⟩
instance(x:br):eZ 0 2 x.c x.key.c:=⟨rfl⟩
instance(x:br)(y:ag):bA 0 y.c x.c ({x with key:=y}:br).c:=⟨rfl⟩
instance(x:br)(y:Int):bA 2 [.int .i64 y] x.c ({x with due:=y}:br).c:=⟨rfl⟩
instance(x:br)(y:Int):bA 3 [.int .i64 y] x.c ({x with jh:=y}:br).c:=⟨rfl⟩
structure mB where
 number:Int
 A9:hL
def mB.c(x:mB):ab aj:=[.int .i64 x.number]++(x.A9.c)
def mB.z:mB:=⟨0,hL.z⟩
instance(x:mB):eZ 0 5 x.c x.c:=⟨rfl⟩
instance(x y:mB):bA 0 x.c y.c x.c:=⟨rfl⟩
instance(x:mB)(y:Int):bA 0 [.int .i64 y] x.c ({x with number:=y}:mB).c:=⟨rfl⟩
instance(x:mB):eZ 1 4 x.c x.A9.c:=⟨rfl⟩
instance(x:mB)(y:hL):bA 1 y.c x.c ({x with A9:=y}:mB).c:=⟨rfl⟩
structure wU where
 call:Bool
 known:Bool
 deriving DecidableEq
def wU.c(x:wU):ab aj:=[.bool x.call,.bool x.known]
def wU.z:wU:=⟨false,false⟩
structure eU where
 kj:ab aS
 ou:Bool
 deriving DecidableEq
def eU.c(x:eU):ab aj:=[S x.kj,.bool x.ou]
def eU.z:eU:=⟨[],false⟩
instance(x:eU)(y:ab aS):bA 0 [S y] x.c ({x with kj:=y}:eU).c:=⟨rfl⟩
instance(x:eU)(y:Bool):bA 1 [.bool y] x.c ({x with ou:=y}:eU).c:=⟨rfl⟩
structure jn where
 graph:aj
 index:aj
 low:aj
 on:aj
 stack:aj
 fK:aj
 parts:aj
 missing:aj
def jn.c(x:jn):ab aj:=[x.graph,x.index,x.low,x.on,x.stack,x.fK,x.parts,x.missing]
def jn.z:jn:=⟨.pointer none,.map none,.map none,.map none,.slice none 0 0,.slice none 0 0,.slice none 0 0,.slice none 0 0⟩
instance(x:jn)(y:aj):bA 0 [y] x.c ({x with graph:=y}:jn).c:=⟨rfl⟩
instance(x:jn)(y:aj):bA 1 [y] x.c ({x with index:=y}:jn).c:=⟨rfl⟩
instance(x:jn)(y:aj):bA 2 [y] x.c ({x with low:=y}:jn).c:=⟨rfl⟩
instance(x:jn)(y:aj):bA 3 [y] x.c ({x with on:=y}:jn).c:=⟨rfl⟩
instance(x:jn)(y:aj):bA 4 [y] x.c ({x with stack:=y}:jn).c:=⟨rfl⟩
instance(x:jn)(y:aj):bA 5 [y] x.c ({x with fK:=y}:jn).c:=⟨rfl⟩
instance(x:jn)(y:aj):bA 6 [y] x.c ({x with parts:=y}:jn).c:=⟨rfl⟩
instance(x:jn)(y:aj):bA 7 [y] x.c ({x with missing:=y}:jn).c:=⟨rfl⟩
structure eV where
 Key:ab aS
 Value:ab aS
 Version:Int
 deriving DecidableEq
def eV.c(x:eV):ab aj:=[S x.Key,S x.Value,.int .i64 x.Version]
def eV.z:eV:=⟨[],[],0⟩
instance(x:eV):eZ 0 3 x.c x.c:=⟨rfl⟩
instance(x y:eV):bA 0 x.c y.c x.c:=⟨rfl⟩
instance(x:eV)(y:ab aS):bA 0 [S y] x.c ({x with Key:=y}:eV).c:=⟨rfl⟩
instance(x:eV)(y:ab aS):bA 1 [S y] x.c ({x with Value:=y}:eV).c:=⟨rfl⟩
instance(x:eV)(y:Int):bA 2 [.int .i64 y] x.c ({x with Version:=y}:eV).c:=⟨rfl⟩
structure qq where
 item:ag
 next:aj
def qq.c(x:qq):ab aj:=x.item.c++([x.next])
def qq.z:qq:=⟨ag.z,.slice none 0 0⟩
instance(x:qq)(y:ag):bA 0 y.c x.c ({x with item:=y}:qq).c:=⟨rfl⟩
instance(x:qq)(y:aj):bA 2 [y] x.c ({x with next:=y}:qq).c:=⟨rfl⟩
def pb(l:ab aD)(h:ab Bool)(n:Int):ab aj:=l.flatMap aD.c++(h.map (λb=>B b)++[I n])
def su(l:ab Bool)(h:ab Bool)(n:Int):ab aj:=l.map (λb=>B b)++(h.map (λb=>B b)++[I n])
structure a6 where
 n:Int
 self:Int
 item:ag
 bj:bm
 call:aN
 phase:Int
 pl:ab aD
 dB:ab Bool
 eQ:Int
 ol:ab Bool
 ft:ab Bool
 fZ:Int
def a6.c(x:a6):ab aj:=[.int .i64 x.n,.int .i64 x.self]++(x.item.c++(x.bj.c++(x.call.c++([.int .i64 x.phase]++(pb x.pl x.dB x.eQ++su x.ol x.ft x.fZ)))))
def a6.z:a6:=⟨0,0,ag.z,bm.z,aN.z,0,List.replicate 7 aD.z,List.replicate 7 false,0,List.replicate 7 false,List.replicate 7 false,0⟩
instance(x:a6)(y:Int):bA 0 [.int .i64 y] x.c ({x with n:=y}:a6).c:=⟨rfl⟩
instance(x:a6)(y:Int):bA 1 [.int .i64 y] x.c ({x with self:=y}:a6).c:=⟨rfl⟩
instance(x:a6)(y:Int):bA 20 [.int .i64 y] x.c ({x with phase:=y}:a6).c:=⟨rfl⟩
instance(x:a6):eZ 2 2 x.c x.item.c:=⟨rfl⟩
instance(x:a6)(y:ag):bA 2 y.c x.c ({x with item:=y}:a6).c:=⟨rfl⟩
instance(x:a6):eZ 4 2 x.c x.bj.c:=⟨rfl⟩
instance(x:a6)(y:bm):bA 4 y.c x.c ({x with bj:=y}:a6).c:=⟨rfl⟩
instance(x:a6):eZ 6 14 x.c x.call.c:=⟨rfl⟩
instance(x:a6)(y:aN):bA 6 y.c x.c ({x with call:=y}:a6).c:=⟨rfl⟩
structure bV where
 n:Int
 self:Int
 item:ag
 bj:bm
 lost:Bool
 fz:ab aD
 ey:ab Bool
 ez:Int
 next:aj
def bV.c(x:bV):ab aj:=[.int .i64 x.n,.int .i64 x.self]++(x.item.c++(x.bj.c++([.bool x.lost]++(pb x.fz x.ey x.ez++[x.next]))))
def bV.z:bV:=⟨0,0,ag.z,bm.z,false,List.replicate 7 aD.z,List.replicate 7 false,0,.pointer none⟩
instance(x:bV)(y:Int):bA 0 [.int .i64 y] x.c ({x with n:=y}:bV).c:=⟨rfl⟩
instance(x:bV)(y:Int):bA 1 [.int .i64 y] x.c ({x with self:=y}:bV).c:=⟨rfl⟩
instance(x:bV)(y:Bool):bA 6 [.bool y] x.c ({x with lost:=y}:bV).c:=⟨rfl⟩
instance(x:bV):eZ 2 2 x.c x.item.c:=⟨rfl⟩
instance(x:bV)(y:ag):bA 2 y.c x.c ({x with item:=y}:bV).c:=⟨rfl⟩
instance(x:bV):eZ 4 2 x.c x.bj.c:=⟨rfl⟩
instance(x:bV)(y:bm):bA 4 y.c x.c ({x with bj:=y}:bV).c:=⟨rfl⟩
abbrev bJ:Go.Value:=.slice none 0 0
abbrev bi:Go.Value:=.bool false
abbrev bZ:Go.Value:=.int .i64 0
abbrev eA:Go.Value:=.pointer none
abbrev i0:Go.Value:=.map none
abbrev i1:Go.Value:=Go.ay.S []
abbrev m3:Go.Value:=.int .u8 0
abbrev qr:Go.Value:=.int .u64 0
abbrev tC:Go.Value:=.int .i32 0
def EY:ab (Nat×ab aj):=[(2,[bZ]),(3,[bZ]),(4,[bi]),(5,[m3]),(6,[m3]),(7,[bZ,bZ,bi,m3]),(8,[bZ,bZ,bi,m3]),(9,[i1]),(10,[i1]),(11,[i1]),(12,[qr]),(13,[i1,qr]),(14,[i1,qr]),(15,[eA]),(16,[eA]),(17,[eA]),(18,[eA]),(19,[eA]),(21,[tC]),(22,[bJ]),(25,[eA]),(27,[i0]),(28,[bZ,i1,i1,bZ,bZ,bZ]),(29,bN.z.c),(30,[bZ,bZ,bZ,i1,i1,bZ,bZ,bZ,bZ,bZ,m3]),(31,fS.z.c),(35,[eA]),(36,[eA]),(37,[eA]),(38,[i0]),(39,[i0]),(40,[eA,bZ,i0,i0,bZ]),(41,lf.z.c),(45,[bZ,bZ]),(46,ag.z.c),(47,[bZ,bZ]),(48,bm.z.c),(49,[bZ,bZ,bZ,bZ,bZ,bZ,bZ]),(50,bX.z.c),(51,[bZ,i1,i1,bZ,bZ,bZ,bZ,bZ,bZ,bZ,bZ,bZ,bZ,bZ]),(52,aN.z.c),(53,[bZ,bZ,bZ,bZ,bZ,bZ,i1,i1,bZ,bZ,bZ,bZ,bZ,bZ,bZ,bZ,bZ,bZ,bZ,bi]),(54,aX.z.c),(57,[i0]),(58,[bJ]),(60,[bZ]),(61,[bJ]),(62,[bZ,i1,bZ,bJ]),(63,hL.z.c),(64,[bZ,bZ,bZ,i1,bZ,bJ]),(65,o9.z.c),(66,[bZ,bZ,bZ,i1,bZ,bJ,bZ,bZ]),(67,vc.z.c),(73,[bJ]),(81,[bJ]),(82,[bJ]),(83,[eA]),(84,[bZ,bJ,bJ,eA,bZ,bJ]),(85,kK.z.c),(86,[i0]),(87,[i0]),(88,[eA]),(89,[eA]),(90,[eA]),(91,[i0]),(92,[bJ]),(93,[bJ]),(94,[bZ,bZ,bZ,eA,i0,i0,eA,eA,eA,i0,i0,bJ,bJ,bJ]),(95,gp.z.c),(96,[eA]),(97,[i0]),(98,[bJ]),(99,[i0]),(100,[eA,i0,bJ,i0]),(101,jG.z.c),(109,[bJ]),(112,[eA]),(117,[eA]),(119,[eA,bZ,eA]),(120,lY.z.c),(123,[bi,bi,bi,bi,bi,bi,bi]),(124,[bi,bi,bi,bi,bi,bi,bi,bi,bi,bi,bi,bi,bi,bi,bi,bi,bi,bi,bi,bi,bi,bi,bi,bi,bi,bi,bi,bi,bi,bi,bi,bi,bi,bi,bi,bi,bi,bi,bi,bi,bi,bi,bi,bi,bi,bi,bi,bi,bi]),(125,[bJ,bi,bi,bi,bi,bi,bi,bi,bi,bi,bi,bi,bi,bi,bi,bi,bi,bi,bi,bi,bi,bi,bi,bi,bi,bi,bi,bi,bi,bi,bi,bi,bi,bi,bi,bi,bi,bi,bi,bi,bi,bi,bi,bi,bi,bi,bi,bi,bi,bi,bZ]),(126,[bJ,bi,bi,bi,bi,bi,bi,bi,bi,bi,bi,bi,bi,bi,bi,bi,bi,bi,bi,bi,bi,bi,bi,bi,bi,bi,bi,bi,bi,bi,bi,bi,bi,bi,bi,bi,bi,bi,bi,bi,bi,bi,bi,bi,bi,bi,bi,bi,bi,bi,bZ]),(132,[eA]),(135,[bZ]),(142,[bZ,bZ,i1]),(143,b8.z.c),(154,[bJ]),(155,[bJ,bZ]),(156,lA.z.c),(164,[bJ]),(165,[bJ]),(166,[bJ,bJ,bJ,bJ,bJ,bJ,bJ]),(167,[bJ,bJ,bJ,bJ,bJ,bJ,bJ]),(168,[bZ,bJ,bJ,bJ,bJ,bJ,bJ,bJ,bJ,bJ,bJ,bJ,bJ,bJ,bJ]),(169,[bZ,bJ,bJ,bJ,bJ,bJ,bJ,bJ,bJ,bJ,bJ,bJ,bJ,bJ,bJ]),(175,[bZ,bZ,bZ,bZ,bZ,bZ,bZ,bZ,bZ,bZ,bi,bZ,i1,i1,bZ,bZ,bZ,bZ,bZ,bZ,bZ,bZ,bZ,bZ,bZ]),(176,aD.z.c),(179,pb (List.replicate 7 aD.z) (List.replicate 7 false) 0),(180,[bi,bi,bi,bi,bi,bi,bi,bi,bi,bi,bi,bi,bi,bi,bZ]),(181,[bi,bi,bi,bi,bi,bi,bi,bi,bi,bi,bi,bi,bi,bi,bZ]),(183,a6.z.c),(192,[eA]),(193,[bZ,bZ,eA,i0]),(194,mz.z.c),(196,[eA]),(204,[eA]),(206,[eA,bJ,bJ]),(207,pa.z.c),(208,[eA]),(210,[i0]),(211,[eA,i0,bZ]),(212,mA.z.c),(226,[bJ]),(229,[eA]),(230,[bJ]),(231,gd.z.c),(239,[eA]),(243,bV.z.c),(244,[bJ]),(252,[bJ]),(253,[bJ,bZ]),(254,kL.z.c),(255,[eA]),(257,[eA]),(259,[eA,eA]),(260,pF.z.c),(261,[i0]),(262,[i0]),(263,lZ.z.c),(268,[qr]),(270,[bZ,bZ,bZ,bZ]),(271,br.z.c),(280,[bZ,bZ,i1,bZ,bJ]),(281,mB.z.c),(285,[bi,bi]),(286,wU.z.c),(287,[bi,bi,bi,bi,bi,bi,bi,bi,bi,bi,bi,bi,bi,bi,bi,bi,bi,bi]),(296,[.int .u32 0]),(305,[i1,bi]),(306,eU.z.c),(311,[eA]),(320,[bJ]),(321,[bJ,bJ,bJ,bJ,bJ,bJ,bJ]),(322,[bZ,bJ,bJ,bJ,bJ,bJ,bJ,bJ,bJ,bJ,bJ,bJ,bJ,bJ,bJ]),(323,[bZ,bJ,bJ,bJ,bJ,bJ,bJ,bJ,bJ,bJ,bJ,bJ,bJ,bJ,bJ]),(324,[bZ,bJ,bJ,bJ,bJ,bJ,bJ,bJ,bJ,bJ,bJ,bJ,bJ,bJ,bJ]),(325,[bZ,bJ,bJ,bJ,bJ,bJ,bJ,bJ,bJ,bJ,bJ,bJ,bJ,bJ,bJ]),(327,[bZ]),(335,[qr]),(340,[eA]),(341,[bJ]),(342,[eA,i0,i0,i0,bJ,bJ,bJ,bJ]),(343,jn.z.c),(345,[i1,i1,bZ]),(346,eV.z.c),(365,[qr]),(369,[eA]),(374,[bZ,bZ,bJ]),(375,qq.z.c),(376,[eA]),(386,[bZ]),(389,[eA]),(390,[bJ]),(391,[eA]),(413,[eA,eA,eA,i1]),(414,[eA,eA,eA,i1]),(415,[]),(416,[]),(417,[]),(418,[m3]),(419,[m3]),(421,[eA]),(422,[tC]),(423,[tC]),(424,[qr,qr,.int .u32 0,m3,m3,m3,m3,.nilFunc,eA,tC,tC]),(425,[qr,qr,.int .u32 0,m3,m3,m3,m3,.nilFunc,eA,tC,tC])]
set_option maxRecDepth 100000 in
def aiA:uW prog EY:=⟨T7,T7,T7,T7,T7,T7,T7,T7,T7,T7,T7,T7,T7,T7,T7,T7,T7,T7,T7,T7,T7,T7,T7,T7,T7,T7,T7,T7,T7,T7,T7,T7,T7,T7,T7,T7,T7,T7,T7,T7,T7,T7,T7,T7,T7,T7,T7,T7,T7,T7,T7,T7,T7,T7,T7,T7,T7,T7,T7,T7,T7,T7,T7,T7,T7,T7,T7,T7,T7,T7,T7,T7,T7,T7,T7,T7,T7,T7,T7,T7,T7,T7,T7,T7,T7,T7,T7,T7,T7,T7,T7,T7,T7,T7,T7,T7,T7,T7,T7,T7,T7,T7,T7,T7,T7,T7,T7,T7,T7,T7,T7,T7,T7,T7,T7,T7,T7,T7,T7,T7,T7,T7,T7,T7,T7,T7,T7,T7,T7,T7,T7,T7,T7,T7,T7,T7,T7,T7,T7,T7,T7,T7,T7,T7,T7,T7,T7,T7,T7,T7,T7,T7,T7,T7,T7,T7,T7,T7,T7,T7,T7,T7,T7,T7,T7,T7,T7,T7,T7,T7,T7,T7,T7,T7,T7,T7,T7,T7,trivial⟩
def Ba(T k o:Nat):ab Nat->ab (Nat×Nat×Nat)
 |[]=>[]
 |s::r=>(T,k,o)::Ba T (k+1) (o+s) r
def Bb(T k:Nat):ab Nat->ab (Nat×Nat×Nat)
 |[]=>[]
 |s::r=>(T,k,s)::Bb T (k+1) r
def yL:ab (ab Nat×ab Nat):=[([7,8,62,63,100,101,193,194,413,414],[1,1,1,1]),([13,14,45,46,47,48,155,156,253,254,259,260,285,286,305,306],[1,1]),([18,19,230,231,262,263],[1]),([28,29,84,85],[1,1,1,1,1,1]),([30,31],[1,1,6,1,1,1]),([40,41],[1,1,1,1,1]),([51,52],[6,7,1]),([53,54],[2,2,1,14,1]),([64,65],[2,4]),([66,67],[6,1,1]),([94,95],[1,1,1,1,1,1,1,1,1,1,1,1,1,1]),([119,120,142,143,206,207,211,212,345,346],[1,1,1]),([125,126],[1,49,1]),([168,169,322,323,324,325],[1,7,7]),([175,176],[1,1,1,2,2,2,1,1,14]),([178,179],[175,7,1]),([180,181],[7,7,1]),([182,183],[1,1,2,2,14,1,183,15]),([242,243],[1,1,2,2,1,183,1]),([270,271],[2,1,1]),([280,281],[1,4]),([342,343],[1,1,1,1,1,1,1,1]),([374,375],[2,1])]
set_option maxRecDepth 100000 in
def aga:{l:ab (Nat×Nat×Nat)//(yL.flatMap λp=>p.1.flatMap λT=>Ba T 0 0 p.2)=l}:=⟨_,by simp only[yL,Ba,gn,ov,ly,gJ,dT,Nat.reduceAdd];exact rfl⟩
set_option maxRecDepth 100000 in
def ahQ:{l:ab (Nat×Nat×Nat)//(yL.flatMap λp=>p.1.flatMap λT=>Bb T 0 p.2)=l}:=⟨_,by simp only[yL,Bb,gn,ov,ly,gJ,dT,Nat.reduceAdd];exact rfl⟩
def ad:ca prog where
 q7:=[(424,0,0),(424,1,1),(424,2,2),(424,3,3),(424,4,4),(424,5,5),(424,6,6),(424,7,7),(424,8,8),(424,9,9),(424,10,10),(425,0,0),(425,1,1),(425,2,2),(425,3,3),(425,4,4),(425,5,5),(425,6,6),(425,7,7),(425,8,8),(425,9,9),(425,10,10)]++aga.1
 wF:=[(424,0,1),(424,1,1),(424,2,1),(424,3,1),(424,4,1),(424,5,1),(424,6,1),(424,8,1),(424,9,1),(424,10,1),(425,0,1),(425,1,1),(425,2,1),(425,3,1),(425,4,1),(425,5,1),(425,6,1),(425,8,1),(425,9,1),(425,10,1)]++ahQ.1
 fe:=[(22,31),(58,67),(61,9),(73,143),(81,112),(82,36),(92,176),(93,65),(98,46),(109,3),(154,5),(164,4),(165,54),(226,98),(244,48),(252,271),(320,52),(341,375),(390,50)]
 gV:=[(2,1),(3,1),(4,1),(5,1),(6,1),(7,4),(8,4),(9,1),(10,1),(11,1),(12,1),(13,2),(14,2),(15,1),(16,1),(17,1),(18,1),(19,1),(21,1),(22,1),(25,1),(27,1),(28,6),(29,6),(30,11),(31,11),(35,1),(36,1),(37,1),(38,1),(39,1),(40,5),(41,5),(45,2),(46,2),(47,2),(48,2),(49,7),(50,7),(51,14),(52,14),(53,20),(54,20),(57,1),(58,1),(60,1),(61,1),(62,4),(63,4),(64,6),(65,6),(66,8),(67,8),(73,1),(81,1),(82,1),(83,1),(84,6),(85,6),(86,1),(87,1),(88,1),(89,1),(90,1),(91,1),(92,1),(93,1),(94,14),(95,14),(96,1),(97,1),(98,1),(99,1),(100,4),(101,4),(109,1),(112,1),(117,1),(119,3),(120,3),(123,7),(124,49),(125,51),(126,51),(132,1),(135,1),(142,3),(143,3),(154,1),(155,2),(156,2),(164,1),(165,1),(166,7),(167,7),(168,15),(169,15),(175,25),(176,25),(177,175),(178,183),(179,183),(180,15),(181,15),(182,219),(183,219),(192,1),(193,4),(194,4),(196,1),(204,1),(206,3),(207,3),(208,1),(210,1),(211,3),(212,3),(226,1),(229,1),(230,1),(231,1),(239,1),(242,191),(243,191),(244,1),(252,1),(253,2),(254,2),(255,1),(257,1),(259,2),(260,2),(261,1),(262,1),(263,1),(268,1),(270,4),(271,4),(280,5),(281,5),(285,2),(286,2),(287,18),(296,1),(305,2),(306,2),(311,1),(320,1),(321,7),(322,15),(323,15),(324,15),(325,15),(327,1),(335,1),(340,1),(341,1),(342,8),(343,8),(345,3),(346,3),(365,1),(369,1),(374,3),(375,3),(376,1),(386,1),(389,1),(390,1),(391,1),(413,4),(414,4),(415,0),(416,0),(417,0),(418,1),(419,1),(421,1),(422,1),(423,1),(424,11),(425,11)]
 agg:=[(7,4),(8,4),(13,2),(14,2),(18,1),(19,1),(28,6),(29,6),(30,11),(31,11),(40,5),(41,5),(45,2),(46,2),(47,2),(48,2),(49,7),(50,7),(51,14),(52,14),(53,20),(54,20),(62,4),(63,4),(64,6),(65,6),(66,8),(67,8),(84,6),(85,6),(94,14),(95,14),(100,4),(101,4),(119,3),(120,3),(123,7),(124,49),(125,51),(126,51),(142,3),(143,3),(155,2),(156,2),(166,7),(167,7),(168,15),(169,15),(175,25),(176,25),(177,175),(178,183),(179,183),(180,15),(181,15),(182,219),(183,219),(193,4),(194,4),(206,3),(207,3),(211,3),(212,3),(230,1),(231,1),(242,191),(243,191),(253,2),(254,2),(259,2),(260,2),(262,1),(263,1),(270,4),(271,4),(280,5),(281,5),(285,2),(286,2),(287,18),(305,2),(306,2),(321,7),(322,15),(323,15),(324,15),(325,15),(342,8),(343,8),(345,3),(346,3),(374,3),(375,3),(413,4),(414,4),(415,0),(416,0),(417,0),(424,11),(425,11)]
 one:=[(2,1),(3,1),(4,1),(5,1),(6,1),(9,1),(10,1),(11,1),(12,1),(15,1),(16,1),(17,1),(21,1),(22,1),(25,1),(27,1),(35,1),(36,1),(37,1),(38,1),(39,1),(57,1),(58,1),(60,1),(61,1),(73,1),(81,1),(82,1),(83,1),(86,1),(87,1),(88,1),(89,1),(90,1),(91,1),(92,1),(93,1),(96,1),(97,1),(98,1),(99,1),(109,1),(112,1),(117,1),(132,1),(135,1),(154,1),(164,1),(165,1),(192,1),(196,1),(204,1),(208,1),(210,1),(226,1),(229,1),(239,1),(244,1),(252,1),(255,1),(257,1),(261,1),(268,1),(296,1),(311,1),(320,1),(327,1),(335,1),(340,1),(341,1),(365,1),(369,1),(376,1),(386,1),(389,1),(390,1),(391,1),(418,1),(419,1),(421,1),(422,1),(423,1)]
 iZ:=EY
 ints:=[(2,.i64),(3,.i64),(5,.u8),(6,.u8),(12,.u64),(21,.i32),(60,.i64),(135,.i64),(268,.u64),(296,.u32),(327,.i64),(335,.u64),(365,.u64),(386,.i64),(418,.u8),(419,.u8),(422,.i32),(423,.i32)]
 strs:=[(9,0),(10,0),(11,0)]
 wG:=[(4,0)]
 lT:=[(2,8),(3,8),(4,1),(5,1),(6,1),(7,24),(8,24),(9,16),(10,16),(11,16),(12,8),(13,24),(14,24),(15,8),(16,8),(17,8),(18,8),(19,8),(21,4),(22,24),(25,8),(27,8),(28,64),(29,64),(30,104),(31,104),(35,8),(36,8),(37,8),(38,8),(39,8),(40,40),(41,40),(45,16),(46,16),(47,16),(48,16),(49,56),(50,56),(51,128),(52,128),(53,176),(54,176),(57,8),(58,24),(60,8),(61,24),(62,56),(63,56),(64,72),(65,72),(66,88),(67,88),(73,24),(81,24),(82,24),(83,8),(84,96),(85,96),(86,8),(87,8),(88,8),(89,8),(90,8),(91,8),(92,24),(93,24),(94,160),(95,160),(96,8),(97,8),(98,24),(99,8),(100,48),(101,48),(109,24),(112,8),(117,8),(119,24),(120,24),(123,7),(124,49),(125,88),(126,88),(132,8),(135,8),(142,32),(143,32),(154,24),(155,32),(156,32),(164,24),(165,24),(166,168),(167,168),(168,344),(169,344),(175,216),(176,216),(177,1512),(178,1528),(179,1528),(180,24),(181,24),(182,1736),(183,1736),(192,8),(193,32),(194,32),(196,8),(204,8),(206,56),(207,56),(208,8),(210,8),(211,24),(212,24),(226,24),(229,8),(230,24),(231,24),(239,8),(242,1592),(243,1592),(244,24),(252,24),(253,32),(254,32),(255,8),(257,8),(259,16),(260,16),(261,8),(262,8),(263,8),(268,8),(270,32),(271,32),(280,64),(281,64),(285,2),(286,2),(287,18),(296,4),(305,24),(306,24),(311,8),(320,24),(321,168),(322,344),(323,344),(324,344),(325,344),(327,8),(335,8),(340,8),(341,24),(342,128),(343,128),(345,40),(346,40),(365,8),(369,8),(374,40),(375,40),(376,8),(386,8),(389,8),(390,24),(391,8),(413,40),(414,40),(415,0),(416,0),(417,0),(418,1),(419,1),(421,8),(422,4),(423,4),(424,48),(425,48)]
 arr:=[(49,7,3),(50,7,3),(123,7,4),(124,7,123),(166,7,165),(167,7,164),(177,7,176),(287,9,286),(321,7,320),(415,0,16)]
 D7:=T7
 Ec:=T7
 Ed:=T7
 Ee:=T7
 D8:=T7
 D9:=T7
 Ea:=T7
 Eb:=T7
 Ef:=T7
 Eg:=T7
 Eh:=T7
 Ei:=aiA
def bN.R'(x y:bN)(d:Nat):c6 prog (d+2) 29 (A x.c) (A y.c) (decide (x=y)):=by have h:=c6.struct (P:=prog) (d:=d+1) (T:=29) (xs:=x.c) (o3:=y.c) (l:=[(3,0),(9,1),(9,2),(3,3),(3,4),(3,5)]) T7 ⟨_,_,_,_,.one (ad.Un (T:=3) rfl) rfl,.one (ad.Un (T:=3) rfl) rfl,(c6.int (ad.UJ (T:=3) rfl)),⟨_,_,_,_,.one (ad.Un (T:=9) rfl) rfl,.one (ad.Un (T:=9) rfl) rfl,(c6.str (ad.Vl (T:=9) rfl)),⟨_,_,_,_,.one (ad.Un (T:=9) rfl) rfl,.one (ad.Un (T:=9) rfl) rfl,(c6.str (ad.Vl (T:=9) rfl)),⟨_,_,_,_,.one (ad.Un (T:=3) rfl) rfl,.one (ad.Un (T:=3) rfl) rfl,(c6.int (ad.UJ (T:=3) rfl)),⟨_,_,_,_,.one (ad.Un (T:=3) rfl) rfl,.one (ad.Un (T:=3) rfl) rfl,(c6.int (ad.UJ (T:=3) rfl)),⟨_,_,_,_,.one (ad.Un (T:=3) rfl) rfl,.one (ad.Un (T:=3) rfl) rfl,(c6.int (ad.UJ (T:=3) rfl)),rfl,rfl⟩,rfl⟩,rfl⟩,rfl⟩,rfl⟩,rfl⟩;refine Eq.mp (dp (c6 prog (d+2) 29 (A x.c) (A y.c)) ?_) h;rw[q8];cases x;cases y;simp[bN.mk.injEq]
def ag.R'(x y:ag)(d:Nat):c6 prog (d+2) 46 (A x.c) (A y.c) (decide (x=y)):=by have h:=c6.struct (P:=prog) (d:=d+1) (T:=46) (xs:=x.c) (o3:=y.c) (l:=[(3,0),(3,1)]) T7 ⟨_,_,_,_,.one (ad.Un (T:=3) rfl) rfl,.one (ad.Un (T:=3) rfl) rfl,(c6.int (ad.UJ (T:=3) rfl)),⟨_,_,_,_,.one (ad.Un (T:=3) rfl) rfl,.one (ad.Un (T:=3) rfl) rfl,(c6.int (ad.UJ (T:=3) rfl)),rfl,rfl⟩,rfl⟩;refine Eq.mp (dp (c6 prog (d+2) 46 (A x.c) (A y.c)) ?_) h;rw[q8];cases x;cases y;simp[ag.mk.injEq]
def bm.R'(x y:bm)(d:Nat):c6 prog (d+2) 48 (A x.c) (A y.c) (decide (x=y)):=by have h:=c6.struct (P:=prog) (d:=d+1) (T:=48) (xs:=x.c) (o3:=y.c) (l:=[(3,0),(3,1)]) T7 ⟨_,_,_,_,.one (ad.Un (T:=3) rfl) rfl,.one (ad.Un (T:=3) rfl) rfl,(c6.int (ad.UJ (T:=3) rfl)),⟨_,_,_,_,.one (ad.Un (T:=3) rfl) rfl,.one (ad.Un (T:=3) rfl) rfl,(c6.int (ad.UJ (T:=3) rfl)),rfl,rfl⟩,rfl⟩;refine Eq.mp (dp (c6 prog (d+2) 48 (A x.c) (A y.c)) ?_) h;rw[q8];cases x;cases y;simp[bm.mk.injEq]
def bX.R'(x y:bX)(d:Nat):c6 prog (d+2) 50 (A x.c) (A y.c) (decide (x=y)):=by have h:=c6.array (P:=prog) (d:=d+1) (T:=50) (t:=x.c) (z:=y.c) (l:=[(3,0),(3,1),(3,2),(3,3),(3,4),(3,5),(3,6)]) T7 ⟨_,_,_,_,.one (ad.Un (T:=3) rfl) rfl,.one (ad.Un (T:=3) rfl) rfl,(c6.int (ad.UJ (T:=3) rfl)),⟨_,_,_,_,.one (ad.Un (T:=3) rfl) rfl,.one (ad.Un (T:=3) rfl) rfl,(c6.int (ad.UJ (T:=3) rfl)),⟨_,_,_,_,.one (ad.Un (T:=3) rfl) rfl,.one (ad.Un (T:=3) rfl) rfl,(c6.int (ad.UJ (T:=3) rfl)),⟨_,_,_,_,.one (ad.Un (T:=3) rfl) rfl,.one (ad.Un (T:=3) rfl) rfl,(c6.int (ad.UJ (T:=3) rfl)),⟨_,_,_,_,.one (ad.Un (T:=3) rfl) rfl,.one (ad.Un (T:=3) rfl) rfl,(c6.int (ad.UJ (T:=3) rfl)),⟨_,_,_,_,.one (ad.Un (T:=3) rfl) rfl,.one (ad.Un (T:=3) rfl) rfl,(c6.int (ad.UJ (T:=3) rfl)),⟨_,_,_,_,.one (ad.Un (T:=3) rfl) rfl,.one (ad.Un (T:=3) rfl) rfl,(c6.int (ad.UJ (T:=3) rfl)),rfl,rfl⟩,rfl⟩,rfl⟩,rfl⟩,rfl⟩,rfl⟩,rfl⟩;refine Eq.mp (dp (c6 prog (d+2) 50 (A x.c) (A y.c)) ?_) h;rw[q8];cases x;cases y;simp[bX.mk.injEq]
def aN.R'(x y:aN)(d:Nat):c6 prog (d+3) 52 (A x.c) (A y.c) (decide (x=y)):=by have h:=c6.struct (P:=prog) (d:=d+2) (T:=52) (xs:=x.c) (o3:=y.c) (l:=[(29,0),(50,6),(3,13)]) T7 ⟨_,_,_,_,.agg (ad.UT (T:=29) rfl) rfl eZ.eq,.agg (ad.UT (T:=29) rfl) rfl eZ.eq,(bN.R' _ _ (d+0)),⟨_,_,_,_,.agg (ad.UT (T:=50) rfl) rfl eZ.eq,.agg (ad.UT (T:=50) rfl) rfl eZ.eq,(bX.R' _ _ (d+0)),⟨_,_,_,_,.one (ad.Un (T:=3) rfl) rfl,.one (ad.Un (T:=3) rfl) rfl,(c6.int (ad.UJ (T:=3) rfl)),rfl,rfl⟩,rfl⟩,rfl⟩;refine Eq.mp (dp (c6 prog (d+3) 52 (A x.c) (A y.c)) ?_) h;rw[q8];cases x;cases y;simp[aN.mk.injEq]
def aX.R'(x y:aX)(d:Nat):c6 prog (d+4) 54 (A x.c) (A y.c) (decide (x=y)):=by have h:=c6.struct (P:=prog) (d:=d+3) (T:=54) (xs:=x.c) (o3:=y.c) (l:=[(48,0),(48,2),(3,4),(52,5),(4,19)]) T7 ⟨_,_,_,_,.agg (ad.UT (T:=48) rfl) rfl eZ.eq,.agg (ad.UT (T:=48) rfl) rfl eZ.eq,(bm.R' _ _ (d+1)),⟨_,_,_,_,.agg (ad.UT (T:=48) rfl) rfl eZ.eq,.agg (ad.UT (T:=48) rfl) rfl eZ.eq,(bm.R' _ _ (d+1)),⟨_,_,_,_,.one (ad.Un (T:=3) rfl) rfl,.one (ad.Un (T:=3) rfl) rfl,(c6.int (ad.UJ (T:=3) rfl)),⟨_,_,_,_,.agg (ad.UT (T:=52) rfl) rfl eZ.eq,.agg (ad.UT (T:=52) rfl) rfl eZ.eq,(aN.R' _ _ (d+0)),⟨_,_,_,_,.one (ad.Un (T:=4) rfl) rfl,.one (ad.Un (T:=4) rfl) rfl,(c6.bool (ad.Xk (T:=4) rfl)),rfl,rfl⟩,rfl⟩,rfl⟩,rfl⟩,rfl⟩;refine Eq.mp (dp (c6 prog (d+4) 54 (A x.c) (A y.c)) ?_) h;rw[q8];cases x;cases y;simp[aX.mk.injEq]
def bN.wf(x:bN):Prop:=mv .i64 x.Kind/\x.Key.length<=140737488351232/\x.Value.length<=140737488351232/\mv .i64 x.Version/\mv .i64 x.cP/\mv .i64 x.Number
def fS.wf(x:fS):Prop:=mv .i64 x.Kind/\mv .i64 x.a1/\x.cv.wf/\mv .i64 x.N/\mv .i64 x.kH/\mv .u8 x.ss
def fS.leaves:leaves prog 40 31=some [.i .i64,.i .i64,.i .i64,.s,.s,.i .i64,.i .i64,.i .i64,.i .i64,.i .i64,.i .u8]:=T7
def fS.fit{cs:ab aj}(o:hr [.i .i64,.i .i64,.i .i64,.s,.s,.i .i64,.i .i64,.i .i64,.i .i64,.i .i64,.i .u8] cs):∃x:fS,cs=x.c/\x.wf:=by obtain⟨_,_,rfl,⟨q,rfl,p⟩,Y⟩:=hr.cons o;obtain⟨_,_,rfl,⟨F,rfl,j⟩,N⟩:=hr.cons Y;obtain⟨_,_,rfl,⟨w,rfl,J⟩,R⟩:=hr.cons N;obtain⟨_,_,rfl,⟨L,rfl,f⟩,Z⟩:=hr.cons R;obtain⟨_,_,rfl,⟨k,rfl,b⟩,a⟩:=hr.cons Z;obtain⟨_,_,rfl,⟨m,rfl,h⟩,M⟩:=hr.cons a;obtain⟨_,_,rfl,⟨n,rfl,T⟩,y⟩:=hr.cons M;obtain⟨_,_,rfl,⟨l,rfl,u⟩,U⟩:=hr.cons y;obtain⟨_,_,rfl,⟨D,rfl,E⟩,K⟩:=hr.cons U;obtain⟨_,_,rfl,⟨G,rfl,W⟩,C⟩:=hr.cons K;obtain⟨_,_,rfl,⟨Q,rfl,z⟩,X⟩:=hr.cons C;obtain rfl:=hr.nil X;exact⟨⟨q,F,⟨w,L,k,m,n,l⟩,D,G,Q⟩,rfl,⟨p,j,⟨J,f,b,h,T,u⟩,E,W,z⟩⟩
def EZ:laidOutB prog=true:=T7
def own:ownKnob prog.godebug=none:=T7
def mixed:prog.follows .mixedOrders=true:=T7
end Go.Proofs.YteogojgnkjegmaaGreatDoor
