/-
 Part of the proof.
-/
import Derived.Test.YteogojgnkjegmaaGreatDoorAb
import Derived.Test.YteogojgnkjegmaaGreatDoorRows
set_option linter.all false
set_option maxRecDepth 8000
set_option maxHeartbeats 8000000
namespace Go.Proofs.YteogojgnkjegmaaGreatDoor
open Go.az Go.Proofs.Tryz
structure bF where
 Kind:Int
 Key:ab aS
 Value:ab aS
 Version:Int
 c3:Int
 Number:Int
 deriving DecidableEq
def bF.c(x:bF):ab aj:=[.int .i64 x.Kind,S x.Key,S x.Value,.int .i64 x.Version,.int .i64 x.c3,.int .i64 x.Number]
def bF.z:bF:=⟨0,[],[],0,0,0⟩
instance(x:bF):fk 0 6 x.c x.c:=⟨rfl⟩
instance(x y:bF):bH 0 x.c y.c x.c:=⟨rfl⟩
instance(x:bF)(y:Int):bH 0 [.int .i64 y] x.c ({x with Kind:=y}:bF).c:=⟨rfl⟩
instance(x:bF)(y:ab aS):bH 1 [S y] x.c ({x with Key:=y}:bF).c:=⟨rfl⟩
instance(x:bF)(y:ab aS):bH 2 [S y] x.c ({x with Value:=y}:bF).c:=⟨rfl⟩
instance(x:bF)(y:Int):bH 3 [.int .i64 y] x.c ({x with Version:=y}:bF).c:=⟨rfl⟩
instance(x:bF)(y:Int):bH 4 [.int .i64 y] x.c ({x with c3:=y}:bF).c:=⟨rfl⟩
instance(x:bF)(y:Int):bH 5 [.int .i64 y] x.c ({x with Number:=y}:bF).c:=⟨rfl⟩
structure ea where
 Kind:Int
 a1:Int
 cv:bF
 N:Int
 lv:Int
 rj:Int
 deriving DecidableEq
def ea.c(x:ea):ab aj:=[.int .i64 x.Kind,.int .i64 x.a1]++(x.cv.c++([.int .i64 x.N,.int .i64 x.lv,.int .u8 x.rj]))
def ea.z:ea:=⟨0,0,bF.z,0,0,0⟩
instance(x:ea):fk 0 11 x.c x.c:=⟨rfl⟩
instance(x y:ea):bH 0 x.c y.c x.c:=⟨rfl⟩
instance(x:ea):fk 2 6 x.c x.cv.c:=⟨rfl⟩
structure jF where
 wn:aj
 n:Int
 jG:aj
 when:aj
 at_:Int
def jF.c(x:jF):ab aj:=[x.wn,.int .i64 x.n,x.jG,x.when,.int .i64 x.at_]
def jF.z:jF:=⟨.pointer none,0,.map none,.map none,0⟩
instance(x:jF)(y:aj):bH 0 [y] x.c ({x with wn:=y}:jF).c:=⟨rfl⟩
instance(x:jF)(y:Int):bH 1 [.int .i64 y] x.c ({x with n:=y}:jF).c:=⟨rfl⟩
instance(x:jF)(y:aj):bH 2 [y] x.c ({x with jG:=y}:jF).c:=⟨rfl⟩
instance(x:jF)(y:aj):bH 3 [y] x.c ({x with when:=y}:jF).c:=⟨rfl⟩
instance(x:jF)(y:Int):bH 4 [.int .i64 y] x.c ({x with at_:=y}:jF).c:=⟨rfl⟩
structure ag where
 a1:Int
 bX:Int
 deriving DecidableEq
def ag.c(x:ag):ab aj:=[.int .i64 x.a1,.int .i64 x.bX]
def ag.z:ag:=⟨0,0⟩
def ag.J':jU ag.c:=λ_=>rfl
def ag.len(x:ag):x.c.length=2:=rfl
instance(x:ag):fk 0 2 x.c x.c:=⟨rfl⟩
instance(x y:ag):bH 0 x.c y.c x.c:=⟨rfl⟩
instance(x:ag)(y:Int):bH 0 [.int .i64 y] x.c ({x with a1:=y}:ag).c:=⟨rfl⟩
instance(x:ag)(y:Int):bH 1 [.int .i64 y] x.c ({x with bX:=y}:ag).c:=⟨rfl⟩
structure bp where
 Round:Int
 a1:Int
 deriving DecidableEq
def bp.c(x:bp):ab aj:=[.int .i64 x.Round,.int .i64 x.a1]
def bp.z:bp:=⟨0,0⟩
instance:Inhabited bp:=⟨bp.z⟩
def bp.len(x:bp):x.c.length=2:=rfl
instance(x:bp):fk 0 2 x.c x.c:=⟨rfl⟩
instance(x y:bp):bH 0 x.c y.c x.c:=⟨rfl⟩
instance(x:bp)(y:Int):bH 0 [.int .i64 y] x.c ({x with Round:=y}:bp).c:=⟨rfl⟩
instance(x:bp)(y:Int):bH 1 [.int .i64 y] x.c ({x with a1:=y}:bp).c:=⟨rfl⟩
structure b4 where
 fE:Int
 c5:Int
 bx:Int
 fL:Int
 pj:Int
 k0:Int
 pm:Int
 deriving DecidableEq
def b4.c(x:b4):ab aj:=[.int .i64 x.fE,.int .i64 x.c5,.int .i64 x.bx,.int .i64 x.fL,.int .i64 x.pj,.int .i64 x.k0,.int .i64 x.pm]
def b4.z:b4:=⟨0,0,0,0,0,0,0⟩
def b4.len(x:b4):x.c.length=7:=rfl
instance(x:b4):fk 0 7 x.c x.c:=⟨rfl⟩
instance(x y:b4):bH 0 x.c y.c x.c:=⟨rfl⟩
structure aO where
 cv:bF
 eX:b4
 Seq:Int
 deriving DecidableEq
def aO.c(x:aO):ab aj:=x.cv.c++(x.eX.c++([.int .i64 x.Seq]))
def aO.z:aO:=⟨bF.z,b4.z,0⟩
instance:Inhabited aO:=⟨aO.z⟩
def aO.J':jU aO.c:=λ_=>rfl
def aO.len(x:aO):x.c.length=14:=rfl
instance(x:aO):fk 0 14 x.c x.c:=⟨rfl⟩
instance(x y:aO):bH 0 x.c y.c x.c:=⟨rfl⟩
instance(x:aO):fk 0 6 x.c x.cv.c:=⟨rfl⟩
instance(x:aO)(y:bF):bH 0 y.c x.c ({x with cv:=y}:aO).c:=⟨rfl⟩
instance(x:aO):fk 6 7 x.c x.eX.c:=⟨rfl⟩
instance(x:aO)(y:b4):bH 6 y.c x.c ({x with eX:=y}:aO).c:=⟨rfl⟩
instance(x:aO)(y:Int):bH 13 [.int .i64 y] x.c ({x with Seq:=y}:aO).c:=⟨rfl⟩
structure aY where
 bO:bp
 bZ:bp
 Status:Int
 Call:aO
 cZ:Bool
 deriving DecidableEq
def aY.c(x:aY):ab aj:=x.bO.c++(x.bZ.c++([.int .i64 x.Status]++(x.Call.c++([.bool x.cZ]))))
def aY.z:aY:=⟨bp.z,bp.z,0,aO.z,false⟩
instance:Inhabited aY:=⟨aY.z⟩
def aY.J':jU aY.c:=λ_=>rfl
def aY.len(x:aY):x.c.length=20:=rfl
instance(x:aY):fk 0 20 x.c x.c:=⟨rfl⟩
instance(x y:aY):bH 0 x.c y.c x.c:=⟨rfl⟩
instance(x:aY):fk 0 2 x.c x.bO.c:=⟨rfl⟩
instance(x:aY)(y:bp):bH 0 y.c x.c ({x with bO:=y}:aY).c:=⟨rfl⟩
instance(x:aY):fk 2 2 x.c x.bZ.c:=⟨rfl⟩
instance(x:aY)(y:bp):bH 2 y.c x.c ({x with bZ:=y}:aY).c:=⟨rfl⟩
instance(x:aY)(y:Int):bH 4 [.int .i64 y] x.c ({x with Status:=y}:aY).c:=⟨rfl⟩
instance(x:aY):fk 5 14 x.c x.Call.c:=⟨rfl⟩
instance(x:aY)(y:aO):bH 5 y.c x.c ({x with Call:=y}:aY).c:=⟨rfl⟩
instance(x:aY):fk 5 6 x.c x.Call.cv.c:=⟨rfl⟩
instance(x:aY)(y:Bool):bH 19 [.bool y] x.c ({x with cZ:=y}:aY).c:=⟨rfl⟩
structure h7 where
 CK:Int
 Value:ab aS
 Version:Int
 Keys:aj
def h7.c(x:h7):ab aj:=[.int .i64 x.CK,S x.Value,.int .i64 x.Version,x.Keys]
def h7.z:h7:=⟨0,[],0,.slice none 0 0⟩
instance(x:h7):fk 0 4 x.c x.c:=⟨rfl⟩
instance(x y:h7):bH 0 x.c y.c x.c:=⟨rfl⟩
instance(x:h7)(y:Int):bH 0 [.int .i64 y] x.c ({x with CK:=y}:h7).c:=⟨rfl⟩
instance(x:h7)(y:ab aS):bH 1 [S y] x.c ({x with Value:=y}:h7).c:=⟨rfl⟩
instance(x:h7)(y:Int):bH 2 [.int .i64 y] x.c ({x with Version:=y}:h7).c:=⟨rfl⟩
instance(x:h7)(y:aj):bH 3 [y] x.c ({x with Keys:=y}:h7).c:=⟨rfl⟩
structure pZ where
 Item:ag
 Gw:h7
def pZ.c(x:pZ):ab aj:=x.Item.c++(x.Gw.c)
def pZ.z:pZ:=⟨ag.z,h7.z⟩
instance(x:pZ)(y:ag):bH 0 y.c x.c ({x with Item:=y}:pZ).c:=⟨rfl⟩
instance(x:pZ)(y:h7):bH 2 y.c x.c ({x with Gw:=y}:pZ).c:=⟨rfl⟩
structure wo where
 Told:pZ
 a1:Int
 L3:Int
def wo.c(x:wo):ab aj:=x.Told.c++([.int .i64 x.a1,.int .i64 x.L3])
def wo.z:wo:=⟨pZ.z,0,0⟩
structure ly where
 n:Int
 Gx:aj
 aE:aj
 bi:aj
 now:Int
 told:aj
def ly.c(x:ly):ab aj:=[.int .i64 x.n,x.Gx,x.aE,x.bi,.int .i64 x.now,x.told]
def ly.z:ly:=⟨0,.slice none 0 0,.slice none 0 0,.pointer none,0,.slice none 0 0⟩
instance(x:ly)(y:Int):bH 0 [.int .i64 y] x.c ({x with n:=y}:ly).c:=⟨rfl⟩
instance(x:ly)(y:aj):bH 1 [y] x.c ({x with Gx:=y}:ly).c:=⟨rfl⟩
instance(x:ly)(y:aj):bH 2 [y] x.c ({x with aE:=y}:ly).c:=⟨rfl⟩
instance(x:ly)(y:aj):bH 3 [y] x.c ({x with bi:=y}:ly).c:=⟨rfl⟩
instance(x:ly)(y:Int):bH 4 [.int .i64 y] x.c ({x with now:=y}:ly).c:=⟨rfl⟩
instance(x:ly)(y:aj):bH 5 [y] x.c ({x with told:=y}:ly).c:=⟨rfl⟩
structure gO where
 n:Int
 self:Int
 now:Int
 space:aj
 leads:aj
 Gy:aj
 Gz:aj
 run:aj
 machine:aj
 cR:aj
 high:aj
 inbox:aj
 out:aj
 told:aj
def gO.c(x:gO):ab aj:=[.int .i64 x.n,.int .i64 x.self,.int .i64 x.now,x.space,x.leads,x.Gy,x.Gz,x.run,x.machine,x.cR,x.high,x.inbox,x.out,x.told]
def gO.z:gO:=⟨0,0,0,.pointer none,.map none,.map none,.pointer none,.pointer none,.pointer none,.map none,.map none,.slice none 0 0,.slice none 0 0,.slice none 0 0⟩
instance(x:gO)(y:Int):bH 0 [.int .i64 y] x.c ({x with n:=y}:gO).c:=⟨rfl⟩
instance(x:gO)(y:Int):bH 1 [.int .i64 y] x.c ({x with self:=y}:gO).c:=⟨rfl⟩
instance(x:gO)(y:Int):bH 2 [.int .i64 y] x.c ({x with now:=y}:gO).c:=⟨rfl⟩
instance(x:gO)(y:aj):bH 3 [y] x.c ({x with space:=y}:gO).c:=⟨rfl⟩
instance(x:gO)(y:aj):bH 4 [y] x.c ({x with leads:=y}:gO).c:=⟨rfl⟩
instance(x:gO)(y:aj):bH 5 [y] x.c ({x with Gy:=y}:gO).c:=⟨rfl⟩
instance(x:gO)(y:aj):bH 6 [y] x.c ({x with Gz:=y}:gO).c:=⟨rfl⟩
instance(x:gO)(y:aj):bH 7 [y] x.c ({x with run:=y}:gO).c:=⟨rfl⟩
instance(x:gO)(y:aj):bH 8 [y] x.c ({x with machine:=y}:gO).c:=⟨rfl⟩
instance(x:gO)(y:aj):bH 9 [y] x.c ({x with cR:=y}:gO).c:=⟨rfl⟩
instance(x:gO)(y:aj):bH 10 [y] x.c ({x with high:=y}:gO).c:=⟨rfl⟩
instance(x:gO)(y:aj):bH 11 [y] x.c ({x with inbox:=y}:gO).c:=⟨rfl⟩
instance(x:gO)(y:aj):bH 12 [y] x.c ({x with out:=y}:gO).c:=⟨rfl⟩
instance(x:gO)(y:aj):bH 13 [y] x.c ({x with told:=y}:gO).c:=⟨rfl⟩
structure kp where
 log:aj
 keys:aj
 lists:aj
 xV:aj
def kp.c(x:kp):ab aj:=[x.log,x.keys,x.lists,x.xV]
def kp.z:kp:=⟨.pointer none,.map none,.slice none 0 0,.map none⟩
instance(x:kp)(y:aj):bH 0 [y] x.c ({x with log:=y}:kp).c:=⟨rfl⟩
instance(x:kp)(y:aj):bH 1 [y] x.c ({x with keys:=y}:kp).c:=⟨rfl⟩
instance(x:kp)(y:aj):bH 2 [y] x.c ({x with lists:=y}:kp).c:=⟨rfl⟩
instance(x:kp)(y:aj):bH 3 [y] x.c ({x with xV:=y}:kp).c:=⟨rfl⟩
structure mR where
 GA:aj
 n:Int
 rows:aj
def mR.c(x:mR):ab aj:=[x.GA,.int .i64 x.n,x.rows]
def mR.z:mR:=⟨.pointer none,0,.pointer none⟩
instance(x:mR)(y:aj):bH 0 [y] x.c ({x with GA:=y}:mR).c:=⟨rfl⟩
instance(x:mR)(y:Int):bH 1 [.int .i64 y] x.c ({x with n:=y}:mR).c:=⟨rfl⟩
instance(x:mR)(y:aj):bH 2 [y] x.c ({x with rows:=y}:mR).c:=⟨rfl⟩
structure b2 where
 bc:Int
 bI:Int
 Bytes:ab aS
 deriving DecidableEq
def b2.c(x:b2):ab aj:=[.int .i64 x.bc,.int .i64 x.bI,S x.Bytes]
def b2.z:b2:=⟨0,0,[]⟩
instance:Inhabited b2:=⟨b2.z⟩
def b2.J':jU b2.c:=λ_=>rfl
def b2.len(x:b2):x.c.length=3:=rfl
instance(x:b2):fk 0 3 x.c x.c:=⟨rfl⟩
instance(x y:b2):bH 0 x.c y.c x.c:=⟨rfl⟩
instance(x:b2)(y:Int):bH 0 [.int .i64 y] x.c ({x with bc:=y}:b2).c:=⟨rfl⟩
instance(x:b2)(y:Int):bH 1 [.int .i64 y] x.c ({x with bI:=y}:b2).c:=⟨rfl⟩
instance(x:b2)(y:ab aS):bH 2 [S y] x.c ({x with Bytes:=y}:b2).c:=⟨rfl⟩
structure mr where
 data:aj
 safe:Int
def mr.c(x:mr):ab aj:=[x.data,.int .i64 x.safe]
def mr.z:mr:=⟨.slice none 0 0,0⟩
instance(x:mr)(y:aj):bH 0 [y] x.c ({x with data:=y}:mr).c:=⟨rfl⟩
instance(x:mr)(y:Int):bH 1 [.int .i64 y] x.c ({x with safe:=y}:mr).c:=⟨rfl⟩
structure aD where
 Kind:Int
 bc:Int
 bI:Int
 Item:ag
 bC:bp
 bZ:bp
 Status:Int
 cZ:Bool
 Call:aO
 deriving DecidableEq
def aD.c(x:aD):ab aj:=[.int .i64 x.Kind,.int .i64 x.bc,.int .i64 x.bI]++(x.Item.c++(x.bC.c++(x.bZ.c++([.int .i64 x.Status,.bool x.cZ]++(x.Call.c)))))
def aD.z:aD:=⟨0,0,0,ag.z,bp.z,bp.z,0,false,aO.z⟩
def aD.J':jU aD.c:=λ_=>rfl
def aD.len(x:aD):x.c.length=25:=rfl
instance(x:aD):fk 0 25 x.c x.c:=⟨rfl⟩
instance(x y:aD):bH 0 x.c y.c x.c:=⟨rfl⟩
instance(x:aD)(y:Int):bH 0 [.int .i64 y] x.c ({x with Kind:=y}:aD).c:=⟨rfl⟩
instance(x:aD)(y:Int):bH 1 [.int .i64 y] x.c ({x with bc:=y}:aD).c:=⟨rfl⟩
instance(x:aD)(y:Int):bH 2 [.int .i64 y] x.c ({x with bI:=y}:aD).c:=⟨rfl⟩
instance(x:aD):fk 3 2 x.c x.Item.c:=⟨rfl⟩
instance(x:aD)(y:ag):bH 3 y.c x.c ({x with Item:=y}:aD).c:=⟨rfl⟩
instance(x:aD):fk 5 2 x.c x.bC.c:=⟨rfl⟩
instance(x:aD)(y:bp):bH 5 y.c x.c ({x with bC:=y}:aD).c:=⟨rfl⟩
instance(x:aD):fk 7 2 x.c x.bZ.c:=⟨rfl⟩
instance(x:aD)(y:bp):bH 7 y.c x.c ({x with bZ:=y}:aD).c:=⟨rfl⟩
instance(x:aD)(y:Int):bH 9 [.int .i64 y] x.c ({x with Status:=y}:aD).c:=⟨rfl⟩
instance(x:aD)(y:Bool):bH 10 [.bool y] x.c ({x with cZ:=y}:aD).c:=⟨rfl⟩
instance(x:aD):fk 11 14 x.c x.Call.c:=⟨rfl⟩
instance(x:aD)(y:aO):bH 11 y.c x.c ({x with Call:=y}:aD).c:=⟨rfl⟩
instance(x:aD):fk 11 6 x.c x.Call.cv.c:=⟨rfl⟩
structure nn where
 n:Int
 self:Int
 due:aj
 tries:aj
def nn.c(x:nn):ab aj:=[.int .i64 x.n,.int .i64 x.self,x.due,x.tries]
def nn.z:nn:=⟨0,0,.pointer none,.map none⟩
instance(x:nn)(y:Int):bH 0 [.int .i64 y] x.c ({x with n:=y}:nn).c:=⟨rfl⟩
instance(x:nn)(y:Int):bH 1 [.int .i64 y] x.c ({x with self:=y}:nn).c:=⟨rfl⟩
instance(x:nn)(y:aj):bH 2 [y] x.c ({x with due:=y}:nn).c:=⟨rfl⟩
instance(x:nn)(y:aj):bH 3 [y] x.c ({x with tries:=y}:nn).c:=⟨rfl⟩
structure p0 where
 graph:aj
 done:aj
 open_:aj
def p0.c(x:p0):ab aj:=[x.graph,x.done,x.open_]
def p0.z:p0:=⟨.pointer none,.slice none 0 0,.slice none 0 0⟩
instance(x:p0)(y:aj):bH 0 [y] x.c ({x with graph:=y}:p0).c:=⟨rfl⟩
instance(x:p0)(y:aj):bH 1 [y] x.c ({x with done:=y}:p0).c:=⟨rfl⟩
instance(x:p0)(y:aj):bH 2 [y] x.c ({x with open_:=y}:p0).c:=⟨rfl⟩
structure np where
 GB:aj
 xV:aj
 count:Int
def np.c(x:np):ab aj:=[x.GB,x.xV,.int .i64 x.count]
def np.z:np:=⟨.pointer none,.map none,0⟩
instance(x:np)(y:aj):bH 0 [y] x.c ({x with GB:=y}:np).c:=⟨rfl⟩
instance(x:np)(y:aj):bH 1 [y] x.c ({x with xV:=y}:np).c:=⟨rfl⟩
instance(x:np)(y:Int):bH 2 [.int .i64 y] x.c ({x with count:=y}:np).c:=⟨rfl⟩
structure gB where
 out:aj
def gB.c(x:gB):ab aj:=[x.out]
def gB.z:gB:=⟨.slice none 0 0⟩
instance(x:gB)(y:aj):bH 0 [y] x.c ({x with out:=y}:gB).c:=⟨rfl⟩
structure lz where
 list:aj
 jT:Int
def lz.c(x:lz):ab aj:=[x.list,.int .i64 x.jT]
def lz.z:lz:=⟨.slice none 0 0,0⟩
instance(x:lz)(y:aj):bH 0 [y] x.c ({x with list:=y}:lz).c:=⟨rfl⟩
instance(x:lz)(y:Int):bH 1 [.int .i64 y] x.c ({x with jT:=y}:lz).c:=⟨rfl⟩
structure qx where
 calls:aj
 done:aj
def qx.c(x:qx):ab aj:=[x.calls,x.done]
def qx.z:qx:=⟨.pointer none,.pointer none⟩
instance(x:qx)(y:aj):bH 0 [y] x.c ({x with calls:=y}:qx).c:=⟨rfl⟩
instance(x:qx)(y:aj):bH 1 [y] x.c ({x with done:=y}:qx).c:=⟨rfl⟩
structure mS where
 GC:aj
def mS.c(x:mS):ab aj:=[x.GC]
def mS.z:mS:=⟨.map none⟩
instance(x:mS)(y:aj):bH 0 [y] x.c ({x with GC:=y}:mS).c:=⟨rfl⟩
structure bw where
 key:ag
 due:Int
 jT:Int
 deriving DecidableEq
def bw.c(x:bw):ab aj:=x.key.c++([.int .i64 x.due,.int .i64 x.jT])
def bw.z:bw:=⟨ag.z,0,0⟩
def bw.J':jU bw.c:=λ_=>rfl
def bw.len(x:bw):x.c.length=4:=rfl
instance(x:bw):fk 0 4 x.c x.c:=⟨rfl⟩
instance(x y:bw):bH 0 x.c y.c x.c:=⟨rfl⟩
instance(x:bw):fk 0 2 x.c x.key.c:=⟨rfl⟩
instance(x:bw)(y:ag):bH 0 y.c x.c ({x with key:=y}:bw).c:=⟨rfl⟩
instance(x:bw)(y:Int):bH 2 [.int .i64 y] x.c ({x with due:=y}:bw).c:=⟨rfl⟩
instance(x:bw)(y:Int):bH 3 [.int .i64 y] x.c ({x with jT:=y}:bw).c:=⟨rfl⟩
structure nq where
 number:Int
 CL:h7
def nq.c(x:nq):ab aj:=[.int .i64 x.number]++(x.CL.c)
def nq.z:nq:=⟨0,h7.z⟩
instance(x:nq):fk 0 5 x.c x.c:=⟨rfl⟩
instance(x y:nq):bH 0 x.c y.c x.c:=⟨rfl⟩
instance(x:nq)(y:Int):bH 0 [.int .i64 y] x.c ({x with number:=y}:nq).c:=⟨rfl⟩
instance(x:nq):fk 1 4 x.c x.CL.c:=⟨rfl⟩
instance(x:nq)(y:h7):bH 1 y.c x.c ({x with CL:=y}:nq).c:=⟨rfl⟩
structure xW where
 call:Bool
 known:Bool
 deriving DecidableEq
def xW.c(x:xW):ab aj:=[.bool x.call,.bool x.known]
def xW.z:xW:=⟨false,false⟩
structure fd where
 k2:ab aS
 pn:Bool
 deriving DecidableEq
def fd.c(x:fd):ab aj:=[S x.k2,.bool x.pn]
def fd.z:fd:=⟨[],false⟩
instance(x:fd)(y:ab aS):bH 0 [S y] x.c ({x with k2:=y}:fd).c:=⟨rfl⟩
instance(x:fd)(y:Bool):bH 1 [.bool y] x.c ({x with pn:=y}:fd).c:=⟨rfl⟩
structure jY where
 graph:aj
 index:aj
 low:aj
 on:aj
 stack:aj
 gk:aj
 parts:aj
 missing:aj
def jY.c(x:jY):ab aj:=[x.graph,x.index,x.low,x.on,x.stack,x.gk,x.parts,x.missing]
def jY.z:jY:=⟨.pointer none,.map none,.map none,.map none,.slice none 0 0,.slice none 0 0,.slice none 0 0,.slice none 0 0⟩
instance(x:jY)(y:aj):bH 0 [y] x.c ({x with graph:=y}:jY).c:=⟨rfl⟩
instance(x:jY)(y:aj):bH 1 [y] x.c ({x with index:=y}:jY).c:=⟨rfl⟩
instance(x:jY)(y:aj):bH 2 [y] x.c ({x with low:=y}:jY).c:=⟨rfl⟩
instance(x:jY)(y:aj):bH 3 [y] x.c ({x with on:=y}:jY).c:=⟨rfl⟩
instance(x:jY)(y:aj):bH 4 [y] x.c ({x with stack:=y}:jY).c:=⟨rfl⟩
instance(x:jY)(y:aj):bH 5 [y] x.c ({x with gk:=y}:jY).c:=⟨rfl⟩
instance(x:jY)(y:aj):bH 6 [y] x.c ({x with parts:=y}:jY).c:=⟨rfl⟩
instance(x:jY)(y:aj):bH 7 [y] x.c ({x with missing:=y}:jY).c:=⟨rfl⟩
structure fe where
 Key:ab aS
 Value:ab aS
 Version:Int
 deriving DecidableEq
def fe.c(x:fe):ab aj:=[S x.Key,S x.Value,.int .i64 x.Version]
def fe.z:fe:=⟨[],[],0⟩
instance(x:fe):fk 0 3 x.c x.c:=⟨rfl⟩
instance(x y:fe):bH 0 x.c y.c x.c:=⟨rfl⟩
instance(x:fe)(y:ab aS):bH 0 [S y] x.c ({x with Key:=y}:fe).c:=⟨rfl⟩
instance(x:fe)(y:ab aS):bH 1 [S y] x.c ({x with Value:=y}:fe).c:=⟨rfl⟩
instance(x:fe)(y:Int):bH 2 [.int .i64 y] x.c ({x with Version:=y}:fe).c:=⟨rfl⟩
structure rk where
 item:ag
 next:aj
def rk.c(x:rk):ab aj:=x.item.c++([x.next])
def rk.z:rk:=⟨ag.z,.slice none 0 0⟩
instance(x:rk)(y:ag):bH 0 y.c x.c ({x with item:=y}:rk).c:=⟨rfl⟩
instance(x:rk)(y:aj):bH 2 [y] x.c ({x with next:=y}:rk).c:=⟨rfl⟩
def p1(l:ab aD)(h:ab Bool)(n:Int):ab aj:=l.flatMap aD.c++(h.map (λb=>B b)++[I n])
def ty(l:ab Bool)(h:ab Bool)(n:Int):ab aj:=l.map (λb=>B b)++(h.map (λb=>B b)++[I n])
structure a6 where
 n:Int
 self:Int
 item:ag
 bm:bp
 call:aO
 phase:Int
 pl:ab aD
 dj:ab Bool
 eA:Int
 ol:ab Bool
 fN:ab Bool
 gz:Int
def a6.c(x:a6):ab aj:=[.int .i64 x.n,.int .i64 x.self]++(x.item.c++(x.bm.c++(x.call.c++([.int .i64 x.phase]++(p1 x.pl x.dj x.eA++ty x.ol x.fN x.gz)))))
def a6.z:a6:=⟨0,0,ag.z,bp.z,aO.z,0,List.replicate 7 aD.z,List.replicate 7 false,0,List.replicate 7 false,List.replicate 7 false,0⟩
instance(x:a6)(y:Int):bH 0 [.int .i64 y] x.c ({x with n:=y}:a6).c:=⟨rfl⟩
instance(x:a6)(y:Int):bH 1 [.int .i64 y] x.c ({x with self:=y}:a6).c:=⟨rfl⟩
instance(x:a6)(y:Int):bH 20 [.int .i64 y] x.c ({x with phase:=y}:a6).c:=⟨rfl⟩
instance(x:a6):fk 2 2 x.c x.item.c:=⟨rfl⟩
instance(x:a6)(y:ag):bH 2 y.c x.c ({x with item:=y}:a6).c:=⟨rfl⟩
instance(x:a6):fk 4 2 x.c x.bm.c:=⟨rfl⟩
instance(x:a6)(y:bp):bH 4 y.c x.c ({x with bm:=y}:a6).c:=⟨rfl⟩
instance(x:a6):fk 6 14 x.c x.call.c:=⟨rfl⟩
instance(x:a6)(y:aO):bH 6 y.c x.c ({x with call:=y}:a6).c:=⟨rfl⟩
structure b0 where
 n:Int
 self:Int
 item:ag
 bm:bp
 lost:Bool
 fv:ab aD
 ee:ab Bool
 eP:Int
 next:aj
def b0.c(x:b0):ab aj:=[.int .i64 x.n,.int .i64 x.self]++(x.item.c++(x.bm.c++([.bool x.lost]++(p1 x.fv x.ee x.eP++[x.next]))))
def b0.z:b0:=⟨0,0,ag.z,bp.z,false,List.replicate 7 aD.z,List.replicate 7 false,0,.pointer none⟩
instance(x:b0)(y:Int):bH 0 [.int .i64 y] x.c ({x with n:=y}:b0).c:=⟨rfl⟩
instance(x:b0)(y:Int):bH 1 [.int .i64 y] x.c ({x with self:=y}:b0).c:=⟨rfl⟩
instance(x:b0)(y:Bool):bH 6 [.bool y] x.c ({x with lost:=y}:b0).c:=⟨rfl⟩
instance(x:b0):fk 2 2 x.c x.item.c:=⟨rfl⟩
instance(x:b0)(y:ag):bH 2 y.c x.c ({x with item:=y}:b0).c:=⟨rfl⟩
instance(x:b0):fk 4 2 x.c x.bm.c:=⟨rfl⟩
instance(x:b0)(y:bp):bH 4 y.c x.c ({x with bm:=y}:b0).c:=⟨rfl⟩
abbrev bR:Go.Value:=.slice none 0 0
abbrev bl:Go.Value:=.bool false
abbrev b7:Go.Value:=.int .i64 0
abbrev eQ:Go.Value:=.pointer none
abbrev jH:Go.Value:=.map none
abbrev jI:Go.Value:=Go.az.S []
abbrev nW:Go.Value:=.int .u8 0
abbrev rl:Go.Value:=.int .u64 0
abbrev uU:Go.Value:=.int .i32 0
def GD:ab (Nat×ab aj):=[(2,[b7]),(3,[b7]),(4,[bl]),(5,[nW]),(6,[nW]),(7,[b7,b7,bl,nW]),(8,[b7,b7,bl,nW]),(9,[jI]),(10,[jI]),(11,[jI]),(12,[rl]),(13,[jI,rl]),(14,[jI,rl]),(15,[eQ]),(16,[eQ]),(17,[eQ]),(18,[eQ]),(19,[eQ]),(21,[uU]),(22,[bR]),(25,[eQ]),(27,[jH]),(28,[b7,jI,jI,b7,b7,b7]),(29,bF.z.c),(30,[b7,b7,b7,jI,jI,b7,b7,b7,b7,b7,nW]),(31,ea.z.c),(35,[eQ]),(36,[eQ]),(37,[eQ]),(38,[jH]),(39,[jH]),(40,[eQ,b7,jH,jH,b7]),(41,jF.z.c),(45,[b7,b7]),(46,ag.z.c),(47,[b7,b7]),(48,bp.z.c),(49,[b7,b7,b7,b7,b7,b7,b7]),(50,b4.z.c),(51,[b7,jI,jI,b7,b7,b7,b7,b7,b7,b7,b7,b7,b7,b7]),(52,aO.z.c),(53,[b7,b7,b7,b7,b7,b7,jI,jI,b7,b7,b7,b7,b7,b7,b7,b7,b7,b7,b7,bl]),(54,aY.z.c),(57,[jH]),(58,[bR]),(60,[b7]),(61,[bR]),(62,[b7,jI,b7,bR]),(63,h7.z.c),(64,[b7,b7,b7,jI,b7,bR]),(65,pZ.z.c),(66,[b7,b7,b7,jI,b7,bR,b7,b7]),(67,wo.z.c),(73,[bR]),(81,[bR]),(82,[bR]),(83,[eQ]),(84,[b7,bR,bR,eQ,b7,bR]),(85,ly.z.c),(86,[jH]),(87,[jH]),(88,[eQ]),(89,[eQ]),(90,[eQ]),(91,[jH]),(92,[bR]),(93,[bR]),(94,[b7,b7,b7,eQ,jH,jH,eQ,eQ,eQ,jH,jH,bR,bR,bR]),(95,gO.z.c),(96,[eQ]),(97,[jH]),(98,[bR]),(99,[jH]),(100,[eQ,jH,bR,jH]),(101,kp.z.c),(109,[bR]),(112,[eQ]),(117,[eQ]),(119,[eQ,b7,eQ]),(120,mR.z.c),(123,[bl,bl,bl,bl,bl,bl,bl]),(124,[bl,bl,bl,bl,bl,bl,bl,bl,bl,bl,bl,bl,bl,bl,bl,bl,bl,bl,bl,bl,bl,bl,bl,bl,bl,bl,bl,bl,bl,bl,bl,bl,bl,bl,bl,bl,bl,bl,bl,bl,bl,bl,bl,bl,bl,bl,bl,bl,bl]),(125,[bR,bl,bl,bl,bl,bl,bl,bl,bl,bl,bl,bl,bl,bl,bl,bl,bl,bl,bl,bl,bl,bl,bl,bl,bl,bl,bl,bl,bl,bl,bl,bl,bl,bl,bl,bl,bl,bl,bl,bl,bl,bl,bl,bl,bl,bl,bl,bl,bl,bl,b7]),(126,[bR,bl,bl,bl,bl,bl,bl,bl,bl,bl,bl,bl,bl,bl,bl,bl,bl,bl,bl,bl,bl,bl,bl,bl,bl,bl,bl,bl,bl,bl,bl,bl,bl,bl,bl,bl,bl,bl,bl,bl,bl,bl,bl,bl,bl,bl,bl,bl,bl,bl,b7]),(132,[eQ]),(135,[b7]),(142,[b7,b7,jI]),(143,b2.z.c),(154,[bR]),(155,[bR,b7]),(156,mr.z.c),(164,[bR]),(165,[bR]),(166,[bR,bR,bR,bR,bR,bR,bR]),(167,[bR,bR,bR,bR,bR,bR,bR]),(168,[b7,bR,bR,bR,bR,bR,bR,bR,bR,bR,bR,bR,bR,bR,bR]),(169,[b7,bR,bR,bR,bR,bR,bR,bR,bR,bR,bR,bR,bR,bR,bR]),(175,[b7,b7,b7,b7,b7,b7,b7,b7,b7,b7,bl,b7,jI,jI,b7,b7,b7,b7,b7,b7,b7,b7,b7,b7,b7]),(176,aD.z.c),(179,p1 (List.replicate 7 aD.z) (List.replicate 7 false) 0),(180,[bl,bl,bl,bl,bl,bl,bl,bl,bl,bl,bl,bl,bl,bl,b7]),(181,[bl,bl,bl,bl,bl,bl,bl,bl,bl,bl,bl,bl,bl,bl,b7]),(183,a6.z.c),(192,[eQ]),(193,[b7,b7,eQ,jH]),(194,nn.z.c),(196,[eQ]),(204,[eQ]),(206,[eQ,bR,bR]),(207,p0.z.c),(208,[eQ]),(210,[jH]),(211,[eQ,jH,b7]),(212,np.z.c),(226,[bR]),(229,[eQ]),(230,[bR]),(231,gB.z.c),(239,[eQ]),(243,b0.z.c),(244,[bR]),(252,[bR]),(253,[bR,b7]),(254,lz.z.c),(255,[eQ]),(257,[eQ]),(259,[eQ,eQ]),(260,qx.z.c),(261,[jH]),(262,[jH]),(263,mS.z.c),(268,[rl]),(270,[b7,b7,b7,b7]),(271,bw.z.c),(280,[b7,b7,jI,b7,bR]),(281,nq.z.c),(285,[bl,bl]),(286,xW.z.c),(287,[bl,bl,bl,bl,bl,bl,bl,bl,bl,bl,bl,bl,bl,bl,bl,bl,bl,bl]),(296,[.int .u32 0]),(305,[jI,bl]),(306,fd.z.c),(311,[eQ]),(320,[bR]),(321,[bR,bR,bR,bR,bR,bR,bR]),(322,[b7,bR,bR,bR,bR,bR,bR,bR,bR,bR,bR,bR,bR,bR,bR]),(323,[b7,bR,bR,bR,bR,bR,bR,bR,bR,bR,bR,bR,bR,bR,bR]),(324,[b7,bR,bR,bR,bR,bR,bR,bR,bR,bR,bR,bR,bR,bR,bR]),(325,[b7,bR,bR,bR,bR,bR,bR,bR,bR,bR,bR,bR,bR,bR,bR]),(327,[b7]),(335,[rl]),(340,[eQ]),(341,[bR]),(342,[eQ,jH,jH,jH,bR,bR,bR,bR]),(343,jY.z.c),(345,[jI,jI,b7]),(346,fe.z.c),(365,[rl]),(369,[eQ]),(374,[b7,b7,bR]),(375,rk.z.c),(376,[eQ]),(386,[b7]),(389,[eQ]),(390,[bR]),(391,[eQ]),(413,[eQ,eQ,eQ,jI]),(414,[eQ,eQ,eQ,jI]),(415,[]),(416,[]),(417,[]),(418,[nW]),(419,[nW]),(421,[eQ]),(422,[uU]),(423,[uU]),(424,[rl,rl,.int .u32 0,nW,nW,nW,nW,.nilFunc,eQ,uU,uU]),(425,[rl,rl,.int .u32 0,nW,nW,nW,nW,.nilFunc,eQ,uU,uU])]
set_option maxRecDepth 100000 in
def alT:v1 prog GD:=⟨Vw,Vw,Vw,Vw,Vw,Vw,Vw,Vw,Vw,Vw,Vw,Vw,Vw,Vw,Vw,Vw,Vw,Vw,Vw,Vw,Vw,Vw,Vw,Vw,Vw,Vw,Vw,Vw,Vw,Vw,Vw,Vw,Vw,Vw,Vw,Vw,Vw,Vw,Vw,Vw,Vw,Vw,Vw,Vw,Vw,Vw,Vw,Vw,Vw,Vw,Vw,Vw,Vw,Vw,Vw,Vw,Vw,Vw,Vw,Vw,Vw,Vw,Vw,Vw,Vw,Vw,Vw,Vw,Vw,Vw,Vw,Vw,Vw,Vw,Vw,Vw,Vw,Vw,Vw,Vw,Vw,Vw,Vw,Vw,Vw,Vw,Vw,Vw,Vw,Vw,Vw,Vw,Vw,Vw,Vw,Vw,Vw,Vw,Vw,Vw,Vw,Vw,Vw,Vw,Vw,Vw,Vw,Vw,Vw,Vw,Vw,Vw,Vw,Vw,Vw,Vw,Vw,Vw,Vw,Vw,Vw,Vw,Vw,Vw,Vw,Vw,Vw,Vw,Vw,Vw,Vw,Vw,Vw,Vw,Vw,Vw,Vw,Vw,Vw,Vw,Vw,Vw,Vw,Vw,Vw,Vw,Vw,Vw,Vw,Vw,Vw,Vw,Vw,Vw,Vw,Vw,Vw,Vw,Vw,Vw,Vw,Vw,Vw,Vw,Vw,Vw,Vw,Vw,Vw,Vw,Vw,Vw,Vw,Vw,Vw,Vw,Vw,Vw,trivial⟩
def ad:cj prog where
 r6:=[(7,0,0),(7,1,1),(7,2,2),(7,3,3),(8,0,0),(8,1,1),(8,2,2),(8,3,3),(13,0,0),(13,1,1),(14,0,0),(14,1,1),(18,0,0),(19,0,0),(28,0,0),(28,1,1),(28,2,2),(28,3,3),(28,4,4),(28,5,5),(29,0,0),(29,1,1),(29,2,2),(29,3,3),(29,4,4),(29,5,5),(30,0,0),(30,1,1),(30,2,2),(30,3,8),(30,4,9),(30,5,10),(31,0,0),(31,1,1),(31,2,2),(31,3,8),(31,4,9),(31,5,10),(40,0,0),(40,1,1),(40,2,2),(40,3,3),(40,4,4),(41,0,0),(41,1,1),(41,2,2),(41,3,3),(41,4,4),(45,0,0),(45,1,1),(46,0,0),(46,1,1),(47,0,0),(47,1,1),(48,0,0),(48,1,1),(51,0,0),(51,1,6),(51,2,13),(52,0,0),(52,1,6),(52,2,13),(53,0,0),(53,1,2),(53,2,4),(53,3,5),(53,4,19),(54,0,0),(54,1,2),(54,2,4),(54,3,5),(54,4,19),(62,0,0),(62,1,1),(62,2,2),(62,3,3),(63,0,0),(63,1,1),(63,2,2),(63,3,3),(64,0,0),(64,1,2),(65,0,0),(65,1,2),(66,0,0),(66,1,6),(66,2,7),(67,0,0),(67,1,6),(67,2,7),(84,0,0),(84,1,1),(84,2,2),(84,3,3),(84,4,4),(84,5,5),(85,0,0),(85,1,1),(85,2,2),(85,3,3),(85,4,4),(85,5,5),(94,0,0),(94,1,1),(94,2,2),(94,3,3),(94,4,4),(94,5,5),(94,6,6),(94,7,7),(94,8,8),(94,9,9),(94,10,10),(94,11,11),(94,12,12),(94,13,13),(95,0,0),(95,1,1),(95,2,2),(95,3,3),(95,4,4),(95,5,5),(95,6,6),(95,7,7),(95,8,8),(95,9,9),(95,10,10),(95,11,11),(95,12,12),(95,13,13),(100,0,0),(100,1,1),(100,2,2),(100,3,3),(101,0,0),(101,1,1),(101,2,2),(101,3,3),(119,0,0),(119,1,1),(119,2,2),(120,0,0),(120,1,1),(120,2,2),(125,0,0),(125,1,1),(125,2,50),(126,0,0),(126,1,1),(126,2,50),(142,0,0),(142,1,1),(142,2,2),(143,0,0),(143,1,1),(143,2,2),(155,0,0),(155,1,1),(156,0,0),(156,1,1),(168,0,0),(168,1,1),(168,2,8),(169,0,0),(169,1,1),(169,2,8),(175,0,0),(175,1,1),(175,2,2),(175,3,3),(175,4,5),(175,5,7),(175,6,9),(175,7,10),(175,8,11),(176,0,0),(176,1,1),(176,2,2),(176,3,3),(176,4,5),(176,5,7),(176,6,9),(176,7,10),(176,8,11),(178,0,0),(178,1,175),(178,2,182),(179,0,0),(179,1,175),(179,2,182),(180,0,0),(180,1,7),(180,2,14),(181,0,0),(181,1,7),(181,2,14),(182,0,0),(182,1,1),(182,2,2),(182,3,4),(182,4,6),(182,5,20),(182,6,21),(182,7,204),(183,0,0),(183,1,1),(183,2,2),(183,3,4),(183,4,6),(183,5,20),(183,6,21),(183,7,204),(193,0,0),(193,1,1),(193,2,2),(193,3,3),(194,0,0),(194,1,1),(194,2,2),(194,3,3),(206,0,0),(206,1,1),(206,2,2),(207,0,0),(207,1,1),(207,2,2),(211,0,0),(211,1,1),(211,2,2),(212,0,0),(212,1,1),(212,2,2),(230,0,0),(231,0,0),(242,0,0),(242,1,1),(242,2,2),(242,3,4),(242,4,6),(242,5,7),(242,6,190),(243,0,0),(243,1,1),(243,2,2),(243,3,4),(243,4,6),(243,5,7),(243,6,190),(253,0,0),(253,1,1),(254,0,0),(254,1,1),(259,0,0),(259,1,1),(260,0,0),(260,1,1),(262,0,0),(263,0,0),(270,0,0),(270,1,2),(270,2,3),(271,0,0),(271,1,2),(271,2,3),(280,0,0),(280,1,1),(281,0,0),(281,1,1),(285,0,0),(285,1,1),(286,0,0),(286,1,1),(305,0,0),(305,1,1),(306,0,0),(306,1,1),(322,0,0),(322,1,1),(322,2,8),(323,0,0),(323,1,1),(323,2,8),(324,0,0),(324,1,1),(324,2,8),(325,0,0),(325,1,1),(325,2,8),(342,0,0),(342,1,1),(342,2,2),(342,3,3),(342,4,4),(342,5,5),(342,6,6),(342,7,7),(343,0,0),(343,1,1),(343,2,2),(343,3,3),(343,4,4),(343,5,5),(343,6,6),(343,7,7),(345,0,0),(345,1,1),(345,2,2),(346,0,0),(346,1,1),(346,2,2),(374,0,0),(374,1,2),(375,0,0),(375,1,2),(413,0,0),(413,1,1),(413,2,2),(413,3,3),(414,0,0),(414,1,1),(414,2,2),(414,3,3),(424,0,0),(424,1,1),(424,2,2),(424,3,3),(424,4,4),(424,5,5),(424,6,6),(424,7,7),(424,8,8),(424,9,9),(424,10,10),(425,0,0),(425,1,1),(425,2,2),(425,3,3),(425,4,4),(425,5,5),(425,6,6),(425,7,7),(425,8,8),(425,9,9),(425,10,10)]
 xH:=[(7,0,1),(7,1,1),(7,2,1),(7,3,1),(8,0,1),(8,1,1),(8,2,1),(8,3,1),(13,0,1),(13,1,1),(14,0,1),(14,1,1),(18,0,1),(19,0,1),(28,0,1),(28,1,1),(28,2,1),(28,3,1),(28,4,1),(28,5,1),(29,0,1),(29,1,1),(29,2,1),(29,3,1),(29,4,1),(29,5,1),(30,0,1),(30,1,1),(30,2,6),(30,3,1),(30,4,1),(30,5,1),(31,0,1),(31,1,1),(31,2,6),(31,3,1),(31,4,1),(31,5,1),(40,0,1),(40,1,1),(40,2,1),(40,3,1),(40,4,1),(41,0,1),(41,1,1),(41,2,1),(41,3,1),(41,4,1),(45,0,1),(45,1,1),(46,0,1),(46,1,1),(47,0,1),(47,1,1),(48,0,1),(48,1,1),(51,0,6),(51,1,7),(51,2,1),(52,0,6),(52,1,7),(52,2,1),(53,0,2),(53,1,2),(53,2,1),(53,3,14),(53,4,1),(54,0,2),(54,1,2),(54,2,1),(54,3,14),(54,4,1),(62,0,1),(62,1,1),(62,2,1),(62,3,1),(63,0,1),(63,1,1),(63,2,1),(63,3,1),(64,0,2),(64,1,4),(65,0,2),(65,1,4),(66,0,6),(66,1,1),(66,2,1),(67,0,6),(67,1,1),(67,2,1),(84,0,1),(84,1,1),(84,2,1),(84,3,1),(84,4,1),(84,5,1),(85,0,1),(85,1,1),(85,2,1),(85,3,1),(85,4,1),(85,5,1),(94,0,1),(94,1,1),(94,2,1),(94,3,1),(94,4,1),(94,5,1),(94,6,1),(94,7,1),(94,8,1),(94,9,1),(94,10,1),(94,11,1),(94,12,1),(94,13,1),(95,0,1),(95,1,1),(95,2,1),(95,3,1),(95,4,1),(95,5,1),(95,6,1),(95,7,1),(95,8,1),(95,9,1),(95,10,1),(95,11,1),(95,12,1),(95,13,1),(100,0,1),(100,1,1),(100,2,1),(100,3,1),(101,0,1),(101,1,1),(101,2,1),(101,3,1),(119,0,1),(119,1,1),(119,2,1),(120,0,1),(120,1,1),(120,2,1),(125,0,1),(125,1,49),(125,2,1),(126,0,1),(126,1,49),(126,2,1),(142,0,1),(142,1,1),(142,2,1),(143,0,1),(143,1,1),(143,2,1),(155,0,1),(155,1,1),(156,0,1),(156,1,1),(168,0,1),(168,1,7),(168,2,7),(169,0,1),(169,1,7),(169,2,7),(175,0,1),(175,1,1),(175,2,1),(175,3,2),(175,4,2),(175,5,2),(175,6,1),(175,7,1),(175,8,14),(176,0,1),(176,1,1),(176,2,1),(176,3,2),(176,4,2),(176,5,2),(176,6,1),(176,7,1),(176,8,14),(178,0,175),(178,1,7),(178,2,1),(179,0,175),(179,1,7),(179,2,1),(180,0,7),(180,1,7),(180,2,1),(181,0,7),(181,1,7),(181,2,1),(182,0,1),(182,1,1),(182,2,2),(182,3,2),(182,4,14),(182,5,1),(182,6,183),(182,7,15),(183,0,1),(183,1,1),(183,2,2),(183,3,2),(183,4,14),(183,5,1),(183,6,183),(183,7,15),(193,0,1),(193,1,1),(193,2,1),(193,3,1),(194,0,1),(194,1,1),(194,2,1),(194,3,1),(206,0,1),(206,1,1),(206,2,1),(207,0,1),(207,1,1),(207,2,1),(211,0,1),(211,1,1),(211,2,1),(212,0,1),(212,1,1),(212,2,1),(230,0,1),(231,0,1),(242,0,1),(242,1,1),(242,2,2),(242,3,2),(242,4,1),(242,5,183),(242,6,1),(243,0,1),(243,1,1),(243,2,2),(243,3,2),(243,4,1),(243,5,183),(243,6,1),(253,0,1),(253,1,1),(254,0,1),(254,1,1),(259,0,1),(259,1,1),(260,0,1),(260,1,1),(262,0,1),(263,0,1),(270,0,2),(270,1,1),(270,2,1),(271,0,2),(271,1,1),(271,2,1),(280,0,1),(280,1,4),(281,0,1),(281,1,4),(285,0,1),(285,1,1),(286,0,1),(286,1,1),(305,0,1),(305,1,1),(306,0,1),(306,1,1),(322,0,1),(322,1,7),(322,2,7),(323,0,1),(323,1,7),(323,2,7),(324,0,1),(324,1,7),(324,2,7),(325,0,1),(325,1,7),(325,2,7),(342,0,1),(342,1,1),(342,2,1),(342,3,1),(342,4,1),(342,5,1),(342,6,1),(342,7,1),(343,0,1),(343,1,1),(343,2,1),(343,3,1),(343,4,1),(343,5,1),(343,6,1),(343,7,1),(345,0,1),(345,1,1),(345,2,1),(346,0,1),(346,1,1),(346,2,1),(374,0,2),(374,1,1),(375,0,2),(375,1,1),(413,0,1),(413,1,1),(413,2,1),(413,3,1),(414,0,1),(414,1,1),(414,2,1),(414,3,1),(424,0,1),(424,1,1),(424,2,1),(424,3,1),(424,4,1),(424,5,1),(424,6,1),(424,8,1),(424,9,1),(424,10,1),(425,0,1),(425,1,1),(425,2,1),(425,3,1),(425,4,1),(425,5,1),(425,6,1),(425,8,1),(425,9,1),(425,10,1)]
 fw:=[(22,31),(58,67),(61,9),(73,143),(81,112),(82,36),(92,176),(93,65),(98,46),(109,3),(154,5),(164,4),(165,54),(226,98),(244,48),(252,271),(320,52),(341,375),(390,50)]
 ht:=[(2,1),(3,1),(4,1),(5,1),(6,1),(7,4),(8,4),(9,1),(10,1),(11,1),(12,1),(13,2),(14,2),(15,1),(16,1),(17,1),(18,1),(19,1),(21,1),(22,1),(25,1),(27,1),(28,6),(29,6),(30,11),(31,11),(35,1),(36,1),(37,1),(38,1),(39,1),(40,5),(41,5),(45,2),(46,2),(47,2),(48,2),(49,7),(50,7),(51,14),(52,14),(53,20),(54,20),(57,1),(58,1),(60,1),(61,1),(62,4),(63,4),(64,6),(65,6),(66,8),(67,8),(73,1),(81,1),(82,1),(83,1),(84,6),(85,6),(86,1),(87,1),(88,1),(89,1),(90,1),(91,1),(92,1),(93,1),(94,14),(95,14),(96,1),(97,1),(98,1),(99,1),(100,4),(101,4),(109,1),(112,1),(117,1),(119,3),(120,3),(123,7),(124,49),(125,51),(126,51),(132,1),(135,1),(142,3),(143,3),(154,1),(155,2),(156,2),(164,1),(165,1),(166,7),(167,7),(168,15),(169,15),(175,25),(176,25),(177,175),(178,183),(179,183),(180,15),(181,15),(182,219),(183,219),(192,1),(193,4),(194,4),(196,1),(204,1),(206,3),(207,3),(208,1),(210,1),(211,3),(212,3),(226,1),(229,1),(230,1),(231,1),(239,1),(242,191),(243,191),(244,1),(252,1),(253,2),(254,2),(255,1),(257,1),(259,2),(260,2),(261,1),(262,1),(263,1),(268,1),(270,4),(271,4),(280,5),(281,5),(285,2),(286,2),(287,18),(296,1),(305,2),(306,2),(311,1),(320,1),(321,7),(322,15),(323,15),(324,15),(325,15),(327,1),(335,1),(340,1),(341,1),(342,8),(343,8),(345,3),(346,3),(365,1),(369,1),(374,3),(375,3),(376,1),(386,1),(389,1),(390,1),(391,1),(413,4),(414,4),(415,0),(416,0),(417,0),(418,1),(419,1),(421,1),(422,1),(423,1),(424,11),(425,11)]
 agg:=[(7,4),(8,4),(13,2),(14,2),(18,1),(19,1),(28,6),(29,6),(30,11),(31,11),(40,5),(41,5),(45,2),(46,2),(47,2),(48,2),(49,7),(50,7),(51,14),(52,14),(53,20),(54,20),(62,4),(63,4),(64,6),(65,6),(66,8),(67,8),(84,6),(85,6),(94,14),(95,14),(100,4),(101,4),(119,3),(120,3),(123,7),(124,49),(125,51),(126,51),(142,3),(143,3),(155,2),(156,2),(166,7),(167,7),(168,15),(169,15),(175,25),(176,25),(177,175),(178,183),(179,183),(180,15),(181,15),(182,219),(183,219),(193,4),(194,4),(206,3),(207,3),(211,3),(212,3),(230,1),(231,1),(242,191),(243,191),(253,2),(254,2),(259,2),(260,2),(262,1),(263,1),(270,4),(271,4),(280,5),(281,5),(285,2),(286,2),(287,18),(305,2),(306,2),(321,7),(322,15),(323,15),(324,15),(325,15),(342,8),(343,8),(345,3),(346,3),(374,3),(375,3),(413,4),(414,4),(415,0),(416,0),(417,0),(424,11),(425,11)]
 one:=[(2,1),(3,1),(4,1),(5,1),(6,1),(9,1),(10,1),(11,1),(12,1),(15,1),(16,1),(17,1),(21,1),(22,1),(25,1),(27,1),(35,1),(36,1),(37,1),(38,1),(39,1),(57,1),(58,1),(60,1),(61,1),(73,1),(81,1),(82,1),(83,1),(86,1),(87,1),(88,1),(89,1),(90,1),(91,1),(92,1),(93,1),(96,1),(97,1),(98,1),(99,1),(109,1),(112,1),(117,1),(132,1),(135,1),(154,1),(164,1),(165,1),(192,1),(196,1),(204,1),(208,1),(210,1),(226,1),(229,1),(239,1),(244,1),(252,1),(255,1),(257,1),(261,1),(268,1),(296,1),(311,1),(320,1),(327,1),(335,1),(340,1),(341,1),(365,1),(369,1),(376,1),(386,1),(389,1),(390,1),(391,1),(418,1),(419,1),(421,1),(422,1),(423,1)]
 jE:=GD
 ints:=[(2,.i64),(3,.i64),(5,.u8),(6,.u8),(12,.u64),(21,.i32),(60,.i64),(135,.i64),(268,.u64),(296,.u32),(327,.i64),(335,.u64),(365,.u64),(386,.i64),(418,.u8),(419,.u8),(422,.i32),(423,.i32)]
 strs:=[(9,0),(10,0),(11,0)]
 xI:=[(4,0)]
 mO:=[(2,8),(3,8),(4,1),(5,1),(6,1),(7,24),(8,24),(9,16),(10,16),(11,16),(12,8),(13,24),(14,24),(15,8),(16,8),(17,8),(18,8),(19,8),(21,4),(22,24),(25,8),(27,8),(28,64),(29,64),(30,104),(31,104),(35,8),(36,8),(37,8),(38,8),(39,8),(40,40),(41,40),(45,16),(46,16),(47,16),(48,16),(49,56),(50,56),(51,128),(52,128),(53,176),(54,176),(57,8),(58,24),(60,8),(61,24),(62,56),(63,56),(64,72),(65,72),(66,88),(67,88),(73,24),(81,24),(82,24),(83,8),(84,96),(85,96),(86,8),(87,8),(88,8),(89,8),(90,8),(91,8),(92,24),(93,24),(94,160),(95,160),(96,8),(97,8),(98,24),(99,8),(100,48),(101,48),(109,24),(112,8),(117,8),(119,24),(120,24),(123,7),(124,49),(125,88),(126,88),(132,8),(135,8),(142,32),(143,32),(154,24),(155,32),(156,32),(164,24),(165,24),(166,168),(167,168),(168,344),(169,344),(175,216),(176,216),(177,1512),(178,1528),(179,1528),(180,24),(181,24),(182,1736),(183,1736),(192,8),(193,32),(194,32),(196,8),(204,8),(206,56),(207,56),(208,8),(210,8),(211,24),(212,24),(226,24),(229,8),(230,24),(231,24),(239,8),(242,1592),(243,1592),(244,24),(252,24),(253,32),(254,32),(255,8),(257,8),(259,16),(260,16),(261,8),(262,8),(263,8),(268,8),(270,32),(271,32),(280,64),(281,64),(285,2),(286,2),(287,18),(296,4),(305,24),(306,24),(311,8),(320,24),(321,168),(322,344),(323,344),(324,344),(325,344),(327,8),(335,8),(340,8),(341,24),(342,128),(343,128),(345,40),(346,40),(365,8),(369,8),(374,40),(375,40),(376,8),(386,8),(389,8),(390,24),(391,8),(413,40),(414,40),(415,0),(416,0),(417,0),(418,1),(419,1),(421,8),(422,4),(423,4),(424,48),(425,48)]
 arr:=[(49,7,3),(50,7,3),(123,7,4),(124,7,123),(166,7,165),(167,7,164),(177,7,176),(287,9,286),(321,7,320),(415,0,16)]
 FO:=Vw
 FU:=Vw
 FV:=Vw
 FW:=Vw
 FP:=Vw
 FQ:=Vw
 FR:=Vw
 FT:=Vw
 FX:=Vw
 FY:=Vw
 FZ:=Vw
 F0:=alT
def bF.Y'(x y:bF)(d:Nat):dk prog (d+2) 29 (A x.c) (A y.c) (decide (x=y)):=by have h:=dk.struct (P:=prog) (d:=d+1) (T:=29) (xs:=x.c) (pS:=y.c) (l:=[(3,0),(9,1),(9,2),(3,3),(3,4),(3,5)]) Vw ⟨_,_,_,_,.one (ad.V2 (T:=3) rfl) rfl,.one (ad.V2 (T:=3) rfl) rfl,(dk.int (ad.Wn (T:=3) rfl)),⟨_,_,_,_,.one (ad.V2 (T:=9) rfl) rfl,.one (ad.V2 (T:=9) rfl) rfl,(dk.str (ad.W8 (T:=9) rfl)),⟨_,_,_,_,.one (ad.V2 (T:=9) rfl) rfl,.one (ad.V2 (T:=9) rfl) rfl,(dk.str (ad.W8 (T:=9) rfl)),⟨_,_,_,_,.one (ad.V2 (T:=3) rfl) rfl,.one (ad.V2 (T:=3) rfl) rfl,(dk.int (ad.Wn (T:=3) rfl)),⟨_,_,_,_,.one (ad.V2 (T:=3) rfl) rfl,.one (ad.V2 (T:=3) rfl) rfl,(dk.int (ad.Wn (T:=3) rfl)),⟨_,_,_,_,.one (ad.V2 (T:=3) rfl) rfl,.one (ad.V2 (T:=3) rfl) rfl,(dk.int (ad.Wn (T:=3) rfl)),rfl,rfl⟩,rfl⟩,rfl⟩,rfl⟩,rfl⟩,rfl⟩;refine Eq.mp (c7 (dk prog (d+2) 29 (A x.c) (A y.c)) ?_) h;rw[r7];cases x;cases y;simp[bF.mk.injEq]
def ag.Y'(x y:ag)(d:Nat):dk prog (d+2) 46 (A x.c) (A y.c) (decide (x=y)):=by have h:=dk.struct (P:=prog) (d:=d+1) (T:=46) (xs:=x.c) (pS:=y.c) (l:=[(3,0),(3,1)]) Vw ⟨_,_,_,_,.one (ad.V2 (T:=3) rfl) rfl,.one (ad.V2 (T:=3) rfl) rfl,(dk.int (ad.Wn (T:=3) rfl)),⟨_,_,_,_,.one (ad.V2 (T:=3) rfl) rfl,.one (ad.V2 (T:=3) rfl) rfl,(dk.int (ad.Wn (T:=3) rfl)),rfl,rfl⟩,rfl⟩;refine Eq.mp (c7 (dk prog (d+2) 46 (A x.c) (A y.c)) ?_) h;rw[r7];cases x;cases y;simp[ag.mk.injEq]
def bp.Y'(x y:bp)(d:Nat):dk prog (d+2) 48 (A x.c) (A y.c) (decide (x=y)):=by have h:=dk.struct (P:=prog) (d:=d+1) (T:=48) (xs:=x.c) (pS:=y.c) (l:=[(3,0),(3,1)]) Vw ⟨_,_,_,_,.one (ad.V2 (T:=3) rfl) rfl,.one (ad.V2 (T:=3) rfl) rfl,(dk.int (ad.Wn (T:=3) rfl)),⟨_,_,_,_,.one (ad.V2 (T:=3) rfl) rfl,.one (ad.V2 (T:=3) rfl) rfl,(dk.int (ad.Wn (T:=3) rfl)),rfl,rfl⟩,rfl⟩;refine Eq.mp (c7 (dk prog (d+2) 48 (A x.c) (A y.c)) ?_) h;rw[r7];cases x;cases y;simp[bp.mk.injEq]
def b4.Y'(x y:b4)(d:Nat):dk prog (d+2) 50 (A x.c) (A y.c) (decide (x=y)):=by have h:=dk.array (P:=prog) (d:=d+1) (T:=50) (g:=x.c) (z:=y.c) (l:=[(3,0),(3,1),(3,2),(3,3),(3,4),(3,5),(3,6)]) Vw ⟨_,_,_,_,.one (ad.V2 (T:=3) rfl) rfl,.one (ad.V2 (T:=3) rfl) rfl,(dk.int (ad.Wn (T:=3) rfl)),⟨_,_,_,_,.one (ad.V2 (T:=3) rfl) rfl,.one (ad.V2 (T:=3) rfl) rfl,(dk.int (ad.Wn (T:=3) rfl)),⟨_,_,_,_,.one (ad.V2 (T:=3) rfl) rfl,.one (ad.V2 (T:=3) rfl) rfl,(dk.int (ad.Wn (T:=3) rfl)),⟨_,_,_,_,.one (ad.V2 (T:=3) rfl) rfl,.one (ad.V2 (T:=3) rfl) rfl,(dk.int (ad.Wn (T:=3) rfl)),⟨_,_,_,_,.one (ad.V2 (T:=3) rfl) rfl,.one (ad.V2 (T:=3) rfl) rfl,(dk.int (ad.Wn (T:=3) rfl)),⟨_,_,_,_,.one (ad.V2 (T:=3) rfl) rfl,.one (ad.V2 (T:=3) rfl) rfl,(dk.int (ad.Wn (T:=3) rfl)),⟨_,_,_,_,.one (ad.V2 (T:=3) rfl) rfl,.one (ad.V2 (T:=3) rfl) rfl,(dk.int (ad.Wn (T:=3) rfl)),rfl,rfl⟩,rfl⟩,rfl⟩,rfl⟩,rfl⟩,rfl⟩,rfl⟩;refine Eq.mp (c7 (dk prog (d+2) 50 (A x.c) (A y.c)) ?_) h;rw[r7];cases x;cases y;simp[b4.mk.injEq]
def aO.Y'(x y:aO)(d:Nat):dk prog (d+3) 52 (A x.c) (A y.c) (decide (x=y)):=by have h:=dk.struct (P:=prog) (d:=d+2) (T:=52) (xs:=x.c) (pS:=y.c) (l:=[(29,0),(50,6),(3,13)]) Vw ⟨_,_,_,_,.agg (ad.WC (T:=29) rfl) rfl fk.eq,.agg (ad.WC (T:=29) rfl) rfl fk.eq,(bF.Y' _ _ (d+0)),⟨_,_,_,_,.agg (ad.WC (T:=50) rfl) rfl fk.eq,.agg (ad.WC (T:=50) rfl) rfl fk.eq,(b4.Y' _ _ (d+0)),⟨_,_,_,_,.one (ad.V2 (T:=3) rfl) rfl,.one (ad.V2 (T:=3) rfl) rfl,(dk.int (ad.Wn (T:=3) rfl)),rfl,rfl⟩,rfl⟩,rfl⟩;refine Eq.mp (c7 (dk prog (d+3) 52 (A x.c) (A y.c)) ?_) h;rw[r7];cases x;cases y;simp[aO.mk.injEq]
def aY.Y'(x y:aY)(d:Nat):dk prog (d+4) 54 (A x.c) (A y.c) (decide (x=y)):=by have h:=dk.struct (P:=prog) (d:=d+3) (T:=54) (xs:=x.c) (pS:=y.c) (l:=[(48,0),(48,2),(3,4),(52,5),(4,19)]) Vw ⟨_,_,_,_,.agg (ad.WC (T:=48) rfl) rfl fk.eq,.agg (ad.WC (T:=48) rfl) rfl fk.eq,(bp.Y' _ _ (d+1)),⟨_,_,_,_,.agg (ad.WC (T:=48) rfl) rfl fk.eq,.agg (ad.WC (T:=48) rfl) rfl fk.eq,(bp.Y' _ _ (d+1)),⟨_,_,_,_,.one (ad.V2 (T:=3) rfl) rfl,.one (ad.V2 (T:=3) rfl) rfl,(dk.int (ad.Wn (T:=3) rfl)),⟨_,_,_,_,.agg (ad.WC (T:=52) rfl) rfl fk.eq,.agg (ad.WC (T:=52) rfl) rfl fk.eq,(aO.Y' _ _ (d+0)),⟨_,_,_,_,.one (ad.V2 (T:=4) rfl) rfl,.one (ad.V2 (T:=4) rfl) rfl,(dk.bool (ad.aan (T:=4) rfl)),rfl,rfl⟩,rfl⟩,rfl⟩,rfl⟩,rfl⟩;refine Eq.mp (c7 (dk prog (d+4) 54 (A x.c) (A y.c)) ?_) h;rw[r7];cases x;cases y;simp[aY.mk.injEq]
def bF.wf(x:bF):Prop:=nl .i64 x.Kind/\x.Key.length<=140737488351232/\x.Value.length<=140737488351232/\nl .i64 x.Version/\nl .i64 x.c3/\nl .i64 x.Number
def bF.leaves:leaves prog 40 29=some [.i .i64,.s,.s,.i .i64,.i .i64,.i .i64]:=Vw
def bF.fit{cs:ab aj}(W:gu [.i .i64,.s,.s,.i .i64,.i .i64,.i .i64] cs):∃x:bF,cs=x.c/\x.wf:=by obtain⟨_,_,rfl,⟨w,rfl,a⟩,Y⟩:=gu.cons W;obtain⟨_,_,rfl,⟨R,rfl,q⟩,Z⟩:=gu.cons Y;obtain⟨_,_,rfl,⟨k,rfl,M⟩,D⟩:=gu.cons Z;obtain⟨_,_,rfl,⟨p,rfl,v⟩,m⟩:=gu.cons D;obtain⟨_,_,rfl,⟨n,rfl,Q⟩,t⟩:=gu.cons m;obtain⟨_,_,rfl,⟨l,rfl,d⟩,b⟩:=gu.cons t;obtain rfl:=gu.nil b;exact⟨⟨w,R,k,p,n,l⟩,rfl,⟨a,q,M,v,Q,d⟩⟩
def ea.wf(x:ea):Prop:=nl .i64 x.Kind/\nl .i64 x.a1/\x.cv.wf/\nl .i64 x.N/\nl .i64 x.lv/\nl .u8 x.rj
def ea.leaves:leaves prog 40 31=some [.i .i64,.i .i64,.i .i64,.s,.s,.i .i64,.i .i64,.i .i64,.i .i64,.i .i64,.i .u8]:=Vw
def ea.fit{cs:ab aj}(W:gu [.i .i64,.i .i64,.i .i64,.s,.s,.i .i64,.i .i64,.i .i64,.i .i64,.i .i64,.i .u8] cs):∃x:ea,cs=x.c/\x.wf:=by obtain⟨_,_,rfl,⟨J,rfl,p⟩,Y⟩:=gu.cons W;obtain⟨_,_,rfl,⟨R,rfl,q⟩,Z⟩:=gu.cons Y;obtain⟨_,_,rfl,⟨k,rfl,M⟩,D⟩:=gu.cons Z;obtain⟨_,_,rfl,⟨y,rfl,v⟩,m⟩:=gu.cons D;obtain⟨_,_,rfl,⟨n,rfl,Q⟩,t⟩:=gu.cons m;obtain⟨_,_,rfl,⟨l,rfl,d⟩,b⟩:=gu.cons t;obtain⟨_,_,rfl,⟨N,rfl,j⟩,w⟩:=gu.cons b;obtain⟨_,_,rfl,⟨C,rfl,K⟩,a⟩:=gu.cons w;obtain⟨_,_,rfl,⟨r,rfl,X⟩,h⟩:=gu.cons a;obtain⟨_,_,rfl,⟨u,rfl,f⟩,U⟩:=gu.cons h;obtain⟨_,_,rfl,⟨T,rfl,o⟩,F⟩:=gu.cons U;obtain rfl:=gu.nil F;exact⟨⟨J,R,⟨k,y,n,l,N,C⟩,r,u,T⟩,rfl,⟨p,q,⟨M,v,Q,d,j,K⟩,X,f,o⟩⟩
def xX:laidOutB prog=true:=Vw
def own:ownKnob prog.godebug=none:=Vw
def mixed:prog.follows .mixedOrders=true:=Vw
end Go.Proofs.YteogojgnkjegmaaGreatDoor
