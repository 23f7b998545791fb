/-
 Part of the proof.
-/
import Derived.Test.YteogojgnkjegmaaGreatDoorXb
import Derived.Test.YteogojgnkjegmaaGreatDoorRows
set_option linter.all false
set_option maxRecDepth 8000
set_option maxHeartbeats 8000000
namespace Go.Proofs.YteogojgnkjegmaaGreatDoor
open Go.ay Go.Proofs.Tryz
structure bP where
 Kind:Int
 Key:ab aP
 Value:ab aP
 Version:Int
 cy:Int
 Number:Int
 deriving DecidableEq
def bP.c(x:bP):ab aj:=[.int .i64 x.Kind,S x.Key,S x.Value,.int .i64 x.Version,.int .i64 x.cy,.int .i64 x.Number]
def bP.z:bP:=⟨0,[],[],0,0,0⟩
instance(x:bP):et 0 6 x.c x.c:=⟨rfl⟩
instance(x y:bP):bq 0 x.c y.c x.c:=⟨rfl⟩
instance(x:bP)(y:Int):bq 0 [.int .i64 y] x.c ({x with Kind:=y}:bP).c:=⟨rfl⟩
instance(x:bP)(y:ab aP):bq 1 [S y] x.c ({x with Key:=y}:bP).c:=⟨rfl⟩
instance(x:bP)(y:ab aP):bq 2 [S y] x.c ({x with Value:=y}:bP).c:=⟨rfl⟩
instance(x:bP)(y:Int):bq 3 [.int .i64 y] x.c ({x with Version:=y}:bP).c:=⟨rfl⟩
instance(x:bP)(y:Int):bq 4 [.int .i64 y] x.c ({x with cy:=y}:bP).c:=⟨rfl⟩
instance(x:bP)(y:Int):bq 5 [.int .i64 y] x.c ({x with Number:=y}:bP).c:=⟨rfl⟩
structure gs where
 Kind:Int
 be:Int
 cz:bP
 N:Int
 kJ:Int
 o5:Int
 deriving DecidableEq
def gs.c(x:gs):ab aj:=[.int .i64 x.Kind,.int .i64 x.be]++(x.cz.c++([.int .i64 x.N,.int .i64 x.kJ,.int .u8 x.o5]))
def gs.z:gs:=⟨0,0,bP.z,0,0,0⟩
instance(x:gs):et 0 11 x.c x.c:=⟨rfl⟩
instance(x y:gs):bq 0 x.c y.c x.c:=⟨rfl⟩
instance(x:gs):et 2 6 x.c x.cz.c:=⟨rfl⟩
structure iR where
 ti:aj
 n:Int
 mh:aj
 when:aj
 at_:Int
def iR.c(x:iR):ab aj:=[x.ti,.int .i64 x.n,x.mh,x.when,.int .i64 x.at_]
def iR.z:iR:=⟨.pointer none,0,.map none,.map none,0⟩
instance(x:iR)(y:aj):bq 0 [y] x.c ({x with ti:=y}:iR).c:=⟨rfl⟩
instance(x:iR)(y:Int):bq 1 [.int .i64 y] x.c ({x with n:=y}:iR).c:=⟨rfl⟩
instance(x:iR)(y:aj):bq 2 [y] x.c ({x with mh:=y}:iR).c:=⟨rfl⟩
instance(x:iR)(y:aj):bq 3 [y] x.c ({x with when:=y}:iR).c:=⟨rfl⟩
instance(x:iR)(y:Int):bq 4 [.int .i64 y] x.c ({x with at_:=y}:iR).c:=⟨rfl⟩
structure ag where
 be:Int
 bH:Int
 deriving DecidableEq
def ag.c(x:ag):ab aj:=[.int .i64 x.be,.int .i64 x.bH]
def ag.z:ag:=⟨0,0⟩
def ag.B':iv ag.c:=λ_=>rfl
def ag.len(x:ag):x.c.length=2:=rfl
instance(x:ag):et 0 2 x.c x.c:=⟨rfl⟩
instance(x y:ag):bq 0 x.c y.c x.c:=⟨rfl⟩
instance(x:ag)(y:Int):bq 0 [.int .i64 y] x.c ({x with be:=y}:ag).c:=⟨rfl⟩
instance(x:ag)(y:Int):bq 1 [.int .i64 y] x.c ({x with bH:=y}:ag).c:=⟨rfl⟩
structure bk where
 Round:Int
 be:Int
 deriving DecidableEq
def bk.c(x:bk):ab aj:=[.int .i64 x.Round,.int .i64 x.be]
def bk.z:bk:=⟨0,0⟩
instance:Inhabited bk:=⟨bk.z⟩
def bk.len(x:bk):x.c.length=2:=rfl
instance(x:bk):et 0 2 x.c x.c:=⟨rfl⟩
instance(x y:bk):bq 0 x.c y.c x.c:=⟨rfl⟩
instance(x:bk)(y:Int):bq 0 [.int .i64 y] x.c ({x with Round:=y}:bk).c:=⟨rfl⟩
instance(x:bk)(y:Int):bq 1 [.int .i64 y] x.c ({x with be:=y}:bk).c:=⟨rfl⟩
structure bI where
 fS:Int
 eu:Int
 bu:Int
 hb:Int
 n9:Int
 nD:Int
 oa:Int
 deriving DecidableEq
def bI.c(x:bI):ab aj:=[.int .i64 x.fS,.int .i64 x.eu,.int .i64 x.bu,.int .i64 x.hb,.int .i64 x.n9,.int .i64 x.nD,.int .i64 x.oa]
def bI.z:bI:=⟨0,0,0,0,0,0,0⟩
def bI.len(x:bI):x.c.length=7:=rfl
instance(x:bI):et 0 7 x.c x.c:=⟨rfl⟩
instance(x y:bI):bq 0 x.c y.c x.c:=⟨rfl⟩
structure aV where
 cz:bP
 dX:bI
 Seq:Int
 deriving DecidableEq
def aV.c(x:aV):ab aj:=x.cz.c++(x.dX.c++([.int .i64 x.Seq]))
def aV.z:aV:=⟨bP.z,bI.z,0⟩
instance:Inhabited aV:=⟨aV.z⟩
def aV.B':iv aV.c:=λ_=>rfl
def aV.len(x:aV):x.c.length=14:=rfl
instance(x:aV):et 0 14 x.c x.c:=⟨rfl⟩
instance(x y:aV):bq 0 x.c y.c x.c:=⟨rfl⟩
instance(x:aV):et 0 6 x.c x.cz.c:=⟨rfl⟩
instance(x:aV)(y:bP):bq 0 y.c x.c ({x with cz:=y}:aV).c:=⟨rfl⟩
instance(x:aV):et 6 7 x.c x.dX.c:=⟨rfl⟩
instance(x:aV)(y:bI):bq 6 y.c x.c ({x with dX:=y}:aV).c:=⟨rfl⟩
instance(x:aV)(y:Int):bq 13 [.int .i64 y] x.c ({x with Seq:=y}:aV).c:=⟨rfl⟩
structure ba where
 cJ:bk
 cY:bk
 Status:Int
 Call:aV
 dB:Bool
 deriving DecidableEq
def ba.c(x:ba):ab aj:=x.cJ.c++(x.cY.c++([.int .i64 x.Status]++(x.Call.c++([.bool x.dB]))))
def ba.z:ba:=⟨bk.z,bk.z,0,aV.z,false⟩
instance:Inhabited ba:=⟨ba.z⟩
def ba.B':iv ba.c:=λ_=>rfl
def ba.len(x:ba):x.c.length=20:=rfl
instance(x:ba):et 0 20 x.c x.c:=⟨rfl⟩
instance(x y:ba):bq 0 x.c y.c x.c:=⟨rfl⟩
instance(x:ba):et 0 2 x.c x.cJ.c:=⟨rfl⟩
instance(x:ba)(y:bk):bq 0 y.c x.c ({x with cJ:=y}:ba).c:=⟨rfl⟩
instance(x:ba):et 2 2 x.c x.cY.c:=⟨rfl⟩
instance(x:ba)(y:bk):bq 2 y.c x.c ({x with cY:=y}:ba).c:=⟨rfl⟩
instance(x:ba)(y:Int):bq 4 [.int .i64 y] x.c ({x with Status:=y}:ba).c:=⟨rfl⟩
instance(x:ba):et 5 14 x.c x.Call.c:=⟨rfl⟩
instance(x:ba)(y:aV):bq 5 y.c x.c ({x with Call:=y}:ba).c:=⟨rfl⟩
instance(x:ba):et 5 6 x.c x.Call.cz.c:=⟨rfl⟩
instance(x:ba)(y:Bool):bq 19 [.bool y] x.c ({x with dB:=y}:ba).c:=⟨rfl⟩
structure g0 where
 yY:Int
 Value:ab aP
 Version:Int
 Keys:aj
def g0.c(x:g0):ab aj:=[.int .i64 x.yY,S x.Value,.int .i64 x.Version,x.Keys]
def g0.z:g0:=⟨0,[],0,.slice none 0 0⟩
instance(x:g0):et 0 4 x.c x.c:=⟨rfl⟩
instance(x y:g0):bq 0 x.c y.c x.c:=⟨rfl⟩
instance(x:g0)(y:Int):bq 0 [.int .i64 y] x.c ({x with yY:=y}:g0).c:=⟨rfl⟩
instance(x:g0)(y:ab aP):bq 1 [S y] x.c ({x with Value:=y}:g0).c:=⟨rfl⟩
instance(x:g0)(y:Int):bq 2 [.int .i64 y] x.c ({x with Version:=y}:g0).c:=⟨rfl⟩
instance(x:g0)(y:aj):bq 3 [y] x.c ({x with Keys:=y}:g0).c:=⟨rfl⟩
structure nF where
 Item:ag
 CA:g0
def nF.c(x:nF):ab aj:=x.Item.c++(x.CA.c)
def nF.z:nF:=⟨ag.z,g0.z⟩
instance(x:nF)(y:ag):bq 0 y.c x.c ({x with Item:=y}:nF).c:=⟨rfl⟩
instance(x:nF)(y:g0):bq 2 y.c x.c ({x with CA:=y}:nF).c:=⟨rfl⟩
structure tj where
 Told:nF
 be:Int
 HO:Int
def tj.c(x:tj):ab aj:=x.Told.c++([.int .i64 x.be,.int .i64 x.HO])
def tj.z:tj:=⟨nF.z,0,0⟩
structure jI where
 n:Int
 CB:aj
 aS:aj
 bQ:aj
 now:Int
 told:aj
def jI.c(x:jI):ab aj:=[.int .i64 x.n,x.CB,x.aS,x.bQ,.int .i64 x.now,x.told]
def jI.z:jI:=⟨0,.slice none 0 0,.slice none 0 0,.pointer none,0,.slice none 0 0⟩
instance(x:jI)(y:Int):bq 0 [.int .i64 y] x.c ({x with n:=y}:jI).c:=⟨rfl⟩
instance(x:jI)(y:aj):bq 1 [y] x.c ({x with CB:=y}:jI).c:=⟨rfl⟩
instance(x:jI)(y:aj):bq 2 [y] x.c ({x with aS:=y}:jI).c:=⟨rfl⟩
instance(x:jI)(y:aj):bq 3 [y] x.c ({x with bQ:=y}:jI).c:=⟨rfl⟩
instance(x:jI)(y:Int):bq 4 [.int .i64 y] x.c ({x with now:=y}:jI).c:=⟨rfl⟩
instance(x:jI)(y:aj):bq 5 [y] x.c ({x with told:=y}:jI).c:=⟨rfl⟩
structure fH where
 n:Int
 self:Int
 now:Int
 space:aj
 leads:aj
 CC:aj
 CD:aj
 run:aj
 machine:aj
 dw:aj
 high:aj
 inbox:aj
 out:aj
 told:aj
def fH.c(x:fH):ab aj:=[.int .i64 x.n,.int .i64 x.self,.int .i64 x.now,x.space,x.leads,x.CC,x.CD,x.run,x.machine,x.dw,x.high,x.inbox,x.out,x.told]
def fH.z:fH:=⟨0,0,0,.pointer none,.map none,.map none,.pointer none,.pointer none,.pointer none,.map none,.map none,.slice none 0 0,.slice none 0 0,.slice none 0 0⟩
instance(x:fH)(y:Int):bq 0 [.int .i64 y] x.c ({x with n:=y}:fH).c:=⟨rfl⟩
instance(x:fH)(y:Int):bq 1 [.int .i64 y] x.c ({x with self:=y}:fH).c:=⟨rfl⟩
instance(x:fH)(y:Int):bq 2 [.int .i64 y] x.c ({x with now:=y}:fH).c:=⟨rfl⟩
instance(x:fH)(y:aj):bq 3 [y] x.c ({x with space:=y}:fH).c:=⟨rfl⟩
instance(x:fH)(y:aj):bq 4 [y] x.c ({x with leads:=y}:fH).c:=⟨rfl⟩
instance(x:fH)(y:aj):bq 5 [y] x.c ({x with CC:=y}:fH).c:=⟨rfl⟩
instance(x:fH)(y:aj):bq 6 [y] x.c ({x with CD:=y}:fH).c:=⟨rfl⟩
instance(x:fH)(y:aj):bq 7 [y] x.c ({x with run:=y}:fH).c:=⟨rfl⟩
instance(x:fH)(y:aj):bq 8 [y] x.c ({x with machine:=y}:fH).c:=⟨rfl⟩
instance(x:fH)(y:aj):bq 9 [y] x.c ({x with dw:=y}:fH).c:=⟨rfl⟩
instance(x:fH)(y:aj):bq 10 [y] x.c ({x with high:=y}:fH).c:=⟨rfl⟩
instance(x:fH)(y:aj):bq 11 [y] x.c ({x with inbox:=y}:fH).c:=⟨rfl⟩
instance(x:fH)(y:aj):bq 12 [y] x.c ({x with out:=y}:fH).c:=⟨rfl⟩
instance(x:fH)(y:aj):bq 13 [y] x.c ({x with told:=y}:fH).c:=⟨rfl⟩
structure iS where
 log:aj
 keys:aj
 lists:aj
 uW:aj
def iS.c(x:iS):ab aj:=[x.log,x.keys,x.lists,x.uW]
def iS.z:iS:=⟨.pointer none,.map none,.slice none 0 0,.map none⟩
instance(x:iS)(y:aj):bq 0 [y] x.c ({x with log:=y}:iS).c:=⟨rfl⟩
instance(x:iS)(y:aj):bq 1 [y] x.c ({x with keys:=y}:iS).c:=⟨rfl⟩
instance(x:iS)(y:aj):bq 2 [y] x.c ({x with lists:=y}:iS).c:=⟨rfl⟩
instance(x:iS)(y:aj):bq 3 [y] x.c ({x with uW:=y}:iS).c:=⟨rfl⟩
structure kK where
 CE:aj
 n:Int
 rows:aj
def kK.c(x:kK):ab aj:=[x.CE,.int .i64 x.n,x.rows]
def kK.z:kK:=⟨.pointer none,0,.pointer none⟩
instance(x:kK)(y:aj):bq 0 [y] x.c ({x with CE:=y}:kK).c:=⟨rfl⟩
instance(x:kK)(y:Int):bq 1 [.int .i64 y] x.c ({x with n:=y}:kK).c:=⟨rfl⟩
instance(x:kK)(y:aj):bq 2 [y] x.c ({x with rows:=y}:kK).c:=⟨rfl⟩
structure b0 where
 bm:Int
 b3:Int
 Bytes:ab aP
 deriving DecidableEq
def b0.c(x:b0):ab aj:=[.int .i64 x.bm,.int .i64 x.b3,S x.Bytes]
def b0.z:b0:=⟨0,0,[]⟩
def b0.B':iv b0.c:=λ_=>rfl
def b0.len(x:b0):x.c.length=3:=rfl
instance(x:b0):et 0 3 x.c x.c:=⟨rfl⟩
instance(x y:b0):bq 0 x.c y.c x.c:=⟨rfl⟩
instance(x:b0)(y:Int):bq 0 [.int .i64 y] x.c ({x with bm:=y}:b0).c:=⟨rfl⟩
instance(x:b0)(y:Int):bq 1 [.int .i64 y] x.c ({x with b3:=y}:b0).c:=⟨rfl⟩
instance(x:b0)(y:ab aP):bq 2 [S y] x.c ({x with Bytes:=y}:b0).c:=⟨rfl⟩
structure kp where
 data:aj
 safe:Int
def kp.c(x:kp):ab aj:=[x.data,.int .i64 x.safe]
def kp.z:kp:=⟨.slice none 0 0,0⟩
instance(x:kp)(y:aj):bq 0 [y] x.c ({x with data:=y}:kp).c:=⟨rfl⟩
instance(x:kp)(y:Int):bq 1 [.int .i64 y] x.c ({x with safe:=y}:kp).c:=⟨rfl⟩
structure aD where
 Kind:Int
 bm:Int
 b3:Int
 Item:ag
 ch:bk
 cY:bk
 Status:Int
 dB:Bool
 Call:aV
 deriving DecidableEq
def aD.c(x:aD):ab aj:=[.int .i64 x.Kind,.int .i64 x.bm,.int .i64 x.b3]++(x.Item.c++(x.ch.c++(x.cY.c++([.int .i64 x.Status,.bool x.dB]++(x.Call.c)))))
def aD.z:aD:=⟨0,0,0,ag.z,bk.z,bk.z,0,false,aV.z⟩
def aD.B':iv aD.c:=λ_=>rfl
def aD.len(x:aD):x.c.length=25:=rfl
instance(x:aD):et 0 25 x.c x.c:=⟨rfl⟩
instance(x y:aD):bq 0 x.c y.c x.c:=⟨rfl⟩
instance(x:aD)(y:Int):bq 0 [.int .i64 y] x.c ({x with Kind:=y}:aD).c:=⟨rfl⟩
instance(x:aD)(y:Int):bq 1 [.int .i64 y] x.c ({x with bm:=y}:aD).c:=⟨rfl⟩
instance(x:aD)(y:Int):bq 2 [.int .i64 y] x.c ({x with b3:=y}:aD).c:=⟨rfl⟩
instance(x:aD):et 3 2 x.c x.Item.c:=⟨rfl⟩
instance(x:aD)(y:ag):bq 3 y.c x.c ({x with Item:=y}:aD).c:=⟨rfl⟩
instance(x:aD):et 5 2 x.c x.ch.c:=⟨rfl⟩
instance(x:aD)(y:bk):bq 5 y.c x.c ({x with ch:=y}:aD).c:=⟨rfl⟩
instance(x:aD):et 7 2 x.c x.cY.c:=⟨rfl⟩
instance(x:aD)(y:bk):bq 7 y.c x.c ({x with cY:=y}:aD).c:=⟨rfl⟩
instance(x:aD)(y:Int):bq 9 [.int .i64 y] x.c ({x with Status:=y}:aD).c:=⟨rfl⟩
instance(x:aD)(y:Bool):bq 10 [.bool y] x.c ({x with dB:=y}:aD).c:=⟨rfl⟩
instance(x:aD):et 11 14 x.c x.Call.c:=⟨rfl⟩
instance(x:aD)(y:aV):bq 11 y.c x.c ({x with Call:=y}:aD).c:=⟨rfl⟩
instance(x:aD):et 11 6 x.c x.Call.cz.c:=⟨rfl⟩
structure lh where
 n:Int
 self:Int
 due:aj
 tries:aj
def lh.c(x:lh):ab aj:=[.int .i64 x.n,.int .i64 x.self,x.due,x.tries]
def lh.z:lh:=⟨0,0,.pointer none,.map none⟩
instance(x:lh)(y:Int):bq 0 [.int .i64 y] x.c ({x with n:=y}:lh).c:=⟨rfl⟩
instance(x:lh)(y:Int):bq 1 [.int .i64 y] x.c ({x with self:=y}:lh).c:=⟨rfl⟩
instance(x:lh)(y:aj):bq 2 [y] x.c ({x with due:=y}:lh).c:=⟨rfl⟩
instance(x:lh)(y:aj):bq 3 [y] x.c ({x with tries:=y}:lh).c:=⟨rfl⟩
structure nG where
 graph:aj
 done:aj
 open_:aj
def nG.c(x:nG):ab aj:=[x.graph,x.done,x.open_]
def nG.z:nG:=⟨.pointer none,.slice none 0 0,.slice none 0 0⟩
instance(x:nG)(y:aj):bq 0 [y] x.c ({x with graph:=y}:nG).c:=⟨rfl⟩
instance(x:nG)(y:aj):bq 1 [y] x.c ({x with done:=y}:nG).c:=⟨rfl⟩
instance(x:nG)(y:aj):bq 2 [y] x.c ({x with open_:=y}:nG).c:=⟨rfl⟩
structure li where
 CF:aj
 uW:aj
 count:Int
def li.c(x:li):ab aj:=[x.CF,x.uW,.int .i64 x.count]
def li.z:li:=⟨.pointer none,.map none,0⟩
instance(x:li)(y:aj):bq 0 [y] x.c ({x with CF:=y}:li).c:=⟨rfl⟩
instance(x:li)(y:aj):bq 1 [y] x.c ({x with uW:=y}:li).c:=⟨rfl⟩
instance(x:li)(y:Int):bq 2 [.int .i64 y] x.c ({x with count:=y}:li).c:=⟨rfl⟩
structure fw where
 out:aj
def fw.c(x:fw):ab aj:=[x.out]
def fw.z:fw:=⟨.slice none 0 0⟩
instance(x:fw)(y:aj):bq 0 [y] x.c ({x with out:=y}:fw).c:=⟨rfl⟩
structure jJ where
 list:aj
 ir:Int
def jJ.c(x:jJ):ab aj:=[x.list,.int .i64 x.ir]
def jJ.z:jJ:=⟨.slice none 0 0,0⟩
instance(x:jJ)(y:aj):bq 0 [y] x.c ({x with list:=y}:jJ).c:=⟨rfl⟩
instance(x:jJ)(y:Int):bq 1 [.int .i64 y] x.c ({x with ir:=y}:jJ).c:=⟨rfl⟩
structure ob where
 calls:aj
 done:aj
def ob.c(x:ob):ab aj:=[x.calls,x.done]
def ob.z:ob:=⟨.pointer none,.pointer none⟩
instance(x:ob)(y:aj):bq 0 [y] x.c ({x with calls:=y}:ob).c:=⟨rfl⟩
instance(x:ob)(y:aj):bq 1 [y] x.c ({x with done:=y}:ob).c:=⟨rfl⟩
structure kL where
 CG:aj
def kL.c(x:kL):ab aj:=[x.CG]
def kL.z:kL:=⟨.map none⟩
instance(x:kL)(y:aj):bq 0 [y] x.c ({x with CG:=y}:kL).c:=⟨rfl⟩
structure bi where
 key:ag
 due:Int
 ir:Int
 deriving DecidableEq
def bi.c(x:bi):ab aj:=x.key.c++([.int .i64 x.due,.int .i64 x.ir])
def bi.z:bi:=⟨ag.z,0,0⟩
def bi.B':iv bi.c:=λ_=>rfl
def bi.len(x:bi):x.c.length=4:=rfl
instance(x:bi):et 0 4 x.c x.c:=⟨rfl⟩
instance(x y:bi):bq 0 x.c y.c x.c:=⟨rfl⟩
instance(x:bi):et 0 2 x.c x.key.c:=⟨rfl⟩
instance(x:bi)(y:ag):bq 0 y.c x.c ({x with key:=y}:bi).c:=⟨rfl⟩
instance(x:bi)(y:Int):bq 2 [.int .i64 y] x.c ({x with due:=y}:bi).c:=⟨rfl⟩
instance(x:bi)(y:Int):bq 3 [.int .i64 y] x.c ({x with ir:=y}:bi).c:=⟨rfl⟩
structure lj where
 number:Int
 yZ:g0
def lj.c(x:lj):ab aj:=[.int .i64 x.number]++(x.yZ.c)
def lj.z:lj:=⟨0,g0.z⟩
instance(x:lj):et 0 5 x.c x.c:=⟨rfl⟩
instance(x y:lj):bq 0 x.c y.c x.c:=⟨rfl⟩
instance(x:lj)(y:Int):bq 0 [.int .i64 y] x.c ({x with number:=y}:lj).c:=⟨rfl⟩
instance(x:lj):et 1 4 x.c x.yZ.c:=⟨rfl⟩
instance(x:lj)(y:g0):bq 1 y.c x.c ({x with yZ:=y}:lj).c:=⟨rfl⟩
structure uX where
 call:Bool
 known:Bool
 deriving DecidableEq
def uX.c(x:uX):ab aj:=[.bool x.call,.bool x.known]
def uX.z:uX:=⟨false,false⟩
structure ek where
 jo:ab aP
 m1:Bool
 deriving DecidableEq
def ek.c(x:ek):ab aj:=[S x.jo,.bool x.m1]
def ek.z:ek:=⟨[],false⟩
instance(x:ek)(y:ab aP):bq 0 [S y] x.c ({x with jo:=y}:ek).c:=⟨rfl⟩
instance(x:ek)(y:Bool):bq 1 [.bool y] x.c ({x with m1:=y}:ek).c:=⟨rfl⟩
structure iy where
 graph:aj
 index:aj
 low:aj
 on:aj
 stack:aj
 fj:aj
 parts:aj
 missing:aj
def iy.c(x:iy):ab aj:=[x.graph,x.index,x.low,x.on,x.stack,x.fj,x.parts,x.missing]
def iy.z:iy:=⟨.pointer none,.map none,.map none,.map none,.slice none 0 0,.slice none 0 0,.slice none 0 0,.slice none 0 0⟩
instance(x:iy)(y:aj):bq 0 [y] x.c ({x with graph:=y}:iy).c:=⟨rfl⟩
instance(x:iy)(y:aj):bq 1 [y] x.c ({x with index:=y}:iy).c:=⟨rfl⟩
instance(x:iy)(y:aj):bq 2 [y] x.c ({x with low:=y}:iy).c:=⟨rfl⟩
instance(x:iy)(y:aj):bq 3 [y] x.c ({x with on:=y}:iy).c:=⟨rfl⟩
instance(x:iy)(y:aj):bq 4 [y] x.c ({x with stack:=y}:iy).c:=⟨rfl⟩
instance(x:iy)(y:aj):bq 5 [y] x.c ({x with fj:=y}:iy).c:=⟨rfl⟩
instance(x:iy)(y:aj):bq 6 [y] x.c ({x with parts:=y}:iy).c:=⟨rfl⟩
instance(x:iy)(y:aj):bq 7 [y] x.c ({x with missing:=y}:iy).c:=⟨rfl⟩
structure el where
 Key:ab aP
 Value:ab aP
 Version:Int
 deriving DecidableEq
def el.c(x:el):ab aj:=[S x.Key,S x.Value,.int .i64 x.Version]
def el.z:el:=⟨[],[],0⟩
instance(x:el):et 0 3 x.c x.c:=⟨rfl⟩
instance(x y:el):bq 0 x.c y.c x.c:=⟨rfl⟩
instance(x:el)(y:ab aP):bq 0 [S y] x.c ({x with Key:=y}:el).c:=⟨rfl⟩
instance(x:el)(y:ab aP):bq 1 [S y] x.c ({x with Value:=y}:el).c:=⟨rfl⟩
instance(x:el)(y:Int):bq 2 [.int .i64 y] x.c ({x with Version:=y}:el).c:=⟨rfl⟩
structure o6 where
 item:ag
 next:aj
def o6.c(x:o6):ab aj:=x.item.c++([x.next])
def o6.z:o6:=⟨ag.z,.slice none 0 0⟩
instance(x:o6)(y:ag):bq 0 y.c x.c ({x with item:=y}:o6).c:=⟨rfl⟩
instance(x:o6)(y:aj):bq 2 [y] x.c ({x with next:=y}:o6).c:=⟨rfl⟩
def nH(l:ab aD)(h:ab Bool)(n:Int):ab aj:=l.flatMap aD.c++(h.map (λb=>B b)++[I n])
def qW(l:ab Bool)(h:ab Bool)(n:Int):ab aj:=l.map (λb=>B b)++(h.map (λb=>B b)++[I n])
structure a2 where
 n:Int
 self:Int
 item:ag
 b2:bk
 call:aV
 phase:Int
 pl:ab aD
 c2:ab Bool
 dL:Int
 ol:ab Bool
 hD:ab Bool
 fD:Int
def a2.c(x:a2):ab aj:=[.int .i64 x.n,.int .i64 x.self]++(x.item.c++(x.b2.c++(x.call.c++([.int .i64 x.phase]++(nH x.pl x.c2 x.dL++qW x.ol x.hD x.fD)))))
def a2.z:a2:=⟨0,0,ag.z,bk.z,aV.z,0,List.replicate 7 aD.z,List.replicate 7 false,0,List.replicate 7 false,List.replicate 7 false,0⟩
instance(x:a2)(y:Int):bq 0 [.int .i64 y] x.c ({x with n:=y}:a2).c:=⟨rfl⟩
instance(x:a2)(y:Int):bq 1 [.int .i64 y] x.c ({x with self:=y}:a2).c:=⟨rfl⟩
instance(x:a2)(y:Int):bq 20 [.int .i64 y] x.c ({x with phase:=y}:a2).c:=⟨rfl⟩
instance(x:a2):et 2 2 x.c x.item.c:=⟨rfl⟩
instance(x:a2)(y:ag):bq 2 y.c x.c ({x with item:=y}:a2).c:=⟨rfl⟩
instance(x:a2):et 4 2 x.c x.b2.c:=⟨rfl⟩
instance(x:a2)(y:bk):bq 4 y.c x.c ({x with b2:=y}:a2).c:=⟨rfl⟩
instance(x:a2):et 6 14 x.c x.call.c:=⟨rfl⟩
instance(x:a2)(y:aV):bq 6 y.c x.c ({x with call:=y}:a2).c:=⟨rfl⟩
structure bK where
 n:Int
 self:Int
 item:ag
 b2:bk
 lost:Bool
 fx:ab aD
 en:ab Bool
 gt:Int
 next:aj
def bK.c(x:bK):ab aj:=[.int .i64 x.n,.int .i64 x.self]++(x.item.c++(x.b2.c++([.bool x.lost]++(nH x.fx x.en x.gt++[x.next]))))
def bK.z:bK:=⟨0,0,ag.z,bk.z,false,List.replicate 7 aD.z,List.replicate 7 false,0,.pointer none⟩
instance(x:bK)(y:Int):bq 0 [.int .i64 y] x.c ({x with n:=y}:bK).c:=⟨rfl⟩
instance(x:bK)(y:Int):bq 1 [.int .i64 y] x.c ({x with self:=y}:bK).c:=⟨rfl⟩
instance(x:bK)(y:Bool):bq 6 [.bool y] x.c ({x with lost:=y}:bK).c:=⟨rfl⟩
instance(x:bK):et 2 2 x.c x.item.c:=⟨rfl⟩
instance(x:bK)(y:ag):bq 2 y.c x.c ({x with item:=y}:bK).c:=⟨rfl⟩
instance(x:bK):et 4 2 x.c x.b2.c:=⟨rfl⟩
instance(x:bK)(y:bk):bq 4 y.c x.c ({x with b2:=y}:bK).c:=⟨rfl⟩
abbrev bz:Go.Value:=.slice none 0 0
abbrev bf:Go.Value:=.bool false
abbrev bL:Go.Value:=.int .i64 0
abbrev dU:Go.Value:=.pointer none
abbrev ig:Go.Value:=.map none
abbrev ih:Go.Value:=Go.ay.S []
abbrev lQ:Go.Value:=.int .u8 0
abbrev o7:Go.Value:=.int .u64 0
abbrev rY:Go.Value:=.int .i32 0
def CH:ab (Nat×ab aj):=[(2,[bL]),(3,[bL]),(4,[bf]),(5,[lQ]),(6,[lQ]),(7,[bL,bL,bf,lQ]),(8,[bL,bL,bf,lQ]),(9,[ih]),(10,[ih]),(11,[ih]),(12,[o7]),(13,[ih,o7]),(14,[ih,o7]),(15,[dU]),(16,[dU]),(17,[dU]),(18,[dU]),(19,[dU]),(21,[rY]),(22,[bz]),(25,[dU]),(27,[ig]),(28,[bL,ih,ih,bL,bL,bL]),(29,bP.z.c),(30,[bL,bL,bL,ih,ih,bL,bL,bL,bL,bL,lQ]),(31,gs.z.c),(35,[dU]),(36,[dU]),(37,[dU]),(38,[ig]),(39,[ig]),(40,[dU,bL,ig,ig,bL]),(41,iR.z.c),(45,[bL,bL]),(46,ag.z.c),(47,[bL,bL]),(48,bk.z.c),(49,[bL,bL,bL,bL,bL,bL,bL]),(50,bI.z.c),(51,[bL,ih,ih,bL,bL,bL,bL,bL,bL,bL,bL,bL,bL,bL]),(52,aV.z.c),(53,[bL,bL,bL,bL,bL,bL,ih,ih,bL,bL,bL,bL,bL,bL,bL,bL,bL,bL,bL,bf]),(54,ba.z.c),(57,[ig]),(58,[bz]),(60,[bL]),(61,[bz]),(62,[bL,ih,bL,bz]),(63,g0.z.c),(64,[bL,bL,bL,ih,bL,bz]),(65,nF.z.c),(66,[bL,bL,bL,ih,bL,bz,bL,bL]),(67,tj.z.c),(73,[bz]),(81,[bz]),(82,[bz]),(83,[dU]),(84,[bL,bz,bz,dU,bL,bz]),(85,jI.z.c),(86,[ig]),(87,[ig]),(88,[dU]),(89,[dU]),(90,[dU]),(91,[ig]),(92,[bz]),(93,[bz]),(94,[bL,bL,bL,dU,ig,ig,dU,dU,dU,ig,ig,bz,bz,bz]),(95,fH.z.c),(96,[dU]),(97,[ig]),(98,[bz]),(99,[ig]),(100,[dU,ig,bz,ig]),(101,iS.z.c),(109,[bz]),(112,[dU]),(117,[dU]),(119,[dU,bL,dU]),(120,kK.z.c),(123,[bf,bf,bf,bf,bf,bf,bf]),(124,[bf,bf,bf,bf,bf,bf,bf,bf,bf,bf,bf,bf,bf,bf,bf,bf,bf,bf,bf,bf,bf,bf,bf,bf,bf,bf,bf,bf,bf,bf,bf,bf,bf,bf,bf,bf,bf,bf,bf,bf,bf,bf,bf,bf,bf,bf,bf,bf,bf]),(125,[bz,bf,bf,bf,bf,bf,bf,bf,bf,bf,bf,bf,bf,bf,bf,bf,bf,bf,bf,bf,bf,bf,bf,bf,bf,bf,bf,bf,bf,bf,bf,bf,bf,bf,bf,bf,bf,bf,bf,bf,bf,bf,bf,bf,bf,bf,bf,bf,bf,bf,bL]),(126,[bz,bf,bf,bf,bf,bf,bf,bf,bf,bf,bf,bf,bf,bf,bf,bf,bf,bf,bf,bf,bf,bf,bf,bf,bf,bf,bf,bf,bf,bf,bf,bf,bf,bf,bf,bf,bf,bf,bf,bf,bf,bf,bf,bf,bf,bf,bf,bf,bf,bf,bL]),(132,[dU]),(135,[bL]),(142,[bL,bL,ih]),(143,b0.z.c),(154,[bz]),(155,[bz,bL]),(156,kp.z.c),(164,[bz]),(165,[bz]),(166,[bz,bz,bz,bz,bz,bz,bz]),(167,[bz,bz,bz,bz,bz,bz,bz]),(168,[bL,bz,bz,bz,bz,bz,bz,bz,bz,bz,bz,bz,bz,bz,bz]),(169,[bL,bz,bz,bz,bz,bz,bz,bz,bz,bz,bz,bz,bz,bz,bz]),(175,[bL,bL,bL,bL,bL,bL,bL,bL,bL,bL,bf,bL,ih,ih,bL,bL,bL,bL,bL,bL,bL,bL,bL,bL,bL]),(176,aD.z.c),(179,nH (List.replicate 7 aD.z) (List.replicate 7 false) 0),(180,[bf,bf,bf,bf,bf,bf,bf,bf,bf,bf,bf,bf,bf,bf,bL]),(181,[bf,bf,bf,bf,bf,bf,bf,bf,bf,bf,bf,bf,bf,bf,bL]),(183,a2.z.c),(192,[dU]),(193,[bL,bL,dU,ig]),(194,lh.z.c),(196,[dU]),(204,[dU]),(206,[dU,bz,bz]),(207,nG.z.c),(208,[dU]),(210,[ig]),(211,[dU,ig,bL]),(212,li.z.c),(226,[bz]),(229,[dU]),(230,[bz]),(231,fw.z.c),(239,[dU]),(243,bK.z.c),(244,[bz]),(252,[bz]),(253,[bz,bL]),(254,jJ.z.c),(255,[dU]),(257,[dU]),(259,[dU,dU]),(260,ob.z.c),(261,[ig]),(262,[ig]),(263,kL.z.c),(268,[o7]),(270,[bL,bL,bL,bL]),(271,bi.z.c),(280,[bL,bL,ih,bL,bz]),(281,lj.z.c),(285,[bf,bf]),(286,uX.z.c),(287,[bf,bf,bf,bf,bf,bf,bf,bf,bf,bf,bf,bf,bf,bf,bf,bf,bf,bf]),(296,[.int .u32 0]),(305,[ih,bf]),(306,ek.z.c),(311,[dU]),(320,[bz]),(321,[bz,bz,bz,bz,bz,bz,bz]),(322,[bL,bz,bz,bz,bz,bz,bz,bz,bz,bz,bz,bz,bz,bz,bz]),(323,[bL,bz,bz,bz,bz,bz,bz,bz,bz,bz,bz,bz,bz,bz,bz]),(324,[bL,bz,bz,bz,bz,bz,bz,bz,bz,bz,bz,bz,bz,bz,bz]),(325,[bL,bz,bz,bz,bz,bz,bz,bz,bz,bz,bz,bz,bz,bz,bz]),(327,[bL]),(335,[o7]),(340,[dU]),(341,[bz]),(342,[dU,ig,ig,ig,bz,bz,bz,bz]),(343,iy.z.c),(345,[ih,ih,bL]),(346,el.z.c),(365,[o7]),(369,[dU]),(374,[bL,bL,bz]),(375,o6.z.c),(376,[dU]),(386,[bL]),(389,[dU]),(390,[bz]),(391,[dU]),(413,[dU,dU,dU,ih]),(414,[dU,dU,dU,ih]),(415,[]),(416,[]),(417,[]),(418,[lQ]),(419,[lQ]),(421,[dU]),(422,[rY]),(423,[rY]),(424,[o7,o7,.int .u32 0,lQ,lQ,lQ,lQ,.nilFunc,dU,rY,rY]),(425,[o7,o7,.int .u32 0,lQ,lQ,lQ,lQ,.nilFunc,dU,rY,rY])]
set_option maxRecDepth 100000 in
def aeM:s4 prog CH:=⟨XD,XD,XD,XD,XD,XD,XD,XD,XD,XD,XD,XD,XD,XD,XD,XD,XD,XD,XD,XD,XD,XD,XD,XD,XD,XD,XD,XD,XD,XD,XD,XD,XD,XD,XD,XD,XD,XD,XD,XD,XD,XD,XD,XD,XD,XD,XD,XD,XD,XD,XD,XD,XD,XD,XD,XD,XD,XD,XD,XD,XD,XD,XD,XD,XD,XD,XD,XD,XD,XD,XD,XD,XD,XD,XD,XD,XD,XD,XD,XD,XD,XD,XD,XD,XD,XD,XD,XD,XD,XD,XD,XD,XD,XD,XD,XD,XD,XD,XD,XD,XD,XD,XD,XD,XD,XD,XD,XD,XD,XD,XD,XD,XD,XD,XD,XD,XD,XD,XD,XD,XD,XD,XD,XD,XD,XD,XD,XD,XD,XD,XD,XD,XD,XD,XD,XD,XD,XD,XD,XD,XD,XD,XD,XD,XD,XD,XD,XD,XD,XD,XD,XD,XD,XD,XD,XD,XD,XD,XD,XD,XD,XD,XD,XD,XD,XD,XD,XD,XD,XD,XD,XD,XD,XD,XD,XD,XD,XD,trivial⟩
def y0(T k o:Nat):ab Nat->ab (Nat×Nat×Nat)
 |[]=>[]
 |s::r=>(T,k,o)::y0 T (k+1) (o+s) r
def y1(T k:Nat):ab Nat->ab (Nat×Nat×Nat)
 |[]=>[]
 |s::r=>(T,k,s)::y1 T (k+1) r
def wO:ab (ab Nat×ab Nat):=[([7,8,62,63,100,101,193,194,413,414],[1,1,1,1]),([13,14,45,46,47,48,155,156,253,254,259,260,285,286,305,306],[1,1]),([18,19,230,231,262,263],[1]),([28,29,84,85],[1,1,1,1,1,1]),([30,31],[1,1,6,1,1,1]),([40,41],[1,1,1,1,1]),([51,52],[6,7,1]),([53,54],[2,2,1,14,1]),([64,65],[2,4]),([66,67],[6,1,1]),([94,95],[1,1,1,1,1,1,1,1,1,1,1,1,1,1]),([119,120,142,143,206,207,211,212,345,346],[1,1,1]),([125,126],[1,49,1]),([168,169,322,323,324,325],[1,7,7]),([175,176],[1,1,1,2,2,2,1,1,14]),([178,179],[175,7,1]),([180,181],[7,7,1]),([182,183],[1,1,2,2,14,1,183,15]),([242,243],[1,1,2,2,1,183,1]),([270,271],[2,1,1]),([280,281],[1,4]),([342,343],[1,1,1,1,1,1,1,1]),([374,375],[2,1])]
set_option maxRecDepth 100000 in
def abM:{l:ab (Nat×Nat×Nat)//(wO.flatMap λp=>p.1.flatMap λT=>y0 T 0 0 p.2)=l}:=⟨_,by simp only[wO,y0,fG,m2,kn,gi,dk,Nat.reduceAdd];exact rfl⟩
set_option maxRecDepth 100000 in
def aeh:{l:ab (Nat×Nat×Nat)//(wO.flatMap λp=>p.1.flatMap λT=>y1 T 0 p.2)=l}:=⟨_,by simp only[wO,y1,fG,m2,kn,gi,dk,Nat.reduceAdd];exact rfl⟩
def ad:bV prog where
 pK:=[(424,0,0),(424,1,1),(424,2,2),(424,3,3),(424,4,4),(424,5,5),(424,6,6),(424,7,7),(424,8,8),(424,9,9),(424,10,10),(425,0,0),(425,1,1),(425,2,2),(425,3,3),(425,4,4),(425,5,5),(425,6,6),(425,7,7),(425,8,8),(425,9,9),(425,10,10)]++abM.1
 uL:=[(424,0,1),(424,1,1),(424,2,1),(424,3,1),(424,4,1),(424,5,1),(424,6,1),(424,8,1),(424,9,1),(424,10,1),(425,0,1),(425,1,1),(425,2,1),(425,3,1),(425,4,1),(425,5,1),(425,6,1),(425,8,1),(425,9,1),(425,10,1)]++aeh.1
 eO:=[(22,31),(58,67),(61,9),(73,143),(81,112),(82,36),(92,176),(93,65),(98,46),(109,3),(154,5),(164,4),(165,54),(226,98),(244,48),(252,271),(320,52),(341,375),(390,50)]
 gp:=[(2,1),(3,1),(4,1),(5,1),(6,1),(7,4),(8,4),(9,1),(10,1),(11,1),(12,1),(13,2),(14,2),(15,1),(16,1),(17,1),(18,1),(19,1),(21,1),(22,1),(25,1),(27,1),(28,6),(29,6),(30,11),(31,11),(35,1),(36,1),(37,1),(38,1),(39,1),(40,5),(41,5),(45,2),(46,2),(47,2),(48,2),(49,7),(50,7),(51,14),(52,14),(53,20),(54,20),(57,1),(58,1),(60,1),(61,1),(62,4),(63,4),(64,6),(65,6),(66,8),(67,8),(73,1),(81,1),(82,1),(83,1),(84,6),(85,6),(86,1),(87,1),(88,1),(89,1),(90,1),(91,1),(92,1),(93,1),(94,14),(95,14),(96,1),(97,1),(98,1),(99,1),(100,4),(101,4),(109,1),(112,1),(117,1),(119,3),(120,3),(123,7),(124,49),(125,51),(126,51),(132,1),(135,1),(142,3),(143,3),(154,1),(155,2),(156,2),(164,1),(165,1),(166,7),(167,7),(168,15),(169,15),(175,25),(176,25),(177,175),(178,183),(179,183),(180,15),(181,15),(182,219),(183,219),(192,1),(193,4),(194,4),(196,1),(204,1),(206,3),(207,3),(208,1),(210,1),(211,3),(212,3),(226,1),(229,1),(230,1),(231,1),(239,1),(242,191),(243,191),(244,1),(252,1),(253,2),(254,2),(255,1),(257,1),(259,2),(260,2),(261,1),(262,1),(263,1),(268,1),(270,4),(271,4),(280,5),(281,5),(285,2),(286,2),(287,18),(296,1),(305,2),(306,2),(311,1),(320,1),(321,7),(322,15),(323,15),(324,15),(325,15),(327,1),(335,1),(340,1),(341,1),(342,8),(343,8),(345,3),(346,3),(365,1),(369,1),(374,3),(375,3),(376,1),(386,1),(389,1),(390,1),(391,1),(413,4),(414,4),(415,0),(416,0),(417,0),(418,1),(419,1),(421,1),(422,1),(423,1),(424,11),(425,11)]
 agg:=[(7,4),(8,4),(13,2),(14,2),(18,1),(19,1),(28,6),(29,6),(30,11),(31,11),(40,5),(41,5),(45,2),(46,2),(47,2),(48,2),(49,7),(50,7),(51,14),(52,14),(53,20),(54,20),(62,4),(63,4),(64,6),(65,6),(66,8),(67,8),(84,6),(85,6),(94,14),(95,14),(100,4),(101,4),(119,3),(120,3),(123,7),(124,49),(125,51),(126,51),(142,3),(143,3),(155,2),(156,2),(166,7),(167,7),(168,15),(169,15),(175,25),(176,25),(177,175),(178,183),(179,183),(180,15),(181,15),(182,219),(183,219),(193,4),(194,4),(206,3),(207,3),(211,3),(212,3),(230,1),(231,1),(242,191),(243,191),(253,2),(254,2),(259,2),(260,2),(262,1),(263,1),(270,4),(271,4),(280,5),(281,5),(285,2),(286,2),(287,18),(305,2),(306,2),(321,7),(322,15),(323,15),(324,15),(325,15),(342,8),(343,8),(345,3),(346,3),(374,3),(375,3),(413,4),(414,4),(415,0),(416,0),(417,0),(424,11),(425,11)]
 one:=[(2,1),(3,1),(4,1),(5,1),(6,1),(9,1),(10,1),(11,1),(12,1),(15,1),(16,1),(17,1),(21,1),(22,1),(25,1),(27,1),(35,1),(36,1),(37,1),(38,1),(39,1),(57,1),(58,1),(60,1),(61,1),(73,1),(81,1),(82,1),(83,1),(86,1),(87,1),(88,1),(89,1),(90,1),(91,1),(92,1),(93,1),(96,1),(97,1),(98,1),(99,1),(109,1),(112,1),(117,1),(132,1),(135,1),(154,1),(164,1),(165,1),(192,1),(196,1),(204,1),(208,1),(210,1),(226,1),(229,1),(239,1),(244,1),(252,1),(255,1),(257,1),(261,1),(268,1),(296,1),(311,1),(320,1),(327,1),(335,1),(340,1),(341,1),(365,1),(369,1),(376,1),(386,1),(389,1),(390,1),(391,1),(418,1),(419,1),(421,1),(422,1),(423,1)]
 ia:=CH
 ints:=[(2,.i64),(3,.i64),(5,.u8),(6,.u8),(12,.u64),(21,.i32),(60,.i64),(135,.i64),(268,.u64),(296,.u32),(327,.i64),(335,.u64),(365,.u64),(386,.i64),(418,.u8),(419,.u8),(422,.i32),(423,.i32)]
 strs:=[(9,0),(10,0),(11,0)]
 uM:=[(4,0)]
 kD:=[(2,8),(3,8),(4,1),(5,1),(6,1),(7,24),(8,24),(9,16),(10,16),(11,16),(12,8),(13,24),(14,24),(15,8),(16,8),(17,8),(18,8),(19,8),(21,4),(22,24),(25,8),(27,8),(28,64),(29,64),(30,104),(31,104),(35,8),(36,8),(37,8),(38,8),(39,8),(40,40),(41,40),(45,16),(46,16),(47,16),(48,16),(49,56),(50,56),(51,128),(52,128),(53,176),(54,176),(57,8),(58,24),(60,8),(61,24),(62,56),(63,56),(64,72),(65,72),(66,88),(67,88),(73,24),(81,24),(82,24),(83,8),(84,96),(85,96),(86,8),(87,8),(88,8),(89,8),(90,8),(91,8),(92,24),(93,24),(94,160),(95,160),(96,8),(97,8),(98,24),(99,8),(100,48),(101,48),(109,24),(112,8),(117,8),(119,24),(120,24),(123,7),(124,49),(125,88),(126,88),(132,8),(135,8),(142,32),(143,32),(154,24),(155,32),(156,32),(164,24),(165,24),(166,168),(167,168),(168,344),(169,344),(175,216),(176,216),(177,1512),(178,1528),(179,1528),(180,24),(181,24),(182,1736),(183,1736),(192,8),(193,32),(194,32),(196,8),(204,8),(206,56),(207,56),(208,8),(210,8),(211,24),(212,24),(226,24),(229,8),(230,24),(231,24),(239,8),(242,1592),(243,1592),(244,24),(252,24),(253,32),(254,32),(255,8),(257,8),(259,16),(260,16),(261,8),(262,8),(263,8),(268,8),(270,32),(271,32),(280,64),(281,64),(285,2),(286,2),(287,18),(296,4),(305,24),(306,24),(311,8),(320,24),(321,168),(322,344),(323,344),(324,344),(325,344),(327,8),(335,8),(340,8),(341,24),(342,128),(343,128),(345,40),(346,40),(365,8),(369,8),(374,40),(375,40),(376,8),(386,8),(389,8),(390,24),(391,8),(413,40),(414,40),(415,0),(416,0),(417,0),(418,1),(419,1),(421,8),(422,4),(423,4),(424,48),(425,48)]
 arr:=[(49,7,3),(50,7,3),(123,7,4),(124,7,123),(166,7,165),(167,7,164),(177,7,176),(287,9,286),(321,7,320),(415,0,16)]
 BQ:=XD
 BV:=XD
 BW:=XD
 BX:=XD
 BR:=XD
 BS:=XD
 BT:=XD
 BU:=XD
 BY:=XD
 BZ:=XD
 B0:=XD
 B1:=aeM
def bP.P'(x y:bP)(d:Nat):cS prog (d+2) 29 (A x.c) (A y.c) (decide (x=y)):=by have h:=cS.struct (P:=prog) (d:=d+1) (T:=29) (xs:=x.c) (qA:=y.c) (l:=[(3,0),(9,1),(9,2),(3,3),(3,4),(3,5)]) XD ⟨_,_,_,_,.one (ad.V' (T:=3) rfl) rfl,.one (ad.V' (T:=3) rfl) rfl,(cS.int (ad.R0 (T:=3) rfl)),⟨_,_,_,_,.one (ad.V' (T:=9) rfl) rfl,.one (ad.V' (T:=9) rfl) rfl,(cS.str (ad.SF (T:=9) rfl)),⟨_,_,_,_,.one (ad.V' (T:=9) rfl) rfl,.one (ad.V' (T:=9) rfl) rfl,(cS.str (ad.SF (T:=9) rfl)),⟨_,_,_,_,.one (ad.V' (T:=3) rfl) rfl,.one (ad.V' (T:=3) rfl) rfl,(cS.int (ad.R0 (T:=3) rfl)),⟨_,_,_,_,.one (ad.V' (T:=3) rfl) rfl,.one (ad.V' (T:=3) rfl) rfl,(cS.int (ad.R0 (T:=3) rfl)),⟨_,_,_,_,.one (ad.V' (T:=3) rfl) rfl,.one (ad.V' (T:=3) rfl) rfl,(cS.int (ad.R0 (T:=3) rfl)),rfl,rfl⟩,rfl⟩,rfl⟩,rfl⟩,rfl⟩,rfl⟩;refine Eq.mp (db (cS prog (d+2) 29 (A x.c) (A y.c)) ?_) h;rw[pL];cases x;cases y;simp[bP.mk.injEq]
def ag.P'(x y:ag)(d:Nat):cS prog (d+2) 46 (A x.c) (A y.c) (decide (x=y)):=by have h:=cS.struct (P:=prog) (d:=d+1) (T:=46) (xs:=x.c) (qA:=y.c) (l:=[(3,0),(3,1)]) XD ⟨_,_,_,_,.one (ad.V' (T:=3) rfl) rfl,.one (ad.V' (T:=3) rfl) rfl,(cS.int (ad.R0 (T:=3) rfl)),⟨_,_,_,_,.one (ad.V' (T:=3) rfl) rfl,.one (ad.V' (T:=3) rfl) rfl,(cS.int (ad.R0 (T:=3) rfl)),rfl,rfl⟩,rfl⟩;refine Eq.mp (db (cS prog (d+2) 46 (A x.c) (A y.c)) ?_) h;rw[pL];cases x;cases y;simp[ag.mk.injEq]
def bk.P'(x y:bk)(d:Nat):cS prog (d+2) 48 (A x.c) (A y.c) (decide (x=y)):=by have h:=cS.struct (P:=prog) (d:=d+1) (T:=48) (xs:=x.c) (qA:=y.c) (l:=[(3,0),(3,1)]) XD ⟨_,_,_,_,.one (ad.V' (T:=3) rfl) rfl,.one (ad.V' (T:=3) rfl) rfl,(cS.int (ad.R0 (T:=3) rfl)),⟨_,_,_,_,.one (ad.V' (T:=3) rfl) rfl,.one (ad.V' (T:=3) rfl) rfl,(cS.int (ad.R0 (T:=3) rfl)),rfl,rfl⟩,rfl⟩;refine Eq.mp (db (cS prog (d+2) 48 (A x.c) (A y.c)) ?_) h;rw[pL];cases x;cases y;simp[bk.mk.injEq]
def bI.P'(x y:bI)(d:Nat):cS prog (d+2) 50 (A x.c) (A y.c) (decide (x=y)):=by have h:=cS.array (P:=prog) (d:=d+1) (T:=50) (q:=x.c) (g:=y.c) (l:=[(3,0),(3,1),(3,2),(3,3),(3,4),(3,5),(3,6)]) XD ⟨_,_,_,_,.one (ad.V' (T:=3) rfl) rfl,.one (ad.V' (T:=3) rfl) rfl,(cS.int (ad.R0 (T:=3) rfl)),⟨_,_,_,_,.one (ad.V' (T:=3) rfl) rfl,.one (ad.V' (T:=3) rfl) rfl,(cS.int (ad.R0 (T:=3) rfl)),⟨_,_,_,_,.one (ad.V' (T:=3) rfl) rfl,.one (ad.V' (T:=3) rfl) rfl,(cS.int (ad.R0 (T:=3) rfl)),⟨_,_,_,_,.one (ad.V' (T:=3) rfl) rfl,.one (ad.V' (T:=3) rfl) rfl,(cS.int (ad.R0 (T:=3) rfl)),⟨_,_,_,_,.one (ad.V' (T:=3) rfl) rfl,.one (ad.V' (T:=3) rfl) rfl,(cS.int (ad.R0 (T:=3) rfl)),⟨_,_,_,_,.one (ad.V' (T:=3) rfl) rfl,.one (ad.V' (T:=3) rfl) rfl,(cS.int (ad.R0 (T:=3) rfl)),⟨_,_,_,_,.one (ad.V' (T:=3) rfl) rfl,.one (ad.V' (T:=3) rfl) rfl,(cS.int (ad.R0 (T:=3) rfl)),rfl,rfl⟩,rfl⟩,rfl⟩,rfl⟩,rfl⟩,rfl⟩,rfl⟩;refine Eq.mp (db (cS prog (d+2) 50 (A x.c) (A y.c)) ?_) h;rw[pL];cases x;cases y;simp[bI.mk.injEq]
def aV.P'(x y:aV)(d:Nat):cS prog (d+3) 52 (A x.c) (A y.c) (decide (x=y)):=by have h:=cS.struct (P:=prog) (d:=d+2) (T:=52) (xs:=x.c) (qA:=y.c) (l:=[(29,0),(50,6),(3,13)]) XD ⟨_,_,_,_,.agg (ad.Sd (T:=29) rfl) rfl et.eq,.agg (ad.Sd (T:=29) rfl) rfl et.eq,(bP.P' _ _ (d+0)),⟨_,_,_,_,.agg (ad.Sd (T:=50) rfl) rfl et.eq,.agg (ad.Sd (T:=50) rfl) rfl et.eq,(bI.P' _ _ (d+0)),⟨_,_,_,_,.one (ad.V' (T:=3) rfl) rfl,.one (ad.V' (T:=3) rfl) rfl,(cS.int (ad.R0 (T:=3) rfl)),rfl,rfl⟩,rfl⟩,rfl⟩;refine Eq.mp (db (cS prog (d+3) 52 (A x.c) (A y.c)) ?_) h;rw[pL];cases x;cases y;simp[aV.mk.injEq]
def ba.P'(x y:ba)(d:Nat):cS prog (d+4) 54 (A x.c) (A y.c) (decide (x=y)):=by have h:=cS.struct (P:=prog) (d:=d+3) (T:=54) (xs:=x.c) (qA:=y.c) (l:=[(48,0),(48,2),(3,4),(52,5),(4,19)]) XD ⟨_,_,_,_,.agg (ad.Sd (T:=48) rfl) rfl et.eq,.agg (ad.Sd (T:=48) rfl) rfl et.eq,(bk.P' _ _ (d+1)),⟨_,_,_,_,.agg (ad.Sd (T:=48) rfl) rfl et.eq,.agg (ad.Sd (T:=48) rfl) rfl et.eq,(bk.P' _ _ (d+1)),⟨_,_,_,_,.one (ad.V' (T:=3) rfl) rfl,.one (ad.V' (T:=3) rfl) rfl,(cS.int (ad.R0 (T:=3) rfl)),⟨_,_,_,_,.agg (ad.Sd (T:=52) rfl) rfl et.eq,.agg (ad.Sd (T:=52) rfl) rfl et.eq,(aV.P' _ _ (d+0)),⟨_,_,_,_,.one (ad.V' (T:=4) rfl) rfl,.one (ad.V' (T:=4) rfl) rfl,(cS.bool (ad.Ur (T:=4) rfl)),rfl,rfl⟩,rfl⟩,rfl⟩,rfl⟩,rfl⟩;refine Eq.mp (db (cS prog (d+4) 54 (A x.c) (A y.c)) ?_) h;rw[pL];cases x;cases y;simp[ba.mk.injEq]
def bP.wf(x:bP):Prop:=lc .i64 x.Kind/\x.Key.length<=140737488351232/\x.Value.length<=140737488351232/\lc .i64 x.Version/\lc .i64 x.cy/\lc .i64 x.Number
def gs.wf(x:gs):Prop:=lc .i64 x.Kind/\lc .i64 x.be/\x.cz.wf/\lc .i64 x.N/\lc .i64 x.kJ/\lc .u8 x.o5
def gs.leaves:leaves prog 40 31=some [.i .i64,.i .i64,.i .i64,.s,.s,.i .i64,.i .i64,.i .i64,.i .i64,.i .i64,.i .u8]:=XD
def gs.fit{cs:ab aj}(f:gL [.i .i64,.i .i64,.i .i64,.s,.s,.i .i64,.i .i64,.i .i64,.i .i64,.i .i64,.i .u8] cs):∃x:gs,cs=x.c/\x.wf:=by obtain⟨_,_,rfl,⟨X,rfl,r⟩,F⟩:=gL.cons f;obtain⟨_,_,rfl,⟨q,rfl,l⟩,M⟩:=gL.cons F;obtain⟨_,_,rfl,⟨D,rfl,C⟩,g⟩:=gL.cons M;obtain⟨_,_,rfl,⟨w,rfl,K⟩,z⟩:=gL.cons g;obtain⟨_,_,rfl,⟨a,rfl,m⟩,N⟩:=gL.cons z;obtain⟨_,_,rfl,⟨y,rfl,p⟩,E⟩:=gL.cons N;obtain⟨_,_,rfl,⟨b,rfl,U⟩,k⟩:=gL.cons E;obtain⟨_,_,rfl,⟨n,rfl,J⟩,v⟩:=gL.cons k;obtain⟨_,_,rfl,⟨Q,rfl,Z⟩,h⟩:=gL.cons v;obtain⟨_,_,rfl,⟨u,rfl,o⟩,G⟩:=gL.cons h;obtain⟨_,_,rfl,⟨T,rfl,R⟩,Y⟩:=gL.cons G;obtain rfl:=gL.nil Y;exact⟨⟨X,q,⟨D,w,a,y,b,n⟩,Q,u,T⟩,rfl,⟨r,l,⟨C,K,m,p,U,J⟩,Z,o,R⟩⟩
def abl:laidOutB prog=true:=XD
def own:ownKnob prog.godebug=none:=XD
def mixed:prog.follows .mixedOrders=true:=XD
end Go.Proofs.YteogojgnkjegmaaGreatDoor
