/-
 Part of the proof.
-/
import Derived.Test.YteogojgnkjegmaaGreatDoorAi
set_option linter.all false
set_option maxRecDepth 8000
set_option maxHeartbeats 8000000
section
class Go.az.b5 where
 o:Option Go.Obj
end
namespace Go.Proofs.YteogojgnkjegmaaGreatDoor
open Go.az Go.Proofs.Tryz
variable[Go.az.b5]
variable{n:Int}{m:aD}{k:Nat}
def jL(k:Nat):Bool:=k==1||k==2||k==3||k==5||k==7
def iK(k:Nat):Bool:=k==7
def yv:ab (ab aj):=(List.range 9).map λk=>[B (jL k),B (iK k)]
def yw(h:k<9):yv[k]?=some [B (jL k),B (iK k)]:=by unfold yv;rw[h5,List.getElem?_range h];rfl
def cM:ay where
 gJ:=[0]
 holds w:=w.heap[0]?=b5.o/\tl w 0 0 2 yv
 loc w jk h cE:=by refine⟨by rw[h 0 VK];exact cE.1,?_⟩;intro i x b6;obtain⟨bf,bW⟩:=cE.2 i x b6;refine⟨bf,λj u hu=>?_⟩;have:=bW j u hu;unfold Go.World.cell? at this⊢;rw[h 0 VK];exact this
 lt w h x b6:=by
  obtain rfl:x=0:=TU
  have:=(h.2 0 _ (yw ac)).2 0 (B (jL 0)) rfl;unfold Go.World.cell? at this;cases ir:w.heap[0]? with
  |none=>rw[ir]at this;cases this
  |some o=>exact(pT.1 ir).1
def sw:Rd cM (some ⟨0,0,none⟩) 9 0 0 2 yv:=⟨rfl,VI,λ_=>rfl,λ_ h=>h.2⟩
structure hz(m:aD)(n:Int):Prop where
 gY:1<=m.Kind
 hf:m.Kind<=8
 f1:0<=m.bc
 f2:m.bc<n
 t1:0<=m.bI
 t2:m.bI<n
 item:bt m.Item n=true
 bm:cX m.bC n=true
 call:if jL m.Kind.toNat then e1 m.Call n=true else m.Call=aO.z
 bare:iK m.Kind.toNat=false->m.bZ=bp.z/\m.Status=0
 same:m.cZ=true->m.Kind=2\/iK m.Kind.toNat=true
 known:iK m.Kind.toNat=true->cX m.bZ n=true/\0<=m.Status/\m.Status<=3/\(m.Status=0->m.bZ=bp.z/\m.Call=aO.z/\m.cZ=false)
open Classical in
noncomputable def c4(m:aD)(n:Int):Bool:=decide (hz m n)
def cP{t:Bool}(h:t=true↔hz m n):B t=B (c4 m n):=by
 unfold c4;congr 1;by_cases a:hz m n
 .simp[a,h.2 a]
 .cases t with
  |false=>simp[a]
  |true=>exact absurd (h.1 rfl) a
def afj(h:¬hz m n):B false=B (c4 m n):=cP (by simp[h])
def afT:hz m n↔(1<=m.Kind/\m.Kind<=8)/\(0<=m.bc/\m.bc<n)/\(0<=m.bI/\m.bI<n)/\bt m.Item n=true/\cX m.bC n=true/\(if jL m.Kind.toNat then e1 m.Call n=true else m.Call=aO.z)/\(iK m.Kind.toNat=false->m.bZ=bp.z/\m.Status=0)/\(m.cZ=true->m.Kind=2\/iK m.Kind.toNat=true)/\(iK m.Kind.toNat=true->cX m.bZ n=true/\(0<=m.Status/\m.Status<=3)/\(m.Status=0->m.bZ=bp.z/\m.Call=aO.z/\m.cZ=false)):=
 ⟨λh=>⟨⟨h.gY,h.hf⟩,⟨h.f1,h.f2⟩,⟨h.t1,h.t2⟩,h.item,h.bm,h.call,h.bare,h.same,λT=>⟨(h.known T).1,⟨(h.known T).2.1,(h.known T).2.2.1⟩,(h.known T).2.2.2⟩⟩,
  λ⟨Y,Z,D,m,t,b,w,a,z⟩=>⟨Y.1,Y.2,Z.1,Z.2,D.1,D.2,m,t,b,w,a,λT=>⟨(z T).1,(z T).2.1.1,(z T).2.1.2,(z T).2.2⟩⟩⟩
def Aq(m:aD)(n:Int):ar prog 121 [A m.c,I n] [cM] (λr Yc=>r=B (c4 m n)/\Yc=[cM]):=by
 by_cases ca:1<=m.Kind/\m.Kind<=8
 .obtain⟨k,Ye⟩:∃k:Nat,m.Kind=(k:Int):=⟨m.Kind.toNat,ac⟩
  have G:=yw (k:=k) ac;have am:=n1 m.Item n;have X:=Ab m.bC n;have t:=Ab m.bZ n;have q:=HD m.Call n;have j:m.Kind.toNat=k:=ac
  refine aF func121 λW=>?_;refine aq 2 λoO=>?_;refine aa 22 ?_;refine ai.aX (λZm=>?_) (λZm=>?_);refine aa 27 ?_
  exact VC
  refine Px (λZn=>?_) λZn=>?_;refine aa 21 ?_
  exact VC
  refine VE (λZo=>?_) λZo=>?_;refine aa 16 ?_
  exact VC
  refine aa 7 ?_;refine R4 (λZp=>?_) λZp=>?_
  exact VC
  refine aa 8 ?_;refine ai.o (aw.fn rfl (am) ?_);refine LF (λZq=>?_) λZq=>?_;refine aa 17 ?_
  exact VC
  refine aa 8 ?_;refine R4 (λZr=>?_) λZr=>?_
  exact VC
  refine aa 6 ?_;refine ai.v (V.V6 ad (k:=k) rfl rfl Ye) ?_;refine SD λn2=>?_;refine aa 11 ?_;refine ai.aX (λZs=>?_) (λZs=>?_);refine aa 3 ?_;refine ai.v (V.ne (aO.Y' _ _ _)) ?_;refine aa 4 ?_;refine Nq (λZt=>?_) λZt=>?_
  exact VC
  refine VE (λU=>?_) λU=>?_;exact absurd (i7 (iL U) VV:true=false) VI;refine aa 16 ?_;refine ai.aX (λx=>?_) (λx=>?_);refine aa 3 ?_;refine ai.v (V.ne (bp.Y' _ _ _)) ?_;refine au ?_;refine ai.aX (λY=>?_) (λY=>?_);refine aa 18 ?_
  exact VC
  refine aa 8 ?_;refine Nq (λYf=>?_) λYf=>?_
  exact VC
  refine aa 5 ?_;refine VQ (λYg Yh=>?_) (λYg Yh=>?_) λYg=>?_;refine aa 7 ?_;refine Nq (λJ=>?_) λJ=>?_
  exact VC
  exact absurd (i7 (iL J) VV:true=false) VI;refine aa 16 ?_;refine Nq (λZ=>?_) λZ=>?_
  exact VC
  exact absurd (i7 (iL Z) VV:true=false) VI;refine aa 21 ?_;refine Nq (λN=>?_) λN=>?_
  exact VC
  exact absurd (i7 (iL N) VV:true=false) VI;refine aa 19 ?_;refine VQ (λYi Yj=>?_) (λYi Yj=>?_) λYi=>?_;refine aa 7 ?_;refine MO λM=>?_;refine aa 8 ?_;refine QE (λC Yk=>?_) λC Yk=>?_;refine aa 17 ?_;refine VQ (λYl Ym=>?_) (λYl Ym=>?_) λYl=>?_;refine VP (λYn Yo=>?_) (λYn Yo=>?_) λYn=>?_
  exact VC
  refine aa 8 ?_
  exact VC
  refine aa 12 ?_
  exact VC
  refine aa 17 ?_
  exact VC
  refine aa 22 ?_
  exact VC
  refine aa 20 ?_;refine VQ (λYp Yq=>?_) (λYp Yq=>?_) λYp=>?_;refine VP (λYr Ys=>?_) (λYr Ys=>?_) λYr=>?_
  exact VC
  refine aa 8 ?_
  exact VC
  refine aa 12 ?_
  exact VC
  refine aa 17 ?_
  exact VC
  refine aa 22 ?_
  exact VC
  refine aa 16 ?_;refine QE (λK Yt=>?_) λK Yt=>?_;refine aa 17 ?_;refine VQ (λYu Yv=>?_) (λYu Yv=>?_) λYu=>?_;refine VP (λYw Yx=>?_) (λYw Yx=>?_) λYw=>?_
  exact VC
  refine aa 8 ?_
  exact VC
  refine aa 12 ?_
  exact VC
  refine aa 17 ?_
  exact VC
  refine aa 22 ?_
  exact VC
  refine aa 20 ?_;refine VQ (λYy Yz=>?_) (λYy Yz=>?_) λYy=>?_;refine VP (λYA YB=>?_) (λYA YB=>?_) λYA=>?_
  exact VC
  refine aa 8 ?_
  exact VC
  refine aa 12 ?_
  exact VC
  refine aa 17 ?_
  exact VC
  refine aa 22 ?_
  exact VC
  refine aa 21 ?_;refine QE (λF YC=>?_) λF YC=>?_;refine aa 17 ?_;refine VQ (λYD YE=>?_) (λYD YE=>?_) λYD=>?_;refine VP (λYF YG=>?_) (λYF YG=>?_) λYF=>?_
  exact VC
  refine aa 8 ?_
  exact VC
  refine aa 12 ?_
  exact VC
  refine aa 17 ?_
  exact VC
  refine aa 22 ?_
  exact VC
  refine aa 20 ?_;refine VQ (λYH YI=>?_) (λYH YI=>?_) λYH=>?_;refine VP (λYJ YK=>?_) (λYJ YK=>?_) λYJ=>?_
  exact VC
  refine aa 8 ?_
  exact VC
  refine aa 12 ?_
  exact VC
  refine aa 17 ?_
  exact VC
  refine aa 22 ?_
  exact VC
  refine aa 14 ?_;refine ai.aX (λT=>?_) (λT=>?_);refine aa 9 ?_;refine Nq (λYL=>?_) λYL=>?_
  exact VC
  refine Px (λYM=>?_) λYM=>?_;refine aa 3 ?_;refine ai.v (V.ne (bp.Y' _ _ _)) ?_;refine au ?_;refine ai.aX (λYN=>?_) (λYN=>?_);refine aa 18 ?_
  exact VC
  refine aa 8 ?_;refine Nq (λYO=>?_) λYO=>?_
  exact VC
  refine aa 5 ?_;refine VQ (λYP YQ=>?_) (λYP YQ=>?_) λYP=>?_;refine aa 7 ?_;refine Nq (λu=>?_) λu=>?_
  exact VC
  exact absurd (i7 (iL u) VV:true=false) VI;refine aa 16 ?_;refine Nq (λE=>?_) λE=>?_
  exact VC
  exact absurd (i7 (iL E) VV:true=false) VI;refine aa 21 ?_;refine Nq (λQ=>?_) λQ=>?_
  exact VC
  exact absurd (i7 (iL Q) VV:true=false) VI;refine aa 19 ?_;refine VQ (λYR YS=>?_) (λYR YS=>?_) λYR=>?_;refine aa 7 ?_;refine MO λD=>?_;refine aa 8 ?_;refine QE (λR YT=>?_) λR YT=>?_;refine LF (λYU=>?_) λYU=>?_;refine aa 14 ?_;refine VQ (λYV YW=>?_) (λYV YW=>?_) λYV=>?_;refine VP (λYX YY=>?_) (λYX YY=>?_) λYX=>?_
  exact VC
  refine aa 8 ?_
  exact VC
  refine aa 12 ?_
  exact VC
  refine aa 17 ?_
  exact VC
  refine aa 22 ?_
  exact VC
  refine aa 14 ?_;refine VQ (λYZ Y0=>?_) (λYZ Y0=>?_) λYZ=>?_;refine VP (λY1 Y2=>?_) (λY1 Y2=>?_) λY1=>?_
  exact VC
  refine aa 8 ?_
  exact VC
  refine aa 12 ?_
  exact VC
  refine aa 17 ?_
  exact VC
  refine aa 22 ?_
  exact VC
  refine aa 20 ?_;refine VQ (λY3 Y4=>?_) (λY3 Y4=>?_) λY3=>?_;refine VP (λY5 Y6=>?_) (λY5 Y6=>?_) λY5=>?_
  exact VC
  refine aa 8 ?_
  exact VC
  refine aa 12 ?_
  exact VC
  refine aa 17 ?_
  exact VC
  refine aa 22 ?_
  exact VC
  refine aa 16 ?_;refine QE (λg Y7=>?_) λg Y7=>?_;refine LF (λY8=>?_) λY8=>?_;refine aa 14 ?_;refine VQ (λY9 Za=>?_) (λY9 Za=>?_) λY9=>?_;refine VP (λZb Zc=>?_) (λZb Zc=>?_) λZb=>?_
  exact VC
  refine aa 8 ?_
  exact VC
  refine aa 12 ?_
  exact VC
  refine aa 17 ?_
  exact VC
  refine aa 22 ?_
  exact VC
  refine aa 14 ?_;refine VQ (λZd Ze=>?_) (λZd Ze=>?_) λZd=>?_;refine VP (λZf Zg=>?_) (λZf Zg=>?_) λZf=>?_
  exact VC
  refine aa 8 ?_
  exact VC
  refine aa 12 ?_
  exact VC
  refine aa 17 ?_
  exact VC
  refine aa 22 ?_
  exact VC
  refine aa 20 ?_;refine VQ (λZh Zi=>?_) (λZh Zi=>?_) λZh=>?_;refine VP (λZj Zk=>?_) (λZj Zk=>?_) λZj=>?_
  exact VC
  refine aa 8 ?_
  exact VC
  refine aa 12 ?_
  exact VC
  refine aa 17 ?_
  exact VC
  refine aa 22 ?_
  exact VC
  refine aa 21 ?_;refine QE (λd Zl=>?_) λd Zl=>?_;refine LF (λf=>?_) λf=>?_;refine aa 14 ?_;refine VQ (λL z=>?_) (λL z=>?_) λL=>?_;refine VP (λP w=>?_) (λP w=>?_) λP=>?_
  exact VC
  refine aa 8 ?_
  exact VC
  refine aa 12 ?_
  exact VC
  refine aa 17 ?_
  exact VC
  refine aa 22 ?_
  exact VC
  refine aa 14 ?_;refine VQ (λa p=>?_) (λa p=>?_) λa=>?_;refine VP (λy b=>?_) (λy b=>?_) λy=>?_
  exact VC
  refine aa 8 ?_
  exact VC
  refine aa 12 ?_
  exact VC
  refine aa 17 ?_
  exact VC
  refine aa 22 ?_
  exact VC
  refine aa 20 ?_;refine VQ (λi l=>?_) (λi l=>?_) λi=>?_;refine VP (λs h=>?_) (λs h=>?_) λs=>?_
  exact VC
  refine aa 8 ?_
  exact VC
  refine aa 12 ?_
  exact VC
  refine aa 17 ?_
  exact VC
  refine aa 22 ?_
  exact VC
  exact absurd (i7 (iL T) VV:false=true) VI
 .refine aF func121 λW=>?_;refine aq 2 λoO=>?_;refine OK (λc=>?_) λc=>?_;refine aa 37 ?_
  exact Vu
  refine aa 38 ?_
  exact Vu
def oP(m:aD):ab aS:=if iK m.Kind.toNat then iJ m.bZ++bL m.Status else[]
def mw(m:aD):ab aS:=if iK m.Kind.toNat||m.Kind==2 then bL (if m.cZ then 1 else 0)else[]
def lG(m:aD):ab aS:=if jL m.Kind.toNat then kG m.Call else[]
def iu(m:aD):ab aS:=bL m.Kind++(bL m.bc++(bL m.bI++(kr m.Item++(iJ m.bC++(oP m++(mw m++lG m))))))
def HR(Y:1<=k)(Z:k<=8):(k=7)\/(k=2)\/(k≠7/\k≠2/\jL k=true/\iK k=false)\/(k≠7/\k≠2/\jL k=false/\iK k=false):=by rcases(by omega:k=1\/k=2\/k=3\/k=4\/k=5\/k=6\/k=7\/k=8)with h|h|h|h|h|h|h|h<;>subst h<;>decide
def wK{b:bp}(h:cX b n=true)(y:n<=1000):(iJ b).length<=18:=by obtain⟨Y,Z,D,m⟩:=k4 h;have o:=fG (n:=b.Round) ac;have Y:=fG (n:=b.a1) ac;unfold iJ;rw[bQ];omega
def u9{x:ag}(h:bt x n=true):0<=x.a1/\x.a1<n/\1<=x.bX/\x.bX<=64:=by simp only[bt,c1,cO]at h;omega
def Dn{x:ag}(h:bt x n=true)(y:n<=1000):(kr x).length<=18:=by obtain⟨Y,Z,D,m⟩:=u9 h;have o:=fG (n:=x.bX) ac;have Y:=fG (n:=x.a1) ac;unfold kr;rw[bQ];omega
def n5{x:ag}{m:Int}(h:bt x n=true)(y:n<=m):bt x m=true:=by have:=u9 h;simp only[bt,c1,cO];omega
def qJ{x:bp}{m:Int}(h:cX x n=true)(y:n<=m):cX x m=true:=by have:=k4 h;simp only[cX,cO];omega
def afD(b:Nat)(v:aj)(m:aD)(n:Int)(y:n<=7)(h:hz m n):ar prog 122 [av b 0,A m.c] [cells b 231 (gB.c ⟨v⟩),rows dL v 5 1 [],cM] (λr Z=>∃L,r=.tuple #[]/\Z=[cells b 231 (gB.c ⟨L⟩),rows dL L 5 1 (iu m),cM]):=by
 obtain⟨k,X⟩:∃k:Nat,m.Kind=(k:Int):=⟨m.Kind.toNat,by have:=h.gY;omega⟩
 have j:m.Kind.toNat=k:=ac
 have gY:=h.gY;have hf:=h.hf;have f1:=h.f1;have f2:=h.f2;have t1:=h.t1;have t2:=h.t2;have G:=yw (k:=k) ac;obtain⟨Ar,wL,adZ,adR⟩:=u9 h.item;obtain⟨T,u,z,a⟩:=k4 h.bm;refine P0 λo E P rD NZ N0=>?_;rcases HR (k:=k) ac ac with e|e|⟨p,N,w,x⟩|⟨p,N,w,x⟩
 .subst e;obtain⟨M,Q,v3,v4⟩:=h.known (by rw[j];rfl);obtain⟨t,oE,mn,Dm⟩:=k4 M;have ahg:=wK M ac;have akp:=fG (n:=m.Status) ac;have R:e1 m.Call n=true:=by have:=h.call;rw[j]at this;simpa[jL]using this
  have g (v:aj) (D:ab aS) (K:D.length<=600000):=An b v D m.Call n R K;have e:[]++(bL m.Kind++(bL m.bc++bL m.bI))++kr m.Item++iJ m.bC++iJ m.bZ++bL m.Status++bL (if m.cZ then 1 else 0)++kG m.Call=iu m:=by simp[iu,oP,mw,lG,j,jL,iK,ck]
  rw[<-e];simp only[show jL 7=true from rfl,show iK 7=true from rfl]at G;refine Qg λW U s=>?_;refine ai.x' rfl (yn _ _ _ _ _ _ _ ?_ ?_ ?_ ?_) ?_;iterate 4 exact co
  rintro _ _⟨Y,rfl,rfl⟩;refine aa 8 ?_;refine ai.x' rfl (yl _ _ _ _ ?_ ?_ ?_) ?_;iterate 3 exact co
  rintro _ _⟨q,rfl,rfl⟩;refine aa 8 ?_;refine ai.x' rfl (u4 _ _ _ _ ?_ ?_ ?_) ?_;iterate 3 exact co
  rintro _ _⟨J,rfl,rfl⟩;refine aa 7 ?_;refine ai.v (V.V6 ad (k:=7) rfl rfl X) ?_;refine SD λd=>?_;refine aa 16 ?_;refine ai.x' rfl (u4 _ _ _ _ ?_ ?_ ?_) ?_;iterate 3 exact co
  rintro _ _⟨F,rfl,rfl⟩;refine aq 7 λf=>?_;refine ai.x' rfl (rv _ _ _ _ _ ?_ ?_) ?_;iterate 2 exact co
  rintro _ _⟨l,rfl,rfl⟩;refine aa 20 ?_;exact Ms
 .subst e;have R:e1 m.Call n=true:=by have:=h.call;rw[j]at this;simpa[jL]using this
  have g (v:aj) (D:ab aS) (K:D.length<=600000):=An b v D m.Call n R K;have e:[]++(bL m.Kind++(bL m.bc++bL m.bI))++kr m.Item++iJ m.bC++bL (if m.cZ then 1 else 0)++kG m.Call=iu m:=P8
  rw[<-e];simp only[show jL 2=true from rfl,show iK 2=false from rfl]at G;refine Qg λW U s=>?_;refine ai.x' rfl (yn _ _ _ _ _ _ _ ?_ ?_ ?_ ?_) ?_;iterate 4 exact co
  rintro _ _⟨Y,rfl,rfl⟩;refine aa 8 ?_;refine ai.x' rfl (yl _ _ _ _ ?_ ?_ ?_) ?_;iterate 3 exact co
  rintro _ _⟨q,rfl,rfl⟩;refine aa 8 ?_;refine ai.x' rfl (u4 _ _ _ _ ?_ ?_ ?_) ?_;iterate 3 exact co
  rintro _ _⟨J,rfl,rfl⟩;refine aa 7 ?_;refine ai.v (V.V6 ad (k:=2) rfl rfl X) ?_;refine SD λd=>?_;refine aa 30 ?_;exact Ms
 .have R:e1 m.Call n=true:=by have:=h.call;rw[j,w]at this;simpa using this
  have g (v:aj) (D:ab aS) (K:D.length<=600000):=An b v D m.Call n R K;have e:[]++(bL m.Kind++(bL m.bc++bL m.bI))++kr m.Item++iJ m.bC++kG m.Call=iu m:=by
   have:¬m.Kind=2:=ac
   simp[iu,oP,mw,lG,j,w,x,ck,this]
  rw[<-e];simp only[w,x]at G;refine Qg λW U s=>?_;refine ai.x' rfl (yn _ _ _ _ _ _ _ ?_ ?_ ?_ ?_) ?_;iterate 4 exact co
  rintro _ _⟨Y,rfl,rfl⟩;refine aa 8 ?_;refine ai.x' rfl (yl _ _ _ _ ?_ ?_ ?_) ?_;iterate 3 exact co
  rintro _ _⟨q,rfl,rfl⟩;refine aa 8 ?_;refine ai.x' rfl (u4 _ _ _ _ ?_ ?_ ?_) ?_;iterate 3 exact co
  rintro _ _⟨J,rfl,rfl⟩;refine MV ?_;refine SD λd=>?_;refine aa 39 ?_;refine ai.x' rfl (g _ _ ?_) ?_;exact co;rintro _ _⟨C,rfl,rfl⟩;exact aQ 3
 .have e:[]++(bL m.Kind++(bL m.bc++bL m.bI))++kr m.Item++iJ m.bC=iu m:=by
   have:¬m.Kind=2:=ac
   simp[iu,oP,mw,lG,j,w,x,ck,this]
  rw[<-e];simp only[w,x]at G;refine Qg λW U s=>?_;refine ai.x' rfl (yn _ _ _ _ _ _ _ ?_ ?_ ?_ ?_) ?_;iterate 4 exact co
  rintro _ _⟨Y,rfl,rfl⟩;refine aa 8 ?_;refine ai.x' rfl (yl _ _ _ _ ?_ ?_ ?_) ?_;iterate 3 exact co
  rintro _ _⟨q,rfl,rfl⟩;refine aa 8 ?_;refine ai.x' rfl (u4 _ _ _ _ ?_ ?_ ?_) ?_;iterate 3 exact co
  rintro _ _⟨J,rfl,rfl⟩;refine MV ?_;refine SD λd=>?_;exact aQ 37
def N3(b:Nat)(m:aD)(n:Int)(y:n<=7)(h:hz m n):ar prog 131 [av b 0] [cells b 306 (fd.c ⟨iu m,false⟩),cM] (λr J=>r=A m.c/\J=[cells b 306 (fd.c ⟨[],false⟩),cM]):=by
 obtain⟨k,X⟩:∃k:Nat,m.Kind=(k:Int):=⟨m.Kind.toNat,by have:=h.gY;omega⟩
 have j:m.Kind.toNat=k:=ac
 have gY:=h.gY;have hf:=h.hf;have f1:=h.f1;have f2:=h.f2;have t1:=h.t1;have t2:=h.t2;have G:=yw (k:=k) ac;have tD:=n5 h.item y;have l:=qJ h.bm y;refine P0 λP Q s rD NZ N0=>?_;have i:=h.call;have K:=h.bare;have Y:=h.same;have R:=h.known;rw[j]at i K Y R;rcases HR (k:=k) ac ac with e|e|⟨p,C,a,U⟩|⟨p,C,a,U⟩
 .subst e;obtain⟨M,F,v3,v4⟩:=R rfl;have v0:=qJ M y;have ahg:=wK M ac;have akp:=fG (n:=m.Status) ac;have q:e1 m.Call n=true:=by simpa[jL]using i
  have f:=Am q;have d (x:ab aS) (g:x.length<=1000000):=Ao b m.Call n x q g;have e:bL m.Kind++(bL m.bc++(bL m.bI++(kr m.Item++(iJ m.bC++(iJ m.bZ++(bL m.Status++(bL (if m.cZ then 1 else 0)++(kG m.Call++[]))))))))=iu m:=by simp[iu,oP,mw,lG,j,jL,iK,ck]
  rw[<-e];clear e;simp only[show jL 7=true from rfl,show iK 7=true from rfl]at G;refine zf λW N=>?_;refine ai.x' rfl (j1 _ _ _ _ ?_ ?_ ?_ ?_) ?_;iterate 4 exact co
  refine aa 2 ?_;refine ai.x' rfl (j1 _ _ _ _ ?_ ?_ ?_ ?_) ?_;iterate 4 exact co
  refine aa 2 ?_;refine ai.x' rfl (j1 _ _ _ _ ?_ ?_ ?_ ?_) ?_;iterate 4 exact co
  refine aa 2 ?_;refine ai.x' rfl (ym _ _ _ ?_ ?_) ?_;iterate 2 exact co
  refine aa 2 ?_;refine ai.x' rfl (u5 _ _ _ ?_ ?_) ?_;iterate 2 exact co
  refine aq 2 λZ=>?_;refine aa 7 ?_;refine ai.v (V.V6 ad (k:=7) rfl rfl X) ?_;refine SD λD=>?_;refine aa 13 ?_;refine ai.x' rfl (u5 _ _ _ ?_ ?_) ?_;iterate 2 exact co
  refine aa 2 ?_;refine ai.x' rfl (j1 _ _ _ _ ?_ ?_ ?_ ?_) ?_;iterate 4 exact co
  refine aa 22 ?_;refine ai.x' rfl (Dk _ _ _ ?_) ?_;exact co;refine aa 15 ?_;refine ai.x' rfl (d _ ?_) ?_;exact co;exact aQ 13
 .subst e;obtain⟨M,F⟩:=K rfl;have q:e1 m.Call n=true:=by simpa[jL]using i
  have f:=Am q;have d (x:ab aS) (g:x.length<=1000000):=Ao b m.Call n x q g;have e:bL m.Kind++(bL m.bc++(bL m.bI++(kr m.Item++(iJ m.bC++(bL (if m.cZ then 1 else 0)++(kG m.Call++[]))))))=iu m:=P8
  rw[<-e];clear e;simp only[show jL 2=true from rfl,show iK 2=false from rfl]at G;obtain⟨mk,kZ,mt,o,T,fV,u,L,t⟩:=m;dsimp only at*;subst M F;refine zf λW N=>?_;refine ai.x' rfl (j1 _ _ _ _ ?_ ?_ ?_ ?_) ?_;iterate 4 exact co
  refine aa 2 ?_;refine ai.x' rfl (j1 _ _ _ _ ?_ ?_ ?_ ?_) ?_;iterate 4 exact co
  refine aa 2 ?_;refine ai.x' rfl (j1 _ _ _ _ ?_ ?_ ?_ ?_) ?_;iterate 4 exact co
  refine aa 2 ?_;refine ai.x' rfl (ym _ _ _ ?_ ?_) ?_;iterate 2 exact co
  refine aa 2 ?_;refine ai.x' rfl (u5 _ _ _ ?_ ?_) ?_;iterate 2 exact co
  refine aq 2 λZ=>?_;refine aa 7 ?_;refine ai.v (V.V6 ad (k:=2) rfl rfl X) ?_;refine SD λD=>?_;refine aa 28 ?_;refine ai.x' rfl (Dk _ _ _ ?_) ?_;exact co;refine aa 15 ?_;refine ai.x' rfl (d _ ?_) ?_;exact co;exact aQ 13
 .obtain⟨M,F⟩:=K U;have q:e1 m.Call n=true:=by rw[a]at i;simpa using i
  have f:=Am q;have w:¬m.Kind=2:=ac
  have E:m.cZ=false:=by
   cases E:m.cZ with
   |false=>rfl
   |true=>
     rcases Y E with h|h
     .exact absurd h w
     .rw[U]at h;cases h
  have d (x:ab aS) (g:x.length<=1000000):=Ao b m.Call n x q g;have e:bL m.Kind++(bL m.bc++(bL m.bI++(kr m.Item++(iJ m.bC++(kG m.Call++[])))))=iu m:=by simp[iu,oP,mw,lG,j,a,U,ck,w]
  rw[<-e];clear e;simp only[a,U]at G;obtain⟨mk,kZ,mt,o,T,fV,u,L,t⟩:=m;dsimp only at*;subst M F E;refine zf λW N=>?_;refine ai.x' rfl (j1 _ _ _ _ ?_ ?_ ?_ ?_) ?_;iterate 4 exact co
  refine aa 2 ?_;refine ai.x' rfl (j1 _ _ _ _ ?_ ?_ ?_ ?_) ?_;iterate 4 exact co
  refine aa 2 ?_;refine ai.x' rfl (j1 _ _ _ _ ?_ ?_ ?_ ?_) ?_;iterate 4 exact co
  refine aa 2 ?_;refine ai.x' rfl (ym _ _ _ ?_ ?_) ?_;iterate 2 exact co
  refine aa 2 ?_;refine ai.x' rfl (u5 _ _ _ ?_ ?_) ?_;iterate 2 exact co
  refine aq 2 λZ=>?_;refine MV ?_;refine SD λD=>?_;refine aa 38 ?_;refine ai.x' rfl (d _ ?_) ?_;exact co;exact aQ 13
 .obtain⟨M,F⟩:=K U;have q:m.Call=aO.z:=by rw[a]at i;simpa using i
  have w:¬m.Kind=2:=ac
  have E:m.cZ=false:=by
   cases E:m.cZ with
   |false=>rfl
   |true=>
     rcases Y E with h|h
     .exact absurd h w
     .rw[U]at h;cases h
  have e:bL m.Kind++(bL m.bc++(bL m.bI++(kr m.Item++(iJ m.bC++[]))))=iu m:=by simp[iu,oP,mw,lG,j,a,U,ck,w]
  rw[<-e];clear e;simp only[a,U]at G;obtain⟨mk,kZ,mt,o,T,fV,u,L,t⟩:=m;dsimp only at*;subst M F E q;refine zf λW N=>?_;refine ai.x' rfl (j1 _ _ _ _ ?_ ?_ ?_ ?_) ?_;iterate 4 exact co
  refine aa 2 ?_;refine ai.x' rfl (j1 _ _ _ _ ?_ ?_ ?_ ?_) ?_;iterate 4 exact co
  refine aa 2 ?_;refine ai.x' rfl (j1 _ _ _ _ ?_ ?_ ?_ ?_) ?_;iterate 4 exact co
  refine aa 2 ?_;refine ai.x' rfl (ym _ _ _ ?_ ?_) ?_;iterate 2 exact co
  refine aa 2 ?_;refine ai.x' rfl (u5 _ _ _ ?_ ?_) ?_;iterate 2 exact co
  refine aq 2 λZ=>?_;refine MV ?_;refine SD λD=>?_;exact aQ 46
end Go.Proofs.YteogojgnkjegmaaGreatDoor
namespace Go.Proofs.YteogojgnkjegmaaGreatDoor
open Go.az Go.Proofs.Tryz
def pv(N:ab (ab aS)):ab aS:=N.flatMap he
def Do{t:ab aS}(h:t.length<=16384):5<=(he t).length/\(he t).length<=t.length+13:=by have Y:1<=(bL (t.length:Int)).length:=C4 _;have Z:=fG (n:=(t.length:Int)) ac;rw[he,aG ac];simp only[bQ,i4,df,gv];omega
def HS{t:ab aS}(f:t.length<=16384)(x:ab aS):g6 (he t++x)=(t,((he t).length:Int)):=by
 have G:=yi t.length 0 0 (i4 (i5 (bL (t.length:Int)++t))++(t++x)) (by
  have:(128:Nat)^(9-0)=9223372036854775808:=VI
  omega) (.inr rfl)
 have E:he t++x=fZ t.length++(i4 (i5 (bL (t.length:Int)++t))++(t++x)):=Vi
 have u:(he t).length=(fZ t.length).length+4+t.length:=by rw[he,aG ac,bL,hY];simp only[bQ,i4,df,gv]
 have m:(i4 (i5 (bL (t.length:Int)++t))).length=4:=rfl;have c:(i4 (i5 (bL (t.length:Int)++t))++(t++x)).drop 4=t++x:=List.drop_left' m;have C:(i4 (i5 (bL (t.length:Int)++t))++(t++x)).take 4=i4 (i5 (bL (t.length:Int)++t)):=As m;unfold g6;rw[E,G];simp only[h4,Dp,p3,c,C,pX];rw[aG ac,aG (by simp only[bQ,m];omega)];rw[aJ trivial,u];congr 2;simp only[bQ,m];omega
def kI:Nat->ab (ab aS)->ab (Nat×ab aS)
 |_,[]=>[]
 |i,t::N=>(i+(he t).length,t)::kI (i+(he t).length) N
def Au(t:ab aS)(N:ab (ab aS)):pv (t::N)=he t++pv N:=by simp[pv]
def ah1{N:ab (ab aS)}(h:∀t,t∈N->t.length<=16384):5*N.length<=(pv N).length:=by
 induction N with
 |nil=>simp
 |cons t N X=>
  have Y:=Do (h t VK);have Z:=X λx U=>h x Ti;rw[Au,bQ,df];omega
def Av{a b:Nat}(h:a^^^b=0):a=b:=by
 have:a^^^b^^^b=0^^^b:=by rw[h]
 rwa[rx,yx,Nat.xor_zero,Nat.zero_xor]at this
def N5(a b:Nat):nx (a^^^b)=nx a^^^nx b:=by
 have h:=Hm a b;unfold nx;rw[Hl];by_cases J:a%2=1
 .by_cases X:b%2=1
  .rw[aG ac,aJ J,aJ X];rw[rx,Dc ss,rx,yx,Nat.xor_zero]
  .rw[aJ ac,aJ J,aG X,rx,rx,Dc ss]
 .by_cases X:b%2=1
  .rw[aJ ac,aG J,aJ X,rx]
  .rw[aG ac,aG J,aG X]
def va(a b:Nat):∀k,hx k (a^^^b)=hx k a^^^hx k b
 |0=>rfl
 |k+1=>by rw[hx,hx,hx,va a b k,N5]
def N6{d:Nat}(c:d<4294967296)(h:nx d=0):d=0:=by
 unfold nx at h;split at h
 .have:=Av h;unfold ss at this;omega
 .omega
def Dq{d:Nat}(c:d<4294967296):∀k,hx k d=0->d=0
 |0,h=>h
 |k+1,h=>Dq c k (N6 (Ai c k) h)
def N7(k:Nat)(c:Nat):hx k (nx c)=nx (hx k c):=by
 induction k with
 |zero=>rfl
 |succ k X=>rw[hx,hx,X]
def HT(y:Nat):∀k,hx k (2^k*y)=y
 |0=>by simp[hx]
 |k+1=>by
  have Y:2^(k+1)*y=2*(2^k*y):=by rw[wD,yd (2^k) 2,Nat.mul_assoc]
  have Z:nx (2*(2^k*y))=2^k*y:=by unfold nx;rw[aG ac];omega
  rw[hx,<-N7,Y,Z,HT y k]
def agd(j k c:Nat):hx (j+k) c=hx j (hx k c):=by
 induction j with
 |zero=>rw[h4];rfl
 |succ j X=>rw[Nat.succ_add,hx,X,hx]
def mZ:ab aS->ab aS->Nat
 |x::s,y::t=>(x.toNat^^^y.toNat)^^^(256*mZ s t)
 |_,_=>0
def HU:∀s,mZ s s=0
 |[]=>rfl
 |x::s=>by rw[mZ,yx,HU s];rfl
def HV(x y:aS):x.toNat^^^y.toNat<256:=Hn (n:=8) x.toNat_lt y.toNat_lt
def HW:∀(s t:ab aS),s.length=t.length->mZ s t=0->s=t
 |[],[],_,_=>rfl
 |[],_::_,h,_=>VT
 |_::_,[],h,_=>VT
 |x::s,y::t,u,h=>by
  have Y:=Av h;have Z:=HV x y;have D:x.toNat^^^y.toNat=0:=ac
  have m:mZ s t=0:=ac
  rw[HW s t (by simpa using u) m,UInt8.toNat_inj.1 (Av D)]
def HX:∀(s t:ab aS) (n:Nat),s.length<=n->mZ s t<2^(8*n)
 |[],t,n,_=>by
  have:mZ [] t=0:=by cases t<;>rfl
  rw[this];exact Nat.two_pow_pos _
 |_::_,[],n,_=>Nat.two_pow_pos _
 |x::s,y::t,0,h=>VT
 |x::s,y::t,n+1,h=>by
  have Y:=HX s t n VR;have Z:=HV x y;have D:2^(8*(n+1))=256*2^(8*n):=by rw[Nat.mul_add,Nat.pow_add,yd]
  have m:0<2^(8*n):=Nat.two_pow_pos _;rw[mZ];exact Hn ac ac
def Dr:∀(s t:ab aS) (c d:Nat),s.length=t.length->jt c s^^^jt d t=hx (8*s.length) ((c^^^d)^^^mZ s t)
 |[],[],c,d,_=>by simp[jt,mZ,hx]
 |[],_::_,_,_,h=>VT
 |_::_,[],_,_,h=>VT
 |x::s,y::t,c,d,u=>by
  have X:=Dr s t (ny c x.toNat) (ny d y.toNat) (by simpa using u);have p:jt c (x::s)=jt (ny c x.toNat) s:=rfl;have h:jt d (y::t)=jt (ny d y.toNat) t:=rfl;have j:=HT (mZ s t) 8;have Y:ny c x.toNat^^^ny d y.toNat^^^mZ s t=hx 8 ((c^^^d)^^^((x.toNat^^^y.toNat)^^^(256*mZ s t))):=by rw[va,va _ (256*mZ s t),show 256*mZ s t=2^8*mZ s t from rfl,j,ny,ny,va,va,va,va];simp only[rx];congr 1;rw[<-rx (hx 8 x.toNat),Dc (hx 8 x.toNat),rx]
  rw[p,h,X,Y,mZ,df,Nat.mul_add,agd]
def aln{c d:Nat}(q:c<4294967296)(b:d<4294967296){s:ab aS}(h:jt c s=jt d s):c=d:=by have:=Dr s s c d rfl;rw[h,yx,HU,Nat.xor_zero]at this;exact Av (Dq (yg q b) _ this.symm)
def akW{c:Nat}(q:c<4294967296)(a b s t:ab aS)(u:s.length=t.length)(m:s.length<=4)(N:s≠t):jt c (a++s++b)≠jt c (a++t++b):=by intro h;rw[yh,yh,yh c (a++t),yh c a t]at h;have F:=u3 q a;have Y:=aln (u3 F s) (u3 F t) h;have Z:=Dr s t (jt c a) (jt c a) u;rw[Y,yx,yx,Nat.zero_xor]at Z;exact N (HW s t u (Dq (HX s t 4 m) _ Z.symm))
def Ob{a b:Nat}(J:a<4294967296)(X:b<4294967296)(h:i4 a=i4 b):a=b:=by
 simp only[i4,q9,nm]at h;obtain⟨W,Y,Z,D⟩:=h;have e:∀{x y:Nat},UInt8.ofNat x=UInt8.ofNat y->x%256=y%256:=λ{x y} h=>by have:=c7 UInt8.toNat h;simpa using this
 have:=e W;have:=e Y;have:=e Z;have:=e D;omega
def aeh{n:Nat}(y:n<=16384){f t:ab aS}(l:f.length=4)(o:t.length=n)(Z:i4 (i5 (bL (n:Int)++t))≠f):g6 (bL (n:Int)++(f++t))=([],0):=by
 have G:=yi n 0 0 (f++t) (by
  have:(128:Nat)^(9-0)=9223372036854775808:=VI
  omega) (.inr rfl)
 have c:(f++t).drop 4=t:=List.drop_left' l;have C:(f++t).take 4=f:=As l;have e:bL (n:Int)=fZ n:=by rw[bL,hY]
 unfold g6;rw[e,G];simp only[h4,Dp,p3,c,C];rw[aG ac,aG (by rw[bQ];omega),lr ac];rw[aG Z]
def ag5(n:Nat):∀(i acc j:Nat),j<(fZ n).length->js ((fZ n).take j) i acc=none:=by
 induction n using Nat.strongRecOn with
 |_ n X=>
  intro i acc j v;cases j with
  |zero=>rfl
  |succ j=>
   by_cases u:n<128
   .rw[p7 u]at v;simp at v
   .rw[qH u]at v⊢;rw[ws,js];split
    .rfl
    .have:(UInt8.ofNat (128+n%128)).toNat=128+n%128:=by simp;omega
     rw[aG ac];exact X (n/128) ac _ _ _ P1
def adU{t:ab aS}(f:t.length<=16384){k:Nat}(T:k<(he t).length):g6 ((he t).take k)=([],0):=by
 have E:he t=fZ t.length++(i4 (i5 (bL (t.length:Int)++t))++t):=Vi
 have u:(he t).length=(fZ t.length).length+4+t.length:=by rw[E];simp only[bQ,i4,df,gv];omega
 unfold g6;by_cases h:k<(fZ t.length).length
 .rw[E,oA ac,ag5 _ _ _ _ h]
 .have e:(he t).take k=fZ t.length++(i4 (i5 (bL (t.length:Int)++t))++t).take (k-(fZ t.length).length):=by rw[E,sd,lr ac]
  have G:=yi t.length 0 0 ((i4 (i5 (bL (t.length:Int)++t))++t).take (k-(fZ t.length).length)) (by
   have:(128:Nat)^(9-0)=9223372036854775808:=VI
   omega) (.inr rfl)
  rw[e,G];simp only[h4,Dp,p3];rw[aG ac,aJ Pq]
def ahb(n:Nat)(z:aS):∀(i acc j:Nat),j<(fZ n).length->js ((fZ n).take j++[z]) i acc=none\/∃v,js ((fZ n).take j++[z]) i acc=some (v,[]):=by
 induction n using Nat.strongRecOn with
 |_ n X=>
  intro i acc j v;cases j with
  |zero=>
   rw[xU,g4,js];split
   .exact .inl rfl
   .split
    .split
     .exact .inl rfl
     .exact .inr ⟨_,rfl⟩
    .rw[js];exact .inl rfl
  |succ j=>
   by_cases u:n<128
   .rw[p7 u]at v;simp at v
   .rw[qH u]at v⊢;rw[ws,mQ,js];split
    .exact .inl rfl
    .have:(UInt8.ofNat (128+n%128)).toNat=128+n%128:=by simp;omega
     rw[aG ac];exact X (n/128) ac _ _ _ P1
def HY{t:ab aS}(f:t.length<=16384)(W:0<t.length){k:Nat}(T:k<(he t).length)(z:aS)(w:k+1<(he t).length\/(he t)[k]?≠some z):g6 ((he t).take k++[z])=([],0):=by
 have L:bL (t.length:Int)=fZ t.length:=by rw[bL,hY]
 have a:(i4 (i5 (bL (t.length:Int)++t))).length=4:=rfl;have E:he t=fZ t.length++(i4 (i5 (bL (t.length:Int)++t))++t):=by rw[he,aG ac,L];simp only[ck]
 have u:(he t).length=(fZ t.length).length+(4+t.length):=by rw[E,bQ,bQ,a]
 by_cases h:k<(fZ t.length).length
 .rw[E,oA ac];unfold g6;rcases ahb t.length z 0 0 k h with e|⟨v,e⟩<;>rw[e];dsimp only;split
  .rfl
  .rw[aJ (by simp only[gv];omega)]
 .obtain⟨j,rfl⟩:∃j,k=(fZ t.length).length+j:=⟨k-(fZ t.length).length,ac⟩
  have r:∀M:ab aS,(fZ t.length++M).take ((fZ t.length).length+j)=fZ t.length++M.take j:=λM=>G3 ..;by_cases v:j+1<4+t.length
  .rw[E,r,ck];generalize R:i4 (i5 (bL (t.length:Int)++t))++t=M;have i:M.length=4+t.length:=by rw[<-R,bQ,a]
   have G:=yi t.length 0 0 (M.take j++[z]) (by
    have:(128:Nat)^(9-0)=9223372036854775808:=VI
    omega) (.inr rfl)
   unfold g6;rw[G];simp only[h4,Dp,p3];rw[aG ac,aJ (by rw[bQ,e8,df,gv];omega)]
  .obtain⟨m,y,T⟩:∃m y,t=m++[y]:=⟨t.dropLast,t.getLast (by intro e;rw[e]at W;simp at W),(List.dropLast_concat_getLast _).symm⟩
   have o:t.length=m.length+1:=by rw[T];simp
   have J:j=4+m.length:=ac
   have i:y≠z:=by
    rcases w with w|w
    .omega
    .intro e;apply w;rw[E,iC ac,show(fZ t.length).length+j-(fZ t.length).length=j by omega,iC ac,a,show j-4=m.length by omega,T,<-e];simp
   have p:(i4 (i5 (bL (t.length:Int)++t))++t).take j=i4 (i5 (bL (t.length:Int)++t))++m:=by
    rw[sd,lr ac,a,show j-4=m.length by omega];congr 1;conv=>lhs;rw[T]
    exact As rfl
   rw[E,r,p,ck,ck,<-L];refine aeh f a VG ?_;intro v;have Y:=Ob (Hq _) (Hq _) v;obtain⟨L,p⟩:∃L,bL (t.length:Int)=L:=⟨_,rfl⟩
   rw[p]at Y;have X:=akW (c:=4294967295) VI (L++m) [] [y] [z] rfl VK (by simpa using i);apply X;have o:=u3 (c:=4294967295) VI (L++m++[y]++[]);have U:=u3 (c:=4294967295) VI (L++m++[z]++[]);have h:L++t=L++m++[y]++[]:=by rw[T];simp
   have j:L++(m++[z])=L++m++[z]++[]:=VK
   rw[h,j]at Y;unfold i5 at Y;omega
end Go.Proofs.YteogojgnkjegmaaGreatDoor
namespace Go.Proofs.YteogojgnkjegmaaGreatDoor
open Go.az Go.Proofs.Tryz
variable[Go.az.b5]
variable{n:Int}{m:aD}
def gZ:c4 m n=true↔hz m n:=by unfold c4;exact@decide_eq_true_iff _ (Classical.propDecidable _)
def yy(y:n<=7)(h:hz m n):(iu m).length<=500:=by
 have a:=h.gY;have L:=h.hf;have t:=h.f2;have u:=h.t2;have o:=fG (n:=m.Kind) ac;have Y:=fG (n:=m.bc) ac;have F:=fG (n:=m.bI) ac;have c:=Dn h.item ac;have X:=wK h.bm ac;have U:(mw m).length<=9:=by
  unfold mw;split
  .exact fG Pk
  .simp
 have p:(oP m).length<=27:=by
  unfold oP;split
  .rename_i T;obtain⟨M,K,q,s⟩:=h.known T;have:=wK M ac;have:=fG (n:=m.Status) ac;rw[bQ];omega
  .simp
 have Q:(lG m).length<=300:=by
  unfold lG;split
  .rename_i T;have:=h.call;rw[aJ T]at this;exact Am this
  .simp
 unfold iu;simp only[bQ];omega
def gP(m:aD):ab aS:=he (iu m)
def ajS(m:aD)(n:Int)(y:n<=7):ar prog 88 [A m.c,I n] [cM] (λr J=>r=(if c4 m n=true then .tuple #[S (gP m),I 0]else .tuple #[S [],I 1])/\J=[cM]):=by
 have T:=Aq m n;by_cases G:c4 m n=true
 .rw[G]at T;rw[aJ G];have u:=yy y (gZ.1 G);have R (b:Nat) (v:aj):=afD b v m n y (gZ.1 G);unfold gP;refine aF func88 λW=>?_;refine aa 2 ?_;refine ai.o (O.Xo dL 5 1 rfl (λx=>?_));refine aa 24 ?_;refine ai.o (O.Xo dL 5 1 rfl (λg=>?_));refine aa 7 ?_;refine ai.x' rfl (R _ _) ?_;refine Tj λl=>?_;exact aQ 6
 .rw[aG G];rw[show c4 m n=false by simpa using G]at T;refine aF func88 λW=>?_;refine aq 2 λx=>?_;exact aQ 28
def Og(y:n<=7)(h:hz m n):5<=(gP m).length/\(gP m).length<=600:=by have:=yy y h;have:=Do (t:=iu m) ac;unfold gP;omega
def aja(m:aD)(n:Int)(y:n<=7)(h:hz m n):ar prog 92 [S (gP m),I n] [cM] (λr J=>r=.tuple #[A m.c,I 0]/\J=[cM]):=by have T:=Aq m n;rw[gZ.2 h]at T;have u:=yy y h;have q:=Og y h;have w:=Hw (gP m) ac;have E:=HS (t:=iu m) ac [];rw[db]at E;have N:g6 (gP m)=(iu m,((gP m).length:Int)):=E;rw[N]at w;have G (b:Nat):=N3 b m n y h;refine aF func92 λW=>?_;refine aq 2 λq=>?_;refine aa 28 ?_;refine ah.c (λT=>?_) (λT=>?_);exact mq T;replace T:=g5 T;refine aa 5 ?_;refine ai.x' rfl (tM _) ?_;rintro _ _⟨s,rfl,rfl⟩;refine aa 7 ?_;refine ai.x' rfl (G _) ?_;refine aq 1 λa=>?_;refine aa 7 ?_;refine ai.x' rfl (Hf _ _) ?_;exact aQ 27
def ff(i:aY)(n:Int):Bool:=
 cX i.bO n&&(cX i.bZ n&&(decide (0<=i.Status)&&(decide (i.Status<=3)&&(e1 i.Call n&&(decide (i.Status≠0)||decide (i={aY.z with bO:=i.bO}))))))
def HZ(i:aY)(n:Int):dH prog 206 [A i.c,I n] (B (ff i n)):=by
 have X:=Ab i.bO n;have t:=Ab i.bZ n;have q:=HD i.Call n;refine aF func206 λW=>?_;refine aq 2 λx=>?_;refine aa 12 ?_;refine ai.aX (λl=>?_) (λl=>?_);refine aa 34 ?_
 exact MI
 refine aa 7 ?_;refine ai.aX (λk=>?_) (λk=>?_);refine aa 27 ?_
 exact MI
 refine VE (λs=>?_) λs=>?_;refine aa 22 ?_
 exact MI
 refine VE (λh=>?_) λh=>?_;refine aa 17 ?_
 exact MI
 refine aa 8 ?_;refine R4 (λY=>?_) λY=>?_
 exact MI
 refine aa 8 ?_;refine M2 (λU=>?_) λU=>?_
 exact MI
 refine aa 4 ?_;refine ai.v (V.eq (aY.Y' _ _ _)) ?_;refine aa 6 ?_
 exact MI
def nB{i:aY}(h:ff i n=true):cX i.bO n=true/\cX i.bZ n=true/\0<=i.Status/\i.Status<=3/\e1 i.Call n=true/\(i.Status=0->i={aY.z with bO:=i.bO}):=by simp only[ff,c1,hc,cO]at h;exact⟨h.1,h.2.1,h.2.2.1,h.2.2.2.1,h.2.2.2.2.1,λW=>h.2.2.2.2.2.resolve_left (λY=>Y W)⟩
def m0(x:ag)(i:aY):ab aS:=kr x++(iJ i.bO++(iJ i.bZ++(bL i.Status++(bL (if i.cZ then 1 else 0)++kG i.Call))))
def gb(x:ag)(i:aY):ab aS:=he (m0 x i)
def yz(h:n<=1099511627776):(bL n).length<=6:=C3 5 _ ac
def wM{b:bp}(h:cX b n=true)(y:n<=7):(iJ b).length<=7:=by obtain⟨Y,Z,D,m⟩:=k4 h;have o:=yz (n:=b.Round) ac;have Y:=oN (n:=b.a1) ac;unfold iJ;rw[bQ];omega
def Ds{x:ag}(h:bt x n=true)(y:n<=7):(kr x).length<=2:=by obtain⟨Y,Z,D,m⟩:=u9 h;have o:=oN (n:=x.bX) ac;have Y:=oN (n:=x.a1) ac;unfold kr;rw[bQ];omega
def Dt{c:aO}(h:e1 c n=true):(kG c).length<=82:=by obtain⟨Y,Z,D,m⟩:=pt h;obtain⟨d,h,P,u,x,L,U,T,y,E⟩:=tO Y;have o:=oN (n:=c.cv.Kind) ac;have Y:=oN (n:=(c.cv.Key.length:Int)) ac;have K:=oN (n:=(c.cv.Value.length:Int)) ac;have b:=yz (n:=c.cv.Version) ac;have F:=yz (n:=c.cv.c3) ac;have Y:=yz (n:=c.cv.Number) ac;have p:=Al Z;have Q:=yz (n:=c.Seq) ac;unfold kG ps;simp only[bQ];omega
def Aw{x:ag}{i:aY}(y:n<=7)(U:bt x n=true)(am:ff i n=true):0<(m0 x i).length/\(m0 x i).length<=100:=by obtain⟨Y,Z,D,m,t,b⟩:=nB am;have W:=Ds U y;have o:=wM Y y;have J:=wM Z y;have K:=oN (n:=i.Status) ac;have c:=oN (n:=if i.cZ then 1 else 0) SA;have F:=Dt t;have Y:=C5 i.Status;unfold m0;simp only[bQ];omega
def yA{x:ag}{i:aY}(y:n<=7)(U:bt x n=true)(am:ff i n=true):5<=(gb x i).length/\(gb x i).length<=105:=by have h:=Aw y U am;unfold gb;rw[he,aG ac];have o:=oN (n:=((m0 x i).length:Int)) ac;have Y:=C5 ((m0 x i).length:Int);simp only[bQ,i4,df,gv];omega
def H0(x:ag)(i:aY)(n:Int)(y:n<=7)(U:bt x n=true)(am:ff i n=true):dH prog 278 [A x.c,A i.c] (S (gb x i)):=by
 obtain⟨Y,Z,D,m,t,b⟩:=nB am;obtain⟨C,X,F,T⟩:=u9 U;obtain⟨k,h,N,l⟩:=k4 Y;obtain⟨p,u,s,E⟩:=k4 Z;have W:=Ds U y;have o:=wM Y y;have J:=wM Z y;have K:=oN (n:=i.Status) ac;have M:=oN (n:=if i.cZ then 1 else 0) SA;have F:=Dt t;have p:=Aw y U am;have G (b:Nat) (v:aj) (D:ab aS) (C:D.length<=600000):=An b v D i.Call n t C;have e:m0 x i=[]++kr x++iJ i.bO++iJ i.bZ++bL i.Status++bL (if i.cZ then 1 else 0)++kG i.Call:=by simp only[m0,ck,g4]
 unfold gb;rw[e]at p⊢;refine aF func278 λW=>?_;refine aa 2 ?_;refine ai.o (O.Xo dL 5 1 rfl (λx=>?_));refine ai.o (O.Xo dL 5 1 rfl (λx=>?_));refine aa 6 ?_;refine ai.o (O.Xo dL 5 1 rfl (λL=>?_));refine aa 7 ?_;refine ai.x' rfl (yl _ _ _ _ ?_ ?_ ?_) ?_;iterate 3 exact co
 rintro _ _⟨C,rfl,rfl⟩;refine aa 8 ?_;refine ai.x' rfl (u4 _ _ _ _ ?_ ?_ ?_) ?_;iterate 3 exact co
 rintro _ _⟨R,rfl,rfl⟩;refine aa 8 ?_;refine ai.x' rfl (u4 _ _ _ _ ?_ ?_ ?_) ?_;iterate 3 exact co
 rintro _ _⟨k,rfl,rfl⟩;refine aq 8 λJ=>?_;refine ai.x' rfl (rv _ _ _ _ _ ?_ ?_) ?_;iterate 2 exact co
 rintro _ _⟨s,rfl,rfl⟩;refine aa 8 ?_;refine ai.x' rfl (C9 _ _ _ _ ?_) ?_;exact co;rintro _ _⟨r,rfl,rfl⟩;refine aa 8 ?_;refine ai.x' rfl (G _ _ _ ?_) ?_;exact co;refine Tj λM=>?_;exact aQ 5
def Oi(x:ag)(i:aY)(n:Int)(y:n<=7)(U:bt x n=true)(am:ff i n=true):dH prog 142 [S (m0 x i),I n] (.tuple #[A x.c,A i.c,B true]):=by
 obtain⟨Y,Z,D,m,t,b⟩:=nB am;have W:=Ds U y;have o:=wM Y y;have J:=wM Z y;have K:=oN (n:=i.Status) ac;have l:=oN (n:=if i.cZ then 1 else 0) SA;have F:=Dt t;have l:=n1 x n;rw[U]at l;have T:=HZ i n;rw[am]at T;have h:=n5 U y;have o:=qJ Y y;have E:=qJ Z y;have G (b:Nat) (Y:ab aS) (g:Y.length<=1000000):=Ao b i.Call n Y t g;have e:m0 x i=kr x++(iJ i.bO++(iJ i.bZ++(bL i.Status++(bL (if i.cZ then 1 else 0)++(kG i.Call++[]))))):=by simp only[m0,db]
 rw[e];refine aF func142 λW=>?_;refine aq 2 λq=>?_;refine aq 0 λa=>?_;refine aa 6 ?_;refine ai.x' rfl (tM _) ?_;rintro _ _⟨x,rfl,rfl⟩;refine aa 7 ?_;refine ai.x' rfl (ym _ _ _ ?_ ?_) ?_;iterate 2 exact co
 refine aq 1 λF=>?_;refine aa 6 ?_;refine ai.x' rfl (u5 _ _ _ ?_ ?_) ?_;iterate 2 exact co
 refine aa 2 ?_;refine ai.x' rfl (u5 _ _ _ ?_ ?_) ?_;iterate 2 exact co
 refine aa 2 ?_;refine ai.x' rfl (j1 _ _ _ _ ?_ ?_ ?_ ?_) ?_;iterate 4 exact co
 refine aa 2 ?_;refine ai.x' rfl (Dk _ _ _ ?_) ?_;exact co;refine aa 2 ?_;refine ai.x' rfl (G _ _ ?_) ?_;exact co;refine aq 2 λa=>?_;refine aa 4 ?_;refine ah.p' ?_ aC.j.j.d'.j.d';refine ae 3 0 ?_;refine af.x' 3 rfl rfl (Hf _ _) ?_;refine aa 2 ?_;refine ae 13 4 ?_;refine aa 3 ?_;refine Out.f3 rfl (e7.Xj ad) (e7.Xj ad) e7.t ⟨?_,rfl⟩;exact rfl
end Go.Proofs.YteogojgnkjegmaaGreatDoor
namespace Go.Proofs.YteogojgnkjegmaaGreatDoor
open Go.az Go.Proofs.Tryz
def sx(x:aS):(dL x).length=1:=rfl
def gd(b:Nat)(v:aj)(Z:ab aS)(g:Int):ab ay:=[cells b 156 (mr.c ⟨v,g⟩),eB dL v 5 1 Z]
def Oj:ar prog 46 [] [] (λr J=>∃b v,r=av b 0/\J=gd b v [] 0):=by
 unfold gd;refine aF func46 λW=>?_;refine ah.V5 dL 5 1 ?_;refine ah.toX ?_;refine aq 8 λx=>?_;refine aa 5 ?_
 .exact⟨_,_,⟨_,.slice none 0 0,rfl,rfl⟩,VH⟩
def agy(b:Nat)(v:aj)(Z:ab aS)(g:Int):ar prog 279 [av b 0] (gd b v Z g) (λr J=>r=I (Z.length:Int)/\J=gd b v Z g):=by unfold gd;refine aF func279 λW=>?_;refine ah.fact (tJ (f:=dL) (v:=v) (l:=Z) sx NC) λt=>?_;obtain⟨n,Q,F,off,rfl,q,o⟩:=t;exact aQ 27
def Om(b:Nat)(v:aj)(Z:ab aS)(g:Int):ar prog 140 [av b 0] (gd b v Z g) (λr J=>r=S Z/\J=gd b v Z g):=by unfold gd;refine aF func140 λW=>?_;refine ah.fact (tJ (f:=dL) (v:=v) (l:=Z) sx NC) λt=>?_;obtain⟨n,Q,F,off,rfl,q,o⟩:=t;refine aa 21 ?_;refine ai.v (V.acM ad rfl o NC) ?_;exact aQ 5
def ahZ(b:Nat)(v:aj)(Z:ab aS)(g:Int):ar prog 189 [av b 0] (gd b v Z g) (λr J=>r=I 0/\J=gd b v Z Z.length):=by unfold gd;refine aF func189 λW=>?_;refine ah.fact (tJ (f:=dL) (v:=v) (l:=Z) sx NC) λt=>?_;obtain⟨n,Q,F,off,rfl,q,o⟩:=t;exact aQ 35
def H1(b:Nat)(v:aj)(Z:ab aS)(g:Int)(s:ab aS):ar prog 144 [av b 0,S s] (gd b v Z g) (λr J=>(65536<s.length/\r=I 6/\J=gd b v Z g)\/(s.length<=65536/\∃L,r=I 0/\J=gd b L s s.length)):=by
 unfold gd;by_cases E:65536<s.length
 .refine aF func144 λW=>?_;refine aa 33 ?_
  .exact⟨_,_,.inl ⟨E,rfl,rfl⟩,VH⟩
 .refine aF func144 λW=>?_;refine aa 32 ?_;refine ai.o (aw.acL ad rfl (λL Y=>?_) ac);refine aa 17 ?_
  .exact⟨_,_,.inr ⟨ac,_,rfl,rfl⟩,VH⟩
def afV(b:Nat)(v:aj)(X:ab aS)(g:Int)(s:ab aS)(e:ay)(n:aT Go.Addr)(Q F off:Nat)(z:Rd e n 1 F off 1 [[S s]])(m:X.length<=65536)(x:s.length<=1000000):ar prog 281 [av b 0,.slice n 1 Q] (gd b v X g++[e]) (λr J=>(65536<X.length+s.length/\r=I 6/\J=gd b v X g++[e])\/(X.length+s.length<=65536/\∃P,r=I 0/\J=gd b P (X++s) g++[e])):=by
 unfold gd;refine bh ?_;refine aF func281 λW=>?_;refine ah.fact (tJ (f:=dL) (v:=v) (l:=X) sx NC) λt=>?_;obtain⟨a,R,Yf,h,rfl,q,E⟩:=t;have U:([[S s]]:ab (ab aj))[0]?=some [S s]:=rfl;refine aa 34 ?_;refine ah.cq [18,17,1,0] (λk:Nat=>k<=1) (λk=>[(19,I (k:Int)),(5,I ((X.length+k*s.length:Nat):Int))]) (λ_=>[]) (λk=>1-k) 0 (cG _) ?_ (j:=by rw[r9,hj];(repeat(first|exact dy.nil|refine dy.cons rfl rfl ?_)));intro k T K i;refine bh ?_;by_cases G:k=0
 .subst G;rw[r9,hj];refine aa 14 ?_;refine ai.v (V.Xk ad rfl z U) ?_;refine aa 16 ?_;exact Out.C' i 1 (cx _) ac (j:=by rw[Nat.one_mul,Int.natCast_add];(repeat(first|exact dy.nil|refine dy.cons rfl rfl ?_)))
 .obtain rfl:k=1:=by omega
  clear i;rw[Nat.one_mul,Int.natCast_add];refine aa 19 ?_;refine R4 (λL=>?_) λL=>?_
  .exact⟨_,_,.inl ⟨ac,rfl,rfl⟩,VH⟩
  refine aa 3 ?_;have u:X.length+s.length<=65536:=ac
  refine aa 8 ?_;refine ah.cq [31,30,1,0] (λy:Nat×aj×ab aS=>(y.1=0/\y.2.2=X)\/(y.1=1/\y.2.2=X++s)) (λy=>[(32,I (y.1:Int))]) (λy=>[cells b 156 (mr.c ⟨y.2.1,g⟩),eB dL y.2.1 5 1 y.2.2]) (λy=>1-y.1) (0,_,X) (.inl ⟨rfl,rfl⟩) ?_;rintro⟨k,M,N⟩ C K i;refine bh ?_;rcases C with⟨Y,Z⟩|⟨Y,Z⟩
  .dsimp only at Y Z;subst Y Z;refine ah.fact (tJ (f:=dL) (v:=M) (l:=N) sx NC) λt=>?_;obtain⟨d,D,Yc,j,rfl,p,w⟩:=t;refine aa 14 ?_;refine ai.v (V.Xk ad rfl z U) ?_;refine aa 10 ?_;refine ai.o (O.aa3 ad rfl rfl Vz (cz.str ad) (λYg Ye=>?_));refine aa 10 ?_;exact Out.C' i (1,_,N++s) (.inr ⟨rfl,rfl⟩) (by show 1-1<1-0;omega)
  .dsimp only at Y Z;subst Y Z;clear i;refine aa 19 ?_
   .exact⟨_,_,.inr ⟨u,_,rfl,rfl⟩,VH⟩
def rE(Z:ab aS)(g:Nat)(U:Int):Nat:=Min.min (Max.max U 0).toNat (Z.length-g)
def vb(Z:ab aS)(g:Nat)(U:Int)(K:aS):ab aS:=
 if rE Z g U=0 then Z.take g
 else(Z.take (g+rE Z g U)).set (g+rE Z g U-1) ((Z.take (g+rE Z g U)).getD (g+rE Z g U-1) 0^^^K)
def ame:∀x y:aS,l2 .xor .u8 (x.toNat:Int) (y.toNat:Int)=some ((x^^^y).toNat:Int):=λx y=>by
 have p:∀z:aS,BitVec.ofInt IntKind.u8.bits (z.toNat:Int)=z.toBitVec:=λz=>by
  show BitVec.ofInt 8 (z.toNat:Int)=_
  rw[tL];apply BitVec.eq_of_toNat_eq;simp
 simp only[l2,p];show some (IntKind.u8.wrap ((x.toBitVec^^^y.toBitVec).toNat:Int))=_
 have h:((x^^^y).toNat)<256:=(x^^^y).toNat_lt;have Y:(x.toBitVec^^^y.toBitVec).toNat=(x^^^y).toNat:=rfl;rw[Y];have Z:x.toNat^^^y.toNat<256:=by have:=h;rwa[UInt8.toNat_xor]at this
 simp only[IntKind.wrap,IntKind.signed,IntKind.bits];simp;omega
def Ot(b:Nat)(v:aj)(M:ab aS)(g:Nat)(K:Int)(T:aS)(E:g<=M.length)(c:M.length<=65536):ar prog 48 [av b 0,I K,.int .u8 (T.toNat:Int)] (gd b v M g) (λr J=>∃p,r=I 0/\J=gd b p (vb M g K T) (vb M g K T).length):=by
 obtain⟨N,X⟩:∃N,N=rE M g K:=⟨_,rfl⟩
 have k:(N:Int)=Min.min (Max.max K 0) ((M.length:Int)-(g:Int)):=by rw[X];unfold rE;omega
 have d:g+N<=M.length:=by rw[X];unfold rE;omega
 have R:((g:Int)+(N:Int))=((g+N:Nat):Int):=ac
 unfold gd vb;rw[<-X];refine aF func48 λW=>?_;refine ah.fact (tJ (f:=dL) (v:=v) (l:=M) sx NC) λP=>?_;obtain⟨n,Q,F,off,rfl,q,L⟩:=P;refine aa 16 ?_;refine ah.p' ?_ aC.j.d';refine ae 14 0 ?_;refine aa 2 ?_;dsimp only;rw[<-k];refine au ?_;refine ah.V9 [14] ?_ aC.j.d' aC.j.j;refine ae 4 0 ?_;refine ae 3 5 ?_;refine ae 1 9 ?_;refine QB ?_;refine ae 1 10 ?_;refine af.n' 11 rfl (V.Xm ad (j:=g+N) rfl rfl ac) ?_;refine ae 2 12 ?_;refine af.l 14 rfl (O.O' ad ?_);refine aa 4 ?_;refine ah.acJ (f:=dL) (g:=Q) (g+N) sx d ?_;obtain⟨D,C⟩:∃D,D=M.take (g+N):=⟨_,rfl⟩
 have s:D.length=g+N:=by rw[C,e8];omega
 rw[<-C,<-s];refine ah.fact (tJ (f:=dL) (v:=.slice n D.length Q) (l:=D) sx NC) λP=>?_;obtain⟨G,u,Yc,i,w,y,m⟩:=P;simp only[tS,true_and]at w;obtain⟨rfl,rfl⟩:=w;by_cases o:N=0
 .subst o;rw[aJ rfl];have h:M.take g=D:=by rw[C,hj]
  rw[h];exact aQ 29
 .rw[aG o];obtain⟨z,a⟩:=cl (show D.length-1<D.length by omega);have x:D.getD (D.length-1) 0=z:=by rw[List.getD,a];rfl
  rw[x];have Y:=kk (f:=dL) a;have U:=ame z T;have Z:=m.addr ac;subst Z;have g:((D.length:Int)-1)=((D.length-1:Nat):Int):=ac
  have u:(D.set (D.length-1) (z^^^T)).length=D.length:=cy;rw[u];refine aa 7 ?_;refine ah.p' ?_ aC.d'.j;refine ae 9 0 ?_;refine af.n' 9 rfl (V.VX g rfl rfl ac) ?_;refine af.n' 10 rfl (V.W9 ad rfl rfl VV) ?_;refine ae 1 12 ?_;refine af.y' 11 rfl (aw.z' (V.Xk ad rfl m Y) ?_);refine au ?_;refine af.n' 13 rfl (V.Xt rfl rfl U) ?_;refine af.n' 14 rfl (V.W9 ad rfl rfl VV) ?_;refine af.y' 15 rfl (O.acO ad (f:=dL) (a:=z^^^T) rfl rfl rfl rfl VS rfl ac sx ?_);exact aQ 23
end Go.Proofs.YteogojgnkjegmaaGreatDoor
