/-
 Part of the proof.
-/
import Derived.Test.YteogojgnkjegmaaGreatDoorAq
set_option linter.all false
set_option maxRecDepth 8000
set_option maxHeartbeats 8000000
namespace Go.Proofs.YteogojgnkjegmaaGreatDoor
open Go.ay Go.Proofs.Tryz
def bV.list(x:bV):ab aD:=(fD x.fz x.ey).map (·.2)
def bV.iO(x:bV):Int:=(choose x.n x.item x.list).1
def bV.U1(x:bV):aN:=(choose x.n x.item x.list).2
def bV.UR(x:bV):a6:=if x.iO=1 then hg x x.U1 else iC x.n x.self x.item x.bj x.U1 (if x.iO=3 then 1 else 2)
def adX{n:Int}{x:ag}{Z:ab aD}(h:(Z.length:Int)<cY n+1):choose n x Z=(0,aN.z):=by unfold choose;rw[aQ h]
def agw{n:Int}{x:ag}{Z:ab aD}(h:¬(Z.length:Int)<cY n+1):(choose n x Z).1=1\/(choose n x Z).1=2\/(choose n x Z).1=3:=by unfold choose;rw[aM h];repeat(first|exact .inl rfl|exact .inr (.inl rfl)|exact .inr (.inr rfl)|split)
def afd(x:bV):x.list.length<=7:=by unfold bV.list;rw[eT];exact Ci _ _
def Cz(b:Nat)(x:bV)(r:aj)(J:ab ax):Prop:=
 (x.iO=0/\r=B false/\J=[cells b 243 x.c])\/(x.iO≠0/\∃q,r=B true/\J=[cells b 243 ({x with next:=aw q 0}:bV).c,cells q 183 x.UR.c])
def HG(b:Nat)(x:bV)(w:x.wf)(p:3<=x.n/\x.n<=1000):ar prog 239 [aw b 0] [cells b 243 x.c] (Cz b x):=by
 have k (q:Nat):rm prog 245 [aw q 0] [cells q 311 [aw b 7],cells b 243 x.c] zy (fD x.fz x.ey) [cells q 311 [aw b 7],cells b 243 x.c]:=
  Hj (z:=[x.next]) (n:=x.ez) q b 243 w.v
 have s:=afd x;refine aE func239 λW=>?_;refine ah.Ur aD.c 176 25 ?_;apply ah.seq;refine aa 4 ?_;apply ah.seq;refine aq 1 λi=>?_;refine aa 2 ?_;apply ah.seq;apply ah.seq;refine aa 4 ?_;refine K1 λR=>?_;refine ah.rg (k _) (λv:aj×ab aD=>[cells i 92 [v.1],rows aD.c v.1 176 25 v.2]) (λpre v=>v.2=pre.map (·.2)) (λ_ _ _=>False) (_,[]) rfl ?_ ?_ ?_
 .rintro pre⟨j,z⟩ P⟨v,L⟩ l rec U y t h r K m;dsimp only at y;refine bl ?_;have Z:L.length<=7:=by rw[y,eT];have:=Ci x.fz x.ey;rw[U,b2]at this;omega
  have J:(L.length+1)*1000<=1000000:=ac
  refine aq 1 λd=>?_;refine aq 7 λC=>?_;refine ai.o (O.U' ad rfl rfl T8 (cq.one (f:=aD.c) (a:=z) ad T1 aD.F') (λX F=>?_));refine aa 3 ?_;exact Out.rd m (_,L++[z]) (by show _=_;rw[y];simp)
 .rintro⟨v,L⟩ N y;obtain rfl:L=x.list:=y;dsimp only;refine Out.fact (iD (f:=aD.c) (v:=v) (l:=x.list) (E:=176) (G:=25) aD.len T1) ?_;rintro⟨G,Y,g,rfl,M⟩;have Z:=adb _ G Y g 0 x.n x.item x.list ac ac M;have R:=Cy b x w 1 x.U1;have f:=Cy b x w 2 x.U1;have N:=HF b x w x.U1 ac;have k:x.iO=1->x.UR=hg x x.U1:=λh=>by unfold bV.UR;rw[aQ h]
  have v:x.iO=2->x.UR=iC x.n x.self x.item x.bj x.U1 2:=λh=>by unfold bV.UR;rw[aM ac,aM ac]
  have t:x.iO=3->x.UR=iC x.n x.self x.item x.bj x.U1 1:=λh=>by unfold bV.UR;rw[aM ac,aQ h]
  change ar _ _ _ _ (λr J=>r=.tuple #[I x.iO,A x.U1.c]/\_)at Z;by_cases o:(x.list.length:Int)<cY x.n+1
  .have D:x.iO=0:=by unfold bV.iO;rw[adX o]
   rw[D]at Z;refine Od (λu=>?_) ?_;refine aa 38 ?_
   exact Qp
   refine L2 λu=>?_;refine aa 38 ?_
   exact Qp
  .have n:=agw (x:=x.item) o;change x.iO=1\/x.iO=2\/x.iO=3 at n;have T:x.iO≠0:=by omega
   rcases n with n|n|n
   .rw[n]at Z;rw[<-k n]at N;refine Od (λu=>?_) ?_;refine aa 19 ?_;rintro _ _⟨r,rfl,rfl⟩;refine aa 11 ?_
    exact SR
    refine L2 λu=>?_;refine aa 19 ?_;rintro _ _⟨w,rfl,rfl⟩;refine aa 11 ?_
    exact SR
   .rw[n]at Z;rw[<-v n]at f;refine Od (λu=>?_) ?_;refine aa 26 ?_;rintro _ _⟨w,rfl,rfl⟩;refine aa 11 ?_
    exact SR
    refine L2 λu=>?_;refine aa 26 ?_;rintro _ _⟨a,rfl,rfl⟩;refine aa 11 ?_
    exact SR
   .rw[n]at Z;rw[<-t n]at R;refine Od (λu=>?_) ?_;refine aa 33 ?_;rintro _ _⟨p,rfl,rfl⟩;refine aa 11 ?_
    exact SR
    refine L2 λu=>?_;refine aa 33 ?_;rintro _ _⟨y,rfl,rfl⟩;refine aa 11 ?_
    exact SR
 exact Sw
def eC(x:bV)(m:aD):bV:={x with fz:=x.fz.set m.bh.toNat m,ey:=x.ey.set m.bh.toNat true,ez:=x.ez+1}
def CA{x:bV}(w:x.wf)(m:aD)(G:x.ez<=40):(eC x m).wf:=
 ⟨by show(x.fz.set _ _).length=7;rw[co,w.fz],by show(x.ey.set _ _).length=7;rw[co,w.ey],by show 0<=x.ez+1/\x.ez+1<=50;have:=w.ez;omega⟩
structure zC(x:bV)(m:aD):Prop where
 it:m.Item=x.item
 to:m.bK=x.self
 f0:0<=m.bh
 fn:m.bh<x.n
 nL:m.Kind=7
 zD:m.bB=x.bj
 ls:x.lost=false
 k0:x.next=.pointer none
 gO:x.n<=7
def ahD(b:Nat)(x:bV)(w:x.wf)(m:aD)(K:zC x m)(j:x.ey.getD m.bh.toNat true=true):ar prog 186 [aw b 0,A m.c] [cells b 243 x.c] (λr J=>r=B false/\J=[cells b 243 x.c]):=by
 have t:=bV.at w.fz w.ey;rw[K.k0]at t;have u:=K.ls;have T:=zx (post:=[x.next]) (n:=x.ez) b 243 w.v m.bh m LP;rw[j,aM T3,<-bV.V1,AI,vu]at T;have U:=K.f0;have fn:=K.fn;have c:bd .lss m.bh 0=some false:=TZ
 have Y:bd .geq m.bh x.n=some false:=TZ
 have z:bd .eql m.Kind 5=some false:=J7
 have N:bd .eql m.Kind 8=some false:=J7
 have M:bd .eql m.Kind 7=some true:=J7
 have J:=K.it;have j:=K.to;have F:=K.zD;refine aE func186 λW=>?_;apply ah.seq;refine aq 1 λm=>?_;refine aa 3 ?_;apply ah.seq;refine au ?_;apply ah.seq;refine Rw ?_;refine RU ?_;refine aa 3 ?_;apply ah.seq;refine aa 4 ?_;refine ai.v (V.C' ad (z:=t)) ?_;refine aa 5 ?_;apply ah.seq;refine aa 3 ?_;refine ai.v (V.cmp rfl rfl z) ?_;refine aa 4 ?_;apply ah.seq;refine Nr ?_;refine aa 3 ?_;apply ah.seq;refine ah.n' ?_ aB.d'.d';refine PU ?_;refine ae 7 3 ?_;refine P4 (λd=>?_) λd=>?_;replace d:=gD d;refine ae 6 13 ?_;refine af.p' 19 rfl rfl (T) ?_;refine aa 2 ?_;refine ae 2 20 ?_;refine aa 6 ?_;apply ah.seq;exact aP 6;replace d:=gD d;contradiction
def aea(b:Nat)(x:bV)(w:x.wf)(m:aD)(K:zC x m)(a:3<=x.n)(G:x.ez<=40)(j:x.ey.getD m.bh.toNat true=false)(i:(eC x m).iO=0):ar prog 186 [aw b 0,A m.c] [cells b 243 x.c] (λr J=>r=B false/\J=[cells b 243 (eC x m).c]):=by
 have t:=bV.at w.fz w.ey;rw[K.k0]at t;have u:=K.ls;have U:=K.f0;have fn:=K.fn;have l:=K.gO;have T:=zx (post:=[x.next]) (n:=x.ez) b 243 w.v m.bh m LP;rw[j,aQ ⟨U,ac,rfl⟩,show(decide (0<=m.bh/\m.bh<7)&&!false)=true by simp;omega]at T;change ar _ _ _ _ (λr J=>r=B true/\J=[cells b 243 (eC x m).c])at T;rw[<-bV.V1]at T;have Z:ar prog 239 [aw b 0] [cells b 243 (eC x m).c] (λr J=>r=B false/\J=[cells b 243 (eC x m).c]):=
  (HG b (eC x m) (CA w m G) (show 3<=x.n/\x.n<=1000 by omega)).mono λv J h=>by
   rcases h with⟨_,Y,N⟩|⟨h,_⟩
   .exact⟨Y,N⟩
   .exact absurd i h
 have c:bd .lss m.bh 0=some false:=TZ
 have Y:bd .geq m.bh x.n=some false:=TZ
 have z:bd .eql m.Kind 5=some false:=J7
 have N:bd .eql m.Kind 8=some false:=J7
 have M:bd .eql m.Kind 7=some true:=J7
 have J:=K.it;have j:=K.to;have F:=K.zD;refine aE func186 λW=>?_;apply ah.seq;refine aq 1 λm=>?_;refine aa 3 ?_;apply ah.seq;refine au ?_;apply ah.seq;refine Rw ?_;refine RU ?_;refine aa 3 ?_;apply ah.seq;refine aa 4 ?_;refine ai.v (V.C' ad (z:=t)) ?_;refine aa 5 ?_;apply ah.seq;refine aa 3 ?_;refine ai.v (V.cmp rfl rfl z) ?_;refine aa 4 ?_;apply ah.seq;refine Nr ?_;refine aa 3 ?_;apply ah.seq;refine ah.Uv [19] ?_ (pJ _ (pJ _ qx)) (pJ _ (vI _ qx));refine PU ?_;refine ae 6 3 ?_;refine af.Wr 9 rfl (V.UY ad) ?_;refine P4 (λo=>?_) λo=>?_;replace o:=gD o;refine ae 6 13 ?_;refine af.l 19 rfl (av.Z' rfl (T) Uc ?_);refine aa 2 ?_;refine ae 2 20 ?_;refine aa 3 ?_;apply ah.seq;exact aP 11;replace o:=gD o;contradiction
def ada(b:Nat)(x:bV)(w:x.wf)(m:aD)(K:zC x m)(a:3<=x.n)(G:x.ez<=40)(j:x.ey.getD m.bh.toNat true=false)(i:(eC x m).iO≠0):ar prog 186 [aw b 0,A m.c] [cells b 243 x.c] (λr J=>∃q,r=B true/\J=[cells b 243 ({eC x m with next:=aw q 0}:bV).c,cells q 183 (eC x m).UR.c]):=by
 have t:=bV.at w.fz w.ey;rw[K.k0]at t;have u:=K.ls;have U:=K.f0;have fn:=K.fn;have l:=K.gO;have T:=zx (post:=[x.next]) (n:=x.ez) b 243 w.v m.bh m LP;rw[j,aQ ⟨U,ac,rfl⟩,show(decide (0<=m.bh/\m.bh<7)&&!false)=true by simp;omega]at T;change ar _ _ _ _ (λr J=>r=B true/\J=[cells b 243 (eC x m).c])at T;rw[<-bV.V1]at T;have Z:ar prog 239 [aw b 0] [cells b 243 (eC x m).c] (λr J=>∃q,r=B true/\J=[cells b 243 ({eC x m with next:=aw q 0}:bV).c,cells q 183 (eC x m).UR.c]):=
  (HG b (eC x m) (CA w m G) (show 3<=x.n/\x.n<=1000 by omega)).mono λv J h=>by
   rcases h with⟨h,_⟩|⟨_,q,Y,N⟩
   .exact absurd h i
   .exact⟨q,Y,N⟩
 have c:bd .lss m.bh 0=some false:=TZ
 have Y:bd .geq m.bh x.n=some false:=TZ
 have z:bd .eql m.Kind 5=some false:=J7
 have N:bd .eql m.Kind 8=some false:=J7
 have M:bd .eql m.Kind 7=some true:=J7
 have J:=K.it;have j:=K.to;have F:=K.zD;refine aE func186 λW=>?_;apply ah.seq;refine aq 1 λm=>?_;refine aa 3 ?_;apply ah.seq;refine au ?_;apply ah.seq;refine Rw ?_;refine RU ?_;refine aa 3 ?_;apply ah.seq;refine aa 4 ?_;refine ai.v (V.C' ad (z:=t)) ?_;refine aa 5 ?_;apply ah.seq;refine aa 3 ?_;refine ai.v (V.cmp rfl rfl z) ?_;refine aa 4 ?_;apply ah.seq;refine Nr ?_;refine aa 3 ?_;apply ah.seq;refine ah.Uv [19] ?_ (pJ _ (pJ _ qx)) (pJ _ (vI _ qx));refine PU ?_;refine ae 6 3 ?_;refine af.Wr 9 rfl (V.UY ad) ?_;refine P4 (λW=>?_) λW=>?_;replace W:=gD W;refine ae 6 13 ?_;refine af.l 19 rfl (av.Z' rfl (T) Uc ?_);refine aa 2 ?_;refine ae 2 20 ?_;refine aa 3 ?_;apply ah.seq;refine aa 3 ?_;rintro _ _⟨m,rfl,rfl⟩;exact aP 8;replace W:=gD W;contradiction
def bV.bad(x:bV)(m:aD):Prop:=x.lost=true\/m.Item≠x.item\/m.bK≠x.self\/m.bh<0\/x.n<=m.bh
instance(x:bV)(m:aD):Decidable (x.bad m):=by unfold bV.bad;infer_instance
structure bV.hx(x:bV)(m:aD):Prop where
 ls:x.lost=false
 it:m.Item=x.item
 to:m.bK=x.self
 f0:0<=m.bh
 fn:m.bh<x.n
def bV.Wc{x:bV}{m:aD}(h:¬x.bad m):x.hx m:=by unfold bV.bad at h;simp only[qw,Decidable.not_not,mq,Int.not_lt,Int.not_le]at h;exact⟨h.1,h.2.1,h.2.2.1,h.2.2.2.1,h.2.2.2.2⟩
def HH(b:Nat)(x:bV)(m:aD)(o:x.bad m):ar prog 186 [aw b 0,A m.c] [cells b 243 x.c] (λr J=>r=B false/\J=[cells b 243 x.c]):=by
 unfold bV.bad at o;cases T:x.lost
 .by_cases C:m.Item=x.item
  .by_cases j:m.bK=x.self
   .by_cases L:m.bh<0
    .exact PR
    .have N:x.n<=m.bh:=by
      rcases o with h|h|h|h|h
      .rw[T]at h;cases h
      .exact absurd C h
      .exact absurd j h
      .exact absurd h L
      .exact h
     exact PR
   .refine Lo λW i=>?_;refine ae 9 18 ?_;refine bE 32 ?_;refine ae 14 27 ?_;exact aP 12
  .refine Lo λW i=>?_;refine ae 23 18 ?_;exact aP 12
 .refine QM λW i=>?_;refine af.i' 6 rfl (V.C' ad (v:=B true) (z:=Qz)) ?_;refine ae 34 7 ?_;exact aP 12
def aeu(b q:Nat)(x:bV)(w:x.wf)(l:a6)(T:l.wf)(a:0<=l.n/\l.n<=1000)(U:x.next=aw q 0)(m:aD)(K:x.hx m):ar prog 186 [aw b 0,A m.c] [cells b 243 x.c,cells q 183 l.c] (λr J=>r=B (l.y' m).2/\J=[cells b 243 x.c,cells q 183 (l.y' m).1.c]):=by
 have t:=bV.at w.fz w.ey;rw[U]at t;have r:=Cm q l T m a;obtain⟨T,J,j,U,fn⟩:=K;have c:bd .lss m.bh 0=some false:=TZ
 have Y:bd .geq m.bh x.n=some false:=TZ
 refine aE func186 λW=>?_;refine aq 2 λm=>?_;refine aa 6 ?_;refine ah.n' ?_ aB.j.d'.d';refine ae 6 0 ?_;refine RJ ?_;refine aa 8 ?_;refine ai.v (V.C' ad (z:=t)) ?_;refine aa 6 ?_;refine ah.n' ?_ aB.j.d'.d';refine ae 3 0 ?_;refine af.i' 3 rfl (V.C' ad (z:=t)) ?_;refine ae 1 4 ?_;refine af.p' 5 rfl rfl (r) ?_;refine aa 2 ?_;refine ae 1 6 ?_;exact aP 6
def PH(b:Nat)(x:bV)(w:x.wf)(a:1<=x.n/\x.n<=1000)(U:x.next=.pointer none)(m:aD)(K:x.hx m)(u:m.Kind=5):ar prog 186 [aw b 0,A m.c] [cells b 243 x.c] (λr J=>∃q,r=B true/\J=[cells b 243 ({x with next:=aw q 0}:bV).c,cells q 183 (hg x m.Call).c]):=by
 have t:=bV.at w.fz w.ey;rw[U]at t;have N:=HF b x w m.Call a;obtain⟨T,J,j,U,fn⟩:=K;have c:bd .lss m.bh 0=some false:=TZ
 have Y:bd .geq m.bh x.n=some false:=TZ
 have z:bd .eql m.Kind 5=some true:=by simp[bd,u]
 refine QM λW m=>?_;refine RJ ?_;refine aa 8 ?_;refine ai.v (V.C' ad (z:=t)) ?_;refine aa 9 ?_;refine ai.v (V.cmp rfl rfl z) ?_;refine aa 10 ?_;rintro _ _⟨n,rfl,rfl⟩;exact aP 12
def aen(b:Nat)(x:bV)(w:x.wf)(U:x.next=.pointer none)(m:aD)(K:x.hx m)(u:m.Kind=8)(X:fL x.bj m.bB=true):ar prog 186 [aw b 0,A m.c] [cells b 243 x.c] (λr J=>r=B true/\J=[cells b 243 ({x with lost:=true}:bV).c]):=by
 have t:=bV.at w.fz w.ey;rw[U]at t;have v:=tI x.bj m.bB;rw[X]at v;obtain⟨T,J,j,U,fn⟩:=K;have c:bd .lss m.bh 0=some false:=TZ
 have Y:bd .geq m.bh x.n=some false:=TZ
 have z:bd .eql m.Kind 5=some false:=by simp[bd,u]
 have N:bd .eql m.Kind 8=some true:=by simp[bd,u]
 refine QM λW m=>?_;refine RJ ?_;refine PB ?_;exact aP 20
def aef(b:Nat)(x:bV)(w:x.wf)(U:x.next=.pointer none)(m:aD)(K:x.hx m)(a:m.Kind≠5)(Z:¬(m.Kind=8/\fL x.bj m.bB=true))(y:¬(m.Kind=7/\m.bB=x.bj)):ar prog 186 [aw b 0,A m.c] [cells b 243 x.c] (λr J=>r=B false/\J=[cells b 243 x.c]):=by
 have t:=bV.at w.fz w.ey;rw[U]at t;have v:=tI x.bj m.bB;have U (k:Nat):=bm.R' m.bB x.bj k;obtain⟨u,J,j,N,fn⟩:=K;have c:bd .lss m.bh 0=some false:=TZ
 have Y:bd .geq m.bh x.n=some false:=TZ
 have z:bd .eql m.Kind 5=some false:=by simp[bd,a]
 by_cases E:m.Kind=8
 .have N:bd .eql m.Kind 8=some true:=by simp[bd,E]
  have M:bd .eql m.Kind 7=some false:=by simp[bd,E]
  have X:fL x.bj m.bB=false:=by
   cases h:fL x.bj m.bB with
   |false=>rfl
   |true=>exact absurd ⟨E,h⟩ Z
  rw[X]at v;refine K2 λW n=>?_;refine ae 19 3 ?_;exact aP 13
 .have N:bd .eql m.Kind 8=some false:=by simp[bd,E]
  by_cases Q:m.Kind=7
  .have M:bd .eql m.Kind 7=some true:=by simp[bd,Q]
   have T:m.bB≠x.bj:=λh=>y ⟨Q,h⟩;rw[lg T]at U;refine K2 λW n=>?_;refine ae 7 3 ?_;refine af.i' 10 rfl (V.eq (U _)) ?_;refine ae 11 11 ?_;exact aP 13
  .have M:bd .eql m.Kind 7=some false:=by simp[bd,Q]
   refine K2 λW n=>?_;refine ae 19 3 ?_;exact aP 13
def aeb(m:aD):dr prog 186 [.pointer none,A m.c] (B false):=by refine aE func186 λW=>?_;refine aq 2 λm=>?_;refine aa 6 ?_;refine ah.n' ?_ aB.d';refine ae 41 0 ?_;exact aP 12
def HI(b:Nat)(x:bV):ar prog 97 [aw b 0] [cells b 243 x.c] (λr J=>r=A x.bj.c/\J=[cells b 243 x.c]):=by refine aE func97 λW=>?_;refine aq 2 λp=>?_;exact aP 23
structure bL where
 x:bV
 k0:aT a6
structure bL.ok(r:bL):Prop where
 w:r.x.wf
 nil:r.x.next=.pointer none
 n:3<=r.x.n/\r.x.n<=7
 hA:r.x.ez=(r.x.ey.count true:Int)
 cw:∀l,r.k0=some l->ip l r.x.n r.x.self r.x.item r.x.bj
def bL.cs(b q:Nat)(r:bL):ab ax:=match r.k0 with
 |none=>[cells b 243 r.x.c]
 |some l=>[cells b 243 ({r.x with next:=aw q 0}:bV).c,cells q 183 l.c]
def bL.y'(r:bL)(m:aD):bL×Bool:=
 if r.x.bad m then(r,false)else
 match r.k0 with
 |some l=>({r with k0:=some (l.y' m).1},(l.y' m).2)
 |none=>
  if m.Kind=5 then({r with k0:=some (hg r.x m.Call)},true)
  else if m.Kind=8/\fL r.x.bj m.bB=true then({r with x:={r.x with lost:=true}},true)
  else if m.Kind=7/\m.bB=r.x.bj then
   (if r.x.ey.getD m.bh.toNat true=true then(r,false)
   else if(eC r.x m).iO=0 then({r with x:=eC r.x m},false)
   else(⟨eC r.x m,some (eC r.x m).UR⟩,true))
  else(r,false)
def ahi{h:ab Bool}(T:h.length=7):h.count true<=7:=by have:=Hk (a:=true) (l:=h);omega
def bL.ok.g{r:bL}(h:r.ok):0<=r.x.ez/\r.x.ez<=7:=by have:=ahi h.w.ey;rw[h.hA];omega
def rL(n X x b c p):ip (iC n X x b c p) n X x b:=⟨Cl _ _ _ _ _ _,rfl,rfl,rfl,rfl,by
 show(if p=1 then(1:Int)else 2)=1\/(if p=1 then(1:Int)else 2)=2\/_
 split
 .exact .inl rfl
 .exact .inr (.inl rfl)⟩
def HJ(x:bV)(c:aN):ip (hg x c) x.n x.self x.item x.bj:=by have k:=rL x.n x.self x.item x.bj c 2;exact⟨⟨k.wf.pl,k.wf.dB,k.wf.ol,k.wf.ft,k.wf.eQ,k.wf.fZ⟩,rfl,rfl,rfl,rfl,.inr (.inr (.inl rfl))⟩
theorem HK(x:bV):ip x.UR x.n x.self x.item x.bj:=by
 unfold bV.UR;split
 .exact HJ ..
 .exact rL ..
end Go.Proofs.YteogojgnkjegmaaGreatDoor
namespace Go.Proofs.YteogojgnkjegmaaGreatDoor
open Go.ay Go.Proofs.Tryz
variable[Go.ay.b4]
section
variable{P:bU}{f:eR}{args:ab aj}{Z J:ab ax}{N:Type}{Y:N->ab aj}{E U:Nat}{l:ab N}
def ar.pr(p:∀x,(Y x).length=U)(h:ar P f args Z (λr M=>∃v,r=v/\M=rows Y v E U l::J)):ar P f args Z (λr M=>∃m Q,r=.slice m l.length Q/\M=rows Y (.slice m l.length Q) E U l::J):=by refine ar.UB h ?_;rintro r M W D w⟨v,rfl,rfl⟩ a;obtain⟨m,Q,b,rfl,_⟩:=iD (f:=Y) p (aF _) w a;grind
end
def bL.ok.y'{r:bL}(h:r.ok)(m:aD):(r.y' m).1.ok:=by
 unfold bL.y';split
 .exact h
 .rename_i X;have K:=bV.Wc X;split
  .rename_i l T;refine⟨h.w,h.nil,h.n,h.hA,λu M=>?_⟩;have:u=(l.y' m).1:=(hc M).symm;rw[this];exact tZ (h.cw l T) m
  .rename_i T;split
   .refine⟨h.w,h.nil,h.n,h.hA,λu M=>?_⟩;have:u=hg r.x m.Call:=(hc M).symm;rw[this];exact HJ ..
   split
   .exact⟨⟨h.w.fz,h.w.ey,h.w.ez⟩,h.nil,h.n,h.hA,λu M=>Mk⟩
   split
   .split
    .exact h
    .rename_i G;have G:r.x.ey.getD m.bh.toNat true=false:=by simpa using G
     have F:=h.g;have k:=CA h.w m ac;have q:(eC r.x m).ez=((eC r.x m).ey.count true:Int):=by
      show r.x.ez+1=((r.x.ey.set m.bh.toNat true).count true:Int)
      rw[Ch G,h.hA];rfl
     split
     .exact⟨k,h.nil,h.n,q,λu M=>Mk⟩
     .refine⟨k,h.nil,h.n,q,λu M=>?_⟩;have:u=(eC r.x m).UR:=(hc M).symm;rw[this];exact HK ..
   .exact h
def ag4(b q:Nat)(r:bL)(h:r.ok)(m:aD):ar prog 186 [aw b 0,A m.c] (r.cs b q) (λv K=>∃y,v=B (r.y' m).2/\K=(r.y' m).1.cs b y):=by
 have a:=h.n;obtain⟨x,o⟩:=r;have t:x.next=.pointer none:=h.nil;have C:({x with next:=.pointer none}:bV)=x:=by rw[<-t]
 cases o with
 |some l=>
  obtain⟨W,d,_⟩:=h.cw l rfl;by_cases T:x.bad m
  .have e:(bL.mk x (some l)).y' m=(bL.mk x (some l),false):=by grind [bL.y']
   rw[e];have Q:=ar.frame (be:=[cells q 183 l.c]) (HH b {x with next:=aw q 0} m T);refine ar.post Q ?_;rintro v K⟨_,⟨rfl,rfl⟩,rfl⟩;exact⟨_,⟨q,rfl,rfl⟩,λ_ _ _ h=>h⟩
  .have e:(bL.mk x (some l)).y' m=(bL.mk x (some (l.y' m).1),(l.y' m).2):=by grind [bL.y']
   rw[e];obtain⟨M,F,R,u,p⟩:=bV.Wc T;refine ar.post (aeu b q {x with next:=aw q 0} ⟨h.w.fz,h.w.ey,h.w.ez⟩ l W Uh rfl m ⟨M,F,R,u,p⟩) ?_;exact Oc
 |none=>
  dsimp only at a;by_cases T:x.bad m
  .have e:(bL.mk x none).y' m=(bL.mk x none,false):=by grind [bL.y']
   rw[e];refine ar.post (HH b x m T) ?_;exact Oc
  have X:=bV.Wc T;by_cases p:m.Kind=5
  .have e:(bL.mk x none).y' m=(bL.mk x (some (hg x m.Call)),true):=by grind [bL.y']
   rw[e];refine ar.post (PH b x h.w ac t m X p) ?_;rintro v K⟨y,rfl,rfl⟩;exact⟨_,⟨y,rfl,rfl⟩,λ_ _ _ h=>h⟩
  by_cases D:m.Kind=8/\fL x.bj m.bB=true
  .have e:(bL.mk x none).y' m=(bL.mk {x with lost:=true} none,true):=by grind [bL.y']
   rw[e];refine ar.post (aen b x h.w t m X D.1 D.2) ?_;exact Oc
  by_cases s:m.Kind=7/\m.bB=x.bj
  .have k:zC x m:=⟨X.it,X.to,X.f0,X.fn,s.1,s.2,X.ls,t,a.2⟩
   have L:=h.g;dsimp only at L;cases G:x.ey.getD m.bh.toNat true
   .by_cases i:(eC x m).iO=0
    .have e:(bL.mk x none).y' m=(bL.mk (eC x m) none,false):=by grind [bL.y']
     rw[e];refine ar.post (aea b x h.w m k a.1 ac G i) ?_;exact Oc
    .have e:(bL.mk x none).y' m=(bL.mk (eC x m) (some (eC x m).UR),true):=by grind [bL.y']
     rw[e];refine ar.post (ada b x h.w m k a.1 ac G i) ?_;rintro v K⟨y,rfl,rfl⟩;exact⟨_,⟨y,rfl,rfl⟩,λ_ _ _ h=>h⟩
   .have e:(bL.mk x none).y' m=(bL.mk x none,false):=by grind [bL.y']
    rw[e];refine ar.post (ahD b x h.w m k G) ?_;exact Oc
  .have e:(bL.mk x none).y' m=(bL.mk x none,false):=by grind [bL.y']
   rw[e];refine ar.post (aef b x h.w t m X p D s) ?_;exact Oc
def bL.E'(r:bL):ab aD:=if r.x.lost=true then[]else match r.k0 with|some l=>l.E'|none=>(List.range r.x.n.toNat).map (pq r.x)
def bL.lost(r:bL):Bool:=r.x.lost||(match r.k0 with|some l=>decide (l.phase=4)|none=>false)
def HL(b:Nat)(x:bV)(T:x.lost=true):ar prog 98 [aw b 0] [cells b 243 x.c] (λr M=>r=.slice none 0 0/\M=[cells b 243 x.c]):=by refine aE func98 λW=>?_;refine aa 15 ?_;exact Tx
def PN(b q:Nat)(x:bV)(w:x.wf)(l:a6)(a:0<=l.n/\l.n<=1000)(M:x.next=aw q 0)(T:x.lost=false):ar prog 98 [aw b 0] [cells b 243 x.c,cells q 183 l.c] (λr C=>∃v,r=v/\C=[rows aD.c v 176 25 l.E',cells b 243 x.c,cells q 183 l.c]):=by have t:=bV.at w.fz w.ey;rw[M]at t;have w:=zA q l a;refine aE func98 λW=>?_;refine aa 15 ?_;refine ai.v (V.C' ad (v:=B false) (z:=Qz)) ?_;refine aa 10 ?_;refine ai.v (V.C' ad (z:=t)) ?_;refine aa 10 ?_;refine ai.v (V.C' ad (z:=t)) ?_;refine au ?_;rintro _ _⟨i,rfl,rfl⟩;exact aP 8
def CB(b q:Nat)(r:bL)(h:r.ok):ar prog 98 [aw b 0] (r.cs b q) (λv M=>∃m Q,v=.slice m r.E'.length Q/\M=rows aD.c (.slice m r.E'.length Q) 176 25 r.E'::r.cs b q):=by
 refine ar.pr aD.len ?_;have p:=h.n;obtain⟨x,d⟩:=r;have C:x.next=.pointer none:=h.nil;dsimp only at p;unfold bL.E';dsimp only;cases T:x.lost
 .rw[aM T6];cases d with
  |some l=>
   obtain⟨X,g,_⟩:=h.cw l rfl;exact PN b q {x with next:=aw q 0} ⟨h.w.fz,h.w.ey,h.w.ez⟩ l Uh rfl T
  |none=>exact aim b x x.n.toNat ac ac T C h.w.fz h.w.ey
 .rw[aQ rfl];cases d with
  |some l=>
   refine ar.UB (ar.frame (be:=[cells q 183 l.c]) (HL b {x with next:=aw q 0} T)) ?_;rintro v M W D w⟨_,⟨rfl,rfl⟩,rfl⟩ a;exact⟨_,⟨_,rfl,rfl⟩,a.VY aD.c 176 25⟩
  |none=>
   refine ar.UB (HL b x T) ?_;rintro v M W D w⟨rfl,rfl⟩ a;exact⟨_,⟨_,rfl,rfl⟩,a.VY aD.c 176 25⟩
def HM(b:Nat)(x:bV)(T:x.lost=true):ar prog 187 [aw b 0] [cells b 243 x.c] (λr M=>r=B true/\M=[cells b 243 x.c]):=by refine aE func187 λW=>?_;refine aa 13 ?_;exact Tx
def afH(b q:Nat)(x:bV)(w:x.wf)(l:a6)(M:x.next=aw q 0)(T:x.lost=false):ar prog 187 [aw b 0] [cells b 243 x.c,cells q 183 l.c] (λr C=>r=B (decide (l.phase=4))/\C=[cells b 243 x.c,cells q 183 l.c]):=by have t:=bV.at w.fz w.ey;rw[M]at t;have v:=Ck q l;refine aE func187 λW=>?_;refine aa 13 ?_;refine ai.v (V.C' ad (v:=B false) (z:=Qz)) ?_;refine aa 5 ?_;refine ai.v (V.C' ad (z:=t)) ?_;exact aP 9
def afK(b:Nat)(x:bV)(w:x.wf)(M:x.next=.pointer none)(T:x.lost=false):ar prog 187 [aw b 0] [cells b 243 x.c] (λr C=>r=B false/\C=[cells b 243 x.c]):=by have t:=bV.at w.fz w.ey;rw[M]at t;have v:=ahJ;refine aE func187 λW=>?_;refine aa 13 ?_;refine ai.v (V.C' ad (v:=B false) (z:=Qz)) ?_;refine aa 5 ?_;refine ai.v (V.C' ad (z:=t)) ?_;exact aP 8
def PQ(b q:Nat)(r:bL)(h:r.ok):ar prog 187 [aw b 0] (r.cs b q) (λv M=>v=B r.lost/\M=r.cs b q):=by
 obtain⟨x,g⟩:=r;have C:x.next=.pointer none:=h.nil;unfold bL.lost;dsimp only;cases T:x.lost
 .rw[wI];cases g with
  |some l=>exact afH b q {x with next:=aw q 0} ⟨h.w.fz,h.w.ey,h.w.ez⟩ l rfl T
  |none=>exact afK b x h.w C T
 .rw[Bool.true_or];cases g with
  |some l=>
   refine ar.post (ar.frame (be:=[cells q 183 l.c]) (HM b {x with next:=aw q 0} T)) ?_;rintro v M⟨_,⟨rfl,rfl⟩,rfl⟩;exact⟨_,⟨rfl,rfl⟩,λ_ _ _ h=>h⟩
  |none=>exact HM b x T
def CC(b q:Nat)(r:bL):ar prog 97 [aw b 0] (r.cs b q) (λv M=>v=A r.x.bj.c/\M=r.cs b q):=by
 obtain⟨x,g⟩:=r;cases g with
 |some l=>
  refine ar.post (ar.frame (be:=[cells q 183 l.c]) (HI b {x with next:=aw q 0})) ?_;rintro v M⟨_,⟨rfl,rfl⟩,rfl⟩;exact⟨_,⟨rfl,rfl⟩,λ_ _ _ h=>h⟩
 |none=>exact HI b x
def bL.new(n X:Int)(x:ag)(y:bm):bL:=⟨{bV.z with n:=n,self:=X,item:=x,bj:=y},none⟩
def bL.UL{n:Int}(a:3<=n/\n<=7)(X:Int)(x:ag)(y:bm):(bL.new n X x y).ok:=
 ⟨⟨rfl,rfl,by show(0:Int)<=0/\(0:Int)<=50;decide⟩,rfl,a,rfl,λl T=>by cases T⟩
def ajy(n X:Int)(x:ag)(y:bm):ar prog 99 [I n,I X,A x.c,A y.c] [] (λr M=>∃b,r=aw b 0/\M=(bL.new n X x y).cs b 0):=aiW n X x y
end Go.Proofs.YteogojgnkjegmaaGreatDoor
namespace Go.Proofs.YteogojgnkjegmaaGreatDoor
open Go.ay Go.Proofs.Tryz
variable[Go.ay.b4]
variable{k:ab (ab aS)}{D:ab Nat}{n:Nat}{C:ab ax}{W:aZ}
def rM(e:ax)(v:aj)(l:ab (ab aS)):Prop:=∃m E b off,v=.slice m l.length E/\Rd e m l.length b off 1 (l.map fg)
structure xN where
 err:Int
 val:ab aS
 gP:Int
 keys:ab (ab aS)
 l:fN
def gr(l:fN)(d:bN):xN:=if d.Kind=5 then⟨0,[],0,ud d.Key l,l⟩else⟨(p0 l d).1.A8,(p0 l d).1.Value,(p0 l d).1.Version,[],(p0 l d).2⟩
def ae0(l:fN)(d:bN):(p0 l d).1.Keys=.slice none 0 0:=by
 unfold p0 ll;repeat' split
 all_goals rfl
def jQ.any{l:fN}(h:jQ n l)(d:bN):jQ (n+1) (gr l d).l:=by
 unfold gr;split
 .exact h.up
 .exact h.W5 d
def rM.one{v:aj}(K:rows fg v 9 1 k∈C):∀w,H W D C w->rM (rows fg v 9 1 k) v k:=λw n=>by obtain⟨m,Q,b,rfl,t⟩:=iD (f:=fg) (G:=1) (E:=9) (λ_=>rfl) K w n;exact⟨m,Q,b,0,rfl,t⟩
structure jb where
 num:Int
 err:Int
 val:ab aS
 gP:Int
 keys:ab (ab aS)
 iT:aj
def jb.z:jb:=⟨0,0,[],0,[],.slice none 0 0⟩
def jb.ll(x:jb):hL:=⟨x.err,x.val,x.gP,x.iT⟩
def jb.c(x:jb):ab aj:=mB.c ⟨x.num,x.ll⟩
abbrev oM:=ab (Int×jb)
abbrev CD:Int->aj:=λk=>I k
abbrev rN:jb->aj:=λp=>A p.c
abbrev ue(m:Nat)(l:oM):ax:=bz CD rN m l
def uf:hv prog 210 3 281=true:=rfl
def vN(w:aZ):(Go.zeroValue 281).run prog w=.ok (A jb.z.c) w:=rfl
def ug:ht prog 3 CD:=ht.int rfl
def h4(l:oM)(k:Int):jb:=(a8 l k).getD jb.z
def PT(b m:Nat)(l:fN)(d:bN)(u:d.Kind=5)(T:l.length<=100000):ar prog 162 [aw b 0,A d.c] (nh b m l) (λr J=>∃v,(ud d.Key l=[]->v=.slice none 0 0)/\r=A (hL.c ⟨0,[],0,v⟩)/\J=nh b m l++[rows fg v 9 1 (ud d.Key l)]):=by
 have Q:=Pn (aw b 0) rfl d.Key;unfold nh;refine bl ?_;refine aE func162 λW=>?_;refine ah.Ur fg 9 1 ?_;refine Dj λi Z=>?_;refine ah.n' ?_ aB.j.d'.j.d'.j;refine ae 6 0 ?_;refine af.bv 6 10 rfl rfl ?_ ?_;refine av.x' (aK.UK (l:=l) (k:=d.Key) (aU:=h3) eV.z gU iY j8 rfl rfl T1) ?_;refine au ?_;refine ae 3 7 ?_;refine df 10 λj=>?_;refine ae 2 11 ?_;refine aq 40 λq=>?_;refine aa 9 ?_;rintro _ _⟨Yh,Yi,rfl,rfl⟩;refine aa 4 ?_;rotate_left;refine TN λj=>?_;refine aq 40 λq=>?_;refine aa 9 ?_;rintro _ _⟨Yf,Yg,rfl,rfl⟩;refine aa 4 ?_;rotate_left
 .refine ah.rg (HA Yh Yi b m d.Key l T) (λy:aj×ab (ab aS)=>[cells q 61 [y.1],rows fg y.1 9 1 y.2]) (λpre y=>y.2=pre.map (·.Key)/\(y.1=.slice none 0 0\/∃g E,y.1=.slice (some ⟨g,0,none⟩) y.2.length E)/\(y.2=[]->y.1=.slice none 0 0)) (λ_ _ _=>False) (.slice none 0 0,[]) ⟨rfl,.inl rfl,λ_=>rfl⟩ ?_ ?_ ?_
  .rintro pre x P⟨v,N⟩ D rec U⟨F,_,_⟩ t p M K n;dsimp only at F;have w:=Cx d.Key l;rw[U]at w;simp only[b2,dD]at w;have X:N.length=pre.length:=by rw[F,eT]
   exact O4
  .rintro⟨v,N⟩ Y⟨F,L,G⟩;dsimp only at F L G;have e:N=ud d.Key l:=F;subst e;refine bl ?_;rcases L with rfl|⟨g,C,rfl⟩
   .refine aa 13 ?_
    exact Qb
   .refine aa 13 ?_
    exact Qb
  .intro _ _ _ _ _ _ _ h;exact h.elim
 .refine ah.rg (HA Yf Yg b m d.Key l T) (λy:aj×ab (ab aS)=>[cells q 61 [y.1],rows fg y.1 9 1 y.2]) (λpre y=>y.2=pre.map (·.Key)/\(y.1=.slice none 0 0\/∃g E,y.1=.slice (some ⟨g,0,none⟩) y.2.length E)/\(y.2=[]->y.1=.slice none 0 0)) (λ_ _ _=>False) (.slice none 0 0,[]) ⟨rfl,.inl rfl,λ_=>rfl⟩ ?_ ?_ ?_
  .rintro pre x P⟨v,N⟩ D rec U⟨F,_,_⟩ t p M K n;dsimp only at F;have w:=Cx d.Key l;rw[U]at w;simp only[b2,dD]at w;have X:N.length=pre.length:=by rw[F,eT]
   exact O4
  .rintro⟨v,N⟩ Y⟨F,L,G⟩;dsimp only at F L G;have e:N=ud d.Key l:=F;subst e;refine bl ?_;rcases L with rfl|⟨g,C,rfl⟩
   .refine aa 13 ?_
    exact Qb
   .refine aa 13 ?_
    exact Qb
  .intro _ _ _ _ _ _ _ h;exact h.elim
def ahW(b m n:Nat)(l:fN)(d:bN)(ao:jQ n l)(p:n<=10000):ar prog 162 [aw b 0,A d.c] [cells b 263 (lZ.c ⟨.map (some m)⟩),iE m l] (λr J=>∃i G Q,((gr l d).keys=[]->Go.Value.slice i G Q=.slice none 0 0)/\r=A (hL.c ⟨(gr l d).err,(gr l d).val,(gr l d).gP,.slice i G Q⟩)/\J=[rows fg (.slice i G Q) 9 1 (gr l d).keys,cells b 263 (lZ.c ⟨.map (some m)⟩),iE m (gr l d).l]):=by
 have T:=ao.len;have L:=ao.gP d.Key;unfold gr;by_cases u:d.Kind=5
 .simp only[aQ u];refine ar.UB (PT b m l d u ac) ?_;rintro v J W D w⟨x,y,rfl,rfl⟩ a;have g:=a.perm (oq (l₁:=nh b m l) (l₂:=[_]));obtain⟨i,Q,_,rfl,_⟩:=iD (f:=fg) (G:=1) (E:=9) (λ_=>rfl) (aF _) w g;exact⟨_,⟨i,_,Q,y,rfl,rfl⟩,g⟩
 .simp only[aM u];refine ar.UB (ajO b m l d u ac) ?_;rintro v J W D w⟨rfl,rfl⟩ a;refine⟨_,⟨none,0,0,λ_=>rfl,?_,rfl⟩,a.VY fg 9 1⟩;rw[<-ae0 l d]
def HN(e:ax)(v:aj)(k:ab (ab aS))(f:rM e v k)(o:k=[]->v=.slice none 0 0)(F:k.length<=100000):ar prog 163 [v] [e] (λr J=>∃m G E,(k=[]->Go.Value.slice m G E=.slice none 0 0)/\r=.slice m G E/\J=[rows fg (.slice m G E) 9 1 k,e]):=by
 by_cases u:k=[]
 .subst u;rw[o rfl];refine aE func163 λW=>?_;refine ah.Ur fg 9 1 ?_;refine aa 9 ?_;refine ai.v (V.WM ad) ?_;refine aa 11 ?_
  .exact⟨_,_,⟨none,0,0,λ_=>rfl,rfl,rfl⟩,Uc⟩
 .obtain⟨m,E,b,off,rfl,h⟩:=f;have Q:0<k.length:=pH.2 u;obtain rfl:=h.addr Q;refine aE func163 λW=>?_;refine N1 ?_;refine ai.o (O.Q' ad fg [] rfl bI.nil rfl rfl (λg=>?_));refine au ?_;refine ai.o (O.U' ad rfl rfl T8 (cq.rd ad h T1 (λ_=>rfl) (λ_=>rfl) Q) (λr T=>?_));refine aa 5 ?_
  .exact⟨_,_,⟨_,_,_,λh=>absurd h u,rfl,rfl⟩,Uc⟩
structure mf where
 err:Int
 val:ab aS
 gP:Int
 keys:ab (ab aS)
def mf.z:mf:=⟨0,[],0,[]⟩
def xN.qQ(x:xN):mf:=⟨x.err,x.val,x.gP,x.keys⟩
def mf.c(x:mf)(v:aj):ab aj:=hL.c ⟨x.err,x.val,x.gP,v⟩
abbrev vO:=ab (Int×(Int×mf))
structure g5 where
 l:fN
 ni:vO
 hA:Int
def g5.z:g5:=⟨[],[],0⟩
def g5.get(s:g5)(k:Int):Int×mf:=(a8 s.ni k).getD (0,mf.z)
def il(s:g5)(d:bN):mf×g5:=
 if nE d=false then(⟨1,[],0,[]⟩,s)
 else if d.cP=0 then((gr s.l d).qQ,⟨(gr s.l d).l,s.ni,s.hA+1⟩)
 else if d.Number<(s.get d.cP).1 then(⟨9,[],0,[]⟩,s)
 else if(s.get d.cP).1<d.Number then((gr s.l d).qQ,⟨(gr s.l d).l,bx s.ni d.cP (d.Number,(gr s.l d).qQ),s.hA+1⟩)
 else((s.get d.cP).2,s)
def jb.f(x:jb):Int×mf:=(x.num,⟨x.err,x.val,x.gP,x.keys⟩)
def uh(l:oM):vO:=l.map λp=>(p.1,p.2.f)
def HO(l:oM)(k:Int):a8 (uh l) k=(a8 l k).map jb.f:=by
 induction l with
 |nil=>rfl
 |cons p l d=>
  grind [a8,uh,kk]
def aeh(l:oM)(k:Int)(x:jb):uh (bx l k x)=bx (uh l) k x.f:=by
 induction l with
 |nil=>rw[qv];show _=bx [] k x.f;rw[qv];rfl
 |cons p l d=>
  grind [bx,uh,lB]
def PW(l:oM)(k:Int):(h4 l k).f=(a8 (uh l) k).getD (0,mf.z):=by rw[HO];unfold h4;cases a8 l k<;>rfl
abbrev p1:=ab (aj×ab (ab aS))
def xO(g:p1):ab ax:=g.map λp=>rows fg p.1 9 1 p.2
def nM(g:p1):ax:=aL (xO g)
def rM.abx{g:p1}{v:aj}(K:(v,k)∈g)(G:nM g∈C):∀w,H W D C w->rM (nM g) v k:=λw n=>by
 have j:=n.mem G;unfold nM at j⊢;rw[rk]at j;have t:rows fg v 9 1 k∈xO g:=eS.2 ⟨(v,k),K,rfl⟩;have q:=j.1 _ t;have Y:(v=.slice none 0 0/\k=[])\/∃g Q,v=.slice (some ⟨g,0,none⟩) k.length Q/\k.length<=Q/\Q<=Go.maxLen:=
  hW (f:=fg) (E:=9) (aI:=1) (W:=w) (D:=bn [rows fg v 9 1 k]) (aF []) w ⟨λe L=>by
   obtain rfl:e=_:=Re
   exact q,Np,λb X=>.inl X,λ_ _ _=>rfl,cD _,rfl,rfl,rfl,cD _⟩
 rcases Y with⟨rfl,rfl⟩|⟨x,Q,rfl,_,N⟩
 exact Qi
 .have d:=Rd.rows (f:=fg) (g:=x) (E:=9) (aI:=1) (cap:=Q) (l:=k) (λ_=>rfl) OJ;exact R2
def H.lay{w:aZ}{g:p1}{v:aj}(h:H W D (rows fg v 9 1 k::nM g::C) w):H W D (nM ((v,k)::g)::C) w:=by
 have Y:H W D (nM g::(rows fg v 9 1 k::C)) w:=h.perm (hK _ _ _);unfold nM at*;have N:=Y.UO;have R:H W D ((rows fg v 9 1 k::xO g)++C) w:=N.perm (by
  show(xO g++rows fg v 9 1 k::C).Perm ((rows fg v 9 1 k::xO g)++C)
  exact n8)
 exact R.toBag
def qR(b p L z:Nat)(l:fN)(s:oM)(g:p1)(d:Int):ab ax:=
 [cells b 212 (mA.c ⟨aw p 0,.map (some z),d⟩),cells p 263 (lZ.c ⟨.map (some L)⟩),iE L l,ue z s,nM g]
structure nN(ni:vO)(pr:oM)(g:p1):Prop where
 gh:uh pr=ni
 mem:∀k x,a8 pr k=some x->(x.iT,x.keys)∈g/\(x.keys=[]->x.iT=.slice none 0 0)
def nN.zero:nN [] [] []:=⟨rfl,λk x h=>by grind [m4]⟩
def nN.put{X:vO}{l:oM}{g:p1}(h:nN X l g)(k:Int)(x:jb)(o:x.keys=[]->x.iT=.slice none 0 0):nN (bx X k x.f) (bx l k x) ((x.iT,x.keys)::g):=
 ⟨by rw[aeh,h.gh],λu L U=>by
  rw[hw]at U;by_cases e:u=k
  .rw[aQ e]at U;grind
  .rw[aM e]at U;have:=h.mem u L U;exact⟨hI _ this.1,this.2⟩⟩
def nN.look{X:vO}{s:oM}{g:p1}(h:nN X s g)(l:fN)(d:Int)(k:Int):(h4 s k).f=g5.get ⟨l,X,d⟩ k:=by rw[PW,h.gh];rfl
structure p2(n:Nat)(s:g5):Prop where
 vP:jQ n s.l
 mb:(s.ni.map (·.1)).Nodup
 len:s.ni.length<=n
 hA:0<=s.hA/\s.hA<=n
 zE:∀k x,a8 s.ni k=some x->1<=k/\k<=1099511627776/\1<=x.1/\x.1<=1099511627776/\x.2.keys.length<=n
def p2.zero:p2 0 g5.z:=⟨jQ.zero,pK,cD _,⟨gg _,gg _⟩,λk x h=>by rw[show g5.z.ni=[]from rfl,m4]at h;cases h⟩
def p2.up{s:g5}(h:p2 n s):p2 (n+1) s:=⟨h.vP.up,h.mb,J5,by have:=h.hA;omega,λk x U=>by have:=h.zE k x U;omega⟩
def HP{l:fN}(h:jQ n l)(d:bN):(gr l d).keys.length<=n:=by
 unfold gr;split
 .show(ud d.Key l).length<=n;unfold ud;rw[eT];have:=Cx d.Key l;have:=h.len;omega
 .exact cO _
def ah7{t M:Type}[DecidableEq t]{l:ab (t×M)}{k:t}{p:M}:(bx l k p).length<=l.length+1:=by
 induction l with
 |nil=>rw[qv];exact cD _
 |cons q l d=>
  rw[lB];grind
def PY{d:bN}(h:nE d=true):0<=d.cP/\d.cP<=1099511627776/\0<=d.Number/\d.Number<=1099511627776/\(d.cP=0↔d.Number=0):=by have:=(wK h).1;grind
def p2.W5{s:g5}(h:p2 n s)(d:bN):p2 (n+1) (il s d).2:=by
 unfold il;split
 .exact h.up
 .rename_i G;have R:nE d=true:=by simpa using G
  have a:=PY R;split
  .exact⟨h.vP.any d,h.mb,by have:=h.len;show s.ni.length<=_;omega,J6,λk x U=>by have:=h.zE k x U;omega⟩
  .rename_i Q;split
   .exact h.up
   .split
    .rename_i y;refine⟨h.vP.any d,qy h.mb,jy ah7 J5,J6,λk x U=>?_⟩;have Y:a8 (bx s.ni d.cP (d.Number,(gr s.l d).qQ)) k=some x:=U;rw[hw]at Y;by_cases e:k=d.cP
     .rw[aQ e]at Y;cases Y;have:=HP h.vP d;refine⟨ac,ac,by show 1<=d.Number;omega,by show d.Number<=_;omega,by show(gr s.l d).keys.length<=_;omega⟩
     .rw[aM e]at Y;have:=h.zE k x Y;omega
    .exact h.up
end Go.Proofs.YteogojgnkjegmaaGreatDoor
namespace Go.ay
open Go
variable[Go.ay.b4]
section
variable{P:bU}{n:dq}{N:bC}{U:ab ax}{C:Nat}{X:a7}{M:String}{K:Array Edge}{T:aT (Nat×Bool)}{J Z:Type}[DecidableEq J]{F:J->aj}{Y:Z->aj}{u:a7}{l:ab (J×Z)}
end
end Go.ay
namespace Go.Proofs.YteogojgnkjegmaaGreatDoor
open Go.ay Go.Proofs.Tryz
variable[Go.ay.b4]
def aju:ar prog 76 [] [] (λr E=>∃b p L z,r=aw b 0/\E=[cells b 212 (mA.c ⟨aw p 0,.map (some z),0⟩),cells p 263 (lZ.c ⟨.map (some L)⟩),iE L [],ue z []]):=by
 have E:=Ps;unfold nh at E;refine aE func76 λW=>?_;refine aa 8 ?_;rintro _ _⟨h,i,rfl,rfl⟩;refine au ?_;refine ai.o (av.mkMap CD rN rfl (λp=>?_));refine aq 1 λE=>?_;refine aa 5 ?_
 .exact⟨_,_,⟨_,_,_,_,rfl,rfl⟩,Uc⟩
def nN.form{E:vO}{s:oM}{g:p1}(j:nN E s g)(k:Int){W:aZ}{D:ab Nat}{U:ab ax}(G:nM g∈U):∀w,H W D U w->∃m R q,(h4 s k).iT=.slice m R q/\rM (nM g) (h4 s k).iT (h4 s k).keys/\((h4 s k).keys=[]->(h4 s k).iT=.slice none 0 0):=λw i=>by
 unfold h4;cases Q:a8 s k with
 |none=>exact⟨none,0,0,rfl,⟨none,0,0,0,rfl,Rd.nil⟩,λ_=>rfl⟩
 |some x=>
  have E:=j.mem k x Q;have Q:=rM.abx E.1 G w i;have R:=Q;obtain⟨m,q,b,off,e,_⟩:=R;exact⟨m,_,q,e,Q,E.2⟩
def P0(b ee qS sm:Nat)(n:Nat)(s:g5)(h:oM)(g:p1)(d:bN)(ao:p2 n s)(ix:nN s.ni h g)(cM:n<=10000):ar prog 114 [aw b 0,A d.c] (qR b ee qS sm s.l h g s.hA) (λr Yc=>∃cV o Q Ym u6,nN (il s d).2.ni Ym u6/\r=A ((il s d).1.c (.slice cV o Q))/\Yc=rows fg (.slice cV o Q) 9 1 (il s d).1.keys::qR b ee qS sm (il s d).2.l Ym u6 (il s d).2.hA):=by
 have dv:=y9 d;have dJ:=ahW ee qS n s.l d ao.vP cM;have Yx:=ao.hA;have Yt:=ix.look s.l s.hA d.cP;unfold il;cases bF:nE d with
 |false=>
  rw[aQ rfl];rw[bF]at dv;unfold qR mf.c;refine aE func114 λW=>?_;refine ah.Ur fg 9 1 ?_;refine aq 2 λgq=>?_;refine aq 0 λfT=>?_;refine aa 31 ?_
  exact S8
 |true=>
  rw[aM T6];rw[bF]at dv;by_cases b7:d.cP=0
  .rw[aQ b7];generalize gr s.l d=y at*;unfold iE at dJ;unfold qR mf.c xN.qQ iE;refine aE func114 λW=>?_;refine aq 2 λgq=>?_;refine aq 0 λfT=>?_;refine aa 43 ?_;refine ah.n' ?_ aB.j.j.j.j.d'.d'.j;refine ae 5 0 ?_;refine af.p' 5 rfl rfl (dJ) ?_;refine R5 λYA Yy Yz Yf=>?_;refine ae 1 6 ?_;refine aa 6 ?_
   exact QX
  .rw[aM b7];obtain⟨⟨G,L,j,a,t,Yn⟩,E⟩:∃x,(a8 h d.cP).getD jb.z=x:=⟨_,rfl⟩
   have Yl:h4 h d.cP=⟨G,L,j,a,t,Yn⟩:=E;have p {W:aZ} {D:ab Nat} {U:ab ax} (bF:nM g∈U):∀w,H W D U w->∃cV o Q,Yn=.slice cV o Q/\rM (nM g) Yn t/\(t=[]->Yn=.slice none 0 0):=λw cG=>by have:=ix.form d.cP bF w cG;rw[Yl]at this;exact this
   rw[Yl]at Yt;rw[show s.get d.cP=(G,(⟨L,j,a,t⟩:mf))from Yt.symm];by_cases bg:d.Number<G
   .simp only[aQ bg];unfold qR mf.c;refine aE func114 λW=>?_;refine ah.fact (p OR) λYo=>?_;obtain⟨Yk,Yq,q,rfl,Ys,Yi⟩:=Yo;refine ah.Ur fg 9 1 ?_;refine aq 2 λgq=>?_;refine aq 0 λfT=>?_;refine aa 34 ?_;refine ah.n' ?_ aB.j.j.j.j.d'.j.d'.j;refine ae 6 0 ?_;refine af.bv 6 7 rfl rfl ?_ ?_;refine av.x' (aK.UN (l:=h) (k:=d.cP) (aU:=rN) jb.z E ug uf vN rfl rfl T1) ?_;refine au ?_;refine df 7 λl5=>?_;refine ae 1 8 ?_;refine aa 25 ?_
    exact S8
    refine O.N' ad (λl5=>?_);refine au ?_;refine af.q' 6 rfl (av.x' (aK.UN (l:=h) (k:=d.cP) (aU:=rN) jb.z E ug uf vN rfl rfl T1) ?_);refine au ?_;refine ae 1 8 ?_;refine aa 25 ?_
    exact S8
   .simp only[aM bg];by_cases bY:G<d.Number
    .simp only[aQ bY];have Yj:=HP ao.vP d;refine ar.UB (R:=λr Yc=>∃cV o Q v,((gr s.l d).keys=[]->v=.slice none 0 0)/\r=A ((gr s.l d).qQ.c (.slice cV o Q))/\Yc=[rows fg v 9 1 (gr s.l d).keys,nM g,rows fg (.slice cV o Q) 9 1 (gr s.l d).keys,cells b 212 (mA.c ⟨aw ee 0,.map (some sm),s.hA+1⟩),cells ee 263 (lZ.c ⟨.map (some qS)⟩),iE qS (gr s.l d).l,ue sm (bx h d.cP ⟨d.Number,(gr s.l d).err,(gr s.l d).val,(gr s.l d).gP,(gr s.l d).keys,v⟩)]) ?_ ?_
     .generalize gr s.l d=y at*;unfold iE at dJ;unfold qR mf.c xN.qQ iE ue;dsimp only;refine aE func114 λW=>?_;refine ah.fact (p OR) λYo=>?_;obtain⟨Yk,Yq,q,rfl,Ys,Yi⟩:=Yo;refine SH (λgq fT=>?_) λgq fT=>?_
      exact S5
      .rintro P1 _;refine bl ?_;refine aa 37 ?_;refine ah.n' ?_ aB.j.j.j.j.d'.d'.j.j;refine ae 7 0 ?_;refine af.p' 7 rfl rfl (dJ) ?_;refine R5 λYr m i Yg=>?_;refine af.i' 8 rfl (V.UZ ad (d:=mB.c ⟨d.Number,⟨y.err,y.val,y.gP,_⟩⟩)) ?_;refine ae 1 9 ?_;refine aa 2 ?_;refine ah.n' ?_ aB.j.j.d'.d'.j.d'.j.j.j;refine ae 7 0 ?_;refine af.q' 7 rfl (av.UC (l:=h) (k:=d.cP) (v:=(⟨d.Number,y.err,y.val,y.gP,y.keys,.slice Yr m i⟩:jb)) (aU:=rN) ug uf rfl rfl rfl T4 ?_);refine aq 8 λnj=>?_;refine aa 3 ?_;rotate_left;refine ah.fact (rM.one (v:=.slice Yr m i) (k:=y.keys) OR) λYh=>?_;have Yp:=HN _ _ y.keys Yh TX ac;refine aa 5 ?_;rintro _ _⟨Yw,Yu,Yv,E,rfl,rfl⟩;refine aa 13 ?_
       .exact⟨_,_,⟨_,_,_,.slice Yr m i,TX,rfl,rfl⟩,Uc⟩
     .rintro v Yc W D w⟨cV,o,Q,iT,eE,rfl,rfl⟩ cy;have dz:=H.lay cy;refine⟨_,⟨cV,o,Q,bx h d.cP ⟨d.Number,(gr s.l d).err,(gr s.l d).val,(gr s.l d).gP,(gr s.l d).keys,iT⟩,(iT,(gr s.l d).keys)::g,ix.put d.cP (⟨d.Number,(gr s.l d).err,(gr s.l d).val,(gr s.l d).gP,(gr s.l d).keys,iT⟩:jb) eE,rfl,rfl⟩,dz.perm ?_⟩;unfold qR;exact(oq (l₁:=[_]) (l₂:=[_,_,_,_,_]))
    .simp only[aM bY];have Yj:t.length<=n:=by
      have cd:=HO h d.cP;rw[ix.gh]at cd;cases dO:a8 h d.cP with
      |none=>rw[dO]at E;cases E;exact cO _
      |some x=>
       rw[dO]at E cd;have gX:=ao.zE d.cP x.f cd;have kO:x=⟨G,L,j,a,t,Yn⟩:=E;rw[kO]at gX;exact gX.2.2.2.2
     unfold qR mf.c iE ue;dsimp only;refine aE func114 λW=>?_;refine ah.fact (p OR) λYo=>?_;obtain⟨Yk,Yq,q,rfl,Ys,Yi⟩:=Yo;have Yp:=HN _ _ t Ys Yi ac;refine SH (λgq fT=>?_) λgq fT=>?_
     exact S5
     .rintro P1 _;refine bl ?_;refine aq 31 λnj=>?_;refine aa 8 ?_;rintro _ _⟨Yw,Yu,Yv,Yg,rfl,rfl⟩;refine aa 13 ?_
      exact QX
structure nk where
 b:Nat
 ee:Nat
 qS:Nat
 sm:Nat
 s:g5
 pr:oM
 g:p1
def mg(M:nk):ax:=aL (qR M.b M.ee M.qS M.sm M.s.l M.pr M.g M.s.hA)
structure j9(n:Nat)(M:nk):Prop where
 ci:p2 n M.s
 ao:nN M.s.ni M.pr M.g
def aem:ar prog 76 [] [] (λr J=>∃M,(j9 0 M/\M.s=g5.z)/\r=aw M.b 0/\J=[mg M]):=by
 refine ar.UB aju ?_;rintro v J W D w⟨b,p,L,P,rfl,rfl⟩ a;refine⟨_,⟨⟨b,p,L,P,g5.z,[],[]⟩,⟨⟨p2.zero,nN.zero⟩,rfl⟩,rfl,rfl⟩,?_⟩;have N:H W D ([cells b 212 (mA.c ⟨aw p 0,.map (some P),0⟩),cells p 263 (lZ.c ⟨.map (some L)⟩),iE L [],ue P [],nM []]) w:=
  a.eqv ((aO.refl [cells b 212 (mA.c ⟨aw p 0,.map (some P),0⟩),cells p 263 (lZ.c ⟨.map (some L)⟩),iE L [],ue P []]).append (aO.aL (be:=[])).symm)
 exact N.eqv aO.aL.symm
def ajh(n:Nat)(M:nk)(h:j9 n M)(p:n<=10000)(d:bN):ar prog 114 [aw M.b 0,A d.c] [mg M] (λr J=>∃o m G E,(j9 (n+1) o/\o.b=M.b/\o.s=(il M.s d).2)/\r=A (hL.c ⟨(il M.s d).1.err,(il M.s d).1.val,(il M.s d).1.gP,.slice m G E⟩)/\J=[mg o]):=by refine ar.UB (ar.eqv aO.aL (P0 M.b M.ee M.qS M.sm n M.s M.pr M.g d h.ci h.ao p) (R:=λr J=>∃m G E t i,nN (il M.s d).2.ni t i/\r=A ((il M.s d).1.c (.slice m G E))/\J=rows fg (.slice m G E) 9 1 (il M.s d).1.keys::qR M.b M.ee M.qS M.sm (il M.s d).2.l t i (il M.s d).2.hA) λr J f=>⟨J,f,aO.refl _⟩) ?_;rintro v J W D w⟨m,G,E,t,i,Y,rfl,rfl⟩ a;refine⟨_,⟨⟨M.b,M.ee,M.qS,M.sm,(il M.s d).2,t,i⟩,m,G,E,⟨⟨h.ci.W5 d,Y⟩,rfl,rfl⟩,rfl,rfl⟩,?_⟩;have N:=a.sub (KR _ _);exact N.eqv aO.aL.symm
section
variable{Y U:Type}{f:U->Y->U}
def HQ(q:∀o x y,f (f o x) y=f (f o y) x)(x:Y):∀(Z:ab Y) (o:U),f (Z.foldl f o) x=Z.foldl f (f o x)
 |[],_=>rfl
 |a::l,o=>by rw[qh,HQ q x l,qh,q]
def HR(q:∀o x y,f (f o x) y=f (f o y) x)(ao:∀o x,f (f o x) x=f o x){x:Y}:∀(Z:ab Y) (o:U),x∈Z->f (Z.foldl f o) x=Z.foldl f o
 |a::l,o,h=>by
  rw[qh];rcases dk.1 h with rfl|h
  .rw[HQ q,ao]
  .exact HR q ao l _ h
def CE(q:∀o x y,f (f o x) y=f (f o y) x)(ao:∀o x,f (f o x) x=f o x)(Z:ab Y)(o:U):∀K:ab Y,(∀y,y∈K->y∈Z\/∀o,f o y=o)->K.foldl f (Z.foldl f o)=Z.foldl f o
 |[],_=>rfl
 |y::K,h=>by
  have e:f (Z.foldl f o) y=Z.foldl f o:=by
   rcases h y T3 with J|J
   .exact HR q ao Z o J
   .exact J _
  rw[qh,e];exact CE q ao Z o K λz v=>h z (by simp[v])
def ai1(q:∀o x y,f (f o x) y=f (f o y) x)(ao:∀o x,f (f o x) x=f o x){Z K:ab Y}(J:∀y,y∈K->y∈Z\/∀o,f o y=o)(N:∀y,y∈Z->y∈K\/∀o,f o y=o)(o:U):Z.foldl f o=K.foldl f o:=by have c:=CE q ao Z o K J;have J:=CE q ao K o Z N;rw[<-vp]at c J;rw[<-c,<-J];exact List.Perm.foldl_eq' oq (λx _ y _ z=>q z x y) o
end
def jc(p:aJ aX)(d:bN)(c:ag)(o:bX×Int)(x:ag):bX×Int:=
 if x≠c/\pU (bP p x).Call.cv d=true then(kp o.1 x,Max.max o.2 (Min.min ((bP p x).Call.Seq+1) 1099511627776))else o
def ps(p:aJ aX)(d:bN)(c:ag)(Z:ab ag):bX×Int:=Z.foldl (jc p d c) (bX.z,0)
def fm(p:aJ aX)(d:bN)(c:ag):bX×Int:=ps p d c (p.all.map (·.1))
def ahE(p:aJ aX)(d:bN)(c:ag)(Z:ab ag)(x:ag):ps p d c (Z++[x])=jc p d c (ps p d c Z) x:=by simp[ps]
theorem agt(d:bX)(x y:ag):kp (kp d x) y=kp (kp d y) x:=by unfold kp;dsimp only;congr 1<;>(split<;>split<;>omega)
theorem P7(d:bX)(x:ag):kp (kp d x) x=kp d x:=by grind [kp]
def aeS(p:aJ aX)(d:bN)(c:ag)(o:bX×Int)(x y:ag):jc p d c (jc p d c o x) y=jc p d c (jc p d c o y) x:=by grind [jc,pU,bP,agt]
def aif(p:aJ aX)(d:bN)(c:ag)(o:bX×Int)(x:ag):jc p d c (jc p d c o x) x=jc p d c o x:=by grind [jc,pU,bP,P7]
def agv{L:gz}{x:ag}{e d:bN}{Z:ab ag}(T:Loc L x e)(u:zp L d Z)(q:pU e d=true):x∈Z:=by
 obtain⟨J,w,L,p⟩:=u x;simp only[pU,c5,iL,ke,jZ,dl]at q;obtain⟨o,P,q⟩:=q;obtain⟨E,i,J⟩:=T o;rcases q with⟨J,N⟩|h|h
 .grind
 .simp only[vz,xz,c5,iL,ke,jZ,dl]at h;grind
 .simp only[vz,xz,c5,iL,ke,jZ,dl]at h;grind
def adG{L:gz}{p:aJ aX}{d:bN}{c:ag}{Z:ab ag}(z:p.ok)(v:h1 L p)(u:zp L d Z):ps p d c Z=fm p d c:=by
 refine ai1 (aeS p d c) (aif p d c) ?_ ?_ _
 .intro y F;obtain⟨⟨o,i⟩,x,rfl⟩:=eS.1 F;have t:=(aJ.Ve z).1 x;dsimp only at t⊢;by_cases q:pU i.Call.cv d=true
  .exact .inl (agv (v.1 o i t) u q)
  .grind [jc,bP]
 .intro y F;cases t:p.at y with
  |some i=>exact .inl (eS.2 ⟨(y,i),(aJ.Ve z).2 t,rfl⟩)
  |none=>
   refine .inr λo=>?_;unfold jc;grind [bP,pU,aX.z,aN.z,bN.z]
end Go.Proofs.YteogojgnkjegmaaGreatDoor
