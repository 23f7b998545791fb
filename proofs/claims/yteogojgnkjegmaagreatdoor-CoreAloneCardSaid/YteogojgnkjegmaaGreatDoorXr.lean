/-
 Part of the proof.
-/
import Derived.Test.YteogojgnkjegmaaGreatDoorXq
set_option linter.all false
set_option maxRecDepth 8000
set_option maxHeartbeats 8000000
namespace Go.Proofs.YteogojgnkjegmaaGreatDoor
open Go.ay Go.Proofs.Tryz
def bK.list(x:bK):ab aD:=(fd x.fx x.en).map (·.2)
def bK.iw(x:bK):Int:=(choose x.n x.item x.list).1
def bK.SR(x:bK):aV:=(choose x.n x.item x.list).2
def bK.Sq(x:bK):a2:=if x.iw=1 then gD x x.SR else lB x.n x.self x.item x.b2 x.SR (if x.iw=3 then 1 else 2)
def Fk{n:Int}{x:ag}{Z:ab aD}(h:(Z.length:Int)<cD n+1):choose n x Z=(0,aV.z):=by unfold choose;rw[aT h]
def adU{n:Int}{x:ag}{Z:ab aD}(h:¬(Z.length:Int)<cD n+1):(choose n x Z).1=1\/(choose n x Z).1=2\/(choose n x Z).1=3:=by unfold choose;rw[aN h];repeat(first|exact .inl rfl|exact .inr (.inl rfl)|exact .inr (.inr rfl)|split)
def MU(x:bK):x.list.length<=7:=by unfold bK.list;rw[ev];exact Ab _ _
def aev(b:Nat)(x:bK)(r:aj)(Y:ab ax):Prop:=
 (x.iw=0/\r=B false/\Y=[cells b 243 x.c])\/(x.iw≠0/\∃q,r=B true/\Y=[cells b 243 ({x with next:=au q 0}:bK).c,cells q 183 x.Sq.c])
def Fl(b:Nat)(x:bK)(w:x.wf)(p:3<=x.n/\x.n<=1000):ar prog 239 [au b 0] [cells b 243 x.c] (aev b x):=by
 have i (q:Nat):pW prog 245 [au q 0] [cells q 311 [au b 7],cells b 243 x.c] xG (fd x.fx x.en) [cells q 311 [au b 7],cells b 243 x.c]:=
  EU (d:=[x.next]) (n:=x.gt) q b 243 w.v
 have r:=MU x;refine aB func239 λW=>?_;refine ah.RK aD.c 176 25 ?_;apply ah.seq;refine aa 4 ?_;apply ah.seq;refine aq 1 λy=>?_;refine aa 2 ?_;apply ah.seq;apply ah.seq;refine aa 4 ?_;refine Pu λN=>?_;refine ah.rg (i _) (λv:aj×ab aD=>[cells y 92 [v.1],rows aD.c v.1 176 25 v.2]) (λpre v=>v.2=pre.map (·.2)) (λ_ _ _=>False) (_,[]) rfl ?_ ?_ ?_
 .rintro pre⟨j,z⟩ d⟨v,L⟩ l rec U P t s k K m;dsimp only at P;refine bh ?_;have R:L.length<=7:=by rw[P,ev];have:=Ab x.fx x.en;rw[U,bM]at this;omega
  have h:(L.length+1)*1000<=1000000:=ac
  refine aq 1 λC=>?_;refine aq 7 λZ=>?_;refine ai.o (O.O' ad rfl rfl XJ (ce.one (f:=aD.c) (a:=z) ad XB aD.B') (λX M=>?_));refine aa 3 ?_;exact Out.rd m (_,L++[z]) (by show _=_;rw[P];simp)
 .rintro⟨v,L⟩ F P;obtain rfl:L=x.list:=P;dsimp only;refine Out.fact (hM (f:=aD.c) (v:=v) (l:=x.list) (E:=176) (X:=25) aD.len XB) ?_;rintro⟨G,Y,g,rfl,J⟩;have K:=LM _ G Y g 0 x.n x.item x.list ac ac J;have y:=Aq b x w 1 x.SR;have l:=Aq b x w 2 x.SR;have F:=Fj b x w x.SR ac;have b:x.iw=1->x.Sq=gD x x.SR:=λh=>by unfold bK.Sq;rw[aT h]
  have i:x.iw=2->x.Sq=lB x.n x.self x.item x.b2 x.SR 2:=λh=>by unfold bK.Sq;rw[aN ac,aN ac]
  have s:x.iw=3->x.Sq=lB x.n x.self x.item x.b2 x.SR 1:=λh=>by unfold bK.Sq;rw[aN ac,aT h]
  change ar _ _ _ _ (λr Y=>r=.tuple #[I x.iw,A x.SR.c]/\_)at K;by_cases f:(x.list.length:Int)<cD x.n+1
  .have o:x.iw=0:=by unfold bK.iw;rw[Fk f]
   rw[o]at K;refine Lx (λY=>?_) ?_;refine aa 38 ?_
   exact MI
   refine KI λY=>?_;refine aa 38 ?_
   exact MI
  .have m:=adU (x:=x.item) f;change x.iw=1\/x.iw=2\/x.iw=3 at m;have N:x.iw≠0:=by omega
   rcases m with m|m|m
   .rw[m]at K;rw[<-b m]at F;refine Lx (λY=>?_) ?_;refine aa 19 ?_;rintro _ _⟨P,rfl,rfl⟩;refine aa 11 ?_
    exact ZO
    refine KI λY=>?_;refine aa 19 ?_;rintro _ _⟨r,rfl,rfl⟩;refine aa 11 ?_
    exact ZO
   .rw[m]at K;rw[<-i m]at l;refine Lx (λY=>?_) ?_;refine aa 26 ?_;rintro _ _⟨v,rfl,rfl⟩;refine aa 11 ?_
    exact ZO
    refine KI λY=>?_;refine aa 26 ?_;rintro _ _⟨a,rfl,rfl⟩;refine aa 11 ?_
    exact ZO
   .rw[m]at K;rw[<-s m]at y;refine Lx (λY=>?_) ?_;refine aa 33 ?_;rintro _ _⟨p,rfl,rfl⟩;refine aa 11 ?_
    exact ZO
    refine KI λY=>?_;refine aa 33 ?_;rintro _ _⟨w,rfl,rfl⟩;refine aa 11 ?_
    exact ZO
 exact X6
def gf(x:bK)(m:aD):bK:={x with fx:=x.fx.set m.bm.toNat m,en:=x.en.set m.bm.toNat true,gt:=x.gt+1}
def Ar{x:bK}(w:x.wf)(m:aD)(q:x.gt<=40):(gf x m).wf:=
 ⟨by show(x.fx.set _ _).length=7;rw[b9,w.fx],by show(x.en.set _ _).length=7;rw[b9,w.en],by show 0<=x.gt+1/\x.gt+1<=50;have:=w.gt;omega⟩
structure xL(x:bK)(m:aD):Prop where
 it:m.Item=x.item
 to:m.b3=x.self
 f0:0<=m.bm
 fn:m.bm<x.n
 oF:m.Kind=7
 xM:m.ch=x.b2
 ls:x.lost=false
 l2:x.next=.pointer none
 hN:x.n<=7
def ae5(b:Nat)(x:bK)(w:x.wf)(m:aD)(K:xL x m)(y:x.en.getD m.bm.toNat true=true):ar prog 186 [au b 0,A m.c] [cells b 243 x.c] (λr Y=>r=B false/\Y=[cells b 243 x.c]):=by
 have Q:=bK.at w.fx w.en;rw[K.l2]at Q;have L:=K.ls;have r:=xF (post:=[x.next]) (n:=x.gt) b 243 w.v m.bm m JY;rw[y,aN XE,<-bK.Tg,yy,tC]at r;have a:=K.f0;have fn:=K.fn;have y:a8 .lss m.bm 0=some false:=XS
 have J:a8 .geq m.bm x.n=some false:=XS
 have p:a8 .eql m.Kind 5=some false:=Zu
 have T:a8 .eql m.Kind 8=some false:=Zu
 have c:a8 .eql m.Kind 7=some true:=Zu
 have a:=K.it;have i:=K.to;have U:=K.xM;refine aB func186 λW=>?_;apply ah.seq;refine aq 1 λa=>?_;refine aa 3 ?_;apply ah.seq;refine av ?_;apply ah.seq;refine ah.n' ?_ aA.d'.d';refine RF ?_;refine aa 3 ?_;apply ah.seq;refine aa 4 ?_;refine ai.v (V.y' ad (g:=Q)) ?_;refine aa 5 ?_;apply ah.seq;refine aa 3 ?_;refine ai.v (V.cmp rfl rfl p) ?_;refine aa 4 ?_;apply ah.seq;refine Jx ?_;refine aa 3 ?_;apply ah.seq;refine ah.n' ?_ aA.d'.d';refine ae 2 0 ?_;refine af.i' 2 rfl (V.cmp rfl rfl c) ?_;refine ae 7 3 ?_;refine af.i' 10 rfl (V.eq (bk.P' _ _ _)) ?_;refine ae 2 11 ?_;refine af.de 95 (λy=>?_) (λy=>?_);replace y:=fT y;refine ae 6 13 ?_;refine af.o' 19 rfl rfl (r) ?_;refine aa 2 ?_;refine ae 2 20 ?_;refine aa 6 ?_;apply ah.seq;exact aM 6;replace y:=fT y;contradiction
def abT(b:Nat)(x:bK)(w:x.wf)(m:aD)(K:xL x m)(v:3<=x.n)(q:x.gt<=40)(i:x.en.getD m.bm.toNat true=false)(y:(gf x m).iw=0):ar prog 186 [au b 0,A m.c] [cells b 243 x.c] (λr Y=>r=B false/\Y=[cells b 243 (gf x m).c]):=by
 have Q:=bK.at w.fx w.en;rw[K.l2]at Q;have L:=K.ls;have a:=K.f0;have fn:=K.fn;have l:=K.hN;have s:=xF (post:=[x.next]) (n:=x.gt) b 243 w.v m.bm m JY;rw[i,aT ⟨a,ac,rfl⟩,show(decide (0<=m.bm/\m.bm<7)&&!false)=true by simp;omega]at s;change ar _ _ _ _ (λr Y=>r=B true/\Y=[cells b 243 (gf x m).c])at s;rw[<-bK.Tg]at s;have R:ar prog 239 [au b 0] [cells b 243 (gf x m).c] (λr Y=>r=B false/\Y=[cells b 243 (gf x m).c]):=
  (Fl b (gf x m) (Ar w m q) (show 3<=x.n/\x.n<=1000 by omega)).mono λv Y h=>by
   rcases h with⟨_,F,M⟩|⟨h,_⟩
   .exact⟨F,M⟩
   .exact absurd y h
 have y:a8 .lss m.bm 0=some false:=XS
 have J:a8 .geq m.bm x.n=some false:=XS
 have p:a8 .eql m.Kind 5=some false:=Zu
 have T:a8 .eql m.Kind 8=some false:=Zu
 have c:a8 .eql m.Kind 7=some true:=Zu
 have a:=K.it;have i:=K.to;have U:=K.xM;refine aB func186 λW=>?_;apply ah.seq;refine aq 1 λa=>?_;refine aa 3 ?_;apply ah.seq;refine av ?_;apply ah.seq;refine ah.n' ?_ aA.d'.d';refine RF ?_;refine aa 3 ?_;apply ah.seq;refine aa 4 ?_;refine ai.v (V.y' ad (g:=Q)) ?_;refine aa 5 ?_;apply ah.seq;refine aa 3 ?_;refine ai.v (V.cmp rfl rfl p) ?_;refine aa 4 ?_;apply ah.seq;refine Jx ?_;refine aa 3 ?_;apply ah.seq;refine Ig ?_;refine af.de 95 (λb=>?_) (λb=>?_);replace b:=fT b;refine ae 6 13 ?_;refine af.l 19 rfl (aw.R' rfl (s) XC ?_);refine aa 2 ?_;refine ae 2 20 ?_;refine aa 3 ?_;apply ah.seq;exact aM 11;replace b:=fT b;contradiction
def MY(b:Nat)(x:bK)(w:x.wf)(m:aD)(K:xL x m)(a:3<=x.n)(D:x.gt<=40)(i:x.en.getD m.bm.toNat true=false)(y:(gf x m).iw≠0):ar prog 186 [au b 0,A m.c] [cells b 243 x.c] (λr Y=>∃q,r=B true/\Y=[cells b 243 ({gf x m with next:=au q 0}:bK).c,cells q 183 (gf x m).Sq.c]):=by
 have Q:=bK.at w.fx w.en;rw[K.l2]at Q;have L:=K.ls;have p:=K.f0;have fn:=K.fn;have l:=K.hN;have s:=xF (post:=[x.next]) (n:=x.gt) b 243 w.v m.bm m JY;rw[i,aT ⟨p,ac,rfl⟩,show(decide (0<=m.bm/\m.bm<7)&&!false)=true by simp;omega]at s;change ar _ _ _ _ (λr Y=>r=B true/\Y=[cells b 243 (gf x m).c])at s;rw[<-bK.Tg]at s;have R:ar prog 239 [au b 0] [cells b 243 (gf x m).c] (λr Y=>∃q,r=B true/\Y=[cells b 243 ({gf x m with next:=au q 0}:bK).c,cells q 183 (gf x m).Sq.c]):=
  (Fl b (gf x m) (Ar w m D) (show 3<=x.n/\x.n<=1000 by omega)).mono λv Y h=>by
   rcases h with⟨h,_⟩|⟨_,q,F,M⟩
   .exact absurd h y
   .exact⟨q,F,M⟩
 have y:a8 .lss m.bm 0=some false:=XS
 have J:a8 .geq m.bm x.n=some false:=XS
 have p:a8 .eql m.Kind 5=some false:=Zu
 have T:a8 .eql m.Kind 8=some false:=Zu
 have c:a8 .eql m.Kind 7=some true:=Zu
 have a:=K.it;have i:=K.to;have U:=K.xM;refine aB func186 λW=>?_;apply ah.seq;refine aq 1 λa=>?_;refine aa 3 ?_;apply ah.seq;refine av ?_;apply ah.seq;refine ah.n' ?_ aA.d'.d';refine RF ?_;refine aa 3 ?_;apply ah.seq;refine aa 4 ?_;refine ai.v (V.y' ad (g:=Q)) ?_;refine aa 5 ?_;apply ah.seq;refine aa 3 ?_;refine ai.v (V.cmp rfl rfl p) ?_;refine aa 4 ?_;apply ah.seq;refine Jx ?_;refine aa 3 ?_;apply ah.seq;refine Ig ?_;refine af.de 95 (λn=>?_) (λn=>?_);replace n:=fT n;refine ae 6 13 ?_;refine af.l 19 rfl (aw.R' rfl (s) XC ?_);refine aa 2 ?_;refine ae 2 20 ?_;refine aa 3 ?_;apply ah.seq;refine aa 3 ?_;rintro _ _⟨b,rfl,rfl⟩;exact aM 8;replace n:=fT n;contradiction
def bK.bad(x:bK)(m:aD):Prop:=x.lost=true\/m.Item≠x.item\/m.b3≠x.self\/m.bm<0\/x.n<=m.bm
instance(x:bK)(m:aD):Decidable (x.bad m):=by unfold bK.bad;infer_instance
structure bK.gQ(x:bK)(m:aD):Prop where
 ls:x.lost=false
 it:m.Item=x.item
 to:m.b3=x.self
 f0:0<=m.bm
 fn:m.bm<x.n
def bK.Tr{x:bK}{m:aD}(h:¬x.bad m):x.gQ m:=by unfold bK.bad at h;simp only[q4,Decidable.not_not,k7,Int.not_lt,Int.not_le]at h;exact⟨h.1,h.2.1,h.2.2.1,h.2.2.2.1,h.2.2.2.2⟩
def Fm(b:Nat)(x:bK)(m:aD)(f:x.bad m):ar prog 186 [au b 0,A m.c] [cells b 243 x.c] (λr Y=>r=B false/\Y=[cells b 243 x.c]):=by
 unfold bK.bad at f;cases L:x.lost
 .by_cases M:m.Item=x.item
  .by_cases z:m.b3=x.self
   .by_cases C:m.bm<0
    .refine Q6 λW a=>?_;exact Ip
    .have y:x.n<=m.bm:=by
      rcases f with h|h|h|h|h
      .rw[L]at h;cases h
      .exact absurd M h
      .exact absurd z h
      .exact absurd h C
      .exact h
     refine Q6 λW a=>?_;exact Ip
   .refine Q6 λW a=>?_;refine Mu ?_;refine ae 14 27 ?_;exact aM 12
  .refine Rc λW a=>?_;refine ae 6 0 ?_;refine af.i' 6 rfl (V.y' ad (v:=B false) (g:=XX)) ?_;refine ae 11 7 ?_;refine bs 23 ?_;refine ae 23 18 ?_;exact aM 12
 .refine Rc λW a=>?_;refine ae 6 0 ?_;refine af.i' 6 rfl (V.y' ad (v:=B true) (g:=XX)) ?_;refine ae 34 7 ?_;exact aM 12
def MZ(b q:Nat)(x:bK)(w:x.wf)(l:a2)(E:l.wf)(v:0<=l.n/\l.n<=1000)(U:x.next=au q 0)(m:aD)(K:x.gQ m):ar prog 186 [au b 0,A m.c] [cells b 243 x.c,cells q 183 l.c] (λr Y=>r=B (l.z' m).2/\Y=[cells b 243 x.c,cells q 183 (l.z' m).1.c]):=by
 have Q:=bK.at w.fx w.en;rw[U]at Q;have f:=Af q l E m v;obtain⟨L,a,i,v,fn⟩:=K;have y:a8 .lss m.bm 0=some false:=XS
 have J:a8 .geq m.bm x.n=some false:=XS
 refine Q6 λW a=>?_;refine ah.n' ?_ aA.j.d'.d';refine RF ?_;refine aa 8 ?_;refine ai.v (V.y' ad (g:=Q)) ?_;refine aa 6 ?_;refine ah.n' ?_ aA.j.d'.d';refine ae 3 0 ?_;refine af.i' 3 rfl (V.y' ad (g:=Q)) ?_;refine ae 1 4 ?_;refine af.o' 5 rfl rfl (f) ?_;refine aa 2 ?_;refine ae 1 6 ?_;exact aM 6
def aaa(b:Nat)(x:bK)(w:x.wf)(v:1<=x.n/\x.n<=1000)(U:x.next=.pointer none)(m:aD)(K:x.gQ m)(T:m.Kind=5):ar prog 186 [au b 0,A m.c] [cells b 243 x.c] (λr Y=>∃q,r=B true/\Y=[cells b 243 ({x with next:=au q 0}:bK).c,cells q 183 (gD x m.Call).c]):=by
 have Q:=bK.at w.fx w.en;rw[U]at Q;have Y:=Fj b x w m.Call v;obtain⟨L,a,i,v,fn⟩:=K;have y:a8 .lss m.bm 0=some false:=XS
 have J:a8 .geq m.bm x.n=some false:=XS
 have p:a8 .eql m.Kind 5=some true:=by simp[a8,T]
 refine Rc λW a=>?_;refine RF ?_;refine aa 8 ?_;refine ai.v (V.y' ad (g:=Q)) ?_;refine aa 9 ?_;refine ai.v (V.cmp rfl rfl p) ?_;refine aa 10 ?_;rintro _ _⟨n,rfl,rfl⟩;exact aM 12
def aeA(b:Nat)(x:bK)(w:x.wf)(U:x.next=.pointer none)(m:aD)(K:x.gQ m)(T:m.Kind=8)(R:g2 x.b2 m.ch=true):ar prog 186 [au b 0,A m.c] [cells b 243 x.c] (λr Y=>r=B true/\Y=[cells b 243 ({x with lost:=true}:bK).c]):=by
 have Q:=bK.at w.fx w.en;rw[U]at Q;have o:=r6 x.b2 m.ch;rw[R]at o;obtain⟨L,a,i,v,fn⟩:=K;have y:a8 .lss m.bm 0=some false:=XS
 have J:a8 .geq m.bm x.n=some false:=XS
 have p:a8 .eql m.Kind 5=some false:=by simp[a8,T]
 have E:a8 .eql m.Kind 8=some true:=by simp[a8,T]
 refine Rc λW a=>?_;refine RF ?_;refine aa 8 ?_;refine ai.v (V.y' ad (g:=Q)) ?_;refine aa 9 ?_;refine ai.v (V.cmp rfl rfl p) ?_;refine aa 5 ?_;refine ah.n' ?_ aA.d'.d';refine ae 2 0 ?_;refine af.i' 2 rfl (V.cmp rfl rfl E) ?_;refine ae 10 3 ?_;exact aM 20
def M2(b:Nat)(x:bK)(w:x.wf)(U:x.next=.pointer none)(m:aD)(K:x.gQ m)(N:m.Kind≠5)(v:¬(m.Kind=8/\g2 x.b2 m.ch=true))(s:¬(m.Kind=7/\m.ch=x.b2)):ar prog 186 [au b 0,A m.c] [cells b 243 x.c] (λr Y=>r=B false/\Y=[cells b 243 x.c]):=by
 have Q:=bK.at w.fx w.en;rw[U]at Q;have o:=r6 x.b2 m.ch;have b (k:Nat):=bk.P' m.ch x.b2 k;obtain⟨L,a,i,p,fn⟩:=K;have y:a8 .lss m.bm 0=some false:=XS
 have J:a8 .geq m.bm x.n=some false:=XS
 have p:a8 .eql m.Kind 5=some false:=by simp[a8,N]
 by_cases P:m.Kind=8
 .have T:a8 .eql m.Kind 8=some true:=by simp[a8,P]
  have c:a8 .eql m.Kind 7=some false:=by simp[a8,P]
  have R:g2 x.b2 m.ch=false:=by
   cases h:g2 x.b2 m.ch with
   |false=>rfl
   |true=>exact absurd ⟨P,h⟩ v
  rw[R]at o;refine Rc λW a=>?_;exact PS
 .have T:a8 .eql m.Kind 8=some false:=by simp[a8,P]
  by_cases Y:m.Kind=7
  .have c:a8 .eql m.Kind 7=some true:=by simp[a8,Y]
   have N:m.ch≠x.b2:=λh=>s ⟨Y,h⟩;rw[kc N]at b;refine Rc λW a=>?_;refine RF ?_;refine NM ?_;refine ae 7 3 ?_;refine af.i' 10 rfl (V.eq (b _)) ?_;refine ae 11 11 ?_;exact aM 13
  .have c:a8 .eql m.Kind 7=some false:=by simp[a8,Y]
   refine Rc λW a=>?_;exact PS
def aeB(m:aD):cX prog 186 [.pointer none,A m.c] (B false):=by refine aB func186 λW=>?_;refine aq 2 λa=>?_;refine aa 6 ?_;refine ah.n' ?_ aA.d';refine ae 41 0 ?_;exact aM 12
def Fo(b:Nat)(x:bK):ar prog 97 [au b 0] [cells b 243 x.c] (λr Y=>r=A x.b2.c/\Y=[cells b 243 x.c]):=by refine aB func97 λW=>?_;refine aq 2 λo=>?_;exact aM 23
structure bO where
 x:bK
 l2:aQ a2
structure bO.ok(r:bO):Prop where
 w:r.x.wf
 nil:r.x.next=.pointer none
 n:3<=r.x.n/\r.x.n<=7
 gR:r.x.gt=(r.x.en.count true:Int)
 cC:∀l,r.l2=some l->hp l r.x.n r.x.self r.x.item r.x.b2
def bO.cs(b q:Nat)(r:bO):ab ax:=match r.l2 with
 |none=>[cells b 243 r.x.c]
 |some l=>[cells b 243 ({r.x with next:=au q 0}:bK).c,cells q 183 l.c]
def bO.z'(r:bO)(m:aD):bO×Bool:=
 if r.x.bad m then(r,false)else
 match r.l2 with
 |some l=>({r with l2:=some (l.z' m).1},(l.z' m).2)
 |none=>
  if m.Kind=5 then({r with l2:=some (gD r.x m.Call)},true)
  else if m.Kind=8/\g2 r.x.b2 m.ch=true then({r with x:={r.x with lost:=true}},true)
  else if m.Kind=7/\m.ch=r.x.b2 then
   (if r.x.en.getD m.bm.toNat true=true then(r,false)
   else if(gf r.x m).iw=0 then({r with x:=gf r.x m},false)
   else(⟨gf r.x m,some (gf r.x m).Sq⟩,true))
  else(r,false)
def M4{h:ab Bool}(E:h.length=7):h.count true<=7:=by have:=EV (a:=true) (l:=h);omega
def bO.ok.g{r:bO}(h:r.ok):0<=r.x.gt/\r.x.gt<=7:=by have:=M4 h.w.en;rw[h.gR];omega
def tV(n U x b c p):hp (lB n U x b c p) n U x b:=⟨Ae _ _ _ _ _ _,rfl,rfl,rfl,rfl,by
 show(if p=1 then(1:Int)else 2)=1\/(if p=1 then(1:Int)else 2)=2\/_
 split
 .exact .inl rfl
 .exact .inr (.inl rfl)⟩
def Fp(x:bK)(c:aV):hp (gD x c) x.n x.self x.item x.b2:=by have k:=tV x.n x.self x.item x.b2 c 2;exact⟨⟨k.wf.pl,k.wf.c2,k.wf.ol,k.wf.hD,k.wf.dL,k.wf.fD⟩,rfl,rfl,rfl,rfl,.inr (.inr (.inl rfl))⟩
theorem Fq(x:bK):hp x.Sq x.n x.self x.item x.b2:=by
 unfold bK.Sq;split
 .exact Fp ..
 .exact tV ..
end Go.Proofs.YteogojgnkjegmaaGreatDoor
namespace Go.Proofs.YteogojgnkjegmaaGreatDoor
open Go.ay Go.Proofs.Tryz
variable[Go.ay.bR]
section
variable{P:bF}{f:eg}{args:ab aj}{U J:ab ax}{Z:Type}{Y:Z->ab aj}{E F:Nat}{l:ab Z}
def ar.nY(c:∀x,(Y x).length=F)(h:ar P f args U (λr N=>∃v,r=v/\N=rows Y v E F l::J)):ar P f args U (λr N=>∃m C,r=.slice m l.length C/\N=rows Y (.slice m l.length C) E F l::J):=by refine ar.RR h ?_;rintro r N W D w⟨v,rfl,rfl⟩ j;obtain⟨m,C,b,rfl,_⟩:=hM (f:=Y) c (aE _) w j;grind
end
def bO.ok.z'{r:bO}(h:r.ok)(m:aD):(r.z' m).1.ok:=by
 unfold bO.z';split
 .exact h
 .rename_i R;have K:=bK.Tr R;split
  .rename_i l q;refine⟨h.w,h.nil,h.n,h.gR,λo k=>?_⟩;have:o=(l.z' m).1:=(gW k).symm;rw[this];exact xJ (h.cC l q) m
  .rename_i q;split
   .refine⟨h.w,h.nil,h.n,h.gR,λo k=>?_⟩;have:o=gD r.x m.Call:=(gW k).symm;rw[this];exact Fp ..
   split
   .exact⟨⟨h.w.fx,h.w.en,h.w.gt⟩,h.nil,h.n,h.gR,λo k=>Jo⟩
   split
   .split
    .exact h
    .rename_i D;have D:r.x.en.getD m.bm.toNat true=false:=by simpa using D
     have v:=h.g;have L:=Ar h.w m ac;have u:(gf r.x m).gt=((gf r.x m).en.count true:Int):=by
      show r.x.gt+1=((r.x.en.set m.bm.toNat true).count true:Int)
      rw[Aa D,h.gR];rfl
     split
     .exact⟨L,h.nil,h.n,u,λo k=>Jo⟩
     .refine⟨L,h.nil,h.n,u,λo k=>?_⟩;have:o=(gf r.x m).Sq:=(gW k).symm;rw[this];exact Fq ..
   .exact h
def aft(b q:Nat)(r:bO)(h:r.ok)(m:aD):ar prog 186 [au b 0,A m.c] (r.cs b q) (λv N=>∃i,v=B (r.z' m).2/\N=(r.z' m).1.cs b i):=by
 have a:=h.n;obtain⟨x,T⟩:=r;have o:x.next=.pointer none:=h.nil;have M:({x with next:=.pointer none}:bK)=x:=by rw[<-o]
 cases T with
 |some l=>
  obtain⟨t,u,_⟩:=h.cC l rfl;by_cases R:x.bad m
  .have e:(bO.mk x (some l)).z' m=(bO.mk x (some l),false):=by grind [bO.z']
   rw[e];have k:=ar.frame (bc:=[cells q 183 l.c]) (Fm b {x with next:=au q 0} m R);refine ar.post k ?_;rintro v N⟨_,⟨rfl,rfl⟩,rfl⟩;exact⟨_,⟨q,rfl,rfl⟩,λ_ _ _ h=>h⟩
  .have e:(bO.mk x (some l)).z' m=(bO.mk x (some (l.z' m).1),(l.z' m).2):=by grind [bO.z']
   rw[e];obtain⟨G,C,z,W,X⟩:=bK.Tr R;refine ar.post (MZ b q {x with next:=au q 0} ⟨h.w.fx,h.w.en,h.w.gt⟩ l t XK rfl m ⟨G,C,z,W,X⟩) ?_;exact Ot
 |none=>
  dsimp only at a;by_cases R:x.bad m
  .have e:(bO.mk x none).z' m=(bO.mk x none,false):=by grind [bO.z']
   rw[e];refine ar.post (Fm b x m R) ?_;exact Ot
  have K:=bK.Tr R;by_cases X:m.Kind=5
  .have e:(bO.mk x none).z' m=(bO.mk x (some (gD x m.Call)),true):=by grind [bO.z']
   rw[e];refine ar.post (aaa b x h.w ac o m K X) ?_;rintro v N⟨i,rfl,rfl⟩;exact⟨_,⟨i,rfl,rfl⟩,λ_ _ _ h=>h⟩
  by_cases p:m.Kind=8/\g2 x.b2 m.ch=true
  .have e:(bO.mk x none).z' m=(bO.mk {x with lost:=true} none,true):=by grind [bO.z']
   rw[e];refine ar.post (aeA b x h.w o m K p.1 p.2) ?_;exact Ot
  by_cases Q:m.Kind=7/\m.ch=x.b2
  .have s:xL x m:=⟨K.it,K.to,K.f0,K.fn,Q.1,Q.2,K.ls,o,a.2⟩
   have L:=h.g;dsimp only at L;cases D:x.en.getD m.bm.toNat true
   .by_cases y:(gf x m).iw=0
    .have e:(bO.mk x none).z' m=(bO.mk (gf x m) none,false):=by grind [bO.z']
     rw[e];refine ar.post (abT b x h.w m s a.1 ac D y) ?_;exact Ot
    .have e:(bO.mk x none).z' m=(bO.mk (gf x m) (some (gf x m).Sq),true):=by grind [bO.z']
     rw[e];refine ar.post (MY b x h.w m s a.1 ac D y) ?_;rintro v N⟨i,rfl,rfl⟩;exact⟨_,⟨i,rfl,rfl⟩,λ_ _ _ h=>h⟩
   .have e:(bO.mk x none).z' m=(bO.mk x none,false):=by grind [bO.z']
    rw[e];refine ar.post (ae5 b x h.w m s D) ?_;exact Ot
  .have e:(bO.mk x none).z' m=(bO.mk x none,false):=by grind [bO.z']
   rw[e];refine ar.post (M2 b x h.w o m K X p Q) ?_;exact Ot
def bO.C'(r:bO):ab aD:=if r.x.lost=true then[]else match r.l2 with|some l=>l.C'|none=>(List.range r.x.n.toNat).map (oE r.x)
def bO.lost(r:bO):Bool:=r.x.lost||(match r.l2 with|some l=>decide (l.phase=4)|none=>false)
def Fr(b:Nat)(x:bK)(q:x.lost=true):ar prog 98 [au b 0] [cells b 243 x.c] (λr N=>r=.slice none 0 0/\N=[cells b 243 x.c]):=by refine aB func98 λW=>?_;refine aa 15 ?_;exact O4
def aaO(b q:Nat)(x:bK)(w:x.wf)(l:a2)(a:0<=l.n/\l.n<=1000)(G:x.next=au q 0)(D:x.lost=false):ar prog 98 [au b 0] [cells b 243 x.c,cells q 183 l.c] (λr N=>∃v,r=v/\N=[rows aD.c v 176 25 l.C',cells b 243 x.c,cells q 183 l.c]):=by have Q:=bK.at w.fx w.en;rw[G]at Q;have r:=xI q l a;refine aB func98 λW=>?_;refine aa 15 ?_;refine ai.v (V.y' ad (v:=B false) (g:=by rw[<-D];rfl)) ?_;refine aa 10 ?_;refine ai.v (V.y' ad (g:=Q)) ?_;refine aa 10 ?_;refine ai.v (V.y' ad (g:=Q)) ?_;refine av ?_;rintro _ _⟨i,rfl,rfl⟩;exact aM 8
def As(b q:Nat)(r:bO)(h:r.ok):ar prog 98 [au b 0] (r.cs b q) (λv N=>∃m C,v=.slice m r.C'.length C/\N=rows aD.c (.slice m r.C'.length C) 176 25 r.C'::r.cs b q):=by
 refine ar.nY aD.len ?_;have a:=h.n;obtain⟨x,R⟩:=r;have i:x.next=.pointer none:=h.nil;dsimp only at a;unfold bO.C';dsimp only;cases L:x.lost
 .rw[aN XG];cases R with
  |some l=>
   obtain⟨p,s,_⟩:=h.cC l rfl;exact aaO b q {x with next:=au q 0} ⟨h.w.fx,h.w.en,h.w.gt⟩ l XK rfl L
  |none=>exact MR b x x.n.toNat ac ac L i h.w.fx h.w.en
 .rw[aT rfl];cases R with
  |some l=>
   refine ar.RR (ar.frame (bc:=[cells q 183 l.c]) (Fr b {x with next:=au q 0} L)) ?_;rintro v N W D w⟨_,⟨rfl,rfl⟩,rfl⟩ j;exact⟨_,⟨_,rfl,rfl⟩,j.Td aD.c 176 25⟩
  |none=>
   refine ar.RR (Fr b x L) ?_;rintro v N W D w⟨rfl,rfl⟩ j;exact⟨_,⟨_,rfl,rfl⟩,j.Td aD.c 176 25⟩
def Fs(b:Nat)(x:bK)(q:x.lost=true):ar prog 187 [au b 0] [cells b 243 x.c] (λr N=>r=B true/\N=[cells b 243 x.c]):=by refine aB func187 λW=>?_;refine aa 13 ?_;exact O4
def M7(b q:Nat)(x:bK)(w:x.wf)(l:a2)(G:x.next=au q 0)(D:x.lost=false):ar prog 187 [au b 0] [cells b 243 x.c,cells q 183 l.c] (λr N=>r=B (decide (l.phase=4))/\N=[cells b 243 x.c,cells q 183 l.c]):=by have Q:=bK.at w.fx w.en;rw[G]at Q;have r:=Ad q l;refine aB func187 λW=>?_;refine aa 13 ?_;refine ai.v (V.y' ad (v:=B false) (g:=by rw[<-D];rfl)) ?_;refine aa 5 ?_;refine ai.v (V.y' ad (g:=Q)) ?_;exact aM 9
def aaN(b:Nat)(x:bK)(w:x.wf)(G:x.next=.pointer none)(q:x.lost=false):ar prog 187 [au b 0] [cells b 243 x.c] (λr N=>r=B false/\N=[cells b 243 x.c]):=by have Q:=bK.at w.fx w.en;rw[G]at Q;have r:=abU;refine aB func187 λW=>?_;refine aa 13 ?_;refine ai.v (V.y' ad (v:=B false) (g:=by rw[<-q];rfl)) ?_;refine aa 5 ?_;refine ai.v (V.y' ad (g:=Q)) ?_;exact aM 8
def acm(b q:Nat)(r:bO)(h:r.ok):ar prog 187 [au b 0] (r.cs b q) (λv N=>v=B r.lost/\N=r.cs b q):=by
 obtain⟨x,R⟩:=r;have i:x.next=.pointer none:=h.nil;unfold bO.lost;dsimp only;cases L:x.lost
 .rw[yz];cases R with
  |some l=>exact M7 b q {x with next:=au q 0} ⟨h.w.fx,h.w.en,h.w.gt⟩ l rfl L
  |none=>exact aaN b x h.w i L
 .rw[Bool.true_or];cases R with
  |some l=>
   refine ar.post (ar.frame (bc:=[cells q 183 l.c]) (Fs b {x with next:=au q 0} L)) ?_;rintro v N⟨_,⟨rfl,rfl⟩,rfl⟩;exact⟨_,⟨rfl,rfl⟩,λ_ _ _ h=>h⟩
  |none=>exact Fs b x L
def Au(b q:Nat)(r:bO):ar prog 97 [au b 0] (r.cs b q) (λv N=>v=A r.x.b2.c/\N=r.cs b q):=by
 obtain⟨x,R⟩:=r;cases R with
 |some l=>
  refine ar.post (ar.frame (bc:=[cells q 183 l.c]) (Fo b {x with next:=au q 0})) ?_;rintro v N⟨_,⟨rfl,rfl⟩,rfl⟩;exact⟨_,⟨rfl,rfl⟩,λ_ _ _ h=>h⟩
 |none=>exact Fo b x
def bO.new(n N:Int)(x:ag)(y:bk):bO:=⟨{bK.z with n:=n,self:=N,item:=x,b2:=y},none⟩
def bO.R8{n:Int}(v:3<=n/\n<=7)(N:Int)(x:ag)(y:bk):(bO.new n N x y).ok:=
 ⟨⟨rfl,rfl,by show(0:Int)<=0/\(0:Int)<=50;decide⟩,rfl,v,rfl,λl q=>by cases q⟩
def aeu(n G:Int)(x:ag)(y:bk):ar prog 99 [I n,I G,A x.c,A y.c] [] (λr N=>∃b,r=au b 0/\N=(bO.new n G x y).cs b 0):=ab4 n G x y
end Go.Proofs.YteogojgnkjegmaaGreatDoor
namespace Go.Proofs.YteogojgnkjegmaaGreatDoor
open Go.ay Go.Proofs.Tryz
variable[Go.ay.bR]
variable{k:ab (ab aP)}{D:ab Nat}{n:Nat}{N:ab ax}{W:aY}
def qj(e:ax)(v:aj)(l:ab (ab aP)):Prop:=∃c C b off,v=.slice c l.length C/\Rd e c l.length b off 1 (l.map eP)
structure vW where
 err:Int
 val:ab aP
 ge:Int
 keys:ab (ab aP)
 l:fk
def fJ(l:fk)(d:bP):vW:=if d.Kind=5 then⟨0,[],0,su d.Key l,l⟩else⟨(oD l d).1.yY,(oD l d).1.Value,(oD l d).1.Version,[],(oD l d).2⟩
def aaT(l:fk)(d:bP):(oD l d).1.Keys=.slice none 0 0:=by
 unfold oD kf;repeat' split
 all_goals rfl
def i1.any{l:fk}(h:i1 n l)(d:bP):i1 (n+1) (fJ l d).l:=by
 unfold fJ;split
 .exact h.up
 .exact h.Uj d
def qj.one{v:aj}(K:rows eP v 9 1 k∈N):∀w,H W D N w->qj (rows eP v 9 1 k) v k:=λw m=>by obtain⟨c,C,b,rfl,T⟩:=hM (f:=eP) (X:=1) (E:=9) (λ_=>rfl) K w m;exact⟨c,C,b,0,rfl,T⟩
structure io where
 num:Int
 err:Int
 val:ab aP
 ge:Int
 keys:ab (ab aP)
 h1:aj
def io.z:io:=⟨0,0,[],0,[],.slice none 0 0⟩
def io.kf(x:io):g0:=⟨x.err,x.val,x.ge,x.h1⟩
def io.c(x:io):ab aj:=lj.c ⟨x.num,x.kf⟩
abbrev nl:=ab (Int×io)
abbrev Av:Int->aj:=λk=>I k
abbrev qk:io->aj:=λp=>A p.c
abbrev sv(m:Nat)(l:nl):ax:=bn Av qk m l
def sw:g1 prog 210 3 281=true:=rfl
def tW(w:aY):(Go.zeroValue 281).run prog w=.ok (A io.z.c) w:=rfl
def sx:gO prog 3 Av:=gO.int rfl
def hj(l:nl)(k:Int):io:=(br l k).getD io.z
def aez(b m:Nat)(l:fk)(d:bP)(T:d.Kind=5)(E:l.length<=100000):ar prog 162 [au b 0,A d.c] (l0 b m l) (λr Y=>∃v,(su d.Key l=[]->v=.slice none 0 0)/\r=A (g0.c ⟨0,[],0,v⟩)/\Y=l0 b m l++[rows eP v 9 1 (su d.Key l)]):=by
 have i:=MG (au b 0) rfl d.Key;unfold l0;refine bh ?_;refine aB func162 λW=>?_;refine ah.RK eP 9 1 ?_;refine PO λw F=>?_;refine ah.n' ?_ aA.j.d'.j.d'.j;refine ae 6 0 ?_;refine af.bu 6 10 rfl rfl ?_ ?_;refine aw.q' (aK.R4 (l:=l) (k:=d.Key) (aR:=hi) el.z gl h7 jf rfl rfl XB) ?_;refine av ?_;refine ae 3 7 ?_;refine c1 10 λR=>?_;refine ae 2 11 ?_;refine aq 40 λJ=>?_;refine aa 9 ?_;rintro _ _⟨Yh,Yi,rfl,rfl⟩;refine aa 4 ?_;rotate_left;refine Rm λR=>?_;refine aq 40 λJ=>?_;refine aa 9 ?_;rintro _ _⟨Yf,Yg,rfl,rfl⟩;refine aa 4 ?_;rotate_left
 .refine ah.rg (Fe Yh Yi b m d.Key l E) (λy:aj×ab (ab aP)=>[cells J 61 [y.1],rows eP y.1 9 1 y.2]) (λpre y=>y.2=pre.map (·.Key)/\(y.1=.slice none 0 0\/∃g C,y.1=.slice (some ⟨g,0,none⟩) y.2.length C)/\(y.2=[]->y.1=.slice none 0 0)) (λ_ _ _=>False) (.slice none 0 0,[]) ⟨rfl,.inl rfl,λ_=>rfl⟩ ?_ ?_ ?_
  .rintro pre x j⟨v,Z⟩ u rec U⟨X,_,_⟩ t s G K p;dsimp only at X;have n:=Ap d.Key l;rw[U]at n;simp only[bM,dp]at n;have Q:Z.length=pre.length:=by rw[X,ev]
   exact Nv
  .rintro⟨v,Z⟩ P⟨X,L,q⟩;dsimp only at X L q;have e:Z=su d.Key l:=X;subst e;refine bh ?_;rcases L with rfl|⟨g,M,rfl⟩
   .refine aa 13 ?_
    exact H2
   .refine aa 13 ?_
    exact H2
  .intro _ _ _ _ _ _ _ h;exact h.elim
 .refine ah.rg (Fe Yf Yg b m d.Key l E) (λy:aj×ab (ab aP)=>[cells J 61 [y.1],rows eP y.1 9 1 y.2]) (λpre y=>y.2=pre.map (·.Key)/\(y.1=.slice none 0 0\/∃g C,y.1=.slice (some ⟨g,0,none⟩) y.2.length C)/\(y.2=[]->y.1=.slice none 0 0)) (λ_ _ _=>False) (.slice none 0 0,[]) ⟨rfl,.inl rfl,λ_=>rfl⟩ ?_ ?_ ?_
  .rintro pre x j⟨v,Z⟩ u rec U⟨X,_,_⟩ t s G K p;dsimp only at X;have n:=Ap d.Key l;rw[U]at n;simp only[bM,dp]at n;have Q:Z.length=pre.length:=by rw[X,ev]
   exact Nv
  .rintro⟨v,Z⟩ P⟨X,L,q⟩;dsimp only at X L q;have e:Z=su d.Key l:=X;subst e;refine bh ?_;rcases L with rfl|⟨g,M,rfl⟩
   .refine aa 13 ?_
    exact H2
   .refine aa 13 ?_
    exact H2
  .intro _ _ _ _ _ _ _ h;exact h.elim
def acL(b m n:Nat)(l:fk)(d:bP)(ao:i1 n l)(a:n<=10000):ar prog 162 [au b 0,A d.c] [cells b 263 (kL.c ⟨.map (some m)⟩),hO m l] (λr Y=>∃y K C,((fJ l d).keys=[]->Go.Value.slice y K C=.slice none 0 0)/\r=A (g0.c ⟨(fJ l d).err,(fJ l d).val,(fJ l d).ge,.slice y K C⟩)/\Y=[rows eP (.slice y K C) 9 1 (fJ l d).keys,cells b 263 (kL.c ⟨.map (some m)⟩),hO m (fJ l d).l]):=by
 have q:=ao.len;have t:=ao.ge d.Key;unfold fJ;by_cases T:d.Kind=5
 .simp only[aT T];refine ar.RR (aez b m l d T ac) ?_;rintro v Y W D w⟨x,s,rfl,rfl⟩ j;have p:=j.perm (mZ (l₁:=l0 b m l) (l₂:=[_]));obtain⟨y,C,_,rfl,_⟩:=hM (f:=eP) (X:=1) (E:=9) (λ_=>rfl) (aE _) w p;exact⟨_,⟨y,_,C,s,rfl,rfl⟩,p⟩
 .simp only[aN T];refine ar.RR (ad6 b m l d T ac) ?_;rintro v Y W D w⟨rfl,rfl⟩ j;refine⟨_,⟨none,0,0,λ_=>rfl,?_,rfl⟩,j.Td eP 9 1⟩;rw[<-aaT l d]
def Ft(e:ax)(v:aj)(w:ab (ab aP))(E:qj e v w)(f:w=[]->v=.slice none 0 0)(R:w.length<=100000):ar prog 163 [v] [e] (λr Y=>∃c K C,(w=[]->Go.Value.slice c K C=.slice none 0 0)/\r=.slice c K C/\Y=[rows eP (.slice c K C) 9 1 w,e]):=by
 by_cases T:w=[]
 .subst T;rw[f rfl];refine aB func163 λW=>?_;refine ah.RK eP 9 1 ?_;refine aa 9 ?_;refine ai.v (V.T1 ad) ?_;refine aa 11 ?_
  .exact⟨_,_,⟨none,0,0,λ_=>rfl,rfl,rfl⟩,XC⟩
 .obtain⟨c,C,b,off,rfl,h⟩:=E;have m:0<w.length:=od.2 T;obtain rfl:=h.addr m;refine aB func163 λW=>?_;refine ID ?_;refine ai.o (O.N' ad eP [] rfl bx.nil rfl rfl (λC=>?_));refine av ?_;refine ai.o (O.O' ad rfl rfl XJ (ce.rd ad h XB (λ_=>rfl) (λ_=>rfl) m) (λK y=>?_));refine aa 5 ?_
  .exact⟨_,_,⟨_,_,_,λh=>absurd h T,rfl,rfl⟩,XC⟩
structure k0 where
 err:Int
 val:ab aP
 ge:Int
 keys:ab (ab aP)
def k0.z:k0:=⟨0,[],0,[]⟩
def vW.ky(x:vW):k0:=⟨x.err,x.val,x.ge,x.keys⟩
def k0.c(x:k0)(v:aj):ab aj:=g0.c ⟨x.err,x.val,x.ge,v⟩
abbrev tX:=ab (Int×(Int×k0))
structure gn where
 l:fk
 l3:tX
 gR:Int
def gn.z:gn:=⟨[],[],0⟩
def gn.get(s:gn)(k:Int):Int×k0:=(br s.l3 k).getD (0,k0.z)
def hw(s:gn)(d:bP):k0×gn:=
 if mm d=false then(⟨1,[],0,[]⟩,s)
 else if d.cy=0 then((fJ s.l d).ky,⟨(fJ s.l d).l,s.l3,s.gR+1⟩)
 else if d.Number<(s.get d.cy).1 then(⟨9,[],0,[]⟩,s)
 else if(s.get d.cy).1<d.Number then((fJ s.l d).ky,⟨(fJ s.l d).l,bw s.l3 d.cy (d.Number,(fJ s.l d).ky),s.gR+1⟩)
 else((s.get d.cy).2,s)
def io.f(x:io):Int×k0:=(x.num,⟨x.err,x.val,x.ge,x.keys⟩)
def sy(f:nl):tX:=f.map λp=>(p.1,p.2.f)
def Fu(j:nl)(k:Int):br (sy j) k=(br j k).map io.f:=by
 induction j with
 |nil=>rfl
 |cons p j u=>
  grind [br,sy,jp]
def Nf(j:nl)(k:Int)(x:io):sy (bw j k x)=bw (sy j) k x.f:=by
 induction j with
 |nil=>rw[oe];show _=bw [] k x.f;rw[oe];rfl
 |cons p j u=>
  grind [bw,sy,ka]
def abY(j:nl)(k:Int):(hj j k).f=(br (sy j) k).getD (0,k0.z):=by rw[Fu];unfold hj;cases br j k<;>rfl
abbrev oG:=ab (aj×ab (ab aP))
def vX(g:oG):ab ax:=g.map λp=>rows eP p.1 9 1 p.2
def mw(g:oG):ax:=aI (vX g)
def qj.Xi{g:oG}{v:aj}(K:(v,k)∈g)(q:mw g∈N):∀w,H W D N w->qj (mw g) v k:=λw m=>by
 have y:=m.mem q;unfold mw at y⊢;rw[pT]at y;have o:rows eP v 9 1 k∈vX g:=fh.2 ⟨(v,k),K,rfl⟩;have J:=y.1 _ o;have F:(v=.slice none 0 0/\k=[])\/∃g C,v=.slice (some ⟨g,0,none⟩) k.length C/\k.length<=C/\C<=Go.maxLen:=
  hc (f:=eP) (E:=9) (aG:=1) (W:=w) (D:=bg [rows eP v 9 1 k]) (aE []) w ⟨λe d=>by
   obtain rfl:e=_:=Z5
   exact J,Rb,λb R=>.inl R,λ_ _ _=>rfl,cl _,rfl,rfl,rfl,cl _⟩
 rcases F with⟨rfl,rfl⟩|⟨Z,C,rfl,_,M⟩
 exact KU
 .have T:=Rd.rows (f:=eP) (g:=Z) (E:=9) (aG:=1) (cap:=C) (l:=k) (λ_=>rfl) PL;exact Ox
def H.lay{w:aY}{g:oG}{v:aj}(h:H W D (rows eP v 9 1 k::mw g::N) w):H W D (mw ((v,k)::g)::N) w:=by
 have F:H W D (mw g::(rows eP v 9 1 k::N)) w:=h.perm (gZ _ _ _);unfold mw at*;have M:=F.R7;have z:H W D ((rows eP v 9 1 k::vX g)++N) w:=M.perm (by
  show(vX g++rows eP v 9 1 k::N).Perm ((rows eP v 9 1 k::vX g)++N)
  exact mO)
 exact z.toBag
def pw(b f z N:Nat)(l:fk)(j:nl)(g:oG)(P:Int):ab ax:=
 [cells b 212 (li.c ⟨au f 0,.map (some N),P⟩),cells f 263 (kL.c ⟨.map (some z)⟩),hO z l,sv N j,mw g]
structure mx(l3:tX)(nY:nl)(g:oG):Prop where
 fA:sy nY=l3
 mem:∀k x,br nY k=some x->(x.h1,x.keys)∈g/\(x.keys=[]->x.h1=.slice none 0 0)
def mx.zero:mx [] [] []:=⟨rfl,λk x h=>by grind [mi]⟩
def mx.put{r:tX}{P:nl}{g:oG}(h:mx r P g)(k:Int)(x:io)(j:x.keys=[]->x.h1=.slice none 0 0):mx (bw r k x.f) (bw P k x) ((x.h1,x.keys)::g):=
 ⟨by rw[Nf,h.fA],λE g U=>by
  rw[kM]at U;by_cases e:E=k
  .rw[aT e]at U;grind
  .rw[aN e]at U;have:=h.mem E g U;exact⟨hn _ this.1,this.2⟩⟩
def mx.look{P:tX}{j:nl}{g:oG}(h:mx P j g)(l:fk)(r:Int)(k:Int):(hj j k).f=gn.get ⟨l,P,r⟩ k:=by rw[abY,h.fA];rfl
structure oH(n:Nat)(s:gn):Prop where
 tY:i1 n s.l
 kV:(s.l3.map (·.1)).Nodup
 len:s.l3.length<=n
 gR:0<=s.gR/\s.gR<=n
 xN:∀k x,br s.l3 k=some x->1<=k/\k<=1099511627776/\1<=x.1/\x.1<=1099511627776/\x.2.keys.length<=n
def oH.zero:oH 0 gn.z:=⟨i1.zero,oh,cl _,⟨ju _,ju _⟩,λk x h=>by rw[show gn.z.l3=[]from rfl,mi]at h;cases h⟩
def oH.up{s:gn}(h:oH n s):oH (n+1) s:=⟨h.tY.up,h.kV,ZZ,by have:=h.gR;omega,λk x U=>by have:=h.xN k x U;omega⟩
def Fv{l:fk}(h:i1 n l)(d:bP):(fJ l d).keys.length<=n:=by
 unfold fJ;split
 .show(su d.Key l).length<=n;unfold su;rw[ev];have:=Ap d.Key l;have:=h.len;omega
 .exact cw _
def abg{D o:Type}[DecidableEq D]{l:ab (D×o)}{k:D}{p:o}:(bw l k p).length<=l.length+1:=by
 induction l with
 |nil=>rw[oe];exact cl _
 |cons q l u=>
  rw[ka];grind
def Ni{d:bP}(h:mm d=true):0<=d.cy/\d.cy<=1099511627776/\0<=d.Number/\d.Number<=1099511627776/\(d.cy=0↔d.Number=0):=by have:=(yF h).1;grind
def oH.Uj{s:gn}(h:oH n s)(d:bP):oH (n+1) (hw s d).2:=by
 unfold hw;split
 .exact h.up
 .rename_i q;have t:mm d=true:=by simpa using q
  have v:=Ni t;split
  .exact⟨h.tY.any d,h.kV,by have:=h.len;show s.l3.length<=_;omega,LD,λk x U=>by have:=h.xN k x U;omega⟩
  .rename_i Q;split
   .exact h.up
   .split
    .rename_i m;refine⟨h.tY.any d,p1 h.kV,jk abg ZZ,LD,λk x U=>?_⟩;have Y:br (bw s.l3 d.cy (d.Number,(fJ s.l d).ky)) k=some x:=U;rw[kM]at Y;by_cases e:k=d.cy
     .rw[aT e]at Y;cases Y;have:=Fv h.tY d;refine⟨ac,ac,by show 1<=d.Number;omega,by show d.Number<=_;omega,by show(fJ s.l d).keys.length<=_;omega⟩
     .rw[aN e]at Y;have:=h.xN k x Y;omega
    .exact h.up
end Go.Proofs.YteogojgnkjegmaaGreatDoor
namespace Go.ay
open Go
variable[Go.ay.bR]
section
variable{P:bF}{n:c7}{G:bv}{F:ab ax}{N:Nat}{X:aZ}{Z:String}{K:Array Edge}{C:aQ (Nat×Bool)}{U J:Type}[DecidableEq U]{M:U->aj}{Y:J->aj}{R:aZ}{l:ab (U×J)}
end
end Go.ay
namespace Go.Proofs.YteogojgnkjegmaaGreatDoor
open Go.ay Go.Proofs.Tryz
variable[Go.ay.bR]
def Nj:ar prog 76 [] [] (λr Q=>∃b f g u,r=au b 0/\Q=[cells b 212 (li.c ⟨au f 0,.map (some u),0⟩),cells f 263 (kL.c ⟨.map (some g)⟩),hO g [],sv u []]):=by
 have a:=adr;unfold l0 at a;refine aB func76 λW=>?_;refine aa 8 ?_;rintro _ _⟨W,o,rfl,rfl⟩;refine av ?_;refine ai.o (aw.mkMap Av qk rfl (λt=>?_));refine aq 1 λh=>?_;refine aa 5 ?_
 .exact⟨_,_,⟨_,_,_,_,rfl,rfl⟩,XC⟩
def mx.form{r:tX}{f:nl}{g:oG}(y:mx r f g)(k:Int){W:aY}{D:ab Nat}{F:ab ax}(q:mw g∈F):∀w,H W D F w->∃c Q T,(hj f k).h1=.slice c Q T/\qj (mw g) (hj f k).h1 (hj f k).keys/\((hj f k).keys=[]->(hj f k).h1=.slice none 0 0):=λw m=>by
 unfold hj;cases u:br f k with
 |none=>exact⟨none,0,0,rfl,⟨none,0,0,0,rfl,Rd.nil⟩,λ_=>rfl⟩
 |some x=>
  have Q:=y.mem k x u;have u:=qj.Xi Q.1 q w m;have g:=u;obtain⟨c,T,b,off,e,_⟩:=g;exact⟨c,_,T,e,u,Q.2⟩
def afe(b dG px sm:Nat)(n:Nat)(s:gn)(j:nl)(g:oG)(d:bP)(ao:oH n s)(lr:mx s.l3 j g)(c6:n<=10000):ar prog 114 [au b 0,A d.c] (pw b dG px sm s.l j g s.gR) (λr Yc=>∃cG T u Ym tf,mx (hw s d).2.l3 Ym tf/\r=A ((hw s d).1.c (.slice cG T u))/\Yc=rows eP (.slice cG T u) 9 1 (hw s d).1.keys::pw b dG px sm (hw s d).2.l Ym tf (hw s d).2.gR):=by
 have dT:=xg d;have dO:=acL dG px n s.l d ao.tY c6;have Yw:=ao.gR;have Ys:=lr.look s.l s.gR d.cy;unfold hw;cases bU:mm d with
 |false=>
  rw[aT rfl];rw[bU]at dT;unfold pw k0.c;refine aB func114 λW=>?_;refine ah.RK eP 9 1 ?_;refine aq 2 λfI=>?_;refine aq 0 λfp=>?_;refine aa 31 ?_
  exact KF
 |true=>
  rw[aN XG];rw[bU]at dT;by_cases cf:d.cy=0
  .rw[aT cf];generalize fJ s.l d=y at*;unfold hO at dO;unfold pw k0.c vW.ky hO;refine aB func114 λW=>?_;refine aq 2 λfI=>?_;refine aq 0 λfp=>?_;refine aa 43 ?_;refine ah.n' ?_ aA.j.j.j.j.d'.d'.j;refine ae 5 0 ?_;refine af.o' 5 rfl rfl (dO) ?_;refine Rr λYz Yx Yy Yf=>?_;refine ae 1 6 ?_;refine aa 6 ?_
   exact Le
  .rw[aN cf];obtain⟨⟨a,i,h,E,p,Yn⟩,Q⟩:∃x,(br j d.cy).getD io.z=x:=⟨_,rfl⟩
   have Yl:hj j d.cy=⟨a,i,h,E,p,Yn⟩:=Q;have q {W:aY} {D:ab Nat} {F:ab ax} (bU:mw g∈F):∀w,H W D F w->∃cG T u,Yn=.slice cG T u/\qj (mw g) Yn p/\(p=[]->Yn=.slice none 0 0):=λw cB=>by have:=lr.form d.cy bU w cB;rw[Yl]at this;exact this
   rw[Yl]at Ys;rw[show s.get d.cy=(a,(⟨i,h,E,p⟩:k0))from Ys.symm];by_cases cm:d.Number<a
   .simp only[aT cm];unfold pw k0.c;refine aB func114 λW=>?_;refine ah.fact (q X2) λYo=>?_;obtain⟨Yk,L,t,rfl,Yr,Yh⟩:=Yo;refine ah.RK eP 9 1 ?_;refine aq 2 λfI=>?_;refine aq 0 λfp=>?_;refine aa 34 ?_;refine ah.n' ?_ aA.j.j.j.j.d'.j.d'.j;refine ae 6 0 ?_;refine af.bu 6 7 rfl rfl ?_ ?_;refine aw.q' (aK.R6 (l:=j) (k:=d.cy) (aR:=qk) io.z Q sx sw tW rfl rfl XB) ?_;refine av ?_;refine c1 7 λlV=>?_;refine ae 1 8 ?_;refine aa 25 ?_
    exact KF
    refine O.K' ad (λlV=>?_);refine av ?_;refine af.p' 6 rfl (aw.q' (aK.R6 (l:=j) (k:=d.cy) (aR:=qk) io.z Q sx sw tW rfl rfl XB) ?_);refine av ?_;refine ae 1 8 ?_;refine aa 25 ?_
    exact KF
   .simp only[aN cm];by_cases dd:a<d.Number
    .simp only[aT dd];have Yi:=Fv ao.tY d;refine ar.RR (R:=λr Yc=>∃cG T u v,((fJ s.l d).keys=[]->v=.slice none 0 0)/\r=A ((fJ s.l d).ky.c (.slice cG T u))/\Yc=[rows eP v 9 1 (fJ s.l d).keys,mw g,rows eP (.slice cG T u) 9 1 (fJ s.l d).keys,cells b 212 (li.c ⟨au dG 0,.map (some sm),s.gR+1⟩),cells dG 263 (kL.c ⟨.map (some px)⟩),hO px (fJ s.l d).l,sv sm (bw j d.cy ⟨d.Number,(fJ s.l d).err,(fJ s.l d).val,(fJ s.l d).ge,(fJ s.l d).keys,v⟩)]) ?_ ?_
     .generalize fJ s.l d=y at*;unfold hO at dO;unfold pw k0.c vW.ky hO sv;dsimp only;refine aB func114 λW=>?_;refine ah.fact (q X2) λYo=>?_;obtain⟨Yk,L,t,rfl,Yr,Yh⟩:=Yo;refine Hv (λfI fp=>?_) λfI fp=>?_
      exact O7
      .rintro Nl _;refine bh ?_;refine aa 37 ?_;refine ah.n' ?_ aA.j.j.j.j.d'.d'.j.j;refine ae 7 0 ?_;refine af.o' 7 rfl rfl (dO) ?_;refine Rr λYq m o Yg=>?_;refine af.i' 8 rfl (V.Sj ad (v:=lj.c ⟨d.Number,⟨y.err,y.val,y.ge,_⟩⟩)) ?_;refine ae 1 9 ?_;refine aa 2 ?_;refine ah.n' ?_ aA.j.j.d'.d'.j.d'.j.j.j;refine ae 7 0 ?_;refine af.p' 7 rfl (aw.R1 (l:=j) (k:=d.cy) (v:=(⟨d.Number,y.err,y.val,y.ge,y.keys,.slice Yq m o⟩:io)) (aR:=qk) sx sw rfl rfl rfl XQ ?_);refine aq 8 λnm=>?_;refine aa 3 ?_;rotate_left;refine ah.fact (qj.one (v:=.slice Yq m o) (k:=y.keys) X2) λYj=>?_;have Yp:=Ft _ _ y.keys Yj XF ac;refine aa 5 ?_;rintro _ _⟨Yv,Yt,Yu,Q,rfl,rfl⟩;refine aa 13 ?_
       .exact⟨_,_,⟨_,_,_,.slice Yq m o,XF,rfl,rfl⟩,XC⟩
     .rintro v Yc W D w⟨cG,T,u,h1,ep,rfl,rfl⟩ cM;have fE:=H.lay cM;refine⟨_,⟨cG,T,u,bw j d.cy ⟨d.Number,(fJ s.l d).err,(fJ s.l d).val,(fJ s.l d).ge,(fJ s.l d).keys,h1⟩,(h1,(fJ s.l d).keys)::g,lr.put d.cy (⟨d.Number,(fJ s.l d).err,(fJ s.l d).val,(fJ s.l d).ge,(fJ s.l d).keys,h1⟩:io) ep,rfl,rfl⟩,fE.perm ?_⟩;unfold pw;exact(mZ (l₁:=[_]) (l₂:=[_,_,_,_,_]))
    .simp only[aN dd];have Yi:p.length<=n:=by
      have cp:=Fu j d.cy;rw[lr.fA]at cp;cases fF:br j d.cy with
      |none=>rw[fF]at Q;cases Q;exact cw _
      |some x=>
       rw[fF]at Q cp;have fZ:=ao.xN d.cy x.f cp;have lb:x=⟨a,i,h,E,p,Yn⟩:=Q;rw[lb]at fZ;exact fZ.2.2.2.2
     unfold pw k0.c hO sv;dsimp only;refine aB func114 λW=>?_;refine ah.fact (q X2) λYo=>?_;obtain⟨Yk,L,t,rfl,Yr,Yh⟩:=Yo;have Yp:=Ft _ _ p Yr Yh ac;refine Hv (λfI fp=>?_) λfI fp=>?_
     exact O7
     .rintro Nl _;refine bh ?_;refine aq 31 λnm=>?_;refine aa 8 ?_;rintro _ _⟨Yv,Yt,Yu,Yg,rfl,rfl⟩;refine aa 13 ?_
      exact Le
structure l4 where
 b:Nat
 dG:Nat
 px:Nat
 sm:Nat
 s:gn
 nY:nl
 g:oG
def k1(M:l4):ax:=aI (pw M.b M.dG M.px M.sm M.s.l M.nY M.g M.s.gR)
structure jg(n:Nat)(M:l4):Prop where
 ci:oH n M.s
 ao:mx M.s.l3 M.nY M.g
def acj:ar prog 76 [] [] (λr Y=>∃M,(jg 0 M/\M.s=gn.z)/\r=au M.b 0/\Y=[k1 M]):=by
 refine ar.RR Nj ?_;rintro v Y W D w⟨b,j,g,N,rfl,rfl⟩ f;refine⟨_,⟨⟨b,j,g,N,gn.z,[],[]⟩,⟨⟨oH.zero,mx.zero⟩,rfl⟩,rfl,rfl⟩,?_⟩;have M:H W D ([cells b 212 (li.c ⟨au j 0,.map (some N),0⟩),cells j 263 (kL.c ⟨.map (some g)⟩),hO g [],sv N [],mw []]) w:=
  f.eqv ((aL.refl [cells b 212 (li.c ⟨au j 0,.map (some N),0⟩),cells j 263 (kL.c ⟨.map (some g)⟩),hO g [],sv N []]).append (aL.aI (bc:=[])).symm)
 exact M.eqv aL.aI.symm
def No(n:Nat)(M:l4)(h:jg n M)(a:n<=10000)(d:bP):ar prog 114 [au M.b 0,A d.c] [k1 M] (λr Y=>∃X m K C,(jg (n+1) X/\X.b=M.b/\X.s=(hw M.s d).2)/\r=A (g0.c ⟨(hw M.s d).1.err,(hw M.s d).1.val,(hw M.s d).1.ge,.slice m K C⟩)/\Y=[k1 X]):=by refine ar.RR (ar.eqv aL.aI (afe M.b M.dG M.px M.sm n M.s M.nY M.g d h.ci h.ao a) (R:=λr Y=>∃m K C p L,mx (hw M.s d).2.l3 p L/\r=A ((hw M.s d).1.c (.slice m K C))/\Y=rows eP (.slice m K C) 9 1 (hw M.s d).1.keys::pw M.b M.dG M.px M.sm (hw M.s d).2.l p L (hw M.s d).2.gR) λr Y o=>⟨Y,o,aL.refl _⟩) ?_;rintro v Y W D w⟨m,K,C,p,L,F,rfl,rfl⟩ f;refine⟨_,⟨⟨M.b,M.dG,M.px,M.sm,(hw M.s d).2,p,L⟩,m,K,C,⟨⟨h.ci.Uj d,F⟩,rfl,rfl⟩,rfl,rfl⟩,?_⟩;have M:=f.sub (Ib _ _);exact M.eqv aL.aI.symm
section
variable{Y F:Type}{f:F->Y->F}
def Fw(u:∀o x y,f (f o x) y=f (f o y) x)(x:Y):∀(Z:ab Y) (o:F),f (Z.foldl f o) x=Z.foldl f (f o x)
 |[],_=>rfl
 |a::l,o=>by rw[n6,Fw u x l,n6,u]
def Fx(u:∀o x y,f (f o x) y=f (f o y) x)(ao:∀o x,f (f o x) x=f o x){x:Y}:∀(Z:ab Y) (o:F),x∈Z->f (Z.foldl f o) x=Z.foldl f o
 |a::l,o,h=>by
  rw[n6];rcases dq.1 h with rfl|h
  .rw[Fw u,ao]
  .exact Fx u ao l _ h
def Aw(u:∀o x y,f (f o x) y=f (f o y) x)(ao:∀o x,f (f o x) x=f o x)(Z:ab Y)(o:F):∀J:ab Y,(∀y,y∈J->y∈Z\/∀o,f o y=o)->J.foldl f (Z.foldl f o)=Z.foldl f o
 |[],_=>rfl
 |y::J,h=>by
  have e:f (Z.foldl f o) y=Z.foldl f o:=by
   rcases h y XE with U|U
   .exact Fx u ao Z o U
   .exact U _
  rw[n6,e];exact Aw u ao Z o J λz w=>h z (by simp[w])
def aeW(u:∀o x y,f (f o x) y=f (f o y) x)(ao:∀o x,f (f o x) x=f o x){Z N:ab Y}(U:∀y,y∈N->y∈Z\/∀o,f o y=o)(M:∀y,y∈Z->y∈N\/∀o,f o y=o)(o:F):Z.foldl f o=N.foldl f o:=by have b:=Aw u ao Z o N U;have J:=Aw u ao N o Z M;rw[<-tx]at b J;rw[<-b,<-J];exact List.Perm.foldl_eq' mZ (λx _ y _ z=>u z x y) o
end
def ip(p:aJ ba)(d:bP)(q:ag)(o:bI×Int)(x:ag):bI×Int:=
 if x≠q/\ow (b7 p x).Call.cz d=true then(js o.1 x,Max.max o.2 (Min.min ((b7 p x).Call.Seq+1) 1099511627776))else o
def nZ(p:aJ ba)(d:bP)(q:ag)(Z:ab ag):bI×Int:=Z.foldl (ip p d q) (bI.z,0)
def eV(p:aJ ba)(d:bP)(q:ag):bI×Int:=nZ p d q (p.all.map (·.1))
def Nq(p:aJ ba)(d:bP)(q:ag)(Z:ab ag)(x:ag):nZ p d q (Z++[x])=ip p d q (nZ p d q Z) x:=by simp[nZ]
theorem abJ(d:bI)(x y:ag):js (js d x) y=js (js d y) x:=by unfold js;dsimp only;congr 1<;>(split<;>split<;>omega)
theorem aeC(d:bI)(x:ag):js (js d x) x=js d x:=by grind [js]
def Nt(p:aJ ba)(d:bP)(q:ag)(o:bI×Int)(x y:ag):ip p d q (ip p d q o x) y=ip p d q (ip p d q o y) x:=by grind [ip,ow,b7,abJ]
def ack(p:aJ ba)(d:bP)(q:ag)(o:bI×Int)(x:ag):ip p d q (ip p d q o x) x=ip p d q o x:=by grind [ip,ow,b7,aeC]
def adV{L:fQ}{x:ag}{e d:bP}{Z:ab ag}(E:Loc L x e)(a:xw L d Z)(u:ow e d=true):x∈Z:=by
 obtain⟨q,D,w,v⟩:=a x;simp only[ow,cZ,ib,j3,j8,da]at u;obtain⟨j,a,u⟩:=u;obtain⟨h,l,g⟩:=E j;rcases u with⟨U,M⟩|h|h
 .grind
 .simp only[tI,vF,cZ,ib,j3,j8,da]at h;grind
 .simp only[tI,vF,cZ,ib,j3,j8,da]at h;grind
def Nw{L:fQ}{p:aJ ba}{d:bP}{q:ag}{Z:ab ag}(r:p.ok)(o:hg L p)(a:xw L d Z):nZ p d q Z=eV p d q:=by
 refine aeW (Nt p d q) (ack p d q) ?_ ?_ _
 .intro y G;obtain⟨⟨z,i⟩,m,rfl⟩:=fh.1 G;have Q:=(aJ.Sp r).1 m;dsimp only at Q⊢;by_cases u:ow i.Call.cz d=true
  .exact .inl (adV (o.1 z i Q) a u)
  .grind [ip,b7]
 .intro y G;cases Q:p.at y with
  |some i=>exact .inl (fh.2 ⟨(y,i),(aJ.Sp r).2 Q,rfl⟩)
  |none=>
   refine .inr λo=>?_;unfold ip;grind [b7,ow,ba.z,aV.z,bP.z]
end Go.Proofs.YteogojgnkjegmaaGreatDoor
