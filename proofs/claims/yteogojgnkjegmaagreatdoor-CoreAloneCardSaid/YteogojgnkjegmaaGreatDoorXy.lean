/-
 Part of the proof.
-/
import Derived.Test.YteogojgnkjegmaaGreatDoorXx
set_option linter.all false
set_option maxRecDepth 8000
set_option maxHeartbeats 8000000
namespace Go.Proofs.YteogojgnkjegmaaGreatDoor
open Go.ay Go.Proofs.Tryz
variable[Go.ay.bR]
variable{k:Nat}{e:Int}{D:Nat->Bool}{n:Int}{P:bo}
def sM(c:bo)(h:Int)(e:Int)(P:bo):Prop:=
 (gy c h≠0/\e=gy c h/\P=c)\/
 (gy c h=0/\∃i W R s1 u l bT f,h=((i:Nat):Int)/\c.aS[i]?=some (.up W R s1)/\e=0/\A8 (λt=>t=s1.aH) c.n l bT f/\P={c with aS:=c.aS.set i (.dn s1.bD u l bT f)})
def sM.cx{c:bo}{x:Int}(h:cP k c)(j:sM c x e P):cP k P:=by
 rcases j with⟨_,_,rfl⟩|⟨_,i,W,R,s1,u,l,bT,f,_,U,_,E,rfl⟩
 .exact h
 .have ao:=(cI.1 U).1;refine lJ.VB (X:=i) ((h.z i).set _) (Q:=s1.bD) (u:=u) (l:=l) (bT:=bT) (W:=f) ?_ E.1;grind
def ae2(b:Nat)(L:gh)(c:bo)(x G:Int)(d:aP)(k:Nat)(h:cP k c):ar prog 28 [au b 0,I x,I G,.int .u8 (d.toNat:Int)] (bJ b L c) (λr Z=>∃gm b6 e,sM c x e b6/\r=I e/\Z=bJ b gm b6):=by
 have m:=x5 b L c h.toClN x;by_cases q:gy c x=0
 .obtain⟨i,nk,fX,s1,rfl,U⟩:=Gm h.toClP q;have E:=h.up _ _ _ _ U;have ao:=(cI.1 U).1;have Yc:=h.len;have c6:=h.n;obtain⟨Ym,Yk⟩:=E.wi;obtain⟨Y,qo,Yi,g⟩:=Gs (j0.of (C:=λt=>t=s1.aH) Yk rfl) (E.y.eF.trans E.n);have Yj:=ar.Tv (Q:=λr (z:aj×ab dY×ab aP×Int)=>(∃s,qo=z.2.1++s)/\(fV z.2.2.1).2=0/\(b5 (Y++z.2.1)++z.2.2.1).length<=65536/\z.2.2.2=((b5 (Y++z.2.1)++z.2.2.1).length:Int)/\r=I 0) (T:=λ_=>[]) (N:=λz=>.dn s1.bD z.1 (Y++z.2.1) z.2.2.1 z.2.2.2) U (Gq nk fX s1 E.y.aH Yi G d);have F (z:aj×ab dY×ab aP×Int) (e6:∃s,qo=z.2.1++s) (dz:(fV z.2.2.1).2=0) (M:(b5 (Y++z.2.1)++z.2.2.1).length<=65536) (R:z.2.2.2=((b5 (Y++z.2.1)++z.2.2.1).length:Int)):sM c (i:Int) 0 {c with aS:=c.aS.set i (.dn s1.bD z.1 (Y++z.2.1) z.2.2.1 z.2.2.2)}:=.inr ⟨q,i,nk,fX,s1,_,_,_,_,rfl,U,rfl,g _ _ e6 dz M _ R,rfl⟩;have p (v:aj) (w:aj) (l:ab dY) (qp:ab aP) (jU:Int):rows fL v 112 1 (c.aS.set i (.dn s1.bD w l qp jU))=rows fL v 112 1 c.aS:=uj (f:=fL) U rfl;rw[q]at m;clear E h g;unfold bJ c9 dm at m⊢;refine aB func28 λW=>?_;generalize bg _=D;refine aa 31 ?_;refine ai.v (V.x' ad (k:=i) rfl rfl rfl rfl ac) ?_;refine ai.v (V.RZ ad (f:=fL) rfl XB A0 U) ?_;refine aa 3 ?_;rintro mz AA⟨Yl,⟨⟨⟨j,Ye⟩,Yf,Yg,Yh,rfl⟩,rfl⟩⟩;refine aa 3 ?_;obtain⟨X,A9,P,u⟩:=Yl;have J:=F (X,A9,P,u) ⟨_,XF⟩ XF XF XF;have K (v:aj):=p v X (Y++A9) P u;dsimp only at J⊢;clear F Yj p;refine aa 7 ?_;refine ai.v (V.x' ad (k:=i) rfl rfl rfl rfl ac) ?_;refine ai.o (O.S4 ad (f:=fR) (a:=c5.dn s1.bD X (Y++A9) P u) rfl rfl rfl rfl XH rfl ac mF ?_);refine aa 9 ?_;all_goals exact⟨_,_,⟨L,_,0,J,rfl,rfl⟩,(by dsimp only;simp only[b9,K];(repeat(first|exact ak.nil|exact al.here|apply ak.cons|apply al.there)))⟩
 .have F:sM c x (gy c x) c:=.inl ⟨q,rfl,rfl⟩;have fS:a8 .neq (gy c x) 0=some true:=by simp[a8,q]
  generalize gy c x=e at*;unfold bJ c9 dm at m⊢;refine aB func28 λW=>?_;generalize bg _=D;refine aa 18 ?_;refine ai.v (V.cmp rfl rfl fS) ?_;refine aa 12 ?_;all_goals exact⟨_,_,⟨L,c,e,F,rfl,rfl⟩,XC⟩
def lI.up{k:Int}{i u:Nat}{l:ab dY}{bT:ab aP}{W:Int}{z:aC}(v:n=3\/n=5\/n=7)(ao:(i:Int)<n)(t:0<=k/\k<=1099511627776)(s:uk n l bT W)(h:lI n (i:Int) k u (gG n l bT W) z):UpF 2000 n k i z/\z.out=[]/\z.bD=u/\z.dw=[]/\z.told=[]/\z.leads=[]/\z.bp=[]/\z.aH=gG n l bT W/\z.now=k:=by
 obtain⟨X,M,r,st,b,C,nW,a,o⟩:=h;obtain⟨F,dd,P,fZ⟩:=s;have g:=Ax (i:=W) v F P;have q:jr n (gG n l bT W).p.all:=g.gE;obtain⟨c,_⟩:=AX v ⟨sd i,ao⟩ t q a u X (gG n l bT W) nW.1;have Yc:=aJ.SJ g.p.towf;have E:eI 1400 (aC.Sv n (i:Int) k u X (gG n l bT W) M r st):=
  ⟨c.mono ac,⟨λy G=>XW,λy G=>XW,λy G=>XW⟩,g,rfl,b,by show X.L.cU<=1400;omega⟩
 have T:dR (aC.Sv n (i:Int) k u X (gG n l bT W) M r st):=⟨oh,oh,λy G=>XW,λy G=>XW⟩
 have D:=o.Vy E;obtain⟨m,lR,sG,mE,ug,wk,Px,R,Py,Ye,d,f⟩:=o.same;have Q:z.told=[]:=by
  obtain⟨N,w,v1,Y,Z,q,fF,j,Yf,rfl⟩:=o.go;have K:N.filter (aC.Sv n (i:Int) k u X (gG n l bT W) M r st).Sg=[]:=by refine List.filter_eq_nil_iff.2 λx _=>?_;grind [aC.Sg,aC.Sv,gG,bT,mi]
  rw[K]at j;have:Y=[]:=CW.1 j;subst this;rfl
 have J:mG (gG n l bT W) l []:=by
  refine⟨by rw[dk];exact F,by rw[dk];rfl,?_,λx=>by rw[dk];rfl⟩;show(if bT=[]then W else((b5 l).length:Int))=_
  grind
 refine⟨⟨D.mono ac,o.Ss T,Px,λx U=>?_,ug,wk,?_,⟨l,[],by rw[m];exact J⟩,?_,?_⟩,R,f,Py,Q,sG,mE,m,d⟩
 .rw[R]at U;cases U
 .rw[d];exact ju _
 .rw[R];exact cw _
 .grind
def sN(c:bo)(h:Int)(e:Int)(P:bo):Prop:=
 (gy c h≠7/\e=1/\P=c)\/
 (gy c h=7/\∃i Q u l a f W R s1,h=((i:Nat):Int)/\c.aS[i]?=some (.dn Q u l a f)/\e=0/\lI c.n (i:Int) c.now Q (gG c.n l a f) s1/\kA {c with aS:=c.aS.set i (.up W R s1)} i P)
def Pz{c:bo}(h:ClP k c){Y:Int}(E:gy c Y=7):∃i Q u l a W,Y=((i:Nat):Int)/\(i:Int)<c.n/\c.aS[i]?=some (.dn Q u l a W):=by
 unfold gy at E;split at E
 .cases E
 .rename_i o;obtain⟨i,x,rfl,ao,U⟩:=h.at (rep:=Y) ac ac;rw[iB,U]at E;cases x with
  |up b L s=>rw[aT (by exact rfl)]at E;cases E
  |dn Q u l bT W=>exact⟨i,Q,u,l,bT,W,rfl,ac,U⟩
def PA(c:bo)(h:Int):gy c h=0\/gy c h=1\/gy c h=7:=by grind [gy]
def sN.cx{c:bo}{Y:Int}(h:cP k c)(T:k<=1000000000000)(j:sN c Y e P):cP (k+1002000) P:=by
 rcases j with⟨_,_,rfl⟩|⟨_,i,Q,u,l,a,f,W,X,s1,_,U,_,Z,x⟩
 .exact h.mono ac
 .have ao:=(cI.1 U).1;have d:=h.len;have t:=h.now;have R:=(Z.up h.n ac ac (h.dn _ _ _ _ _ _ U)).1;refine(x.cx (k:=k+2000) (((h.z i).mono ac).set _) λb L s E=>?_).mono ac;have E:(c.aS.set i (.up W X s1))[i]?=_:=E;rw[oO ao]at E;cases E;exact R.mono ac
def acf(b:Nat)(L:gh)(c:bo)(x:Int)(k:Nat)(h:cP k c)(E:k<=90000000000):ar prog 29 [au b 0,I x] (bJ b L c) (λr Y=>∃s P e,sN c x e P/\r=I e/\Y=bJ b s P):=by
 have m:=x5 b L c h.toClN x;by_cases q:gy c x=7
 .obtain⟨i,u,o,l,w,p,rfl,J,U⟩:=Pz h.toClP q;have g:=h.dn _ _ _ _ _ _ U;have ao:=(cI.1 U).1;have d:=h.len;have a:=h.n;have t:=h.now;have C:=ar.Tv (Q:=λr (z:Nat×cO×aC)=>lI c.n (i:Int) c.now u (gG c.n l w p) z.2.2/\r=.tuple #[au z.1 0,I 0]) (T:=λ_=>[]) (N:=λz=>.up z.1 z.2.1 z.2.2) U (ar.post (Ge u o c.n (i:Int) c.now l w p a ⟨sd i,J⟩ ac g.1 g.2.1 g.2.2.1) (by rintro v Y⟨D,s,W,F,rfl,rfl⟩;exact⟨_,⟨(D,s,W),⟨F,rfl⟩,rfl⟩,λ_ _ _ h=>h⟩));have R (s1:aC) (Z:lI c.n (i:Int) c.now u (gG c.n l w p) s1):=(Z.up a J ac g)
  have J (j:Nat) (X:cO) (s1:aC) (Z:lI c.n (i:Int) c.now u (gG c.n l w p) s1):=x7 b L {c with aS:=c.aS.set i (.up j X s1)} (k+2000) i j X s1 (((h.z i).mono ac).set _).toClP ac (by show(c.aS.set i _)[i]?=_;rw[oO ao]) (by have:=(R s1 Z).1.ol;omega) (by have:=(R s1 Z).1.fi;omega);have F (j:Nat) (X:cO) (s1:aC) (P:bo) (Z:lI c.n (i:Int) c.now u (gG c.n l w p) s1) (s:kA {c with aS:=c.aS.set i (.up j X s1)} i P):sN c (i:Int) 0 P:=.inr ⟨q,i,u,o,l,w,p,j,X,s1,rfl,U,rfl,Z,s⟩;have b (v:aj) (j:Nat) (X:cO) (s1:aC) (Z:lI c.n (i:Int) c.now u (gG c.n l w p) s1):rows fL v 112 1 (c.aS.set i (.up j X s1))=rows fL v 112 1 c.aS:=uj (f:=fL) U (by unfold fL;rw[show(c5.up j X s1).bD=s1.bD from rfl,(R s1 Z).2.2.1];rfl);rw[q]at m;clear h g;unfold bJ c9 dm at m⊢;refine aB func29 λW=>?_;generalize bg _=D;refine aa 27 ?_;refine ah.mt [0,1] (λz:Nat×cO×aC=>lI c.n (i:Int) c.now u (gG c.n l w p) z.2.2) (λz=>[]) (λz=>[e3 (c.aS.set i (.up z.1 z.2.1 z.2.2)),rows fR (.slice (some ⟨L.lw,0,none⟩) c.aS.length L.lx) 36 1 (c.aS.set i (.up z.1 z.2.1 z.2.2))]) (b:=[e3 c.aS,rows fR (.slice (some ⟨L.lw,0,none⟩) c.aS.length L.lx) 36 1 c.aS]) ?_ ?_
  .intro a r;clear J F b;refine ah.n' ?_ aA.j.j.j.j.j.d'.d';refine ae 10 0 ?_;refine af.i' 10 rfl (V.x' ad (k:=i) rfl rfl rfl rfl ac) ?_;refine af.i' 11 rfl (V.RZ ad (f:=fL) rfl XB A0 U) ?_;refine ae 9 12 ?_;refine af.o' 21 rfl rfl (C) ?_;rintro g s2⟨y,⟨⟨Q,rfl⟩,rfl⟩⟩;refine aa 2 ?_;refine ae 3 22 ?_;refine af.i' 25 rfl (V.x' ad (k:=i) rfl rfl rfl rfl ac) ?_;refine af.p' 26 rfl (O.S4 ad (f:=fR) (a:=c5.up y.1 y.2.1 y.2.2) rfl rfl rfl rfl XH rfl ac mF ?_);refine aa 2 ?_;all_goals exact Out.t' r _ XF trivial
  rintro⟨j,X,s1⟩ Z;dsimp only at Z;have d:=J j X s1 Z;have Y:=λP=>F j X s1 P Z;have a (v:aj):=b v j X s1 Z;clear J F b C R m;unfold bJ c9 dm at d;dsimp only[List.cons_append,List.nil_append]at d⊢;simp only[b9,a]at d;refine aa 5 ?_;rintro U nc⟨j,⟨P,⟨⟨Q,p,s⟩,rfl,rfl⟩⟩⟩;refine aa 11 ?_;all_goals exact⟨_,_,⟨_,_,0,Y _ XF,rfl,rfl⟩,XC⟩
 .have F:sN c x 1 c:=.inl ⟨q,rfl,rfl⟩;have y:=PA c x;have z:a8 .eql (gy c x) 7=some false:=by simp[a8,q]
  clear h;unfold bJ c9 dm at m⊢;rcases y with y|y|y
  .rw[y]at m;refine aB func29 λW=>?_;generalize bg _=D;refine aa 42 ?_;all_goals exact⟨_,_,⟨L,c,1,F,rfl,rfl⟩,XC⟩
  .rw[y]at m;refine aB func29 λW=>?_;generalize bg _=D;refine aa 43 ?_;all_goals exact⟨_,_,⟨L,c,1,F,rfl,rfl⟩,XC⟩
  .exact absurd y q
def PC(e:ax)(m:aQ Go.Addr)(C F off:Nat)(l:ab ft)(T:Rd e m l.length F off 8 (l.map ft.c))(E:l.length<=200000000000):ar prog 33 [.slice m l.length C] [e] (λr Y=>∃v,r=v/\Y=[rows ft.c v 67 8 l,e]):=by
 cases m with
 |none=>
  have K:l=[]:=by
   cases l with
   |nil=>rfl
   |cons a l=>have:=T.addr XE;simp at this
  subst K;refine aB func33 λW=>?_;refine ah.RK ft.c 67 8 ?_;refine aa 9 ?_;refine ai.v (V.T1 ad) ?_;exact aM 11
 |some a=>
  by_cases f:l=[]
  .subst f;refine aB func33 λW=>?_;refine ID ?_;refine ai.o (O.N' ad ft.c [] rfl bx.nil rfl rfl (λC=>?_));refine av ?_;refine ai.v (V.U0 ad rfl rfl (ce.UN ad T XB ft.B' ft.SN) ac) ?_;exact aM 5
  .have w:0<l.length:=od.2 f;refine aB func33 λW=>?_;refine ID ?_;refine ai.o (O.N' ad ft.c [] rfl bx.nil rfl rfl (λC=>?_));refine av ?_;refine ai.o (O.UZ ad rfl rfl (ce.rd ad T XB ft.B' ft.SN w) f ft.SN (λK m=>?_));exact aM 5
def Gu(b:Nat)(L:gh)(c:bo)(k:Nat)(h:ClP k c)(T:k<=100000000000):ar prog 15 [au b 0] (bJ b L c) (λr Y=>∃m C,r=.slice m c.told.length C/\Y=rows ft.c (.slice m c.told.length C) 67 8 c.told::bJ b L c):=by refine ar.nY ft.SN ?_;have j:=h.told;unfold bJ c9 dm;refine aB func15 λW=>?_;refine ah.fact (hM (f:=ft.c) (v:=L.bC) (l:=c.told) ft.SN XB) λK=>?_;obtain⟨m,C,D,J,T⟩:=K;have K:=PC _ m C D 0 c.told T ac;rw[J];refine aa 22 ?_;rintro _ _⟨o,rfl,rfl⟩;exact aM 6;all_goals exact⟨_,_,⟨_,rfl,rfl⟩,XC⟩
def um(c:bo)(i:Int)(e:Int)(P:bo):Prop:=(hQ c.bQ i=none/\e=5/\P=c)\/(∃x,hQ c.bQ i=some x/\e=0/\P={c.less i with lost:=c.lost+1})
def um.cx{c:bo}{i:Int}(h:cP k c)(Q:um c i e P):cP (k+1) P:=by
 have F:=h.lost;have K:=h.mono (iZ k 1);rcases Q with⟨_,_,rfl⟩|⟨x,U,_,rfl⟩
 .exact K
 exact Pj
def aeL(b:Nat)(L:gh)(c:bo)(i:Int)(k:Nat)(h:ClP k c)(T:k<=100000000000):ar prog 20 [au b 0,I i] (bJ b L c) (λr Y=>∃n P e,um c i e P/\r=I e/\Y=bJ b n P):=by
 have E:=h.lost;have v:=acb L.jZ L.du c.bQ c.cut c.lost i h.cut ⟨E.1,ac⟩;cases u:hQ c.bQ i with
 |none=>
  have F:um c i 5 c:=.inl ⟨u,rfl,rfl⟩;rw[u]at v;have p:=ar.TQ (Q:=λr (_:aj)=>r=B false) (T:=λX=>fl L.jZ X c.bQ c.cut c.lost) v;unfold bJ c9 dm;refine aB func20 λW=>?_;refine aa 23 ?_;rintro _ _⟨E,rfl,rfl⟩;refine aa 15 ?_;all_goals exact⟨_,_,⟨{L with du:=E},c,5,F,rfl,rfl⟩,XC⟩
 |some x=>
  have F:um c i 0 {c.less i with lost:=c.lost+1}:=.inr ⟨x,u,rfl,rfl⟩;rw[u]at v;have p:=ar.TQ (Q:=λr (_:aj)=>r=B true) (T:=λX=>fl L.jZ X (c.bQ.eraseIdx i.toNat) c.cut (c.lost+1)) v;unfold bo.less at F;unfold bJ c9 dm;refine aB func20 λW=>?_;refine aa 23 ?_;rintro _ _⟨E,rfl,rfl⟩;refine aa 16 ?_;all_goals exact⟨_,_,⟨{L with du:=E},_,0,F,rfl,rfl⟩,XC⟩
def sO(c:bo)(i:Int)(e:Int)(P:bo):Prop:=(hQ c.bQ i=none/\e=5/\P=c)\/(∃x,hQ c.bQ i=some x/\((oM c.bQ i=true/\e=0)\/(oM c.bQ i=false/\e=6))/\P={c with bQ:=l8 c.bQ i})
def Gv{l:ab b0}{i:Int}{x:b0}(h:x∈l8 l i):x∈l:=by
 unfold l8 at h;split at h
 .rename_i y G;split at h
  .rcases eN.1 h with h|h
   .exact h
   .rw[iz.1 h];exact A7 G
  .exact h
 .exact h
def abf{l:ab b0}{i:Int}(h:l.length<=256):(l8 l i).length<=256:=by
 unfold l8;split
 .split
  .rw[bM,m4];omega
  .exact h
 .exact h
def sO.cx{c:bo}{i:Int}(h:cP k c)(Q:sO c i e P):cP k P:=by
 rcases Q with⟨_,_,rfl⟩|⟨x,U,_,rfl⟩
 .exact h
 .exact⟨⟨⟨h.n,h.len⟩,h.cut,abf h.bQ,h.lost,h.told,h.now⟩,h.up,h.dn,λx U=>h.i2 x (Gv U)⟩
def afw(b:Nat)(L:gh)(c:bo)(i:Int)(k:Nat)(h:ClP k c):ar prog 27 [au b 0,I i] (bJ b L c) (λr Y=>∃n P e,sO c i e P/\r=I e/\Y=bJ b n P):=by
 have a:=ar.TQ (Q:=λr (_:aj)=>r=B (oM c.bQ i)) (T:=λX=>fl L.jZ X (l8 c.bQ i) c.cut c.lost) (ae9 L.jZ L.du c.bQ c.cut c.lost i h.bQ);have K:=A6 L c.bQ c.cut c.lost;cases u:hQ c.bQ i with
 |none=>
  have F:sO c i 5 c:=.inl ⟨u,rfl,rfl⟩;have ao:=we u;unfold bJ c9 dm;refine aB func27 λW=>?_;refine aa 20 ?_;refine ai.aU (λw=>?_) (λw=>?_);refine aa 21 ?_;rotate_left;refine aa 22 ?_;rotate_left;all_goals exact⟨_,_,⟨L,c,5,F,rfl,rfl⟩,XC⟩
 |some x=>
  obtain⟨M,rfl,t,Z⟩:=ui u;have y:a8 .lss (M:Int) 0=some false:=ZP
  have J:a8 .geq (M:Int) (c.bQ.length:Int)=some false:=XS
  cases E:oM c.bQ (M:Int)
  .have F:sO c (M:Int) 6 {c with bQ:=l8 c.bQ (M:Int)}:=.inr ⟨x,u,.inr ⟨E,rfl⟩,rfl⟩;rw[E]at a;refine z7 λW T=>?_;refine aa 15 ?_;all_goals exact⟨_,_,⟨{L with du:=T},_,6,F,rfl,rfl⟩,XC⟩
  .have F:sO c (M:Int) 0 {c with bQ:=l8 c.bQ (M:Int)}:=.inr ⟨x,u,.inl ⟨E,rfl⟩,rfl⟩;rw[E]at a;refine z7 λW T=>?_;refine aa 16 ?_;all_goals exact⟨_,_,⟨{L with du:=T},_,0,F,rfl,rfl⟩,XC⟩
def Gw(b:Nat)(L:gh)(c:bo)(x y:Int)(k:Nat)(h:ClP k c):ar prog 23 [au b 0,I x,I y] (bJ b L c) (λr Y=>r=.tuple #[]/\Y=bJ b L {c with cut:=jY c.cut x y}):=by have r:=ar.S1 (ac9 L.jZ L.du c.bQ c.cut c.lost x y h.cut);unfold bJ c9 dm;refine aB func23 λW=>?_;exact aM 18
def PG(b:Nat)(L:gh)(c:bo)(k:Nat)(h:ClP k c):ar prog 30 [au b 0] (bJ b L c) (λr Y=>r=.tuple #[]/\Y=bJ b L {c with cut:=List.replicate 49 false}):=by have r:=ar.S1 (aau L.jZ L.du c.bQ c.cut c.lost h.cut);unfold bJ c9 dm;refine aB func30 λW=>?_;exact aM 16
def aa0(c:ab Bool)(x y:Int):(jY c x y).length=c.length:=by
 unfold jY;split
 .rw[b9,b9]
 .rfl
def cP.VC{c:bo}(h:cP k c){l:ab Bool}(E:l.length=49):cP k {c with cut:=l}:=⟨⟨⟨h.n,h.len⟩,E,h.bQ,h.lost,h.told,h.now⟩,h.up,h.dn,h.i2⟩
def sP(c:bo)(h:Int):aj:=if h<0\/c.n<=h then .pointer none else match c.aS[h.toNat]? with|some x=>x.ptr|none=>.pointer none
def PI(b:Nat)(L:gh)(c:bo)(F:Int)(h:ClN c):ar prog 12 [au b 0,I F] (bJ b L c) (λr Y=>r=sP c F/\Y=bJ b L c):=by
 have w:=x5 b L c h F;have d:=h.len;have a:=h.n;by_cases o:F<0\/c.n<=F
 .have E:gy c F=1:=by unfold gy;rw[aT o]
  have v:sP c F=.pointer none:=by unfold sP;rw[aT o]
  rw[E]at w;rw[v];exact Ma
 .obtain⟨i,x,rfl,ao,U⟩:=h.at (rep:=F) ac ac;have v:sP c (i:Int)=x.ptr:=by unfold sP;rw[aN o,iB,U]
  have E:gy c (i:Int)=if x.on then 0 else 7:=by unfold gy;rw[aN o,iB,U];rfl
  rw[E]at w;rw[v];cases x with
  |up f R s1=>
   change ar _ _ _ _ (λr Y=>r=I 0/\Y=bJ b L c)at w;unfold bJ c9 dm at w⊢;refine aB func12 λW=>?_;refine aa 25 ?_;refine N4 ?_;exact aM 5
  |dn Q u l a f=>
   change ar _ _ _ _ (λr Y=>r=I 7/\Y=bJ b L c)at w;exact Ma
def np.same{s z:aC}{x:ag}(h:np s x z):z.aH=s.aH/\z.bD=s.bD/\z.now=s.now/\∃m,g8 s m z:=by
 rcases h with⟨_,rfl⟩|⟨_,⟨e,d,rfl⟩|⟨_,e,d,_,rfl⟩|⟨_,_,p,q,rfl⟩⟩
 .exact⟨rfl,rfl,rfl,[],g8.nil rfl rfl rfl rfl⟩
 exact KL
 exact KL
 exact KL
def pB.cx{s s1:aC}{Z:ab ag}(h:eI k s)(t:dR s)(N:l9 s)(q:∀x∈Z,bB x 7=true)(E:pB s Z s1):eI (k+Z.length) s1/\dR s1/\l9 s1/\fg s1.inbox<=fg s.inbox+3*Z.length/\s1.out.length<=s.out.length+7*Z.length/\s1.told=s.told/\s1.n=s.n/\s1.self=s.self/\s1.aH=s.aH/\s1.bD=s.bD/\s1.now=s.now:=by
 induction E with
 |nil=>exact⟨h,t,N,cl _,cl _,rfl,rfl,rfl,rfl,rfl,rfl⟩
 |@snoc Z x a b E U u=>
  obtain⟨F,M,g,z,N,E,s,v,k,R,l⟩:=u λy G=>q y (qd _ G);obtain⟨m,C,z,K,y,d⟩:=U.cx F M (q x XE);obtain⟨W,J,n,b,h⟩:=U.same;rw[bM,m4];exact⟨m,C,g.Sl h,ac,ac,y.trans E,d.trans s,h.2.2.2.trans v,W.trans k,J.trans R,n.trans l⟩
def nq.up{Y N:Int}{i:Nat}{s z:aC}(h:mH k n Y i s)(m:Y<=N)(j:nq s N e z):UpF (k+43000) n N i z/\z.bD=s.bD:=by
 rcases j with⟨_,_,rfl⟩|⟨f,F,_,Z,P,s1,b,E,o⟩
 .exact⟨(h.mono (iZ k 43000) m).toUpF,rfl⟩
 .obtain⟨T,d,u,_⟩:=b.sub;have q:=h.y.due f F T;have X:dR {s with now:=N,pl:=P}:=⟨h.v.eF,h.v.gw,h.v.bU,h.v.i8⟩
  have L:=h.y.fs.len;obtain⟨l,M,W,C,J,g,K,R,Q,D,a⟩:=E.cx q X h.bG λx U=>by obtain⟨y,G,rfl⟩:=u x U;exact h.y.fs.aW y G
  have t:fg s.inbox=0:=AT h.dy;have z:=l.S9 M;obtain⟨x,r⟩:=h.wi;have c:=h.on;have v:j0 (λ_=>True) s1.aH:=by rw[Q];exact j0.of r trivial
  dsimp only at C J g;rw[c]at J;have w:([]:ab b0).length=0:=rfl;have:=jB.all (C:=λ_=>True) l M W v o ac (K.trans h.n) (R.trans h.self) (by rw[a];exact ju _) ac (by rw[g,h.oi];exact cw _) (λ_ _=>trivial);exact⟨this.1.mono ac,o.bD.trans D⟩
inductive mJ(gB:Nat->Bool)(c:bo):Nat->bo->Prop where
 |nil:mJ gB c 0 c
 |skip {i:Nat} {ie:bo} (h:mJ gB c i ie) (c6:gB i=false\/∃bD du l qp jU,ie.aS[i]?=some (c5.dn bD du l qp jU)):mJ gB c (i+1) ie
 |tick {i nk:Nat} {ie jH:bo} {fX pu:cO} {s1 s2:aC} {e:Int} (h:mJ gB c i ie) (cf:gB i=true) (cr:ie.aS[i]?=some (c5.up nk fX s1)) (c8:nq s1 ie.now e s2) (dK:kA {ie with aS:=ie.aS.set i (c5.up nk pu s2)} i jH):mJ gB c (i+1) jH
def rC(D:Nat->Bool)(c:bo)(e:Int)(P:bo):Prop:=
 (1099511627776<=c.now/\e=6/\P=c)\/(c.now<1099511627776/\e=0/\mJ D {c with now:=c.now+1} c.aS.length P)
def kA.same{c:bo}{i:Nat}(h:kA c i P):P.n=c.n/\P.now=c.now/\P.aS.length=c.aS.length/\P.cut=c.cut:=by obtain⟨W,R,s1,v,_,rfl⟩:=h;exact⟨rfl,rfl,b9 ..,rfl⟩
def PJ{i W:Nat}{f Z:bo}{X v:cO}{s1 s2:aC}(h:cP k f)(U:f.aS[i]?=some (c5.up W X s1))(j:nq s1 f.now e s2)(l:kA {f with aS:=f.aS.set i (c5.up W v s2)} i Z):cP (k+1043000) Z:=by have ao:=(cI.1 U).1;have R:=(j.up (h.up _ _ _ _ U) (ju _)).1;refine(l.cx (k:=k+43000) (((h.z i).mono ac).set _) λb L s u=>?_).mono ac;have u:(f.aS.set i (.up W v s2))[i]?=_:=u;rw[oO ao]at u;cases u;exact R
def mJ.cx{m:Nat}{c:bo}(h:cP k c)(j:mJ D c m P):cP (k+1043000*m) P/\P.now=c.now/\P.n=c.n/\P.aS.length=c.aS.length:=by
 induction j with
 |nil=>exact⟨h,rfl,rfl,rfl⟩
 |skip _ _ u=>exact⟨u.1.mono ac,u.2⟩
 |tick _ _ U j l u=>
  have F:=l.same;exact⟨(PJ u.1 U j l).mono ac,F.2.1.trans u.2.1,F.1.trans u.2.2.1,F.2.2.1.trans ((b9 ..).trans u.2.2.2)⟩
def cP.later{c:bo}(h:cP k c):cP (k+1) {c with now:=c.now+1}:=by have K:=h.mono (iZ k 1);have v:=h.now;exact⟨⟨⟨h.n,h.len⟩,h.cut,h.bQ,K.lost,K.told,by show 0<=c.now+1/\c.now+1<=_;omega⟩,λi b L s U=>(h.up i b L s U).mono ac (by show c.now<=c.now+1;omega),h.dn,h.i2⟩
def rC.cx{c:bo}(h:cP k c)(j:rC D c e P):cP (k+7302000) P:=by
 have E:=h.len;have v:=h.n;rcases j with⟨_,_,rfl⟩|⟨_,_,j⟩
 .exact h.mono ac
 .exact(j.cx h.later).1.mono ac
def ns(n:Int):ab aj:=[I n]
def Gx(e:ax)(c:aQ Go.Addr)(C F off:Nat)(l:ab Int)(x:Int)(D:Rd e c l.length F off 1 (l.map ns))(E:l.length<=1000000):ar prog 69 [.slice c l.length C,I x] [e] (λr Y=>∃z:Int,((x∈l/\0<=z)\/(x∉l/\z=-1))/\r=I z/\Y=[e]):=by
 refine aB func69 λW=>?_;refine aa 14 ?_;refine ah.cb [7,0,1] (λi:Nat=>i<=l.length/\∀(j:Nat) (y:Int),j<i->l[j]?=some y->y≠x) (λi=>[(8,I (i:Int))]) (λ_=>[]) (λi=>l.length-i) 0 ⟨cw _,λj y h=>absurd h (vr _)⟩ ?_;rintro i⟨ao,M⟩ K a;refine bh ?_;by_cases m:i<l.length
 .obtain⟨y,G⟩:=b8 m;have f:a8 .lss (i:Int) (l.length:Int)=some true:=by simp[a8];omega
  have q:(l.map ns)[i]?=some [I y]:=by rw[ho,G];rfl
  by_cases T:x=y
  .have b:a8 .eql x y=some true:=by simp[a8,T]
   have R:x∈l:=by rw[T];exact j5 G
   refine KH ?_;refine aa 16 ?_;all_goals exact⟨_,_,⟨(i:Int),.inl ⟨R,ac⟩,rfl,rfl⟩,XC⟩
  .have b:a8 .eql x y=some false:=by simp[a8,T]
   refine KH ?_;refine aa 10 ?_;refine Out.t' a (i+1) ?_ OB;exact ⟨ac,λj z p w=>by
    by_cases t:j=i
    .subst t;rw[G]at w;rw[<-gW w];exactλh=>T h.symm
    .exact M j z ac w⟩
 .obtain rfl:i=l.length:=by omega
  have f:a8 .lss (l.length:Int) (l.length:Int)=some false:=ZP
  have R:x∉l:=λR=>by obtain⟨j,p,e⟩:=List.getElem_of_mem R;exact M j x p (by rw[gM p,e]) rfl
  clear a;refine aa 2 ?_;refine ai.v (V.cmp rfl rfl f) ?_;refine aa 16 ?_;all_goals exact⟨_,_,⟨-1,.inr ⟨R,rfl⟩,rfl,rfl⟩,XC⟩
def aee(e:ax)(c:aQ Go.Addr)(C U off:Nat)(l:ab Int)(x:Int)(T:Rd e c l.length U off 1 (l.map ns))(E:l.length<=1000000):ar prog 42 [.slice c l.length C,I x] [e] (λr Y=>r=B (decide (x∈l))/\Y=[e]):=by
 by_cases K:x∈l
 .have j:ar prog 69 [.slice c l.length C,I x] [e] (λr Y=>∃z:Int,0<=z/\r=I z/\Y=[e]):=ar.post (Gx e c C U off l x T E) (by rintro v Y⟨z,F,rfl,rfl⟩;exact⟨_,⟨z,(F.resolve_right λh=>h.1 K).2,rfl,rfl⟩,λ_ _ _ h=>h⟩)
  rw[iE K];refine aB func42 λW=>?_;refine aa 10 ?_;rintro _ _⟨a,R,rfl,rfl⟩;refine aa 7 ?_;all_goals(congr 1;rw[da];assumption)
 .have j:ar prog 69 [.slice c l.length C,I x] [e] (λr Y=>r=I (-1)/\Y=[e]):=ar.post (Gx e c C U off l x T E) (by rintro v Y⟨z,F,rfl,rfl⟩;obtain rfl:=(F.resolve_left λh=>K h.1).2;exact⟨_,⟨rfl,rfl⟩,λ_ _ _ h=>h⟩)
  rw[kc K];refine aB func42 λW=>?_;exact aM 17
def Ba(b:Nat)(L:gh)(c:bo)(e:ax)(cG:aQ Go.Addr)(T fu off:Nat)(l:ab Int)(eU:Rd e cG l.length fu off 1 (l.map ns))(fE:l.length<=1000)(o:Nat->Bool)(Yv:∀i,o i=(decide (l.length=0)||decide ((i:Int)∈l)))(k:Nat)(h:cP k c)(cc:k<=80000000000):ar prog 24 [au b 0,.slice cG l.length T] (e::bJ b L c) (λr u=>∃gm b6 Gy,rC o c Gy b6/\r=I Gy/\u=e::bJ b gm b6):=by
 have Yf:=h.len;have c6:=h.n;have Yn:=h.now;by_cases Ym:1099511627776<=c.now
 .omega
 .have fS:a8 .geq c.now 1099511627776=some false:=by simp[a8];omega
  have Yg (b6:bo) (e6:mJ o {c with now:=c.now+1} c.aS.length b6):rC o c 0 b6:=.inr ⟨ac,rfl,e6⟩;have Yl:=h.later;unfold bJ c9 dm;refine aB func24 λW=>?_;generalize bg _=D;refine aa 22 ?_;refine ai.v (V.cmp rfl rfl fS) ?_;refine aa 29 ?_;refine ah.hC (aX:=e::bJ b L {c with now:=c.now+1}) (λw cB=>cB.gB IU) ?_;generalize Yk:({c with now:=c.now+1}:bo)=X at*;have M:X.aS.length=c.aS.length:=by rw[<-Yk]
  refine ah.cb [25,24,0,1] (λz:Nat×gh×bo=>z.1<=c.aS.length/\mJ o X z.1 z.2.2/\z.2.1.lw=L.lw/\z.2.1.lx=L.lx) (λz=>[(26,I (z.1:Int))]) (λz=>e::bJ b z.2.1 z.2.2) (λz=>c.aS.length-z.1) (0,L,X) ⟨cw _,.nil,rfl,rfl⟩ ?_;rintro⟨i,fX,Z⟩⟨ao,G,P,t⟩ K cu;dsimp only at ao G P t;obtain⟨lv,Yr,Ys,Ye⟩:=G.cx Yl;have d:Z.aS.length=c.aS.length:=by rw[Ye,M]
  by_cases Yc:i<c.aS.length
  .have eu:a8 .lss (i:Int) (c.aS.length:Int)=some true:=by simp[a8];omega
   obtain⟨x,U⟩:=b8 (q:=Z.aS) (k:=i) ac;cases x with
   |dn bD du acs qp jU=>
    have a:mJ o X (i+1) Z:=.skip G (.inr ⟨_,_,_,_,_,U⟩);unfold bJ c9 dm;rw[P,t,d];refine bh ?_;refine Mp ?_;refine aa 11 ?_;refine N4 ?_;refine aa 28 ?_;all_goals exact Out.t' cu (i+1,fX,Z) ⟨XO,a,P,t⟩ PE (q:=M9)
   |up R pu s1=>
    have E:=lv.up _ _ _ _ U;have Yo:=(cI.1 U).1;have q:=ar.Ul (Q:=λr (z:cO×aC×Int)=>nq s1 Z.now z.2.2 z.2.1/\r=I z.2.2) (N:=λz=>.up R z.1 z.2.1) U (ar.post (abu R pu s1 Z.now (k+1+1043000*i) E.y E.v E.dy ac PZ LN) (by rintro v u⟨gm,cn,kG,cm,rfl,rfl⟩;exact⟨_,⟨(gm,cn,kG),⟨cm,rfl⟩,rfl⟩,λ_ _ _ h=>h⟩));have m (F:cO) (s2:aC) (J:Int) (C:nq s1 Z.now J s2):=x7 b fX {Z with aS:=Z.aS.set i (.up R F s2)} (k+1+1043000*i+43000) i R F s2 (((lv.z i).mono ac).set _).toClP ac (by show(Z.aS.set i _)[i]?=_;rw[oO Yo]) (by have:=(C.up E (ju _)).1.ol;omega) (by have:=(C.up E (ju _)).1.fi;omega);have lu (F:cO) (s2:aC) (J:Int) (C:nq s1 Z.now J s2):=x6 b fX Z (y:=.up R F s2) U (C.up E (ju _)).2 rfl;have p (cf:o i=false):mJ o X (i+1) Z:=.skip G (.inl cf);have a (cf:o i=true) (F:cO) (s2:aC) (J:Int) (uo:bo) (C:nq s1 Z.now J s2) (dK:kA {Z with aS:=Z.aS.set i (.up R F s2)} i uo):mJ o X (i+1) uo:=.tick G cf U C dK;have Yq:=aee e cG T fu off l (i:Int) eU ac;have Yt:=Yv i;clear E lv G Yg h Yl;unfold bJ c9 dm;rw[P,t,d];refine bh ?_;refine Mp ?_;refine aa 11 ?_;refine N4 ?_;refine aa 4 ?_;refine ah.mt [0,1,5,6,24,25,26] (λ_:Unit=>True) (λ_=>[(42,B (o i))]) (λ_=>[]) (b:=[]) ?_ ?_
    .intro fa j;clear q m lu p a cu;by_cases Yp:l.length=0
     .have J:a8 .eql (l.length:Int) 0=some true:=by simp only[a8];congr 1;rw[da];omega
      rw[Yt,iE Yp,Bool.true_or]at j;refine aa 6 ?_;refine ai.v (V.cmp rfl rfl J) ?_;refine aa 7 ?_;all_goals exact Out.t' j () trivial trivial
     .have J:a8 .eql (l.length:Int) 0=some false:=by simp only[a8];congr 1;rw[j8];omega
      rw[Yt,kc Yp,yz]at j;refine aa 6 ?_;refine ai.v (V.cmp rfl rfl J) ?_;refine aa 8 ?_;all_goals exact Out.t' j () trivial trivial
    rintro⟨⟩-;refine bh ?_;cases Yu:o i
    .have s:=p Yu;clear q m lu p a;refine aa 8 ?_;all_goals exact Out.t' cu (i+1,fX,Z) ⟨XO,s,P,t⟩ PE (q:=M9)
    .have s:=a Yu;clear p a Yq;refine aa 9 ?_;rintro l1 s2⟨Y,⟨⟨Yh,rfl⟩,rfl⟩⟩;refine aa 3 ?_;have g:nq s1 Z.now Y.2.2 Y.2.1:=by assumption
     have cT:=m Y.1 Y.2.1 Y.2.2 g;have Yw:=λuo=>s Y.1 Y.2.1 Y.2.2 uo g;rw[lu Y.1 Y.2.1 Y.2.2 g]at cT;unfold c9 dm at cT;rw[P,t,d]at cT;clear q m lu s;obtain⟨F,s2,J⟩:=Y;dsimp only[List.cons_append,List.nil_append]at cT Yw⊢;refine aa 4 ?_;rintro v3 nc⟨Yx,⟨Yy,⟨⟨Yh,Yi,Yj⟩,rfl,rfl⟩⟩⟩;refine aa 8 ?_;all_goals exact Out.t' cu (i+1,Yx,Yy) ⟨XO,Yw _ XF,XF,XF⟩ PE (q:=IU)
  .obtain rfl:i=c.aS.length:=by omega
   have eu:a8 .lss (c.aS.length:Int) (c.aS.length:Int)=some false:=ZP
   clear cu;have h:=Yg Z G;unfold bJ c9 dm;refine bh ?_;refine Mp ?_;refine aa 16 ?_;all_goals exact⟨_,_,⟨fX,Z,0,h,rfl,rfl⟩,XC⟩
inductive oP(c:bo):Nat->bo->Prop where
 |nil:oP c 0 c
 |step {j:Nat} {ie jH:bo} {e:Int} (h:oP c j ie) (ei:ie.bQ≠[]) (c8:mI ie 0 e jH):oP c (j+1) jH
def n2(c:bo)(m:Int)(P:bo):Prop:=∃j:Nat,oP c j P/\(j:Int)<=Max.max m 0/\(m<=(j:Int)\/P.bQ=[])
def oP.cx{j:Nat}{c:bo}(h:cP k c)(Q:oP c j P):cP (k+1042300*j) P:=by
 induction Q with
 |nil=>exact h
 |step _ _ j u=>exact(j.cx u).mono ac
def Gz(b:Nat)(L:gh)(c:bo)(l:Int)(k:Nat)(h:cP k c)(T:k<=80000000000)(K:l<=5000):ar prog 17 [au b 0,I l] (bJ b L c) (λr Y=>∃i P n,n2 c l P/\r=I n/\Y=bJ b i P):=by
 refine aB func17 λW=>?_;generalize bg _=D;refine aa 12 ?_;refine ah.cb [0,1] (λz:Nat×gh×bo=>(z.1:Int)<=Max.max l 0/\oP c z.1 z.2.2) (λz=>[(5,I (z.1:Int))]) (λz=>bJ b z.2.1 z.2.2) (λz=>5001-z.1) (0,L,c) ⟨by show((0:Nat):Int)<=_;omega,.nil⟩ ?_;rintro⟨j,R,z⟩⟨p,w⟩ K a;dsimp only at p w;have N:=w.cx h;have K:=A6 R z.bQ z.cut z.lost;refine bh ?_;by_cases m:(j:Int)<l
 .have y:a8 .lss (j:Int) l=some true:=by simp[a8];omega
  by_cases r:z.bQ=[]
  .have J:a8 .gtr (z.bQ.length:Int) 0=some false:=by rw[r];rfl
   have F:n2 c l z:=⟨j,w,p,.inr r⟩
   clear a;unfold bJ c9 dm;refine aa 8 ?_;refine ai.v (V.cmp rfl rfl y) ?_;refine Jr ?_;refine aa 17 ?_;all_goals exact⟨_,_,⟨R,z,_,F,rfl,rfl⟩,XC⟩
  .have L:0<z.bQ.length:=od.2 r;have J:a8 .gtr (z.bQ.length:Int) 0=some true:=by simp only[a8];congr 1;rw[da];omega
   have Z:=Gr b R z 0 (k+1042300*j) N ac;have F (e:Int) (N:bo) (P:mI z 0 e N):oP c (j+1) N:=.step w r P;unfold bJ c9 dm at Z⊢;refine aa 8 ?_;refine ai.v (V.cmp rfl rfl y) ?_;refine Jr ?_;refine aa 11 ?_;rintro _ _⟨n,i,m,s,rfl,rfl⟩;refine aa 9 ?_;all_goals(refine Out.t' a (j+1,n,i) ?_ (by show 5001-(j+1)<5001-j;omega) (q:=IU);exact ⟨by show((j+1:Nat):Int)<=_;omega,F _ _ XF⟩)
 .have y:a8 .lss (j:Int) l=some false:=by simp[a8];omega
  have F:n2 c l z:=⟨j,w,p,.inl ac⟩
  clear a;unfold bJ c9 dm;refine aa 8 ?_;refine ai.v (V.cmp rfl rfl y) ?_;refine aa 25 ?_;all_goals exact⟨_,_,⟨R,z,_,F,rfl,rfl⟩,XC⟩
def uq(n:Int)(i:Nat)(x:c5):Prop:=∃b L s,x=.up b L s/\lI n (i:Int) 0 s.bD (gG n [] [] 0) s
structure lK(n:Int)(c:bo):Prop where
 aG:c.n=n
 len:(c.aS.length:Int)=n
 up:∀i x,c.aS[i]?=some x->uq n i x
 bQ:c.bQ=[]
 cut:c.cut=List.replicate 49 false
 lost:c.lost=0
 now:c.now=0
 told:c.told=[]
def GA(n:Int):uk n [] [] 0:=⟨λy G=>XW,rfl,cw _,rfl⟩
def uq.up(v:n=3\/n=5\/n=7){i:Nat}(ao:(i:Int)<n){x:c5}(h:uq n i x):∃b L s,x=.up b L s/\mH 2000 n 0 i s/\s.out=[]/\s.dw=[]/\s.leads=[]/\s.bp=[]/\s.aH=gG n [] [] 0/\s.told=[]:=by
 obtain⟨b,L,s,rfl,Z⟩:=h;obtain⟨F,M,g,z,N,E,k,a,Y⟩:=Z.up v ao ⟨ju _,XG⟩ (GA n);have J:mG s.aH [] []:=by rw[a];exact⟨λy G=>XW,rfl,rfl,λx=>rfl⟩
 exact⟨b,L,s,rfl,⟨F,M,N,[],J⟩,M,z,E,k,a,N⟩
def lK.y(v:n=3\/n=5\/n=7){c:bo}(h:lK n c):cP 2000 c:=by
 refine⟨⟨⟨by rw[h.aG];exact v,by rw[h.aG];exact h.len⟩,by rw[h.cut];rfl,by rw[h.bQ];exact cw _,by rw[h.lost];decide,by rw[h.told];exact cw _,by rw[h.now];decide⟩,λi b L s U=>?_,λi Q u l a W U=>?_,λx U=>?_⟩
 .have ao:=(cI.1 U).1;have E:=h.len;obtain⟨q,k,z,e,R,_⟩:=(h.up i _ U).up v ac;cases e;rw[h.aG,h.now];exact R
 .obtain⟨q,k,z,e,_⟩:=h.up i _ U;cases e
 .rw[h.bQ]at U;cases U
def aaf(l:ab c5)(x:c5):aL [e3 (l++[x])] (x.es++[e3 l]):=by unfold e3;refine aL.aI.trans ((aL.RS (bc:=x.es++l.flatMap c5.es) ?_).trans ((aL.refl _).append aL.aI.symm));rw[lP,fG,m2,dk];exact mZ
def aaI:iv fR:=λx=>by cases x<;>rfl
def acW(v:n=3\/n=5\/n=7):cX prog 44 [I n] (B true):=by have:=D5 n;rwa[iE v]at this
def GB(n:Int)(c6:n=3\/n=5\/n=7):ar prog 25 [I n] [cv] (λr Y=>∃b L c,lK n c/\r=.tuple #[au b 0,I 0]/\Y=bJ b L c):=by
 have hB:=acW c6;have Yo:ar prog 45 [] [] (λv Y=>∃b,v=au b 0/\Y=[aI (fl b (.slice none 0 0) [] (List.replicate 49 false) 0)]):=by refine ar.RR abP ?_;rintro v Y W D w⟨b,rfl,rfl⟩ cM;exact⟨_,⟨b,rfl,rfl⟩,cM.eqv aL.aI.symm⟩
 refine aB func25 λW=>?_;generalize bg _=D;refine ah.RK fL 112 1 ?_;refine ah.RK fR 36 1 ?_;refine ah.RK ft.c 67 8 ?_;refine aa 21 ?_;rintro _ _⟨P,rfl,rfl⟩;refine aq 2 λJ=>?_;refine aa 11 ?_;refine ah.eqv (aL.append (an:=[]) (bc:=[e3 []]) aL.aI.symm (aL.refl _)) ?_;obtain⟨R,Yk⟩:∃k:Nat,n=(k:Int):=⟨n.toNat,ac⟩
 refine ah.cb [16,4,0] (λz:ab c5×aj×aj=>z.1.length<=R/\(∀i x,z.1[i]?=some x->uq n i x)/\(z.1.length=0\/∃sJ m3 lw lx,z.2.1=.slice (some ⟨sJ,0,none⟩) z.1.length m3/\z.2.2=.slice (some ⟨lw,0,none⟩) z.1.length lx)) (λz=>[(17,I (z.1.length:Int))]) (λz=>[cells J 85 (jI.c ⟨n,z.2.1,z.2.2,au P 0,0,.slice none 0 0⟩),rows fL z.2.1 112 1 z.1,rows fR z.2.2 36 1 z.1,e3 z.1]) (λz=>R-z.1.length) ([],.slice none 0 0,.slice none 0 0) ⟨cw _,λi x h=>XU,.inl rfl⟩ ?_;rintro⟨l,du,ky⟩⟨fE,eU,ej⟩ K cu;dsimp only at fE eU ej;refine bh ?_;by_cases Yc:l.length<R
 .have eu:a8 .lss (l.length:Int) n=some true:=by simp only[a8];congr 1;rw[da];omega
  have C (bD:Nat) (v:aj):ar prog 47 [au bD 0,I n,I (l.length:Int),I 0] (fc bD v [] 0) (λr Y=>∃b L q,lI n (l.length:Int) 0 bD (gG n [] [] 0) q/\r=.tuple #[au b 0,I 0]/\Y=[aI (bX b L q)]):=by refine ar.RR (Ge bD v n (l.length:Int) 0 [] [] 0 c6 ⟨sd _,ac⟩ ⟨ju _,XG⟩ (λy G=>XW) rfl XG) ?_;rintro v Y W D w⟨b,L,q,cm,rfl,rfl⟩ cM;exact⟨_,⟨b,L,q,cm,rfl,rfl⟩,cM.eqv aL.aI.symm⟩
  have Q:=Kc;unfold fc at C Q;refine Mp ?_;refine aa 17 ?_;rintro _ _⟨o,Yn,rfl,rfl⟩;refine aa 9 ?_;refine ai.o' rfl (C _ _) ?_;rintro _ _⟨X,j,T,Yf,rfl,rfl⟩;refine aa 8 ?_;have dz:lI n (l.length:Int) 0 o (gG n [] [] 0) T:=XF
  have F:T.bD=o:=(dz.up c6 ac ⟨ju _,XG⟩ (GA n)).2.2.1;have Yi:uq n l.length (.up X j T):=⟨_,_,_,rfl,by rw[F];exact dz⟩
  generalize G:c5.up X j T=y at*;have Yl:y.ptr=au X 0:=by rw[<-G];rfl
  have Ym:y.bD=o:=by rw[<-G];exact F
  have N:y.es=bX X j T:=by rw[<-G];rfl
  refine ah.hC (aX:=[e3 (l++[y]),cells J 85 (jI.c ⟨n,du,ky,au P 0,0,.slice none 0 0⟩),rows fL du 112 1 l,rows fR ky 36 1 l,aI (fl P (.slice none 0 0) [] (List.replicate 49 false) 0),rows ft.c (.slice none 0 0) 67 8 [],cv]) (λw cB=>?_) ?_
  .have lu:=(aL.append (aL.aI (bc:=bX X j T)) (aL.refl [e3 l])).trans (by rw[<-N];exact(aaf l y).symm);have dd:=H.eqv (lu.append (aL.refl _)) (cB.Se (bc:=[aI (bX X j T),e3 l]) XC);exact dd.gB XC
  have u:fL y=[au o 0]:=by unfold fL;rw[Ym]
  have E:fR y=[au X 0]:=by unfold fR;rw[Yl]
  have M:[y].flatMap fL=[au o 0]:=by rw[fG,u];rfl
  have p:[y].flatMap fR=[au X 0]:=by rw[fG,E];rfl
  clear Q C;have Yg:(l++[y]).length=l.length+1:=by rw[bM];rfl
  have Yh:∀i x,(l++[y])[i]?=some x->uq n i x:=λi x U=>by
   by_cases ao:i<l.length
   .rw[pR ao]at U;exact eU i x U
   .rw[iu ac]at U;have ep:i-l.length=0:=by have:=(cI.1 U).1;rw[m4]at this;omega
    rw[ep,oZ]at U;cases U;rw[show i=l.length by omega];exact Yi
  have Ye:I ((l.length:Int)+1)=I (((l++[y]).length:Nat):Int):=by rw[Yg];rfl
  refine ah.RN [18,21] ?_ aA.j.j.j.j.j.d'.j aA.j.j.j.j.j.j.j;refine ae 5 0 ?_;refine ae 1 6 ?_;refine ae 3 9 ?_;refine ae 1 13 ?_;refine af.t 5 rfl (V.y' ad) ?_;refine af.t 12 rfl (V.y' ad) ?_;refine af.bu 7 14 rfl rfl ?_ ?_;refine O.N' ad fL [y] rfl (bx.one rfl bx.nil) M rfl (λYj=>?_);refine av ?_;refine af.bu 8 14 rfl rfl ?_ ?_;refine O.O' (f:=fL) (m:=[y]) ad rfl rfl XJ (ce.rows (f:=fL) (l:=[y]) ad XB (λ_=>rfl)) (λs g=>?_);refine av ?_;refine af.p' 14 rfl (O.N' ad fR [y] rfl (bx.one rfl bx.nil) p rfl (λZ=>?_));refine Pc λa d=>?_;rotate_left;refine O.N' ad fR [y] rfl (bx.one rfl bx.nil) p rfl (λZ=>?_);refine Qx λs g a d=>?_;rotate_left;refine O.N' ad fR [y] rfl (bx.one rfl bx.nil) p rfl (λZ=>?_);refine av ?_;refine af.p' 7 rfl (O.N' ad fL [y] rfl (bx.one rfl bx.nil) M rfl (λYj=>?_));refine Qx λs g a d=>?_;rotate_left;all_goals(refine Out.t' cu (l++[y],.slice (some ⟨s,0,none⟩) (l++[y]).length g,.slice (some ⟨a,0,none⟩) (l++[y]).length d) ?_ (by show R-(l++[y]).length<R-l.length;omega) (g:=dg.cons rfl Ye (dg.cons rfl rfl (dg.cons rfl rfl (dg.cons rfl rfl dg.nil))));exact ⟨by show(l++[y]).length<=R;omega,Yh,.inr ⟨_,_,_,_,rfl,rfl⟩⟩)
 .clear cu;have eu:a8 .lss (l.length:Int) n=some false:=by simp only[a8];congr 1;rw[j8];omega
  obtain⟨sJ,m3,lw,lx,rfl,rfl⟩:=ej.resolve_left ac;have F:lK n ⟨n,l,[],List.replicate 49 false,0,0,[]⟩:=⟨rfl,by show(l.length:Int)=n;omega,eU,rfl,rfl,rfl,rfl,rfl⟩
  refine Mp ?_;refine aa 18 ?_;all_goals exact⟨_,_,⟨J,⟨sJ,m3,lw,lx,P,.slice none 0 0,.slice none 0 0⟩,_,F,rfl,rfl⟩,XC⟩
abbrev oQ:bP->aj:=λd=>A d.c
structure oR where
 n:Int
 c:bo
 mh:ab (ag×bP)
 w:ab (ag×Int)
 c4:Int
structure qq where
 gP:Nat
 kr:Nat
 jT:Nat
 L:gh
def oS(f:Nat)(T:qq)(u:oR):ab ax:=[cells f 41 (iR.c ⟨au T.gP 0,u.n,.map (some T.kr),.map (some T.jT),u.c4⟩),bn bW oQ T.kr u.mh,bn bW ew T.jT u.w]++bJ T.gP T.L u.c
def PN:g1 prog 38 46 29=true:=rfl
def adf:g1 prog 39 46 3=true:=rfl
def PP(n:Int)(a:n=3\/n=5\/n=7):ar prog 10 [I n] [cv] (λr Y=>∃j T u,(lK n u.c/\u.n=n/\u.mh=[]/\u.c4=0)/\r=au j 0/\Y=oS j T u):=by
 have p:ar prog 25 [I n] [cv] (λr Y=>∃b L c,lK n c/\r=.tuple #[au b 0,I 0]/\Y=[aI (bJ b L c)]):=by refine ar.RR (GB n a) ?_;rintro v Y W D w⟨b,L,c,F,rfl,rfl⟩ f;exact⟨_,⟨b,L,c,F,rfl,rfl⟩,f.eqv aL.aI.symm⟩
 suffices i:ar prog 10 [I n] [cv] (λr Y=>∃j b L c d X,lK n c/\r=au j 0/\Y=[cells j 41 (iR.c ⟨au b 0,n,.map (some d),.map (some X),0⟩),bn bW oQ d [],bn bW ew X [],aI (bJ b L c)]) by refine ar.RR i ?_;rintro v Y W D w⟨j,b,L,c,d,X,F,rfl,rfl⟩ f;refine⟨_,⟨j,⟨b,d,X,L⟩,⟨n,c,[],[],0⟩,⟨F,rfl,rfl,rfl⟩,rfl,rfl⟩,?_⟩;have M:=f.eqv (aL.append (aL.refl [cells j 41 (iR.c ⟨au b 0,n,.map (some d),.map (some X),0⟩),bn bW oQ d [],bn bW ew X []]) (aL.aI (bc:=bJ b L c)));unfold oS;exact M
 refine aB func10 λW=>?_;refine aa 9 ?_;rintro _ _⟨x,w,c,R,rfl,rfl⟩;refine aa 12 ?_;refine ai.o (aw.mkMap bW oQ rfl (λC=>?_));refine ai.o (aw.mkMap bW oQ rfl (λt=>?_));refine aq 1 λJ=>?_;refine aa 5 ?_;all_goals exact⟨_,_,⟨_,_,_,_,_,_,XF,rfl,rfl⟩,XC⟩
inductive gU(c:bo)(a:gs):bo->Option ag->Prop where
 |sub {b6:bo} {x:ag} {e:Int} (cc:a.Kind=0) (h:ma c a.be a.cz x e b6):gU c a b6 (if e=0 then some x else none)
 |take {b6:bo} {e:Int} (cc:a.Kind=1) (h:mI c a.N e b6):gU c a b6 none
 |half {b6:bo} {e:Int} (cc:a.Kind=2) (h:sL c a.N e b6):gU c a b6 none
 |Bc {b6:bo} {e:Int} (cc:a.Kind=3) (h:um c a.N e b6):gU c a b6 none
 |Bd {b6:bo} {e:Int} (cc:a.Kind=4) (h:sO c a.N e b6):gU c a b6 none
 |tick {b6:bo} {e:Int} (cc:a.Kind=5) (gB:Nat->Bool) (h:rC gB c e b6):gU c a b6 none
 |wl {b6:bo} {e:Int} (cc:a.Kind=6) (h:sM c a.be e b6):gU c a b6 none
 |start {b6:bo} {e:Int} (cc:a.Kind=7) (h:sN c a.be e b6):gU c a b6 none
 |cut (cc:a.Kind=8):gU c a {c with cut:=jY c.cut a.be a.N} none
 |Be (cc:a.Kind=9):gU c a {c with cut:=List.replicate 49 false} none
 |settle {b6:bo} (cc:a.Kind=10) (h:n2 c (Min.min a.N 60) b6):gU c a b6 none
 |none (cc:a.Kind<0\/10<a.Kind):gU c a c none
def GC(m:ab (ag×bP))(d:bP):aQ ag->ab (ag×bP)
 |some x=>bw m x d
 |.none=>m
def ur(u:oR)(a:gs)(i:oR):Prop:=∃o,gU u.c a i.c o/\i.mh=GC u.mh a.cz o/\i.c4=u.c4+1/\i.n=u.n
def gU.cx{c:bo}{a:gs}{o:aQ ag}(h:cP k c)(T:k<=1000000000000)(t:gU c a P o):cP (k+70000000) P:=by
 cases t with
 |sub _ F=>exact(F.cx h).mono ac
 |take _ F=>exact(F.cx h).mono ac
 |half _ F=>exact(F.cx h).mono ac
 |Bc _ F=>exact(F.cx h).mono ac
 |Bd _ F=>exact(F.cx h).mono ac
 |tick _ D F=>exact(F.cx h).mono ac
 |wl _ F=>exact(F.cx h).mono ac
 |start _ F=>exact(F.cx h T).mono ac
 |cut _=>exact(h.VC ((aa0 ..).trans h.cut)).mono ac
 |Be _=>exact(h.VC rfl).mono ac
 |settle _ F=>
  obtain⟨j,p,M,_⟩:=F;have:j<=60:=ac
  exact(p.cx h).mono ac
 |none _=>exact h.mono ac
end Go.Proofs.YteogojgnkjegmaaGreatDoor
