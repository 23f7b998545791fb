/-
 Part of the proof.
-/
import Derived.Test.YteogojgnkjegmaaGreatDoorXy
set_option linter.all false
set_option maxRecDepth 8000
set_option maxHeartbeats 8000000
namespace Go.Proofs.YteogojgnkjegmaaGreatDoor
open Go.ay Go.Proofs.Tryz
variable[Go.ay.bR]
variable{n:Int}{Q:Nat->Bool}{F:ag->aQ aV}{D:Type}{R:Nat}{Z:ag->aQ aV}{m:aD}{k:Int}{s1:aC}{e:Int}{b:Nat}
def PQ(dG:Nat)(T:qq)(u:oR)(a:gs)(k:Nat)(h:cP k u.c)(cc:k<=70000000000)(c8:0<=u.c4/\u.c4<=1000000)(cf:0<=a.o5/\a.o5<256):ar prog 11 [au dG 0,A a.c] (oS dG T u) (λr Yc=>∃adC iD,ur u a iD/\r=.tuple #[]/\Yc=oS dG adC iD):=by
 obtain⟨N,c,p,w,c4⟩:=u;obtain⟨m,g,X,L⟩:=T;obtain⟨F,Y,d,n,M,sp⟩:=a;dsimp only at h c8 cf;obtain⟨Yo,Yg⟩:∃b:aP,sp=(b.toNat:Int):=⟨UInt8.ofNat sp.toNat,by rw[UInt8.toNat_ofNat'];omega⟩
 subst Yg;have U (P:bo) (o:aQ ag) (s:ab (ag×Int)) (f:gU c ⟨F,Y,d,n,M,(Yo.toNat:Int)⟩ P o):ur ⟨N,c,p,w,c4⟩ ⟨F,Y,d,n,M,(Yo.toNat:Int)⟩ ⟨N,P,GC p d o,s,c4+1⟩:=⟨o,f,rfl,rfl,rfl⟩
 have G (j:Int) (eB:F≠j):a8 .eql F j=some false:=by simp[a8,eB]
 unfold oS;refine bh ?_;by_cases jb:F=1
 .subst jb;have K:=Gr m L c n k h ac;have J:=λP o s f=>U P o s f;unfold bJ c9 dm at K⊢;refine aB func11 λW=>?_;generalize bg _=D;refine aq 2 λfI=>?_;refine aa 34 ?_;refine ah.c (λy=>?_) (λy=>?_);replace y:=fT y;refine Hp λYz YA YR Yh=>?_;rotate_left;exact ko y;all_goals exact⟨_,_,⟨⟨m,g,X,Yz⟩,_,J YA none w (gU.take rfl XF),rfl,rfl⟩,XC⟩
 by_cases kd:F=2
 .subst kd;have K:=Pv m L c n M Yo k h ac;have J:=λP o s f=>U P o s f;unfold bJ c9 dm at K⊢;refine aB func11 λW=>?_;generalize bg _=D;refine aq 2 λfI=>?_;refine aa 41 ?_;refine ah.c (λi=>?_) (λi=>?_);replace i:=fT i;refine Md λYB YC YS Yk=>?_;rotate_left;exact ko i;all_goals exact⟨_,_,⟨⟨m,g,X,YB⟩,_,J YC none w (gU.half rfl XF),rfl,rfl⟩,XC⟩
 by_cases AU:F=3
 .subst AU;have K:=aeL m L c n k h.toClP ac;have J:=λP o s f=>U P o s f;unfold bJ c9 dm at K⊢;refine aB func11 λW=>?_;generalize bg _=D;refine aq 2 λfI=>?_;refine aa 48 ?_;refine ah.c (λZ=>?_) (λZ=>?_);replace Z:=fT Z;refine Hp λYD YE YT Ym=>?_;rotate_left;exact ko Z;all_goals exact⟨_,_,⟨⟨m,g,X,YD⟩,_,J YE none w (gU.Bc rfl XF),rfl,rfl⟩,XC⟩
 by_cases AV:F=4
 .subst AV;have K:=afw m L c n k h.toClP;have J:=λP o s f=>U P o s f;unfold bJ c9 dm at K⊢;refine aB func11 λW=>?_;generalize bg _=D;refine aq 2 λfI=>?_;refine aa 55 ?_;refine ah.c (λC=>?_) (λC=>?_);replace C:=fT C;refine Hp λYF YG YU Yn=>?_;rotate_left;exact ko C;all_goals exact⟨_,_,⟨⟨m,g,X,YF⟩,_,J YG none w (gU.Bd rfl XF),rfl,rfl⟩,XC⟩
 by_cases sB:F=6
 .subst sB;have K:=ae2 m L c Y M Yo k h;have J:=λP o s f=>U P o s f;unfold bJ c9 dm at K⊢;refine aB func11 λW=>?_;generalize bg _=D;refine aq 2 λfI=>?_;refine aa 69 ?_;refine ah.c (λR=>?_) (λR=>?_);replace R:=fT R;refine Md λYt Yu YL Yp=>?_;rotate_left;exact ko R;all_goals exact⟨_,_,⟨⟨m,g,X,Yt⟩,_,J Yu none w (gU.wl rfl XF),rfl,rfl⟩,XC⟩
 by_cases GD:F=7
 .subst GD;have K:=acf m L c Y k h ac;have J:=λP o s f=>U P o s f;unfold bJ c9 dm at K⊢;refine aB func11 λW=>?_;generalize bg _=D;refine aq 2 λfI=>?_;refine aa 76 ?_;refine ah.c (λQ=>?_) (λQ=>?_);replace Q:=fT Q;refine Hp λYv Yw YM Yr=>?_;rotate_left;exact ko Q;all_goals exact⟨_,_,⟨⟨m,g,X,Yv⟩,_,J Yw none w (gU.start rfl XF),rfl,rfl⟩,XC⟩
 by_cases Ys:F=10
 .subst Ys;have K:=Gz m L c (Min.min n 60) k h ac ac;unfold bJ c9 dm at K⊢;refine aB func11 λW=>?_;generalize bg _=D;refine aq 2 λfI=>?_;refine aa 97 ?_;refine ah.c (λYl=>?_) (λYl=>?_);replace Yl:=fT Yl;refine ah.n' ?_ aA.j.j.j.j.j.j.j.j.j.d'.d';refine ae 7 0 ?_;refine af.o' 7 rfl rfl (K) ?_;rintro _ _⟨Yx,Yy,YN,Yq,rfl,rfl⟩;refine aa 5 ?_;rotate_left;exact ko Yl;all_goals exact⟨_,_,⟨⟨m,g,X,Yx⟩,_,U Yy none w (gU.settle rfl XF),rfl,rfl⟩,XC⟩
 by_cases GF:F=8
 .subst GF;have K:=Gw m L c Y n k h.toClP;unfold bJ c9 dm at K⊢;refine aB func11 λW=>?_;generalize bg _=D;refine aq 2 λfI=>?_;refine aa 83 ?_;refine ah.c (λE=>?_) (λE=>?_);replace E:=fT E;refine ah.n' ?_ aA.j.j.j.j.j.j.j.j.j.d'.d';refine ae 8 0 ?_;refine af.o' 8 rfl rfl (K) ?_;refine aa 5 ?_;rotate_left;exact ko E;all_goals exact⟨_,_,⟨⟨m,g,X,L⟩,_,U _ none w (gU.cut rfl),rfl,rfl⟩,XC⟩
 by_cases GG:F=9
 .subst GG;have K:=PG m L c k h.toClP;unfold bJ c9 dm at K⊢;refine aB func11 λW=>?_;generalize bg _=D;refine aq 2 λfI=>?_;refine aa 90 ?_;refine ah.c (λq=>?_) (λq=>?_);replace q:=fT q;refine aa 10 ?_;rotate_left;exact ko q;all_goals exact⟨_,_,⟨⟨m,g,X,L⟩,_,U _ none w (gU.Be rfl),rfl,rfl⟩,XC⟩
 by_cases GH:F=0
 .subst GH;have K:=Gn m L c Y d k h ac;unfold bJ c9 dm at K⊢;refine aB func11 λW=>?_;generalize bg _=D;have YO:=U;refine aq 2 λfI=>?_;refine aa 27 ?_;refine ah.c (λt=>?_) (λt=>?_);replace t:=fT t;rotate_left;exact ko t;refine ah.mt [0,3] (λz:Nat×gh×bo×ag×Int=>ma c Y d z.2.2.2.1 z.2.2.2.2 z.2.2.1) (λz=>[(4,au z.1 0),(5,I z.2.2.2.2)]) (λz=>cells z.1 46 z.2.2.2.1.c::bJ m z.2.1 z.2.2.1) (b:=bJ m L c) ?_ ?_
  .intro fa Ye;unfold bJ c9 dm at Ye;refine ah.n' ?_ aA.j.j.j.j.j.j.j.j.j.d'.d';refine ae 8 0 ?_;refine af.bu 8 12 rfl rfl ?_ ?_;refine aw.R' rfl (K) XC ?_;rintro _ _⟨YP,YQ,YV,YW,Yf,rfl,rfl⟩;refine K1 λfp=>?_;refine av ?_;rotate_left;refine O.K' ad (λfp=>?_);refine av ?_;refine af.o' 8 rfl rfl (K) ?_;rintro _ _⟨YH,YI,YJ,YK,Yp,rfl,rfl⟩;refine Rs ?_;rotate_left;all_goals exact Out.t' Ye (_,_,_,_,_) XF trivial
  rintro⟨fp,pu,jH,x,e⟩ Yj;dsimp only at Yj;unfold bJ c9 dm;refine bh ?_;by_cases ea:e=0
  .subst ea;have Yi:=λs=>U jH (some x) s (by have h:=gU.sub (a:=⟨0,Y,d,n,M,(Yo.toNat:Int)⟩) rfl Yj;rw[aT rfl]at h;exact h);refine aa 8 ?_;refine ah.n' ?_ aA.j.j.d'.d'.j.j.j.j.j.j.j.d';refine ae 7 0 ?_;refine af.p' 7 rfl (aw.R1 (l:=p) (k:=x) (v:=d) (bN:=bW) (aR:=oQ) cq PN rfl rfl rfl XH ?_);refine aa 3 ?_;refine ah.n' ?_ aA.j.j.d'.j.j.j.j.j.j.j.j.d';refine ae 9 0 ?_;refine af.p' 9 rfl (aw.R1 (l:=w) (k:=x) (v:=c4+1) (bN:=bW) (aR:=ew) cq adf rfl rfl rfl XH ?_);refine aa 4 ?_;all_goals exact⟨_,_,⟨⟨m,g,X,pu⟩,_,Yi _,rfl,rfl⟩,XC⟩
  .have J:=U jH none w (by have h:=gU.sub (a:=⟨0,Y,d,n,M,(Yo.toNat:Int)⟩) rfl Yj;rw[aN ea]at h;exact h);have fS:a8 .eql e 0=some false:=by simp[a8,ea]
   refine aa 3 ?_;refine ai.v (V.cmp rfl rfl fS) ?_;refine aa 6 ?_;all_goals exact⟨_,_,⟨⟨m,g,X,pu⟩,_,J,rfl,rfl⟩,XC⟩
 by_cases xZ:F=5
 .subst xZ;by_cases lg:Y<0
  .have K:=Ba m L c (rows ns (.slice none 0 0) 3 1 []) none 0 0 0 [] Rd.nil XE (λ_=>true) (λ_=>rfl) k h ac;have fS:a8 .lss Y 0=some true:=by simp[a8,lg]
   unfold bJ c9 dm at K⊢;refine aB func11 λW=>?_;generalize bg _=D;refine ah.RK ns 3 1 ?_;refine aq 2 λfI=>?_;refine aa 62 ?_;refine ah.c (λN=>?_) (λN=>?_);replace N:=fT N;refine aa 4 ?_;refine ai.v (V.cmp rfl rfl fS) ?_;refine aa 9 ?_;rintro _ _⟨Q,T,C,M,rfl,rfl⟩;refine aa 4 ?_;rotate_left;exact ko N;all_goals exact⟨_,_,⟨⟨m,g,X,Q⟩,_,U T none w (gU.tick rfl _ XF),rfl,rfl⟩,XC⟩
  .have K:=λp=>Ba m L c (rows ns (.slice (some ⟨p,0,none⟩) 1 1) 3 1 [Y]) (some ⟨p,0,none⟩) 1 p 0 [Y] (Rd.rows (f:=ns) (l:=[Y]) (λ_=>rfl) XE) XE (λi=>decide ((i:Int)=Y)) (λi=>XE) k h ac;have fS:a8 .lss Y 0=some false:=by simp[a8,lg]
   unfold bJ c9 dm at K⊢;refine aB func11 λW=>?_;generalize bg _=D;refine aq 2 λfI=>?_;refine aa 62 ?_;refine ah.c (λN=>?_) (λN=>?_);replace N:=fT N;refine aa 4 ?_;refine ai.v (V.cmp rfl rfl fS) ?_;refine aa 3 ?_;refine ah.n' ?_ aA.j.j.j.j.j.j.j.j.j.d'.d';refine ae 6 0 ?_;refine af.p' 6 rfl (O.N' ad ns [Y] rfl (bx.one rfl bx.nil) rfl rfl (λC=>?_));refine av ?_;refine af.o' 7 rfl rfl (K _) ?_;rintro _ _⟨E,q,C,M,rfl,rfl⟩;refine aa 5 ?_;rotate_left;exact ko N;all_goals exact⟨_,_,⟨⟨m,g,X,E⟩,_,U q none w (gU.tick rfl _ XF),rfl,rfl⟩,XC⟩
 have M:F<0\/10<F:=ac
 have Q:=G 0 GH;have q:=G 1 jb;have o:=G 2 kd;have y:=G 3 AU;have a:=G 4 AV;have y:=G 5 xZ;have y:=G 6 sB;have y:=G 7 GD;have Q:=G 8 GF;have u:=G 9 GG;have T:=G 10 Ys;unfold bJ c9 dm;refine aB func11 λW=>?_;generalize bg _=D;refine aq 2 λfI=>?_;refine aa 23 ?_;refine NR ?_;refine aa 6 ?_;refine NR ?_;refine aa 6 ?_;refine ai.v (V.cmp rfl rfl XF) ?_;refine aa 7 ?_;all_goals exact⟨_,_,⟨⟨m,g,X,L⟩,_,U c none w (gU.none M),rfl,rfl⟩,XC⟩
structure agf(n:Int)(xs:ab gs):Prop where
 n:n=3\/n=5\/n=7
 len:xs.length<=50
 aei:∀x∈xs,x.cz.Key.length+x.cz.Value.length<=100
def af8(n:Int)(e:ax)(m:aQ Go.Addr)(C b off:Nat)(Z:ab gs)(y:∀x∈Z,x.cz.Key.length<=140737488351232/\x.cz.Value.length<=140737488351232)(E:Rd e m Z.length b off 11 (Z.map gs.c)):ar prog 9 [I n,.slice m Z.length C] [e] (λr Y=>∃t,(t=false->agf n Z)/\r=B t/\Y=[e]):=by
 have R:=E.small;simp only[Go.maxLen]at R;refine aB func9 λW=>?_;refine aa 14 ?_;refine ah.cb [8,7,1,0] (λk:Nat=>k<=Z.length/\∀x∈Z.take k,x.cz.Key.length+x.cz.Value.length<=100) (λk=>[(9,I (k:Int))]) (λ_=>[]) (λk=>Z.length-k) 0 ⟨cw _,XE⟩ ?_;rintro k⟨T,s⟩ K a;refine bh ?_;by_cases l:k<Z.length
 .obtain⟨d,i⟩:=b8 l;have Q:=y d (j5 i);refine aq 15 λX=>?_;refine aa 17 ?_;refine ah.cs (λF=>?_) (λF=>?_);refine aa 12 ?_
  .exact⟨_,_,⟨true,aaQ,rfl,rfl⟩,XC⟩
  refine aa 7 ?_;rotate_left;refine Out.t' a (k+1) ?_ Ph;exact ⟨ac,λx U=>by
   rw[kl i,eN,iz]at U;rcases U with U|rfl
   .exact s x U
   .omega⟩
 .obtain rfl:k=Z.length:=by omega
  rw[hE]at s;clear a;refine aa 17 ?_;refine ai.aU (λD=>?_) (λD=>?_);refine RE (λo=>?_) λo=>?_;refine RE (λL=>?_) λL=>?_;refine aa 9 ?_
  exact Jt
  refine aa 9 ?_
  exact Jt
  refine aa 13 ?_
  exact Jt
  refine aa 17 ?_
  exact Jt
def wm:bP:={bP.z with Kind:=2,Key:=[97]}
def Bf(c:bo):Prop:=∃P z x e,lK 3 P/\ma P 0 wm x e z/\n2 z 100 c
def wn(l:ab ft):Bool:=decide (l.map (λt=>t.t.ge)=[1])
def ar.Um{P:bF}{f:eg}{args:ab aj}{l:ab ax}{Q:D->aj->Prop}{T:D->ab ax}(h:ar P f args l (λr Y=>∃z,Q z r/\Y=T z)):ar P f args [aI l] (λr Y=>∃z,Q z r/\Y=[aI (T z)]):=by refine ar.eqv aL.aI h ?_;rintro v Y⟨z,bb,rfl⟩;exact⟨_,⟨z,bb,rfl⟩,aL.aI.symm⟩
def agc(n:Int)(a:n=3\/n=5\/n=7):ar prog 25 [I n] [cv] (λr Y=>∃b L c,(lK n c/\cP 2000 c)/\r=.tuple #[au b 0,I 0]/\Y=[aI (bJ b L c)]):=by refine ar.RR (GB n a) ?_;rintro v Y W D w⟨b,L,c,F,rfl,rfl⟩ f;exact⟨_,⟨b,L,c,⟨F,lK.y a F⟩,rfl,rfl⟩,f.eqv aL.aI.symm⟩
def PV(b:Nat)(L:gh)(c:bo)(U:Int)(d:bP)(k:Nat)(h:cP k c)(E:k<=90000000000):ar prog 18 [au b 0,I U,A d.c] [aI (bJ b L c)] (λr Y=>∃n P x e,ma c U d x e P/\r=.tuple #[A x.c,I e]/\Y=[aI (bJ b n P)]):=by
 have F:=ar.Um (Q:=λz r=>ma c U d z.2.2.1 z.2.2.2 z.2.1/\r=.tuple #[A z.2.2.1.c,I z.2.2.2]) (T:=λz:gh×bo×ag×Int=>bJ b z.1 z.2.1) (ar.mono (Gn b L c U d k h E) (by rintro r Y⟨n,P,x,e,F,M,g⟩;exact⟨(n,P,x,e),⟨F,M⟩,g⟩))
 refine ar.mono F ?_;rintro r Y⟨⟨n,P,x,e⟩,⟨F,M⟩,g⟩;exact⟨n,P,x,e,F,M,g⟩
def GI(b:Nat)(L:gh)(c:bo)(m:Int)(k:Nat)(h:cP k c)(E:k<=80000000000)(K:m<=5000):ar prog 17 [au b 0,I m] [aI (bJ b L c)] (λr Y=>∃i P n,n2 c m P/\r=I n/\Y=[aI (bJ b i P)]):=by
 have F:=ar.Um (Q:=λz r=>n2 c m z.2.1/\r=I z.2.2) (T:=λz:gh×bo×Int=>bJ b z.1 z.2.1) (ar.mono (Gz b L c m k h E K) (by rintro r Y⟨i,P,n,F,M,g⟩;exact⟨(i,P,n),⟨F,M⟩,g⟩))
 refine ar.mono F ?_;rintro r Y⟨⟨i,P,n⟩,⟨F,M⟩,g⟩;exact⟨i,P,n,F,M,g⟩
def aeT:ar prog 8 [] [cv] (λr Y=>∃c,Bf c/\r=B (wn c.told)/\Y=[cv]):=by
 have nK:=agc 3 ac;refine aB func8 λW=>?_;generalize bg _=D;refine aa 8 ?_;rintro ni i9⟨P,⟨PX,⟨d,⟨⟨R,K⟩,rfl,rfl⟩⟩⟩⟩;refine aa 22 ?_;have Q:lK 3 d:=XF
 have N:cP 2000 d:=XF
 have hB:=PV P PX d 0 wm 2000 N ac;refine av ?_;rintro _ _⟨L,n,a,X,R,rfl,rfl⟩;refine aa 3 ?_;have T:ma d 0 wm a X n:=XF
 have E:=T.cx N;have Ye:=GI P L n 100 _ E ac ac;refine aa 4 ?_;rintro _ _⟨i,q,Yf,R,rfl,rfl⟩;refine aa 3 ?_;have u:n2 n 100 q:=XF
 have k:cP (2000+1042200+1042300*100) q:=by obtain⟨j,U,dd,_⟩:=u;exact(U.cx E).mono ac
 have s:Bf q:=⟨d,n,a,X,Q,T,u⟩
 have Z:=Gu P i q _ k.toClP ac;refine ah.hC (aX:=bJ P i q) (λw h=>h.eqv aL.aI) ?_;rcases m:q.told with _|⟨t,_|⟨x,l⟩⟩
 .unfold bJ c9 dm at Z⊢;rw[m]at Z⊢;dsimp only[List.length_nil]at Z;refine aa 4 ?_;rintro _ _⟨z,p,rfl,rfl⟩;refine aa 18 ?_;all_goals exact⟨_,_,⟨q,s,by rw[m];rfl,rfl⟩,XC⟩
 .have y:ar prog 15 [au P 0] (bJ P i q) (λr Y=>∃g C,r=.slice (some ⟨g,0,none⟩) 1 C/\Y=rows ft.c (.slice (some ⟨g,0,none⟩) 1 C) 67 8 [t]::bJ P i q):=by refine ar.RR Z ?_;rintro v Y W D w⟨J,C,rfl,rfl⟩ b;obtain⟨Yc,o,sq,F,G⟩:=hM (f:=ft.c) (v:=.slice J q.told.length C) (l:=q.told) ft.SN iT w b;cases F;have M:=G.addr (by rw[m];exact Nat.one_pos);subst M;rw[m]at b⊢;exact⟨_,⟨sq,C,rfl,rfl⟩,b⟩
  unfold bJ c9 dm at y⊢;rw[m]at y⊢;refine aa 4 ?_;rintro _ _⟨X,p,rfl,rfl⟩;refine aa 6 ?_;rintro _ _⟨u,Q,rfl,rfl⟩;refine av ?_;refine ai.v (V.x' ad (k:=0) rfl rfl) ?_;refine aa 3 ?_;refine ai.v (V.SX ad (k:=0) (o:=4) (v:=I t.t.ge) rfl XB ft.SN (show[t][0]?=some t from rfl)) ?_;refine aa 7 ?_;all_goals exact⟨_,_,⟨q,s,by rw[m];simp[wn],rfl⟩,XC⟩
 .unfold bJ c9 dm at Z⊢;rw[m]at Z⊢;have W:a8 .eql (((t::x::l).length:Nat):Int) 1=some false:=by simp[a8];omega
  generalize(t::x::l).length=C at Z W;refine aa 4 ?_;rintro _ _⟨z,p,rfl,rfl⟩;refine aa 2 ?_;refine ai.v (V.cmp rfl rfl W) ?_;refine aa 15 ?_;all_goals exact⟨_,_,⟨q,s,by rw[m];simp[wn],rfl⟩,XC⟩
theorem k5{a b:Int}(o:0<=a)(R:0<=b){r s:ab aP}(h:bt a++r=bt b++s):a=b/\r=s:=by
 have n:∀{a b:Int},0<=a->0<=b->∀{r s:ab aP},bt a++r=bt b++s->(bt a).length<=(bt b).length->a=b:=by grind [agq,List.take,bt,List.take_left]
 grind [Nat.le_total,bt,List.append_cancel_left]
def PY{x y:ag}(U:bB x n=true)(G:bB y n=true){r s:ab aP}(h:iV x++r=iV y++s):x=y/\r=s:=by obtain⟨n,_,g,_⟩:=kN U;obtain⟨J,_,U,_⟩:=kN G;unfold iV at h;simp only[cd]at h;obtain⟨b,h⟩:=k5 n J h;obtain⟨J,w⟩:=k5 ac ac h;obtain⟨a,b⟩:=x;obtain⟨p,q⟩:=y;grind
theorem GJ{x y:bk}(U:eD x n=true)(G:eD y n=true){r s:ab aP}(h:hs x++r=hs y++s):x=y/\r=s:=by obtain⟨n,_,g,_⟩:=ou U;obtain⟨J,_,U,_⟩:=ou G;unfold hs at h;simp only[cd]at h;obtain⟨b,h⟩:=k5 n J h;obtain⟨J,w⟩:=k5 g U h;obtain⟨a,b⟩:=x;obtain⟨p,q⟩:=y;grind
def GK{k l r s:ab aP}(h:bt (k.length:Int)++(k++r)=bt (l.length:Int)++(l++s)):k=l/\r=s:=by obtain⟨e,h⟩:=k5 (sd _) (sd _) h;grind [List.append_inj]
def abb{x y:bP}(U:cK x)(G:cK y){r s:ab aP}(h:na x++r=na y++s):x=y/\r=s:=by obtain⟨⟨n,_,g,_,c,_⟩,u⟩:=U;obtain⟨⟨J,_,U,_,t,_⟩,Y⟩:=G;unfold na at h;simp only[cd]at h;obtain⟨b,h⟩:=k5 ac ac h;obtain⟨J,h⟩:=GK h;obtain⟨p,h⟩:=GK h;obtain⟨T,h⟩:=k5 ac ac h;obtain⟨c,h⟩:=k5 ac ac h;obtain⟨u,w⟩:=k5 ac ac h;obtain⟨m,Z,z,b,c,t⟩:=x;obtain⟨W,l,Z,j,T,q⟩:=y;grind
def P0{x y:bI}(U:e9 x n=true)(G:e9 y n=true){r s:ab aP}(h:rf x++r=rf y++s):x=y/\r=s:=by have jK:=sc U;have f:=sc G;obtain⟨q,m,Z,z,b,c,t⟩:=x;obtain⟨K,W,l,Z,j,T,q⟩:=y;simp only[bI.l,dq,iU,fU,forall_eq_or_imp,forall_eq]at jK f;simp only[rf,bI.l,fG,m2,cd,gi]at h;grind [k5]
theorem abk{x y:aV}(U:eQ x n=true)(G:eQ y n=true){r s:ab aP}(h:ja x++r=ja y++s):x=y/\r=s:=by obtain⟨n,g,c,_⟩:=nQ U;obtain⟨J,U,t,_⟩:=nQ G;unfold ja at h;simp only[cd]at h;obtain⟨b,h⟩:=abb n J h;obtain⟨J,h⟩:=P0 g U h;obtain⟨p,w⟩:=k5 c t h;obtain⟨a,b,c⟩:=x;obtain⟨p,q,P⟩:=y;grind
def aeU(a b:Bool){r s:ab aP}(h:bt (if a then 1 else 0)++r=bt (if b then 1 else 0)++s):a=b/\r=s:=by obtain⟨e,h⟩:=k5 (by split<;>omega) (by split<;>omega) h;grind
def aan{o:aD}(K:gQ m n)(Z:gQ o n)(h:he m=he o):m=o:=by
 have h:he m++[]=he o++[]:=by rw[h]
 unfold he at h;simp only[cd]at h;have b:=K.jb;have E:=Z.jb;obtain⟨y,h⟩:=k5 ac ac h;obtain⟨J,h⟩:=k5 K.f1 Z.f1 h;obtain⟨p,h⟩:=k5 K.t1 Z.t1 h;obtain⟨T,h⟩:=PY K.item Z.item h;obtain⟨c,h⟩:=GJ K.b2 Z.b2 h;have T:(mr m++(ks m++(jN m++[])))=(mr o++(ks o++(jN o++[])))->m.cY=o.cY/\m.Status=o.Status/\ks m++(jN m++[])=ks o++(jN o++[]):=by
  intro h;unfold mr at h;rw[<-y]at h;by_cases T:h0 m.Kind.toNat=true
  .rw[aT T,aT T]at h;simp only[cd]at h;obtain⟨g,s1,_⟩:=K.known T;obtain⟨l,s2,_⟩:=Z.known (y▸T);grind [GJ,k5]
  .rw[aN T,aN T]at h;have F:=K.bare (Bool.eq_false_iff.2 T);have M:=Z.bare (Bool.eq_false_iff.2 (y▸T));grind
 obtain⟨u,p,h⟩:=T h;have Q:ks m++(jN m++[])=ks o++(jN o++[])->m.dB=o.dB/\jN m++[]=jN o++[]:=by
  intro h;unfold ks at h;rw[<-y]at h;by_cases T:(h0 m.Kind.toNat||m.Kind==2)=true
  .rw[aT T,aT T]at h;exact aeU _ _ h
  .rw[aN T,aN T]at h;refine⟨?_,h⟩;have g (q:aD) (bb:gQ q n) (e:q.Kind=m.Kind):q.dB=false:=by
    cases b:q.dB with
    |false=>rfl
    |true=>
     exfalso;apply T;rcases bb.same b with h|h
     .grind
     .grind
   grind
 obtain⟨R,h⟩:=Q h;have u:m.Call=o.Call:=by unfold jN at h;rw[<-y]at h;have z:=K.call;have N:=Z.call;grind [iX,abk]
 obtain⟨y,Z,z,b,c,t,T,E,r⟩:=m;obtain⟨W,l,Z,j,T,q,x,D,t⟩:=o;grind
def GL{o:aD}(v:n<=7)(K:eo m n=true)(Z:eo o n=true)(h:gj m=gj o):m=o:=by have K:=iY.1 K;have Z:=iY.1 Z;have x:=vA v K;have l:=vA v Z;refine aan K Z ?_;unfold gj gb at h;rw[aN ac,aN ac]at h;simp only[cd]at h;obtain⟨e,h⟩:=k5 (sd _) (sd _) h;exact(List.append_inj h rfl).2
def rD{s z:aC}(h:ki s z)(N:s.run.cF=[]):z=s:=by
 obtain⟨Z,p,X,k,G,q,K,j,⟨_,_,x⟩,rfl⟩:=h;obtain⟨rfl,rfl⟩:=q.none N;obtain rfl:=K.no N;obtain rfl:k=[]:=XK
 obtain rfl:=x.1 rfl;rw[dk];rfl
theorem GM{s z:aC}(h:iH s z):z=s\/∃m n s2,s.inbox=m::n/\fK {s with inbox:=n} m s2/\iH s2 z:=by
 induction h with
 |refl=>exact ut rfl
 |step h ao K u=>
  right;rcases u with rfl|⟨x,G,s2,F,M,g⟩
  .exact⟨_,_,_,ao,K,iH.refl _⟩
  .exact⟨x,G,s2,F,M,g.step ao K⟩
def uu{s z:aC}(h:jB s z)(ao:s.inbox=[]):ki s z:=by obtain⟨s1,F,M,g⟩:=h;grind [GM,ao]
def Bg{s z:aC}{n:ab aD}(h:jB s z)(ao:s.inbox=m::n):∃s2,fK {s with inbox:=n} m s2/\jB s2 z:=by
 obtain⟨s1,F,M,g⟩:=h;rcases GM F with rfl|⟨x,G,s2,e,W,N⟩
 .grind
 .rw[ao]at e;cases e;exact⟨s2,W,s1,N,M,g⟩
def tK(s:bE)(x:ag)(i:ba):(s.add x i).p=s.p.set x i:=by grind [bE.add,bE.Tn]
theorem uv{s:bE}(h:s.ok){x:ag}(U:bB x s.n=true)(i:ba)(y:ag):(s.add x i).p.at y=if y=x then some i else s.p.at y:=by rw[tK,aJ.Sn h.p,h.aS];grind
structure i3(n:Int)(i:Nat)(fu:ag->aQ aV)(ex:ag->aQ ba)(s:aC):Prop where
 n:s.n=n
 self:s.self=(i:Int)
 bp:s.bp=[]
 pF:s.inbox=[]
 cF:s.run.cF=[]
 qr:∀y c,fu y=some c->∃j,s.aH.p.at y=some j/\j.Status=3/\j.Call=c
 no:∀y,fu y=none->s.aH.p.at y=ex y
 is:∀y,s.run.g.is y=(fu y).isSome
 over:∀y,s.run.g.over y=(fu y).isSome
 dw:∀y v,br s.dw y=some v->y.be=(i:Int)
def qs(x:ag)(c:aV):ag->aQ ba:=λy=>if y=x then some ⟨⟨0,x.be⟩,⟨0,x.be⟩,1,c,true⟩else none
def hk(x:ag)(c:aV)(i:Int):aD:={aD.z with Kind:=1,bm:=x.be,b3:=i,Item:=x,ch:=⟨0,x.be⟩,Call:=c}
def gz(x:ag)(c:aV)(i:Int):aD:={aD.z with Kind:=2,bm:=i,b3:=x.be,Item:=x,ch:=⟨0,x.be⟩,dB:=true,Call:=c}
def j1(x:ag)(c:aV)(i:Int):aD:={aD.z with Kind:=5,bm:=x.be,b3:=i,Item:=x,ch:=⟨0,x.be⟩,Call:=c}
def aab(a:bI):jK a a=a:=by obtain⟨q,m,Z,z,b,c,t⟩:=a;simp[jK]
def P5{a:bI}(h:e9 a n=true):jK bI.z a=a:=by have:=sc h;obtain⟨q,m,Z,W,b,c,t⟩:=a;simp only[bI.l,dq,iU,fU,forall_eq_or_imp,forall_eq]at this;grind [jK,bI.z]
def GN{a:bI}(h:e9 a n=true):mn [a,a]=a:=by
 show jK (jK bI.z a) a=a
 rw[P5 h,aab]
def afG{c:aV}(h:e9 c.dX n=true)(d:bP):lW c [⟨d,c.dX,c.Seq⟩]=c:=by
 show tA {c with dX:=mn [c.dX,c.dX]} ⟨d,c.dX,c.Seq⟩=c
 unfold tA;dsimp only;rw[GN h,GN h,Int.max_self]
def GO{s:bE}(h:s.ok){x:ag}{c:aV}{i:Int}(U:s.p.at x=none)(q:eo (hk x c i) s.n=true)(u:(eV s.p c.cz x).1=c.dX/\(eV s.p c.cz x).2=c.Seq):cN s i (hk x c i)=(s.add x ⟨⟨0,x.be⟩,⟨0,x.be⟩,1,c,true⟩,gz x c i,true):=by
 have K:=iY.1 q;have R:eQ c s.n=true:=oJ K rfl;have ao:b7 s.p x=ba.z:=by grind [b7]
 have o:0<=x.be:=(kN K.item).1;have r:py s (hk x c i)=c:=by
  show lW c [⟨bP.z,(eV s.p c.cz x).1,(eV s.p c.cz x).2⟩]=c
  rw[u.1,u.2];exact afG (nQ R).2.1 _
 have N:pz s (hk x c i)=true:=by grind [pz,hk]
 have t:ik ba.z ⟨0,x.be⟩ 1 c true=(⟨⟨0,x.be⟩,⟨0,x.be⟩,1,c,true⟩,true):=by
  unfold ik;have D:¬(i7 ⟨0,x.be⟩ ba.z.cJ=true\/ba.z.Status=3):=by
   rintro(h|h)
   .have M:decide (x.be<0)=true:=h;grind
   .revert h;decide
  have L:¬(ba.z.cY=⟨0,x.be⟩/\(1:Int)<=ba.z.Status):=by rintro⟨_,h⟩;revert h;decide
  rw[aN D,aN L]
 unfold cN;rw[aT ⟨q,rfl⟩];unfold kz;dsimp only;have y:(hk x c i).Item=x:=rfl;have J:(hk x c i).Kind=1:=rfl;rw[y,ao,aN (by rintro⟨_,h⟩;revert h;decide),aT J];unfold k3;dsimp only;rw[r,N];have w:(hk x c i).ch=⟨0,x.be⟩:=rfl;rw[w,t];dsimp only;rw[aT rfl];unfold k2;rw[aN (by intro h;have M:(0:Int)=1:=db ba.Status h;revert M;decide)];rfl
def P7{d:bI}(h:e9 d n=true)(v:n<=7):e9 d 7=true:=by rw[p8]at h⊢;intro k m T;have:=h k m T;simp only[iW,cZ,ib,da]at this⊢;omega
def uw(i:ba)(c:aV):ba:=⟨i.cJ,i.cY,3,c,false⟩
def aae{s:bE}{x:ag}{c:aV}{i:Int}(q:eo (j1 x c i) s.n=true)(g:(b7 s.p x).Status≠3):cN s i (j1 x c i)=(s.add x (uw (b7 s.p x) c),aD.z,false):=by unfold cN;rw[aT ⟨q,rfl⟩];unfold kz;dsimp only;have y:(j1 x c i).Item=x:=rfl;have J:(j1 x c i).Kind=5:=rfl;rw[y,J,aN (by rintro⟨_,h⟩;exact g h),aN XG,aN XG,aN XG,aT rfl];unfold oo;rw[aN g];unfold k2;dsimp only;rw[aN XK];rfl
def i3.Xq{i:Nat}{s:aC}{x:ag}{c:aV}(h:i3 n i F (λ_=>none) s)(E:s.leads=[])(T:s.aH.ok)(v:s.aH.n=s.n)(U:F x=none)(D:x.be≠(i:Int))(q:eo (hk x c i) s.n=true)(u:(eV s.aH.p c.cz x).1=c.dX/\(eV s.aH.p c.cz x).2=c.Seq)(l:fK s (hk x c i) s1):i3 n i F (qs x c) s1/\s1.leads=[]/\s1.out=s.out++gx s.n s.self [gz x c i]/\s1.told=s.told:=by
 have K:=iY.1 q;have r:=GO T (h.no x U) (v▸q) u;rw[<-h.self]at r;have Q:=λy=>uv T (x:=x) Nh ⟨⟨0,x.be⟩,⟨0,x.be⟩,1,c,true⟩ y;have ao:ez s.self [gz x c s.self]=[]:=by
  unfold ez;rw[List.filter_cons_of_neg]
  .rfl
  .rw[da];show¬x.be=s.self
   rw[h.self];exact D
 have em:hk x c (i:Int)=hk x c s.self:=by rw[h.self]
 rw[em]at l;rw[<-h.self];rcases l with⟨_,G,_,_,Y⟩|⟨C,_⟩
 .have b:(hk x c s.self).Item=x:=rfl;unfold aC.Z' at Y;rw[b,r]at Y;dsimp only at Y;rw[aT rfl]at Y;have k:(b7 (s.aH.add x ⟨⟨0,x.be⟩,⟨0,x.be⟩,1,c,true⟩).p x).Status=1:=by grind [b7]
  rcases Y with⟨g,_⟩|⟨_,J⟩
  .grind
  .unfold h8 aC.send aC.Sb aC.Sc at J;dsimp only at J;rw[E,h.bp,ao]at J;simp only[mi]at J;subst J;refine⟨⟨h.n,h.self,rfl,?_,h.cF,?_,?_,h.is,h.over,h.dw⟩,rfl,rfl,rfl⟩
   .show s.inbox++[]=[];rw[h.pF];rfl
   .intro y P G;obtain⟨j,w,F,M⟩:=h.qr y P G;grind
   .intro y G;show(s.aH.add x _).p.at y=_
    rw[Q,h.no y G];rfl
 .exact absurd (ut rfl) C
def mb(F:ag->aQ aV)(x:ag)(c:aV):ag->aQ aV:=λy=>if y=x then some c else F y
def i3.comm{i:Nat}{ex:ag->aQ ba}{s s2:aC}{x:ag}{c:aV}(h:i3 n i Z ex s)(fE:eC s.leads x=[])(cc:s.aH.ok)(v:s.aH.n=s.n)(a:gS s.n s.run)(cr:Z x=none)(D:∀y,y≠x->ex y=none)(cp:(b7 s.aH.p x).Status≠3)(W:eo (j1 x c i) s.n=true)(ef:∀y∈pj c.dX,y≠x->(Z y).isSome=true)(f:fK s (j1 x c i) s1)(q:jB s1 s2):i3 n i (mb Z x c) (λ_=>none) s2/\s2.leads=[]/\s2.out=s.out/\∃t,s2.told=s.told++t/\t.map (·.Item)=(if decide (c.cz.Kind≠0)&&(br s.dw x).getD false then[x]else[])/\∀y∈t,y.ge=(hw s.M.s c.cz).1.ge:=by
 have K:=iY.1 W;have ee:eQ c s.n=true:=oJ K rfl;have N:bB x s.n=true:=K.item;have r:=aae (i:=(i:Int)) (v▸W) cp;rw[<-h.self]at r;have u:=λy=>uv cc (x:=x) Nh (uw (b7 s.aH.p x) c) y;have em:j1 x c (i:Int)=j1 x c s.self:=by rw[h.self]
 rw[em]at f;have z:s.run.g.is x=false:=by rw[h.is,cr];rfl
 have E:s.run.g.Sm x c=true:=by unfold bj.Sm;rw[z,a.rc,N,P7 (nQ ee).2.1 a.hN];rfl
 rcases f with⟨_,tS,_,_,l⟩|⟨T,_⟩
 .have R:(j1 x c s.self).Item=x:=rfl;unfold aC.Z' at l;rw[R,r]at l;dsimp only at l;rw[aN XG]at l;have C:b7 (s.aH.add x (uw (b7 s.aH.p x) c)).p x=(uw (b7 s.aH.p x) c):=by
   show(aJ.at _ x).getD _=_
   rw[u,aT rfl];rfl
  rcases l with⟨_,j⟩|⟨fZ,_⟩
  .obtain⟨w,F,m⟩:=j.go;dsimp only at F;rw[C]at F;change cQ.S8 s.run x c w at F;obtain⟨P,d,k⟩:=F;rw[E,aT rfl,h.cF,gi]at k;have k:=List.perm_singleton.1 k;have f1:s1.n=s.n:=by rw[m]
   have f2:s1.self=s.self:=by rw[m]
   have f3:s1.leads=[]:=by rw[m];exact fE
   have GP:s1.bp=[]:=by rw[m];show eC s.bp x=[];rw[h.bp];rfl
   have ya:s1.inbox=[]:=by rw[m];exact h.pF
   have GQ:s1.out=s.out:=by rw[m]
   have f7:s1.told=s.told:=by rw[m]
   have GR:s1.aH=s.aH.add x (uw (b7 s.aH.p x) c):=by rw[m]
   have Bh:s1.dw=s.dw:=by rw[m]
   have Yf:s1.M=s.M:=by rw[m]
   have J:s1.run=w:=by rw[m]
   clear m;obtain⟨xs,G,adZ,b,Yc,U,Ye,Q,⟨_,_,nR⟩,Y⟩:=uu q ya;have X:s1.run.g.call x=c:=by rw[J,P];unfold bj.R2 bj.call;rw[aT E];dsimp only;rw[aJ.Sn a.g.c,aT ⟨by rw[a.rc];exact N,rfl⟩];rfl
   have o:∀y,s1.run.g.over y=(Z y).isSome:=λy=>by rw[J,P,bj.TO,h.over]
   have Yg:∀y,s1.run.g.is y=((Z y).isSome||decide (y=x)):=λy=>by rw[J,P,bj.Uh a.g E,h.is]
   have L:xs=[x]:=by refine U.one x (by rw[J];exact k) ?_;grind [bj.waits,List.filter_eq_nil_iff]
   subst L;have R:s2.n=s1.n:=X7
   have J:s2.self=s1.self:=X7
   have p:s2.leads=s1.leads:=X7
   have q:s2.bp=s1.bp:=X7
   have m:s2.inbox=s1.inbox:=X7
   have t:s2.out=s1.out:=X7
   have w:s2.told=s1.told++b:=X7
   have E:s2.aH=s1.aH:=X7
   have i:s2.dw=s1.dw:=X7
   have X:s2.run=G:=X7
   clear Y;have f:∀y,s2.run.g.over y=(mb Z x c y).isSome:=λy=>by rw[X,U.dH,o];grind [mb]
   have j:∀y,s2.run.g.is y=(mb Z x c y).isSome:=λy=>by
    have:s2.run.g.is y=s1.run.g.is y:=by unfold bj.is;rw[X,U.calls]
    grind [mb]
   refine⟨⟨by rw[R,f1,h.n],by rw[J,f2,h.self],by rw[q,GP],by rw[m,ya],?_,?_,?_,j,f,?_⟩,by rw[p,f3],by rw[t,GQ],b,by rw[w,f7],?_,?_⟩
   .rw[F8];intro y G;have:=(U.ok.fD y).1 (by rw[<-X];exact G);grind
   .intro y P G;rw[E,GR];unfold mb at G;by_cases e:y=x
    .grind [uw,b7]
    .rw[aN e]at G;obtain⟨j,p,F,M⟩:=h.qr y P G;grind
   .intro y G;rw[E,GR];unfold mb at G;by_cases e:y=x
    .grind
    .rw[aN e]at G;rw[u,aN e,h.no y G,D y e]
   .intro y v G;rw[i,Bh]at G;exact h.dw y v G
   .rw[Q];unfold aC.Sg;grind
   .intro y G;have:=nR.2 x rfl y G;grind
  .rw[C]at fZ;exact absurd rfl fZ
 .exact absurd (s8 (s8 (s8 rfl))) T
theorem Bi{x:ag}{c:aV}{i:Int}(U:bB x n=true)(u:eQ c n=true)(ao:0<=i/\i<n):eo (hk x c i) n=true:=by
 obtain⟨l,g,_⟩:=kN U;refine iY.2 ⟨(show(1:Int)<=1 by decide),(show(1:Int)<=8 by decide),l,g,ao.1,ao.2,U,?_,u,λ_=>⟨rfl,rfl⟩,?_,λh=>absurd (show h0 1=true from h) XG⟩
 .show eD ⟨0,x.be⟩ n=true;simp[eD,l,g]
 .intro h;cases h
def GS{x:ag}{c:aV}{i:Int}(U:bB x n=true)(u:eQ c n=true)(ao:0<=i/\i<n):eo (gz x c i) n=true:=by
 obtain⟨i,g,_⟩:=kN U;refine iY.2 ⟨(show(1:Int)<=2 by decide),(show(2:Int)<=8 by decide),ao.1,ao.2,i,g,U,?_,u,λ_=>⟨rfl,rfl⟩,?_,λh=>absurd (show h0 2=true from h) XG⟩
 .show eD ⟨0,x.be⟩ n=true;simp[eD,i,g]
 .intro _;exact ut rfl
def Bj{x:ag}{c:aV}{i:Int}(U:bB x n=true)(u:eQ c n=true)(ao:0<=i/\i<n):eo (j1 x c i) n=true:=by
 obtain⟨l,g,_⟩:=kN U;refine iY.2 ⟨(show(1:Int)<=5 by decide),(show(5:Int)<=8 by decide),l,g,ao.1,ao.2,U,?_,u,λ_=>⟨rfl,rfl⟩,?_,λh=>absurd (show h0 5=true from h) XG⟩
 .show eD ⟨0,x.be⟩ n=true;simp[eD,l,g]
 .intro h;cases h
def P9{l:ab D}{h:ab Bool}(E:l.length=h.length):∀k,k<=h.length->(h5 l h k).length=(h.take k).count true:=by
 intro k;induction k with
 |zero=>intro _;rfl
 |succ k u=>
  intro T;rw[nj,bM,u ac,mY,List.count_append];have C:k<l.length:=ac
  have y:h[k]?=some h[k]:=gM ac;have J:l[k]?=some l[k]:=gM C;unfold im;grind
def Bk{l:ab D}{h:ab Bool}(E:l.length=7)(y:h.length=7):(fd l h).length=h.count true:=by have:=P9 (l:=l) (h:=h) ac 7 ac;rw[j4 ac]at this;exact this
def yb{l:ab D}{h:ab Bool}{p:Nat×D}(r:p∈fd l h):h.getD p.1 false=true/\l[p.1]?=some p.2:=by grind [fd,h5,im]
structure oT(l:a2)(n:Int)(x:ag)(c:aV)(cf:Nat->Bool):Prop where
 wf:l.wf
 n:l.n=n
 self:l.self=x.be
 item:l.item=x
 b2:l.b2=⟨0,x.be⟩
 call:l.call=c
 phase:l.phase=1
 c2:∀k,k<7->l.c2.getD k false=cf k
 same:∀k m,l.c2.getD k false=true->l.pl[k]?=some m->m.dB=true
def oT.kY{l:a2}{x:ag}{c:aV}(h:oT l n x c Q):(kY (fd l.pl l.c2):Int)=l.dL:=by
 show((List.filter (λp:Nat×aD=>p.2.dB) (fd l.pl l.c2)).length:Int)=l.dL
 rw[wW.2 λp r=>h.same p.1 p.2 (yb r).1 (yb r).2,Bk h.wf.pl h.wf.c2,h.wf.dL]
def nt(Q:Nat->Bool)(i:Nat):Nat->Bool:=λk=>decide (k=i)||Q k
def oT.put{l:a2}{x:ag}{c:aV}(h:oT l n x c Q){i:Nat}(ao:i<7)(v:Q i=false)(K:m.dB=true):l.can (i:Int)=true/\oT (l.put (i:Int) m) n x c (nt Q i)/\(l.put (i:Int) m).dL=l.dL+1:=by
 have F:=h.c2 i ao;rw[v]at F;have d:=h.wf.c2;have t:=h.wf.pl;have q:l.c2[i]?=some false:=XK
 have E:l.can (i:Int)=true:=by unfold a2.can;grind
 refine⟨E,⟨h.wf.put E m,h.n,h.self,h.item,h.b2,h.call,h.phase,?_,?_⟩,rfl⟩
 .intro k T;show(l.c2.set (i:Int).toNat true).getD k false=nt Q i k
  rw[iB,jM,kq];unfold nt;by_cases e:i=k
  .grind
  .rw[aN e,<-jM,h.c2 k T];simp[nz e]
 .intro k x T J;change(l.c2.set (i:Int).toNat true).getD k false=true at T;change(l.pl.set (i:Int).toNat m)[k]?=some x at J;rw[iB]at T J;rw[jM,kq]at T;rw[kq]at J;by_cases e:i=k
  .grind
  .rw[aN e]at T J;rw[<-jM]at T;exact h.same k x T J
def oT.z'{l:a2}{x:ag}{c:aV}(h:oT l n x c Q)(v:n=3\/n=5\/n=7){i:Nat}(ao:(i:Int)<n)(s:Q i=false):l.z' (gz x c i)=if 2*cD n<=l.dL+1 then({l.put (i:Int) (gz x c i)with phase:=3},true)else(l.put (i:Int) (gz x c i),false):=by
 obtain⟨E,r,t⟩:=h.put ac s (m:=gz x c i) rfl;have Q:=r.kY;rw[t]at Q;have L:n-2*cD n=1:=by rcases v with rfl|rfl|rfl<;>decide
 have k:(l.put (i:Int) (gz x c i)).S0=true:=by unfold a2.S0;rw[r.b2,r.item];simp
 unfold a2.z';rw[aN,aN,aN,aN,aT ⟨rfl,h.phase⟩]
 .unfold a2.Sa;have y:(gz x c i).bm=(i:Int):=rfl;rw[y,aT E,k,h.n,Q];grind
 .intro q;exact q h.b2.symm
 .rintro⟨q,_⟩;exact absurd (show(2:Int)=8 from q) XG
 .intro q;exact absurd (show(2:Int)=5 from q) XG
 .rintro(q|q|q|q|q)
  .rw[h.phase]at q;revert q;decide
  .exact q h.item.symm
  .exact q h.self.symm
  .grind [gz]
  .have:(gz x c i).bm=(i:Int):=rfl;rw[h.n]at q;omega
theorem Qa(R:Nat):∀N,R<N->(List.range N).filter (λi:Nat=>decide ((i:Int)=(R:Int)))=[R]:=by
 intro N;induction N with
 |zero=>intro h;omega
 |succ N u=>
  intro h;rw[se,mq];grind [List.filter_eq_nil_iff.2,List.filter_cons_of_pos,List.mem_range.1,List.filter_cons_of_neg]
noncomputable def oU(N R:Nat)(f:Int->aD):ab b0:=((List.range N).filter λi:Nat=>decide (i≠R)).map λi:Nat=>⟨(R:Int),(i:Int),gj (f i)⟩
def GU{N:Nat}(h:R<N)(f:Int->aD)(j:∀i,(f i).b3=i):ez (R:Int) ((List.range N).map λi:Nat=>f i)=[f R]:=by
 unfold ez;rw[List.filter_map];have:(List.filter ((λm:aD=>decide (m.b3=(R:Int)))∘λi:Nat=>f i) (List.range N))=[R]:=by grind [Qa,List.filter_congr]
 rw[this];rfl
def GV{N:Nat}(f:Int->aD)(j:∀i,(f i).b3=i)(q:∀i:Nat,i<N->eo (f i) n=true):gx n (R:Int) ((List.range N).map λi:Nat=>f i)=oU N R f:=by
 unfold gx oU;rw[List.filter_map,wc];have:(List.filter ((λm:aD=>!decide (m.b3=(R:Int))&&eo m n)∘λi:Nat=>f i) (List.range N))=(List.range N).filter λi:Nat=>decide (i≠R):=by refine List.filter_congr λi ao=>?_;grind
 grind [List.map_congr_left,gj]
structure GW(s s1:aC)(x:ag)(c:aV):Prop where
 n:s1.n=s.n
 self:s1.self=s.self
 bp:s1.bp=[]
 leads:s1.leads=s.leads
 run:s1.run=s.run
 M:s1.M=s.M
 dw:s1.dw=s.dw
 told:s1.told=s.told
 aH:s1.aH=s.aH.add x ⟨⟨0,x.be⟩,⟨0,x.be⟩,1,c,true⟩
 inbox:s1.inbox=s.inbox++ez s.self [gz x c s.self]
 out:s1.out=s.out++gx s.n s.self [gz x c s.self]
def aeI{s:aC}{x:ag}{c:aV}(k:s.bp=[])(E:s.Sb x ⟨0,x.be⟩=s.leads)(T:s.aH.ok)(v:s.aH.n=s.n)(U:s.aH.p.at x=none)(q:eo (hk x c s.self) s.n=true)(u:(eV s.aH.p c.cz x).1=c.dX/\(eV s.aH.p c.cz x).2=c.Seq)(b:fK s (hk x c s.self) s1):GW s s1 x c:=by
 have K:=iY.1 q;have r:=GO T U (v▸q) u;have Q:=λy=>uv T (x:=x) Nh ⟨⟨0,x.be⟩,⟨0,x.be⟩,1,c,true⟩ y;rcases b with⟨_,G,_,_,l⟩|⟨M,_⟩
 .have y:(hk x c s.self).Item=x:=rfl;unfold aC.Z' at l;rw[y,r]at l;dsimp only at l;rw[aT rfl]at l;have h:b7 (s.aH.add x ⟨⟨0,x.be⟩,⟨0,x.be⟩,1,c,true⟩).p x=⟨⟨0,x.be⟩,⟨0,x.be⟩,1,c,true⟩:=by
   show(aJ.at _ x).getD _=_
   rw[Q,aT rfl];rfl
  rcases l with⟨g,_⟩|⟨_,y⟩
  .grind
  .unfold h8 at y;dsimp only[aC.send]at y;rw[h]at y;have R:aC.Sc s x ⟨0,x.be⟩=[]:=by unfold aC.Sc;rw[k];rfl
   constructor
   .rw[y]
   .rw[y]
   .rw[y];exact R
   .rw[y];exact E
   all_goals rw[y]
 .exact absurd (ut rfl) M
structure oV(n:Int)(R:Nat)(fu:ag->aQ aV)(x:ag)(c:aV)(cf:Nat->Bool)(k:Int)(s:aC):Prop where
 fA:i3 n R fu (qs x c) s
 mK:x.be=(R:Int)
 cC:∃p q l,s.leads=[(x,⟨p,q,l⟩)]/\oT l n x c cf/\l.dL=k
 dw:br s.dw x=some true
def oV.Sa{U:ag->aQ aV}{x:ag}{c:aV}{s:aC}(h:oV n R U x c Q k s)(v:n=3\/n=5\/n=7){i:Nat}(ao:(i:Int)<n)(Y:Q i=false)(T:k+1<2*cD n)(b:fK s (gz x c i) s1):oV n R U x c (nt Q i) (k+1) s1/\s1.out=s.out/\s1.told=s.told/\s1.M=s.M/\s1.run=s.run/\s1.aH=s.aH:=by
 obtain⟨p,q,l,F,C,g⟩:=h.cC;rcases b with⟨o,_⟩|⟨_,w,bb⟩
 exact Ky
 .have X:({s with high:=s.RT (gz x c i)}:aC)=s:=by unfold aC.RT;rw[aN LU]
  rw[X]at bb;unfold aC.RO at bb;rw[h.fA.bp,mi]at bb;dsimp only at bb;unfold aC.R5 at bb;have y:(gz x c i).Item=x:=rfl;have J:br s.leads x=some (⟨p,q,l⟩:dQ a2):=by grind [jp]
  rw[y,J]at bb;dsimp only at bb;have K:¬2*cD n<=l.dL+1:=ac
  rw[C.z' v ao Y,aN K,aN Bool.false_ne_true]at bb;dsimp only at bb;rw[F,ka,aT rfl]at bb;obtain⟨_,r,t⟩:=C.put ac Y (m:=gz x c i) rfl;subst bb;exact⟨⟨⟨h.fA.n,h.fA.self,h.fA.bp,h.fA.pF,h.fA.cF,h.fA.qr,h.fA.no,h.fA.is,h.fA.over,h.fA.dw⟩,h.mK,⟨p,q,_,rfl,r,by rw[t,g]⟩,h.dw⟩,rfl,rfl,rfl,rfl,rfl⟩
def oT.C'{l:a2}{x:ag}{c:aV}(h:oT l n x c Q):l.C'=(List.range n.toNat).map (λi:Nat=>hk x c i)/\({l with phase:=3}:a2).C'=(List.range n.toNat).map (λi:Nat=>j1 x c i):=by
 constructor
 .unfold a2.C' a2.R3;rw[aT (ut h.phase),h.n];refine Ga λi _=>?_;unfold so kx hk;rw[h.phase,h.self,h.item,h.b2,h.call];rfl
 .unfold a2.C' a2.R3;rw[aT (s8 (s8 rfl))];dsimp only;rw[h.n];refine Ga λi _=>?_;unfold so kx j1;dsimp only;rw[h.self,h.item,h.b2,h.call];rfl
def oV.Xr{x:ag}{c:aV}{s s2:aC}(h:oV n R F x c Q k s)(v:n=3\/n=5\/n=7){i:Nat}(ao:(i:Int)<n)(Y:Q i=false)(T:2*cD n<=k+1)(l:s.aH.ok)(J:s.aH.n=s.n)(a:gS s.n s.run)(U:F x=none)(k:bB x n=true)(L:eQ c n=true)(Z:∀y∈pj c.dX,y≠x->(F y).isSome=true)(b:fK s (gz x c i) s1)(Q:jB s1 s2):i3 n R (mb F x c) (λ_=>none) s2/\s2.leads=[]/\s2.out=s.out++oU n.toNat R (j1 x c)/\∃t,s2.told=s.told++t/\t.map (·.Item)=(if c.cz.Kind≠0 then[x]else[])/\∀y∈t,y.ge=(hw s.M.s c.cz).1.ge:=by
 obtain⟨p,q,l,J,C,g⟩:=h.cC;have T:(R:Int)<n:=by have:=(kN k).2.1;rw[h.mK]at this;exact this
 rcases b with⟨o,_⟩|⟨_,w,bb⟩
 exact Ky
 .have X:({s with high:=s.RT (gz x c i)}:aC)=s:=by unfold aC.RT;rw[aN LU]
  rw[X]at bb;unfold aC.RO at bb;rw[h.fA.bp,mi]at bb;dsimp only at bb;unfold aC.R5 at bb;have b:(gz x c i).Item=x:=rfl;have N:br s.leads x=some (⟨p,q,l⟩:dQ a2):=by grind [jp]
  rw[b,N]at bb;dsimp only at bb;have o:2*cD n<=l.dL+1:=ac
  rw[C.z' v ao Y,aT o,aT rfl]at bb;dsimp only at bb;rw[aN XG,J,ka,aT rfl]at bb;obtain⟨_,r,d⟩:=C.put ac Y (m:=gz x c i) rfl;rw[r.C'.2]at bb;unfold aC.send at bb;dsimp only at bb;have C:s.self=(R:Int):=h.fA.self;rw[C,h.fA.n,GU ac (j1 x c) (λ_=>rfl),GV (j1 x c) (λ_=>rfl) (λj w=>Bj k L ac),h.fA.pF]at bb;have W:s1.n=s.n:=by rw[bb];exact h.fA.n.symm
  have J:s1.self=s.self:=by rw[bb];exact C.symm
  have l:∃e,s1.leads=[(x,e)]:=⟨_,Zy⟩
  have Y:s1.bp=s.bp:=Zy
  have a:s1.inbox=[j1 x c R]:=by rw[bb];rfl
  have J:s1.out=s.out++oU n.toNat R (j1 x c):=Zy
  have N:s1.told=s.told:=Zy
  have b:s1.aH=s.aH:=Zy
  have u:s1.dw=s.dw:=Zy
  have g:s1.M=s.M:=Zy
  have i:s1.run=s.run:=Zy
  clear bb;obtain⟨i9,T,z⟩:=Bg Q a;have m:i3 n R F (qs x c) {s1 with inbox:=[]}:=by
   refine⟨?_,?_,?_,rfl,?_,?_,?_,?_,?_,?_⟩
   .show s1.n=n;rw[W,h.fA.n]
   .grind
   .show s1.bp=[];rw[Y,h.fA.bp]
   .show s1.run.cF=[];rw[i,h.fA.cF]
   .show∀y c,F y=some c->∃j,s1.aH.p.at y=some j/\_;rw[b];exact h.fA.qr
   .show∀y,F y=none->s1.aH.p.at y=_;rw[b];exact h.fA.no
   .show∀y,s1.run.g.is y=_;rw[i];exact h.fA.is
   .show∀y,s1.run.g.over y=_;rw[i];exact h.fA.over
   .show∀y v,br s1.dw y=some v->_;rw[u];exact h.fA.dw
  obtain⟨e,l⟩:=l;have Y:(b7 s1.aH.p x).Status≠3:=by unfold b7;rw[b,h.fA.no x U];grind [qs]
  obtain⟨b,M,f,t,C,i,d⟩:=m.comm (by grind [eC,r4]) XK XK
   XK U (λy G=>by grind [qs]) Y (by show eo _ s1.n=true;rw[W,h.fA.n];exact Bj k L ac) Z T z
  refine⟨b,M,by rw[f];exact J,t,XK,?_,?_⟩
  .rw[i];show(if decide (c.cz.Kind≠0)&&(br s1.dw x).getD false then[x]else[])=_
   rw[u,h.dw];simp
  .grind
def i4(p:aJ ba)(d:bP)(x:ag):aV:=⟨d,(eV p d x).1,(eV p d x).2⟩
structure GX(n:Int)(R:Nat)(fu:ag->aQ aV)(s:aC)(d:bP)(x:ag)(cn:aC):Prop where
 ok:sE d
 mK:x.be=(R:Int)
 new:fu x=none
 sQ:bB x n=true
 gc:eQ (i4 s.aH.p d x) n=true
 ls:oV n R fu x (i4 s.aH.p d x) (nt (λ_=>false) R) 1 cn
 out:cn.out=s.out++oU n.toNat R (hk x (i4 s.aH.p d x))
 told:cn.told=s.told
 M:cn.M=s.M
def afP{s X:aC}{d:bP}{x:ag}(h:i3 n R Z (λ_=>none) s)(fE:s.leads=[])(c6:n=3\/n=5\/n=7)(Yh:(R:Int)<n)(l:s.aH.ok)(F:s.aH.n=s.n)(lr:mB s d x e X):(e≠0/\X=s)\/(e=0/\GX n R Z s d x X):=by
 rcases lr with⟨_,_,N,cf⟩|⟨_,_,_,N,cf⟩|⟨ef,r,J,N,p,u⟩
 .grind
 .grind
 .right;refine⟨N,?_⟩;have C:=h.self;have t:x.be=(R:Int):=by rw[J];exact C
  have Yf:x.bH=(s.aH.p.top (R:Int):Int)+1:=by rw[J];show(s.aH.p.top s.self:Int)+1=_;rw[C]
  have U:bB x n=true:=by rw[<-J]at r;simp only[bB,cZ,da];omega
  have Q:Z x=none:=by
   cases bY:Z x with
   |none=>rfl
   |some c=>
    obtain⟨j,eB,_⟩:=h.qr x c bY;have:=aJ.Vf l.p eB;rw[t]at this;omega
  have Yc:s.aH.p.at x=none:=h.no x Q;obtain⟨eY,rT,pV⟩:=FC l d x;have f:eQ (i4 s.aH.p d x) n=true:=by rw[F,h.n]at eY;unfold eQ i4;rw[ef.1,eY,iE rT,iE pV];rfl
  have o:oT (s.RQ d) n x (i4 s.aH.p d x) (λ_=>false):=by
   unfold aC.RQ;rw[<-J];refine⟨Ae _ _ _ _ _ _,h.n,?_,rfl,?_,rfl,rfl,?_,?_⟩
   .show s.self=x.be;rw[t,C]
   .show(⟨0,s.self⟩:bk)=_;rw[t,C]
   .intro k cc;show(List.replicate 7 false).getD k false=false
    grind
   .intro k m cc;exfalso;change(List.replicate 7 false).getD k false=true at cc;grind
  obtain⟨Y,W⟩:∃Y,Y=s.RU d p:=⟨_,rfl⟩
  rw[<-W]at u;unfold aC.RU aC.send aC.Sh at W;dsimp only at W;rw[o.C'.1,C,h.n,GU ac (hk x (i4 s.aH.p d x)) (λ_=>rfl),GV (hk x (i4 s.aH.p d x)) (λ_=>rfl) (λj eB=>Bi U f ac),h.pF,fE]at W;rw[<-C,<-J,C]at W;have f1:Y.n=n:=Zz
  have f2:Y.self=(R:Int):=Zz
  have f3:Y.leads=[(x,⟨p,0,s.RQ d⟩)]:=by rw[W];rfl
  have GP:Y.bp=[]:=by rw[W];exact h.bp
  have ya:Y.inbox=[hk x (i4 s.aH.p d x) R]:=by rw[W];rfl
  have GQ:Y.out=s.out++oU n.toNat R (hk x (i4 s.aH.p d x)):=Zz
  have f7:Y.told=s.told:=Zz
  have E:Y.aH=s.aH:=Zz
  have Bh:Y.dw=bw s.dw x true:=Zz
  have Yi:Y.M=s.M:=Zz
  have q:Y.run=s.run:=Zz
  clear W;obtain⟨s2,dO,a⟩:=Bg u ya;have L:GW {Y with inbox:=[]} s2 x (i4 s.aH.p d x):=by
   refine aeI XK ?_ XK (by show Y.aH.n=Y.n;rw[E,f1,<-h.n];exact F) XK ?_ ?_ ?_
   .unfold aC.Sb;show(match br Y.leads x with|some e=>_|none=>Y.leads)=Y.leads
    rw[f3,jp,aT rfl];dsimp only;rw[o.b2,aN];simp[g2]
   .grind [eo,hk,Bi]
   .show(eV Y.aH.p _ x).1=_/\_;rw[E];exact⟨rfl,rfl⟩
   .grind
  have v5:=L.inbox;have w:({Y with inbox:=[]}:aC).self=(R:Int):=f2;have b:ez (R:Int) [gz x (i4 s.aH.p d x) (R:Int)]=[gz x (i4 s.aH.p d x) (R:Int)]:=by unfold ez;rw[Qd (by rw[da];exact t)];rfl
  have Yj:gx n (R:Int) [gz x (i4 s.aH.p d x) (R:Int)]=[]:=by grind [gx,List.filter_cons_of_neg,gz,i4]
  rw[w,b]at v5;obtain⟨i9,ly,P⟩:=Bg a v5;have l1:s2.n=n:=by rw[L.n];exact f1
  have ni:s2.self=(R:Int):=by rw[L.self];exact f2
  have v3:s2.leads=[(x,⟨p,0,s.RQ d⟩)]:=by rw[L.leads];exact f3
  have mz:s2.out=s.out++oU n.toNat R (hk x (i4 s.aH.p d x)):=by rw[L.out];grind
  have vD:s2.told=s.told:=by rw[L.told];exact f7
  have uc:s2.aH=s.aH.add x ⟨⟨0,x.be⟩,⟨0,x.be⟩,1,i4 s.aH.p d x,true⟩:=by rw[L.aH];show Y.aH.add _ _=_;rw[E]
  have v9:s2.dw=bw s.dw x true:=by rw[L.dw];exact Bh
  have Yg:s2.M=s.M:=by rw[L.M];exact Yi
  have z:s2.run=s.run:=by rw[L.run];exact q
  have D:=λy=>uv l (x:=x) (by rw[F,h.n];exact U) ⟨⟨0,x.be⟩,⟨0,x.be⟩,1,i4 s.aH.p d x,true⟩ y;have Ye:oV n R Z x (i4 s.aH.p d x) (λ_=>false) 0 {s2 with inbox:=[]}:=by
   refine⟨⟨l1,ni,L.bp,rfl,?_,?_,?_,?_,?_,?_⟩,t,⟨p,0,_,v3,o,rfl⟩,?_⟩
   .show s2.run.cF=[];rw[z];exact h.cF
   .intro y c G;show∃j,s2.aH.p.at y=some j/\_
    rw[uc,D,aN XK];exact h.qr y c G
   .intro y G;show s2.aH.p.at y=_
    rw[uc,D,h.no y G];rfl
   .show∀y,s2.run.g.is y=_;rw[z];exact h.is
   .show∀y,s2.run.g.over y=_;rw[z];exact h.over
   .intro y v G;change br s2.dw y=some v at G;rw[v9,kM]at G;split at G
    .grind
    .exact h.dw y v G
   .grind [br,kM]
  have cT:(0:Int)+1<2*cD n:=by rcases c6 with rfl|rfl|rfl<;>decide
  obtain⟨T,lR,sG,mE,ug,wk⟩:=Ye.Sa c6 (i:=R) Yh rfl cT ly;have K:=rD (uu P T.fA.pF) T.fA.cF;subst K;exact⟨ef,t,Q,U,f,T,by rw[lR];exact mz,by rw[sG];exact vD,by rw[mE];exact Yg⟩
def i3.Xs{i:Nat}{ex:ag->aQ ba}{s:aC}{x:ag}{c:aV}{j:Int}(h:i3 n i F ex s)(E:s.leads=[])(y:fK s (gz x c j) s1):s1=s:=by
 rcases y with⟨o,_⟩|⟨_,w,bb⟩
 exact Ky
 .have R:({s with high:=s.RT (gz x c j)}:aC)=s:=by unfold aC.RT;rw[aN LU]
  rw[R]at bb;unfold aC.RO at bb;rw[h.bp,mi]at bb;grind [aC.R5,mi]
def i3.flush{i:Nat}{ex:ag->aQ ba}{s:aC}(h:i3 n i F ex s):i3 n i F ex s.flush:=
 ⟨h.n,h.self,h.bp,h.pF,h.cF,h.qr,h.no,h.is,h.over,h.dw⟩
def oV.flush{x:ag}{c:aV}{s:aC}(h:oV n R F x c Q k s):oV n R F x c Q k s.flush:=⟨h.fA.flush,h.mK,h.cC,h.dw⟩
def Qe{c:ab Bool}(u:∀a b,hP c a b=false):∀(Z l:ab b0),(∀x∈Z,hx x.bm=true/\hx x.b3=true)->l.length+Z.length<=256->∀k,Z.foldl (ji c) (l,k)=(l++Z,k):=by
 intro Z;induction Z with
 |nil=>intro l _ _ k;rw[dk];rfl
 |cons x Z u=>
  intro l U E k;have F:=U x iT;simp only[dp]at E;have R:l7 c l x=false:=by grind [l7]
  rw[n6];have e:ji c (l,k) x=(l++[x],k):=by unfold ji;rw[R];rfl
  rw[e,u (l++[x]) (λy G=>U y (hn _ G)) XM,cd];rfl
structure yc(c:bo)(i:Nat)(rest:ab b0)(s2:aC)(b6:bo):Prop where
 n:b6.n=c.n
 cut:b6.cut=c.cut
 now:b6.now=c.now
 lost:b6.lost=c.lost
 aS:∃b L,b6.aS=c.aS.set i (.up b L s2.flush)
 bQ:b6.bQ=rest++s2.out
 told:b6.told=c.told++s2.told.map (nr i c.now)
theorem GY{r c P:bo}{i:Nat}{n:ab b0}{L:cO}{s2:aC}(ao:i<r.aS.length)(u:c={r with bQ:=n,aS:=r.aS.set i (.up b L s2)})(D:∀a b,hP r.cut a b=false)(Z:∀x∈s2.out,hx x.bm=true/\hx x.b3=true)(E:n.length+s2.out.length<=256)(h:kA c i P):yc r i n s2 P:=by
 obtain⟨W,R,s1,v,F,rfl⟩:=h;have e:c.aS[i]?=some (.up b L s2):=XK
 rw[e]at F;cases F;have Q:=Qe D s2.out n Z E 0;subst u;unfold bo.SO gT;dsimp only;rw[Q];refine⟨rfl,rfl,rfl,XK,⟨b,v,?_⟩,rfl,rfl⟩;grind [List.set_set]
def Bl{c r:bo}{f t:Nat}{i:ab b0}{L:cO}{s:aC}(p:c.n<=7)(d:(c.aS.length:Int)=c.n)(Ye:∀a b,hP c.cut a b=false)(v:c.bQ=⟨(f:Int),(t:Int),gj m⟩::i)(q:eo m c.n=true)(k:m.bm=(f:Int))(P:m.b3=(t:Int))(G:f≠t)(U:c.aS[t]?=some (.up b L s))(Q:s.self=(t:Int))(h:mI c 0 e r):∃s1 s2,fK s m s1/\jB s1 s2/\((∀x∈s2.out,hx x.bm=true/\hx x.b3=true)->i.length+s2.out.length<=256->yc c t i s2 r):=by
 have T:hQ c.bQ 0=some ⟨(f:Int),(t:Int),gj m⟩:=by grind [hQ]
 rcases h with⟨C,_⟩|⟨j,W,R,s1,o,y,s2,⟨x,J,F,M,g,z,N,D,Y,Z⟩,_,Yc⟩
 .exfalso;rcases C with⟨F,_⟩|⟨x,F,M,_⟩|⟨x,j,u,E,l,X,w,F,_,g,z,_⟩
  .grind
  .grind
  .grind
 .rw[T]at F;cases F;have:t=j:=by grind
  subst this;rw[U]at z;cases z;have K:m=o:=GL p q D N;subst K;rcases Z with⟨q,_⟩|⟨_,_,_,i9,k,G⟩
  .grind
  .refine⟨i9,s2,k,G,λZ E=>?_⟩;have m:t<c.aS.length:=by grind
   grind [GY,bo.less]
end Go.Proofs.YteogojgnkjegmaaGreatDoor
