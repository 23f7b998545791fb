/-
 Part of the proof.
-/
import Derived.Test.YteogojgnkjegmaaGreatDoorAy
set_option linter.all false
set_option maxRecDepth 8000
set_option maxHeartbeats 8000000
namespace Go.Proofs.YteogojgnkjegmaaGreatDoor
open Go.az Go.Proofs.Tryz
variable[Go.az.b5]
variable{n:Int}{F:ag->aT aO}{m:aD}
def xf(n:Int)(i:Nat)(x:cI):Prop:=∃b L s,x=.up b L s/\me n (i:Int) 0 s.bU (hr n [] [] 0) s
structure lV(n:Int)(c:bo):Prop where
 aM:c.n=n
 len:(c.aE.length:Int)=n
 up:∀i x,c.aE[i]?=some x->xf n i x
 bi:c.bi=[]
 cut:c.cut=List.replicate 49 false
 lost:c.lost=0
 now:c.now=0
 told:c.told=[]
def Ku(n:Int):xe n [] [] 0:=⟨λy C=>VM,rfl,cG _,rfl⟩
def xf.up(c:n=3\/n=5\/n=7){i:Nat}(am:(i:Int)<n){x:cI}(h:xf n i x):∃b L s,x=.up b L s/\mG 2000 n 0 i s/\s.out=[]/\s.cR=[]/\s.leads=[]/\s.bq=[]/\s.ax=hr n [] [] 0/\s.told=[]:=by
 obtain⟨b,L,s,rfl,a⟩:=h;obtain⟨Y,Z,D,m,t,l,w,p,U⟩:=a.up c am ⟨ge _,VI⟩ (Ku n);have E:o0 s.ax [] []:=by rw[p];exact⟨λy C=>VM,rfl,rfl,λx=>rfl⟩
 exact⟨b,L,s,rfl,⟨Y,Z,t,[],E⟩,Z,m,l,w,p,t⟩
def lV.y(m:n=3\/n=5\/n=7){c:bo}(h:lV n c):cC 2000 c:=by
 refine⟨⟨⟨by rw[h.aM];exact m,by rw[h.aM];exact h.len⟩,by rw[h.cut];rfl,by rw[h.bi];exact cG _,by rw[h.lost];decide,by rw[h.told];exact cG _,by rw[h.now];decide⟩,λi b L s U=>?_,λi G z l C k U=>?_,λx U=>?_⟩
 .have am:=(cF.1 U).1;have u:=h.len;obtain⟨J,F,t,e,Y,_⟩:=(h.up i _ U).up m ac;cases e;rw[h.aM,h.now];exact Y
 .obtain⟨J,F,t,e,_⟩:=h.up i _ U;cases e
 .rw[h.bi]at U;cases U
def TB(l:ab cI)(x:cI):aP [fh (l++[x])] (x.es++[fh l]):=by unfold fh;refine aP.aK.trans ((aP.We (bg:=x.es++l.flatMap cI.es) ?_).trans ((aP.refl _).append aP.aK.symm));rw[l3,fW,nY,db];exact oG
def aeg:jU g3:=λx=>by cases x<;>rfl
def aex(y:n=3\/n=5\/n=7):dH prog 44 [I n] (B true):=by have:=H4 n;rwa[iq y]at this
def Kv(n:Int)(cN:n=3\/n=5\/n=7):ar prog 25 [I n] [cM] (λr J=>∃b L c,lV n c/\r=.tuple #[av b 0,I 0]/\J=bE b L c):=by
 have gy:=aex cN;have Yo:ar prog 45 [] [] (λv J=>∃b,v=av b 0/\J=[aK (fC b (.slice none 0 0) [] (List.replicate 49 false) 0)]):=by refine ar.Wg aho ?_;rintro v J W D w⟨b,rfl,rfl⟩ cr;exact⟨_,⟨b,rfl,rfl⟩,cr.eqv aP.aK.symm⟩
 refine aF func25 λW=>?_;generalize br _=D;refine ah.V5 gT 112 1 ?_;refine ah.V5 g3 36 1 ?_;refine ah.V5 eZ.c 67 8 ?_;refine aa 21 ?_;rintro _ _⟨o,rfl,rfl⟩;refine aq 2 λa=>?_;refine aa 11 ?_;refine ah.eqv (aP.append (ao:=[]) (bg:=[fh []]) aP.aK.symm (aP.refl _)) ?_;obtain⟨N,Yk⟩:∃k:Nat,n=(k:Int):=⟨n.toNat,ac⟩
 refine ah.cq [16,4,0] (λz:ab cI×aj×aj=>z.1.length<=N/\(∀i x,z.1[i]?=some x->xf n i x)/\(z.1.length=0\/∃qY po nC mx,z.2.1=.slice (some ⟨qY,0,none⟩) z.1.length po/\z.2.2=.slice (some ⟨nC,0,none⟩) z.1.length mx)) (λz=>[(17,I (z.1.length:Int))]) (λz=>[cells a 85 (ly.c ⟨n,z.2.1,z.2.2,av o 0,0,.slice none 0 0⟩),rows gT z.2.1 112 1 z.1,rows g3 z.2.2 36 1 z.1,fh z.1]) (λz=>N-z.1.length) ([],.slice none 0 0,.slice none 0 0) ⟨cG _,λi x h=>VT,.inl rfl⟩ ?_;rintro⟨l,dJ,mE⟩⟨dz,ep,dO⟩ K cJ;dsimp only at dz ep dO;refine bh ?_;by_cases Yc:l.length<N
 .have c5:bb .lss (l.length:Int) n=some true:=by simp only[bb];congr 1;rw[cO];omega
  have P (bU:Nat) (v:aj):ar prog 47 [av bU 0,I n,I (l.length:Int),I 0] (gd bU v [] 0) (λr J=>∃b L q,me n (l.length:Int) 0 bU (hr n [] [] 0) q/\r=.tuple #[av b 0,I 0]/\J=[aK (ch b L q)]):=by refine ar.Wg (J9 bU v n (l.length:Int) 0 [] [] 0 cN ⟨u7 _,ac⟩ ⟨ge _,VI⟩ (λy C=>VM) rfl VI) ?_;rintro v J W D w⟨b,L,q,bf,rfl,rfl⟩ cr;exact⟨_,⟨b,L,q,bf,rfl,rfl⟩,cr.eqv aP.aK.symm⟩
  have X:=Oj;unfold gd at P X;refine aa 2 ?_;refine ai.v (V.cmp rfl rfl c5) ?_;refine aa 17 ?_;rintro _ _⟨Y,Yn,rfl,rfl⟩;refine aa 9 ?_;refine ai.x' rfl (P _ _) ?_;rintro _ _⟨s,U,j,Yf,rfl,rfl⟩;refine aa 8 ?_;have ej:me n (l.length:Int) 0 Y (hr n [] [] 0) j:=VV
  have F:j.bU=Y:=(ej.up cN ac ⟨ge _,VI⟩ (Ku n)).2.2.1;have Yi:xf n l.length (.up s U j):=⟨_,_,_,rfl,by rw[F];exact ej⟩
  generalize C:cI.up s U j=y at*;have Yl:y.ptr=av s 0:=by rw[<-C];rfl
  have Ym:y.bU=Y:=by rw[<-C];exact F
  have u:y.es=ch s U j:=by rw[<-C];rfl
  refine ah.iE (a7:=[fh (l++[y]),cells a 85 (ly.c ⟨n,dJ,mE,av o 0,0,.slice none 0 0⟩),rows gT dJ 112 1 l,rows g3 mE 36 1 l,aK (fC o (.slice none 0 0) [] (List.replicate 49 false) 0),rows eZ.c (.slice none 0 0) 67 8 [],cM]) (λw cE=>?_) ?_
  .have lJ:=(aP.append (aP.aK (bg:=ch s U j)) (aP.refl [fh l])).trans (by rw[<-u];exact(TB l y).symm);have bW:=H.eqv (lJ.append (aP.refl _)) (cE.Wy (bg:=[aK (ch s U j),fh l]) VH);exact bW.hv VH
  have d:gT y=[av Y 0]:=by unfold gT;rw[Ym]
  have T:g3 y=[av s 0]:=by unfold g3;rw[Yl]
  have M:[y].flatMap gT=[av Y 0]:=by rw[fW,d];rfl
  have p:[y].flatMap g3=[av s 0]:=by rw[fW,T];rfl
  clear X P;have Yg:(l++[y]).length=l.length+1:=by rw[bQ];rfl
  have Yh:∀i x,(l++[y])[i]?=some x->xf n i x:=λi x Z=>by
   by_cases am:i<l.length
   .rw[pU am]at Z;exact ep i x Z
   .rw[iC ac]at Z;have eV:i-l.length=0:=by have:=(cF.1 Z).1;rw[nX]at this;omega
    rw[eV,ra]at Z;cases Z;rw[show i=l.length by omega];exact Yi
  have Ye:I ((l.length:Int)+1)=I (((l++[y]).length:Nat):Int):=by rw[Yg];rfl
  refine ah.V9 [18,21] ?_ aC.j.j.j.j.j.d'.j aC.j.j.j.j.j.j.j;refine ae 5 0 ?_;refine ae 1 6 ?_;refine ae 3 9 ?_;refine ae 1 13 ?_;refine af.t 5 rfl (V.F' ad) ?_;refine af.t 12 rfl (V.F' ad) ?_;refine af.bx 7 14 rfl rfl ?_ ?_;refine O.V' ad gT [y] rfl (bP.one rfl bP.nil) M rfl (λYj=>?_);refine au ?_;refine af.bx 8 14 rfl rfl ?_ ?_;refine O.Z' (f:=gT) (m:=[y]) ad rfl rfl Vz (cz.rows (f:=gT) (l:=[y]) ad VF (λ_=>rfl)) (λE Q=>?_);refine au ?_;refine af.y' 14 rfl (O.V' ad g3 [y] rfl (bP.one rfl bP.nil) p rfl (λg=>?_));refine NU λG R=>?_;rotate_left;refine O.V' ad g3 [y] rfl (bP.one rfl bP.nil) p rfl (λg=>?_);refine Uv λE Q G R=>?_;rotate_left;refine O.V' ad g3 [y] rfl (bP.one rfl bP.nil) p rfl (λg=>?_);refine au ?_;refine af.y' 7 rfl (O.V' ad gT [y] rfl (bP.one rfl bP.nil) M rfl (λYj=>?_));refine Uv λE Q G R=>?_;rotate_left;all_goals(refine Out.C' cJ (l++[y],.slice (some ⟨E,0,none⟩) (l++[y]).length Q,.slice (some ⟨G,0,none⟩) (l++[y]).length R) ?_ (by show N-(l++[y]).length<N-l.length;omega) (j:=dy.cons rfl Ye (dy.cons rfl rfl (dy.cons rfl rfl (dy.cons rfl rfl dy.nil))));exact ⟨by show(l++[y]).length<=N;omega,Yh,.inr ⟨_,_,_,_,rfl,rfl⟩⟩)
 .clear cJ;have c5:bb .lss (l.length:Int) n=some false:=by simp only[bb];congr 1;rw[jW];omega
  obtain⟨qY,po,nC,mx,rfl,rfl⟩:=dO.resolve_left ac;have r:lV n ⟨n,l,[],List.replicate 49 false,0,0,[]⟩:=⟨rfl,by show(l.length:Int)=n;omega,ep,rfl,rfl,rfl,rfl,rfl⟩
  refine aa 2 ?_;refine ai.v (V.cmp rfl rfl c5) ?_;refine aa 18 ?_;all_goals exact⟨_,_,⟨a,⟨qY,po,nC,mx,o,.slice none 0 0,.slice none 0 0⟩,_,r,rfl,rfl⟩,VH⟩
abbrev pI:bF->aj:=λd=>A d.c
structure kb where
 n:Int
 c:bo
 jG:ab (ag×bF)
 w:ab (ag×Int)
 cV:Int
structure pJ where
 e2:Nat
 kH:Nat
 kv:Nat
 L:fI
def iW(b:Nat)(T:pJ)(u:kb):ab ay:=[cells b 41 (jF.c ⟨av T.e2 0,u.n,.map (some T.kH),.map (some T.kv),u.cV⟩),bz b9 pI T.kH u.jG,bz b9 fg T.kv u.w]++bE T.e2 T.L u.c
def sS:hX prog 38 46 29=true:=rfl
def afW:hX prog 39 46 3=true:=rfl
def ajl(n:Int)(y:n=3\/n=5\/n=7):ar prog 10 [I n] [cM] (λr J=>∃i T u,(lV n u.c/\u.n=n/\u.jG=[]/\u.cV=0)/\r=av i 0/\J=iW i T u):=by
 have X:ar prog 25 [I n] [cM] (λr J=>∃b L c,lV n c/\r=.tuple #[av b 0,I 0]/\J=[aK (bE b L c)]):=by refine ar.Wg (Kv n y) ?_;rintro v J W D w⟨b,L,c,Y,rfl,rfl⟩ m;exact⟨_,⟨b,L,c,Y,rfl,rfl⟩,m.eqv aP.aK.symm⟩
 suffices s:ar prog 10 [I n] [cM] (λr J=>∃i b L c N U,lV n c/\r=av i 0/\J=[cells i 41 (jF.c ⟨av b 0,n,.map (some N),.map (some U),0⟩),bz b9 pI N [],bz b9 fg U [],aK (bE b L c)]) by refine ar.Wg s ?_;rintro v J W D w⟨i,b,L,c,N,U,Y,rfl,rfl⟩ m;refine⟨_,⟨i,⟨b,N,U,L⟩,⟨n,c,[],[],0⟩,⟨Y,rfl,rfl,rfl⟩,rfl,rfl⟩,?_⟩;have Z:=m.eqv (aP.append (aP.refl [cells i 41 (jF.c ⟨av b 0,n,.map (some N),.map (some U),0⟩),bz b9 pI N [],bz b9 fg U []]) (aP.aK (bg:=bE b L c)));unfold iW;exact Z
 refine aF func10 λW=>?_;refine aa 9 ?_;rintro _ _⟨g,s,h,E,rfl,rfl⟩;refine aa 12 ?_;refine ai.o (aw.mkMap b9 pI rfl (λk=>?_));refine ai.o (aw.mkMap b9 pI rfl (λu=>?_));refine aq 1 λa=>?_;refine aa 5 ?_;all_goals exact⟨_,_,⟨_,_,_,_,_,_,VV,rfl,rfl⟩,VH⟩
inductive hE(c:bo)(a:ea):bo->Option ag->Prop where
 |sub {bs:bo} {x:ag} {e:Int} (ca:a.Kind=0) (h:lT c a.a1 a.cv x e bs):hE c a bs (if e=0 then some x else none)
 |take {bs:bo} {e:Int} (ca:a.Kind=1) (h:lU c a.N e bs):hE c a bs none
 |half {bs:bo} {e:Int} (ca:a.Kind=2) (h:sO c a.N e bs):hE c a bs none
 |y4 {bs:bo} {e:Int} (ca:a.Kind=3) (h:qZ c a.N e bs):hE c a bs none
 |y5 {bs:bo} {e:Int} (ca:a.Kind=4) (h:vD c a.N e bs):hE c a bs none
 |tick {bs:bo} {e:Int} (ca:a.Kind=5) (hv:Nat->Bool) (h:sR hv c e bs):hE c a bs none
 |q0 {bs:bo} {e:Int} (ca:a.Kind=6) (h:sP c a.a1 e bs):hE c a bs none
 |start {bs:bo} {e:Int} (ca:a.Kind=7) (h:sQ c a.a1 e bs):hE c a bs none
 |cut (ca:a.Kind=8):hE c a {c with cut:=lR c.cut a.a1 a.N} none
 |y6 (ca:a.Kind=9):hE c a {c with cut:=List.replicate 49 false} none
 |settle {bs:bo} (ca:a.Kind=10) (h:pH c (Min.min a.N 60) bs):hE c a bs none
 |none (ca:a.Kind<0\/10<a.Kind):hE c a c none
def pK(m:ab (ag×bF))(d:bF):aT ag->ab (ag×bF)
 |some x=>bA m x d
 |.none=>m
def sT(u:kb)(a:ea)(E:kb):Prop:=∃o,hE u.c a E.c o/\E.jG=pK u.jG a.cv o/\E.cV=u.cV+1/\E.n=u.n
def hE.cu{k:Nat}{c d:bo}{a:ea}{o:aT ag}(h:cC k c)(T:k<=1000000000000)(J:hE c a d o):cC (k+70000000) d:=by
 cases J with
 |sub _ Y=>exact(Y.cu h).mono ac
 |take _ Y=>exact(Y.cu h).mono ac
 |half _ Y=>exact(Y.cu h).mono ac
 |y4 _ Y=>exact(Y.cu h).mono ac
 |y5 _ Y=>exact(Y.cu h).mono ac
 |tick _ w Y=>exact(Y.cu h).mono ac
 |q0 _ Y=>exact(Y.cu h).mono ac
 |start _ Y=>exact(Y.cu h T).mono ac
 |cut _=>exact(h.abs ((af9 ..).trans h.cut)).mono ac
 |y6 _=>exact(h.abs rfl).mono ac
 |settle _ Y=>
  obtain⟨j,v,Z,_⟩:=Y;have:j<=60:=ac
  exact(v.cu h).mono ac
 |none _=>exact h.mono ac
def ag0(eu:Nat)(T:pJ)(u:kb)(a:ea)(k:Nat)(h:cC k u.c)(ca:k<=70000000000)(cB:0<=u.cV/\u.cV<=1000000)(bV:0<=a.rj/\a.rj<256):ar prog 11 [av eu 0,A a.c] (iW eu T u) (λr Yc=>∃TG j0,sT u a j0/\r=.tuple #[]/\Yc=iW eu TG j0):=by
 obtain⟨N,c,i,w,cV⟩:=u;obtain⟨s,J,Y,L⟩:=T;obtain⟨m,M,d,n,U,sp⟩:=a;dsimp only at h cB bV;obtain⟨Yp,Yh⟩:∃b:aS,sp=(b.toNat:Int):=⟨UInt8.ofNat sp.toNat,by rw[UInt8.toNat_ofNat'];omega⟩
 subst Yh;have y (f:bo) (o:aT ag) (G:ab (ag×Int)) (g:hE c ⟨m,M,d,n,U,(Yp.toNat:Int)⟩ f o):sT ⟨N,c,i,w,cV⟩ ⟨m,M,d,n,U,(Yp.toNat:Int)⟩ ⟨N,f,pK i d o,G,cV+1⟩:=⟨o,g,rfl,rfl,rfl⟩
 have Z (j:Int) (dK:m≠j):bb .eql m j=some false:=by simp[bb,dK]
 unfold iW;refine bh ?_;by_cases gY:m=1
 .subst gY;have K:=ET s L c n k h ac;have p:=λf o G g=>y f o G g;unfold bE dN dX at K⊢;refine aF func11 λW=>?_;generalize br _=D;refine aq 2 λgD=>?_;refine aa 34 ?_;refine ah.c (λt=>?_) (λt=>?_);replace t:=g5 t;refine Nt λYz YA YR Yg=>?_;rotate_left;exact mq t;all_goals exact⟨_,_,⟨⟨s,J,Y,Yz⟩,_,p YA none w (hE.take rfl VV),rfl,rfl⟩,VH⟩
 by_cases hf:m=2
 .subst hf;have K:=Tm s L c n U Yp k h ac;have p:=λf o G g=>y f o G g;unfold bE dN dX at K⊢;refine aF func11 λW=>?_;generalize br _=D;refine aq 2 λgD=>?_;refine aa 41 ?_;refine ah.c (λP=>?_) (λP=>?_);replace P:=g5 P;refine Vo λYB YC YS Yk=>?_;rotate_left;exact mq P;all_goals exact⟨_,_,⟨⟨s,J,Y,YB⟩,_,p YC none w (hE.half rfl VV),rfl,rfl⟩,VH⟩
 by_cases qk:m=3
 .subst qk;have K:=Kq s L c n k h.toClP ac;have p:=λf o G g=>y f o G g;unfold bE dN dX at K⊢;refine aF func11 λW=>?_;generalize br _=D;refine aq 2 λgD=>?_;refine aa 48 ?_;refine ah.c (λC=>?_) (λC=>?_);replace C:=g5 C;refine Nt λYD YE YT Yn=>?_;rotate_left;exact mq C;all_goals exact⟨_,_,⟨⟨s,J,Y,YD⟩,_,p YE none w (hE.y4 rfl VV),rfl,rfl⟩,VH⟩
 by_cases ug:m=4
 .subst ug;have K:=aj5 s L c n k h.toClP;have p:=λf o G g=>y f o G g;unfold bE dN dX at K⊢;refine aF func11 λW=>?_;generalize br _=D;refine aq 2 λgD=>?_;refine aa 55 ?_;refine ah.c (λF=>?_) (λF=>?_);replace F:=g5 F;refine Nt λYF YG YU Yo=>?_;rotate_left;exact mq F;all_goals exact⟨_,_,⟨⟨s,J,Y,YF⟩,_,p YG none w (hE.y5 rfl VV),rfl,rfl⟩,VH⟩
 by_cases j8:m=6
 .subst j8;have K:=aiL s L c M U Yp k h;have p:=λf o G g=>y f o G g;unfold bE dN dX at K⊢;refine aF func11 λW=>?_;generalize br _=D;refine aq 2 λgD=>?_;refine aa 69 ?_;refine ah.c (λX=>?_) (λX=>?_);replace X:=g5 X;refine Vo λYt Yu YL Ym=>?_;rotate_left;exact mq X;all_goals exact⟨_,_,⟨⟨s,J,Y,Yt⟩,_,p Yu none w (hE.q0 rfl VV),rfl,rfl⟩,VH⟩
 by_cases nQ:m=7
 .subst nQ;have K:=aix s L c M k h ac;have p:=λf o G g=>y f o G g;unfold bE dN dX at K⊢;refine aF func11 λW=>?_;generalize br _=D;refine aq 2 λgD=>?_;refine aa 76 ?_;refine ah.c (λE=>?_) (λE=>?_);replace E:=g5 E;refine Nt λYv Yw YM Yr=>?_;rotate_left;exact mq E;all_goals exact⟨_,_,⟨⟨s,J,Y,Yv⟩,_,p Yw none w (hE.start rfl VV),rfl,rfl⟩,VH⟩
 by_cases Ys:m=10
 .subst Ys;have K:=Kt s L c (Min.min n 60) k h ac ac;unfold bE dN dX at K⊢;refine aF func11 λW=>?_;generalize br _=D;refine aq 2 λgD=>?_;refine aa 97 ?_;refine ah.c (λYl=>?_) (λYl=>?_);replace Yl:=g5 Yl;refine ah.p' ?_ aC.j.j.j.j.j.j.j.j.j.d'.d';refine ae 7 0 ?_;refine af.x' 7 rfl rfl (K) ?_;rintro _ _⟨Yx,Yy,YN,Yq,rfl,rfl⟩;refine aa 5 ?_;rotate_left;exact mq Yl;all_goals exact⟨_,_,⟨⟨s,J,Y,Yx⟩,_,y Yy none w (hE.settle rfl VV),rfl,rfl⟩,VH⟩
 by_cases Kw:m=8
 .subst Kw;have K:=Kr s L c M n k h.toClP;unfold bE dN dX at K⊢;refine aF func11 λW=>?_;generalize br _=D;refine aq 2 λgD=>?_;refine aa 83 ?_;refine ah.c (λQ=>?_) (λQ=>?_);replace Q:=g5 Q;refine ah.p' ?_ aC.j.j.j.j.j.j.j.j.j.d'.d';refine ae 8 0 ?_;refine af.x' 8 rfl rfl (K) ?_;refine aa 5 ?_;rotate_left;exact mq Q;all_goals exact⟨_,_,⟨⟨s,J,Y,L⟩,_,y _ none w (hE.cut rfl),rfl,rfl⟩,VH⟩
 by_cases Kx:m=9
 .subst Kx;have K:=aeN s L c k h.toClP;unfold bE dN dX at K⊢;refine aF func11 λW=>?_;generalize br _=D;refine aq 2 λgD=>?_;refine aa 90 ?_;refine ah.c (λq=>?_) (λq=>?_);replace q:=g5 q;refine aa 10 ?_;rotate_left;exact mq q;all_goals exact⟨_,_,⟨⟨s,J,Y,L⟩,_,y _ none w (hE.y6 rfl),rfl,rfl⟩,VH⟩
 by_cases Ky:m=0
 .subst Ky;have K:=Kl s L c M d k h ac;unfold bE dN dX at K⊢;refine aF func11 λW=>?_;generalize br _=D;have YO:=y;refine aq 2 λgD=>?_;refine aa 27 ?_;refine ah.c (λR=>?_) (λR=>?_);replace R:=g5 R;rotate_left;exact mq R;refine ah.mt [0,3] (λz:Nat×fI×bo×ag×Int=>lT c M d z.2.2.2.1 z.2.2.2.2 z.2.2.1) (λz=>[(4,av z.1 0),(5,I z.2.2.2.2)]) (λz=>cells z.1 46 z.2.2.2.1.c::bE s z.2.1 z.2.2.1) (s:=bE s L c) ?_ ?_
  .intro fP Ye;unfold bE dN dX at Ye;refine ah.p' ?_ aC.j.j.j.j.j.j.j.j.j.d'.d';refine ae 8 0 ?_;refine af.bx 8 12 rfl rfl ?_ ?_;refine aw.V0 rfl (K) VH ?_;rintro _ _⟨YP,YQ,YV,YW,Yf,rfl,rfl⟩;refine Ni λfO=>?_;refine au ?_;rotate_left;refine O.Q' ad (λfO=>?_);refine au ?_;refine af.x' 8 rfl rfl (K) ?_;rintro _ _⟨YH,YI,YJ,YK,Ym,rfl,rfl⟩;refine Tp ?_;rotate_left;all_goals exact Out.C' Ye (_,_,_,_,_) VV trivial
  rintro⟨fO,gG,gN,x,e⟩ Yi;dsimp only at Yi;unfold bE dN dX;refine bh ?_;by_cases dg:e=0
  .subst dg;have Yj:=λG=>y gN (some x) G (by have h:=hE.sub (a:=⟨0,M,d,n,U,(Yp.toNat:Int)⟩) rfl Yi;rw[aJ rfl]at h;exact h);refine aa 8 ?_;refine ah.p' ?_ aC.j.j.d'.d'.j.j.j.j.j.j.j.d';refine ae 7 0 ?_;refine af.y' 7 rfl (aw.Wh (l:=i) (k:=x) (v:=d) (b8:=b9) (aU:=pI) cw sS rfl rfl rfl VS ?_);refine aa 3 ?_;refine ah.p' ?_ aC.j.j.d'.j.j.j.j.j.j.j.j.d';refine ae 9 0 ?_;refine af.y' 9 rfl (aw.Wh (l:=w) (k:=x) (v:=cV+1) (b8:=b9) (aU:=fg) cw afW rfl rfl rfl VS ?_);refine aa 4 ?_;all_goals exact⟨_,_,⟨⟨s,J,Y,gG⟩,_,Yj _,rfl,rfl⟩,VH⟩
  .have p:=y gN none w (by have h:=hE.sub (a:=⟨0,M,d,n,U,(Yp.toNat:Int)⟩) rfl Yi;rw[aG dg]at h;exact h);have fE:bb .eql e 0=some false:=by simp[bb,dg]
   refine aa 3 ?_;refine ai.v (V.cmp rfl rfl fE) ?_;refine aa 6 ?_;all_goals exact⟨_,_,⟨⟨s,J,Y,gG⟩,_,p,rfl,rfl⟩,VH⟩
 by_cases nM:m=5
 .subst nM;by_cases k1:M<0
  .have K:=EX s L c (rows pF (.slice none 0 0) 3 1 []) none 0 0 0 [] Rd.nil VK (λ_=>true) (λ_=>rfl) k h ac;have fE:bb .lss M 0=some true:=by simp[bb,k1]
   unfold bE dN dX at K⊢;refine aF func11 λW=>?_;generalize br _=D;refine ah.V5 pF 3 1 ?_;refine aq 2 λgD=>?_;refine aa 62 ?_;refine ah.c (λt=>?_) (λt=>?_);replace t:=g5 t;refine aa 4 ?_;refine ai.v (V.cmp rfl rfl fE) ?_;refine aa 9 ?_;rintro _ _⟨g,b,G,n,rfl,rfl⟩;refine aa 4 ?_;rotate_left;exact mq t;all_goals exact⟨_,_,⟨⟨s,J,Y,g⟩,_,y b none w (hE.tick rfl _ VV),rfl,rfl⟩,VH⟩
  .have K:=λp=>EX s L c (rows pF (.slice (some ⟨p,0,none⟩) 1 1) 3 1 [M]) (some ⟨p,0,none⟩) 1 p 0 [M] (Rd.rows (f:=pF) (l:=[M]) (λ_=>rfl) VK) VK (λi=>decide ((i:Int)=M)) (λi=>VK) k h ac;have fE:bb .lss M 0=some false:=by simp[bb,k1]
   unfold bE dN dX at K⊢;refine aF func11 λW=>?_;generalize br _=D;refine aq 2 λgD=>?_;refine aa 62 ?_;refine ah.c (λt=>?_) (λt=>?_);replace t:=g5 t;refine aa 4 ?_;refine ai.v (V.cmp rfl rfl fE) ?_;refine aa 3 ?_;refine ah.p' ?_ aC.j.j.j.j.j.j.j.j.j.d'.d';refine ae 6 0 ?_;refine af.y' 6 rfl (O.V' ad pF [M] rfl (bP.one rfl bP.nil) rfl rfl (λG=>?_));refine au ?_;refine af.x' 7 rfl rfl (K _) ?_;rintro _ _⟨q,h,R,n,rfl,rfl⟩;refine aa 5 ?_;rotate_left;exact mq t;all_goals exact⟨_,_,⟨⟨s,J,Y,q⟩,_,y h none w (hE.tick rfl _ VV),rfl,rfl⟩,VH⟩
 have t:m<0\/10<m:=ac
 have a:=Z 0 Ky;have R:=Z 1 gY;have k:=Z 2 hf;have p:=Z 3 qk;have b:=Z 4 ug;have b:=Z 5 nM;have a:=Z 6 j8;have p:=Z 7 nQ;have r:=Z 8 Kw;have j:=Z 9 Kx;have a:=Z 10 Ys;unfold bE dN dX;refine aF func11 λW=>?_;generalize br _=D;refine aq 2 λgD=>?_;refine aa 23 ?_;refine Vk ?_;refine aa 6 ?_;refine Vk ?_;refine aa 6 ?_;refine ai.v (V.cmp rfl rfl VV) ?_;refine aa 7 ?_;all_goals exact⟨_,_,⟨⟨s,J,Y,L⟩,_,y c none w (hE.none t),rfl,rfl⟩,VH⟩
structure ahF(n:Int)(xs:ab ea):Prop where
 n:n=3\/n=5\/n=7
 len:xs.length<=50
 adT:∀x∈xs,x.cv.Key.length+x.cv.Value.length<=100
def y7(n:Int)(e:ay)(i:aT Go.Addr)(Q b off:Nat)(N:ab ea)(s:∀x∈N,x.cv.Key.length<=140737488351232/\x.cv.Value.length<=140737488351232)(f:Rd e i N.length b off 11 (N.map ea.c)):ar prog 9 [I n,.slice i N.length Q] [e] (λr J=>∃t,(t=false->ahF n N)/\r=B t/\J=[e]):=by
 have F:=f.small;simp only[Go.maxLen]at F;refine aF func9 λW=>?_;refine aa 14 ?_;refine ah.cq [8,7,1,0] (λk:Nat=>k<=N.length/\∀x∈N.take k,x.cv.Key.length+x.cv.Value.length<=100) (λk=>[(9,I (k:Int))]) (λ_=>[]) (λk=>N.length-k) 0 ⟨cG _,VK⟩ ?_;rintro k⟨T,Z⟩ K l;refine bh ?_;by_cases Y:k<N.length
 .obtain⟨d,m⟩:=cl Y;have g:=s d (im m);refine aq 15 λp=>?_;refine aa 17 ?_;refine ah.cs (λM=>?_) (λM=>?_);refine aa 12 ?_
  .exact⟨_,_,⟨true,afb,rfl,rfl⟩,VH⟩
  refine aa 7 ?_;rotate_left;refine Out.C' l (k+1) ?_ Uy;exact ⟨ac,λx U=>by
   rw[mm m,eh,fF]at U;rcases U with U|rfl
   .exact Z x U
   .omega⟩
 .obtain rfl:k=N.length:=by omega
  rw[iI]at Z;clear l;refine aa 17 ?_;refine ai.aX (λC=>?_) (λC=>?_);refine RJ (λX=>?_) λX=>?_;refine RJ (λu=>?_) λu=>?_;refine aa 9 ?_
  exact MP
  refine aa 9 ?_
  exact MP
  refine aa 13 ?_
  exact MP
  refine aa 17 ?_
  exact MP
def y8:bF:={bF.z with Kind:=2,Key:=[97]}
def EZ(c:bo):Prop:=∃g p x e,lV 3 g/\lT g 0 y8 x e p/\pH p 100 c
def y9(l:ab eZ):Bool:=decide (l.map (λt=>t.t.gR)=[1])
def ar.XZ{o:Type}{P:b1}{f:fb}{args:ab aj}{l:ab ay}{Q:o->aj->Prop}{T:o->ab ay}(h:ar P f args l (λr J=>∃z,Q z r/\J=T z)):ar P f args [aK l] (λr J=>∃z,Q z r/\J=[aK (T z)]):=by refine ar.eqv aP.aK h ?_;rintro v J⟨z,aV,rfl⟩;exact⟨_,⟨z,aV,rfl⟩,aP.aK.symm⟩
def TI(n:Int)(m:n=3\/n=5\/n=7):ar prog 25 [I n] [cM] (λr J=>∃b L c,(lV n c/\cC 2000 c)/\r=.tuple #[av b 0,I 0]/\J=[aK (bE b L c)]):=by refine ar.Wg (Kv n m) ?_;rintro v J W D w⟨b,L,c,Y,rfl,rfl⟩ i;exact⟨_,⟨b,L,c,⟨Y,lV.y m Y⟩,rfl,rfl⟩,i.eqv aP.aK.symm⟩
def Kz(b:Nat)(L:fI)(c:bo)(M:Int)(d:bF)(k:Nat)(h:cC k c)(u:k<=90000000000):ar prog 18 [av b 0,I M,A d.c] [aK (bE b L c)] (λr J=>∃F W x e,lT c M d x e W/\r=.tuple #[A x.c,I e]/\J=[aK (bE b F W)]):=by
 have Y:=ar.XZ (Q:=λz r=>lT c M d z.2.2.1 z.2.2.2 z.2.1/\r=.tuple #[A z.2.2.1.c,I z.2.2.2]) (T:=λz:fI×bo×ag×Int=>bE b z.1 z.2.1) (ar.mono (Kl b L c M d k h u) (by rintro r J⟨F,W,x,e,Y,Z,D⟩;exact⟨(F,W,x,e),⟨Y,Z⟩,D⟩))
 refine ar.mono Y ?_;rintro r J⟨⟨F,W,x,e⟩,⟨Y,Z⟩,D⟩;exact⟨F,W,x,e,Y,Z,D⟩
def E0(b:Nat)(L:fI)(c:bo)(W:Int)(k:Nat)(h:cC k c)(u:k<=80000000000)(K:W<=5000):ar prog 17 [av b 0,I W] [aK (bE b L c)] (λr J=>∃F d n,pH c W d/\r=I n/\J=[aK (bE b F d)]):=by
 have Y:=ar.XZ (Q:=λz r=>pH c W z.2.1/\r=I z.2.2) (T:=λz:fI×bo×Int=>bE b z.1 z.2.1) (ar.mono (Kt b L c W k h u K) UM)
 exact Mo
def E1(b:Nat)(L:fI)(c:bo)(k:Nat)(h:ClP k c)(T:k<=100000000000):ar prog 15 [av b 0] [aK (bE b L c)] (λr J=>∃n Q,r=.slice n c.told.length Q/\J=[rows eZ.c (.slice n c.told.length Q) 67 8 c.told,aK (bE b L c)]):=by refine ar.eqv aP.aK (Bh b L c k h T) ?_;rintro v J⟨n,Q,Y,rfl⟩;exact⟨_,⟨n,Q,Y,rfl⟩,(aP.refl [rows eZ.c (.slice n c.told.length Q) 67 8 c.told]).append aP.aK.symm⟩
def aeJ:ar prog 8 [] [cM] (λr J=>∃c,EZ c/\r=B (y9 c.told)/\J=[cM]):=by
 have oI:=TI 3 ac;refine aF func8 λW=>?_;generalize br _=D;refine aa 8 ?_;rintro lL kt⟨m,⟨KA,⟨q,⟨⟨E,d⟩,rfl,rfl⟩⟩⟩⟩;refine aa 22 ?_;have n:lV 3 q:=VV
 have P:cC 2000 q:=VV
 have gy:=Kz m KA q 0 y8 2000 P ac;refine au ?_;rintro _ _⟨x,y,i,G,E,rfl,rfl⟩;refine aa 3 ?_;have Y:lT q 0 y8 i G y:=VV
 have o:=Y.cu P;have Ye:=E0 m x y 100 _ o ac ac;refine aa 4 ?_;rintro _ _⟨b,p,Yf,E,rfl,rfl⟩;refine aa 3 ?_;have u:pH y 100 p:=VV
 have N:cC (2000+1042200+1042300*100) p:=by obtain⟨j,K,bW,_⟩:=u;exact(K.cu o).mono ac
 have z:EZ p:=⟨q,y,i,G,n,Y,u⟩
 have a:=Bh m b p _ N.toClP ac;refine ah.iE (a7:=bE m b p) (λw h=>h.eqv aP.aK) ?_;rcases L:p.told with _|⟨t,_|⟨T,l⟩⟩
 .unfold bE dN dX at a⊢;rw[L]at a⊢;dsimp only[List.length_nil]at a;refine aa 4 ?_;rintro _ _⟨U,s,rfl,rfl⟩;refine aa 18 ?_;all_goals exact⟨_,_,⟨p,z,by rw[L];rfl,rfl⟩,VH⟩
 .have k:ar prog 15 [av m 0] (bE m b p) (λr J=>∃g Q,r=.slice (some ⟨g,0,none⟩) 1 Q/\J=rows eZ.c (.slice (some ⟨g,0,none⟩) 1 Q) 67 8 [t]::bE m b p):=by refine ar.Wg a ?_;rintro v J W D w⟨F,Q,rfl,rfl⟩ Z;obtain⟨Yc,M,sB,C,R⟩:=jc (f:=eZ.c) (v:=.slice F p.told.length Q) (l:=p.told) eZ.WO er w Z;cases C;have X:=R.addr (by rw[L];exact Nat.one_pos);subst X;rw[L]at Z⊢;exact⟨_,⟨sB,Q,rfl,rfl⟩,Z⟩
  unfold bE dN dX at k⊢;rw[L]at k⊢;refine aa 4 ?_;rintro _ _⟨W,s,rfl,rfl⟩;refine aa 6 ?_;rintro _ _⟨J,f,rfl,rfl⟩;refine au ?_;refine ai.v (V.E' ad (k:=0) rfl rfl) ?_;refine aa 3 ?_;refine ai.v (V.Xa ad (k:=0) (o:=4) (v:=I t.t.gR) rfl VF eZ.WO (show[t][0]?=some t from rfl)) ?_;refine aa 7 ?_;all_goals exact⟨_,_,⟨p,z,by rw[L];simp[y9],rfl⟩,VH⟩
 .unfold bE dN dX at a⊢;rw[L]at a⊢;have P:bb .eql (((t::T::l).length:Nat):Int) 1=some false:=by simp[bb];omega
  generalize(t::T::l).length=o at a P;refine aa 4 ?_;rintro _ _⟨U,s,rfl,rfl⟩;refine aa 2 ?_;refine ai.v (V.cmp rfl rfl P) ?_;refine aa 15 ?_;all_goals exact⟨_,_,⟨p,z,by rw[L];simp[y9],rfl⟩,VH⟩
def kA{a b:Int}(J:0<=a)(X:0<=b){r s:ab aS}(h:bL a++r=bL b++s):a=b/\r=s:=by
 have x:∀{a b:Int},0<=a->0<=b->∀{r s:ab aS},bL a++r=bL b++s->(bL a).length<=(bL b).length->a=b:=by intro a b J X r s h u;refine afX J X ?_;have Y:=c7 (List.take (bL a).length) h;rw[pX,oA u]at Y;exact Y.symm
 have e:a=b:=by
  rcases Nat.le_total (bL a).length (bL b).length with u|u
  .exact x J X h u
  .exact(x X J h.symm u).symm
 subst e;exact⟨rfl,List.append_cancel_left h⟩
def agT{x y:ag}(U:bt x n=true)(C:bt y n=true){r s:ab aS}(h:kr x++r=kr y++s):x=y/\r=s:=by obtain⟨K,_,c,_⟩:=mV U;obtain⟨w,_,D,_⟩:=mV C;unfold kr at h;simp only[ck]at h;obtain⟨p,h⟩:=kA K w h;obtain⟨Y,v⟩:=kA ac ac h;exact Ma
def KB{x y:bp}(U:cX x n=true)(C:cX y n=true){r s:ab aS}(h:iJ x++r=iJ y++s):x=y/\r=s:=by obtain⟨K,_,c,_⟩:=k4 U;obtain⟨w,_,D,_⟩:=k4 C;unfold iJ at h;simp only[ck]at h;obtain⟨p,h⟩:=kA K w h;obtain⟨Y,v⟩:=kA c D h;exact Ma
def KC{k l r s:ab aS}(h:bL (k.length:Int)++(k++r)=bL (l.length:Int)++(l++s)):k=l/\r=s:=by obtain⟨e,h⟩:=kA (u7 _) (u7 _) h;exact List.append_inj h ac
def agH{x y:bF}(U:dh x)(C:dh y){r s:ab aS}(h:ps x++r=ps y++s):x=y/\r=s:=by obtain⟨⟨K,_,c,_,T,_⟩,Q⟩:=U;obtain⟨⟨w,_,D,_,X,_⟩,E⟩:=C;unfold ps at h;simp only[ck]at h;obtain⟨p,h⟩:=kA ac ac h;obtain⟨Y,h⟩:=KC h;obtain⟨j,h⟩:=KC h;obtain⟨Z,h⟩:=kA ac ac h;obtain⟨t,h⟩:=kA ac ac h;obtain⟨n,v⟩:=kA ac ac h;obtain⟨i,M,u,a,l,m⟩:=x;obtain⟨k,J,N,b,F,f⟩:=y;dsimp only at p Y j Z t n;subst p Y j Z t n;exact⟨rfl,v⟩
def ahv{x y:b4}(U:ga x n=true)(C:ga y n=true){r s:ab aS}(h:tQ x++r=tQ y++s):x=y/\r=s:=by have lA:=u6 U;have E:=u6 C;obtain⟨T,i,M,u,w,F,c⟩:=x;obtain⟨z,k,J,N,b,X,f⟩:=y;simp only[b4.l,cQ,kq,gl,forall_eq_or_imp,forall_eq]at lA E;simp only[tQ,b4.l,fW,nY,ck,g4]at h;obtain⟨L,h⟩:=kA ac ac h;obtain⟨p,h⟩:=kA ac ac h;obtain⟨Y,h⟩:=kA ac ac h;obtain⟨j,h⟩:=kA ac ac h;obtain⟨Z,h⟩:=kA ac ac h;obtain⟨t,h⟩:=kA ac ac h;obtain⟨K,v⟩:=kA ac ac h;subst L p Y j Z t K;exact⟨rfl,v⟩
def TN{x y:aO}(U:e1 x n=true)(C:e1 y n=true){r s:ab aS}(h:kG x++r=kG y++s):x=y/\r=s:=by obtain⟨K,m,i,_⟩:=pt U;obtain⟨w,D,Z,_⟩:=pt C;unfold kG at h;simp only[ck]at h;obtain⟨p,h⟩:=agH K w h;obtain⟨Y,h⟩:=ahv m D h;obtain⟨j,v⟩:=kA i Z h;obtain⟨a,b,c⟩:=x;obtain⟨M,J,d⟩:=y;dsimp only at p Y j;subst p Y j;exact⟨rfl,v⟩
def af7(a b:Bool){r s:ab aS}(h:bL (if a then 1 else 0)++r=bL (if b then 1 else 0)++s):a=b/\r=s:=by obtain⟨e,h⟩:=kA (by split<;>omega) (by split<;>omega) h;refine⟨?_,h⟩;cases a<;>cases b<;>simp at e⊢
def aes{o:aD}(K:hz m n)(a:hz o n)(h:iu m=iu o):m=o:=by
 have h:iu m++[]=iu o++[]:=by rw[h]
 unfold iu at h;simp only[ck]at h;have c:=K.gY;have L:=a.gY;obtain⟨p,h⟩:=kA ac ac h;obtain⟨x,h⟩:=kA K.f1 a.f1 h;obtain⟨j,h⟩:=kA K.t1 a.t1 h;obtain⟨J,h⟩:=agT K.item a.item h;obtain⟨t,h⟩:=KB K.bm a.bm h;have T:(oP m++(mw m++(lG m++[])))=(oP o++(mw o++(lG o++[])))->m.bZ=o.bZ/\m.Status=o.Status/\mw m++(lG m++[])=mw o++(lG o++[]):=by
  intro h;unfold oP at h;rw[<-p]at h;by_cases T:iK m.Kind.toNat=true
  .rw[aJ T,aJ T]at h;simp only[ck]at h;obtain⟨C,r,_⟩:=K.known T;obtain⟨F,G,_⟩:=a.known (p▸T);obtain⟨R,h⟩:=KB C F h;obtain⟨s,h⟩:=kA r G h;exact⟨R,s,h⟩
  .rw[aG T,aG T]at h;have Y:=K.bare (Bool.eq_false_iff.2 T);have Z:=a.bare (Bool.eq_false_iff.2 (p▸T));exact⟨Y.1.trans Z.1.symm,Y.2.trans Z.2.symm,h⟩
 obtain⟨l,P,h⟩:=T h;have E:mw m++(lG m++[])=mw o++(lG o++[])->m.cZ=o.cZ/\lG m++[]=lG o++[]:=by
  intro h;unfold mw at h;rw[<-p]at h;by_cases T:(iK m.Kind.toNat||m.Kind==2)=true
  .rw[aJ T,aJ T]at h;exact af7 _ _ h
  .rw[aG T,aG T]at h;refine⟨?_,h⟩;have g (q:aD) (aV:hz q n) (e:q.Kind=m.Kind):q.cZ=false:=by
    cases v:q.cZ with
    |false=>rfl
    |true=>
     exfalso;apply T;rcases aV.same v with h|h
     .rw[hc];right;rw[<-e,h];rfl
     .rw[hc];left;rw[<-e];exact h
   rw[g m K rfl,g o a p.symm]
 obtain⟨z,h⟩:=E h;have D:m.Call=o.Call:=by
  unfold lG at h;rw[<-p]at h;have y:=K.call;have u:=a.call;rw[<-p]at u;by_cases T:jL m.Kind.toNat=true
  .rw[aJ T,aJ T]at h;rw[aJ T]at y u;exact(TN y u h).1
  .rw[aG T]at y u;rw[y,u]
 obtain⟨i,M,Q,w,X,W,um,ad6,a9⟩:=m;obtain⟨k,U,N,b,d,f,aiB,hO,aik⟩:=o;dsimp only at p x j J t l P z D;subst p x j J t l P z D;rfl
def Bj{o:aD}(y:n<=7)(K:c4 m n=true)(a:c4 o n=true)(h:gP m=gP o):m=o:=by have K:=gZ.1 K;have a:=gZ.1 a;have o:=yy y K;have Y:=yy y a;refine aes K a ?_;unfold gP he at h;rw[aG ac,aG ac]at h;simp only[ck]at h;obtain⟨e,h⟩:=kA (u7 _) (u7 _) h;exact(List.append_inj h rfl).2
def uo{s L:aA}(h:kP s L)(a:s.run.dc=[]):L=s:=by
 obtain⟨N,w,x,q,j,G,K,f,⟨_,_,C⟩,rfl⟩:=h;obtain⟨rfl,rfl⟩:=G.none a;obtain rfl:=K.no a;obtain rfl:q=[]:=by rw[yN]at f;exact CR.1 f
 obtain rfl:=C.1 rfl;rw[db];rfl
def KD{s L:aA}(h:ig s L):L=s\/∃m x q,s.inbox=m::x/\fs {s with inbox:=x} m q/\ig q L:=by
 induction h with
 |refl=>exact q1 rfl
 |step h am K X=>
  right;rcases X with rfl|⟨d,t,q,Y,Z,D⟩
  .exact⟨_,_,_,am,K,ig.refl _⟩
  .exact⟨d,t,q,Y,Z,D.step am K⟩
def xg{s L:aA}(h:jB s L)(am:s.inbox=[]):kP s L:=by
 obtain⟨r,Y,Z,D⟩:=h;rcases KD Y with rfl|⟨m,x,q,e,_⟩
 .exact D
 .rw[am]at e;cases e
def Bk{s L:aA}{x:ab aD}(h:jB s L)(am:s.inbox=m::x):∃q,fs {s with inbox:=x} m q/\jB q L:=by
 obtain⟨r,Y,Z,D⟩:=h;rcases KD Y with rfl|⟨d,z,q,e,n,t⟩
 .rw[am]at Z;cases Z
 .rw[am]at e;cases e;exact⟨q,n,r,t,Z,D⟩
def wP(s:bS)(x:ag)(i:aY):(s.add x i).p=s.p.set x i:=by unfold bS.add bS.XO;dsimp only;split<;>rfl
def uq{s:bS}(h:s.ok){x:ag}(U:bt x s.n=true)(i:aY)(y:ag):(s.add x i).p.at y=if y=x then some i else s.p.at y:=by
 rw[wP,aL.WN h.p,h.aE];by_cases e:y=x
 .rw[aJ ⟨U,e⟩,aJ e]
 .rw[aG (λq=>e q.2),aG e]
structure kB(n:Int)(i:Nat)(dm:ag->aT aO)(ex:ag->aT aY)(s:aA):Prop where
 n:s.n=n
 self:s.self=(i:Int)
 bq:s.bq=[]
 rX:s.inbox=[]
 dc:s.run.dc=[]
 sU:∀y c,dm y=some c->∃j,s.ax.p.at y=some j/\j.Status=3/\j.Call=c
 no:∀y,dm y=none->s.ax.p.at y=ex y
 is:∀y,s.run.g.is y=(dm y).isSome
 over:∀y,s.run.g.over y=(dm y).isSome
 cR:∀y v,aZ s.cR y=some v->y.a1=(i:Int)
def sV(x:ag)(c:aO):ag->aT aY:=λy=>if y=x then some ⟨⟨0,x.a1⟩,⟨0,x.a1⟩,1,c,true⟩else none
def h2(x:ag)(c:aO)(i:Int):aD:={aD.z with Kind:=1,bc:=x.a1,bI:=i,Item:=x,bC:=⟨0,x.a1⟩,Call:=c}
def hF(x:ag)(c:aO)(i:Int):aD:={aD.z with Kind:=2,bc:=i,bI:=x.a1,Item:=x,bC:=⟨0,x.a1⟩,cZ:=true,Call:=c}
def lW(x:ag)(c:aO)(i:Int):aD:={aD.z with Kind:=5,bc:=x.a1,bI:=i,Item:=x,bC:=⟨0,x.a1⟩,Call:=c}
def ami(a:b4):lA a a=a:=by obtain⟨k,i,M,u,r,l,y⟩:=a;simp[lA]
def aly{a:b4}(h:ga a n=true):lA b4.z a=a:=by have:=u6 h;obtain⟨k,i,M,u,r,l,y⟩:=a;simp only[b4.l,cQ,kq,gl,forall_eq_or_imp,forall_eq]at this;simp only[lA,b4.z,b4.mk.injEq];omega
def KE{a:b4}(h:ga a n=true):oM [a,a]=a:=by
 show lA (lA b4.z a) a=a
 rw[aly h,ami]
def af4{c:aO}(h:ga c.eX n=true)(d:bF):n4 c [⟨d,c.eX,c.Seq⟩]=c:=by
 show wG {c with eX:=oM [c.eX,c.eX]} ⟨d,c.eX,c.Seq⟩=c
 unfold wG;dsimp only;rw[KE h,KE h,Int.max_self]
def KF{s:bS}(h:s.ok){x:ag}{c:aO}{i:Int}(U:s.p.at x=none)(G:c4 (h2 x c i) s.n=true)(q:(fH s.p c.cv x).1=c.eX/\(fH s.p c.cv x).2=c.Seq):cH s i (h2 x c i)=(s.add x ⟨⟨0,x.a1⟩,⟨0,x.a1⟩,1,c,true⟩,hF x c i,true):=by
 have K:=gZ.1 G;have F:e1 c s.n=true:=qU K rfl;have am:bn s.p x=aY.z:=by unfold bn;rw[U];rfl
 have g:0<=x.a1:=(mV K.item).1;have P:rO s (h2 x c i)=c:=by
  show n4 c [⟨bF.z,(fH s.p c.cv x).1,(fH s.p c.cv x).2⟩]=c
  rw[q.1,q.2];exact af4 (pt F).2.1 _
 have J:kO s (h2 x c i)=true:=by unfold kO;rw[P];simp[h2]
 have t:i3 aY.z ⟨0,x.a1⟩ 1 c true=(⟨⟨0,x.a1⟩,⟨0,x.a1⟩,1,c,true⟩,true):=by
  unfold i3;have R:¬(ip ⟨0,x.a1⟩ aY.z.bO=true\/aY.z.Status=3):=by
   rintro(h|h)
   .have Z:decide (x.a1<0)=true:=h;rw[cO]at Z;omega
   .revert h;decide
  have k:¬(aY.z.bZ=⟨0,x.a1⟩/\(1:Int)<=aY.z.Status):=by rintro⟨_,h⟩;revert h;decide
  rw[aG R,aG k]
 unfold cH;rw[aJ ⟨G,rfl⟩];unfold mb;dsimp only;have y:(h2 x c i).Item=x:=rfl;have Y:(h2 x c i).Kind=1:=rfl;rw[y,am,aG (by rintro⟨_,h⟩;revert h;decide),aJ Y];unfold j4;dsimp only;rw[P,J];have j:(h2 x c i).bC=⟨0,x.a1⟩:=rfl;rw[j,t];dsimp only;rw[aJ rfl];unfold ma;rw[aG (by intro h;have Z:(0:Int)=1:=c7 aY.Status h;revert Z;decide)];rfl
def TT{d:b4}(h:ga d n=true)(y:n<=7):ga d 7=true:=by rw[su]at h⊢;intro k m T;have:=h k m T;simp only[j2,c1,hc,cO]at this⊢;omega
def xh(i:aY)(c:aO):aY:=⟨i.bO,i.bZ,3,c,false⟩
def aek{s:bS}{x:ag}{c:aO}{i:Int}(G:c4 (lW x c i) s.n=true)(D:(bn s.p x).Status≠3):cH s i (lW x c i)=(s.add x (xh (bn s.p x) c),aD.z,false):=by unfold cH;rw[aJ ⟨G,rfl⟩];unfold mb;dsimp only;have y:(lW x c i).Item=x:=rfl;have Y:(lW x c i).Kind=5:=rfl;rw[y,Y,aG (by rintro⟨_,h⟩;exact D h),aG VI,aG VI,aG VI,aJ rfl];unfold p6;rw[aG D];unfold ma;dsimp only;rw[aG (by intro h;have Z:(bn s.p x).Status=3:=c7 aY.Status h;exact D Z)];rfl
def kB.adq{i:Nat}{s r:aA}{x:ag}{c:aO}(h:kB n i F (λ_=>none) s)(u:s.leads=[])(T:s.ax.ok)(m:s.ax.n=s.n)(U:F x=none)(f:x.a1≠(i:Int))(G:c4 (h2 x c i) s.n=true)(q:(fH s.ax.p c.cv x).1=c.eX/\(fH s.ax.p c.cv x).2=c.Seq)(w:fs s (h2 x c i) r):kB n i F (sV x c) r/\r.leads=[]/\r.out=s.out++g2 s.n s.self [hF x c i]/\r.told=s.told:=by
 have K:=gZ.1 G;have z:=KF T (h.no x U) (m▸G) q;rw[<-h.self]at z;have Q:=λy=>uq T (x:=x) (by rw[m];exact K.item) ⟨⟨0,x.a1⟩,⟨0,x.a1⟩,1,c,true⟩ y;have am:fa s.self [hF x c s.self]=[]:=by
  unfold fa;rw[E2]
  .rfl
  .rw[cO];show¬x.a1=s.self
   rw[h.self];exact f
 have em:h2 x c (i:Int)=h2 x c s.self:=by rw[h.self]
 rw[em]at w;rw[<-h.self];rcases w with⟨_,X,_,_,a⟩|⟨t,_⟩
 .have b:(h2 x c s.self).Item=x:=rfl;unfold aA.U' at a;rw[b,z]at a;dsimp only at a;rw[aJ rfl]at a;have E:(bn (s.ax.add x ⟨⟨0,x.a1⟩,⟨0,x.a1⟩,1,c,true⟩).p x).Status=1:=by unfold bn;rw[Q,aJ rfl];rfl
  rcases a with⟨D,_⟩|⟨_,J⟩
  .rw[E]at D;exact absurd D VI
  .unfold je aA.send aA.Wu aA.Wv at J;dsimp only at J;rw[u,h.bq,am]at J;simp only[mu]at J;subst J;refine⟨⟨h.n,h.self,rfl,?_,h.dc,?_,?_,h.is,h.over,h.cR⟩,rfl,rfl,rfl⟩
   .show s.inbox++[]=[];rw[h.rX];rfl
   .intro y d C;obtain⟨j,v,Y,Z⟩:=h.sU y d C;refine⟨j,?_,Y,Z⟩;show(s.ax.add x _).p.at y=_
    rw[Q,aG (by rintro rfl;rw[U]at C;cases C)];exact v
   .intro y C;show(s.ax.add x _).p.at y=_
    rw[Q,h.no y C];rfl
 .exact absurd (q1 rfl) t
def oj(F:ag->aT aO)(x:ag)(c:aO):ag->aT aO:=λy=>if y=x then some c else F y
def kB.comm{i:Nat}{ex:ag->aT aY}{s r q:aA}{x:ag}{c:aO}(h:kB n i F ex s)(dz:fm s.leads x=[])(ca:s.ax.ok)(cN:s.ax.n=s.n)(k:hp s.n s.run)(b6:F x=none)(P:∀y,y≠x->ex y=none)(cd:(bn s.ax.p x).Status≠3)(bG:c4 (lW x c i) s.n=true)(du:∀y∈rB c.eX,y≠x->(F y).isSome=true)(ir:fs s (lW x c i) r)(R:jB r q):kB n i (oj F x c) (λ_=>none) q/\q.leads=[]/\q.out=s.out/\∃t,q.told=s.told++t/\t.map (·.Item)=(if decide (c.cv.Kind≠0)&&(aZ s.cR x).getD false then[x]else[])/\∀y∈t,y.gR=(ic s.M.s c.cv).1.gR:=by
 have E:=gZ.1 bG;have dG:e1 c s.n=true:=qU E rfl;have X:bt x s.n=true:=E.item;have cn:=aek (i:=(i:Int)) (cN▸bG) cd;rw[<-h.self]at cn;have Q:=λy=>uq ca (x:=x) (by rw[cN];exact E.item) (xh (bn s.ax.p x) c) y;have em:lW x c (i:Int)=lW x c s.self:=by rw[h.self]
 rw[em]at ir;have L:s.run.g.is x=false:=by rw[h.is,b6];rfl
 have w:s.run.g.WE x c=true:=by unfold bv.WE;rw[L,k.rc,X,TT (pt dG).2.1 k.gF];rfl
 rcases ir with⟨_,wW,_,_,v⟩|⟨z,_⟩
 .have G:(lW x c s.self).Item=x:=rfl;unfold aA.U' at v;rw[G,cn]at v;dsimp only at v;rw[aG VI]at v;have T:bn (s.ax.add x (xh (bn s.ax.p x) c)).p x=(xh (bn s.ax.p x) c):=by
   show(aL.at _ x).getD _=_
   rw[Q,aJ rfl];rfl
  rcases v with⟨_,Yg⟩|⟨gw,_⟩
  .obtain⟨l,Z,J⟩:=Yg.go;dsimp only at Z;rw[T]at Z;change dl.Xz s.run x c l at Z;obtain⟨W,Yj,b⟩:=Z;rw[w,aJ rfl,h.dc,g4]at b;have b:=List.perm_singleton.1 b;have f1:r.n=s.n:=by rw[J]
   have f2:r.self=s.self:=by rw[J]
   have f3:r.leads=[]:=by rw[J];exact dz
   have f4:r.bq=[]:=by rw[J];show fm s.bq x=[];rw[h.bq];rfl
   have f5:r.inbox=[]:=by rw[J];exact h.rX
   have f6:r.out=s.out:=by rw[J]
   have f7:r.told=s.told:=by rw[J]
   have KG:r.ax=s.ax.add x (xh (bn s.ax.p x) c):=by rw[J]
   have Bl:r.cR=s.cR:=by rw[J]
   have Yh:r.M=s.M:=by rw[J]
   have d:r.run=l:=by rw[J]
   clear J;obtain⟨xs,u,alJ,Y,Yc,a,Ye,f,⟨_,_,lF⟩,C⟩:=xg R f5;have m:r.run.g.call x=c:=by rw[d,W];unfold bv.Wf bv.call;rw[aJ w];dsimp only;rw[aL.WN k.g.c,aJ ⟨by rw[k.rc];exact X,rfl⟩];rfl
   have o:∀y,r.run.g.over y=(F y).isSome:=λy=>by rw[d,W,bv.XS,h.over]
   have Yi:∀y,r.run.g.is y=((F y).isSome||decide (y=x)):=λy=>by rw[d,W,bv.XR k.g w,h.is]
   have Yf:xs=[x]:=by
    refine a.one x (by rw[d];exact b) ?_;unfold bv.waits;rw[m,Kp];intro y K;rw[o];by_cases e:y=x
    .simp[e]
    .rw[du y K e];simp
   subst Yf;have G:q.n=r.n:=Oc
   have bx:q.self=r.self:=Oc
   have fL:q.leads=r.leads:=Oc
   have pj:q.bq=r.bq:=Oc
   have k0:q.inbox=r.inbox:=Oc
   have pm:q.out=r.out:=Oc
   have TV:q.told=r.told++Y:=Oc
   have KH:q.ax=r.ax:=Oc
   have TW:q.cR=r.cR:=Oc
   have D:q.run=u:=Oc
   clear C;have U:∀y,q.run.g.over y=(oj F x c y).isSome:=λy=>by
    rw[D,a.dw,o];unfold oj;by_cases e:y=x
    .simp[e]
    .simp[e]
   have N:∀y,q.run.g.is y=(oj F x c y).isSome:=λy=>by
    have:q.run.g.is y=r.run.g.is y:=by unfold bv.is;rw[D,a.calls]
    rw[this,Yi];unfold oj;by_cases e:y=x
    .simp[e]
    .simp[e]
   refine⟨⟨by rw[G,f1,h.n],by rw[bx,f2,h.self],by rw[pj,f4],by rw[k0,f5],?_,?_,?_,N,U,?_⟩,by rw[fL,f3],by rw[pm,f6],Y,by rw[TV,f7],?_,?_⟩
   .rw[J5];intro y K;have:=(a.ok.gz y).1 (by rw[<-D];exact K);rw[<-D,N,U]at this;rw[this.1]at this;exact absurd this.2 VI
   .intro y bs K;rw[KH,KG];unfold oj at K;by_cases e:y=x
    .rw[aJ e]at K;cases K;exact⟨xh (bn s.ax.p x) c,by rw[Q,aJ e],rfl,rfl⟩
    .rw[aG e]at K;obtain⟨j,dK,bf,bW⟩:=h.sU y bs K;exact⟨j,by rw[Q,aG e];exact dK,bf,bW⟩
   .intro y K;rw[KH,KG];unfold oj at K;by_cases e:y=x
    .rw[aJ e]at K;cases K
    .rw[aG e]at K;rw[Q,aG e,h.no y K,P y e]
   .intro y v K;rw[TW,Bl]at K;exact h.cR y v K
   .rw[f];unfold aA.Wx;rw[Bl,ro,yN,m]
   .intro y K;have:=lF.2 x rfl y K;rw[Yh,m]at this;exact this
  .rw[T]at gw;exact absurd rfl gw
 .exact absurd (qu (qu (qu rfl))) z
def E3{x:ag}{c:aO}{i:Int}(U:bt x n=true)(q:e1 c n=true)(am:0<=i/\i<n):c4 (h2 x c i) n=true:=by
 obtain⟨C,p,_⟩:=mV U;refine gZ.2 ⟨(show(1:Int)<=1 by decide),(show(1:Int)<=8 by decide),C,p,am.1,am.2,U,?_,q,λ_=>⟨rfl,rfl⟩,?_,λh=>absurd (show iK 1=true from h) VI⟩
 exact RB
 .intro h;cases h
def KI{x:ag}{c:aO}{i:Int}(U:bt x n=true)(q:e1 c n=true)(am:0<=i/\i<n):c4 (hF x c i) n=true:=by
 obtain⟨C,p,_⟩:=mV U;refine gZ.2 ⟨(show(1:Int)<=2 by decide),(show(2:Int)<=8 by decide),am.1,am.2,C,p,U,?_,q,λ_=>⟨rfl,rfl⟩,?_,λh=>absurd (show iK 2=true from h) VI⟩
 exact RB
 .intro _;exact q1 rfl
def E4{x:ag}{c:aO}{i:Int}(U:bt x n=true)(q:e1 c n=true)(am:0<=i/\i<n):c4 (lW x c i) n=true:=by
 obtain⟨C,p,_⟩:=mV U;refine gZ.2 ⟨(show(1:Int)<=5 by decide),(show(5:Int)<=8 by decide),C,p,am.1,am.2,U,?_,q,λ_=>⟨rfl,rfl⟩,?_,λh=>absurd (show iK 5=true from h) VI⟩
 exact RB
 .intro h;cases h
def TX{o:Type}{l:ab o}{h:ab Bool}(u:l.length=h.length):∀k,k<=h.length->(jy l h k).length=(h.take k).count true:=by
 intro k;induction k with
 |zero=>intro _;rfl
 |succ k X=>
  intro T;rw[py,bQ,X ac,oC,List.count_append];have r:k<l.length:=ac
  have p:h[k]?=some h[k]:=hl ac;have x:l[k]?=some l[k]:=hl r;unfold jM;rw[hn,p,x];cases h[k]<;>rfl
def Bm{o:Type}{l:ab o}{h:ab Bool}(u:l.length=7)(v:h.length=7):(eT l h).length=h.count true:=by have:=TX (l:=l) (h:=h) ac 7 ac;rw[lr ac]at this;exact this
def xi{o:Type}{l:ab o}{h:ab Bool}{p:Nat×o}(z:p∈eT l h):h.getD p.1 false=true/\l[p.1]?=some p.2:=by
 unfold eT jy at z;rw[List.mem_filterMap]at z;obtain⟨k,_,T⟩:=z;unfold jM at T;split at T
 .rename_i v;cases u:l[k]? with
  |none=>rw[u]at T;cases T
  |some a=>rw[u]at T;cases T;exact⟨v,u⟩
 .cases T
structure q2(l:a6)(n:Int)(x:ag)(c:aO)(bV:Nat->Bool):Prop where
 wf:l.wf
 n:l.n=n
 self:l.self=x.a1
 item:l.item=x
 bm:l.bm=⟨0,x.a1⟩
 call:l.call=c
 phase:l.phase=1
 dj:∀k,k<7->l.dj.getD k false=bV k
 same:∀k m,l.dj.getD k false=true->l.pl[k]?=some m->m.cZ=true
def q2.m6{l:a6}{x:ag}{c:aO}{E:Nat->Bool}(h:q2 l n x c E):(m6 (eT l.pl l.dj):Int)=l.eA:=by
 show((List.filter (λp:Nat×aD=>p.2.cZ) (eT l.pl l.dj)).length:Int)=l.eA
 rw[ww.2 λp z=>h.same p.1 p.2 (xi z).1 (xi z).2,Bm h.wf.pl h.wf.dj,h.wf.eA]
def lX(E:Nat->Bool)(i:Nat):Nat->Bool:=λk=>decide (k=i)||E k
def q2.put{l:a6}{x:ag}{c:aO}{E:Nat->Bool}(h:q2 l n x c E){i:Nat}(am:i<7)(y:E i=false)(K:m.cZ=true):l.can (i:Int)=true/\q2 (l.put (i:Int) m) n x c (lX E i)/\(l.put (i:Int) m).eA=l.eA+1:=by
 have Y:=h.dj i am;rw[y]at Y;have z:=h.wf.dj;have P:=h.wf.pl;have G:l.dj[i]?=some false:=by have e:l.dj[i]?=some (l.dj[i]' ac):=hl ac;rw[hn,e]at Y;rw[e];exact c7 some Y
 have w:l.can (i:Int)=true:=by unfold a6.can;rw[hY,hn,G,c1,cO];exact⟨ac,rfl⟩
 refine⟨w,⟨h.wf.put w m,h.n,h.self,h.item,h.bm,h.call,h.phase,?_,?_⟩,rfl⟩
 .intro k T;show(l.dj.set (i:Int).toNat true).getD k false=lX E i k
  rw[hY,hn,i2];unfold lX;by_cases e:i=k
  .subst e;rw[aJ rfl,aJ ac];simp
  .rw[aG e,<-hn,h.dj k T];simp[ox e]
 .intro k d T s;change(l.dj.set (i:Int).toNat true).getD k false=true at T;change(l.pl.set (i:Int).toNat m)[k]?=some d at s;rw[hY]at T s;rw[hn,i2]at T;rw[i2]at s;by_cases e:i=k
  .subst e;rw[aJ rfl,aJ ac]at s;cases s;exact K
  .rw[aG e]at T s;rw[<-hn]at T;exact h.same k d T s
def q2.B'{l:a6}{x:ag}{c:aO}{E:Nat->Bool}(h:q2 l n x c E)(y:n=3\/n=5\/n=7){i:Nat}(am:(i:Int)<n)(k:E i=false):l.B' (hF x c i)=if 2*cg n<=l.eA+1 then({l.put (i:Int) (hF x c i)with phase:=3},true)else(l.put (i:Int) (hF x c i),false):=by
 obtain⟨a,z,T⟩:=h.put ac k (m:=hF x c i) rfl;have E:=z.m6;rw[T]at E;have w:n-2*cg n=1:=by rcases y with rfl|rfl|rfl<;>decide
 have K:(l.put (i:Int) (hF x c i)).Xp=true:=by unfold a6.Xp;rw[z.bm,z.item];simp
 unfold a6.B';rw[aG,aG,aG,aG,aJ ⟨rfl,h.phase⟩]
 .unfold a6.Ws;have p:(hF x c i).bc=(i:Int):=rfl;rw[p,aJ a,K,h.n,E];by_cases Y:2*cg n<=l.eA+1
  .rw[aJ ⟨rfl,Y⟩,aJ Y]
  .rw[aG (λq=>Y q.2),aG Y];split
   .rfl
   .rw[aG];rintro(q|q)
    .cases q
    .omega
 .intro q;exact q h.bm.symm
 .rintro⟨q,_⟩;exact absurd (show(2:Int)=8 from q) VI
 .intro q;exact absurd (show(2:Int)=5 from q) VI
 .rintro(q|q|q|q|q)
  .rw[h.phase]at q;revert q;decide
  .exact q h.item.symm
  .exact q h.self.symm
  .have:(hF x c i).bc=(i:Int):=rfl;omega
  .have:(hF x c i).bc=(i:Int):=rfl;rw[h.n]at q;omega
end Go.Proofs.YteogojgnkjegmaaGreatDoor
