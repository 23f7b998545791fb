/-
 Part of the proof.
-/
import Derived.Test.YteogojgnkjegmaaGreatDoorAy
set_option linter.all false
set_option maxRecDepth 8000
set_option maxHeartbeats 8000000
namespace Go.Proofs.YteogojgnkjegmaaGreatDoor
open Go.ay Go.Proofs.Tryz
variable[Go.ay.b4]
variable{n:Int}{Q:Nat->Bool}{K:ag->aT aN}{R:Nat}{F:ag->aT aN}{m:aD}{k:Int}{s1:aC}{e:Int}{b:Nat}
def Sd(ee:Nat)(T:we)(u:nY)(a:fS)(k:Nat)(h:dc k u.c)(cc:k<=70000000000)(cN:0<=u.dZ/\u.dZ<=1000000)(b7:0<=a.ss/\a.ss<256):ar prog 11 [aw ee 0,A a.c] (lq ee T u) (λr Yc=>∃aiY lC,x4 u a lC/\r=.tuple #[]/\Yc=lq ee aiY lC):=by
 obtain⟨N,c,y,w,dZ⟩:=u;obtain⟨E,t,P,L⟩:=T;obtain⟨Y,U,d,n,p,sp⟩:=a;dsimp only at h cN b7;obtain⟨Yp,Yg⟩:∃b:aS,sp=(b.toNat:Int):=⟨UInt8.ofNat sp.toNat,by rw[UInt8.toNat_ofNat'];omega⟩
 subst Yg;have G (g:bw) (o:aT ag) (Z:ab (ag×Int)) (f:hF c ⟨Y,U,d,n,p,(Yp.toNat:Int)⟩ g o):x4 ⟨N,c,y,w,dZ⟩ ⟨Y,U,d,n,p,(Yp.toNat:Int)⟩ ⟨N,g,q1 y d o,Z,dZ+1⟩:=⟨o,f,rfl,rfl,rfl⟩
 have Q (j:Int) (dR:Y≠j):bd .eql Y j=some false:=by simp[bd,dR]
 unfold lq;refine bl ?_;by_cases gF:Y=1
 .subst gF;have J:=IP E L c n k h ac;have q:=λg o Z f=>G g o Z f;unfold b5 dw dL at J⊢;refine aE func11 λW=>?_;generalize bn _=D;refine aq 2 λgq=>?_;refine aa 34 ?_;refine ah.c (λm=>?_) (λm=>?_);replace m:=gD m;refine QQ λYz YA YR Yh=>?_;rotate_left;exact lz m;all_goals exact⟨_,_,⟨⟨E,t,P,Yz⟩,_,q YA none w (hF.take rfl TX),rfl,rfl⟩,Uc⟩
 by_cases g2:Y=2
 .subst g2;have J:=RS E L c n p Yp k h ac;have q:=λg o Z f=>G g o Z f;unfold b5 dw dL at J⊢;refine aE func11 λW=>?_;generalize bn _=D;refine aq 2 λgq=>?_;refine aa 41 ?_;refine ah.c (λi=>?_) (λi=>?_);replace i:=gD i;refine Sa λYB YC YS Yl=>?_;rotate_left;exact lz i;all_goals exact⟨_,_,⟨⟨E,t,P,YB⟩,_,q YC none w (hF.half rfl TX),rfl,rfl⟩,Uc⟩
 by_cases pv:Y=3
 .subst pv;have J:=ahV E L c n k h.toClP ac;have q:=λg o Z f=>G g o Z f;unfold b5 dw dL at J⊢;refine aE func11 λW=>?_;generalize bn _=D;refine aq 2 λgq=>?_;refine aa 48 ?_;refine ah.c (λs=>?_) (λs=>?_);replace s:=gD s;refine QQ λYD YE YT Ym=>?_;rotate_left;exact lz s;all_goals exact⟨_,_,⟨⟨E,t,P,YD⟩,_,q YE none w (hF.Dk rfl TX),rfl,rfl⟩,Uc⟩
 by_cases s7:Y=4
 .subst s7;have J:=aiL E L c n k h.toClP;have q:=λg o Z f=>G g o Z f;unfold b5 dw dL at J⊢;refine aE func11 λW=>?_;generalize bn _=D;refine aq 2 λgq=>?_;refine aa 55 ?_;refine ah.c (λM=>?_) (λM=>?_);replace M:=gD M;refine QQ λYF YG YU Yn=>?_;rotate_left;exact lz M;all_goals exact⟨_,_,⟨⟨E,t,P,YF⟩,_,q YG none w (hF.Dl rfl TX),rfl,rfl⟩,Uc⟩
 by_cases js:Y=6
 .subst js;have J:=ad2 E L c U p Yp k h;have q:=λg o Z f=>G g o Z f;unfold b5 dw dL at J⊢;refine aE func11 λW=>?_;generalize bn _=D;refine aq 2 λgq=>?_;refine aa 69 ?_;refine ah.c (λC=>?_) (λC=>?_);replace C:=gD C;refine Sa λYt Yu YL Yo=>?_;rotate_left;exact lz C;all_goals exact⟨_,_,⟨⟨E,t,P,Yt⟩,_,q Yu none w (hF.x3 rfl TX),rfl,rfl⟩,Uc⟩
 by_cases mW:Y=7
 .subst mW;have J:=RY E L c U k h ac;have q:=λg o Z f=>G g o Z f;unfold b5 dw dL at J⊢;refine aE func11 λW=>?_;generalize bn _=D;refine aq 2 λgq=>?_;refine aa 76 ?_;refine ah.c (λK=>?_) (λK=>?_);replace K:=gD K;refine QQ λYv Yw YM Yr=>?_;rotate_left;exact lz K;all_goals exact⟨_,_,⟨⟨E,t,P,Yv⟩,_,q Yw none w (hF.start rfl TX),rfl,rfl⟩,Uc⟩
 by_cases Ys:Y=10
 .subst Ys;have J:=IW E L c (Min.min n 60) k h ac ac;unfold b5 dw dL at J⊢;refine aE func11 λW=>?_;generalize bn _=D;refine aq 2 λgq=>?_;refine aa 97 ?_;refine ah.c (λYk=>?_) (λYk=>?_);replace Yk:=gD Yk;refine ah.n' ?_ aB.j.j.j.j.j.j.j.j.j.d'.d';refine ae 7 0 ?_;refine af.p' 7 rfl rfl (J) ?_;rintro _ _⟨Yx,Yy,YN,Yq,rfl,rfl⟩;refine aa 5 ?_;rotate_left;exact lz Yk;all_goals exact⟨_,_,⟨⟨E,t,P,Yx⟩,_,G Yy none w (hF.settle rfl TX),rfl,rfl⟩,Uc⟩
 by_cases IZ:Y=8
 .subst IZ;have J:=adI E L c U n k h.toClP;unfold b5 dw dL at J⊢;refine aE func11 λW=>?_;generalize bn _=D;refine aq 2 λgq=>?_;refine aa 83 ?_;refine ah.c (λF=>?_) (λF=>?_);replace F:=gD F;refine ah.n' ?_ aB.j.j.j.j.j.j.j.j.j.d'.d';refine ae 8 0 ?_;refine af.p' 8 rfl rfl (J) ?_;refine aa 5 ?_;rotate_left;exact lz F;all_goals exact⟨_,_,⟨⟨E,t,P,L⟩,_,G _ none w (hF.cut rfl),rfl,rfl⟩,Uc⟩
 by_cases I0:Y=9
 .subst I0;have J:=ahs E L c k h.toClP;unfold b5 dw dL at J⊢;refine aE func11 λW=>?_;generalize bn _=D;refine aq 2 λgq=>?_;refine aa 90 ?_;refine ah.c (λX=>?_) (λX=>?_);replace X:=gD X;refine aa 10 ?_;rotate_left;exact lz X;all_goals exact⟨_,_,⟨⟨E,t,P,L⟩,_,G _ none w (hF.Dm rfl),rfl,rfl⟩,Uc⟩
 by_cases I1:Y=0
 .subst I1;have J:=IL E L c U d k h ac;unfold b5 dw dL at J⊢;refine aE func11 λW=>?_;generalize bn _=D;have YO:=G;refine aq 2 λgq=>?_;refine aa 27 ?_;refine ah.c (λR=>?_) (λR=>?_);replace R:=gD R;rotate_left;exact lz R;refine ah.mt [0,3] (λz:Nat×hj×bw×ag×Int=>nr c U d z.2.2.2.1 z.2.2.2.2 z.2.2.1) (λz=>[(4,aw z.1 0),(5,I z.2.2.2.2)]) (λz=>cells z.1 46 z.2.2.2.1.c::b5 E z.2.1 z.2.2.1) (i:=b5 E L c) ?_ ?_
  .intro fM Ye;unfold b5 dw dL at Ye;refine ah.n' ?_ aB.j.j.j.j.j.j.j.j.j.d'.d';refine ae 8 0 ?_;refine af.bv 8 12 rfl rfl ?_ ?_;refine av.Z' rfl (J) Uc ?_;rintro _ _⟨YP,YQ,YV,YW,Yf,rfl,rfl⟩;refine R1 λfT=>?_;refine au ?_;rotate_left;refine O.N' ad (λfT=>?_);refine au ?_;refine af.p' 8 rfl rfl (J) ?_;rintro _ _⟨YH,YI,YJ,YK,Yo,rfl,rfl⟩;refine Sc ?_;rotate_left;all_goals exact Out.z' Ye (_,_,_,_,_) TX trivial
  rintro⟨fT,g4,jm,x,e⟩ Yi;dsimp only at Yi;unfold b5 dw dL;refine bl ?_;by_cases c9:e=0
  .subst c9;have Yj:=λZ=>G jm (some x) Z (by have h:=hF.sub (a:=⟨0,U,d,n,p,(Yp.toNat:Int)⟩) rfl Yi;rw[aQ rfl]at h;exact h);refine aa 8 ?_;refine ah.n' ?_ aB.j.j.d'.d'.j.j.j.j.j.j.j.d';refine ae 7 0 ?_;refine af.q' 7 rfl (av.UC (l:=y) (k:=x) (v:=d) (b1:=cg) (aU:=uC) ct uD rfl rfl rfl T2 ?_);refine aa 3 ?_;refine ah.n' ?_ aB.j.j.d'.j.j.j.j.j.j.j.j.d';refine ae 9 0 ?_;refine af.q' 9 rfl (av.UC (l:=w) (k:=x) (v:=dZ+1) (b1:=cg) (aU:=fl) ct af7 rfl rfl rfl T2 ?_);refine aa 4 ?_;all_goals exact⟨_,_,⟨⟨E,t,P,g4⟩,_,Yj _,rfl,rfl⟩,Uc⟩
  .have q:=G jm none w (by have h:=hF.sub (a:=⟨0,U,d,n,p,(Yp.toNat:Int)⟩) rfl Yi;rw[aM c9]at h;exact h);have gC:bd .eql e 0=some false:=by simp[bd,c9]
   refine aa 3 ?_;refine ai.v (V.cmp rfl rfl gC) ?_;refine aa 6 ?_;all_goals exact⟨_,_,⟨⟨E,t,P,g4⟩,_,q,rfl,rfl⟩,Uc⟩
 by_cases mU:Y=5
 .subst mU;by_cases mx:U<0
  .have J:=IV E L c (rows rS (.slice none 0 0) 3 1 []) none 0 0 0 [] Rd.nil T3 (λ_=>true) (λ_=>rfl) k h ac;have gC:bd .lss U 0=some true:=by simp[bd,mx]
   unfold b5 dw dL at J⊢;refine aE func11 λW=>?_;generalize bn _=D;refine ah.Ur rS 3 1 ?_;refine aq 2 λgq=>?_;refine aa 62 ?_;refine ah.c (λa=>?_) (λa=>?_);replace a:=gD a;refine aa 4 ?_;refine ai.v (V.cmp rfl rfl gC) ?_;refine aa 9 ?_;rintro _ _⟨p,s,C,x,rfl,rfl⟩;refine aa 4 ?_;rotate_left;exact lz a;all_goals exact⟨_,_,⟨⟨E,t,P,p⟩,_,G s none w (hF.tick rfl _ TX),rfl,rfl⟩,Uc⟩
  .have J:=λp=>IV E L c (rows rS (.slice (some ⟨p,0,none⟩) 1 1) 3 1 [U]) (some ⟨p,0,none⟩) 1 p 0 [U] (Rd.rows (f:=rS) (l:=[U]) (λ_=>rfl) T3) T3 (λi=>decide ((i:Int)=U)) (λi=>T3) k h ac;have gC:bd .lss U 0=some false:=by simp[bd,mx]
   unfold b5 dw dL at J⊢;refine aE func11 λW=>?_;generalize bn _=D;refine aq 2 λgq=>?_;refine aa 62 ?_;refine ah.c (λa=>?_) (λa=>?_);replace a:=gD a;refine aa 4 ?_;refine ai.v (V.cmp rfl rfl gC) ?_;refine aa 3 ?_;refine ah.n' ?_ aB.j.j.j.j.j.j.j.j.j.d'.d';refine ae 6 0 ?_;refine af.q' 6 rfl (O.Q' ad rS [U] rfl (bI.one rfl bI.nil) rfl rfl (λK=>?_));refine au ?_;refine af.p' 7 rfl rfl (J _) ?_;rintro _ _⟨s,k,F,x,rfl,rfl⟩;refine aa 5 ?_;rotate_left;exact lz a;all_goals exact⟨_,_,⟨⟨E,t,P,s⟩,_,G k none w (hF.tick rfl _ TX),rfl,rfl⟩,Uc⟩
 have a:Y<0\/10<Y:=ac
 have y:=Q 0 I1;have U:=Q 1 gF;have p:=Q 2 g2;have z:=Q 3 pv;have p:=Q 4 s7;have p:=Q 5 mU;have y:=Q 6 js;have b:=Q 7 mW;have b:=Q 8 IZ;have b:=Q 9 I0;have m:=Q 10 Ys;unfold b5 dw dL;refine aE func11 λW=>?_;generalize bn _=D;refine aq 2 λgq=>?_;refine aa 23 ?_;refine Lv ?_;refine aa 6 ?_;refine Lv ?_;refine aa 6 ?_;refine ai.v (V.cmp rfl rfl TX) ?_;refine aa 7 ?_;all_goals exact⟨_,_,⟨⟨E,t,P,L⟩,_,G c none w (hF.none a),rfl,rfl⟩,Uc⟩
structure Sf(n:Int)(xs:ab fS):Prop where
 n:n=3\/n=5\/n=7
 len:xs.length<=50
 af8:∀x∈xs,x.cv.Key.length+x.cv.Value.length<=100
def I2(n:Int)(e:ax)(i:aT Go.Addr)(E b off:Nat)(Z:ab fS)(l:∀x∈Z,x.cv.Key.length<=140737488351232/\x.cv.Value.length<=140737488351232)(f:Rd e i Z.length b off 11 (Z.map fS.c)):ar prog 9 [I n,.slice i Z.length E] [e] (λr J=>∃t,(t=false->Sf n Z)/\r=B t/\J=[e]):=by
 have F:=f.small;simp only[Go.maxLen]at F;refine aE func9 λW=>?_;refine aa 14 ?_;refine ah.cp [8,7,1,0] (λk:Nat=>k<=Z.length/\∀x∈Z.take k,x.cv.Key.length+x.cv.Value.length<=100) (λk=>[(9,I (k:Int))]) (λ_=>[]) (λk=>Z.length-k) 0 ⟨cO _,T3⟩ ?_;rintro k⟨u,v⟩ K m;refine bl ?_;by_cases y:k<Z.length
 .obtain⟨d,w⟩:=cl y;have X:=l d (jX w);refine aq 15 λg=>?_;refine aa 17 ?_;refine ah.cs (λY=>?_) (λY=>?_);refine aa 12 ?_
  .exact⟨_,_,⟨true,Lq,rfl,rfl⟩,Uc⟩
  refine aa 7 ?_;rotate_left;refine Out.z' m (k+1) ?_ Ob;exact ⟨ac,λx U=>by
   rw[lw w,fd,i2]at U;rcases U with U|rfl
   .exact v x U
   .omega⟩
 .obtain rfl:k=Z.length:=by omega
  rw[ir]at v;clear m;refine aa 17 ?_;refine ai.aY (λN=>?_) (λN=>?_);refine Qa (λM=>?_) λM=>?_;refine Qa (λC=>?_) λC=>?_;refine aa 9 ?_
  exact SQ
  refine aa 9 ?_
  exact SQ
  refine aa 13 ?_
  exact SQ
  refine aa 17 ?_
  exact SQ
def x5:bN:={bN.z with Kind:=2,Key:=[97]}
def Dn(c:bw):Prop:=∃Y U x e,ns 3 Y/\nr Y 0 x5 x e U/\rT U 100 c
def x6(l:ab gi):Bool:=decide (l.map (λt=>t.t.gP)=[1])
def ar.W8{t:Type}{P:bU}{f:eR}{args:ab aj}{l:ab ax}{Q:t->aj->Prop}{T:t->ab ax}(h:ar P f args l (λr J=>∃z,Q z r/\J=T z)):ar P f args [aL l] (λr J=>∃z,Q z r/\J=[aL (T z)]):=by refine ar.eqv aO.aL h ?_;rintro v J⟨z,aW,rfl⟩;exact⟨_,⟨z,aW,rfl⟩,aO.aL.symm⟩
def aiK(n:Int)(p:n=3\/n=5\/n=7):ar prog 25 [I n] [cJ] (λr J=>∃b L c,(ns n c/\dc 2000 c)/\r=.tuple #[aw b 0,I 0]/\J=[aL (b5 b L c)]):=by refine ar.UB (IY n p) ?_;rintro v J W D w⟨b,L,c,Y,rfl,rfl⟩ a;exact⟨_,⟨b,L,c,⟨Y,ns.y p Y⟩,rfl,rfl⟩,a.eqv aO.aL.symm⟩
def adx(b:Nat)(L:hj)(c:bw)(U:Int)(d:bN)(k:Nat)(h:dc k c)(u:k<=90000000000):ar prog 18 [aw b 0,I U,A d.c] [aL (b5 b L c)] (λr J=>∃E g x e,nr c U d x e g/\r=.tuple #[A x.c,I e]/\J=[aL (b5 b E g)]):=by
 have Y:=ar.W8 (Q:=λz r=>nr c U d z.2.2.1 z.2.2.2 z.2.1/\r=.tuple #[A z.2.2.1.c,I z.2.2.2]) (T:=λz:hj×bw×ag×Int=>b5 b z.1 z.2.1) (ar.mono (IL b L c U d k h u) (by rintro r J⟨E,g,x,e,Y,N,R⟩;exact⟨(E,g,x,e),⟨Y,N⟩,R⟩))
 refine ar.mono Y ?_;rintro r J⟨⟨E,g,x,e⟩,⟨Y,N⟩,R⟩;exact⟨E,g,x,e,Y,N,R⟩
def ahO(b:Nat)(L:hj)(c:bw)(G:Int)(k:Nat)(h:dc k c)(u:k<=80000000000)(K:G<=5000):ar prog 17 [aw b 0,I G] [aL (b5 b L c)] (λr J=>∃E g n,rT c G g/\r=I n/\J=[aL (b5 b E g)]):=by
 have Y:=ar.W8 (Q:=λz r=>rT c G z.2.1/\r=I z.2.2) (T:=λz:hj×bw×Int=>b5 b z.1 z.2.1) (ar.mono (IW b L c G k h u K) (by rintro r J⟨E,g,n,Y,N,R⟩;exact⟨(E,g,n),⟨Y,N⟩,R⟩))
 refine ar.mono Y ?_;rintro r J⟨⟨E,g,n⟩,⟨Y,N⟩,R⟩;exact⟨E,g,n,Y,N,R⟩
def Sj:ar prog 8 [] [cJ] (λr J=>∃c,Dn c/\r=B (x6 c.told)/\J=[cJ]):=by
 have sD:=aiK 3 ac;refine aE func8 λW=>?_;generalize bn _=D;refine aa 8 ?_;rintro oK g0⟨o,⟨I3,⟨n,⟨⟨Q,R⟩,rfl,rfl⟩⟩⟩⟩;refine aa 22 ?_;have x:ns 3 n:=TX
 have L:dc 2000 n:=TX
 have hJ:=adx o I3 n 0 x5 2000 L ac;refine au ?_;rintro _ _⟨U,i,N,k,Q,rfl,rfl⟩;refine aa 3 ?_;have C:nr n 0 x5 N k i:=TX
 have G:=C.cQ L;have Ye:=ahO o U i 100 _ G ac ac;refine aa 4 ?_;rintro _ _⟨s,a,Yf,Q,rfl,rfl⟩;refine aa 3 ?_;have X:rT i 100 a:=TX
 have F:dc (2000+1042200+1042300*100) a:=by obtain⟨j,T,bY,_⟩:=X;exact(T.cQ G).mono ac
 have b:Dn a:=⟨n,i,N,k,x,C,X⟩
 have d:=aiy o s a _ F.toClP ac;refine ah.iN (a2:=b5 o s a) (λw h=>h.eqv aO.aL) ?_;rcases m:a.told with _|⟨t,_|⟨Y,l⟩⟩
 .unfold b5 dw dL at d⊢;rw[m]at d⊢;dsimp only[List.length_nil]at d;refine aa 4 ?_;rintro _ _⟨Z,M,rfl,rfl⟩;refine aa 18 ?_;all_goals exact⟨_,_,⟨a,b,by rw[m];rfl,rfl⟩,Uc⟩
 .have K:ar prog 15 [aw o 0] (b5 o s a) (λr J=>∃g E,r=.slice (some ⟨g,0,none⟩) 1 E/\J=rows gi.c (.slice (some ⟨g,0,none⟩) 1 E) 67 8 [t]::b5 o s a):=by refine ar.UB d ?_;rintro v J W D w⟨u,E,rfl,rfl⟩ p;obtain⟨Yc,y,rF,z,P⟩:=iD (f:=gi.c) (v:=.slice u a.told.length E) (l:=a.told) gi.Vt gS w p;cases z;have q:=P.addr (by rw[m];exact Nat.one_pos);subst q;rw[m]at p⊢;exact⟨_,⟨rF,E,rfl,rfl⟩,p⟩
  unfold b5 dw dL at K⊢;rw[m]at K⊢;refine aa 4 ?_;rintro _ _⟨E,M,rfl,rfl⟩;refine aa 6 ?_;rintro _ _⟨F,Q,rfl,rfl⟩;refine au ?_;refine ai.v (V.B' ad (k:=0) rfl rfl) ?_;refine aa 3 ?_;refine ai.v (V.VF ad (k:=0) (o:=4) (v:=I t.t.gP) rfl T1 gi.Vt (show[t][0]?=some t from rfl)) ?_;refine aa 7 ?_;all_goals exact⟨_,_,⟨a,b,by rw[m];simp[x6],rfl⟩,Uc⟩
 .unfold b5 dw dL at d⊢;rw[m]at d⊢;have s:bd .eql (((t::Y::l).length:Nat):Int) 1=some false:=by simp[bd];omega
  generalize(t::Y::l).length=G at d s;refine aa 4 ?_;rintro _ _⟨Z,M,rfl,rfl⟩;refine aa 2 ?_;refine ai.v (V.cmp rfl rfl s) ?_;refine aa 15 ?_;all_goals exact⟨_,_,⟨a,b,by rw[m];simp[x6],rfl⟩,Uc⟩
theorem mn{a b:Int}(K:0<=a)(X:0<=b){r s:ab aS}(h:bG a++r=bG b++s):a=b/\r=s:=by
 have h:∀{a b:Int},0<=a->0<=b->∀{r s:ab aS},bG a++r=bG b++s->(bG a).length<=(bG b).length->a=b:=by grind [agf,List.take,bG,List.take_left]
 grind [Nat.le_total,bG,List.append_cancel_left]
def Sk{x y:ag}(U:bq x n=true)(F:bq y n=true){r s:ab aS}(h:jJ x++r=jJ y++s):x=y/\r=s:=by obtain⟨C,_,L,_⟩:=l2 U;obtain⟨M,_,K,_⟩:=l2 F;unfold jJ at h;simp only[cn]at h;obtain⟨c,h⟩:=mn C M h;obtain⟨Y,v⟩:=mn ac ac h;obtain⟨a,b⟩:=x;obtain⟨b,s⟩:=y;grind
theorem I4{x y:bm}(U:cH x n=true)(F:cH y n=true){r s:ab aS}(h:ie x++r=ie y++s):x=y/\r=s:=by obtain⟨C,_,L,_⟩:=kn U;obtain⟨M,_,K,_⟩:=kn F;unfold ie at h;simp only[cn]at h;obtain⟨c,h⟩:=mn C M h;obtain⟨Y,v⟩:=mn L K h;obtain⟨a,b⟩:=x;obtain⟨b,s⟩:=y;grind
def I5{k l r s:ab aS}(h:bG (k.length:Int)++(k++r)=bG (l.length:Int)++(l++s)):k=l/\r=s:=by obtain⟨e,h⟩:=mn (tO _) (tO _) h;grind [List.append_inj]
def ac6{x y:bN}(U:cZ x)(F:cZ y){r s:ab aS}(h:oC x++r=oC y++s):x=y/\r=s:=by obtain⟨⟨M,_,L,_,K,_⟩,q⟩:=U;obtain⟨⟨M,_,K,_,E,_⟩,U⟩:=F;unfold oC at h;simp only[cn]at h;obtain⟨c,h⟩:=mn ac ac h;obtain⟨Y,h⟩:=I5 h;obtain⟨z,h⟩:=I5 h;obtain⟨N,h⟩:=mn ac ac h;obtain⟨N,h⟩:=mn ac ac h;obtain⟨F,v⟩:=mn ac ac h;obtain⟨l,Q,R,D,i,w⟩:=x;obtain⟨h,F,Z,g,X,c⟩:=y;grind
def agV{x y:bX}(U:fB x n=true)(F:fB y n=true){r s:ab aS}(h:sN x++r=sN y++s):x=y/\r=s:=by have kM:=tN U;have N:=tN F;obtain⟨F,l,Q,R,D,i,w⟩:=x;obtain⟨q,x,F,Z,g,X,c⟩:=y;simp only[bX.l,dk,jH,gx,forall_eq_or_imp,forall_eq]at kM N;simp only[sN,bX.l,gn,ov,cn,gJ]at h;grind [mn]
theorem Sn{x y:aN}(U:eJ x n=true)(F:eJ y n=true){r s:ab aS}(h:j2 x++r=j2 y++s):x=y/\r=s:=by obtain⟨C,L,X,_⟩:=oD U;obtain⟨M,K,E,_⟩:=oD F;unfold j2 at h;simp only[cn]at h;obtain⟨c,h⟩:=ac6 C M h;obtain⟨Y,h⟩:=agV L K h;obtain⟨z,v⟩:=mn X E h;obtain⟨a,b,c⟩:=x;obtain⟨b,s,g⟩:=y;grind
def Sp(a b:Bool){r s:ab aS}(h:bG (if a then 1 else 0)++r=bG (if b then 1 else 0)++s):a=b/\r=s:=by obtain⟨e,h⟩:=mn (by split<;>omega) (by split<;>omega) h;grind
def ai9{o:aD}(K:hx m n)(p:hx o n)(h:hZ m=hZ o):m=o:=by
 have h:hZ m++[]=hZ o++[]:=by rw[h]
 unfold hZ at h;simp only[cn]at h;have P:=K.gF;have u:=p.gF;obtain⟨c,h⟩:=mn ac ac h;obtain⟨Y,h⟩:=mn K.f1 p.f1 h;obtain⟨z,h⟩:=mn K.t1 p.t1 h;obtain⟨N,h⟩:=Sk K.item p.item h;obtain⟨N,h⟩:=I4 K.bj p.bj h;have u:(nI m++(lD m++(kR m++[])))=(nI o++(lD o++(kR o++[])))->m.b0=o.b0/\m.Status=o.Status/\lD m++(kR m++[])=lD o++(kR o++[]):=by
  intro h;unfold nI at h;rw[<-c]at h;by_cases u:ig m.Kind.toNat=true
  .rw[aQ u,aQ u]at h;simp only[cn]at h;obtain⟨f,s1,_⟩:=K.known u;obtain⟨Z,s2,_⟩:=p.known (c▸u);grind [I4,mn]
  .rw[aM u,aM u]at h;have Y:=K.bare (Bool.eq_false_iff.2 u);have N:=p.bare (Bool.eq_false_iff.2 (c▸u));grind
 obtain⟨F,Z,h⟩:=u h;have Q:lD m++(kR m++[])=lD o++(kR o++[])->m.cL=o.cL/\kR m++[]=kR o++[]:=by
  intro h;unfold lD at h;rw[<-c]at h;by_cases u:(ig m.Kind.toNat||m.Kind==2)=true
  .rw[aQ u,aQ u]at h;exact Sp _ _ h
  .rw[aM u,aM u]at h;refine⟨?_,h⟩;have g (q:aD) (aW:hx q n) (e:q.Kind=m.Kind):q.cL=false:=by
    cases j:q.cL with
    |false=>rfl
    |true=>
     exfalso;apply u;rcases aW.same j with h|h
     .grind
     .grind
   grind
 obtain⟨f,h⟩:=Q h;have q:m.Call=o.Call:=by unfold kR at h;rw[<-c]at h;have U:=K.call;have n:=p.call;grind [i6,Sn]
 obtain⟨l,Q,R,D,i,w,b,G,K⟩:=m;obtain⟨h,F,Z,g,X,c,L,J,G⟩:=o;grind
theorem Do{o:aD}(a:n<=7)(K:c3 m n=true)(p:c3 o n=true)(h:gM m=gM o):m=o:=by have K:=hy.1 K;have p:=hy.1 p;have E:=xw a K;have i:=xw a p;refine ai9 K p ?_;unfold gM gL at h;rw[aM ac,aM ac]at h;simp only[cn]at h;obtain⟨e,h⟩:=mn (tO _) (tO _) h;exact(List.append_inj h rfl).2
def x7{s d:aC}(h:k3 s d)(p:s.run.ea=[]):d=s:=by
 obtain⟨Z,o,W,P,X,G,K,j,⟨_,_,N⟩,rfl⟩:=h;obtain⟨rfl,rfl⟩:=G.none p;obtain rfl:=K.no p;obtain rfl:P=[]:=Uh
 obtain rfl:=N.1 rfl;rw[dT];rfl
theorem I6{s d:aC}(h:jt s d):d=s\/∃m i s2,s.inbox=m::i/\fG {s with inbox:=i} m s2/\jt s2 d:=by
 induction h with
 |refl=>exact wg rfl
 |step h ao K o=>
  right;rcases o with rfl|⟨T,n,s2,Y,N,R⟩
  .exact⟨_,_,_,ao,K,jt.refl _⟩
  .exact⟨T,n,s2,Y,N,R.step ao K⟩
def x8{s d:aC}(h:jT s d)(ao:s.inbox=[]):k3 s d:=by obtain⟨s1,Y,N,R⟩:=h;grind [I6,ao]
def z1{s d:aC}{i:ab aD}(h:jT s d)(ao:s.inbox=m::i):∃s2,fG {s with inbox:=i} m s2/\jT s2 d:=by
 obtain⟨s1,Y,N,R⟩:=h;rcases I6 Y with rfl|⟨T,n,s2,e,Z,a⟩
 .grind
 .rw[ao]at e;cases e;exact⟨s2,Z,s1,a,N,R⟩
def vB(s:bR)(x:ag)(i:aX):(s.add x i).p=s.p.set x i:=by grind [bR.add,bR.V8]
theorem uE{s:bR}(h:s.ok){x:ag}(U:bq x s.n=true)(i:aX)(y:ag):(s.add x i).p.at y=if y=x then some i else s.p.at y:=by rw[vB,aJ.U5 h.p,h.aH];grind
structure jU(n:Int)(i:Nat)(e5:ag->aT aN)(ex:ag->aT aX)(s:aC):Prop where
 n:s.n=n
 self:s.self=(i:Int)
 bp:s.bp=[]
 q2:s.inbox=[]
 ea:s.run.ea=[]
 rU:∀y c,e5 y=some c->∃j,s.aA.p.at y=some j/\j.Status=3/\j.Call=c
 no:∀y,e5 y=none->s.aA.p.at y=ex y
 is:∀y,s.run.g.is y=(e5 y).isSome
 over:∀y,s.run.g.over y=(e5 y).isSome
 dX:∀y v,a8 s.dX y=some v->y.a1=(i:Int)
def rV(x:ag)(c:aN):ag->aT aX:=λy=>if y=x then some ⟨⟨0,x.a1⟩,⟨0,x.a1⟩,1,c,true⟩else none
def h5(x:ag)(c:aN)(i:Int):aD:={aD.z with Kind:=1,bh:=x.a1,bK:=i,Item:=x,bB:=⟨0,x.a1⟩,Call:=c}
def ha(x:ag)(c:aN)(i:Int):aD:={aD.z with Kind:=2,bh:=i,bK:=x.a1,Item:=x,bB:=⟨0,x.a1⟩,cL:=true,Call:=c}
def k6(x:ag)(c:aN)(i:Int):aD:={aD.z with Kind:=5,bh:=x.a1,bK:=i,Item:=x,bB:=⟨0,x.a1⟩,Call:=c}
def ai3(a:bX):kM a a=a:=by obtain⟨F,l,Q,R,D,i,w⟩:=a;simp[kM]
def agy{a:bX}(h:fB a n=true):kM bX.z a=a:=by have:=tN h;obtain⟨F,l,Q,R,D,i,w⟩:=a;simp only[bX.l,dk,jH,gx,forall_eq_or_imp,forall_eq]at this;grind [kM,bX.z]
def I7{a:bX}(h:fB a n=true):nF [a,a]=a:=by
 show kM (kM bX.z a) a=a
 rw[agy h,ai3]
def acr{c:aN}(h:fB c.eG n=true)(d:bN):m9 c [⟨d,c.eG,c.Seq⟩]=c:=by
 show vs {c with eG:=nF [c.eG,c.eG]} ⟨d,c.eG,c.Seq⟩=c
 unfold vs;dsimp only;rw[I7 h,I7 h,Int.max_self]
def I8{s:bR}(h:s.ok){x:ag}{c:aN}{i:Int}(U:s.p.at x=none)(G:c3 (h5 x c i) s.n=true)(q:(fm s.p c.cv x).1=c.eG/\(fm s.p c.cv x).2=c.Seq):c4 s i (h5 x c i)=(s.add x ⟨⟨0,x.a1⟩,⟨0,x.a1⟩,1,c,true⟩,ha x c i,true):=by
 have K:=hy.1 G;have J:eJ c s.n=true:=p4 K rfl;have ao:bP s.p x=aX.z:=by grind [bP]
 have f:0<=x.a1:=(l2 K.item).1;have P:qT s (h5 x c i)=c:=by
  show m9 c [⟨bN.z,(fm s.p c.cv x).1,(fm s.p c.cv x).2⟩]=c
  rw[q.1,q.2];exact acr (oD J).2.1 _
 have M:ka s (h5 x c i)=true:=by grind [ka,h5]
 have W:i4 aX.z ⟨0,x.a1⟩ 1 c true=(⟨⟨0,x.a1⟩,⟨0,x.a1⟩,1,c,true⟩,true):=by
  unfold i4;have Z:¬(hY ⟨0,x.a1⟩ aX.z.bO=true\/aX.z.Status=3):=by
   rintro(h|h)
   .have N:decide (x.a1<0)=true:=h;grind
   .revert h;decide
  have w:¬(aX.z.b0=⟨0,x.a1⟩/\(1:Int)<=aX.z.Status):=by rintro⟨_,h⟩;revert h;decide
  rw[aM Z,aM w]
 unfold c4;rw[aQ ⟨G,rfl⟩];unfold lM;dsimp only;have b:(h5 x c i).Item=x:=rfl;have Y:(h5 x c i).Kind=1:=rfl;rw[b,ao,aM (by rintro⟨_,h⟩;revert h;decide),aQ Y];unfold jR;dsimp only;rw[P,M];have j:(h5 x c i).bB=⟨0,x.a1⟩:=rfl;rw[j,W];dsimp only;rw[aQ rfl];unfold mh;rw[aM (by intro h;have N:(0:Int)=1:=dp aX.Status h;revert N;decide)];rfl
def Su{d:bX}(h:fB d n=true)(a:n<=7):fB d 7=true:=by rw[rA]at h⊢;intro k m u;have:=h k m u;simp only[jK,c5,iL,dl]at this⊢;omega
def wh(i:aX)(c:aN):aX:=⟨i.bO,i.b0,3,c,false⟩
def adL{s:bR}{x:ag}{c:aN}{i:Int}(G:c3 (k6 x c i) s.n=true)(R:(bP s.p x).Status≠3):c4 s i (k6 x c i)=(s.add x (wh (bP s.p x) c),aD.z,false):=by unfold c4;rw[aQ ⟨G,rfl⟩];unfold lM;dsimp only;have b:(k6 x c i).Item=x:=rfl;have Y:(k6 x c i).Kind=5:=rfl;rw[b,Y,aM (by rintro⟨_,h⟩;exact R h),aM T6,aM T6,aM T6,aQ rfl];unfold pP;rw[aM R];unfold mh;dsimp only;rw[aM Uh];rfl
def jU.abF{i:Nat}{s:aC}{x:ag}{c:aN}(h:jU n i F (λ_=>none) s)(T:s.leads=[])(u:s.aA.ok)(a:s.aA.n=s.n)(U:F x=none)(f:x.a1≠(i:Int))(G:c3 (h5 x c i) s.n=true)(q:(fm s.aA.p c.cv x).1=c.eG/\(fm s.aA.p c.cv x).2=c.Seq)(j:fG s (h5 x c i) s1):jU n i F (rV x c) s1/\s1.leads=[]/\s1.out=s.out++hD s.n s.self [ha x c i]/\s1.told=s.told:=by
 have K:=hy.1 G;have z:=I8 u (h.no x U) (a▸G) q;rw[<-h.self]at z;have t:=λy=>uE u (x:=x) (by rw[a];exact K.item) ⟨⟨0,x.a1⟩,⟨0,x.a1⟩,1,c,true⟩ y;have ao:fa s.self [ha x c s.self]=[]:=by
  unfold fa;rw[List.filter_cons_of_neg]
  .rfl
  .rw[dl];show¬x.a1=s.self
   rw[h.self];exact f
 have em:h5 x c (i:Int)=h5 x c s.self:=by rw[h.self]
 rw[em]at j;rw[<-h.self];rcases j with⟨_,d,_,_,l⟩|⟨v,_⟩
 .have b:(h5 x c s.self).Item=x:=rfl;unfold aC.Uq at l;rw[b,z]at l;dsimp only at l;rw[aQ rfl]at l;have J:(bP (s.aA.add x ⟨⟨0,x.a1⟩,⟨0,x.a1⟩,1,c,true⟩).p x).Status=1:=by grind [bP]
  rcases l with⟨R,_⟩|⟨_,Y⟩
  .grind
  .unfold iF aC.send aC.UW aC.UX at Y;dsimp only at Y;rw[T,h.bp,ao]at Y;simp only[m4]at Y;subst Y;refine⟨⟨h.n,h.self,rfl,?_,h.ea,?_,?_,h.is,h.over,h.dX⟩,rfl,rfl,rfl⟩
   .show s.inbox++[]=[];rw[h.q2];rfl
   .intro y g F;obtain⟨j,c,Y,N⟩:=h.rU y g F;grind
   .intro y F;show(s.aA.add x _).p.at y=_
    rw[t,h.no y F];rfl
 .exact absurd (wg rfl) v
def nt(K:ag->aT aN)(x:ag)(c:aN):ag->aT aN:=λy=>if y=x then some c else K y
def jU.comm{i:Nat}{ex:ag->aT aX}{s s2:aC}{x:ag}{c:aN}(h:jU n i K ex s)(dz:e9 s.leads x=[])(cc:s.aA.ok)(a:s.aA.n=s.n)(v:hC s.n s.run)(b3:K x=none)(G:∀y,y≠x->ex y=none)(cd:(bP s.aA.p x).Status≠3)(L:c3 (k6 x c i) s.n=true)(dM:∀y∈qH c.eG,y≠x->(K y).isSome=true)(ix:fG s (k6 x c i) s1)(q:jT s1 s2):jU n i (nt K x c) (λ_=>none) s2/\s2.leads=[]/\s2.out=s.out/\∃t,s2.told=s.told++t/\t.map (·.Item)=(if decide (c.cv.Kind≠0)&&(a8 s.dX x).getD false then[x]else[])/\∀y∈t,y.gP=(il s.M.s c.cv).1.gP:=by
 have X:=hy.1 L;have dQ:eJ c s.n=true:=p4 X rfl;have m:bq x s.n=true:=X.item;have z:=adL (i:=(i:Int)) (a▸L) cd;rw[<-h.self]at z;have d:=λy=>uE cc (x:=x) (by rw[a];exact X.item) (wh (bP s.aA.p x) c) y;have em:k6 x c (i:Int)=k6 x c s.self:=by rw[h.self]
 rw[em]at ix;have C:s.run.g.is x=false:=by rw[h.is,b3];rfl
 have j:s.run.g.U3 x c=true:=by unfold bs.U3;rw[C,v.rc,m,Su (oD dQ).2.1 v.gO];rfl
 rcases ix with⟨_,vK,_,_,l⟩|⟨w,_⟩
 .have Z:(k6 x c s.self).Item=x:=rfl;unfold aC.Uq at l;rw[Z,z]at l;dsimp only at l;rw[aM T6]at l;have U:bP (s.aA.add x (wh (bP s.aA.p x) c)).p x=(wh (bP s.aA.p x) c):=by
   show(aJ.at _ x).getD _=_
   rw[d,aQ rfl];rfl
  rcases l with⟨_,W⟩|⟨P,_⟩
  .obtain⟨o,Q,E⟩:=W.go;dsimp only at Q;rw[U]at Q;change db.VS s.run x c o at Q;obtain⟨r,f,k⟩:=Q;rw[j,aQ rfl,h.ea,gJ]at k;have k:=List.perm_singleton.1 k;have f1:s1.n=s.n:=by rw[E]
   have f2:s1.self=s.self:=by rw[E]
   have f3:s1.leads=[]:=by rw[E];exact dz
   have f4:s1.bp=[]:=by rw[E];show e9 s.bp x=[];rw[h.bp];rfl
   have z2:s1.inbox=[]:=by rw[E];exact h.q2
   have I9:s1.out=s.out:=by rw[E]
   have Dp:s1.told=s.told:=by rw[E]
   have Ja:s1.aA=s.aA.add x (wh (bP s.aA.p x) c):=by rw[E]
   have Dq:s1.dX=s.dX:=by rw[E]
   have Yf:s1.M=s.M:=by rw[E]
   have T:s1.run=o:=by rw[E]
   clear E;obtain⟨xs,J,ago,F,Yc,Y,Ye,u,⟨_,_,nb⟩,b⟩:=x8 q z2;have N:s1.run.g.call x=c:=by rw[T,r];unfold bs.UF bs.call;rw[aQ j];dsimp only;rw[aJ.U5 v.g.c,aQ ⟨by rw[v.rc];exact m,rfl⟩];rfl
   have D:∀y,s1.run.g.over y=(K y).isSome:=λy=>by rw[T,r,bs.WA,h.over]
   have Yg:∀y,s1.run.g.is y=((K y).isSome||decide (y=x)):=λy=>by rw[T,r,bs.W3 v.g j,h.is]
   have R:xs=[x]:=by refine Y.one x (by rw[T];exact k) ?_;grind [bs.waits,List.filter_eq_nil_iff]
   subst R;have Z:s2.n=s1.n:=Nc
   have N:s2.self=s1.self:=Nc
   have z:s2.leads=s1.leads:=Nc
   have X:s2.bp=s1.bp:=Nc
   have T:s2.inbox=s1.inbox:=Nc
   have E:s2.out=s1.out:=Nc
   have Q:s2.told=s1.told++F:=Nc
   have f:s2.aA=s1.aA:=Nc
   have m:s2.dX=s1.dX:=Nc
   have s:s2.run=J:=Nc
   clear b;have M:∀y,s2.run.g.over y=(nt K x c y).isSome:=λy=>by rw[s,Y.dN,D];grind [nt]
   have C:∀y,s2.run.g.is y=(nt K x c y).isSome:=λy=>by
    have:s2.run.g.is y=s1.run.g.is y:=by unfold bs.is;rw[s,Y.calls]
    grind [nt]
   refine⟨⟨by rw[Z,f1,h.n],by rw[N,f2,h.self],by rw[X,f4],by rw[T,z2],?_,?_,?_,C,M,?_⟩,by rw[z,f3],by rw[E,I9],F,by rw[Q,Dp],?_,?_⟩
   .rw[Iv];intro y F;have:=(Y.ok.fZ y).1 (by rw[<-s];exact F);grind
   .intro y g F;rw[f,Ja];unfold nt at F;by_cases e:y=x
    .grind [wh,bP]
    .rw[aM e]at F;obtain⟨j,c,Y,N⟩:=h.rU y g F;grind
   .intro y F;rw[f,Ja];unfold nt at F;by_cases e:y=x
    .grind
    .rw[aM e]at F;rw[d,aM e,h.no y F,G y e]
   .intro y v F;rw[m,Dq]at F;exact h.dX y v F
   .rw[u];unfold aC.UV;grind
   .intro y F;have:=nb.2 x rfl y F;grind
  .rw[U]at P;exact absurd rfl P
 .exact absurd (u0 (u0 (u0 rfl))) w
theorem Dr{x:ag}{c:aN}{i:Int}(U:bq x n=true)(q:eJ c n=true)(ao:0<=i/\i<n):c3 (h5 x c i) n=true:=by
 obtain⟨M,L,_⟩:=l2 U;refine hy.2 ⟨(show(1:Int)<=1 by decide),(show(1:Int)<=8 by decide),M,L,ao.1,ao.2,U,?_,q,λ_=>⟨rfl,rfl⟩,?_,λh=>absurd (show ig 1=true from h) T6⟩
 exact O3
 .intro h;cases h
def Jb{x:ag}{c:aN}{i:Int}(U:bq x n=true)(q:eJ c n=true)(ao:0<=i/\i<n):c3 (ha x c i) n=true:=by
 obtain⟨M,L,_⟩:=l2 U;refine hy.2 ⟨(show(1:Int)<=2 by decide),(show(2:Int)<=8 by decide),ao.1,ao.2,M,L,U,?_,q,λ_=>⟨rfl,rfl⟩,?_,λh=>absurd (show ig 2=true from h) T6⟩
 exact O3
 .intro _;exact wg rfl
def Ds{x:ag}{c:aN}{i:Int}(U:bq x n=true)(q:eJ c n=true)(ao:0<=i/\i<n):c3 (k6 x c i) n=true:=by
 obtain⟨M,L,_⟩:=l2 U;refine hy.2 ⟨(show(1:Int)<=5 by decide),(show(5:Int)<=8 by decide),M,L,ao.1,ao.2,U,?_,q,λ_=>⟨rfl,rfl⟩,?_,λh=>absurd (show ig 5=true from h) T6⟩
 exact O3
 .intro h;cases h
def acu{t:Type}{l:ab t}{h:ab Bool}(T:l.length=h.length):∀k,k<=h.length->(iW l h k).length=(h.take k).count true:=by
 intro k;induction k with
 |zero=>intro _;rfl
 |succ k d=>
  intro u;rw[oL,b2,d ac,oj,List.count_append];have L:k<l.length:=ac
  have c:h[k]?=some h[k]:=hs ac;have Y:l[k]?=some l[k]:=hs L;unfold i7;grind
def Jc{t:Type}{l:ab t}{h:ab Bool}(T:l.length=7)(j:h.length=7):(fD l h).length=h.count true:=by have:=acu (l:=l) (h:=h) ac 7 ac;rw[k8 ac]at this;exact this
def x9{t:Type}{l:ab t}{h:ab Bool}{p:Nat×t}(z:p∈fD l h):h.getD p.1 false=true/\l[p.1]?=some p.2:=by grind [fD,iW,i7]
structure qb(l:a6)(n:Int)(x:ag)(c:aN)(b7:Nat->Bool):Prop where
 wf:l.wf
 n:l.n=n
 self:l.self=x.a1
 item:l.item=x
 bj:l.bj=⟨0,x.a1⟩
 call:l.call=c
 phase:l.phase=1
 dB:∀k,k<7->l.dB.getD k false=b7 k
 same:∀k m,l.dB.getD k false=true->l.pl[k]?=some m->m.cL=true
def qb.nf{l:a6}{x:ag}{c:aN}(h:qb l n x c Q):(nf (fD l.pl l.dB):Int)=l.eQ:=by
 show((List.filter (λp:Nat×aD=>p.2.cL) (fD l.pl l.dB)).length:Int)=l.eQ
 rw[w1.2 λp z=>h.same p.1 p.2 (x9 z).1 (x9 z).2,Jc h.wf.pl h.wf.dB,h.wf.eQ]
def oV(Q:Nat->Bool)(i:Nat):Nat->Bool:=λk=>decide (k=i)||Q k
def qb.put{l:a6}{x:ag}{c:aN}(h:qb l n x c Q){i:Nat}(ao:i<7)(a:Q i=false)(K:m.cL=true):l.can (i:Int)=true/\qb (l.put (i:Int) m) n x c (oV Q i)/\(l.put (i:Int) m).eQ=l.eQ+1:=by
 have Y:=h.dB i ao;rw[a]at Y;have w:=h.wf.dB;have t:=h.wf.pl;have G:l.dB[i]?=some false:=Uh
 have j:l.can (i:Int)=true:=by unfold a6.can;grind
 refine⟨j,⟨h.wf.put j m,h.n,h.self,h.item,h.bj,h.call,h.phase,?_,?_⟩,rfl⟩
 .intro k u;show(l.dB.set (i:Int).toNat true).getD k false=oV Q i k
  rw[i3,km,l0];unfold oV;by_cases e:i=k
  .grind
  .rw[aM e,<-km,h.dB k u];simp[o5 e]
 .intro k T u G;change(l.dB.set (i:Int).toNat true).getD k false=true at u;change(l.pl.set (i:Int).toNat m)[k]?=some T at G;rw[i3]at u G;rw[km,l0]at u;rw[l0]at G;by_cases e:i=k
  .grind
  .rw[aM e]at u G;rw[<-km]at u;exact h.same k T u G
def qb.y'{l:a6}{x:ag}{c:aN}(h:qb l n x c Q)(a:n=3\/n=5\/n=7){i:Nat}(ao:(i:Int)<n)(k:Q i=false):l.y' (ha x c i)=if 2*cY n<=l.eQ+1 then({l.put (i:Int) (ha x c i)with phase:=3},true)else(l.put (i:Int) (ha x c i),false):=by
 obtain⟨j,z,K⟩:=h.put ac k (m:=ha x c i) rfl;have Q:=z.nf;rw[K]at Q;have P:n-2*cY n=1:=by rcases a with rfl|rfl|rfl<;>decide
 have t:(l.put (i:Int) (ha x c i)).VI=true:=by unfold a6.VI;rw[z.bj,z.item];simp
 unfold a6.y';rw[aM,aM,aM,aM,aQ ⟨rfl,h.phase⟩]
 .unfold a6.UM;have b:(ha x c i).bh=(i:Int):=rfl;rw[b,aQ j,t,h.n,Q];grind
 .intro q;exact q h.bj.symm
 .rintro⟨q,_⟩;exact absurd (show(2:Int)=8 from q) T6
 .intro q;exact absurd (show(2:Int)=5 from q) T6
 .rintro(q|q|q|q|q)
  .rw[h.phase]at q;revert q;decide
  .exact q h.item.symm
  .exact q h.self.symm
  .grind [ha]
  .have:(ha x c i).bh=(i:Int):=rfl;rw[h.n]at q;omega
theorem Jd(R:Nat):∀N,R<N->(List.range N).filter (λi:Nat=>decide ((i:Int)=(R:Int)))=[R]:=by
 intro N;induction N with
 |zero=>intro h;omega
 |succ N d=>
  intro h;rw[tP,nH];grind [List.filter_eq_nil_iff.2,List.filter_cons_of_pos,List.mem_range.1,List.filter_cons_of_neg]
noncomputable def qc(N R:Nat)(f:Int->aD):ab b8:=((List.range N).filter λi:Nat=>decide (i≠R)).map λi:Nat=>⟨(R:Int),(i:Int),gM (f i)⟩
def Je{N:Nat}(h:R<N)(f:Int->aD)(j:∀i,(f i).bK=i):fa (R:Int) ((List.range N).map λi:Nat=>f i)=[f R]:=by
 unfold fa;rw[Jf];have:(List.filter ((λm:aD=>decide (m.bK=(R:Int)))∘λi:Nat=>f i) (List.range N))=[R]:=by grind [Jd,List.filter_congr]
 rw[this];rfl
def Jg{N:Nat}(f:Int->aD)(j:∀i,(f i).bK=i)(G:∀i:Nat,i<N->c3 (f i) n=true):hD n (R:Int) ((List.range N).map λi:Nat=>f i)=qc N R f:=by
 unfold hD qc;rw[Jf,uq];have:(List.filter ((λm:aD=>!decide (m.bK=(R:Int))&&c3 m n)∘λi:Nat=>f i) (List.range N))=(List.range N).filter λi:Nat=>decide (i≠R):=by refine List.filter_congr λi ao=>?_;grind
 grind [List.map_congr_left,gM]
structure Jh(s s1:aC)(x:ag)(c:aN):Prop where
 n:s1.n=s.n
 self:s1.self=s.self
 bp:s1.bp=[]
 leads:s1.leads=s.leads
 run:s1.run=s.run
 M:s1.M=s.M
 dX:s1.dX=s.dX
 told:s1.told=s.told
 aA:s1.aA=s.aA.add x ⟨⟨0,x.a1⟩,⟨0,x.a1⟩,1,c,true⟩
 inbox:s1.inbox=s.inbox++fa s.self [ha x c s.self]
 out:s1.out=s.out++hD s.n s.self [ha x c s.self]
def Sx{s:aC}{x:ag}{c:aN}(W:s.bp=[])(T:s.UW x ⟨0,x.a1⟩=s.leads)(u:s.aA.ok)(a:s.aA.n=s.n)(U:s.aA.p.at x=none)(G:c3 (h5 x c s.self) s.n=true)(q:(fm s.aA.p c.cv x).1=c.eG/\(fm s.aA.p c.cv x).2=c.Seq)(j:fG s (h5 x c s.self) s1):Jh s s1 x c:=by
 have K:=hy.1 G;have z:=I8 u U (a▸G) q;have t:=λy=>uE u (x:=x) (by rw[a];exact K.item) ⟨⟨0,x.a1⟩,⟨0,x.a1⟩,1,c,true⟩ y;rcases j with⟨_,d,_,_,l⟩|⟨v,_⟩
 .have b:(h5 x c s.self).Item=x:=rfl;unfold aC.Uq at l;rw[b,z]at l;dsimp only at l;rw[aQ rfl]at l;have h:bP (s.aA.add x ⟨⟨0,x.a1⟩,⟨0,x.a1⟩,1,c,true⟩).p x=⟨⟨0,x.a1⟩,⟨0,x.a1⟩,1,c,true⟩:=by
   show(aJ.at _ x).getD _=_
   rw[t,aQ rfl];rfl
  rcases l with⟨R,_⟩|⟨_,Y⟩
  .grind
  .unfold iF at Y;dsimp only[aC.send]at Y;rw[h]at Y;have u:aC.UX s x ⟨0,x.a1⟩=[]:=by unfold aC.UX;rw[W];rfl
   constructor
   .rw[Y]
   .rw[Y]
   .rw[Y];exact u
   .rw[Y];exact T
   all_goals rw[Y]
 .exact absurd (wg rfl) v
structure qd(n:Int)(R:Nat)(e5:ag->aT aN)(x:ag)(c:aN)(b7:Nat->Bool)(k:Int)(s:aC):Prop where
 gh:jU n R e5 (rV x c) s
 nZ:x.a1=(R:Int)
 cw:∃p q l,s.leads=[(x,⟨p,q,l⟩)]/\qb l n x c b7/\l.eQ=k
 dX:a8 s.dX x=some true
def qd.UM{x:ag}{c:aN}{s:aC}(h:qd n R F x c Q k s)(a:n=3\/n=5\/n=7){i:Nat}(ao:(i:Int)<n)(U:Q i=false)(u:k+1<2*cY n)(j:fG s (ha x c i) s1):qd n R F x c (oV Q i) (k+1) s1/\s1.out=s.out/\s1.told=s.told/\s1.M=s.M/\s1.run=s.run/\s1.aA=s.aA:=by
 obtain⟨p,q,l,Y,N,f⟩:=h.cw;rcases j with⟨K,_⟩|⟨_,y,aW⟩
 exact Q5
 .have t:({s with high:=s.Uz (ha x c i)}:aC)=s:=by unfold aC.Uz;rw[aM Mc]
  rw[t]at aW;unfold aC.Up at aW;rw[h.gh.bp,m4]at aW;dsimp only at aW;unfold aC.Uw at aW;have b:(ha x c i).Item=x:=rfl;have J:a8 s.leads x=some (⟨p,q,l⟩:er a6):=by grind [kk]
  rw[b,J]at aW;dsimp only at aW;have v:¬2*cY n<=l.eQ+1:=ac
  rw[N.y' a ao U,aM v,aM Bool.false_ne_true]at aW;dsimp only at aW;rw[Y,lB,aQ rfl]at aW;obtain⟨_,z,X⟩:=N.put ac U (m:=ha x c i) rfl;subst aW;exact⟨⟨⟨h.gh.n,h.gh.self,h.gh.bp,h.gh.q2,h.gh.ea,h.gh.rU,h.gh.no,h.gh.is,h.gh.over,h.gh.dX⟩,h.nZ,⟨p,q,_,rfl,z,by rw[X,f]⟩,h.dX⟩,rfl,rfl,rfl,rfl,rfl⟩
def qb.E'{l:a6}{x:ag}{c:aN}(h:qb l n x c Q):l.E'=(List.range n.toNat).map (λi:Nat=>h5 x c i)/\({l with phase:=3}:a6).E'=(List.range n.toNat).map (λi:Nat=>k6 x c i):=by
 constructor
 .unfold a6.E' a6.Uy;rw[aQ (wg h.phase),h.n];refine C5 λi _=>?_;unfold po lL h5;rw[h.phase,h.self,h.item,h.bj,h.call];rfl
 .unfold a6.E' a6.Uy;rw[aQ (u0 (u0 rfl))];dsimp only;rw[h.n];refine C5 λi _=>?_;unfold po lL k6;dsimp only;rw[h.self,h.item,h.bj,h.call];rfl
def qd.tc{x:ag}{c:aN}{s s2:aC}(h:qd n R K x c Q k s)(a:n=3\/n=5\/n=7){i:Nat}(ao:(i:Int)<n)(Y:Q i=false)(u:2*cY n<=k+1)(W:s.aA.ok)(g:s.aA.n=s.n)(v:hC s.n s.run)(J:K x=none)(b:bq x n=true)(C:eJ c n=true)(w:∀y∈qH c.eG,y≠x->(K y).isSome=true)(j:fG s (ha x c i) s1)(F:jT s1 s2):jU n R (nt K x c) (λ_=>none) s2/\s2.leads=[]/\s2.out=s.out++qc n.toNat R (k6 x c)/\∃t,s2.told=s.told++t/\t.map (·.Item)=(if c.cv.Kind≠0 then[x]else[])/\∀y∈t,y.gP=(il s.M.s c.cv).1.gP:=by
 obtain⟨p,q,l,U,N,f⟩:=h.cw;have f:(R:Int)<n:=by have:=(l2 b).2.1;rw[h.nZ]at this;exact this
 rcases j with⟨X,_⟩|⟨_,m,aW⟩
 .rcases X with h|h|h|h<;>exact absurd (show(2:Int)=_ from h) T6
 .have f:({s with high:=s.Uz (ha x c i)}:aC)=s:=by unfold aC.Uz;rw[aM Mc]
  rw[f]at aW;unfold aC.Up at aW;rw[h.gh.bp,m4]at aW;dsimp only at aW;unfold aC.Uw at aW;have m:(ha x c i).Item=x:=rfl;have Z:a8 s.leads x=some (⟨p,q,l⟩:er a6):=by grind [kk]
  rw[m,Z]at aW;dsimp only at aW;have f:2*cY n<=l.eQ+1:=ac
  rw[N.y' a ao Y,aQ f,aQ rfl]at aW;dsimp only at aW;rw[aM T6,U,lB,aQ rfl]at aW;obtain⟨_,z,X⟩:=N.put ac Y (m:=ha x c i) rfl;rw[z.E'.2]at aW;unfold aC.send at aW;dsimp only at aW;have E:s.self=(R:Int):=h.gh.self;rw[E,h.gh.n,Je ac (k6 x c) (λ_=>rfl),Jg (k6 x c) (λ_=>rfl) (λj m=>Ds b C ac),h.gh.q2]at aW;have D:s1.n=s.n:=by rw[aW];exact h.gh.n.symm
  have P:s1.self=s.self:=by rw[aW];exact E.symm
  have u:∃e,s1.leads=[(x,e)]:=⟨_,K0⟩
  have E:s1.bp=s.bp:=K0
  have a:s1.inbox=[k6 x c R]:=by rw[aW];rfl
  have Y:s1.out=s.out++qc n.toNat R (k6 x c):=K0
  have U:s1.told=s.told:=K0
  have X:s1.aA=s.aA:=K0
  have k:s1.dX=s.dX:=K0
  have g:s1.M=s.M:=K0
  have T:s1.run=s.run:=K0
  clear aW;obtain⟨g0,q,d⟩:=z1 F a;have m:jU n R K (rV x c) {s1 with inbox:=[]}:=by
   refine⟨?_,?_,?_,rfl,?_,?_,?_,?_,?_,?_⟩
   .show s1.n=n;rw[D,h.gh.n]
   .grind
   .show s1.bp=[];rw[E,h.gh.bp]
   .show s1.run.ea=[];rw[T,h.gh.ea]
   .show∀y c,K y=some c->∃j,s1.aA.p.at y=some j/\_;rw[X];exact h.gh.rU
   .show∀y,K y=none->s1.aA.p.at y=_;rw[X];exact h.gh.no
   .show∀y,s1.run.g.is y=_;rw[T];exact h.gh.is
   .show∀y,s1.run.g.over y=_;rw[T];exact h.gh.over
   .show∀y v,a8 s1.dX y=some v->_;rw[k];exact h.gh.dX
  obtain⟨e,u⟩:=u;have U:(bP s1.aA.p x).Status≠3:=by unfold bP;rw[X,h.gh.no x J];grind [rV]
  obtain⟨i,K,j,t,W,N,T⟩:=m.comm (by grind [e9,yV]) Uh Uh
   Uh J (λy F=>by grind [rV]) U (by show c3 _ s1.n=true;rw[D,h.gh.n];exact Ds b C ac) w q d
  refine⟨i,K,by rw[j];exact Y,t,Uh,?_,?_⟩
  .rw[N];show(if decide (c.cv.Kind≠0)&&(a8 s1.dX x).getD false then[x]else[])=_
   rw[k,h.dX];simp
  .grind
def jV(p:aJ aX)(d:bN)(x:ag):aN:=⟨d,(fm p d x).1,(fm p d x).2⟩
structure Ji(n:Int)(R:Nat)(e5:ag->aT aN)(s:aC)(d:bN)(x:ag)(cE:aC):Prop where
 ok:s5 d
 nZ:x.a1=(R:Int)
 new:e5 x=none
 uF:bq x n=true
 gc:eJ (jV s.aA.p d x) n=true
 ls:qd n R e5 x (jV s.aA.p d x) (oV (λ_=>false) R) 1 cE
 out:cE.out=s.out++qc n.toNat R (h5 x (jV s.aA.p d x))
 told:cE.told=s.told
 M:cE.M=s.M
def agL{s P:aC}{d:bN}{x:ag}(h:jU n R K (λ_=>none) s)(dz:s.leads=[])(cM:n=3\/n=5\/n=7)(Yh:(R:Int)<n)(L:s.aA.ok)(o:s.aA.n=s.n)(ix:nQ s d x e P):(e≠0/\P=s)\/(e=0/\Ji n R K s d x P):=by
 rcases ix with⟨_,_,w,b7⟩|⟨_,_,_,w,b7⟩|⟨dM,u,U,w,p,X⟩
 .grind
 .grind
 .right;refine⟨w,?_⟩;have E:=h.self;have Y:x.a1=(R:Int):=by rw[U];exact E
  have Yf:x.bT=(s.aA.p.top (R:Int):Int)+1:=by rw[U];show(s.aA.p.top s.self:Int)+1=_;rw[E]
  have b:bq x n=true:=by rw[<-U]at u;simp only[bq,c5,dl];omega
  have J:K x=none:=by
   cases bH:K x with
   |none=>rfl
   |some c=>
    obtain⟨j,dR,_⟩:=h.rU x c bH;have:=aJ.WR L.p dR;rw[Y]at this;omega
  have Yc:s.aA.p.at x=none:=h.no x J;obtain⟨eX,oo,m2⟩:=CI L d x;have C:eJ (jV s.aA.p d x) n=true:=by rw[o,h.n]at eX;unfold eJ jV;rw[dM.1,eX,ic oo,ic m2];rfl
  have a:qb (s.Um d) n x (jV s.aA.p d x) (λ_=>false):=by
   unfold aC.Um;rw[<-U];refine⟨Cl _ _ _ _ _ _,h.n,?_,rfl,?_,rfl,rfl,?_,?_⟩
   .show s.self=x.a1;rw[Y,E]
   .show(⟨0,s.self⟩:bm)=_;rw[Y,E]
   .intro k cc;show(List.replicate 7 false).getD k false=false
    grind
   .intro k m cc;exfalso;change(List.replicate 7 false).getD k false=true at cc;grind
  obtain⟨l,N⟩:∃l,l=s.Ut d p:=⟨_,rfl⟩
  rw[<-N]at X;unfold aC.Ut aC.send aC.US at N;dsimp only at N;rw[a.E'.1,E,h.n,Je ac (h5 x (jV s.aA.p d x)) (λ_=>rfl),Jg (h5 x (jV s.aA.p d x)) (λ_=>rfl) (λj dR=>Dr b C ac),h.q2,dz]at N;rw[<-E,<-U,E]at N;have f1:l.n=n:=SN
  have f2:l.self=(R:Int):=SN
  have f3:l.leads=[(x,⟨p,0,s.Um d⟩)]:=by rw[N];rfl
  have f4:l.bp=[]:=by rw[N];exact h.bp
  have z2:l.inbox=[h5 x (jV s.aA.p d x) R]:=by rw[N];rfl
  have I9:l.out=s.out++qc n.toNat R (h5 x (jV s.aA.p d x)):=SN
  have Dp:l.told=s.told:=SN
  have f:l.aA=s.aA:=SN
  have Dq:l.dX=bx s.dX x true:=SN
  have Yi:l.M=s.M:=SN
  have t:l.run=s.run:=SN
  clear N;obtain⟨s2,dJ,Q⟩:=z1 X z2;have W:Jh {l with inbox:=[]} s2 x (jV s.aA.p d x):=by
   refine Sx Uh ?_ Uh (by show l.aA.n=l.n;rw[f,f1,<-h.n];exact o) Uh ?_ ?_ ?_
   .unfold aC.UW;show(match a8 l.leads x with|some e=>_|none=>l.leads)=l.leads
    rw[f3,kk,aQ rfl];dsimp only;rw[a.bj,aM];simp[fL]
   .grind [c3,h5,Dr]
   .show(fm l.aA.p _ x).1=_/\_;rw[f];exact⟨rfl,rfl⟩
   .grind
  have v5:=W.inbox;have q:({l with inbox:=[]}:aC).self=(R:Int):=f2;have D:fa (R:Int) [ha x (jV s.aA.p d x) (R:Int)]=[ha x (jV s.aA.p d x) (R:Int)]:=by unfold fa;rw[Sz (by rw[dl];exact Y)];rfl
  have Yj:hD n (R:Int) [ha x (jV s.aA.p d x) (R:Int)]=[]:=by grind [hD,List.filter_cons_of_neg,ha,jV]
  rw[q,D]at v5;obtain⟨g0,mN,z⟩:=z1 Q v5;have j7:s2.n=n:=by rw[W.n];exact f1
  have oK:s2.self=(R:Int):=by rw[W.self];exact f2
  have v3:s2.leads=[(x,⟨p,0,s.Um d⟩)]:=by rw[W.leads];exact f3
  have nO:s2.out=s.out++qc n.toNat R (h5 x (jV s.aA.p d x)):=by rw[W.out];grind
  have tT:s2.told=s.told:=by rw[W.told];exact Dp
  have vU:s2.aA=s.aA.add x ⟨⟨0,x.a1⟩,⟨0,x.a1⟩,1,jV s.aA.p d x,true⟩:=by rw[W.aA];show l.aA.add _ _=_;rw[f]
  have v9:s2.dX=bx s.dX x true:=by rw[W.dX];exact Dq
  have Yg:s2.M=s.M:=by rw[W.M];exact Yi
  have Z:s2.run=s.run:=by rw[W.run];exact t
  have T:=λy=>uE L (x:=x) (by rw[o,h.n];exact b) ⟨⟨0,x.a1⟩,⟨0,x.a1⟩,1,jV s.aA.p d x,true⟩ y;have Ye:qd n R K x (jV s.aA.p d x) (λ_=>false) 0 {s2 with inbox:=[]}:=by
   refine⟨⟨j7,oK,W.bp,rfl,?_,?_,?_,?_,?_,?_⟩,Y,⟨p,0,_,v3,a,rfl⟩,?_⟩
   .show s2.run.ea=[];rw[Z];exact h.ea
   .intro y c F;show∃j,s2.aA.p.at y=some j/\_
    rw[vU,T,aM Uh];exact h.rU y c F
   .intro y F;show s2.aA.p.at y=_
    rw[vU,T,h.no y F];rfl
   .show∀y,s2.run.g.is y=_;rw[Z];exact h.is
   .show∀y,s2.run.g.over y=_;rw[Z];exact h.over
   .intro y v F;change a8 s2.dX y=some v at F;rw[v9,hw]at F;split at F
    .grind
    .exact h.dX y v F
   .grind [a8,hw]
  have c2:(0:Int)+1<2*cY n:=by rcases cM with rfl|rfl|rfl<;>decide
  obtain⟨G,jI,qW,nR,v1,x1⟩:=Ye.UM cM (i:=R) Yh rfl c2 mN;have r:=x7 (x8 z G.gh.q2) G.gh.ea;subst r;exact⟨dM,Y,J,b,C,G,by rw[jI];exact nO,by rw[qW];exact tT,by rw[nR];exact Yg⟩
def jU.abG{i:Nat}{ex:ag->aT aX}{s:aC}{x:ag}{c:aN}{j:Int}(h:jU n i K ex s)(T:s.leads=[])(r:fG s (ha x c j) s1):s1=s:=by
 rcases r with⟨K,_⟩|⟨_,a,aW⟩
 exact Q5
 .have f:({s with high:=s.Uz (ha x c j)}:aC)=s:=by unfold aC.Uz;rw[aM Mc]
  rw[f]at aW;unfold aC.Up at aW;rw[h.bp,m4]at aW;grind [aC.Uw,m4]
def jU.flush{i:Nat}{ex:ag->aT aX}{s:aC}(h:jU n i K ex s):jU n i K ex s.flush:=
 ⟨h.n,h.self,h.bp,h.q2,h.ea,h.rU,h.no,h.is,h.over,h.dX⟩
def qd.flush{x:ag}{c:aN}{s:aC}(h:qd n R K x c Q k s):qd n R K x c Q k s.flush:=⟨h.gh.flush,h.nZ,h.cw,h.dX⟩
def aiD{c:ab Bool}(q:∀a b,lo c a b=false):∀(Z l:ab b8),(∀x∈Z,je x.bh=true/\je x.bK=true)->l.length+Z.length<=256->∀k,Z.foldl (mm c) (l,k)=(l++Z,k):=by
 intro Z;induction Z with
 |nil=>intro l _ _ k;rw[dT];rfl
 |cons x Z d=>
  intro l U T k;have Y:=U x gS;simp only[dD]at T;have X:oR c l x=false:=by grind [oR]
  rw[qh];have e:mm c (l,k) x=(l++[x],k):=by unfold mm;rw[X];rfl
  rw[e,d (l++[x]) (λy F=>U y (hI _ F)) Ui,cn];rfl
structure z6(c:bw)(i:Nat)(rest:ab b8)(s2:aC)(cx:bw):Prop where
 n:cx.n=c.n
 cut:cx.cut=c.cut
 now:cx.now=c.now
 lost:cx.lost=c.lost
 aH:∃b L,cx.aH=c.aH.set i (.up b L s2.flush)
 bo:cx.bo=rest++s2.out
 told:cx.told=c.told++s2.told.map (nT i c.now)
theorem Jj{J c g:bw}{i:Nat}{l:ab b8}{L:cW}{s2:aC}(ao:i<J.aH.length)(q:c={J with bo:=l,aH:=J.aH.set i (.up b L s2)})(u:∀a b,lo J.cut a b=false)(p:∀x∈s2.out,je x.bh=true/\je x.bK=true)(T:l.length+s2.out.length<=256)(h:lp c i g):z6 J i l s2 g:=by
 obtain⟨U,z,s1,D,Y,rfl⟩:=h;have e:c.aH[i]?=some (.up b L s2):=Uh
 rw[e]at Y;cases Y;have Q:=aiD u s2.out l p T 0;subst q;unfold bw.VL g6;dsimp only;rw[Q];refine⟨rfl,rfl,rfl,Uh,⟨b,D,?_⟩,rfl,rfl⟩;grind [List.set_set]
def Dt{c g:bw}{f t:Nat}{i:ab b8}{L:cW}{s:aC}(p:c.n<=7)(w:(c.aH.length:Int)=c.n)(Yc:∀a b,lo c.cut a b=false)(z:c.bo=⟨(f:Int),(t:Int),gM m⟩::i)(G:c3 m c.n=true)(k:m.bh=(f:Int))(r:m.bK=(t:Int))(T:f≠t)(U:c.aH[t]?=some (.up b L s))(Q:s.self=(t:Int))(h:nW c 0 e g):∃s1 s2,fG s m s1/\jT s1 s2/\((∀x∈s2.out,je x.bh=true/\je x.bK=true)->i.length+s2.out.length<=256->z6 c t i s2 g):=by
 have o:iH c.bo 0=some ⟨(f:Int),(t:Int),gM m⟩:=by grind [iH]
 rcases h with⟨v,_⟩|⟨j,J,P,s1,D,q,s2,⟨x,Z,Y,N,R,M,y,X,C,u⟩,_,Ye⟩
 .exfalso;rcases v with⟨Y,_⟩|⟨x,Y,N,_⟩|⟨x,j,d,W,l,E,F,Y,_,R,M,_⟩
  .grind
  .grind
  .grind
 .rw[o]at Y;cases Y;have:t=j:=by grind
  subst this;rw[U]at M;cases M;have K:m=D:=Do p G X y;subst K;rcases u with⟨q,_⟩|⟨_,_,_,g0,K,M⟩
  .grind
  .refine⟨g0,s2,K,M,λp T=>?_⟩;have y:t<c.aH.length:=by grind
   grind [Jj,bw.less]
end Go.Proofs.YteogojgnkjegmaaGreatDoor
