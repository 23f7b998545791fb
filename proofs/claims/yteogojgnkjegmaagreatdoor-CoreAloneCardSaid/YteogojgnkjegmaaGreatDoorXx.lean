/-
 Part of the proof.
-/
import Derived.Test.YteogojgnkjegmaaGreatDoorXw
set_option linter.all false
set_option maxRecDepth 8000
set_option maxHeartbeats 8000000
namespace Go.Proofs.YteogojgnkjegmaaGreatDoor
open Go.ay Go.Proofs.Tryz
variable[Go.ay.bR]
variable{k:Nat}{n:Int}{C:bE->Prop}{m:aD}{e Y:Int}{d:bP}
structure ClP(k:Nat)(c:bo):Prop extends ClN c where
 cut:c.cut.length=49
 bQ:c.bQ.length<=256
 lost:0<=c.lost/\c.lost<=k
 told:c.told.length<=k
 now:0<=c.now/\c.now<=k
def nr(i:Nat)(w:Int)(t:ff):ft:=⟨t,(i:Int),w⟩
def bo.SO(c:bo)(i W:Nat)(R:cO)(s1:aC):bo:=
 {c with aS:=c.aS.set i (.up W R s1.flush),bQ:=(gT c.cut c.bQ s1.out).1,lost:=c.lost+(gT c.cut c.bQ s1.out).2,told:=c.told++s1.told.map (nr i c.now)}
def kA(c:bo)(i:Nat)(P:bo):Prop:=∃W R s1 v,c.aS[i]?=some (.up W R s1)/\P=c.SO i W v s1
def acl(e:ax)(L:gh)(l:ab b0)(c:ab Bool)(n:Int)(m:aQ Go.Addr)(C D off:Nat)(Z:ab b0)(T:Rd e m Z.length D off 3 (Z.map b0.c))(u:c.length=49)(E:l.length<=256)(v:0<=n/\n<=1000000000000000)(U:Z.length<=1000000):ar prog 63 [au L.jZ 0,.slice m Z.length C] [e,aI (fl L.jZ L.du l c n)] (λr Y=>∃X,r=I (gT c l Z).2/\Y=[e,aI (fl L.jZ X (gT c l Z).1 c (n+(gT c l Z).2))]):=by refine ar.eqv (aL.cons _ aL.aI) (O5 e m C D off L.jZ L.du l Z c n T u E v U) ?_;rintro r Y⟨X,rfl,rfl⟩;exact⟨_,⟨X,rfl,rfl⟩,aL.cons _ aL.aI.symm⟩
def uj{f:c5->ab aj}{v:aj}{E X:Nat}{l:ab c5}{i:Nat}{x y:c5}(h:l[i]?=some x)(s:f y=f x):rows f v E X (l.set i y)=rows f v E X l:=by
 have K:(l.set i y).map f=l.map f:=by rw[List.map_set,s];exact wg (by rw[ho,h];rfl)
 unfold rows;rw[b9,uR,uR,K]
def x6(b:Nat)(L:gh)(c:bo){i:Nat}{x y:c5}(U:c.aS[i]?=some x)(r:y.bD=x.bD)(o:y.ptr=x.ptr):bJ b L {c with aS:=c.aS.set i y}=[cells b 85 (c9 L c),rows fL (.slice (some ⟨L.sJ,0,none⟩) c.aS.length L.m3) 112 1 c.aS,rows fR (.slice (some ⟨L.lw,0,none⟩) c.aS.length L.lx) 36 1 c.aS,dm L c,e3 (c.aS.set i y),rows ft.c L.bC 67 8 c.told,cv]:=by unfold bJ c9 dm;dsimp only;rw[uj (f:=fL) U (by unfold fL;rw[r]),uj (f:=fR) U (by unfold fR;rw[o]),b9]
def x7(b:Nat)(L:gh)(c:bo)(k i w:Nat)(u:cO)(s1:aC)(h:ClP k c)(cc:k<=100000000000)(U:c.aS[i]?=some (.up w u s1))(dz:s1.out.length<=1000000)(c8:s1.told.length<=1000000):ar prog 37 [au b 0,I (i:Int)] (bJ b L c) (λr Y=>∃s b6,(kA c i b6/\s.lw=L.lw/\s.lx=L.lx)/\r=.tuple #[]/\Y=bJ b s b6):=by
 have Yc:=h.len;have c6:=h.n;have Yg:=h.lost;have Ye:=h.told;have ao:=(cI.1 U).1;have y:=ar.Tv (Q:=λr (z:cO×aQ Go.Addr×Nat×aQ Go.Addr×Nat)=>r=.tuple #[.slice z.2.1 s1.out.length z.2.2.1,.slice z.2.2.2.1 s1.told.length z.2.2.2.2]) (T:=λz=>[rows b0.c (.slice z.2.1 s1.out.length z.2.2.1) 143 3 s1.out,rows ff.c (.slice z.2.2.2.1 s1.told.length z.2.2.2.2) 65 6 s1.told]) (N:=λz=>.up w z.1 s1.flush) U (ar.post (afk w u s1) (by rintro v Y⟨s,R,a,p,P,rfl,rfl⟩;exact⟨_,⟨(s,R,a,p,P),rfl,rfl⟩,λ_ _ _ h=>h⟩));have J (m:cO):kA c i (c.SO i w m s1):=⟨w,u,s1,m,U,rfl⟩
 unfold bJ c9 dm;dsimp only[List.cons_append,List.nil_append]at y;refine aB func37 λW=>?_;generalize bg _=D;refine aa 7 ?_;refine N4 ?_;refine av ?_;rintro _ _⟨o,rfl,rfl⟩;refine aa 8 ?_;obtain⟨m,R,a,p,P⟩:=o;dsimp only;refine ah.fact (hM (f:=b0.c) (v:=.slice R s1.out.length a) (l:=s1.out) b0.len XB) λX=>?_;obtain⟨Yk,C,bG,d,M⟩:=X;simp only[rk]at d;obtain⟨rfl,-,rfl⟩:=d;have Yo:=acl (rows b0.c (.slice R s1.out.length a) 143 3 s1.out) L c.bQ c.cut c.lost R a bG 0 s1.out M h.cut h.bQ ac dz;clear y;refine aa 8 ?_;rintro _ _⟨G,rfl,rfl⟩;refine aa 11 ?_;refine ah.fact (hM (f:=ff.c) (v:=.slice p s1.told.length P) (l:=s1.told) ff.SN XB) λX=>?_;obtain⟨Yl,Yj,Yi,d,x⟩:=X;simp only[rk]at d;obtain⟨rfl,-,rfl⟩:=d;refine ah.cb [25,26,0,1] (λz:Nat×aj=>z.1<=s1.told.length) (λz=>[(27,I (z.1:Int))]) (λz=>[cells b 85 (c9 {L with bC:=z.2} c),rows ft.c z.2 67 8 (c.told++(s1.told.take z.1).map (nr i c.now))]) (λz=>s1.told.length-z.1) (0,L.bC) (cw _) ?_ (d:=by unfold c9;rw[uU,kE,dk];(repeat(first|exact ak.nil|exact al.here|apply ak.cons|apply al.there)));rintro⟨j,bC⟩ eB K cu;dsimp only at eB;have Yf:(c.told++(s1.told.take j).map (nr i c.now)).length<=200000000000:=by rw[bM,ev,eX];omega
 unfold c9;refine bh ?_;by_cases F:j<s1.told.length
 .obtain⟨t,E⟩:=b8 F;have q:=iM (f:=ff.c) E;have Z:a8 .lss (j:Int) (s1.told.length:Int)=some true:=by simp[a8];omega
  have eu:c.told++(s1.told.take (j+1)).map (nr i c.now)=(c.told++(s1.told.take j).map (nr i c.now))++[nr i c.now t]:=by rw[mY,E,cd,iA];rfl
  generalize Yh:c.told++(s1.told.take j).map (nr i c.now)=mC at*;refine aa 2 ?_;refine ai.v (V.cmp rfl rfl Z) ?_;refine aa 10 ?_;refine ai.v (V.SG ad (k:=j) rfl rfl x (z:=ac)) ?_;refine ai.v (V.RP ad (k:=j) rfl x q) ?_;refine aq 0 λom=>?_;refine aa 3 ?_;refine ah.RN [16] ?_ aA.j.j.j.j.j.j.j.j.d'.d' aA.j.j.j.j.j.j.j.j.j.d';refine ae 4 0 ?_;refine ae 5 5 ?_;refine af.t 4 rfl (V.y' ad) ?_;refine af.t 10 rfl (V.y' ad) ?_;refine af.i' 11 rfl (V.Sj ad (v:=(nr i c.now t).c)) ?_;refine af.p' 12 rfl (O.N' ad ft.c [nr i c.now t] rfl (bx.agg rfl bx.nil) rfl rfl (λYp=>?_));refine av ?_;refine af.p' 13 rfl (O.SC ad rfl rfl XJ (ce.rows (f:=ft.c) (l:=[nr i c.now t]) ad XB ft.B') (λg Ym Yn=>?_));refine av ?_;refine ae 2 14 ?_;refine af.l 16 rfl (O.G' ad ?_);refine aa 8 ?_;all_goals exact Out.t' cu (j+1,g) Zw (by show s1.told.length-(j+1)<s1.told.length-j;omega) (q:=by unfold c9;rw[eu];(repeat(first|exact ak.nil|exact al.here|apply ak.cons|apply al.there)))
 .obtain rfl:j=s1.told.length:=by omega
  clear cu;have Z:a8 .lss (s1.told.length:Int) (s1.told.length:Int)=some false:=ZP
  rw[hE];refine aa 2 ?_;refine ai.v (V.cmp rfl rfl Z) ?_;refine aa 9 ?_;all_goals exact⟨_,_,⟨{L with du:=G,bC:=bC},_,⟨J m,rfl,rfl⟩,rfl,rfl⟩,(by unfold bo.SO;have e:=x6 b {L with du:=G,bC:=bC} {c with bQ:=(gT c.cut c.bQ s1.out).1,lost:=c.lost+(gT c.cut c.bQ s1.out).2,told:=c.told++s1.told.map (nr i c.now)} (y:=.up w m s1.flush) U rfl rfl;unfold bJ c9 dm at e;dsimp only at e⊢;rw[e];(repeat(first|exact ak.nil|exact al.here|apply ak.cons|apply al.there)))⟩
def A3{n:Int}:∀(l:ab dY) (p:aJ ba) (r:p.ok) (x:ag),(∀y∈l,y.1≠x)->(iG p l).at x=p.at x
 |[],p,r,x,_=>rfl
 |y::l,p,r,x,h=>by
  show(iG (p.set y.1 y.2) l).at x=p.at x
  rw[A3 (n:=n) l _ (aJ.SL r ..) x λz w=>h z (hn _ w),aJ.Sn r,aN];grind
def Gg{n:Int}:∀(l:ab dY) (p:aJ ba) (r:p.ok) (o:p.aS=n) (E:jr n l) (v:(l.map (·.1)).Nodup) (y:dY),y∈l->(iG p l).at y.1=some y.2
 |[],p,r,o,E,v,y,h=>XT
 |z::l,p,r,o,E,v,y,h=>by
  show(iG (p.set z.1 z.2) l).at y.1=some y.2
  rw[eK,lf]at v;rcases dq.1 h with rfl|h
  .have q:=(E y (iT ..)).1;rw[<-o]at q;rw[A3 (n:=n) l _ (aJ.SL r ..) y.1 λz w e=>v.1 (fh.2 ⟨z,w,e⟩),aJ.Sn r,aT ⟨q,rfl⟩]
  .exact Gg l _ (aJ.SL r ..) (by rw[aJ.SK];exact o) (λw m=>E w (hn _ m)) v.2 y h
theorem Pk{x y:ag}(h:nM x y):x≠y:=λe=>by grind [nM]
def Gh{p:aJ ba}(r:p.ok)(q:jr n p.all)(o:(aJ.new n:aJ ba).aS=n)(x:ag):(iG (aJ.new n) p.all).at x=p.at x:=by
 cases h:p.at x with
 |some i=>
  have K:(x,i)∈p.all:=(aJ.Sp r).2 h;refine Gg p.all _ (aJ.R8 n) o q ?_ (x,i) K;grind [List.Nodup,aJ.T6,Pk]
 |none=>
  rw[A3 (n:=n) _ _ (aJ.R8 n) x λy G e=>?_,aJ.SM];grind [aJ.Sp]
def Gi(v:n=3\/n=5\/n=7):(aJ.new n:aJ ba).aS=n:=by
 show Min.min (Max.max n 0) 7=n
 omega
structure mG(s:bE)(mC qo:ab dY):Prop where
 ok:jr s.n (mC++qo)
 data:s.data=b5 (mC++qo)
 safe:s.safe=((b5 mC).length:Int)
 p:∀x,s.p.at x=(iG (aJ.new s.n) (mC++qo)).at x
def aaH(s:bE):Prop:=∃x h,mG s x h
def mG.add{s:bE}{F Y:ab dY}(h:mG s F Y)(Q:s.ok){x:ag}{i:ba}(U:bB x s.n=true)(ao:fb i s.n=true):mG (s.add x i) F (Y++[(x,i)])\/mG (s.add x i) s.p.all [(x,i)]:=by
 have o:=Gi Q.size;unfold bE.add;split
 .refine .inr ⟨?_,?_,rfl,λy=>?_⟩
  .intro y G;rcases eN.1 G with G|G
   .exact Q.gE y G
   .rw[iz.1 G];exact⟨U,ao⟩
  .show b5 s.p.all++fr x i=b5 (s.p.all++[(x,i)]);rw[pn];simp[b5]
  .show(s.p.set x i).at y=(iG (aJ.new s.n) (s.p.all++[(x,i)])).at y;have R:=xt (aJ.R8 s.n:(aJ.new s.n:aJ ba).ok) s.p.all;rw[zP,aJ.Sn Q.p,aJ.Sn R,Gh Q.p Q.gE o,zQ,o,Q.aS]
 .refine .inl ⟨?_,?_,h.safe,λy=>?_⟩
  .intro y G;rw[<-cd]at G;rcases eN.1 G with G|G
   .exact h.ok y G
   .rw[iz.1 G];exact⟨U,ao⟩
  .show s.data++fr x i=b5 (F++(Y++[(x,i)]));rw[h.data,<-cd,pn (F++Y)];simp[b5]
  .show(s.p.set x i).at y=(iG (aJ.new s.n) (F++(Y++[(x,i)]))).at y;have R:=xt (aJ.R8 s.n:(aJ.new s.n:aJ ba).ok) (F++Y);rw[<-cd,zP,aJ.Sn Q.p,aJ.Sn R,h.p,zQ,o,Q.aS]
def Gj:∀(l:ab dY) (k:Nat),k<=(b5 l).length->∃E y n j,l=E++n/\(b5 l).take k=b5 E++j/\((n=[]/\j=[])\/∃y G,n=y::G/\j=(fr y.1 y.2).take j.length/\j.length<(fr y.1 y.2).length)/\y=j
 |[],k,h=>⟨[],[],[],[],rfl,by simp[b5],.inl ⟨rfl,rfl⟩,rfl⟩
 |z::l,k,h=>by
  have e:b5 (z::l)=fr z.1 z.2++b5 l:=by simp[b5]
  by_cases T:k<(fr z.1 z.2).length
  .refine⟨[],_,z::l,(fr z.1 z.2).take k,rfl,?_,.inr ⟨z,l,rfl,?_,?_⟩,rfl⟩
   .grind [b5]
   .grind
   .grind
  .rw[e,bM]at h;obtain⟨E,y,n,j,F,M,g,W⟩:=Gj l (k-(fr z.1 z.2).length) ac;refine⟨z::E,y,n,j,by rw[F];rfl,?_,g,W⟩;grind [List.take_append,List.take_of_length_le,List.append_assoc,b5]
theorem Gk(v:n<=7){y:dY}(h:bB y.1 n=true/\fb y.2 n=true):(kS y.1 y.2).length<=16384/\0<(kS y.1 y.2).length:=by grind [xq]
def afT{s:bE}(Q:s.ok){Z U:ab dY}(h:mG s Z U)(K:Int)(f:aP):∃E k bT,U=E++k/\(fV bT).2=0/\sg s.data (b5 Z).length K f=b5 (Z++E)++bT:=by
 have u:s.n<=7:=by have:=Q.size;omega
 have l:s.data=b5 Z++b5 U:=by rw[h.data,pn]
 obtain⟨N,a⟩:∃N,N=pm s.data (b5 Z).length K:=⟨_,rfl⟩
 have r:N<=(b5 U).length:=by rw[a];unfold pm;grind
 unfold sg;rw[<-a];by_cases w:N=0
 .rw[aT w];refine⟨[],U,[],rfl,rfl,?_⟩;grind
 .rw[aN w];have P:s.data.take ((b5 Z).length+N)=b5 Z++(b5 U).take N:=by rw[l,C5]
  obtain⟨E,_,k,j,F,M,g,-⟩:=Gj U N r;have d:(b5 E).length+j.length=N:=by have:=db List.length M;grind
  rw[P,M,<-cd,<-pn];have o:(b5 (Z++E)).length+j.length=(b5 Z).length+N:=by rw[pn,bM];omega
  generalize Y:(b5 (Z++E)++j).getD ((b5 Z).length+N-1) 0^^^f=b;by_cases p:j=[]
  .subst p;simp only[fY,gJ]at o d;rw[dk]at Y⊢;have R:E≠[]:=λe=>by grind
   obtain⟨x,y,rfl⟩:∃x y,E=x++[y]:=⟨E.dropLast,E.getLast R,(List.dropLast_concat_getLast R).symm⟩
   have G:=h.ok y (by rw[F];simp);have q:=vC u G.1 G.2;have i:b5 (Z++(x++[y]))=b5 (Z++x)++fr y.1 y.2:=by grind [List.append_assoc,pn,b5]
   rw[i]at Y o⊢;rw[bM]at o;have T:(b5 Z).length+N-1=(b5 (Z++x)).length+((fr y.1 y.2).length-1):=ac
   rw[T]at Y⊢;rw[List.set_append_right _ _ ac,Pg];by_cases W:(fr y.1 y.2)[(fr y.1 y.2).length-1]?=some b
   .refine⟨x++[y],k,[],F,rfl,?_⟩;rw[wg W,i,dk]
   .refine⟨x,y::k,(fr y.1 y.2).set ((fr y.1 y.2).length-1) b,by rw[F];simp,?_,rfl⟩;have J:(fr y.1 y.2).set ((fr y.1 y.2).length-1) b=(fr y.1 y.2).take ((fr y.1 y.2).length-1)++[b]:=by grind [List.set_eq_take_append_cons_drop,Nat.sub_add_cancel,List.drop_length]
    grind [Gk,DZ,fr]
  .rcases g with⟨_,g⟩|⟨y,X,rfl,z,C⟩
   .exact absurd g p
   .have c:0<j.length:=od.2 p;have G:=h.ok y (by rw[F];simp);obtain⟨t,P⟩:=Gk u G;refine⟨E,y::X,j.set (j.length-1) b,F,?_,?_⟩
    .have J:j.set (j.length-1) b=(fr y.1 y.2).take (j.length-1)++[b]:=by grind [List.set_eq_take_append_cons_drop,Nat.sub_add_cancel,List.drop_length,List.take]
     grind [DZ,fr]
    .grind
def ade(n U:Int)(x:b0):Prop:=∃m,eo m n=true/\m.b3≠U/\x=⟨U,m.b3,gj m⟩
def l9(s:aC):Prop:=∀x∈s.out,ade s.n s.self x
def g8(s:aC)(m:ab aD)(z:aC):Prop:=z.inbox=s.inbox++ez s.self m/\z.out=s.out++gx s.n s.self m/\z.n=s.n/\z.self=s.self
def Po(U:Int)(a b:ab aD):ez U (a++b)=ez U a++ez U b:=by unfold ez;rw[mq]
def abm(n U:Int)(a b:ab aD):gx n U (a++b)=gx n U a++gx n U b:=by unfold gx;rw[mq,iA]
theorem g8.nil{s cn:aC}(F:cn.inbox=s.inbox)(M:cn.out=s.out)(g:cn.n=s.n)(z:cn.self=s.self):g8 s [] cn:=⟨by rw[F];simp[ez],by rw[M];simp[gx],g,z⟩
def g8.send(s:aC)(m:ab aD):g8 s m (s.send m):=⟨rfl,rfl,rfl,rfl⟩
def g8.trans{s t u:aC}{a b:ab aD}(h:g8 s a t)(k:g8 t b u):g8 s (a++b) u:=
 ⟨by rw[k.1,h.1,h.2.2.2,Po,cd],by rw[k.2.1,h.2.1,h.2.2.1,h.2.2.2,abm,cd],k.2.2.1.trans h.2.2.1,k.2.2.2.trans h.2.2.2⟩
def l9.Sl{s z:aC}{y:ab aD}(h:l9 s)(Q:g8 s y z):l9 z:=by
 intro x U;rw[Q.2.1]at U;rw[Q.2.2.1,Q.2.2.2];rcases eN.1 U with U|U
 .exact h x U
 .unfold gx at U;obtain⟨m,K,rfl⟩:=fh.1 U;have:=(r3.1 K).2;simp only[cZ,j3,j8]at this;exact⟨m,this.2,this.1,rfl⟩
def Gl(s:aC)(m:aD)(G:dZ):g8 s (if(cN s.aH s.self m).2.2=true then[(cN s.aH s.self m).2.1]else[]) (s.Z' m G):=by
 unfold aC.Z';split
 .exact⟨rfl,rfl,rfl,rfl⟩
 .grind [g8.nil]
def aC.Tw(s:aC)(m:aD):ab aD:=match br s.bp m.Item with
 |none=>[]
 |some e=>if(e.v.z' m).2=true then(e.v.z' m).1.C' else[]
def aC.Tx(s:aC)(m:aD):ab aD:=match br s.leads m.Item with
 |none=>[]
 |some e=>if(e.v.z' m).2=true then(e.v.z' m).1.C' else[]
def agh(s:aC)(m:aD)(w:Nat):g8 s (s.Tw m) (s.RO m w):=by
 cases q:br s.bp m.Item with
 |none=>
  grind [aC.RO,aC.Tw,g8.nil]
 |some e=>
  by_cases j:(e.v.z' m).2=true
  .have J:s.Tw m=(e.v.z' m).1.C':=by grind [aC.Tw]
   rw[J];unfold aC.RO;rw[q];dsimp only;rw[aT j];split<;>exact⟨rfl,rfl,rfl,rfl⟩
  .grind [aC.Tw,aC.RO,g8.nil]
def af0(s:aC)(m:aD):g8 s (s.Tx m) (s.R5 m):=by
 cases q:br s.leads m.Item with
 |none=>
  grind [aC.R5,aC.Tx,g8.nil]
 |some e=>
  by_cases j:(e.v.z' m).2=true
  .have J:s.Tx m=(e.v.z' m).1.C':=by grind [aC.Tx]
   rw[J];unfold aC.R5;rw[q];dsimp only;rw[aT j];split<;>exact⟨rfl,rfl,rfl,rfl⟩
  .grind [aC.Tx,aC.R5,g8.nil]
def fK.Sl{s z:aC}(h:fK s m z):∃y,g8 s y z:=by
 rcases h with⟨_,G,_,_,h⟩|⟨_,w,rfl⟩
 .refine⟨_++[],(Gl s m G).trans ?_⟩;rcases h with⟨_,h⟩|⟨_,h⟩
  .obtain⟨p,_,rfl⟩:=h.go;grind [g8.nil]
  .grind [h8,g8.nil]
 .refine⟨[]++(_++_),(g8.nil (cn:={s with high:=s.RT m}) rfl rfl rfl rfl).trans ((agh _ m w).trans (af0 _ m))⟩
def fK.aH{s z:aC}(h:fK s m z):z.aH=(if l5 m then(cN s.aH s.self m).1 else s.aH)/\z.now=s.now:=by
 rcases h with⟨T,G,_,_,h⟩|⟨T,h⟩
 .rw[aT T];have v:(s.Z' m G).now=s.now:=by unfold aC.Z';split<;>rfl
  rcases h with⟨_,h⟩|⟨_,h⟩
  .obtain⟨p,_,rfl⟩:=h.go;grind [ud]
  .grind [h8,ud]
 .rw[aN T];have F:=h.core.b;have M:=h.core.a;grind
def wh(s z:bE):Prop:=z=s\/∃x i,bB x s.n=true/\fb i s.n=true/\z=s.add x i
def x8(s:bE){x:ag}{C k:ba}(U:bB x s.n=true)(ao:fb k s.n=true):wh s (k2 s x C k):=by
 unfold k2;split
 .exact .inl rfl
 .exact .inr ⟨x,k,U,ao,rfl⟩
theorem agb{s:bE}(U:Int)(h:s.ok):wh s (cN s U m).1:=by
 unfold cN;split
 .rename_i q;have K:=iY.1 q.1;have ao:=tZ h m.Item;unfold kz;dsimp only;split
  .exact .inl rfl
  split
  .rename_i T;have u:=oJ K ZE;unfold k3;dsimp only;split
   .exact x8 s K.item (ua ao K.b2 (.inl rfl) (xP h u))
   .exact .inl rfl
  split
  .rename_i T;have u:=oJ K ZE;unfold lC;dsimp only;split
   .exact x8 s K.item (ua ao K.b2 (.inr rfl) u)
   .exact .inl rfl
  split
  .unfold lD;dsimp only;split
   .exact x8 s K.item (xO ao K.b2)
   .exact .inl rfl
  split
  .rename_i T;have u:=oJ K ZE;exact x8 s K.item (vv ao u)
  .exact .inl rfl
 .exact .inl rfl
def fK.add{s z:aC}(E:s.aH.ok)(h:fK s m z):wh s.aH z.aH:=by
 rw[h.aH.1];split
 .grind [agb]
 .exact .inl rfl
def j0(C:bE->Prop)(s:bE):Prop:=∃Y h,mG s Y h/\∀F i,h=F++i->∃t,C t/\t.n=s.n/\∀x,t.p.at x=(iG (aJ.new s.n) (Y++F)).at x
def j0.add{s W:bE}(h:j0 C s)(Q:s.ok)(o:wh s W)(F:C s)(M:C W):j0 C W:=by
 rcases o with rfl|⟨x,i,U,ao,rfl⟩
 .exact h
 .obtain⟨Z,Y,r,u⟩:=h;have v:(s.add x i).n=s.n:=bE.To ..;have N {l a b:ab dY} {y:dY} (e:l++[y]=a++b):(b=[]/\a=l++[y])\/∃q,b=q++[y]/\l=a++q:=by
   rcases E1 b with rfl|⟨q,z,rfl⟩
   .grind
   .grind [List.append_assoc,List.append_inj',List.cons.inj]
  rcases r.add Q U ao with bb|bb
  .refine⟨_,_,bb,λG k e=>?_⟩;rcases N e with⟨_,rfl⟩|⟨q,_,J⟩
   .exact⟨_,M,rfl,bb.p⟩
   .obtain⟨t,L,j,P⟩:=u G q J;grind
  .refine⟨_,_,bb,λG k e=>?_⟩;rcases N (l:=[]) e with⟨_,rfl⟩|⟨q,_,J⟩
   .exact⟨_,M,rfl,bb.p⟩
   .have w:G=[]:=(List.append_eq_nil_iff.1 J.symm).1;subst w;refine⟨s,F,v.symm,λy=>?_⟩;rw[dk,v];exact(Gh Q.p Q.gE (Gi Q.size) y).symm
def j0.of{s:bE}{x:ab dY}(h:mG s x [])(u:C s):j0 C s:=
 ⟨x,[],h,λF n e=>⟨s,u,rfl,by rw[(List.append_eq_nil_iff.1 e.symm).1];exact h.p⟩⟩
structure UpF(k:Nat)(n now:Int)(i:Nat)(s:aC):Prop where
 y:eI k s
 v:dR s
 dy:s.inbox=[]
 bG:l9 s
 n:s.n=n
 self:s.self=(i:Int)
 now:s.now<=now
 pl:aaH s.aH
 ol:s.out.length<=900000
 fi:s.told.length<=900000
structure mH(k:Nat)(n now:Int)(i:Nat)(s:aC):Prop extends UpF k n now i s where
 on:s.out=[]
 oi:s.told=[]
 wi:∃mC,mG s.aH mC []
def UpF.flush{i:Nat}{s:aC}(h:UpF k n Y i s):mH k n Y i s.flush:=by
 obtain⟨J,F,r⟩:=h.pl;have bb:mG s.flush.aH (J++F) []:=by
  refine⟨by rw[dk];exact r.ok,by rw[dk];exact r.data,?_,by rw[dk];exact r.p⟩;show(s.aH.data.length:Int)=_
  rw[r.data]
 have G:=h.y;refine⟨⟨⟨G.toRepI.of rfl,⟨G.cC,G.rs,G.dy⟩,⟨G.aH.size,G.aH.p,G.aH.aS,G.aH.gE,G.aH.m9⟩,G.eF,G.sp,G.cU⟩,⟨h.v.eF,h.v.gw,h.v.bU,h.v.i8⟩,h.dy,λx U=>(by cases U),h.n,h.self,h.now,⟨_,_,bb⟩,cw _,cw _⟩,rfl,rfl,_,bb⟩
def GoR.Xn{s z:cQ}{Z:ab ag}(f:gS n s)(h:GoR n s Z z):Z.length<=448:=f.Ti h.jW λx U=>(h.is x U).1
def ki.told{s z:aC}(h:RepI k s)(o:ki s z):z.told.length<=s.told.length+448:=by
 obtain⟨Z,p,X,x,G,q,K,j,N,rfl⟩:=o.go;have F:=db List.length j;have M:=ri s.Sg Z;have g:=GoR.Xn h.run q.toGoR;rw[ev]at F;show(s.told++x).length<=_
 rw[bM];omega
def iH.all{s s1:aC}(h:eI k s)(L:dR s)(Z:l9 s)(r:j0 C s.aH)(K:C s.aH)(Q:iH s s1)(u:∀t,iH s t->iH t s1->C t.aH):∃i,eI (k+3*i) s1/\s1.J'+i<=s.J'/\dR s1/\l9 s1/\j0 C s1.aH/\s1.n=s.n/\s1.self=s.self/\s1.now=s.now/\s1.told=s.told/\s1.out.length<=s.out.length+14*i:=by
 induction Q with
 |refl=>exact⟨0,h,cl _,L,Z,r,rfl,rfl,rfl,rfl,cl _⟩
 |@step a b m n Q ao K T=>
  obtain⟨i,Z,z,D,f,W,y,J,p,E,c⟩:=T λt F M=>u t F (.step M ao K);obtain⟨o,q,l⟩:=Z.rest ao;have P:=K.J' o.z.toRepW;have w:dR {a with inbox:=n}:=⟨D.eF,D.gw,D.bU,λx N=>D.i8 x (by rw[ao];exact hn _ N)⟩
  obtain⟨m,M⟩:=K.Sl;have R:C a.aH:=u a Q (.step (.refl a) ao K);have T:C b.aH:=u b (.step Q ao K) (.refl b);have d:=K.out o;have L:=K.aH.2;have t:wh a.aH b.aH:=fK.add (s:={a with inbox:=n}) Z.aH K;dsimp only at d L;refine⟨i+1,K.cx o q,ac,K.Ss w Z.aH (D.i8 _ (by rw[ao];exact iT ..)),l9.Sl (s:={a with inbox:=n}) f M,W.add Z.aH t R T,M.2.2.1.trans y,M.2.2.2.trans J,L.trans p,K.told.trans E,ac⟩
def ki.Xo{s z:aC}(o:ki s z)(h:l9 s):l9 z:=by obtain⟨y,J,p,T,c,u,w,R,i⟩:=o.same;intro x U;rw[R]at U;rw[c,u];exact h x U
def jB.all{x:Int}{i:Nat}{s z:aC}(h:eI k s)(L:dR s)(N:l9 s)(r:j0 C s.aH)(b:jB s z)(W:s.J'<=13900)(y:s.n=n)(J:s.self=(i:Int))(p:s.now<=x)(Z:s.out.length<=700000)(f:s.told.length<=800000)(u:∀t,iH s t->C t.aH):UpF (k+42200) n x i z/\j0 C z.aH:=by
 obtain⟨s1,Q,ao,o⟩:=b;obtain⟨j,Z,K,T,f,W,P,G,n,l,a⟩:=Q.all h L N r (u s (.refl s)) λt F _=>u t F;have E:=o.Vy Z;have j:=o.told Z.toRepI;obtain⟨m,M,r,X,b,d,K,R,Q,u,L,g⟩:=o.same;have X:=E.cU;have r:j0 C z.aH:=by rw[m];exact W
 refine⟨⟨⟨E.toRepI.mono ac,E.toRepG,E.aH,E.eF,E.sp,ac⟩,o.Ss T,by rw[K,ao],o.Xo f,by rw[b,P,y],by rw[d,G,J],by rw[L,n];exact p,?_,?_,?_⟩,r⟩
 .obtain⟨x,h,T,_⟩:=r;exact⟨x,h,T⟩
 .rw[R];omega
 .rw[l]at j;omega
def x9(n:Int)(x:b0):Prop:=∃m,eo m n=true/\m.b3≠x.bm/\0<=x.bm/\x.bm<n/\x.b3=m.b3/\x.Bytes=gj m
def x9.sI(v:n<=7){x:b0}(h:x9 n x):sI x=true:=by obtain⟨m,q,_,F,M,g,_⟩:=h;have K:=iY.1 q;have g:=K.t1;have N:=K.t2;unfold Go.Proofs.YteogojgnkjegmaaGreatDoor.sI hx;grind
def A4(c:ab Bool):∀(Z l:ab b0) (z:Int),0<=z->l.length<=256->((Z.foldl (ji c) (l,z)).1.length<=256/\z<=(Z.foldl (ji c) (l,z)).2/\(Z.foldl (ji c) (l,z)).2<=z+Z.length/\∀x∈(Z.foldl (ji c) (l,z)).1,x∈l\/x∈Z)
 |[],l,z,w,E=>⟨E,ju _,XE,λx U=>.inl U⟩
 |y::Z,l,z,w,E=>by
  rw[n6];by_cases R:l7 c l y=true
  .have e:ji c (l,z) y=(l,z+1):=by grind [ji]
   rw[e];obtain⟨F,M,g,W⟩:=A4 c Z l (z+1) ac E;grind
  .have e:ji c (l,z) y=(l++[y],z):=by grind [ji]
   rw[e];have C:(l++[y]).length<=256:=by unfold l7 at R;grind
   obtain⟨F,M,g,W⟩:=A4 c Z (l++[y]) z w C;grind
def uk(n:Int)(l:ab dY)(bT:ab aP)(W:Int):Prop:=jr n l/\(fV bT).2=0/\(b5 l++bT).length<=65536/\W=((b5 l++bT).length:Int)
structure lJ(k:Nat)(q1:Nat)(c:bo):Prop extends ClP k c where
 up:∀(i b:Nat) (L:cO) (s:aC),i≠q1->c.aS[i]?=some (c5.up b L s)->mH k c.n c.now i s
 dn:∀(i bD:Nat) (du:aj) (l:ab dY) (bT:ab aP) (jU:Int),i≠q1->c.aS[i]?=some (c5.dn bD du l bT jU)->uk c.n l bT jU
 i2:∀x∈c.bQ,x9 c.n x
structure cP(k:Nat)(c:bo):Prop extends ClP k c where
 up:∀(i b:Nat) (L:cO) (s:aC),c.aS[i]?=some (c5.up b L s)->mH k c.n c.now i s
 dn:∀(i bD:Nat) (du:aj) (l:ab dY) (bT:ab aP) (jU:Int),c.aS[i]?=some (c5.dn bD du l bT jU)->uk c.n l bT jU
 i2:∀x∈c.bQ,x9 c.n x
def cP.z{c:bo}(h:cP k c)(R:Nat):lJ k R c:=⟨h.toClP,λi b L s _ U=>h.up i b L s U,λi Q u l bT W _ U=>h.dn i Q u l bT W U,h.i2⟩
def eI.mono{y:Nat}{s:aC}(h:eI k s)(T:k<=y):eI y s:=⟨h.toRepI.mono T,h.toRepG,h.aH,h.eF,h.sp,jk h.cU T⟩
def mH.mono{y:Nat}{x U:Int}{i:Nat}{s:aC}(h:mH k n x i s)(T:k<=y)(m:x<=U):mH y n U i s:=
 ⟨⟨h.y.mono T,h.v,h.dy,h.bG,h.n,h.self,Int.le_trans h.now m,h.pl,h.ol,h.fi⟩,h.on,h.oi,h.wi⟩
def ClP.mono{y:Nat}{c:bo}(h:ClP k c)(T:k<=y):ClP y c:=by have F:=h.lost;have M:=h.told;have g:=h.now;exact⟨h.toClN,h.cut,h.bQ,ac,ac,ac⟩
def lJ.mono{y R:Nat}{c:bo}(h:lJ k R c)(T:k<=y):lJ y R c:=⟨h.toClP.mono T,λi b L s ao U=>(h.up i b L s ao U).mono T (ju _),h.dn,h.i2⟩
def cP.mono{y:Nat}{c:bo}(h:cP k c)(T:k<=y):cP y c:=⟨h.toClP.mono T,λi b L s U=>(h.up i b L s U).mono T (ju _),h.dn,h.i2⟩
def lJ.set{R:Nat}{c:bo}(h:lJ k R c)(y:c5):lJ k R {c with aS:=c.aS.set R y}:=by
 refine⟨⟨⟨h.n,by show((c.aS.set R y).length:Int)=_;rw[b9];exact h.len⟩,h.cut,h.bQ,h.lost,h.told,h.now⟩,λi b L s ao U=>?_,λi Q u l bT W ao U=>?_,h.i2⟩
 .have U:(c.aS.set R y)[i]?=_:=U;rw[A5 (nz ao)]at U;exact h.up i b L s ao U
 .have U:(c.aS.set R y)[i]?=_:=U;rw[A5 (nz ao)]at U;exact h.dn i Q u l bT W ao U
def lJ.Xp{X:Nat}{c:bo}(h:lJ k X c){b:Nat}{L:cO}{s:aC}(U:c.aS[X]?=some (c5.up b L s))(R:mH k c.n c.now X s):cP k c:=by
 refine⟨h.toClP,λi q b z T=>?_,λi Q u l bT W T=>?_,h.i2⟩
 .by_cases e:i=X
  .grind
  .exact h.up i q b z e T
 .by_cases e:i=X
  .grind
  .exact h.dn i Q u l bT W e T
def lJ.VB{X:Nat}{c:bo}(h:lJ k X c){Q:Nat}{u:aj}{l:ab dY}{bT:ab aP}{W:Int}(U:c.aS[X]?=some (c5.dn Q u l bT W))(R:uk c.n l bT W):cP k c:=by
 refine⟨h.toClP,λi q b z T=>?_,λi o N E D t T=>?_,h.i2⟩
 .by_cases e:i=X
  .grind
  .exact h.up i q b z e T
 .by_cases e:i=X
  .grind
  .exact h.dn i o N E D t e T
def kA.cx{i:Nat}{c P:bo}(h:lJ k i c)(R:∀b L s,c.aS[i]?=some (c5.up b L s)->UpF k c.n c.now i s)(l:kA c i P):cP (k+1000000) P:=by
 obtain⟨W,X,s1,a,U,rfl⟩:=l;have F:=R _ _ _ U;obtain⟨y,M,z,C⟩:=A4 c.cut s1.out c.bQ 0 (ju _) h.bQ;have E:=h.lost;have j:=h.told;have v:=h.now;have Z:=F.ol;have Y:=F.fi;have ao:=(cI.1 U).1;have q:lJ (k+1000000) i (c.SO i W a s1):=by
  have Q:=(h.mono (iZ k 1000000)).set (.up W a s1.flush);refine⟨⟨⟨h.n,Q.len⟩,h.cut,y,?_,?_,?_⟩,Q.up,Q.dn,λx u=>?_⟩
  .show 0<=c.lost+(gT c.cut c.bQ s1.out).2/\c.lost+(gT c.cut c.bQ s1.out).2<=_;unfold gT;omega
  .show(c.told++s1.told.map (nr i c.now)).length<=_;grind
  .show 0<=c.now/\c.now<=_;omega
  .rcases C x u with u|u
   .exact h.i2 x u
   .obtain⟨m,o,D,rfl⟩:=F.bG x u;have k:=F.y.self;exact⟨m,by show eo m c.n=true;rw[<-F.n];exact o,D,k.1,by show s1.self<c.n;rw[<-F.n];exact k.2,rfl,rfl⟩
 refine q.Xp (b:=W) (L:=a) (s:=s1.flush) ?_ (mH.mono F.flush (iZ ..) (ju _));show(c.aS.set i _)[i]?=_
 grind
def UpF.mono{y:Nat}{x:Int}{i:Nat}{s:aC}(h:UpF k n x i s)(T:k<=y):UpF y n x i s:=⟨h.y.mono T,h.v,h.dy,h.bG,h.n,h.self,h.now,h.pl,h.ol,h.fi⟩
def mB.up{i:Nat}{s z:aC}{x:ag}(h:mH k n Y i s)(Q:mB s d x e z):UpF (k+42200) n Y i z:=by
 rcases Q with⟨_,_,_,rfl⟩|⟨_,_,_,_,rfl⟩|⟨b,E,rfl,rfl,p,o⟩
 .exact h.toUpF.mono ac
 .exact h.toUpF.mono ac
 .obtain⟨x,r⟩:=h.wi;have N:=h.y.RU d p E;have a:=h.v.RU d p;have m:fg (s.RU d p).inbox<=3:=by
   show fg (s.inbox++ez s.self (s.RQ d).C')<=3
   rw[h.dy,gi];exact sD ..
  have z:=N.S9 a;have u:l9 (s.RU d p):=l9.Sl (s:=s.Sh d p) h.bG (g8.send _ _);have Z:=(rx (s.Sh d p) (s.RQ d).C').2;have M:(s.RQ d).C'.length<=7:=a2.Su (tV ..) h.y.hN.2;have Z:(s.RU d p).out.length<=7:=by
   have F:(s.Sh d p).out.length=0:=by show s.out.length=0;rw[h.on];rfl
   have M:((s.Sh d p).send (s.RQ d).C').out.length=(s.RU d p).out.length:=rfl;omega
  exact(jB.all (C:=λ_=>True) N a u (j0.of r trivial) o ac h.n h.self h.now ac (by show s.told.length<=_;rw[h.oi];exact cw _) (λ_ _=>trivial)).1
def fK.bD{s z:aC}(h:fK s m z):z.bD=s.bD:=by
 rcases h with⟨_,G,_,_,h⟩|⟨_,h⟩
 .have F:(s.Z' m G).bD=s.bD:=by unfold aC.Z';split<;>rfl
  rcases h with⟨_,h⟩|⟨_,h⟩
  .obtain⟨p,_,rfl⟩:=h.go;exact F
  .unfold h8 at h;subst h;exact F
 .have:=h.core.b;simp only[md]at this;exact this.2.2.1
def iH.bD{s z:aC}(h:iH s z):z.bD=s.bD:=by
 induction h with
 |refl=>rfl
 |step _ _ K u=>exact K.bD.trans u
def jB.bD{s z:aC}(h:jB s z):z.bD=s.bD:=by obtain⟨s1,F,_,M⟩:=h;exact M.same.2.2.2.2.2.2.2.2.2.2.2.trans F.bD
def mB.bD{s z:aC}{x:ag}(Q:mB s d x e z):z.bD=s.bD:=by
 rcases Q with⟨_,_,_,rfl⟩|⟨_,_,_,_,rfl⟩|⟨b,E,rfl,rfl,p,o⟩
 .rfl
 .rfl
 .exact o.bD
def ma(c:bo)(h:Int)(d:bP)(x:ag)(e:Int)(P:bo):Prop:=
 (gy c h≠0/\x=ag.z/\e=gy c h/\P=c)\/
 (gy c h=0/\∃i W R s1 v s2,h=((i:Nat):Int)/\c.aS[i]?=some (.up W R s1)/\mB s1 d x e s2/\kA {c with aS:=c.aS.set i (.up W v s2)} i P)
def Gm{c:bo}(h:ClP k c)(E:gy c Y=0):∃i b L s,Y=((i:Nat):Int)/\c.aS[i]?=some (.up b L s):=by
 unfold gy at E;split at E
 .cases E
 .rename_i o;obtain⟨i,x,rfl,ao,U⟩:=h.at (rep:=Y) ac ac;rw[iB,U]at E;cases x with
  |up b L s=>exact⟨i,b,L,s,rfl,U⟩
  |dn Q u l bT W=>rw[aN (by exact Bool.false_ne_true)]at E;cases E
def ma.cx{c P:bo}{x:ag}(h:cP k c)(Q:ma c Y d x e P):cP (k+1042200) P:=by
 rcases Q with⟨_,_,_,rfl⟩|⟨_,i,W,R,s1,v,s2,_,U,Q,l⟩
 .exact h.mono ac
 .have F:=Q.up (h.up _ _ _ _ U);have ao:=(cI.1 U).1;refine(l.cx (k:=k+42200) (((h.z i).mono ac).set _) λb L s u=>?_).mono ac;have u:(c.aS.set i (.up W v s2))[i]?=_:=u;rw[oO ao]at u;cases u;exact F
def Gn(b:Nat)(L:gh)(c:bo)(Y:Int)(d:bP)(k:Nat)(h:cP k c)(cc:k<=90000000000):ar prog 18 [au b 0,I Y,A d.c] (bJ b L c) (λr J=>∃s P x e,ma c Y d x e P/\r=.tuple #[A x.c,I e]/\J=bJ b s P):=by
 have w:=x5 b L c h.toClN Y;by_cases q:gy c Y=0
 .obtain⟨i,j,X,s1,rfl,U⟩:=Gm h.toClP q;have E:=h.up _ _ _ _ U;have ao:=(cI.1 U).1;have M:=h.len;have c6:=h.n;have m:=ar.Ul (Q:=λr (z:cO×aC×ag×Int)=>mB s1 d z.2.2.1 z.2.2.2 z.2.1/\r=.tuple #[A z.2.2.1.c,I z.2.2.2]) (N:=λz=>.up j z.1 z.2.1) U (ar.post (adc j X s1 d k E.y E.v E.dy ac PZ LN) (by rintro v J⟨s,cn,x,e,K,rfl,rfl⟩;exact⟨_,⟨(s,cn,x,e),⟨K,rfl⟩,rfl⟩,λ_ _ _ h=>h⟩));have l (a:cO) (s2:aC) (x:ag) (e:Int) (u:mB s1 d x e s2):=x7 b L {c with aS:=c.aS.set i (.up j a s2)} (k+42200) i j a s2 (((h.z i).mono ac).set _).toClP ac (by show(c.aS.set i _)[i]?=_;rw[oO ao]) (by have:=(u.up E).ol;omega) (by have:=(u.up E).fi;omega);have F (a:cO) (s2:aC) (x:ag) (e:Int) (P:bo) (u:mB s1 d x e s2) (dK:kA {c with aS:=c.aS.set i (.up j a s2)} i P):ma c ((i:Nat):Int) d x e P:=.inr ⟨q,i,j,X,s1,a,s2,rfl,U,u,dK⟩;rw[q]at w;clear E h cc;unfold bJ c9 dm at w⊢;refine aB func18 λW=>?_;generalize bg _=D;refine aq 2 λlV=>?_;refine aq 0 λnm=>?_;refine aa 22 ?_;refine ah.mt [0,1,6] (λz:Nat×cO×aC×ag×Int=>mB s1 d z.2.2.2.1 z.2.2.2.2 z.2.2.1) (λz=>[(9,au z.1 0),(10,I z.2.2.2.2)]) (λz=>[cells z.1 46 z.2.2.2.1.c,e3 (c.aS.set i (.up j z.2.1 z.2.2.1)),cv]) (b:=[e3 c.aS,cv]) ?_ ?_
  .intro fa p;refine ah.n' ?_ aA.d'.j.j.j.j.j.j.j.d';refine ae 5 0 ?_;refine af.i' 5 rfl (V.x' ad (k:=i) rfl rfl rfl rfl ac) ?_;refine ae 1 7 ?_;refine af.bu 6 12 rfl rfl ?_ ?_;refine aw.q' (V.RZ ad (f:=fR) rfl XB mF U) ?_;refine av ?_;refine af.bu 8 12 rfl rfl ?_ ?_;refine aw.R' rfl (m) XC ?_;rintro l1 s2⟨Yh,⟨⟨R,rfl⟩,rfl⟩⟩;refine K1 λG=>?_;refine av ?_;rotate_left;refine O.K' ad (λG=>?_);refine av ?_;refine af.o' 8 rfl rfl (m) ?_;rintro v5 E9⟨T,⟨⟨Yf,rfl⟩,rfl⟩⟩;refine Rs ?_;rotate_left;refine O.K' ad (λG=>?_);refine av ?_;refine af.p' 6 rfl (aw.q' (V.RZ ad (f:=fR) rfl XB mF U) ?_);refine av ?_;refine af.o' 8 rfl rfl (m) ?_;rintro v9 Yi⟨o,⟨⟨Yg,rfl⟩,rfl⟩⟩;refine Rs ?_;rotate_left;all_goals exact Out.t' p (_,_,_,_,_) XF trivial
  rintro⟨G,a,s2,x,e⟩ u;dsimp only at u;have g:=l a s2 x e u;have Z:=λP=>F a s2 x e P u;have lu:=x6 b L c (y:=.up j a s2) U u.bD rfl;clear l m F w;rw[lu]at g;unfold bJ c9 dm at g;dsimp only[List.cons_append,List.nil_append]at g⊢;refine aa 5 ?_;rintro v3 nc⟨t,⟨C,⟨⟨R,Yc,Ye⟩,rfl,rfl⟩⟩⟩;refine aa 13 ?_;all_goals exact⟨_,_,⟨_,_,x,e,Z _ XF,rfl,rfl⟩,XC⟩
 .have F:ma c Y d ag.z (gy c Y) c:=.inl ⟨q,rfl,rfl,rfl⟩;have fS:a8 .neq (gy c Y) 0=some true:=by simp[a8,q]
  generalize gy c Y=e at*;unfold bJ c9 dm at w⊢;refine aB func18 λW=>?_;generalize bg _=D;refine aq 2 λlV=>?_;refine aq 0 λnm=>?_;refine aa 16 ?_;refine ai.v (V.cmp rfl rfl fS) ?_;refine aa 14 ?_;all_goals exact⟨_,_,⟨L,c,ag.z,e,F,rfl,rfl⟩,XC⟩
def wj(s:aC)(m:aD)(t:bE):Prop:=t=s.aH\/∃s1 C,fK s m s1/\iH s1 C/\t=C.aH
def mD.all{x:Int}{i:Nat}{s z:aC}(h:mH k n x i s)(K:gQ m n)(Q:mD s m e z):UpF (k+42300) n x i z/\j0 (wj s m) z.aH:=by
 obtain⟨Y,r⟩:=h.wi;rcases Q with⟨_,_,rfl⟩|⟨_,_,_,s1,o,b⟩
 .exact⟨h.toUpF.mono ac,j0.of r (.inl rfl)⟩
 .have J:gQ m s.n:=by rw[h.n];exact K
  have z:=xX h.y h.v h.dy o;obtain⟨i,x⟩:=o.Sl;have Z:=o.out h.y;rw[h.on]at Z;have a:j0 (wj s m) s1.aH:=(j0.of r (.inl rfl)).add h.y.aH (o.add h.y.aH) (.inl rfl) (.inr ⟨s1,s1,o,.refl s1,rfl⟩);have k:=h.y.hN;have:=jB.all (C:=wj s m) (o.cx h.y (ov J.item k.2)) (o.Ss h.v h.y.aH (AS k.2 J)) (l9.Sl h.bG x) a b ac (x.2.2.1.trans h.n) (x.2.2.2.trans h.self) (by rw[o.aH.2];exact h.now) (by have:([]:ab b0).length=0:=rfl;omega) (by rw[o.told,h.oi];exact cw _) (λt j=>.inr ⟨s1,t,o,j,rfl⟩);exact⟨this.1.mono ac,this.2⟩
def mD.bD{s z:aC}(Q:mD s m e z):z.bD=s.bD:=by
 rcases Q with⟨_,_,rfl⟩|⟨_,_,_,s1,o,b⟩
 .rfl
 .exact b.bD.trans o.bD
def bo.less(c:bo)(i:Int):bo:={c with bQ:=c.bQ.eraseIdx i.toNat}
def ul(c:bo)(i:Int)(j:Nat)(W:Nat)(R:cO)(s1:aC)(m:aD)(v:cO)(s2:aC):Prop:=
 ∃x J,hQ c.bQ i=some x/\hP c.cut x.bm x.b3=false/\x.b3=(j:Int)/\c.aS[j]?=some (.up W R s1)/\x.Bytes=gj m/\eo m c.n=true/\m.b3=x.b3/\mD s1 m J s2
def rB(c:bo)(i:Int)(e:Int)(P:bo):Prop:=
 (hQ c.bQ i=none/\e=5/\P=c)\/
 (∃x,hQ c.bQ i=some x/\hP c.cut x.bm x.b3=true/\e=7/\P={c.less i with lost:=c.lost+1})\/
 (∃x j Q u l a W,hQ c.bQ i=some x/\hP c.cut x.bm x.b3=false/\x.b3=((j:Nat):Int)/\c.aS[j]?=some (.dn Q u l a W)/\e=7/\P=c.less i)
def sK(c:bo)(i:Int)(h e:Int)(P:bo):Prop:=
 (h=0/\rB c i e P)\/(∃j W R s1 m v s2,ul c i j W R s1 m v s2/\h=((j:Nat):Int)/\e=0/\P={c.less i with aS:=c.aS.set j (.up W v s2)})
def A6(L:gh)(l:ab b0)(c:ab Bool)(n:Int):ar prog 35 [au L.jZ 0] [aI (fl L.jZ L.du l c n)] (λr Y=>r=I (l.length:Int)/\Y=[aI (fl L.jZ L.du l c n)]):=ar.S1 (aeF ..)
def aef(L:gh)(l:ab b0)(c:ab Bool)(n i:Int)(u:c.length=49)(v:0<=n/\n<=1000000000000000)(g:∀x∈l,sI x=true){x:b0}(U:hQ l i=some x):ar prog 65 [au L.jZ 0,I i] [aI (fl L.jZ L.du l c n)] (λr Y=>∃X,r=(if hP c x.bm x.b3 then .tuple #[A b0.z.c,B false]else .tuple #[A x.c,B true])/\Y=[aI (fl L.jZ X (l.eraseIdx i.toNat) c (if hP c x.bm x.b3 then n+1 else n))]):=by
 refine ar.eqv aL.aI (O8 L.jZ L.du l c n i u v g) ?_;rintro r Y⟨X,h⟩;rw[U]at h;dsimp only at h;cases D:hP c x.bm x.b3
 .rw[D,aN XG]at h;exact JI
 .rw[D,aT rfl]at h;exact JI
def A7{l:ab b0}{i:Int}{x:b0}(h:hQ l i=some x):x∈l:=by obtain⟨k,_,T,_⟩:=ui h;exact j5 T
def Gp(b:Nat)(L:gh)(c:bo)(i:Int)(k:Nat)(h:cP k c)(cc:k<=90000000000):ar prog 39 [au b 0,I i] (bJ b L c) (λr Y=>∃s b6 U e,sK c i U e b6/\r=.tuple #[I U,I e]/\Y=bJ b s b6):=by
 have Yc:=h.len;have c6:=h.n;have Yk:=A6 L c.bQ c.cut c.lost;have Yi:=h.lost;cases u:hQ c.bQ i with
 |none=>
  have F:sK c i 0 5 c:=.inl ⟨rfl,.inl ⟨u,rfl,rfl⟩⟩;have ao:=we u;clear h;unfold bJ c9 dm;refine aB func39 λW=>?_;generalize bg _=D;refine aa 22 ?_;refine ai.aU (λX=>?_) (λX=>?_);refine aa 20 ?_;rotate_left;refine aa 21 ?_;rotate_left;all_goals exact⟨_,_,⟨L,c,0,5,F,rfl,rfl⟩,XC⟩
 |some x=>
  obtain⟨M,rfl,Ym,Yg⟩:=ui u;obtain⟨m,bU,Ye,Yl,Yj,C,K⟩:=h.i2 x (A7 u);have t:=iY.1 bU;have Yf:=t.t1;have P:=t.t2;have Z:=aef L c.bQ c.cut c.lost (M:Int) h.cut ⟨Yi.1,ac⟩ (λy G=>(h.i2 y G).sI ac) u;obtain⟨rr,to,Yo⟩:=x;dsimp only at C K Yl Yj Ye;subst C K;obtain⟨j,y,T,Yh,G⟩:=h.at Yf P;have d:a8 .lss (M:Int) 0=some false:=ZP
  have J:a8 .geq (M:Int) (c.bQ.length:Int)=some false:=XS
  cases o:hP c.cut rr m.b3
  .have Yn:c.n=c.n:=rfl;cases y with
   |dn bD du l qp jU=>
    have F:sK c (M:Int) 0 7 (c.less (M:Int)):=.inl ⟨rfl,.inr (.inr ⟨_,j,bD,du,l,qp,jU,u,o,T,G,rfl,rfl⟩)⟩;unfold bo.less at F;simp only[o,hr,ii]at Z;rw[T]at Z P;have hb:a8 .geq (j:Int) c.n=some false:=XS
    clear h;unfold bJ c9 dm;refine aB func39 λW=>?_;generalize bg _=D;refine IR λq nm=>?_;refine aa 12 ?_;all_goals exact⟨_,_,⟨{L with du:=q},_,0,7,F,rfl,rfl⟩,XC⟩
   |up p fX s1=>
    have E:=h.up _ _ _ _ G;have w:gQ m s1.n:=by rw[E.n];exact t
    have F (a:cO) (s2:aC) (J:Int) (R:mD s1 m J s2):sK c (M:Int) (j:Int) 0 {c.less (M:Int)with aS:=c.aS.set j (.up p a s2)}:=.inr ⟨j,p,fX,s1,m,a,s2,⟨_,J,u,o,T,G,rfl,bU,rfl,R⟩,rfl,rfl,rfl⟩;have g:=ar.Ul (Q:=λr (z:cO×aC×Int)=>mD s1 m z.2.2 z.2.1/\r=I z.2.2) (N:=λz=>.up p z.1 z.2.1) G (ar.post (acC p fX s1 m k E.y E.v E.dy w ac PZ LN) (by rintro v Y⟨s,cn,e,cm,rfl,rfl⟩;exact⟨_,⟨(s,cn,e),⟨cm,rfl⟩,rfl⟩,λ_ _ _ h=>h⟩));have i (s:gh) (a:cO) (s2:aC) (J:Int) (R:mD s1 m J s2):=x6 b s (c.less (M:Int)) (y:=.up p a s2) G R.bD rfl;unfold bo.less at F i;simp only[o,hr,ii]at Z;rw[T]at Z P;have hb:a8 .geq (j:Int) c.n=some false:=XS
    clear h E w;unfold bJ c9 dm;refine aB func39 λW=>?_;generalize bg _=D;refine IR λq nm=>?_;refine aa 5 ?_;refine ah.mt [0,6] (λz:cO×aC×Int=>mD s1 m z.2.2 z.2.1) (λz=>[]) (λz=>[e3 (c.aS.set j (.up p z.1 z.2.1)),cv]) (b:=[e3 c.aS,cv]) ?_ ?_
    .intro r P;refine ah.n' ?_ aA.j.j.j.j.j.d'.j.d';refine ae 6 0 ?_;refine af.i' 6 rfl (V.x' ad (k:=j) rfl rfl rfl rfl ac) ?_;refine ae 2 8 ?_;refine af.p' 7 rfl (aw.q' (V.RZ ad (f:=fR) rfl XB mF G) ?_);refine av ?_;refine af.o' 10 rfl rfl (g) ?_;rintro z s2⟨t,⟨⟨X,rfl⟩,rfl⟩⟩;refine aa 3 ?_;all_goals exact Out.t' P (_,_,_) XF trivial
    rintro⟨a,s2,J⟩ R;dsimp only at R;have x:=F a s2 J R;have P:=i {L with du:=q} a s2 J R;clear g F i Z Yk;refine bh ?_;refine aa 10 ?_;all_goals exact⟨_,_,⟨{L with du:=q},_,(j:Int),0,x,rfl,rfl⟩,(by unfold bJ c9 dm at P;dsimp only at P⊢;rw[P];(repeat(first|exact ak.nil|exact al.here|apply ak.cons|apply al.there)))⟩
  .have F:sK c (M:Int) 0 7 {c.less (M:Int)with lost:=c.lost+1}:=.inl ⟨rfl,.inr (.inl ⟨_,u,o,rfl,rfl⟩)⟩;unfold bo.less at F;simp only[o,hA]at Z;clear h;unfold bJ c9 dm;refine aB func39 λW=>?_;generalize bg _=D;refine aa 20 ?_;refine ai.v (V.cmp rfl rfl d) ?_;refine Jr ?_;refine aa 14 ?_;rintro _ _⟨q,rfl,rfl⟩;refine aq 4 λnm=>?_;refine aa 6 ?_;refine ah.n' ?_ aA.j.j.j.j.j.d'.j.d';refine ae 22 0 ?_;refine aa 12 ?_;all_goals exact⟨_,_,⟨{L with du:=q},_,0,7,F,rfl,rfl⟩,XC⟩
def afE(q:ab aP)(i:Nat)(G:Int)(d:aP):(sg q i G d).length<=q.length:=by
 unfold sg;split
 .rw[eX];omega
 .rw[b9,eX];omega
def Gq(b:Nat)(L:cO)(s:aC)(Q:s.aH.ok){U x:ab dY}(h:mG s.aH U x)(G:Int)(d:aP):ar prog 48 [au s.bD 0,I G,.int .u8 (d.toNat:Int)] (bX b L s) (λr Y=>∃z:aj×ab dY×ab aP×Int,((∃n,x=z.2.1++n)/\(fV z.2.2.1).2=0/\(b5 (U++z.2.1)++z.2.2.1).length<=65536/\z.2.2.2=((b5 (U++z.2.1)++z.2.2.1).length:Int)/\r=I 0)/\Y=[]++(c5.dn s.bD z.1 (U++z.2.1) z.2.2.1 z.2.2.2).es):=by
 obtain⟨E,n,bT,F,M,g⟩:=afT Q h G d;have C:=h.safe;have P:(b5 U).length<=s.aH.data.length:=by rw[h.data,pn,bM];omega
 have a:=af5 s.bD s.X.du s.aH.data (b5 U).length G d P Q.m9;have T:=afE s.aH.data (b5 U).length G d;have o:=Q.m9;rw[g]at a T;rw[<-C]at a;have j:∃K,ak (gF L.dC s.bD s.X s.aH) (fc s.bD s.X.du s.aH.data s.aH.safe) K:=⟨_,by unfold gF hJ fP fc;dsimp only[List.cons_append,List.nil_append];(repeat(first|exact ak.nil|exact al.here|apply ak.cons|apply al.there))⟩
 obtain⟨K,t⟩:=j;have m:∃q,ak (bX b L s) [fe L.dC s.bD s.X s.aH] q:=⟨_,Qz⟩
 obtain⟨q,p⟩:=m;have i:aL (bX b L s) (fc s.bD s.X.du s.aH.data s.aH.safe++(K++q)):=by refine(aL.RS p.perm).trans ?_;rw[<-cd];exact aL.append (aL.aI.trans (aL.RS t.perm)) (aL.refl q)
 refine ar.RR (ar.eqv i (ar.frame (bc:=K++q) a) (R:=_) λr Y h=>⟨Y,h,aL.refl _⟩) ?_;rintro v Y W D w⟨_,⟨u,rfl,rfl⟩,rfl⟩ f;refine⟨_,⟨(u,E,bT,((b5 (U++E)++bT).length:Int)),⟨⟨n,F⟩,M,X5,rfl,rfl⟩,rfl⟩,?_⟩;exact f.sub (Cr ..)
def mI(c:bo)(i:Int)(e:Int)(P:bo):Prop:=
 rB c i e P/\e≠0\/(∃j W R s1 m v s2,ul c i j W R s1 m v s2/\e=0/\kA {c.less i with aS:=c.aS.set j (.up W v s2)} j P)
def rB.cx{c P:bo}{i:Int}(h:cP k c)(v:rB c i e P):cP (k+1) P:=by
 have F:=h.lost;have K:=h.mono (iZ k 1);rcases v with⟨_,_,rfl⟩|⟨x,U,_,_,rfl⟩|⟨x,j,Q,u,l,a,W,U,_,_,_,_,rfl⟩
 .exact K
 exact Pj
 .exact⟨⟨⟨h.n,h.len⟩,h.cut,jk (xA ..) h.bQ,K.lost,K.told,K.now⟩,K.up,K.dn,λx U=>h.i2 x ((va ..).subset U)⟩
def cP.less{c:bo}(h:cP k c)(i:Int):cP k (c.less i):=
 ⟨⟨⟨h.n,h.len⟩,h.cut,jk (xA ..) h.bQ,h.lost,h.told,h.now⟩,h.up,h.dn,λx U=>h.i2 x ((va ..).subset U)⟩
def ul.z{c:bo}{i:Int}{j W:Nat}{R:cO}{s1:aC}{v:cO}{s2:aC}(h:cP k c)(o:ul c i j W R s1 m v s2):lJ (k+42300) j {c.less i with aS:=c.aS.set j (.up W v s2)}/\UpF (k+42300) c.n c.now j s2/\j0 (wj s1 m) s2.aH/\j<c.aS.length/\s2.bD=s1.bD:=by obtain⟨x,J,_,_,_,U,_,q,_,R⟩:=o;have F:=R.all (h.up _ _ _ _ U) (iY.1 q);exact⟨((((h.less i).z j).mono (iZ k 42300)).set (.up W v s2)),F.1,F.2,(cI.1 U).1,R.bD⟩
def mI.cx{c r:bo}{i:Int}(h:cP k c)(P:mI c i e r):cP (k+1042300) r:=by
 rcases P with⟨P,_⟩|⟨j,W,X,s1,m,v,s2,o,_,l⟩
 .exact(P.cx h).mono ac
 .obtain⟨w,R,_,p,_⟩:=o.z h;refine(l.cx w λb L s u=>?_).mono ac;have u:(c.aS.set j (.up W v s2))[j]?=_:=u;rw[oO p]at u;cases u;exact R
def rB.ne{c P:bo}{i:Int}(v:rB c i e P):e≠0:=by rcases v with⟨_,rfl,_⟩|⟨x,U,_,rfl,_⟩|⟨x,j,Q,u,l,a,W,U,_,_,_,rfl,_⟩<;>decide
def Gr(b:Nat)(L:gh)(c:bo)(i:Int)(k:Nat)(h:cP k c)(T:k<=90000000000):ar prog 21 [au b 0,I i] (bJ b L c) (λr Y=>∃n a e,mI c i e a/\r=I e/\Y=bJ b n a):=by
 have Z:=Gp b L c i k h T;refine aB func21 λW=>?_;generalize bg _=D;unfold bJ c9 dm;unfold bJ c9 dm at Z;refine aa 10 ?_;rintro _ _⟨N,z,g,K,Q,rfl,rfl⟩;refine aa 8 ?_;have P:sK c i g K z:=XF
 rcases P with⟨rfl,v⟩|⟨j,f,X,s1,m,y,s2,o,rfl,rfl,rfl⟩
 .have F:mI c i K z:=.inl ⟨v,v.ne⟩;have z:a8 .eql K 0=some false:=by simp[a8,v.ne]
  refine aa 4 ?_;refine ai.v (V.cmp rfl rfl z) ?_;refine aa 13 ?_;all_goals exact⟨_,_,⟨_,_,_,F,rfl,rfl⟩,XC⟩
 .obtain⟨w,R,_,p,_⟩:=o.z h;have L:=x7 b N {c.less i with aS:=c.aS.set j (.up f y s2)} (k+42300) j f y s2 w.toClP ac (by show(c.aS.set j _)[j]?=_;rw[oO p]) (by have:=R.ol;omega) (by have:=R.fi;omega);have F (a:bo) (l:kA {c.less i with aS:=c.aS.set j (.up f y s2)} j a):mI c i 0 a:=.inr ⟨j,f,X,s1,m,y,s2,o,rfl,l⟩;unfold bJ c9 dm at L;dsimp only at L⊢;refine aa 12 ?_;rintro x nc⟨t,⟨L,⟨⟨Q,p,s⟩,rfl,rfl⟩⟩⟩;refine aa 11 ?_;all_goals exact⟨_,_,⟨_,_,0,F _ XF,rfl,rfl⟩,XC⟩
def A8(C:bE->Prop)(n:Int)(l:ab dY)(bT:ab aP)(W:Int):Prop:=uk n l bT W/\∃t,C t/\t.n=n/\∀x,t.p.at x=(iG (aJ.new n) l).at x
def sL(c:bo)(i:Int)(e:Int)(P:bo):Prop:=
 rB c i e P/\e≠0\/(∃j W R s1 m v s2 u l bT f,ul c i j W R s1 m v s2/\e=0/\A8 (wj s1 m) c.n l bT f/\P={c.less i with aS:=c.aS.set j (.dn s1.bD u l bT f)})
def sL.cx{c r:bo}{i:Int}(h:cP k c)(P:sL c i e r):cP (k+1) r:=by
 rcases P with⟨P,_⟩|⟨j,W,R,s1,m,v,s2,u,l,bT,f,o,_,E,rfl⟩
 .exact P.cx h
 .obtain⟨_,_,_,p,_⟩:=o.z h;refine lJ.VB (X:=j) (((h.less i).mono (iZ k 1)).z j|>.set _) (Q:=s1.bD) (u:=u) (l:=l) (bT:=bT) (W:=f) ?_ E.1;show(c.aS.set j _)[j]?=_
  rw[oO p]
def Gs{s:bE}(h:j0 C s)(v:s.n=n):∃Y x,mG s Y x/\∀(q:ab dY) (bT:ab aP),(∃i,x=q++i)->(fV bT).2=0->(b5 (Y++q)++bT).length<=65536->∀W:Int,W=((b5 (Y++q)++bT).length:Int)->A8 C n (Y++q) bT W:=by subst v;obtain⟨Y,x,r,u⟩:=h;refine⟨Y,x,r,λq bT ⟨i,o⟩ p E W C=>⟨⟨λy G=>r.ok y ?_,p,E,C⟩,u q i o⟩⟩;rw[o,<-cd];exact qd _ G
def Pv(b:Nat)(L:gh)(c:bo)(i G:Int)(d:aP)(k:Nat)(h:cP k c)(Zxhk:k<=90000000000):ar Tryz.prog 26 [au b 0,I i,I G,.int .u8 (d.toNat:Int)] (bJ b L c) (λr Yc=>∃ZxL' Zxc' e,sL c i e Zxc'/\r=I e/\Yc=bJ b ZxL' Zxc'):=by
 have ZxhT:=Gp b L c i k h Zxhk;have Ye:=h.len;have Yk:=h.n;refine aB Tryz.func26 λW=>?_;generalize bg _=D;unfold bJ c9 dm;unfold bJ c9 dm at ZxhT;refine aa 10 ?_;rintro _ _⟨t,J,K,X,Yf,rfl,rfl⟩;refine aa 8 ?_;have Zxht:sK c i K X J:=by assumption
 rcases Zxht with⟨rfl,Zxhn⟩|⟨j,P,ZxL1,s1,m,p,s2,Zxha,rfl,rfl,rfl⟩
 .have F:sL c i X J:=.inl ⟨Zxhn,Zxhn.ne⟩;have Zxe0:a8 .eql X 0=some false:=by simp[a8,Zxhn.ne]
  refine aa 4 ?_;refine ai.v (V.cmp rfl rfl Zxe0) ?_;refine aa 13 ?_;all_goals exact⟨_,_,⟨_,_,_,F,rfl,rfl⟩,(by(repeat(first|exact ak.nil|exact al.here|apply ak.cons|apply al.there)))⟩
 .obtain⟨Zxhz,Zxhu,ZxhP,Zxhj,C⟩:=Zxha.z h;have Zxhx:c.aS[j]?=some (.up P ZxL1 s1):=by obtain⟨x,Zxe2,_,_,_,Zxhx,_⟩:=Zxha;exact Zxhx
  have M:(c.aS.set j (.up P p s2))[j]?=some (.up P p s2):=by rw[oO Zxhj]
  obtain⟨Y,Zxl1,Yn,g⟩:=Gs ZxhP (Zxhu.y.eF.trans Zxhu.n);have E:=ar.Tv (Q:=λr (z:aj×ab dY×ab aP×Int)=>(∃s,Zxl1=z.2.1++s)/\(fV z.2.2.1).2=0/\(b5 (Y++z.2.1)++z.2.2.1).length<=65536/\z.2.2.2=((b5 (Y++z.2.1)++z.2.2.1).length:Int)/\r=I 0) (T:=λ_=>[]) (N:=λz=>.dn s2.bD z.1 (Y++z.2.1) z.2.2.1 z.2.2.2) M (Gq P p s2 Zxhu.y.aH Yn G d);have F (z:aj×ab dY×ab aP×Int) (Zxhr:∃s,Zxl1=z.2.1++s) (Zxho:(fV z.2.2.1).2=0) (Zxhl:(b5 (Y++z.2.1)++z.2.2.1).length<=65536) (Yl:z.2.2.2=((b5 (Y++z.2.1)++z.2.2.1).length:Int)):sL c i 0 {c.less i with aS:=c.aS.set j (.dn s1.bD z.1 (Y++z.2.1) z.2.2.1 z.2.2.2)}:=.inr ⟨j,P,ZxL1,s1,m,p,s2,_,_,_,_,Zxha,rfl,g _ _ Zxhr Zxho Zxhl _ Yl,rfl⟩;rw[<-C]at F;have R:(c.aS.set j (c5.up P p s2)).length=c.aS.length:=b9 ..;have q (v:aj):rows fL v 112 1 (c.aS.set j (.up P p s2))=rows fL v 112 1 c.aS:=uj (f:=fL) Zxhx (by unfold fL;rw[show(c5.up P p s2).bD=s2.bD from rfl,C];rfl);have U (v:aj) (w:aj) (l:ab dY) (Zxjk:ab aP) (Zxsf:Int):rows fL v 112 1 (c.aS.set j (.dn s2.bD w l Zxjk Zxsf))=rows fL v 112 1 c.aS:=uj (f:=fL) Zxhx (by unfold fL;rw[show(c5.dn s2.bD w l Zxjk Zxsf).bD=s2.bD from rfl,C];rfl);have Yr:(fL (.up P p s2)).length=1:=rfl;clear ZxhT;simp only[Gt]at E;generalize Yi:c.aS.set j (c5.up P p s2)=Zxrs at*;have Z (y:c5):Zxrs.set j y=c.aS.set j y:=by rw[<-Yi,Gt]
  have Ym:Zxrs.length=c.aS.length:=R;dsimp only at E⊢;refine aa 15 ?_;refine ai.v (V.x' ad (k:=j) rfl rfl rfl rfl (by omega)) ?_;refine ai.v (V.RZ ad (f:=fL) rfl (by(repeat first|exact aE _|apply aF)) A0 M) ?_;refine aa 3 ?_;rintro Zxv4 Zxs5⟨Yo,⟨⟨⟨Yq,Yf⟩,Yg,M,Yj,rfl⟩,rfl⟩⟩;refine aa 3 ?_;obtain⟨Zxz1,Zxz2,Zxz3,Zxz4⟩:=Yo;have u:=F (Zxz1,Zxz2,Zxz3,Zxz4) ⟨_,by assumption⟩ (by assumption) (by assumption) (by assumption);have Yh (v:aj):=U v Zxz1 (Y++Zxz2) Zxz3 Zxz4;have Yp:=Z (.dn s2.bD Zxz1 (Y++Zxz2) Zxz3 Zxz4);dsimp only at u⊢;clear F E U Z g;refine aa 6 ?_;refine ai.v (V.x' ad (k:=j) rfl rfl rfl rfl (by omega)) ?_;refine ai.o (O.S4 ad (f:=fR) (a:=c5.dn s2.bD Zxz1 (Y++Zxz2) Zxz3 Zxz4) rfl rfl rfl rfl (by repeat first|exact az.here _ _ _|apply az.there) rfl (by omega) mF ?_);refine aa 10 ?_;all_goals exact⟨_,_,⟨t,_,0,u,rfl,rfl⟩,(by dsimp only;simp only[b9,Ym,q,Yh,Yp];(repeat(first|exact ak.nil|exact al.here|apply ak.cons|apply al.there)))⟩
end Go.Proofs.YteogojgnkjegmaaGreatDoor
