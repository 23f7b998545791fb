/-
 Part of the proof.
-/
import Derived.Test.YteogojgnkjegmaaGreatDoorAi
set_option linter.all false
set_option maxRecDepth 8000
set_option maxHeartbeats 8000000
namespace Go.Proofs.YteogojgnkjegmaaGreatDoor
open Go.ay Go.Proofs.Tryz
def oH(v:ab (ab aS)):ab aS:=v.flatMap gL
def BO{t:ab aS}(h:t.length<=16384):5<=(gL t).length/\(gL t).length<=t.length+13:=by have Y:1<=(bG (t.length:Int)).length:=Bu _;have N:=fU (n:=(t.length:Int)) ac;rw[gL,aM ac];simp only[b2,iu,dD,gv];omega
def Gg{t:ab aS}(j:t.length<=16384)(i:ab aS):gE (gL t++i)=(t,((gL t).length:Int)):=by
 have G:=xi t.length 0 0 (iu (iv (bG (t.length:Int)++t))++(t++i)) (by
  have:(128:Nat)^(9-0)=9223372036854775808:=T6
  omega) (.inr rfl)
 have Q:gL t++i=fA t.length++(iu (iv (bG (t.length:Int)++t))++(t++i)):=R9
 have T:(gL t).length=(fA t.length).length+4+t.length:=by rw[gL,aM ac,bG,i3];simp only[b2,iu,dD,gv]
 have Z:(iu (iv (bG (t.length:Int)++t))).length=4:=rfl;have w:(iu (iv (bG (t.length:Int)++t))++(t++i)).drop 4=t++i:=List.drop_left' Z;have k:(iu (iv (bG (t.length:Int)++t))++(t++i)).take 4=iu (iv (bG (t.length:Int)++t)):=BP Z;unfold gE;rw[Q,G];simp only[h8,BQ,pd,w,k,ql];rw[aM ac,aM (by simp only[b2,Z];omega)];rw[aQ trivial,T];congr 2;simp only[b2,Z];omega
def j3:Nat->ab (ab aS)->ab (Nat×ab aS)
 |_,[]=>[]
 |i,t::v=>(i+(gL t).length,t)::j3 (i+(gL t).length) v
def zi(t:ab aS)(v:ab (ab aS)):oH (t::v)=gL t++oH v:=by simp[oH]
def aic{v:ab (ab aS)}(h:∀t,t∈v->t.length<=16384):5*v.length<=(oH v).length:=by
 induction v with
 |nil=>simp
 |cons t v d=>
  have Y:=BO (h t T3);have N:=d λx U=>h x Lw;rw[zi,b2,dD];omega
def zj{a b:Nat}(h:a^^^b=0):a=b:=by
 have:a^^^b^^^b=0^^^b:=by rw[h]
 rwa[qC,xv,Nat.xor_zero,Nat.zero_xor]at this
def MB(a b:Nat):mG (a^^^b)=mG a^^^mG b:=by
 have h:=FG a b;unfold mG;rw[FF];by_cases K:a%2=1
 .by_cases X:b%2=1
  .rw[aM ac,aQ K,aQ X];rw[qC,BD rz,qC,xv,Nat.xor_zero]
  .rw[aQ ac,aQ K,aM X,qC,qC,BD rz]
 .by_cases X:b%2=1
  .rw[aQ ac,aM K,aQ X,qC]
  .rw[aM ac,aM K,aM X]
def tR(a b:Nat):∀k,gZ k (a^^^b)=gZ k a^^^gZ k b
 |0=>rfl
 |k+1=>by rw[gZ,gZ,gZ,tR a b k,MB]
def MC{d:Nat}(w:d<4294967296)(h:mG d=0):d=0:=by
 unfold mG at h;split at h
 .have:=zj h;unfold rz at this;omega
 .omega
def BR{d:Nat}(w:d<4294967296):∀k,gZ k d=0->d=0
 |0,h=>h
 |k+1,h=>BR w k (MC (y7 w k) h)
def ain(k:Nat)(c:Nat):gZ k (mG c)=mG (gZ k c):=by
 induction k with
 |zero=>rfl
 |succ k d=>rw[gZ,gZ,d]
def Gh(y:Nat):∀k,gZ k (2^k*y)=y
 |0=>by simp[gZ]
 |k+1=>by
  have Y:2^(k+1)*y=2*(2^k*y):=by rw[xd,BC (2^k) 2,Nat.mul_assoc]
  have N:mG (2*(2^k*y))=2^k*y:=by unfold mG;rw[aM ac];omega
  rw[gZ,<-ain,Y,N,Gh y k]
def ajF(j k c:Nat):gZ (j+k) c=gZ j (gZ k c):=by
 induction j with
 |zero=>rw[h8];rfl
 |succ j d=>rw[Nat.succ_add,gZ,d,gZ]
def l7:ab aS->ab aS->Nat
 |x::s,y::t=>(x.toNat^^^y.toNat)^^^(256*l7 s t)
 |_,_=>0
def Gi:∀s,l7 s s=0
 |[]=>rfl
 |x::s=>by rw[l7,xv,Gi s];rfl
def Gj(x y:aS):x.toNat^^^y.toNat<256:=FH (n:=8) x.toNat_lt y.toNat_lt
def Gk:∀(s t:ab aS),s.length=t.length->l7 s t=0->s=t
 |[],[],_,_=>rfl
 |[],_::_,h,_=>Uj
 |_::_,[],h,_=>Uj
 |x::s,y::t,T,h=>by
  have Y:=zj h;have N:=Gj x y;have R:x.toNat^^^y.toNat=0:=ac
  have Z:l7 s t=0:=ac
  rw[Gk s t (by simpa using T) Z,UInt8.toNat_inj.1 (zj R)]
def Gl:∀(s t:ab aS) (n:Nat),s.length<=n->l7 s t<2^(8*n)
 |[],t,n,_=>by
  have:l7 [] t=0:=by cases t<;>rfl
  rw[this];exact Nat.two_pow_pos _
 |_::_,[],n,_=>Nat.two_pow_pos _
 |x::s,y::t,0,h=>Uj
 |x::s,y::t,n+1,h=>by
  have Y:=Gl s t n Ub;have N:=Gj x y;have R:2^(8*(n+1))=256*2^(8*n):=by rw[Nat.mul_add,Nat.pow_add,BC]
  have Z:0<2^(8*n):=Nat.two_pow_pos _;rw[l7];exact FH ac ac
def BS:∀(s t:ab aS) (c d:Nat),s.length=t.length->iS c s^^^iS d t=gZ (8*s.length) ((c^^^d)^^^l7 s t)
 |[],[],c,d,_=>by simp[iS,l7,gZ]
 |[],_::_,_,_,h=>Uj
 |_::_,[],_,_,h=>Uj
 |x::s,y::t,c,d,T=>by
  have o:=BS s t (mH c x.toNat) (mH d y.toNat) (by simpa using T);have b:iS c (x::s)=iS (mH c x.toNat) s:=rfl;have Y:iS d (y::t)=iS (mH d y.toNat) t:=rfl;have z:=Gh (l7 s t) 8;have N:mH c x.toNat^^^mH d y.toNat^^^l7 s t=gZ 8 ((c^^^d)^^^((x.toNat^^^y.toNat)^^^(256*l7 s t))):=by rw[tR,tR _ (256*l7 s t),show 256*l7 s t=2^8*l7 s t from rfl,z,mH,mH,tR,tR,tR,tR];simp only[qC];congr 1;rw[<-qC (gZ 8 x.toNat),BD (gZ 8 x.toNat),qC]
  rw[b,Y,o,N,l7,dD,Nat.mul_add,ajF]
def afX{c d:Nat}(q:c<4294967296)(w:d<4294967296){s:ab aS}(h:iS c s=iS d s):c=d:=by have:=BS s s c d rfl;rw[h,xv,Gi,Nat.xor_zero]at this;exact zj (BR (xg q w) _ this.symm)
def MG{c:Nat}(q:c<4294967296)(a b s t:ab aS)(T:s.length=t.length)(Z:s.length<=4)(u:s≠t):iS c (a++s++b)≠iS c (a++t++b):=by intro h;rw[xh,xh,xh c (a++t),xh c a t]at h;have E:=tK q a;have Y:=afX (tK E s) (tK E t) h;have N:=BS s t (iS c a) (iS c a) T;rw[Y,xv,xv,Nat.zero_xor]at N;exact u (Gk s t T (BR (Gl s t 4 Z) _ N.symm))
def ajU{a b:Nat}(K:a<4294967296)(X:b<4294967296)(h:iu a=iu b):a=b:=by
 simp only[iu,re,mw]at h;obtain⟨o,Y,N,R⟩:=h;have e:∀{x y:Nat},UInt8.ofNat x=UInt8.ofNat y->x%256=y%256:=λ{x y} h=>by have:=dp UInt8.toNat h;simpa using this
 have:=e o;have:=e Y;have:=e N;have:=e R;omega
def afQ{n:Nat}(a:n<=16384){f t:ab aS}(k:f.length=4)(j:t.length=n)(T:iu (iv (bG (n:Int)++t))≠f):gE (bG (n:Int)++(f++t))=([],0):=by
 have G:=xi n 0 0 (f++t) (by
  have:(128:Nat)^(9-0)=9223372036854775808:=T6
  omega) (.inr rfl)
 have w:(f++t).drop 4=t:=List.drop_left' k;have h:(f++t).take 4=f:=BP k;have e:bG (n:Int)=fA n:=by rw[bG,i3]
 unfold gE;rw[e,G];simp only[h8,BQ,pd,w,h];rw[aM ac,aM (by rw[b2];omega),k8 ac];rw[aM T]
def ajM(n:Nat):∀(i acc j:Nat),j<(fA n).length->iR ((fA n).take j) i acc=none:=by
 induction n using Nat.strongRecOn with
 |_ n d=>
  intro i acc j y;cases j with
  |zero=>rfl
  |succ j=>
   by_cases T:n<128
   .rw[pg T]at y;simp at y
   .rw[pQ T]at y⊢;rw[vf,iR];split
    .rfl
    .have:(UInt8.ofNat (128+n%128)).toNat=128+n%128:=by simp;omega
     rw[aM ac];exact d (n/128) ac _ _ _ (by simpa using y)
def agH{t:ab aS}(j:t.length<=16384){k:Nat}(u:k<(gL t).length):gE ((gL t).take k)=([],0):=by
 have Q:gL t=fA t.length++(iu (iv (bG (t.length:Int)++t))++t):=R9
 have T:(gL t).length=(fA t.length).length+4+t.length:=by rw[Q];simp only[b2,iu,dD,gv];omega
 unfold gE;by_cases h:k<(fA t.length).length
 .rw[Q,o7 ac,ajM _ _ _ _ h]
 .have e:(gL t).take k=fA t.length++(iu (iv (bG (t.length:Int)++t))++t).take (k-(fA t.length).length):=by rw[Q,sj,k8 ac]
  have G:=xi t.length 0 0 ((iu (iv (bG (t.length:Int)++t))++t).take (k-(fA t.length).length)) (by
   have:(128:Nat)^(9-0)=9223372036854775808:=T6
   omega) (.inr rfl)
  rw[e,G];simp only[h8,BQ,pd];rw[aM ac,aQ Mt]
def ags(n:Nat)(z:aS):∀(i acc j:Nat),j<(fA n).length->iR ((fA n).take j++[z]) i acc=none\/∃v,iR ((fA n).take j++[z]) i acc=some (v,[]):=by
 induction n using Nat.strongRecOn with
 |_ n d=>
  intro i acc j y;cases j with
  |zero=>
   rw[wR,gJ,iR];split
   .exact .inl rfl
   .split
    .split
     .exact .inl rfl
     .exact .inr ⟨_,rfl⟩
    .rw[iR];exact .inl rfl
  |succ j=>
   by_cases T:n<128
   .rw[pg T]at y;simp at y
   .rw[pQ T]at y⊢;rw[vf,ly,iR];split
    .exact .inl rfl
    .have:(UInt8.ofNat (128+n%128)).toNat=128+n%128:=by simp;omega
     rw[aM ac];exact d (n/128) ac _ _ _ (by simpa using y)
theorem Gm{t:ab aS}(r:t.length<=16384)(o:0<t.length){k:Nat}(u:k<(gL t).length)(z:aS)(w:k+1<(gL t).length\/(gL t)[k]?≠some z):gE ((gL t).take k++[z])=([],0):=by
 have l:bG (t.length:Int)=fA t.length:=by rw[bG,i3]
 have P:(iu (iv (bG (t.length:Int)++t))).length=4:=rfl;have Q:gL t=fA t.length++(iu (iv (bG (t.length:Int)++t))++t):=by rw[gL,aM ac,l];simp only[cn]
 have T:(gL t).length=(fA t.length).length+(4+t.length):=by rw[Q,b2,b2,P]
 by_cases h:k<(fA t.length).length
 .rw[Q,o7 ac];unfold gE;rcases ags t.length z 0 0 k h with e|⟨v,e⟩<;>rw[e];dsimp only;split
  .rfl
  .rw[aQ (by simp only[gv];omega)]
 .obtain⟨j,rfl⟩:∃j,k=(fA t.length).length+j:=⟨k-(fA t.length).length,ac⟩
  have f:∀M:ab aS,(fA t.length++M).take ((fA t.length).length+j)=fA t.length++M.take j:=λM=>Fp ..;by_cases y:j+1<4+t.length
  .rw[Q,f,cn];generalize v:iu (iv (bG (t.length:Int)++t))++t=M;have a:M.length=4+t.length:=by rw[<-v,b2,P]
   have G:=xi t.length 0 0 (M.take j++[z]) (by
    have:(128:Nat)^(9-0)=9223372036854775808:=T6
    omega) (.inr rfl)
   unfold gE;rw[G];simp only[h8,BQ,pd];rw[aM ac,aQ (by rw[b2,fp,dD,gv];omega)]
  .obtain⟨m,y,u⟩:∃m y,t=m++[y]:=⟨t.dropLast,t.getLast (by intro e;rw[e]at o;simp at o),(List.dropLast_concat_getLast _).symm⟩
   have n:t.length=m.length+1:=by rw[u];simp
   have s:j=4+m.length:=ac
   have k:y≠z:=by
    rcases w with w|w
    .omega
    .intro e;apply w;rw[Q,ji ac,show(fA t.length).length+j-(fA t.length).length=j by omega,ji ac,P,show j-4=m.length by omega,u,<-e];simp
   have c:(iu (iv (bG (t.length:Int)++t))++t).take j=iu (iv (bG (t.length:Int)++t))++m:=by
    rw[sj,k8 ac,P,show j-4=m.length by omega];congr 1;conv=>lhs;rw[u]
    exact BP rfl
   rw[Q,f,c,cn,cn,<-l];refine afQ r P Ui ?_;intro j;have Y:=ajU (FK _) (FK _) j;obtain⟨L,v⟩:∃L,bG (t.length:Int)=L:=⟨_,rfl⟩
   rw[v]at Y;have X:=MG (c:=4294967295) T6 (L++m) [] [y] [z] rfl T3 (by simpa using k);apply X;have E:=tK (c:=4294967295) T6 (L++m++[y]++[]);have i:=tK (c:=4294967295) T6 (L++m++[z]++[]);have U:L++t=L++m++[y]++[]:=by rw[u];simp
   have P:L++(m++[z])=L++m++[z]++[]:=T3
   rw[U,P]at Y;unfold iv at Y;omega
end Go.Proofs.YteogojgnkjegmaaGreatDoor
namespace Go.Proofs.YteogojgnkjegmaaGreatDoor
open Go.ay Go.Proofs.Tryz
variable[Go.ay.b4]
variable{n:Int}{m:aD}
def hy:c3 m n=true↔hx m n:=by unfold c3;exact@decide_eq_true_iff _ (Classical.propDecidable _)
def xw(a:n<=7)(h:hx m n):(hZ m).length<=500:=by
 have P:=h.gF;have Q:=h.g2;have j:=h.f2;have b:=h.t2;have E:=fU (n:=m.Kind) ac;have i:=fU (n:=m.bh) ac;have J:=fU (n:=m.bK) ac;have t:=BN h.item ac;have Y:=vw h.bj ac;have l:(lD m).length<=9:=by
  unfold lD;split
  .exact fU PJ
  .simp
 have s:(nI m).length<=27:=by
  unfold nI;split
  .rename_i u;obtain⟨f,Z,w,k⟩:=h.known u;have:=vw f ac;have:=fU (n:=m.Status) ac;rw[b2];omega
  .simp
 have g:(kR m).length<=300:=by
  unfold kR;split
  .rename_i u;have:=h.call;rw[aQ u]at this;exact zb this
  .simp
 unfold hZ;simp only[b2];omega
def gM(m:aD):ab aS:=gL (hZ m)
def acK(m:aD)(n:Int)(a:n<=7):ar prog 88 [A m.c,I n] [cJ] (λr J=>r=(if c3 m n=true then .tuple #[S (gM m),I 0]else .tuple #[S [],I 1])/\J=[cJ]):=by
 have x:=zg m n;by_cases G:c3 m n=true
 .rw[G]at x;rw[aQ G];have T:=xw a (hy.1 G);have T (b:Nat) (v:aj):=Mu b v m n a (hy.1 G);unfold gM;refine aE func88 λW=>?_;refine aa 2 ?_;refine ai.o (O.VH dt 5 1 rfl (λp=>?_));refine aa 24 ?_;refine ai.o (O.VH dt 5 1 rfl (λL=>?_));refine aa 7 ?_;refine ai.p' rfl (T _ _) ?_;refine RF λr=>?_;exact aP 6
 .rw[aM G];rw[show c3 m n=false by simpa using G]at x;refine aE func88 λW=>?_;refine aq 2 λp=>?_;exact aP 28
def ahN(a:n<=7)(h:hx m n):5<=(gM m).length/\(gM m).length<=600:=by have:=xw a h;have:=BO (t:=hZ m) ac;unfold gM;omega
def MN(m:aD)(n:Int)(a:n<=7)(h:hx m n):ar prog 92 [S (gM m),I n] [cJ] (λr J=>r=.tuple #[A m.c,I 0]/\J=[cJ]):=by have x:=zg m n;rw[hy.2 h]at x;have T:=xw a h;have v:=ahN a h;have r:=FQ (gM m) ac;have Q:=Gg (t:=hZ m) ac [];rw[dT]at Q;have x:gE (gM m)=(hZ m,((gM m).length:Int)):=Q;rw[x]at r;have T (b:Nat):=aia b m n a h;refine aE func92 λW=>?_;refine aq 2 λZ=>?_;refine aa 28 ?_;refine ah.c (λE=>?_) (λE=>?_);exact lz E;replace E:=gD E;refine aa 5 ?_;refine ai.p' rfl (sJ _) ?_;rintro _ _⟨w,rfl,rfl⟩;refine aa 7 ?_;refine ai.p' rfl (T _) ?_;refine aq 1 λt=>?_;refine aa 7 ?_;refine ai.p' rfl (Fz _ _) ?_;exact aP 27
def eW(i:aX)(n:Int):Bool:=
 cH i.bO n&&(cH i.b0 n&&(decide (0<=i.Status)&&(decide (i.Status<=3)&&(eJ i.Call n&&(decide (i.Status≠0)||decide (i={aX.z with bO:=i.bO}))))))
def Gn(i:aX)(n:Int):dr prog 206 [A i.c,I n] (B (eW i n)):=by
 have X:=y0 i.bO n;have L:=y0 i.b0 n;have q:=FZ i.Call n;refine aE func206 λW=>?_;refine aq 2 λp=>?_;refine aa 12 ?_;refine ai.aY (λh=>?_) (λh=>?_);refine aa 34 ?_
 exact NT
 refine aa 7 ?_;refine ai.aY (λx=>?_) (λx=>?_);refine aa 27 ?_
 exact NT
 refine T0 (λY=>?_) λY=>?_;refine aa 22 ?_
 exact NT
 refine T0 (λU=>?_) λU=>?_;refine aa 17 ?_
 exact NT
 refine aa 8 ?_;refine Pr (λJ=>?_) λJ=>?_
 exact NT
 refine aa 8 ?_;refine Qx (λZ=>?_) λZ=>?_
 exact NT
 refine aa 4 ?_;refine ai.v (V.eq (aX.R' _ _ _)) ?_;refine aa 6 ?_
 exact NT
def mJ{i:aX}(h:eW i n=true):cH i.bO n=true/\cH i.b0 n=true/\0<=i.Status/\i.Status<=3/\eJ i.Call n=true/\(i.Status=0->i={aX.z with bO:=i.bO}):=by simp only[eW,c5,iL,dl]at h;exact⟨h.1,h.2.1,h.2.2.1,h.2.2.2.1,h.2.2.2.2.1,λo=>h.2.2.2.2.2.resolve_left (λY=>Y o)⟩
def l8(x:ag)(i:aX):ab aS:=jJ x++(ie i.bO++(ie i.b0++(bG i.Status++(bG (if i.cL then 1 else 0)++j2 i.Call))))
def fV(x:ag)(i:aX):ab aS:=gL (l8 x i)
def xx(h:n<=1099511627776):(bG n).length<=6:=Bt 5 _ ac
def vy{b:bm}(h:cH b n=true)(a:n<=7):(ie b).length<=7:=by obtain⟨Y,N,R,Z⟩:=kn h;have E:=xx (n:=b.Round) ac;have i:=nG (n:=b.a1) ac;unfold ie;rw[b2];omega
def BT{x:ag}(h:bq x n=true)(a:n<=7):(jJ x).length<=2:=by obtain⟨Y,N,R,Z⟩:=tQ h;have E:=nG (n:=x.bT) ac;have i:=nG (n:=x.a1) ac;unfold jJ;rw[b2];omega
def BU{c:aN}(h:eJ c n=true):(j2 c).length<=82:=by obtain⟨Y,N,R,Z⟩:=oD h;obtain⟨i,C,j,W,M,T,r,b,l,Q⟩:=sL Y;have E:=nG (n:=c.cv.Kind) ac;have i:=nG (n:=(c.cv.Key.length:Int)) ac;have J:=nG (n:=(c.cv.Value.length:Int)) ac;have f:=xx (n:=c.cv.Version) ac;have Y:=xx (n:=c.cv.cP) ac;have b:=xx (n:=c.cv.Number) ac;have i:=za N;have g:=xx (n:=c.Seq) ac;unfold j2 oC;simp only[b2];omega
theorem zk{x:ag}{i:aX}(a:n<=7)(U:bq x n=true)(ao:eW i n=true):0<(l8 x i).length/\(l8 x i).length<=100:=by obtain⟨Y,N,R,Z,p,M⟩:=mJ ao;have Q:=BT U a;have E:=vy Y a;have l:=vy N a;have J:=nG (n:=i.Status) ac;have f:=nG (n:=if i.cL then 1 else 0) Ki;have Y:=BU p;have b:=Bv i.Status;unfold l8;simp only[b2];omega
def xy{x:ag}{i:aX}(a:n<=7)(U:bq x n=true)(ao:eW i n=true):5<=(fV x i).length/\(fV x i).length<=105:=by have h:=zk a U ao;unfold fV;rw[gL,aM ac];have E:=nG (n:=((l8 x i).length:Int)) ac;have l:=Bv ((l8 x i).length:Int);simp only[b2,iu,dD,gv];omega
def Gp(x:ag)(i:aX)(n:Int)(a:n<=7)(U:bq x n=true)(ao:eW i n=true):dr prog 278 [A x.c,A i.c] (S (fV x i)):=by
 obtain⟨Y,N,R,Z,p,M⟩:=mJ ao;obtain⟨q,b,k,X⟩:=tQ U;obtain⟨h,F,C,g⟩:=kn Y;obtain⟨J,s,u,m⟩:=kn N;have Q:=BT U a;have E:=vy Y a;have l:=vy N a;have K:=nG (n:=i.Status) ac;have f:=nG (n:=if i.cL then 1 else 0) Ki;have Y:=BU p;have l:=zk a U ao;have T (b:Nat) (v:aj) (K:ab aS) (F:K.length<=600000):=zc b v K i.Call n p F;have e:l8 x i=[]++jJ x++ie i.bO++ie i.b0++bG i.Status++bG (if i.cL then 1 else 0)++j2 i.Call:=by simp only[l8,cn,gJ]
 unfold fV;rw[e]at l⊢;refine aE func278 λW=>?_;refine aa 2 ?_;refine ai.o (O.VH dt 5 1 rfl (λp=>?_));refine ai.o (O.VH dt 5 1 rfl (λm=>?_));refine aa 6 ?_;refine ai.o (O.VH dt 5 1 rfl (λu=>?_));refine aa 7 ?_;refine ai.p' rfl (xk _ _ _ _ ?_ ?_ ?_) ?_;iterate 3 exact cf
 rintro _ _⟨Q,rfl,rfl⟩;refine aa 8 ?_;refine ai.p' rfl (tL _ _ _ _ ?_ ?_ ?_) ?_;iterate 3 exact cf
 rintro _ _⟨L,rfl,rfl⟩;refine aa 8 ?_;refine ai.p' rfl (tL _ _ _ _ ?_ ?_ ?_) ?_;iterate 3 exact cf
 rintro _ _⟨v,rfl,rfl⟩;refine aq 8 λb=>?_;refine ai.p' rfl (qB _ _ _ _ _ ?_ ?_) ?_;iterate 2 exact cf
 rintro _ _⟨w,rfl,rfl⟩;refine aa 8 ?_;refine ai.p' rfl (Bz _ _ _ _ ?_) ?_;exact cf;rintro _ _⟨U,rfl,rfl⟩;refine aa 8 ?_;refine ai.p' rfl (T _ _ _ ?_) ?_;exact cf;refine RF λK=>?_;exact aP 5
def MO(x:ag)(i:aX)(n:Int)(a:n<=7)(U:bq x n=true)(ao:eW i n=true):dr prog 142 [S (l8 x i),I n] (.tuple #[A x.c,A i.c,B true]):=by
 obtain⟨Y,N,R,Z,p,M⟩:=mJ ao;have Q:=BT U a;have E:=vy Y a;have l:=vy N a;have J:=nG (n:=i.Status) ac;have f:=nG (n:=if i.cL then 1 else 0) Ki;have J:=BU p;have b:=m7 x n;rw[U]at b;have J:=Gn i n;rw[ao]at J;have y:=pS U a;have u:=pT Y a;have l:=pT N a;have T (b:Nat) (l:ab aS) (f:l.length<=1000000):=zd b i.Call n l p f;have e:l8 x i=jJ x++(ie i.bO++(ie i.b0++(bG i.Status++(bG (if i.cL then 1 else 0)++(j2 i.Call++[]))))):=by simp only[l8,dT]
 rw[e];refine aE func142 λW=>?_;refine aq 2 λZ=>?_;refine aq 0 λg=>?_;refine aa 6 ?_;refine ai.p' rfl (sJ _) ?_;rintro _ _⟨p,rfl,rfl⟩;refine aa 7 ?_;refine ai.p' rfl (xl _ _ _ ?_ ?_) ?_;iterate 2 exact cf
 refine aq 1 λn=>?_;refine aa 6 ?_;refine ai.p' rfl (tM _ _ _ ?_ ?_) ?_;iterate 2 exact cf
 refine aa 2 ?_;refine ai.p' rfl (tM _ _ _ ?_ ?_) ?_;iterate 2 exact cf
 refine aa 2 ?_;refine ai.p' rfl (jp _ _ _ _ ?_ ?_ ?_ ?_) ?_;iterate 4 exact cf
 refine aa 2 ?_;refine ai.p' rfl (BL _ _ _ ?_) ?_;exact cf;refine aa 2 ?_;refine ai.p' rfl (T _ _ ?_) ?_;exact cf;refine aq 2 λt=>?_;refine aa 4 ?_;refine ah.n' ?_ aB.j.j.d'.j.d';refine ae 3 0 ?_;refine af.p' 3 rfl rfl (Fz _ _) ?_;refine aa 2 ?_;refine ae 13 4 ?_;refine aa 3 ?_;refine Out.f3 rfl (e1.VB ad) (e1.VB ad) e1.t ⟨?_,rfl⟩;exact rfl
end Go.Proofs.YteogojgnkjegmaaGreatDoor
namespace Go.Proofs.YteogojgnkjegmaaGreatDoor
open Go.ay Go.Proofs.Tryz
def rD(x:aS):(dt x).length=1:=rfl
def fC(b:Nat)(v:aj)(a:ab aS)(X:Int):ab ax:=[cells b 156 (lA.c ⟨v,X⟩),ej dt v 5 1 a]
def MP:ar prog 46 [] [] (λr J=>∃b v,r=aw b 0/\J=fC b v [] 0):=by
 unfold fC;refine aE func46 λW=>?_;refine ah.Ur dt 5 1 ?_;refine ah.toX ?_;refine aq 8 λp=>?_;refine aa 5 ?_
 .exact⟨_,_,⟨_,.slice none 0 0,rfl,rfl⟩,Uc⟩
def MQ(b:Nat)(v:aj)(a:ab aS)(X:Int):ar prog 279 [aw b 0] (fC b v a X) (λr J=>r=I (a.length:Int)/\J=fC b v a X):=by unfold fC;refine aE func279 λW=>?_;refine ah.fact (sG (f:=dt) (v:=v) (l:=a) rD OR) λL=>?_;obtain⟨m,E,K,off,rfl,q,t⟩:=L;exact aP 27
def MR(b:Nat)(v:aj)(a:ab aS)(X:Int):ar prog 140 [aw b 0] (fC b v a X) (λr J=>r=S a/\J=fC b v a X):=by unfold fC;refine aE func140 λW=>?_;refine ah.fact (sG (f:=dt) (v:=v) (l:=a) rD OR) λL=>?_;obtain⟨m,E,K,off,rfl,q,t⟩:=L;refine aa 21 ?_;refine ai.v (V.aa2 ad rfl t OR) ?_;exact aP 5
def afu(b:Nat)(v:aj)(a:ab aS)(X:Int):ar prog 189 [aw b 0] (fC b v a X) (λr J=>r=I 0/\J=fC b v a a.length):=by unfold fC;refine aE func189 λW=>?_;refine ah.fact (sG (f:=dt) (v:=v) (l:=a) rD OR) λL=>?_;obtain⟨m,E,K,off,rfl,q,t⟩:=L;exact aP 35
def Gq(b:Nat)(v:aj)(a:ab aS)(X:Int)(s:ab aS):ar prog 144 [aw b 0,S s] (fC b v a X) (λr J=>(65536<s.length/\r=I 6/\J=fC b v a X)\/(s.length<=65536/\∃t,r=I 0/\J=fC b t s s.length)):=by
 unfold fC;by_cases Q:65536<s.length
 .refine aE func144 λW=>?_;refine aa 33 ?_
  .exact⟨_,_,.inl ⟨Q,rfl,rfl⟩,Uc⟩
 .refine aE func144 λW=>?_;refine aa 32 ?_;refine ai.o (av.aa1 ad rfl (λp y=>?_) ac);refine aa 17 ?_
  .exact⟨_,_,.inr ⟨ac,_,rfl,rfl⟩,Uc⟩
def MT(b:Nat)(v:aj)(a:ab aS)(T:Int)(s:ab aS)(e:ax)(n:aT Go.Addr)(E X off:Nat)(t:Rd e n 1 X off 1 [[S s]])(w:a.length<=65536)(Q:s.length<=1000000):ar prog 281 [aw b 0,.slice n 1 E] (fC b v a T++[e]) (λr J=>(65536<a.length+s.length/\r=I 6/\J=fC b v a T++[e])\/(a.length+s.length<=65536/\∃g,r=I 0/\J=fC b g (a++s) T++[e])):=by
 unfold fC;refine bl ?_;refine aE func281 λW=>?_;refine ah.fact (sG (f:=dt) (v:=v) (l:=a) rD OR) λz=>?_;obtain⟨R,M,Yf,C,rfl,q,j⟩:=z;have x:([[S s]]:ab (ab aj))[0]?=some [S s]:=rfl;refine aa 34 ?_;refine ah.cp [18,17,1,0] (λk:Nat=>k<=1) (λk=>[(19,I (k:Int)),(5,I ((a.length+k*s.length:Nat):Int))]) (λ_=>[]) (λk=>1-k) 0 (cO _) ?_ (j:=by rw[ra,ho];(repeat(first|exact de.nil|refine de.cons rfl rfl ?_)));intro k u K m;refine bl ?_;by_cases p:k=0
 .subst p;rw[ra,ho];refine aa 14 ?_;refine ai.v (V.VC ad rfl t x) ?_;refine aa 16 ?_;exact Out.z' m 1 (cD _) ac (z:=by rw[Nat.one_mul,Int.natCast_add];(repeat(first|exact de.nil|refine de.cons rfl rfl ?_)))
 .obtain rfl:k=1:=by omega
  clear m;rw[Nat.one_mul,Int.natCast_add];refine aa 19 ?_;refine Pr (λL=>?_) λL=>?_
  .exact⟨_,_,.inl ⟨ac,rfl,rfl⟩,Uc⟩
  refine aa 3 ?_;have P:a.length+s.length<=65536:=ac
  refine aa 8 ?_;refine ah.cp [31,30,1,0] (λy:Nat×aj×ab aS=>(y.1=0/\y.2.2=a)\/(y.1=1/\y.2.2=a++s)) (λy=>[(32,I (y.1:Int))]) (λy=>[cells b 156 (lA.c ⟨y.2.1,T⟩),ej dt y.2.1 5 1 y.2.2]) (λy=>1-y.1) (0,_,a) (.inl ⟨rfl,rfl⟩) ?_;rintro⟨k,d,Z⟩ F K m;refine bl ?_;rcases F with⟨Y,N⟩|⟨Y,N⟩
  .dsimp only at Y N;subst Y N;refine ah.fact (sG (f:=dt) (v:=d) (l:=Z) rD OR) λz=>?_;obtain⟨G,i,Yc,U,rfl,D,h⟩:=z;refine aa 14 ?_;refine ai.v (V.VC ad rfl t x) ?_;refine aa 10 ?_;refine ai.o (O.X2 ad rfl rfl T8 (cq.str ad) (λYg Ye=>?_));refine aa 10 ?_;exact Out.z' m (1,_,Z++s) (.inr ⟨rfl,rfl⟩) (by show 1-1<1-0;omega)
  .dsimp only at Y N;subst Y N;clear m;refine aa 19 ?_
   .exact⟨_,_,.inr ⟨P,_,rfl,rfl⟩,Uc⟩
def qJ(a:ab aS)(X:Nat)(v:Int):Nat:=Min.min (Max.max v 0).toNat (a.length-X)
def tS(a:ab aS)(X:Nat)(v:Int)(g:aS):ab aS:=
 if qJ a X v=0 then a.take X
 else(a.take (X+qJ a X v)).set (X+qJ a X v-1) ((a.take (X+qJ a X v)).getD (X+qJ a X v-1) 0^^^g)
def aeB:∀x y:aS,lb .xor .u8 (x.toNat:Int) (y.toNat:Int)=some ((x^^^y).toNat:Int):=λx y=>by
 have c:∀z:aS,BitVec.ofInt IntKind.u8.bits (z.toNat:Int)=z.toBitVec:=λz=>by
  show BitVec.ofInt 8 (z.toNat:Int)=_
  rw[sI];apply BitVec.eq_of_toNat_eq;simp
 simp only[lb,c];show some (IntKind.u8.wrap ((x.toBitVec^^^y.toBitVec).toNat:Int))=_
 have h:((x^^^y).toNat)<256:=(x^^^y).toNat_lt;have Y:(x.toBitVec^^^y.toBitVec).toNat=(x^^^y).toNat:=rfl;rw[Y];have N:x.toNat^^^y.toNat<256:=by have:=h;rwa[UInt8.toNat_xor]at this
 simp only[IntKind.wrap,IntKind.signed,IntKind.bits];simp;omega
def MV(b:Nat)(v:aj)(p:ab aS)(X:Nat)(y:Int)(c:aS)(Q:X<=p.length)(a:p.length<=65536):ar prog 48 [aw b 0,I y,.int .u8 (c.toNat:Int)] (fC b v p X) (λr J=>∃d,r=I 0/\J=fC b d (tS p X y c) (tS p X y c).length):=by
 obtain⟨N,u⟩:∃N,N=qJ p X y:=⟨_,rfl⟩
 have C:(N:Int)=Min.min (Max.max y 0) ((p.length:Int)-(X:Int)):=by rw[u];unfold qJ;omega
 have k:X+N<=p.length:=by rw[u];unfold qJ;omega
 have s:((X:Int)+(N:Int))=((X+N:Nat):Int):=ac
 unfold fC tS;rw[<-u];refine aE func48 λW=>?_;refine ah.fact (sG (f:=dt) (v:=v) (l:=p) rD OR) λL=>?_;obtain⟨m,E,F,off,rfl,q,g⟩:=L;refine aa 16 ?_;refine ah.n' ?_ aB.j.d';refine ae 14 0 ?_;refine aa 2 ?_;dsimp only;rw[<-C];refine au ?_;refine ah.Uv [14] ?_ aB.j.d' aB.j.j;refine ae 4 0 ?_;refine ae 3 5 ?_;refine ae 1 9 ?_;refine NI ?_;refine ae 1 10 ?_;refine af.i' 11 rfl (V.VE ad (j:=X+N) rfl rfl ac) ?_;refine ae 2 12 ?_;refine af.l 14 rfl (O.K' ad ?_);refine aa 4 ?_;refine ah.aaZ (f:=dt) (q:=E) (X+N) rD k ?_;obtain⟨D,M⟩:∃D,D=p.take (X+N):=⟨_,rfl⟩
 have T:D.length=X+N:=by rw[M,fp];omega
 rw[<-M,<-T];refine ah.fact (sG (f:=dt) (v:=.slice m D.length E) (l:=D) rD OR) λL=>?_;obtain⟨R,i,Yc,h,P,G,n⟩:=L;simp only[sQ,true_and]at P;obtain⟨rfl,rfl⟩:=P;by_cases o:N=0
 .subst o;rw[aQ rfl];have x:p.take X=D:=by rw[M,ho]
  rw[x];exact aP 29
 .rw[aM o];obtain⟨z,w⟩:=cl (show D.length-1<D.length by omega);have Y:D.getD (D.length-1) 0=z:=by rw[List.getD,w];rfl
  rw[Y];have Z:=jB (f:=dt) w;have U:=aeB z c;have K:=n.addr ac;subst K;have g:((D.length:Int)-1)=((D.length-1:Nat):Int):=ac
  have X:(D.set (D.length-1) (z^^^c)).length=D.length:=co;rw[X];refine aa 7 ?_;refine ah.n' ?_ aB.d'.j;refine ae 9 0 ?_;refine af.i' 9 rfl (V.Y' g rfl rfl ac) ?_;refine af.i' 10 rfl (V.Vm ad rfl rfl TX) ?_;refine ae 1 12 ?_;refine af.q' 11 rfl (av.x' (V.VC ad rfl n Z) ?_);refine au ?_;refine af.i' 13 rfl (V.VN rfl rfl U) ?_;refine af.i' 14 rfl (V.Vm ad rfl rfl TX) ?_;refine af.q' 15 rfl (O.aa4 ad (f:=dt) (a:=z^^^c) rfl rfl rfl rfl T2 rfl ac rD ?_);exact aP 23
def aio(n:Int):ar prog 51 [I n] [] (λv J=>∃b,v=aw b 0/\J=[ep aX.c 169 54 20 b (List.replicate 7 (.slice none 0 0)) (List.replicate 7 (.slice none 0 0)) (aJ.new n:aJ aX)]):=by
 have h:ar prog 51 [I n] [] (λv J=>∃b,v=aw b 0/\J=[cells b 169 (cm (List.replicate 7 (.slice none 0 0)) (List.replicate 7 (.slice none 0 0)) (aJ.new n:aJ aX))]):=by refine aE func51 λW=>?_;refine aq 11 λu=>?_;exact aP 5
 refine SL λb W D w j=>?_;have Y:=H.rr aX.c 54 20 7 (H.rr e8 4 1 7 j);exact Ow
def Gr(b:Nat)(Q m:ab aj)(p:aJ aX)(U:Int)(n:p.wf)(L:Q.length=7)(g:m.length=7):ar prog 81 [aw b 0,I U] [ep aX.c 169 54 20 b Q m p] (λr J=>r=I (p.top U:Int)/\J=[ep aX.c 169 54 20 b Q m p]):=by
 by_cases t:0<=U/\U<p.aH
 .obtain⟨k,rfl⟩:=rt t.1;have ao:=n.ao;have i:=n.m5;have l:=n.m6;obtain⟨v,Z⟩:=cl (t:=Q) (k:=k) ac;obtain⟨u,X⟩:=cl (t:=m) (k:=k) ac;have w:=ep.open (f:=aX.c) (B:=169) (E:=54) (aI:=20) (b:=b) (p:=p) Z X ac ac;have aR:=cm.v (us:=m.set k u) (p:=p) (v:=v) (show k<Q.length by omega);refine ar.eqv w (R:=λr J=>r=I (p.top k:Int)/\J=ge aX.c 169 54 20 b Q m p k v u (p.x k) (p.h k)) ?_ RC;have j:(p.top k:Int)=(p.x k).length:=by simp[aJ.top,t.1,t.2]
  rw[j];unfold ge;refine aE func81 λW=>?_;refine Q8 (λo=>?_) λo=>?_;(exfalso;omega);refine aa 4 ?_;refine ai.v (V.C' ad (z:=cm.r)) ?_;refine Pm (λY=>?_) λY=>?_;(exfalso;omega);refine aa 8 ?_;refine ai.v (V.XJ ad rfl rfl) ?_;refine ai.v (V.C' ad (z:=aR)) ?_;exact aP 6
 .have j:(p.top U:Int)=0:=by simp[aJ.top,t]
  rw[j];refine ar.eqv ep.bare (R:=λr J=>r=I 0/\J=[cells b 169 (cm Q m p),gY aX.c 54 20 Q p.xs,gY e8 4 1 m p.b7]) ?_ M1;refine aE func81 λW=>?_;refine Q8 (λo=>?_) λo=>?_;exact aP 18;refine aa 4 ?_;refine ai.v (V.C' ad (z:=cm.r)) ?_;exact aP 13
def BV:aT aX->aj
 |none=>.tuple #[A aX.z.c,B false]
 |some t=>.tuple #[A t.c,B true]
def Gs(b:Nat)(t i:ab aj)(p:aJ aX)(x:ag)(n:p.wf)(L:t.length=7)(d:i.length=7):ar prog 53 [aw b 0,A x.c] [ep aX.c 169 54 20 b t i p] (λr J=>r=BV (p.at x)/\J=[ep aX.c 169 54 20 b t i p]):=by
 by_cases G:bq x p.aH=true
 .have Z:dr prog 82 [A x.c,I p.aH] (B true):=G▸m7 x p.aH;simp only[bq,c5,dl]at G;obtain⟨k,mx⟩:=rt G.1.1.1;have Q:x.a1.toNat=k:=by omega
  have ao:=n.ao;have m5:=n.m5;have m6:=n.m6;have D:=n.same k;obtain⟨v,T⟩:=cl (t:=t) (k:=k) ac;obtain⟨u,Yc⟩:=cl (t:=i) (k:=k) ac;have w:=ep.open (f:=aX.c) (B:=169) (E:=54) (aI:=20) (b:=b) (p:=p) T Yc ac ac;refine Nh λaR sH=>?_;refine ar.eqv w (R:=λr J=>r=BV (p.at x)/\J=ge aX.c 169 54 20 b t i p k v u (p.x k) (p.h k)) ?_ RC;have z:p.at x=if(p.h k).getD (x.bT-1).toNat false=true then some ((p.x k).getD (x.bT-1).toNat default)else none:=Nv
  rw[z];unfold ge;refine aE func53 λW=>?_;by_cases a:((p.x k).length:Int)<x.bT
  .have:(p.h k).getD (x.bT-1).toNat false=false:=by rw[km,vk (by rw[<-D];omega)];rfl
   rw[this];exact Ge
  .refine ah.form (f:=e8) (v:=u) (l:=p.h k) T1 (λo Y=>?_) (λg q Yf=>?_)
   .have:(p.x k).length=0:=by rw[D,Y];rfl
    omega
   refine ah.form (f:=aX.c) (v:=v) (l:=p.x k) T1 (λo Y=>?_) (λM C K=>?_)
   .have:(p.x k).length=0:=by rw[Y];rfl
    omega
   subst Yf K;obtain⟨X,Ye⟩:=cl (t:=p.h k) (k:=(x.bT-1).toNat) ac;obtain⟨j,y⟩:=cl (t:=p.x k) (k:=(x.bT-1).toNat) ac;have m:(p.h k).getD (x.bT-1).toNat false=X:=by rw[km,Ye];rfl
   have U:(p.x k).getD (x.bT-1).toNat default=j:=by rw[km,y];rfl
   rw[m,U];cases X
   exact Mi
   exact O9
 .have Z:dr prog 82 [A x.c,I p.aH] (B false):=by
   have F:bq x p.aH=false:=Oo
   exact F▸m7 x p.aH
  have z:p.at x=none:=by simp[aJ.at,G]
  rw[z];refine ar.eqv ep.bare (R:=λr J=>r=BV none/\J=[cells b 169 (cm t i p),gY aX.c 54 20 t p.xs,gY e8 4 1 i p.b7]) ?_ M1;refine aE func53 λW=>?_;exact Pa
def MX(b:Nat)(q i:ab aj)(p:aJ aX)(x:ag)(t:aX)(o:p.wf)(dU:q.length=7)(hu:i.length=7):ar prog 143 [aw b 0,A x.c,A t.c] [ep aX.c 169 54 20 b q i p] (λr J=>∃z j,z.length=7/\j.length=7/\r=B (bq x p.aH)/\J=[ep aX.c 169 54 20 b z j (p.set x t)]):=by
 by_cases d:bq x p.aH=true
 .refine MZ λdv T=>?_
  rw[T];simp only[bq,c5,dl]at d;obtain⟨k,mx⟩:=rt d.1.1.1;have cc:x.a1.toNat=k:=ac
  rw[cc];have ao:=o.ao;have m5:=o.m5;have m6:=o.m6;have b7:=o.same k;have Yp:=o.oB k;obtain⟨v,Yg⟩:=cl (t:=q) (k:=k) ac;obtain⟨u,Yh⟩:=cl (t:=i) (k:=k) ac;have l4:=ep.open (f:=aX.c) (B:=169) (E:=54) (aI:=20) (b:=b) (p:=p) Yg Yh ac ac;refine ar.eqv l4 (R:=λr J=>∃ei lC,r=B true/\J=ge aX.c 169 54 20 b q i p k ei lC ((hf (p.x k) x.bT.toNat default).set (x.bT-1).toNat t) ((hf (p.h k) x.bT.toNat false).set (x.bT-1).toNat true)) ?_ PE
  unfold ge;refine aE func143 λW=>?_;have Yj:∀{n:dq} {M:bC} {Q:cU} {c:Go.Code},(((p.x k).length=0\/∃g D L s,v=.slice (some ⟨g,0,none⟩) (p.x k).length D/\u=.slice (some ⟨L,0,none⟩) (p.h k).length s)->ah prog none W (bn (ge aX.c 169 54 20 b q i p k v u (p.x k) (p.h k))) n Q c M (ge aX.c 169 54 20 b q i p k v u (p.x k) (p.h k)))->ah prog none W (bn (ge aX.c 169 54 20 b q i p k v u (p.x k) (p.h k))) n Q c M (ge aX.c 169 54 20 b q i p k v u (p.x k) (p.h k)):=by intro n M Q c h;refine ah.form (f:=aX.c) (v:=v) (l:=p.x k) Ou (λ_ bg=>h (.inl (by rw[bg];rfl))) (λL s Yf=>?_);refine ah.form (f:=e8) (v:=u) (l:=p.h k) Ou (λ_ bg=>h (.inl (by rw[b7,bg];rfl))) (λg D Yi=>h (.inr ⟨_,_,_,_,Yf,Yi⟩))
  refine Yj λYo=>?_;clear Yj;refine Ln λN Ym Z=>?_
  have C:∀{a b dm},bA (8+k*1) [dm] (cm (q.set k a) (i.set k b) p) (cm (q.set k a) (i.set k dm) p):=λ{a b dm}=>⟨cm.WO Rz ac⟩
  have F:∀{a b},b.length=7->Nat.blt (1+k*1) (cm (q.set k a) b p).length=true:=λ{a b} bH=>Pd
  have G:∀{a b},Nat.blt (8+k*1) (cm (q.set k a) (i.set k b) p).length=true:=λ{a b}=>Pd
  have U:∀{b},(i.set k b).length=7:=λ{b}=>OA
  refine MK λfT l5=>?_;refine ah.n' ?_ aB.d'.d'.d'.d'.d'.d'.j;refine Mj ?_;refine ae 3 8 ?_;refine aa 7 ?_;refine ah.cp [5,4,0] (λy:aj×aj×ab aX×ab Bool=>(∃m,y.2.2.1=p.x k++List.replicate m default/\y.2.2.2=p.h k++List.replicate m false/\(m=0\/(((p.x k).length+m:Nat):Int)<=x.bT))/\
    (y.2.2.1.length=0\/∃g D L s,y.1=.slice (some ⟨g,0,none⟩) y.2.2.1.length D/\y.2.1=.slice (some ⟨L,0,none⟩) y.2.2.2.length s)) (λy=>[])
   (λy=>[cells b 169 (cm (q.set k y.1) (i.set k y.2.1) p),rows aX.c y.1 54 20 y.2.2.1,rows e8 y.2.1 4 1 y.2.2.2]) (λy=>x.bT.toNat-y.2.2.1.length) (v,u,p.x k,p.h k) ⟨⟨0,T3,T3,.inl rfl⟩,Yo⟩ ?_
  rintro⟨ei,lC,X,pN⟩⟨⟨m,iP,cy,dO⟩,eh⟩ K cA;dsimp only at iP cy dO eh;refine bl ?_;have xb:X.length=(p.x k).length+m:=by rw[iP];simp
  have Ft:pN.length=X.length:=by rw[cy,xb];simp[b7]
  by_cases Yc:(X.length:Int)<x.bT
  .refine N7 λmE=>?_;refine af.bv 14 23 rfl rfl ?_ ?_;refine O.Q' ad aX.c [_] rfl (bI.agg rfl bI.nil) rfl rfl (λYq=>?_);refine au ?_;refine af.bv 15 23 rfl rfl ?_ ?_;refine O.U' ad rfl rfl T8 (cq.rows ad T1 aX.F') (λYn Y=>?_);refine au ?_;refine df 23 λYk=>?_;refine KD λYl P=>?_;rotate_left;refine O.lit ad (λYk=>?_);refine au ?_;refine af.q' 15 rfl (O.U' ad rfl rfl T8 (cq.rows ad T1 aX.F') (λYn Y=>?_));refine au ?_;refine KD λYl P=>?_;rotate_left;refine O.lit ad (λYk=>?_);refine au ?_;refine af.q' 14 rfl (O.Q' ad aX.c [_] rfl (bI.agg rfl bI.nil) rfl rfl (λYq=>?_));refine au ?_;refine af.q' 15 rfl (O.U' ad rfl rfl T8 (cq.rows ad T1 aX.F') (λYn Y=>?_));refine au ?_;refine KD λYl P=>?_;rotate_left;all_goals(refine Out.z' cA (_,_,X++[default],pN++[false]) ?_ Ui;exact ⟨⟨m+1,by rw[vo,<-iP],by rw[vo,<-cy],.inr KT⟩,.inr ⟨_,_,_,_,rfl,rfl⟩⟩)
  .have Yr:X=hf (p.x k) x.bT.toNat default:=by rw[iP];exact vn ac ac
   have Ye:pN=hf (p.h k) x.bT.toNat false:=PK
   rw[<-Yr,<-Ye];rcases eh with eh|⟨g,D,L,s,rfl,rfl⟩
   .omega
   .refine QE ?_;refine af.q' 22 rfl (O.J' ad (f:=aX.c) (a:=t) rfl rfl T2 rfl ac aX.len aX.F' ?_);refine K5 ?_
    exact R7
 .have w:bq x p.aH=false:=by simpa using d
  refine MD λdv T=>?_
  rw[T,w];refine ar.eqv ep.bare (R:=λr J=>r=B false/\J=[cells b 169 (cm q i p),gY aX.c 54 20 q p.xs,gY e8 4 1 i p.b7]) ?_ Qj;refine aE func143 λW=>?_;exact ME
def BW(r:aj)(f:r.oneCell'=true):ar prog 52 [r] [] (λv J=>∃q,v=.func (.func 80) #[] #[aw q 0]/\J=[cells q 117 [r]]):=by refine aE func52 λW=>?_;exact R6
def encI(x:ag×aX):ab aj:=[A x.1.c,A x.2.c]
def ail(q b:Nat)(E x:ab aj)(p:aJ aX)(i:p.wf)(L:E.length=7)(R:x.length=7):rm prog 80 [aw q 0] [cells q 117 [aw b 0],ep aX.c 169 54 20 b E x p] encI p.all [cells q 117 [aw b 0],ep aX.c 169 54 20 b E x p]:=by
 intro l M G X S D Z v;refine aE func80 λW=>?_;refine aa 6 ?_;refine ah.cp [0,1] (λy:Nat×M=>y.1<=7/\G (p.upto y.1) y.2) (λy=>[(8,I (y.1:Int))]) (λy=>[S y.2]) (λy=>7-y.1) (0,D) ⟨ac,Z⟩ ?_;rintro⟨k,h⟩⟨u,w⟩ K n;dsimp only at u w;refine bl ?_;by_cases U:k<7
 .have f:=Gr b E x p (k:Int) i L R;refine aa 23 ?_;rotate_left;refine ah.cp [3,8,0,1] (λy:Nat×M=>y.1<=p.top k/\G (p.upto k++p.row k y.1) y.2) (λy=>[(4,I ((y.1:Int)+1))]) (λy=>[S y.2]) (λy=>p.top k-y.1) (0,h) ⟨ac,by simpa[aJ.row]using w⟩ ?_;rintro⟨m,T⟩⟨F,J⟩ Q r;dsimp only at F J;refine bl ?_;by_cases s:m<p.top k
  .have Y:=Gs b E x p ⟨(k:Int),(m:Int)+1⟩ i L R;have C:=aJ.Wu p k m;have Yf:p.top k<=64:=by
    unfold aJ.top;split
    .exact i.oB _
    .omega
   cases g:p.at ⟨(k:Int),(m:Int)+1⟩with
   |none=>
    rw[g]at Y C;simp only[Option.map_none,BX,dT]at C;refine aq 21 λd=>?_;refine aq 12 λP=>?_;refine aa 25 ?_;rotate_left;refine Out.z' r (m+1,T) ?_ (by show p.top k-(m+1)<p.top k-m;omega);exact ⟨by show m+1<=_;omega,by rw[C];exact J⟩
   |some t=>
    obtain⟨z,j⟩:=aJ.aa5 p U s g;rw[g]at Y C;simp only[pc,w4]at C;have a:=v _ _ z T j J;refine aq 21 λd=>?_;refine aq 12 λP=>?_;refine aa 11 ?_;refine ai.o (av.Vd rfl rfl (a) Uc ?_);rintro tT agA⟨Yg,Yh,rfl,N,Yc,rfl⟩;refine PD (λYe=>?_) λYe=>?_;refine aa 10 ?_
    .exact⟨_,_,⟨_,.inr ⟨p.upto k++p.row k m++[(⟨(k:Int),(m:Int)+1⟩,t)],⟨z,by rw[j];simp⟩,Yc TX⟩,rfl⟩,Uc⟩
    refine aa 8 ?_;rotate_left;refine Out.z' r (m+1,_) ?_ (by show p.top k-(m+1)<p.top k-m;omega);exact ⟨by show m+1<=_;omega,by rw[C,<-cn];exact N TX⟩
  .obtain rfl:m=p.top k:=by omega
   refine aa 22 ?_;refine Out.z' n (k+1,T) ?_ Qk;exact ⟨NC,by rw[aJ.V6];exact J⟩
 .obtain rfl:k=7:=by omega
  refine aa 12 ?_
  .exact⟨_,_,⟨h,.inl w,rfl⟩,Uc⟩
end Go.Proofs.YteogojgnkjegmaaGreatDoor
namespace Go.Proofs.YteogojgnkjegmaaGreatDoor
open Go.ay Go.Proofs.Tryz
variable[Go.ay.b4]
def Gt(n:Int):dr prog 44 [I n] (B (decide (n=3\/n=5\/n=7))):=by
 refine aE func44 λW=>?_;refine NG (λE=>?_) λE=>?_;refine aa 12 ?_;rotate_left;refine Qa (λQ=>?_) λQ=>?_;refine aa 8 ?_;rotate_left;refine aa 8 ?_;rotate_left
 .exact dp B (ic ac).symm
 .exact dp B (ic ac).symm
 .exact dp B (dC.2 ac)
abbrev eK:=ag×aX
def ko(n:Int)(l:ab eK):Prop:=∀y,y∈l->bq y.1 n=true/\eW y.2 n=true
def cj(l:ab eK):ab aS:=l.flatMap λy=>fV y.1 y.2
def l9(l:ab eK):ab (ab aS):=l.map λy=>l8 y.1 y.2
def Gu(l:ab eK):cj l=oH (l9 l):=by
 induction l with
 |nil=>rfl
 |cons y l d=>
  rw[cj,gn,<-cj,d];show _=oH (l8 y.1 y.2::l9 l)
  rw[zi];rfl
theorem qK(l m:ab eK):cj (l++m)=cj l++cj m:=by simp[cj]
def afN{n:Int}(a:n<=7){l:ab eK}(h:ko n l):∀t,t∈l9 l->t.length<=16384:=by intro t j;obtain⟨y,F,rfl⟩:=eS.1 j;have:=zk a (h y F).1 (h y F).2;omega
def ads{n:Int}(a:n<=7){l:ab eK}(h:ko n l):(cj l).length<=105*l.length:=by
 induction l with
 |nil=>simp[cj]
 |cons y l d=>
  have Y:=xy a (h y T3).1 (h y T3).2;have N:=d λx U=>h x Lw;rw[cj,gn,<-cj,b2,dD];omega
def Gv:∀(v:ab (ab aS)) (p b9:ab aS) (f:Nat),(gE b9).2=0->(∀t,t∈v->t.length<=16384)->v.length<f->sK (p++(oH v++b9)) f p.length=j3 p.length v
 |[],p,b9,f+1,y,_,_=>by rw[sK,show oH []=[]from rfl,gJ,Bn,aQ y];rfl
 |t::v,p,b9,f+1,y,h,k=>by have j:=h t T3;have T:=BO j;rw[sK,Bn,zi,cn,Gg j,aM (by show¬((gL t).length:Int)=0;omega)];simp only[i3];rw[j3];have:=Gv v (p++gL t) b9 f y (λx U=>h x Lw) (by simp at k;omega);rw[cn,b2]at this;rw[this]
 |_::_,_,_,0,_,_,h=>Uj
 |[],_,_,0,_,_,h=>Uj
def aiM{v:ab (ab aS)}{b9:ab aS}(y:(gE b9).2=0)(h:∀t,t∈v->t.length<=16384):xj (oH v++b9)=j3 0 v:=by have:=Gv v [] b9 ((oH v++b9).length+1) y h (by have:=aic h;rw[b2];omega);simpa[xj]using this
def Gw:∀(a b:ab (ab aS)) (i:Nat),j3 i (a++b)=j3 i a++j3 (i+(oH a).length) b
 |[],b,i=>by simp[j3,oH]
 |t::a,b,i=>by rw[ly,j3,j3,Gw a b,zi,b2,ly,qi]
def zl:∀(a:ab (ab aS)) (i:Nat),(j3 i a).length=a.length
 |[],_=>rfl
 |t::a,i=>by rw[j3,dD,dD,zl a]
def agF{l:ab eK}{pre L:ab (Nat×ab aS)}{x:Nat×ab aS}(h:j3 0 (l9 l)=pre++x::L):∃y i,l=l.take pre.length++y::i/\pre=j3 0 (l9 (l.take pre.length))/\x=((cj (l.take pre.length++[y])).length,l8 y.1 y.2):=by
 have T:pre.length<l.length:=by have:=dp List.length h;rw[zl,l9,eT,b2,dD]at this;omega
 obtain⟨y,F⟩:∃y,l[pre.length]?=some y:=⟨_,hs T⟩
 have Q:l=l.take pre.length++y::l.drop (pre.length+1):=by obtain⟨u,rfl⟩:=cT.1 F;rw[<-vr u,oe]
 have N:j3 0 (l9 l)=j3 0 (l9 (l.take pre.length))++j3 (0+(oH (l9 (l.take pre.length))).length) (l9 (y::l.drop (pre.length+1))):=by
  conv=>lhs;rw[Q]
  rw[l9,jo];exact Gw _ _ 0
 rw[h]at N;have w:pre.length=(j3 0 (l9 (l.take pre.length))).length:=by rw[zl,l9,eT,fp];omega
 obtain⟨R,Z⟩:=List.append_inj N w;refine⟨y,_,Q,R,?_⟩;change x::L=j3 _ (l8 y.1 y.2::l9 (l.drop (pre.length+1)))at Z;rw[j3]at Z;simp only[re]at Z;rw[Z.1,qK,Gu,h8,b2];simp[cj,fV]
def jq(p:aJ aX)(l:ab eK):aJ aX:=l.foldl (λp y=>p.set y.1 y.2) p
def BY(p:aJ aX)(l:ab eK)(y:eK):jq p (l++[y])=(jq p l).set y.1 y.2:=by simp[jq]
def zm{p:aJ aX}(h:p.ok)(l:ab eK):(jq p l).ok:=by
 induction l generalizing p with
 |nil=>exact h
 |cons y l d=>exact d (aJ.Vr h y.1 y.2)
def BZ(p:aJ aX)(l:ab eK):(jq p l).aH=p.aH:=by
 induction l generalizing p with
 |nil=>rfl
 |cons y l d=>exact(d (p.set y.1 y.2)).trans (aJ.Vq ..)
structure kS where
 ia:ab aj
 us:ab aj
 dU:ia.length=7
 hu:us.length=7
abbrev kT(y:Nat)(L:kS)(p:aJ aX):ax:=ep aX.c 169 54 20 y L.ia L.us p
def Gx(y:Nat)(L:kS)(p:aJ aX)(x:ag)(t:aX)(n:p.wf):ar prog 143 [aw y 0,A x.c,A t.c] [kT y L p] (λr J=>∃T:kS,r=B (bq x p.aH)/\J=[kT y T (p.set x t)]):=by refine ar.post (MX y L.ia L.us p x t n L.dU L.hu) ?_;rintro v J⟨g,w,Y,N,rfl,rfl⟩;exact⟨_,⟨⟨g,w,Y,N⟩,rfl,rfl⟩,λ_ _ _ h=>h⟩
def B0(n:Int):ar prog 51 [I n] [] (λv J=>∃p L,v=aw p 0/\J=[kT p L (aJ.new n)]):=by refine ar.post (aio n) ?_;rintro v J⟨b,rfl,rfl⟩;exact⟨_,⟨b,⟨_,_,T3,T3⟩,rfl,rfl⟩,λ_ _ _ h=>h⟩
def agj(g:Nat)(v:aj)(n:Int)(l:ab eK)(b9:ab aS)(X:Int)(cM:n=3\/n=5\/n=7)(T:ko n l)(dR:(gE b9).2=0)(dM:(cj l++b9).length<=65536):ar prog 101 [aw g 0,I n] (fC g v (cj l++b9) X) (λr J=>∃k b t L,r=.tuple #[aw k 0,I 0]/\J=[cells k 120 (lY.c ⟨aw g 0,n,aw b 0⟩),kT b L (jq (aJ.new n) l)]++fC g t (cj l) (if b9=[]then X else((cj l).length:Int))):=by
 have R:xj (cj l++b9)=j3 0 (l9 l):=by rw[Gu];exact aiM dR (afN ac T)
 have hJ:dr prog 44 [I n] (B true):=by have:=Gt n;rwa[ic cM]at this
 have f:(aJ.new n:aJ aX).ok:=aJ.UL n;have s (q:Nat):=aes q (cj l++b9) ac;rw[R]at s;refine aE func101 λW=>?_;refine aa 2 ?_;refine ai.o (O.UQ (λgq=>?_));refine aa 26 ?_;refine ah.mt [3,0] (λz:Nat×Nat×Nat×kS=>True) (λz=>[(6,aw z.1 0)]) (λz=>[cells z.1 96 [aw z.2.1 0],cells z.2.1 120 (lY.c ⟨aw g 0,n,aw z.2.2.1 0⟩),kT z.2.2.1 z.2.2.2 (aJ.new n)]) ?_ ?_
 .intro fM w;refine ah.n' ?_ aB.j.j.d';refine ae 3 0 ?_;refine af.bv 3 6 rfl rfl ?_ ?_;refine av.Z' rfl (B0 _) Uc ?_;rintro _ _⟨Yj,Ym,rfl,rfl⟩;refine aa 2 ?_;refine af.i' 4 rfl (V.UZ ad) ?_;refine af.bv 5 6 rfl rfl ?_ ?_;refine O.Wo (λu=>?_);refine au ?_;refine df 6 λd=>?_;refine ae 1 7 ?_;refine au ?_;rotate_left;refine O.N' ad (λd=>?_);refine au ?_;refine df 5 λu=>?_;refine ae 1 7 ?_;refine au ?_;rotate_left;refine O.N' ad (λd=>?_);refine au ?_;refine af.p' 3 rfl rfl (B0 _) ?_;rintro _ _⟨U,M,rfl,rfl⟩;refine aa 2 ?_;refine af.i' 4 rfl (V.UZ ad) ?_;refine df 5 λu=>?_;refine ae 1 7 ?_;refine au ?_;rotate_left;all_goals exact Out.z' w (_,_,_,_) trivial trivial
 .rintro⟨d,k,b,L⟩ _;refine bl ?_;refine aa 3 ?_;refine ai.p' rfl (MR _ _ _ _) ?_;refine aq 6 λsR=>?_;refine aa 7 ?_;refine ai.p' rfl (aid _) ?_;rintro _ _⟨Yi,rfl,rfl⟩;refine aa 4 ?_;refine ah.rg (s _) (λy:kS×aJ aX×Nat=>[kT b y.1 y.2.1,cells d 96 [aw k 0],cells gq 3 [I n],cells sR 3 [I (y.2.2:Int)],cells k 120 (lY.c ⟨aw g 0,n,aw b 0⟩)])
   (λpre y=>y.2.1=jq (aJ.new n) (l.take pre.length)/\y.2.2=(cj (l.take pre.length)).length) (λ_ _ _=>False) (L,aJ.new n,0) ⟨rfl,rfl⟩ ?_ ?_ ?_
  .rintro pre x a⟨P,K,dx⟩ cp rec b3⟨C,i⟩ c1 eI jk zf j;dsimp only at C i;obtain⟨y,B1,E,Q,N⟩:=agF b3;have F:=T y (by rw[E];simp);have ew:=MO y.1 y.2 n ac F.1 F.2;have ib:=Gx b P K y.1 y.2 (by rw[C];exact(zm f _).towf);have Y:l.take (pre++[x]).length=l.take pre.length++[y]:=by
    have Yc:pre.length<l.length:=by have:=dp List.length E;simp at this;omega
    rw[b2,dD,gv,h8,oj];congr 1;have:l[pre.length]?=some y:=by rw[E,ji Mt,fp,show pre.length-Min.min pre.length l.length=0 by omega];rfl
    rw[this];rfl
   subst N C i;refine bl ?_;refine aq 19 λYe=>?_;refine aq 0 λYf=>?_;refine aa 16 ?_;refine ah.n' ?_ aB.j.j.j.d'.j.j.d'.d';refine ae 3 0 ?_;refine ae 2 4 ?_;refine ae 1 3 ?_;refine af.p' 6 rfl rfl (ib) ?_;rintro _ _⟨Yk,rfl,rfl⟩;refine aa 9 ?_;exact Out.rd j (_,(jq (aJ.new n) (l.take pre.length)).set y.1 y.2,(cj (l.take pre.length++[y])).length) ⟨by rw[Y,BY],by rw[Y]⟩
  .rintro⟨P,K,dx⟩ c⟨C,i⟩;dsimp only at C i;have Z:(j3 0 (l9 l)).length=l.length:=by rw[zl,l9,eT]
   rw[Z,ir]at C i;subst C i;refine bl ?_;by_cases m:b9=[]
   .subst m;rw[aQ rfl,dT];unfold fC;refine aa 23 ?_;exact⟨_,_,⟨k,b,v,P,rfl,rfl⟩,Uc⟩
   .rw[aM m];have Yg:0<b9.length:=pH.2 m;have D:=Gq g v (cj l++b9) X (cj l);unfold fC at D⊢;have Yh:=ar.post (X:=λr J=>∃t,r=I 0/\J=[cells g 156 (lA.c ⟨t,((cj l).length:Int)⟩),ej dt t 5 1 (cj l)]) D (by
     rintro r J (⟨bg,_⟩|⟨_,t,rfl,rfl⟩)
     .rw[b2]at dM;omega
     .exact⟨_,⟨t,rfl,rfl⟩,λ_ _ _ h=>h⟩)
    refine aa 11 ?_;refine ah.cs (λG=>?_) (λG=>?_);refine aa 4 ?_;refine ai.v (V.aa7 ad rfl rfl (p:=cj l++b9) (q:=cj l) T3 T3) ?_;refine au ?_;rintro _ _⟨Yl,rfl,rfl⟩;refine aa 12 ?_;rotate_left;refine aa 11 ?_
    .exfalso;simp only[b2]at*;omega
    exact⟨_,_,⟨k,b,_,P,rfl,rfl⟩,Uc⟩
  exact Sw
end Go.Proofs.YteogojgnkjegmaaGreatDoor
