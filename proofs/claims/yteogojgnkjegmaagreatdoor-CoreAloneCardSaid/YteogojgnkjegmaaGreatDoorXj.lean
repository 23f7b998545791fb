/-
 Part of the proof.
-/
import Derived.Test.YteogojgnkjegmaaGreatDoorXi
set_option linter.all false
set_option maxRecDepth 8000
set_option maxHeartbeats 8000000
namespace Go.Proofs.YteogojgnkjegmaaGreatDoor
open Go.ay Go.Proofs.Tryz
def nd(l:ab (ab aP)):ab aP:=l.flatMap gb
def zF{t:ab aP}(h:t.length<=16384):5<=(gb t).length/\(gb t).length<=t.length+13:=by have F:1<=(bt (t.length:Int)).length:=zj _;have M:=fq (n:=(t.length:Int)) ac;rw[gb,aN ac];simp only[bM,hF,dp,fY];omega
def DT{t:ab aP}(j:t.length<=16384)(n:ab aP):fV (gb t++n)=(t,((gb t).length:Int)):=by
 have q:=vm t.length 0 0 (hF (hG (bt (t.length:Int)++t))++(t++n)) (by
  have:(128:Nat)^(9-0)=9223372036854775808:=XG
  omega) (.inr rfl)
 have Q:gb t++n=e8 t.length++(hF (hG (bt (t.length:Int)++t))++(t++n)):=QE
 have E:(gb t).length=(e8 t.length).length+4+t.length:=by rw[gb,aN ac,bt,iB];simp only[bM,hF,dp,fY]
 have g:(hF (hG (bt (t.length:Int)++t))).length=4:=rfl;have b:(hF (hG (bt (t.length:Int)++t))++(t++n)).drop 4=t++n:=List.drop_left' g;have D:(hF (hG (bt (t.length:Int)++t))++(t++n)).take 4=hF (hG (bt (t.length:Int)++t)):=zG g;unfold fV;rw[Q,q];simp only[hm,zH,nJ,b,D,o0];rw[aN ac,aN (by simp only[bM,g];omega)];rw[aT trivial,E];congr 2;simp only[bM,g];omega
def jc:Nat->ab (ab aP)->ab (Nat×ab aP)
 |_,[]=>[]
 |i,t::l=>(i+(gb t).length,t)::jc (i+(gb t).length) l
def xo(t:ab aP)(l:ab (ab aP)):nd (t::l)=gb t++nd l:=by simp[nd]
def JX{l:ab (ab aP)}(h:∀t,t∈l->t.length<=16384):5*l.length<=(nd l).length:=by
 induction l with
 |nil=>simp
 |cons t l u=>
  have F:=zF (h t XE);have M:=u λx U=>h x (by simp[U]);rw[xo,bM,dp];omega
def xp{a b:Nat}(h:a^^^b=0):a=b:=by
 have:a^^^b^^^b=0^^^b:=by rw[h]
 rwa[pf,vz,Nat.xor_zero,Nat.zero_xor]at this
def aa4(a b:Nat):lo (a^^^b)=lo a^^^lo b:=by
 have h:=Dl a b;unfold lo;rw[Dk];by_cases o:a%2=1
 .by_cases R:b%2=1
  .rw[aN ac,aT o,aT R];rw[pf,zs p7,pf,vz,Nat.xor_zero]
  .rw[aT ac,aT o,aN R,pf,pf,zs p7]
 .by_cases R:b%2=1
  .rw[aT ac,aN o,aT R,pf]
  .rw[aN ac,aN o,aN R]
def sf(a b:Nat):∀k,gu k (a^^^b)=gu k a^^^gu k b
 |0=>rfl
 |k+1=>by rw[gu,gu,gu,sf a b k,aa4]
def acw{d:Nat}(b:d<4294967296)(h:lo d=0):d=0:=by
 unfold lo at h;split at h
 .have:=xp h;unfold p7 at this;omega
 .omega
def zI{d:Nat}(b:d<4294967296):∀k,gu k d=0->d=0
 |0,h=>h
 |k+1,h=>zI b k (acw (xe b k) h)
def J0(k:Nat)(c:Nat):gu k (lo c)=lo (gu k c):=by
 induction k with
 |zero=>rfl
 |succ k u=>rw[gu,gu,u]
def DU(y:Nat):∀k,gu k (2^k*y)=y
 |0=>by simp[gu]
 |k+1=>by
  have F:2^(k+1)*y=2*(2^k*y):=by rw[vh,zr (2^k) 2,Nat.mul_assoc]
  have M:lo (2*(2^k*y))=2^k*y:=by unfold lo;rw[aN ac];omega
  rw[gu,<-J0,F,M,DU y k]
def aba(j k c:Nat):gu (j+k) c=gu j (gu k c):=by
 induction j with
 |zero=>rw[hm];rfl
 |succ j u=>rw[Nat.succ_add,gu,u,gu]
def kR:ab aP->ab aP->Nat
 |x::s,y::t=>(x.toNat^^^y.toNat)^^^(256*kR s t)
 |_,_=>0
def DV:∀s,kR s s=0
 |[]=>rfl
 |x::s=>by rw[kR,vz,DV s];rfl
def DW(x y:aP):x.toNat^^^y.toNat<256:=Dm (n:=8) x.toNat_lt y.toNat_lt
def DX:∀(s t:ab aP),s.length=t.length->kR s t=0->s=t
 |[],[],_,_=>rfl
 |[],_::_,h,_=>XU
 |_::_,[],h,_=>XU
 |x::s,y::t,E,h=>by
  have F:=xp h;have M:=DW x y;have g:x.toNat^^^y.toNat=0:=ac
  have z:kR s t=0:=ac
  rw[DX s t (by simpa using E) z,UInt8.toNat_inj.1 (xp g)]
def DY:∀(s t:ab aP) (n:Nat),s.length<=n->kR s t<2^(8*n)
 |[],t,n,_=>by
  have:kR [] t=0:=by cases t<;>rfl
  rw[this];exact Nat.two_pow_pos _
 |_::_,[],n,_=>Nat.two_pow_pos _
 |x::s,y::t,0,h=>XU
 |x::s,y::t,n+1,h=>by
  have F:=DY s t n XV;have M:=DW x y;have g:2^(8*(n+1))=256*2^(8*n):=by rw[Nat.mul_add,Nat.pow_add,zr]
  have g:0<2^(8*n):=Nat.two_pow_pos _;rw[kR];exact Dm ac ac
def zJ:∀(s t:ab aP) (c d:Nat),s.length=t.length->hZ c s^^^hZ d t=gu (8*s.length) ((c^^^d)^^^kR s t)
 |[],[],c,d,_=>by simp[hZ,kR,gu]
 |[],_::_,_,_,h=>XU
 |_::_,[],_,_,h=>XU
 |x::s,y::t,c,d,E=>by
  have u:=zJ s t (lp c x.toNat) (lp d y.toNat) (by simpa using E);have b:hZ c (x::s)=hZ (lp c x.toNat) s:=rfl;have J:hZ d (y::t)=hZ (lp d y.toNat) t:=rfl;have p:=DU (kR s t) 8;have T:lp c x.toNat^^^lp d y.toNat^^^kR s t=gu 8 ((c^^^d)^^^((x.toNat^^^y.toNat)^^^(256*kR s t))):=by rw[sf,sf _ (256*kR s t),show 256*kR s t=2^8*kR s t from rfl,p,lp,lp,sf,sf,sf,sf];simp only[pf];congr 1;rw[<-pf (gu 8 x.toNat),zs (gu 8 x.toNat),pf]
  rw[b,J,u,T,kR,dp,Nat.mul_add,aba]
def J2{c d:Nat}(u:c<4294967296)(b:d<4294967296){s:ab aP}(h:hZ c s=hZ d s):c=d:=by have:=zJ s s c d rfl;rw[h,vz,DV,Nat.xor_zero]at this;exact xp (zI (vk u b) _ this.symm)
def J3{c:Nat}(u:c<4294967296)(a b s t:ab aP)(E:s.length=t.length)(g:s.length<=4)(N:s≠t):hZ c (a++s++b)≠hZ c (a++t++b):=by intro h;rw[vl,vl,vl c (a++t),vl c a t]at h;have R:=r8 u a;have F:=J2 (r8 R s) (r8 R t) h;have M:=zJ s t (hZ c a) (hZ c a) E;rw[F,vz,vz,Nat.zero_xor]at M;exact N (DX s t E (zI (DY s t 4 g) _ M.symm))
def J4{a b:Nat}(o:a<4294967296)(R:b<4294967296)(h:hF a=hF b):a=b:=by
 simp only[hF,pP,ld]at h;obtain⟨f,F,M,g⟩:=h;have e:∀{x y:Nat},UInt8.ofNat x=UInt8.ofNat y->x%256=y%256:=λ{x y} h=>by have:=db UInt8.toNat h;simpa using this
 have:=e f;have:=e F;have:=e M;have:=e g;omega
def agn{n:Nat}(v:n<=16384){f t:ab aP}(l:f.length=4)(j:t.length=n)(N:hF (hG (bt (n:Int)++t))≠f):fV (bt (n:Int)++(f++t))=([],0):=by
 have q:=vm n 0 0 (f++t) (by
  have:(128:Nat)^(9-0)=9223372036854775808:=XG
  omega) (.inr rfl)
 have b:(f++t).drop 4=t:=List.drop_left' l;have D:(f++t).take 4=f:=zG l;have e:bt (n:Int)=e8 n:=by rw[bt,iB]
 unfold fV;rw[e,q];simp only[hm,zH,nJ,b,D];rw[aN ac,aN (by rw[bM];omega),j4 ac];rw[aN N]
def acu(n:Nat):∀(i acc j:Nat),j<(e8 n).length->hY ((e8 n).take j) i acc=none:=by
 induction n using Nat.strongRecOn with
 |_ n u=>
  intro i acc j p;cases j with
  |zero=>rfl
  |succ j=>
   by_cases E:n<128
   .rw[nO E]at p;simp at p
   .rw[oq E]at p⊢;rw[tm,hY];split
    .rfl
    .have:(UInt8.ofNat (128+n%128)).toNat=128+n%128:=by simp;omega
     rw[aN ac];exact u (n/128) ac _ _ _ (by simpa using p)
def acA{t:ab aP}(j:t.length<=16384){k:Nat}(T:k<(gb t).length):fV ((gb t).take k)=([],0):=by
 have Q:gb t=e8 t.length++(hF (hG (bt (t.length:Int)++t))++t):=QE
 have E:(gb t).length=(e8 t.length).length+4+t.length:=by rw[Q];simp only[bM,hF,dp,fY];omega
 unfold fV;by_cases h:k<(e8 t.length).length
 .rw[Q,nB ac,acu _ _ _ _ h]
 .have e:(gb t).take k=e8 t.length++(hF (hG (bt (t.length:Int)++t))++t).take (k-(e8 t.length).length):=by rw[Q,qO,j4 ac]
  have q:=vm t.length 0 0 ((hF (hG (bt (t.length:Int)++t))++t).take (k-(e8 t.length).length)) (by
   have:(128:Nat)^(9-0)=9223372036854775808:=XG
   omega) (.inr rfl)
  rw[e,q];simp only[hm,zH,nJ];rw[aN ac,aT X4]
def J7(n:Nat)(z:aP):∀(i acc j:Nat),j<(e8 n).length->hY ((e8 n).take j++[z]) i acc=none\/∃v,hY ((e8 n).take j++[z]) i acc=some (v,[]):=by
 induction n using Nat.strongRecOn with
 |_ n u=>
  intro i acc j p;cases j with
  |zero=>
   rw[uU,gi,hY];split
   .exact .inl rfl
   .split
    .split
     .exact .inl rfl
     .exact .inr ⟨_,rfl⟩
    .rw[hY];exact .inl rfl
  |succ j=>
   by_cases E:n<128
   .rw[nO E]at p;simp at p
   .rw[oq E]at p⊢;rw[tm,kn,hY];split
    .exact .inl rfl
    .have:(UInt8.ofNat (128+n%128)).toNat=128+n%128:=by simp;omega
     rw[aN ac];exact u (n/128) ac _ _ _ (by simpa using p)
theorem DZ{t:ab aP}(P:t.length<=16384)(f:0<t.length){k:Nat}(T:k<(gb t).length)(z:aP)(w:k+1<(gb t).length\/(gb t)[k]?≠some z):fV ((gb t).take k++[z])=([],0):=by
 have W:bt (t.length:Int)=e8 t.length:=by rw[bt,iB]
 have L:(hF (hG (bt (t.length:Int)++t))).length=4:=rfl;have Q:gb t=e8 t.length++(hF (hG (bt (t.length:Int)++t))++t):=by rw[gb,aN ac,W];simp only[cd]
 have E:(gb t).length=(e8 t.length).length+(4+t.length):=by rw[Q,bM,bM,L]
 by_cases h:k<(e8 t.length).length
 .rw[Q,nB ac];unfold fV;rcases J7 t.length z 0 0 k h with e|⟨v,e⟩<;>rw[e];dsimp only;split
  .rfl
  .rw[aT (by simp only[fY];omega)]
 .obtain⟨j,rfl⟩:∃j,k=(e8 t.length).length+j:=⟨k-(e8 t.length).length,ac⟩
  have Z:∀M:ab aP,(e8 t.length++M).take ((e8 t.length).length+j)=e8 t.length++M.take j:=λM=>C5 ..;by_cases p:j+1<4+t.length
  .rw[Q,Z,cd];generalize N:hF (hG (bt (t.length:Int)++t))++t=M;have d:M.length=4+t.length:=by rw[<-N,bM,L]
   have q:=vm t.length 0 0 (M.take j++[z]) (by
    have:(128:Nat)^(9-0)=9223372036854775808:=XG
    omega) (.inr rfl)
   unfold fV;rw[q];simp only[hm,zH,nJ];rw[aN ac,aT (by rw[bM,eX,dp,fY];omega)]
  .obtain⟨m,y,X⟩:∃m y,t=m++[y]:=⟨t.dropLast,t.getLast (by intro e;rw[e]at f;simp at f),(List.dropLast_concat_getLast _).symm⟩
   have b:t.length=m.length+1:=by rw[X];simp
   have d:j=4+m.length:=ac
   have u:y≠z:=by
    rcases w with w|w
    .omega
    .intro e;apply w;rw[Q,iu ac,show(e8 t.length).length+j-(e8 t.length).length=j by omega,iu ac,L,show j-4=m.length by omega,X,<-e];simp
   have b:(hF (hG (bt (t.length:Int)++t))++t).take j=hF (hG (bt (t.length:Int)++t))++m:=by
    rw[qO,j4 ac,L,show j-4=m.length by omega];congr 1;conv=>lhs;rw[X]
    exact zG rfl
   rw[Q,Z,b,cd,cd,<-W];refine agn P L XM ?_;intro b;have F:=J4 (Dp _) (Dp _) b;obtain⟨L,o⟩:∃L,bt (t.length:Int)=L:=⟨_,rfl⟩
   rw[o]at F;have R:=J3 (c:=4294967295) XG (L++m) [] [y] [z] rfl XE (by simpa using u);apply R;have h:=r8 (c:=4294967295) XG (L++m++[y]++[]);have l:=r8 (c:=4294967295) XG (L++m++[z]++[]);have J:L++t=L++m++[y]++[]:=by rw[X];simp
   have p:L++(m++[z])=L++m++[z]++[]:=XE
   rw[J,p]at F;unfold hG at F;omega
end Go.Proofs.YteogojgnkjegmaaGreatDoor
namespace Go.Proofs.YteogojgnkjegmaaGreatDoor
open Go.ay Go.Proofs.Tryz
variable[Go.ay.bR]
variable{n:Int}{m:aD}
def iY:eo m n=true↔gQ m n:=by unfold eo;exact@decide_eq_true_iff _ (Classical.propDecidable _)
def vA(v:n<=7)(h:gQ m n):(he m).length<=500:=by
 have b:=h.jb;have E:=h.kd;have J:=h.f2;have j:=h.t2;have x:=fq (n:=m.Kind) ac;have l:=fq (n:=m.bm) ac;have z:=fq (n:=m.b3) ac;have L:=zD h.item ac;have q:=tE h.b2 ac;have F:(ks m).length<=9:=by
  unfold ks;split
  .exact fq QI
  .simp
 have Z:(mr m).length<=27:=by
  unfold mr;split
  .rename_i T;obtain⟨g,s,Y,a⟩:=h.known T;have:=tE g ac;have:=fq (n:=m.Status) ac;rw[bM];omega
  .simp
 have o:(jN m).length<=300:=by
  unfold jN;split
  .rename_i T;have:=h.call;rw[aT T]at this;exact xi this
  .simp
 unfold he;simp only[bM];omega
def gj(m:aD):ab aP:=gb (he m)
def agj(m:aD)(n:Int)(a:n<=7):ar prog 88 [A m.c,I n] [cv] (λr Y=>r=(if eo m n=true then .tuple #[S (gj m),I 0]else .tuple #[S [],I 1])/\Y=[cv]):=by
 have J:=xm m n;by_cases q:eo m n=true
 .rw[q]at J;rw[aT q];have E:=vA a (iY.1 q);have r (b:Nat) (v:aj):=adA b v m n a (iY.1 q);unfold gj;refine aB func88 λW=>?_;refine aa 2 ?_;refine ai.o (O.SZ c0 5 1 rfl (λt=>?_));refine aa 24 ?_;refine ai.o (O.SZ c0 5 1 rfl (λg=>?_));refine aa 7 ?_;refine ai.o' rfl (r _ _) ?_;refine Qo λd=>?_;exact aM 6
 .rw[aN q];rw[show eo m n=false by simpa using q]at J;refine aB func88 λW=>?_;refine aq 2 λt=>?_;exact aM 28
def J9(v:n<=7)(h:gQ m n):5<=(gj m).length/\(gj m).length<=600:=by have:=vA v h;have:=zF (t:=he m) ac;unfold gj;omega
def Ka(m:aD)(n:Int)(v:n<=7)(h:gQ m n):ar prog 92 [S (gj m),I n] [cv] (λr Y=>r=.tuple #[A m.c,I 0]/\Y=[cv]):=by have J:=xm m n;rw[iY.2 h]at J;have E:=vA v h;have R:=J9 v h;have u:=Dv (gj m) ac;have Q:=DT (t:=he m) ac [];rw[dk]at Q;have z:fV (gj m)=(he m,((gj m).length:Int)):=Q;rw[z]at u;have r (b:Nat):=acF b m n v h;refine aB func92 λW=>?_;refine aq 2 λh=>?_;refine aa 28 ?_;refine ah.c (λQ=>?_) (λQ=>?_);exact ko Q;replace Q:=fT Q;refine aa 5 ?_;refine ai.o' rfl (ra _) ?_;rintro _ _⟨X,rfl,rfl⟩;refine aa 7 ?_;refine ai.o' rfl (r _) ?_;refine aq 1 λh=>?_;refine aa 7 ?_;refine ai.o' rfl (De _ _) ?_;exact aM 27
def fb(i:ba)(n:Int):Bool:=
 eD i.cJ n&&(eD i.cY n&&(decide (0<=i.Status)&&(decide (i.Status<=3)&&(eQ i.Call n&&(decide (i.Status≠0)||decide (i={ba.z with cJ:=i.cJ}))))))
def D0(i:ba)(n:Int):cX prog 206 [A i.c,I n] (B (fb i n)):=by
 have R:=w6 i.cJ n;have t:=w6 i.cY n;have u:=DD i.Call n;refine aB func206 λW=>?_;refine aq 2 λo=>?_;refine aa 12 ?_;refine ai.aU (λT=>?_) (λT=>?_);refine aa 34 ?_
 exact ZC
 refine aa 7 ?_;refine ai.aU (λE=>?_) (λE=>?_);refine aa 27 ?_
 exact ZC
 refine RH (λq=>?_) λq=>?_;refine aa 22 ?_
 exact ZC
 refine RH (λD=>?_) λD=>?_;refine aa 17 ?_
 exact ZC
 refine aa 8 ?_;refine Rx (λL=>?_) λL=>?_
 exact ZC
 refine aa 8 ?_;refine RA (λd=>?_) λd=>?_
 exact ZC
 refine aa 4 ?_;refine ai.v (V.eq (ba.P' _ _ _)) ?_;refine aa 6 ?_
 exact ZC
def nS{i:ba}(h:fb i n=true):eD i.cJ n=true/\eD i.cY n=true/\0<=i.Status/\i.Status<=3/\eQ i.Call n=true/\(i.Status=0->i={ba.z with cJ:=i.cJ}):=by simp only[fb,cZ,ib,da]at h;exact⟨h.1,h.2.1,h.2.2.1,h.2.2.2.1,h.2.2.2.2.1,λf=>h.2.2.2.2.2.resolve_left (λF=>F f)⟩
def kS(x:ag)(i:ba):ab aP:=iV x++(hs i.cJ++(hs i.cY++(bt i.Status++(bt (if i.dB then 1 else 0)++ja i.Call))))
def fr(x:ag)(i:ba):ab aP:=gb (kS x i)
def vB(h:n<=1099511627776):(bt n).length<=6:=zi 5 _ ac
def tH{b:bk}(h:eD b n=true)(v:n<=7):(hs b).length<=7:=by obtain⟨F,M,g,z⟩:=ou h;have h:=vB (n:=b.Round) ac;have l:=mo (n:=b.be) ac;unfold hs;rw[bM];omega
def zK{x:ag}(h:bB x n=true)(v:n<=7):(iV x).length<=2:=by obtain⟨F,M,g,z⟩:=tF h;have h:=mo (n:=x.bH) ac;have l:=mo (n:=x.be) ac;unfold iV;rw[bM];omega
def zL{c:aV}(h:eQ c n=true):(ja c).length<=82:=by obtain⟨F,M,g,z⟩:=nQ h;obtain⟨m,C,z,K,y,d,R,X,G,u⟩:=re F;have h:=mo (n:=c.cz.Kind) ac;have l:=mo (n:=(c.cz.Key.length:Int)) ac;have g:=mo (n:=(c.cz.Value.length:Int)) ac;have L:=vB (n:=c.cz.Version) ac;have E:=vB (n:=c.cz.cy) ac;have F:=vB (n:=c.cz.Number) ac;have Z:=xh M;have o:=vB (n:=c.Seq) ac;unfold ja na;simp only[bM];omega
theorem xq{x:ag}{i:ba}(v:n<=7)(U:bB x n=true)(ao:fb i n=true):0<(kS x i).length/\(kS x i).length<=100:=by obtain⟨F,M,g,z,N,E⟩:=nS ao;have Y:=zK U v;have h:=tH F v;have l:=tH M v;have W:=mo (n:=i.Status) ac;have L:=mo (n:=if i.dB then 1 else 0) HB;have E:=zL N;have F:=zk i.Status;unfold kS;simp only[bM];omega
def vC{x:ag}{i:ba}(v:n<=7)(U:bB x n=true)(ao:fb i n=true):5<=(fr x i).length/\(fr x i).length<=105:=by have h:=xq v U ao;unfold fr;rw[gb,aN ac];have h:=mo (n:=((kS x i).length:Int)) ac;have l:=zk ((kS x i).length:Int);simp only[bM,hF,dp,fY];omega
def D1(x:ag)(i:ba)(n:Int)(v:n<=7)(U:bB x n=true)(ao:fb i n=true):cX prog 278 [A x.c,A i.c] (S (fr x i)):=by
 obtain⟨F,M,g,z,N,E⟩:=nS ao;obtain⟨d,K,R,X⟩:=tF U;obtain⟨W,s,G,P⟩:=ou F;obtain⟨f,Z,a,r⟩:=ou M;have Y:=zK U v;have h:=tH F v;have l:=tH M v;have j:=mo (n:=i.Status) ac;have L:=mo (n:=if i.dB then 1 else 0) HB;have E:=zL N;have Z:=xq v U ao;have r (b:Nat) (v:aj) (J:ab aP) (G:J.length<=600000):=xj b v J i.Call n N G;have e:kS x i=[]++iV x++hs i.cJ++hs i.cY++bt i.Status++bt (if i.dB then 1 else 0)++ja i.Call:=by simp only[kS,cd,gi]
 unfold fr;rw[e]at Z⊢;refine aB func278 λW=>?_;refine aa 2 ?_;refine ai.o (O.SZ c0 5 1 rfl (λt=>?_));refine ai.o (O.SZ c0 5 1 rfl (λa=>?_));refine aa 6 ?_;refine ai.o (O.SZ c0 5 1 rfl (λY=>?_));refine aa 7 ?_;refine ai.o' rfl (vo _ _ _ _ ?_ ?_ ?_) ?_;iterate 3 exact b1
 rintro _ _⟨Q,rfl,rfl⟩;refine aa 8 ?_;refine ai.o' rfl (r9 _ _ _ _ ?_ ?_ ?_) ?_;iterate 3 exact b1
 rintro _ _⟨W,rfl,rfl⟩;refine aa 8 ?_;refine ai.o' rfl (r9 _ _ _ _ ?_ ?_ ?_) ?_;iterate 3 exact b1
 rintro _ _⟨g,rfl,rfl⟩;refine aq 8 λL=>?_;refine ai.o' rfl (pe _ _ _ _ _ ?_ ?_) ?_;iterate 2 exact b1
 rintro _ _⟨z,rfl,rfl⟩;refine aa 8 ?_;refine ai.o' rfl (zo _ _ _ _ ?_) ?_;exact b1;rintro _ _⟨q,rfl,rfl⟩;refine aa 8 ?_;refine ai.o' rfl (r _ _ _ ?_) ?_;exact b1;refine Qo λM=>?_;exact aM 5
def Kb(x:ag)(i:ba)(n:Int)(v:n<=7)(U:bB x n=true)(ao:fb i n=true):cX prog 142 [S (kS x i),I n] (.tuple #[A x.c,A i.c,B true]):=by
 obtain⟨F,M,g,z,N,E⟩:=nS ao;have Y:=zK U v;have h:=tH F v;have l:=tH M v;have W:=mo (n:=i.Status) ac;have L:=mo (n:=if i.dB then 1 else 0) HB;have E:=zL N;have j:=lU x n;rw[U]at j;have J:=D0 i n;rw[ao]at J;have W:=ov U v;have Y:=rj F v;have g:=rj M v;have r (b:Nat) (l:ab aP) (o:l.length<=1000000):=xk b i.Call n l N o;have e:kS x i=iV x++(hs i.cJ++(hs i.cY++(bt i.Status++(bt (if i.dB then 1 else 0)++(ja i.Call++[]))))):=by simp only[kS,dk]
 rw[e];refine aB func142 λW=>?_;refine aq 2 λh=>?_;refine aq 0 λC=>?_;refine aa 6 ?_;refine ai.o' rfl (ra _) ?_;rintro _ _⟨f,rfl,rfl⟩;refine aa 7 ?_;refine ai.o' rfl (vp _ _ _ ?_ ?_) ?_;iterate 2 exact b1
 refine aq 1 λd=>?_;refine aa 6 ?_;refine ai.o' rfl (sa _ _ _ ?_ ?_) ?_;iterate 2 exact b1
 refine aa 2 ?_;refine ai.o' rfl (sa _ _ _ ?_ ?_) ?_;iterate 2 exact b1
 refine aa 2 ?_;refine ai.o' rfl (iF _ _ _ _ ?_ ?_ ?_ ?_) ?_;iterate 4 exact b1
 refine aa 2 ?_;refine ai.o' rfl (zA _ _ _ ?_) ?_;exact b1;refine aa 2 ?_;refine ai.o' rfl (r _ _ ?_) ?_;exact b1;refine aq 2 λh=>?_;refine aa 4 ?_;refine ah.n' ?_ aA.j.j.d'.j.d';refine ae 3 0 ?_;refine af.o' 3 rfl rfl (De _ _) ?_;refine aa 2 ?_;refine ae 13 4 ?_;refine aa 3 ?_;refine Out.f3 rfl (eG.SS ad) (eG.SS ad) eG.t ⟨?_,rfl⟩;exact rfl
end Go.Proofs.YteogojgnkjegmaaGreatDoor
namespace Go.Proofs.YteogojgnkjegmaaGreatDoor
open Go.ay Go.Proofs.Tryz
def qc(x:aP):(c0 x).length=1:=rfl
def fc(b:Nat)(v:aj)(q:ab aP)(i:Int):ab ax:=[cells b 156 (kp.c ⟨v,i⟩),dF c0 v 5 1 q]
def Kc:ar prog 46 [] [] (λr Y=>∃b v,r=au b 0/\Y=fc b v [] 0):=by
 unfold fc;refine aB func46 λW=>?_;refine ah.RK c0 5 1 ?_;refine ah.toX ?_;refine aq 8 λo=>?_;refine aa 5 ?_
 .exact⟨_,_,⟨_,.slice none 0 0,rfl,rfl⟩,XC⟩
def ac8(b:Nat)(v:aj)(q:ab aP)(i:Int):ar prog 279 [au b 0] (fc b v q i) (λr Y=>r=I (q.length:Int)/\Y=fc b v q i):=by unfold fc;refine aB func279 λW=>?_;refine ah.fact (q6 (f:=c0) (v:=v) (l:=q) qc X2) λt=>?_;obtain⟨c,C,F,off,rfl,u,T⟩:=t;exact aM 27
def Ke(b:Nat)(v:aj)(q:ab aP)(i:Int):ar prog 140 [au b 0] (fc b v q i) (λr Y=>r=S q/\Y=fc b v q i):=by unfold fc;refine aB func140 λW=>?_;refine ah.fact (q6 (f:=c0) (v:=v) (l:=q) qc X2) λt=>?_;obtain⟨c,C,F,off,rfl,u,T⟩:=t;refine aa 21 ?_;refine ai.v (V.WN ad rfl T X2) ?_;exact aM 5
def Kf(b:Nat)(v:aj)(q:ab aP)(i:Int):ar prog 189 [au b 0] (fc b v q i) (λr Y=>r=I 0/\Y=fc b v q q.length):=by unfold fc;refine aB func189 λW=>?_;refine ah.fact (q6 (f:=c0) (v:=v) (l:=q) qc X2) λt=>?_;obtain⟨c,C,F,off,rfl,u,T⟩:=t;exact aM 35
def D2(b:Nat)(v:aj)(q:ab aP)(i:Int)(s:ab aP):ar prog 144 [au b 0,S s] (fc b v q i) (λr Y=>(65536<s.length/\r=I 6/\Y=fc b v q i)\/(s.length<=65536/\∃X,r=I 0/\Y=fc b X s s.length)):=by
 unfold fc;by_cases Q:65536<s.length
 .refine aB func144 λW=>?_;refine aa 33 ?_
  .exact⟨_,_,.inl ⟨Q,rfl,rfl⟩,XC⟩
 .refine aB func144 λW=>?_;refine aa 32 ?_;refine ai.o (aw.WM ad rfl (λQ j=>?_) ac);refine aa 17 ?_
  .exact⟨_,_,.inr ⟨ac,_,rfl,rfl⟩,XC⟩
def acG(b:Nat)(v:aj)(q:ab aP)(i:Int)(s:ab aP)(e:ax)(m:aQ Go.Addr)(C U off:Nat)(E:Rd e m 1 U off 1 [[S s]])(n:q.length<=65536)(Q:s.length<=1000000):ar prog 281 [au b 0,.slice m 1 C] (fc b v q i++[e]) (λr Y=>(65536<q.length+s.length/\r=I 6/\Y=fc b v q i++[e])\/(q.length+s.length<=65536/\∃X,r=I 0/\Y=fc b X (q++s) i++[e])):=by
 unfold fc;refine bh ?_;refine aB func281 λW=>?_;refine ah.fact (q6 (f:=c0) (v:=v) (l:=q) qc X2) λt=>?_;obtain⟨d,P,Yf,p,rfl,u,D⟩:=t;have L:([[S s]]:ab (ab aj))[0]?=some [S s]:=rfl;refine aa 34 ?_;refine ah.cb [18,17,1,0] (λk:Nat=>k<=1) (λk=>[(19,I (k:Int)),(5,I ((q.length+k*s.length:Nat):Int))]) (λ_=>[]) (λk=>1-k) 0 (cw _) ?_ (g:=by rw[pN,gJ];(repeat(first|exact dg.nil|refine dg.cons rfl rfl ?_)));intro k T K a;refine bh ?_;by_cases R:k=0
 .subst R;rw[pN,gJ];refine aa 14 ?_;refine ai.v (V.SU ad rfl E L) ?_;refine aa 16 ?_;exact Out.t' a 1 (cl _) ac (g:=by rw[Nat.one_mul,Int.natCast_add];(repeat(first|exact dg.nil|refine dg.cons rfl rfl ?_)))
 .obtain rfl:k=1:=by omega
  clear a;rw[Nat.one_mul,Int.natCast_add];refine aa 19 ?_;refine Rx (λj=>?_) λj=>?_
  .exact⟨_,_,.inl ⟨ac,rfl,rfl⟩,XC⟩
  refine aa 3 ?_;have x:q.length+s.length<=65536:=ac
  refine aa 8 ?_;refine ah.cb [31,30,1,0] (λy:Nat×aj×ab aP=>(y.1=0/\y.2.2=q)\/(y.1=1/\y.2.2=q++s)) (λy=>[(32,I (y.1:Int))]) (λy=>[cells b 156 (kp.c ⟨y.2.1,i⟩),dF c0 y.2.1 5 1 y.2.2]) (λy=>1-y.1) (0,_,q) (.inl ⟨rfl,rfl⟩) ?_;rintro⟨k,g,Z⟩ G K a;refine bh ?_;rcases G with⟨F,M⟩|⟨F,M⟩
  .dsimp only at F M;subst F M;refine ah.fact (q6 (f:=c0) (v:=g) (l:=Z) qc X2) λt=>?_;obtain⟨N,J,Yc,w,rfl,h,z⟩:=t;refine aa 14 ?_;refine ai.v (V.SU ad rfl E L) ?_;refine aa 10 ?_;refine ai.o (O.Va ad rfl rfl XJ (ce.str ad) (λYg Ye=>?_));refine aa 10 ?_;exact Out.t' a (1,_,Z++s) (.inr ⟨rfl,rfl⟩) (by show 1-1<1-0;omega)
  .dsimp only at F M;subst F M;clear a;refine aa 19 ?_
   .exact⟨_,_,.inr ⟨x,_,rfl,rfl⟩,XC⟩
def pm(q:ab aP)(i:Nat)(G:Int):Nat:=Min.min (Max.max G 0).toNat (q.length-i)
def sg(q:ab aP)(i:Nat)(G:Int)(d:aP):ab aP:=
 if pm q i G=0 then q.take i
 else(q.take (i+pm q i G)).set (i+pm q i G-1) ((q.take (i+pm q i G)).getD (i+pm q i G-1) 0^^^d)
def Kh:∀x y:aP,j7 .xor .u8 (x.toNat:Int) (y.toNat:Int)=some ((x^^^y).toNat:Int):=λx y=>by
 have b:∀z:aP,BitVec.ofInt IntKind.u8.bits (z.toNat:Int)=z.toBitVec:=λz=>by
  show BitVec.ofInt 8 (z.toNat:Int)=_
  rw[q9];apply BitVec.eq_of_toNat_eq;simp
 simp only[j7,b];show some (IntKind.u8.wrap ((x.toBitVec^^^y.toBitVec).toNat:Int))=_
 have h:((x^^^y).toNat)<256:=(x^^^y).toNat_lt;have J:(x.toBitVec^^^y.toBitVec).toNat=(x^^^y).toNat:=rfl;rw[J];have M:x.toNat^^^y.toNat<256:=by have:=h;rwa[UInt8.toNat_xor]at this
 simp only[IntKind.wrap,IntKind.signed,IntKind.bits];simp;omega
def af5(b:Nat)(v:aj)(q:ab aP)(i:Nat)(G:Int)(g:aP)(Q:i<=q.length)(n:q.length<=65536):ar prog 48 [au b 0,I G,.int .u8 (g.toNat:Int)] (fc b v q i) (λr Y=>∃X,r=I 0/\Y=fc b X (sg q i G g) (sg q i G g).length):=by
 obtain⟨N,a⟩:∃N,N=pm q i G:=⟨_,rfl⟩
 have Z:(N:Int)=Min.min (Max.max G 0) ((q.length:Int)-(i:Int)):=by rw[a];unfold pm;omega
 have y:i+N<=q.length:=by rw[a];unfold pm;omega
 have m:((i:Int)+(N:Int))=((i+N:Nat):Int):=ac
 unfold fc sg;rw[<-a];refine aB func48 λW=>?_;refine ah.fact (q6 (f:=c0) (v:=v) (l:=q) qc X2) λL=>?_;obtain⟨c,C,F,off,rfl,u,T⟩:=L;refine aa 16 ?_;refine ah.n' ?_ aA.j.d';refine ae 14 0 ?_;refine aa 2 ?_;dsimp only;rw[<-Z];refine av ?_;refine ah.RN [14] ?_ aA.j.d' aA.j.j;refine ae 4 0 ?_;refine ae 3 5 ?_;refine ae 1 9 ?_;refine Pw ?_;refine ae 1 10 ?_;refine af.i' 11 rfl (V.SW ad (j:=i+N) rfl rfl ac) ?_;refine ae 2 12 ?_;refine af.l 14 rfl (O.G' ad ?_);refine aa 4 ?_;refine ah.WK (f:=c0) (K:=C) (i+N) qc y ?_;obtain⟨D,x⟩:∃D,D=q.take (i+N):=⟨_,rfl⟩
 have M:D.length=i+N:=by rw[x,eX];omega
 rw[<-x,<-M];refine ah.fact (q6 (f:=c0) (v:=.slice c D.length C) (l:=D) qc X2) λL=>?_;obtain⟨J,s,Yc,k,d,h,p⟩:=L;simp only[rk,true_and]at d;obtain⟨rfl,rfl⟩:=d;by_cases P:N=0
 .subst P;rw[aT rfl];have K:q.take i=D:=by rw[x,gJ]
  rw[K];exact aM 29
 .rw[aN P];obtain⟨z,w⟩:=b8 (show D.length-1<D.length by omega);have R:D.getD (D.length-1) 0=z:=by rw[List.getD,w];rfl
  rw[R];have E:=iM (f:=c0) w;have U:=Kh z g;have o:=p.addr ac;subst o;have s:((D.length:Int)-1)=((D.length-1:Nat):Int):=ac
  have u:(D.set (D.length-1) (z^^^g)).length=D.length:=b9;rw[u];refine aa 7 ?_;refine ah.n' ?_ aA.d'.j;refine ae 9 0 ?_;refine af.i' 9 rfl (V.Q' s rfl rfl ac) ?_;refine af.i' 10 rfl (V.SG ad rfl rfl XF) ?_;refine ae 1 12 ?_;refine af.p' 11 rfl (aw.q' (V.SU ad rfl p E) ?_);refine av ?_;refine af.i' 13 rfl (V.S3 rfl rfl U) ?_;refine af.i' 14 rfl (V.SG ad rfl rfl XF) ?_;refine af.p' 15 rfl (O.WP ad (f:=c0) (a:=z^^^g) rfl rfl rfl rfl XH rfl ac qc ?_);exact aM 23
def abw(n:Int):ar prog 51 [I n] [] (λv Y=>∃b,v=au b 0/\Y=[dM ba.c 169 54 20 b (List.replicate 7 (.slice none 0 0)) (List.replicate 7 (.slice none 0 0)) (aJ.new n:aJ ba)]):=by
 have h:ar prog 51 [I n] [] (λv Y=>∃b,v=au b 0/\Y=[cells b 169 (ca (List.replicate 7 (.slice none 0 0)) (List.replicate 7 (.slice none 0 0)) (aJ.new n:aJ ba))]):=by refine aB func51 λW=>?_;refine aq 11 λF=>?_;exact aM 5
 refine QN λb W D w y=>?_;have F:=H.p2 ba.c 54 20 7 (H.p2 eH 4 1 7 y);exact Kk
def D3(b:Nat)(N a:ab aj)(p:aJ ba)(U:Int)(m:p.wf)(t:N.length=7)(X:a.length=7):ar prog 81 [au b 0,I U] [dM ba.c 169 54 20 b N a p] (λr Y=>r=I (p.top U:Int)/\Y=[dM ba.c 169 54 20 b N a p]):=by
 by_cases o:0<=U/\U<p.aS
 .obtain⟨k,rfl⟩:=q7 o.1;have ao:=m.ao;have C:=m.lS;have K:=m.lT;obtain⟨v,J⟩:=b8 (q:=N) (k:=k) ac;obtain⟨u,Z⟩:=b8 (q:=a) (k:=k) ac;have T:=dM.open (f:=ba.c) (B:=169) (E:=54) (aG:=20) (b:=b) (p:=p) J Z ac ac;have aO:=ca.v (us:=a.set k u) (p:=p) (v:=v) (show k<N.length by omega);refine ar.eqv T (R:=λr Y=>r=I (p.top k:Int)/\Y=fy ba.c 169 54 20 b N a p k v u (p.x k) (p.h k)) ?_ (by rintro r Y⟨rfl,rfl⟩;exact⟨_,⟨rfl,rfl⟩,T.symm⟩);have P:(p.top k:Int)=(p.x k).length:=by simp[aJ.top,o.1,o.2]
  rw[P];unfold fy;refine aB func81 λW=>?_;refine P6 (λj=>?_) λj=>?_;(exfalso;omega);refine aa 4 ?_;refine ai.v (V.y' ad (g:=ca.r)) ?_;refine Rl (λF=>?_) λF=>?_;(exfalso;omega);refine aa 8 ?_;refine ai.v (V.UQ ad rfl rfl) ?_;refine ai.v (V.y' ad (g:=aO)) ?_;exact aM 6
 .have P:(p.top U:Int)=0:=by simp[aJ.top,o]
  rw[P];refine ar.eqv dM.bare (R:=λr Y=>r=I 0/\Y=[cells b 169 (ca N a p),gr ba.c 54 20 N p.xs,gr eH 4 1 a p.cf]) ?_ Z9;refine aB func81 λW=>?_;refine P6 (λj=>?_) λj=>?_;exact aM 18;refine aa 4 ?_;refine ai.v (V.y' ad (g:=ca.r)) ?_;exact aM 13
def zM:aQ ba->aj
 |none=>.tuple #[A ba.z.c,B false]
 |some t=>.tuple #[A t.c,B true]
def D4(b:Nat)(N w:ab aj)(p:aJ ba)(x:ag)(m:p.wf)(t:N.length=7)(D:w.length=7):ar prog 53 [au b 0,A x.c] [dM ba.c 169 54 20 b N w p] (λr Y=>r=zM (p.at x)/\Y=[dM ba.c 169 54 20 b N w p]):=by
 by_cases q:bB x p.aS=true
 .have Z:cX prog 82 [A x.c,I p.aS] (B true):=q▸lU x p.aS;simp only[bB,cZ,da]at q;obtain⟨k,lg⟩:=q7 q.1.1.1;have T:x.be.toNat=k:=by omega
  have ao:=m.ao;have lS:=m.lS;have lT:=m.lT;have Q:=m.same k;obtain⟨v,M⟩:=b8 (q:=N) (k:=k) ac;obtain⟨u,Yc⟩:=b8 (q:=w) (k:=k) ac;have d:=dM.open (f:=ba.c) (B:=169) (E:=54) (aG:=20) (b:=b) (p:=p) M Yc ac ac;refine Hz λaO q8=>?_;refine ar.eqv d (R:=λr Y=>r=zM (p.at x)/\Y=fy ba.c 169 54 20 b N w p k v u (p.x k) (p.h k)) ?_ Q9;have o:p.at x=if(p.h k).getD (x.bH-1).toNat false=true then some ((p.x k).getD (x.bH-1).toNat default)else none:=NW
  rw[o];unfold fy;refine aB func53 λW=>?_;by_cases a:((p.x k).length:Int)<x.bH
  .have:(p.h k).getD (x.bH-1).toNat false=false:=by rw[jM,u6 (by rw[<-Q];omega)];rfl
   rw[this];exact Iv
  .refine ah.form (f:=eH) (v:=u) (l:=p.h k) XB (λj F=>?_) (λg C Yf=>?_)
   .have:(p.x k).length=0:=by rw[Q,F];rfl
    omega
   refine ah.form (f:=ba.c) (v:=v) (l:=p.x k) XB (λj F=>?_) (λL z P=>?_)
   .have:(p.x k).length=0:=by rw[F];rfl
    omega
   subst Yf P;obtain⟨X,Ye⟩:=b8 (q:=p.h k) (k:=(x.bH-1).toNat) ac;obtain⟨G,i⟩:=b8 (q:=p.x k) (k:=(x.bH-1).toNat) ac;have y:(p.h k).getD (x.bH-1).toNat false=X:=by rw[jM,Ye];rfl
   have J:(p.x k).getD (x.bH-1).toNat default=G:=by rw[jM,i];rfl
   rw[y,J];cases X
   exact OX
   exact OS
 .have Z:cX prog 82 [A x.c,I p.aS] (B false):=by
   have s:bB x p.aS=false:=X3
   exact s▸lU x p.aS
  have o:p.at x=none:=by simp[aJ.at,q]
  rw[o];refine ar.eqv dM.bare (R:=λr Y=>r=zM none/\Y=[cells b 169 (ca N w p),gr ba.c 54 20 N p.xs,gr eH 4 1 w p.cf]) ?_ Z9;refine aB func53 λW=>?_;exact Lr
def agl(b:Nat)(N w:ab aj)(p:aJ ba)(x:ag)(t:ba)(o:p.wf)(ej:N.length=7)(hu:w.length=7):ar prog 143 [au b 0,A x.c,A t.c] [dM ba.c 169 54 20 b N w p] (λr Y=>∃d z,d.length=7/\z.length=7/\r=B (bB x p.aS)/\Y=[dM ba.c 169 54 20 b d z (p.set x t)]):=by
 by_cases D:bB x p.aS=true
 .refine Ja λdT q=>?_
  rw[q];simp only[bB,cZ,da]at D;obtain⟨k,lg⟩:=q7 D.1.1.1;have cc:x.be.toNat=k:=ac
  rw[cc];have ao:=o.ao;have lS:=o.lS;have lT:=o.lT;have cf:=o.same k;have Yp:=o.m9 k;obtain⟨v,Yg⟩:=b8 (q:=N) (k:=k) ac;obtain⟨u,Yh⟩:=b8 (q:=w) (k:=k) ac;have kP:=dM.open (f:=ba.c) (B:=169) (E:=54) (aG:=20) (b:=b) (p:=p) Yg Yh ac ac;refine ar.eqv kP (R:=λr Y=>∃dE iD,r=B true/\Y=fy ba.c 169 54 20 b N w p k dE iD ((gC (p.x k) x.bH.toNat default).set (x.bH-1).toNat t) ((gC (p.h k) x.bH.toNat false).set (x.bH-1).toNat true)) ?_ LK
  unfold fy;refine aB func143 λW=>?_;have Yj:∀{n:c7} {Z:bv} {Q:cE} {c:Go.Code},(((p.x k).length=0\/∃g C L T,v=.slice (some ⟨g,0,none⟩) (p.x k).length C/\u=.slice (some ⟨L,0,none⟩) (p.h k).length T)->ah prog none W (bg (fy ba.c 169 54 20 b N w p k v u (p.x k) (p.h k))) n Q c Z (fy ba.c 169 54 20 b N w p k v u (p.x k) (p.h k)))->ah prog none W (bg (fy ba.c 169 54 20 b N w p k v u (p.x k) (p.h k))) n Q c Z (fy ba.c 169 54 20 b N w p k v u (p.x k) (p.h k)):=by intro n Z Q c h;refine ah.form (f:=ba.c) (v:=v) (l:=p.x k) ZK (λ_ cm=>h (.inl (by rw[cm];rfl))) (λL T Yf=>?_);refine ah.form (f:=eH) (v:=u) (l:=p.h k) ZK (λ_ cm=>h (.inl (by rw[cf,cm];rfl))) (λg C Yi=>h (.inr ⟨_,_,_,_,Yf,Yi⟩))
  refine Yj λYo=>?_;clear Yj;refine Kd λJ Ym j=>?_
  have P:∀{a b eM},bq (8+k*1) [eM] (ca (N.set k a) (w.set k b) p) (ca (N.set k a) (w.set k eM) p):=λ{a b eM}=>⟨ca.T3 X9 ac⟩
  have F:∀{a b},b.length=7->Nat.blt (1+k*1) (ca (N.set k a) b p).length=true:=λ{a b} bY=>ZL
  have U:∀{a b},Nat.blt (8+k*1) (ca (N.set k a) (w.set k b) p).length=true:=λ{a b}=>ZL
  have i:∀{b},(w.set k b).length=7:=λ{b}=>ZJ
  refine KD λfp lV=>?_;refine ah.n' ?_ aA.d'.d'.d'.d'.d'.d'.j;refine Rq ?_;refine ae 3 8 ?_;refine aa 7 ?_;refine ah.cb [5,4,0] (λy:aj×aj×ab ba×ab Bool=>(∃m,y.2.2.1=p.x k++List.replicate m default/\y.2.2.2=p.h k++List.replicate m false/\(m=0\/(((p.x k).length+m:Nat):Int)<=x.bH))/\
    (y.2.2.1.length=0\/∃g C L T,y.1=.slice (some ⟨g,0,none⟩) y.2.2.1.length C/\y.2.1=.slice (some ⟨L,0,none⟩) y.2.2.2.length T)) (λy=>[])
   (λy=>[cells b 169 (ca (N.set k y.1) (w.set k y.2.1) p),rows ba.c y.1 54 20 y.2.2.1,rows eH y.2.1 4 1 y.2.2.2]) (λy=>x.bH.toNat-y.2.2.1.length) (v,u,p.x k,p.h k) ⟨⟨0,XE,XE,.inl rfl⟩,Yo⟩ ?_
  rintro⟨dE,iD,X,oj⟩⟨⟨m,hW,cM,fF⟩,dK⟩ K cu;dsimp only at hW cM fF dK;refine bh ?_;have vg:X.length=(p.x k).length+m:=by rw[hW];simp
  have C9:oj.length=X.length:=by rw[cM,vg];simp[cf]
  by_cases Yc:(X.length:Int)<x.bH
  .refine IS λom=>?_;refine af.bu 14 23 rfl rfl ?_ ?_;refine O.N' ad ba.c [_] rfl (bx.agg rfl bx.nil) rfl rfl (λYq=>?_);refine av ?_;refine af.bu 15 23 rfl rfl ?_ ?_;refine O.O' ad rfl rfl XJ (ce.rows ad XB ba.B') (λYn M=>?_);refine av ?_;refine c1 23 λYk=>?_;refine Rj λYl G=>?_;rotate_left;refine O.lit ad (λYk=>?_);refine av ?_;refine af.p' 15 rfl (O.O' ad rfl rfl XJ (ce.rows ad XB ba.B') (λYn M=>?_));refine av ?_;refine Rj λYl G=>?_;rotate_left;refine O.lit ad (λYk=>?_);refine av ?_;refine af.p' 14 rfl (O.N' ad ba.c [_] rfl (bx.agg rfl bx.nil) rfl rfl (λYq=>?_));refine av ?_;refine af.p' 15 rfl (O.O' ad rfl rfl XJ (ce.rows ad XB ba.B') (λYn M=>?_));refine av ?_;refine Rj λYl G=>?_;rotate_left;all_goals(refine Out.t' cu (_,_,X++[default],oj++[false]) ?_ XM;exact ⟨⟨m+1,by rw[tw,<-hW],by rw[tw,<-cM],.inr ZT⟩,.inr ⟨_,_,_,_,rfl,rfl⟩⟩)
  .have Yr:X=gC (p.x k) x.bH.toNat default:=by rw[hW];exact tv ac ac
   have Ye:oj=gC (p.h k) x.bH.toNat false:=LV
   rw[<-Yr,<-Ye];rcases dK with dK|⟨g,C,L,T,rfl,rfl⟩
   .omega
   .refine Ra ?_;refine af.p' 22 rfl (O.F' ad (f:=ba.c) (a:=t) rfl rfl XH rfl ac ba.len ba.B' ?_);refine IX ?_
    exact XZ
 .have s:bB x p.aS=false:=by simpa using D
  refine PD λdT q=>?_
  rw[q,s];refine ar.eqv dM.bare (R:=λr Y=>r=B false/\Y=[cells b 169 (ca N w p),gr ba.c 54 20 N p.xs,gr eH 4 1 w p.cf]) ?_ M8;refine aB func143 λW=>?_;exact HX
def zN(r:aj)(o:r.oneCell'=true):ar prog 52 [r] [] (λv Y=>∃q,v=.func (.func 80) #[] #[au q 0]/\Y=[cells q 117 [r]]):=by refine aB func52 λW=>?_;exact Pq
def encI(x:ag×ba):ab aj:=[A x.1.c,A x.2.c]
def abx(q b:Nat)(N v:ab aj)(p:aJ ba)(n:p.wf)(L:N.length=7)(Q:v.length=7):pW prog 80 [au q 0] [cells q 117 [au b 0],dM ba.c 169 54 20 b N v p] encI p.all [cells q 117 [au b 0],dM ba.c 169 54 20 b N v p]:=by
 intro l D G X S z Y M;refine aB func80 λW=>?_;refine aa 6 ?_;refine ah.cb [0,1] (λy:Nat×D=>y.1<=7/\G (p.upto y.1) y.2) (λy=>[(8,I (y.1:Int))]) (λy=>[S y.2]) (λy=>7-y.1) (0,z) ⟨ac,Y⟩ ?_;rintro⟨k,f⟩⟨T,P⟩ K a;dsimp only at T P;refine bh ?_;by_cases x:k<7
 .have Z:=D3 b N v p (k:Int) n L Q;refine aa 23 ?_;rotate_left;refine ah.cb [3,8,0,1] (λy:Nat×D=>y.1<=p.top k/\G (p.upto k++p.row k y.1) y.2) (λy=>[(4,I ((y.1:Int)+1))]) (λy=>[S y.2]) (λy=>p.top k-y.1) (0,f) ⟨ac,by simpa[aJ.row]using P⟩ ?_;rintro⟨m,h⟩⟨R,J⟩ r j;dsimp only at R J;refine bh ?_;by_cases i:m<p.top k
  .have d:=D4 b N v p ⟨(k:Int),(m:Int)+1⟩ n L Q;have U:=aJ.TJ p k m;have Yf:p.top k<=64:=by
    unfold aJ.top;split
    .exact n.m9 _
    .omega
   cases u:p.at ⟨(k:Int),(m:Int)+1⟩with
   |none=>
    rw[u]at d U;simp only[Option.map_none,zO,dk]at U;refine aq 21 λC=>?_;refine aq 12 λE=>?_;refine aa 25 ?_;rotate_left;refine Out.t' j (m+1,h) ?_ (by show p.top k-(m+1)<p.top k-m;omega);exact ⟨by show m+1<=_;omega,by rw[U];exact J⟩
   |some t=>
    obtain⟨g,s⟩:=aJ.WQ p x i u;rw[u]at d U;simp only[nI,u9]at U;have w:=M _ _ g h s J;refine aq 21 λC=>?_;refine aq 12 λE=>?_;refine aa 11 ?_;refine ai.o (aw.Sx rfl rfl (w) XC ?_);rintro vD adK⟨Yg,Yh,rfl,F,Yc,rfl⟩;refine RD (λYe=>?_) λYe=>?_;refine aa 10 ?_
    .exact⟨_,_,⟨_,.inr ⟨p.upto k++p.row k m++[(⟨(k:Int),(m:Int)+1⟩,t)],⟨g,by rw[s];simp⟩,Yc XF⟩,rfl⟩,XC⟩
    refine aa 8 ?_;rotate_left;refine Out.t' j (m+1,_) ?_ (by show p.top k-(m+1)<p.top k-m;omega);exact ⟨by show m+1<=_;omega,by rw[U,<-cd];exact F XF⟩
  .obtain rfl:m=p.top k:=by omega
   refine aa 22 ?_;refine Out.t' a (k+1,h) ?_ ZB;exact ⟨ZM,by rw[aJ.Tl];exact J⟩
 .obtain rfl:k=7:=by omega
  refine aa 12 ?_
  .exact⟨_,_,⟨f,.inl P,rfl⟩,XC⟩
end Go.Proofs.YteogojgnkjegmaaGreatDoor
namespace Go.Proofs.YteogojgnkjegmaaGreatDoor
open Go.ay Go.Proofs.Tryz
variable[Go.ay.bR]
def D5(n:Int):cX prog 44 [I n] (B (decide (n=3\/n=5\/n=7))):=by
 refine aB func44 λW=>?_;refine Ru (λr=>?_) λr=>?_;refine aa 12 ?_;rotate_left;refine RE (λv=>?_) λv=>?_;refine aa 8 ?_;rotate_left;refine aa 8 ?_;rotate_left
 .exact db B (iE ac).symm
 .exact db B (iE ac).symm
 .exact db B (df.2 ac)
abbrev dY:=ag×ba
def jr(n:Int)(l:ab dY):Prop:=∀y,y∈l->bB y.1 n=true/\fb y.2 n=true
def b5(l:ab dY):ab aP:=l.flatMap λy=>fr y.1 y.2
def kT(l:ab dY):ab (ab aP):=l.map λy=>kS y.1 y.2
def D6(l:ab dY):b5 l=nd (kT l):=by
 induction l with
 |nil=>rfl
 |cons y l u=>
  rw[b5,fG,<-b5,u];show _=nd (kS y.1 y.2::kT l)
  rw[xo];rfl
theorem pn(l m:ab dY):b5 (l++m)=b5 l++b5 m:=by simp[b5]
def Kn{n:Int}(v:n<=7){l:ab dY}(h:jr n l):∀t,t∈kT l->t.length<=16384:=by intro t j;obtain⟨y,G,rfl⟩:=fh.1 j;have:=xq v (h y G).1 (h y G).2;omega
def Ko{n:Int}(v:n<=7){l:ab dY}(h:jr n l):(b5 l).length<=105*l.length:=by
 induction l with
 |nil=>simp[b5]
 |cons y l u=>
  have F:=vC v (h y XE).1 (h y XE).2;have M:=u λx U=>h x (by simp[U]);rw[b5,fG,<-b5,bM,dp];omega
def D7:∀(s:ab (ab aP)) (p bT:ab aP) (f:Nat),(fV bT).2=0->(∀t,t∈s->t.length<=16384)->s.length<f->rb (p++(nd s++bT)) f p.length=jc p.length s
 |[],p,bT,f+1,w,_,_=>by rw[rb,show nd []=[]from rfl,gi,zc,aT w];rfl
 |t::s,p,bT,f+1,w,h,l=>by have j:=h t XE;have E:=zF j;rw[rb,zc,xo,cd,DT j,aN (by show¬((gb t).length:Int)=0;omega)];simp only[iB];rw[jc];have:=D7 s (p++gb t) bT f w (λx U=>h x (by simp[U])) (by simp at l;omega);rw[cd,bM]at this;rw[this]
 |_::_,_,_,0,_,_,h=>XU
 |[],_,_,0,_,_,h=>XU
def Kp{l:ab (ab aP)}{bT:ab aP}(p:(fV bT).2=0)(h:∀t,t∈l->t.length<=16384):vn (nd l++bT)=jc 0 l:=by have:=D7 l [] bT ((nd l++bT).length+1) p h (by have:=JX h;rw[bM];omega);simpa[vn]using this
def D8:∀(a b:ab (ab aP)) (i:Nat),jc i (a++b)=jc i a++jc (i+(nd a).length) b
 |[],b,i=>by simp[jc,nd]
 |t::a,b,i=>by rw[kn,jc,jc,D8 a b,xo,bM,kn,oX]
def xr:∀(a:ab (ab aP)) (i:Nat),(jc i a).length=a.length
 |[],_=>rfl
 |t::a,i=>by rw[jc,dp,dp,xr a]
def Kq{l:ab dY}{pre d:ab (Nat×ab aP)}{x:Nat×ab aP}(h:jc 0 (kT l)=pre++x::d):∃y s,l=l.take pre.length++y::s/\pre=jc 0 (kT (l.take pre.length))/\x=((b5 (l.take pre.length++[y])).length,kS y.1 y.2):=by
 have E:pre.length<l.length:=by have:=db List.length h;rw[xr,kT,ev,bM,dp]at this;omega
 obtain⟨y,G⟩:∃y,l[pre.length]?=some y:=⟨_,gM E⟩
 have Q:l=l.take pre.length++y::l.drop (pre.length+1):=by obtain⟨T,rfl⟩:=cI.1 G;rw[<-tz T,mU]
 have M:jc 0 (kT l)=jc 0 (kT (l.take pre.length))++jc (0+(nd (kT (l.take pre.length))).length) (kT (y::l.drop (pre.length+1))):=by
  conv=>lhs;rw[Q]
  rw[kT,iA];exact D8 _ _ 0
 rw[h]at M;have W:pre.length=(jc 0 (kT (l.take pre.length))).length:=by rw[xr,kT,ev,eX];omega
 obtain⟨g,z⟩:=List.append_inj M W;refine⟨y,_,Q,g,?_⟩;change x::d=jc _ (kS y.1 y.2::kT (l.drop (pre.length+1)))at z;rw[jc]at z;simp only[pP]at z;rw[z.1,pn,D6,hm,bM];simp[b5,fr]
def iG(p:aJ ba)(l:ab dY):aJ ba:=l.foldl (λp y=>p.set y.1 y.2) p
def zP(p:aJ ba)(l:ab dY)(y:dY):iG p (l++[y])=(iG p l).set y.1 y.2:=by simp[iG]
def xt{p:aJ ba}(h:p.ok)(l:ab dY):(iG p l).ok:=by
 induction l generalizing p with
 |nil=>exact h
 |cons y l u=>exact u (aJ.SL h y.1 y.2)
def zQ(p:aJ ba)(l:ab dY):(iG p l).aS=p.aS:=by
 induction l generalizing p with
 |nil=>rfl
 |cons y l u=>exact(u (p.set y.1 y.2)).trans (aJ.SK ..)
structure jO where
 hq:ab aj
 us:ab aj
 ej:hq.length=7
 hu:us.length=7
abbrev jP(f:Nat)(L:jO)(p:aJ ba):ax:=dM ba.c 169 54 20 f L.hq L.us p
def D9(f:Nat)(L:jO)(p:aJ ba)(x:ag)(t:ba)(m:p.wf):ar prog 143 [au f 0,A x.c,A t.c] [jP f L p] (λr Y=>∃b:jO,r=B (bB x p.aS)/\Y=[jP f b (p.set x t)]):=by refine ar.post (agl f L.hq L.us p x t m L.ej L.hu) ?_;rintro v Y⟨D,d,F,M,rfl,rfl⟩;exact⟨_,⟨⟨D,d,F,M⟩,rfl,rfl⟩,λ_ _ _ h=>h⟩
def zR(n:Int):ar prog 51 [I n] [] (λv Y=>∃f L,v=au f 0/\Y=[jP f L (aJ.new n)]):=by refine ar.post (abw n) ?_;rintro v Y⟨b,rfl,rfl⟩;exact⟨_,⟨b,⟨_,_,XE,XE⟩,rfl,rfl⟩,λ_ _ _ h=>h⟩
def abA(Q:Nat)(v:aj)(n:Int)(l:ab dY)(bT:ab aP)(i:Int)(c6:n=3\/n=5\/n=7)(Z:jr n l)(eB:(fV bT).2=0)(ef:(b5 l++bT).length<=65536):ar prog 101 [au Q 0,I n] (fc Q v (b5 l++bT) i) (λr Y=>∃m j u L,r=.tuple #[au m 0,I 0]/\Y=[cells m 120 (kK.c ⟨au Q 0,n,au j 0⟩),jP j L (iG (aJ.new n) l)]++fc Q u (b5 l) (if bT=[]then i else((b5 l).length:Int))):=by
 have F:vn (b5 l++bT)=jc 0 (kT l):=by rw[D6];exact Kp eB (Kn ac Z)
 have hB:cX prog 44 [I n] (B true):=by have:=D5 n;rwa[iE c6]at this
 have U:(aJ.new n:aJ ba).ok:=aJ.R8 n;have T (q:Nat):=Jc q (b5 l++bT) ac;rw[F]at T;refine aB func101 λW=>?_;refine aa 2 ?_;refine ai.o (O.R9 (λfI=>?_));refine aa 26 ?_;refine ah.mt [3,0] (λz:Nat×Nat×Nat×jO=>True) (λz=>[(6,au z.1 0)]) (λz=>[cells z.1 96 [au z.2.1 0],cells z.2.1 120 (kK.c ⟨au Q 0,n,au z.2.2.1 0⟩),jP z.2.2.1 z.2.2.2 (aJ.new n)]) ?_ ?_
 .intro fa P;refine ah.n' ?_ aA.j.j.d';refine ae 3 0 ?_;refine af.bu 3 6 rfl rfl ?_ ?_;refine aw.R' rfl (zR _) XC ?_;rintro _ _⟨Yj,Ym,rfl,rfl⟩;refine aa 2 ?_;refine af.i' 4 rfl (V.Sj ad) ?_;refine af.bu 5 6 rfl rfl ?_ ?_;refine O.TE (λR=>?_);refine av ?_;refine c1 6 λC=>?_;refine ae 1 7 ?_;refine av ?_;rotate_left;refine O.K' ad (λC=>?_);refine av ?_;refine c1 5 λR=>?_;refine ae 1 7 ?_;refine av ?_;rotate_left;refine O.K' ad (λC=>?_);refine av ?_;refine af.o' 3 rfl rfl (zR _) ?_;rintro _ _⟨s,J,rfl,rfl⟩;refine aa 2 ?_;refine af.i' 4 rfl (V.Sj ad) ?_;refine c1 5 λR=>?_;refine ae 1 7 ?_;refine av ?_;rotate_left;all_goals exact Out.t' P (_,_,_,_) trivial trivial
 .rintro⟨C,m,j,L⟩ _;refine bh ?_;refine aa 3 ?_;refine ai.o' rfl (Ke _ _ _ _) ?_;refine aq 6 λsh=>?_;refine aa 7 ?_;refine ai.o' rfl (Jb _) ?_;rintro _ _⟨Yi,rfl,rfl⟩;refine aa 4 ?_;refine ah.rg (T _) (λy:jO×aJ ba×Nat=>[jP j y.1 y.2.1,cells C 96 [au m 0],cells fI 3 [I n],cells sh 3 [I (y.2.2:Int)],cells m 120 (kK.c ⟨au Q 0,n,au j 0⟩)])
   (λpre y=>y.2.1=iG (aJ.new n) (l.take pre.length)/\y.2.2=(b5 (l.take pre.length)).length) (λ_ _ _=>False) (L,aJ.new n,0) ⟨rfl,rfl⟩ ?_ ?_ ?_
  .rintro pre x N⟨E,M,eu⟩ cb rec cr⟨f,X⟩ e6 eh iP zC w;dsimp only at f X;obtain⟨y,adg,b,K,k⟩:=Kq cr;have G:=Z y (by rw[b];simp);have eU:=Kb y.1 y.2 n ac G.1 G.2;have hV:=D9 j E M y.1 y.2 (by rw[f];exact(xt U _).towf);have D:l.take (pre++[x]).length=l.take pre.length++[y]:=by
    have Yc:pre.length<l.length:=by have:=db List.length b;simp at this;omega
    rw[bM,dp,fY,hm,mY];congr 1;have:l[pre.length]?=some y:=by rw[b,iu X4,eX,show pre.length-Min.min pre.length l.length=0 by omega];rfl
    rw[this];rfl
   subst k f X;refine bh ?_;refine aq 19 λYe=>?_;refine aq 0 λYf=>?_;refine aa 16 ?_;refine ah.n' ?_ aA.j.j.j.d'.j.j.d'.d';refine ae 3 0 ?_;refine ae 2 4 ?_;refine ae 1 3 ?_;refine af.o' 6 rfl rfl (hV) ?_;rintro _ _⟨Yk,rfl,rfl⟩;refine aa 9 ?_;exact Out.rd w (_,(iG (aJ.new n) (l.take pre.length)).set y.1 y.2,(b5 (l.take pre.length++[y])).length) ⟨by rw[D,zP],by rw[D]⟩
  .rintro⟨E,M,eu⟩ c⟨f,X⟩;dsimp only at f X;have g:(jc 0 (kT l)).length=l.length:=by rw[xr,kT,ev]
   rw[g,hE]at f X;subst f X;refine bh ?_;by_cases t:bT=[]
   .subst t;rw[aT rfl,dk];unfold fc;refine aa 23 ?_;exact⟨_,_,⟨m,j,v,E,rfl,rfl⟩,XC⟩
   .rw[aN t];have Yg:0<bT.length:=od.2 t;have d:=D2 Q v (b5 l++bT) i (b5 l);unfold fc at d⊢;have Yh:=ar.post (K:=λr Y=>∃u,r=I 0/\Y=[cells Q 156 (kp.c ⟨u,((b5 l).length:Int)⟩),dF c0 u 5 1 (b5 l)]) d (by
     rintro r Y (⟨cm,_⟩|⟨_,u,rfl,rfl⟩)
     .rw[bM]at ef;omega
     .exact⟨_,⟨u,rfl,rfl⟩,λ_ _ _ h=>h⟩)
    refine aa 11 ?_;refine ah.cs (λa=>?_) (λa=>?_);refine aa 4 ?_;refine ai.v (V.WS ad rfl rfl (p:=b5 l++bT) (q:=b5 l) XE XE) ?_;refine av ?_;rintro _ _⟨Yl,rfl,rfl⟩;refine aa 12 ?_;rotate_left;refine aa 11 ?_
    .exfalso;simp only[bM]at*;omega
    exact⟨_,_,⟨m,j,_,E,rfl,rfl⟩,XC⟩
  exact X6
end Go.Proofs.YteogojgnkjegmaaGreatDoor
