/-
 Part of the proof.
-/
import Derived.Test.YteogojgnkjegmaaGreatDoorAg
set_option linter.all false
set_option maxRecDepth 8000
set_option maxHeartbeats 8000000
namespace Go.Proofs.YteogojgnkjegmaaGreatDoor
open Go.ay Go.Proofs.Tryz
variable{k:Nat}{n:Int}{G:Array Go.Edge}{m:Int}{a:Nat}{C:ab ax}{D:String}{P:bU}{M:bC}{Q:aT (Nat×Bool)}{J:Nat}
def rz:Nat:=3988292384
def mG(c:Nat):Nat:=if c%2=1 then(c/2)^^^rz else c/2
def gZ:Nat->Nat->Nat
 |0,c=>c
 |k+1,c=>mG (gZ k c)
def FE(b c:Nat)(k:Nat):Nat:=if b/2^k%2≠c%2 then(c/2)^^^rz else c/2
def xf(b:Nat):Nat->Nat->Nat
 |0,c=>c
 |k+1,c=>FE b (xf b k c) k
def FF(a b:Nat):(a^^^b)/2=(a/2)^^^(b/2):=by have:=Nat.shiftRight_xor_distrib (a:=a) (b:=b) (i:=1);simpa[Nat.shiftRight_eq_div_pow]using this
def FG(a b:Nat):(a^^^b)%2=(a%2+b%2)%2:=by have:=Nat.xor_mod_two_eq_one (a:=a) (b:=b);omega
def aeH(b c:Nat):∀k,gZ k (c^^^b)=xf b k c^^^(b/2^k)
 |0=>by simp[gZ,xf]
 |k+1=>by
  have e:b/2^(k+1)=b/2^k/2:=by rw[xd,Nat.div_div_eq_div_mul]
  rw[gZ,xf,aeH b c k,mG,FE,FF,FG,e];by_cases h:b/2^k%2=xf b k c%2
  .rw[aM ac,aM ac]
  .rw[aQ ac,aQ ac,qC,qC,BD rz]
def mH(c b:Nat):Nat:=gZ 8 (c^^^b)
def BE(m:Nat)(h:m<4294967296):IntKind.u32.wrap (m:Int)=(m:Int):=QZ
def xg{b:Nat}(K:a<4294967296)(X:b<4294967296):a^^^b<4294967296:=FH (n:=32) K X
def BF{b:Nat}(K:a<4294967296)(X:b<4294967296):lb .xor .u32 (a:Int) (b:Int)=some ((a^^^b:Nat):Int):=by
 have h:=xg K X;simp only[lb,sI];show some (IntKind.u32.wrap ((BitVec.ofNat 32 a^^^BitVec.ofNat 32 b).toNat:Int))=_
 rw[BitVec.toNat_xor,ry,ry,sB K,sB X];congr 1;exact BE _ h
def Ly(K:a<4294967296):lb .and .u32 (a:Int) 1=some ((a%2:Nat):Int):=by
 simp only[lb,sI];show some (IntKind.u32.wrap ((BitVec.ofNat 32 a&&&BitVec.ofNat 32 1).toNat:Int))=_
 rw[FI,ry,ry,sB K,show 1%2^32=1 from rfl,Nat.and_one_is_mod];congr 1;exact BE _ ac
def FJ(m:Nat):(m:Int).fdiv (2^(Min.min (1:Int).toNat IntKind.u32.bits))=((m/2:Nat):Int):=by have:(2^(Min.min (1:Int).toNat IntKind.u32.bits):Int)=((2:Nat):Int):=rfl;rw[this,Bw _ ac];omega
def ahx{c:Nat}(h:c<4294967296):mG c<4294967296:=by
 unfold mG rz;split
 .exact xg ac ac
 .omega
def y7{c:Nat}(h:c<4294967296):∀k,gZ k c<4294967296
 |0=>h
 |k+1=>ahx (y7 h k)
def ah5{c b:Nat}(h:c<4294967296)(X:b<256):mH c b<4294967296:=y7 (xg h ac) 8
def aiN(K:a<4294967296):lb .xor .u32 (a:Int) 3988292384=some ((a^^^rz:Nat):Int):=BF K (b:=rz) T6
def LC(c:Nat)(b:aS)(h:c<4294967296):dr prog 231 [.int .u32 (c:Int),.int .u8 (b.toNat:Int)] (.int .u32 (mH c b.toNat:Int)):=by
 have X:=b.toNat_lt;refine aE func231 λW=>?_;have U:=xg h (show b.toNat<4294967296 by omega);refine aa 9 ?_;refine ai.v (V.U0 ad rfl rfl (BE _ ac)) ?_;refine ai.v (V.VN rfl rfl (BF h ac)) ?_;refine aa 10 ?_;refine ah.cp [] (λk:Nat=>k<=8) (λk=>[(9,I (k:Int)),(0,.int .u32 (gZ k (c^^^b.toNat):Int))]) (λk=>[]) (λk=>8-k) 0 (cO _) ?_;rintro k u K n;refine bl ?_;by_cases y:k<8
 .have q:=y7 U k;have m:gZ (k+1) (c^^^b.toNat)=mG (gZ k (c^^^b.toNat)):=rfl;rw[mG]at m;refine aa 14 ?_;refine ai.v (V.VN rfl rfl (Ly q)) ?_;refine aa 3 ?_;refine ah.cs (λF=>?_) (λF=>?_);refine aa 2 ?_;refine ai.v (V.VD rfl rfl (FJ _)) ?_;refine ai.v (V.VN rfl rfl (aiN ac)) ?_;refine aa 8 ?_;rotate_left;refine aa 2 ?_;refine ai.v (V.VD rfl rfl (FJ _)) ?_;refine aa 8 ?_;rotate_left
  .rw[aQ ac]at m;rw[<-m];exact Out.z' n (k+1) ac ac
  .rw[aM ac]at m;rw[<-m];exact Out.z' n (k+1) ac ac
 .obtain rfl:k=8:=by omega
  exact aP 20
def iS(c:Nat)(s:ab aS):Nat:=s.foldl (λc b=>mH c b.toNat) c
def qD(X:ab (ab aS)):Nat:=X.foldl iS 4294967295
def tK{c:Nat}(h:c<4294967296)(s:ab aS):iS c s<4294967296:=by
 induction s generalizing c with
 |nil=>exact h
 |cons x s d=>exact d (ah5 h x.toNat_lt)
def ajZ{c:Nat}(h:c<4294967296)(X:ab (ab aS)):X.foldl iS c<4294967296:=by
 induction X generalizing c with
 |nil=>exact h
 |cons x s d=>exact d (tK h x)
def aeU{s:ab aS}{x:aS}(c:Nat)(h:s[k]?=some x):iS c (s.take (k+1))=mH (iS c (s.take k)) x.toNat:=by rw[lw h,iS,vp];rfl
def xh(c:Nat)(s t:ab aS):iS c (s++t)=iS (iS c s) t:=vp ..
def LG(K:a<4294967296):lb .xor .u32 (if IntKind.u32.signed then-1 else IntKind.u32.max) (a:Int)=some ((4294967295-a:Nat):Int):=by
 have h:=BF (a:=4294967295) (b:=a) T6 K;have e:4294967295^^^a=4294967295-a:=by
  have Y:=BitVec.toNat_not (x:=BitVec.ofNat 32 a);rw[ry,sB K]at Y;have N:(~~~(BitVec.ofNat 32 a))=BitVec.allOnes 32^^^BitVec.ofNat 32 a:=by ext i ao;simp[-BitVec.reduceAllOnes]
  rw[N,BitVec.toNat_xor,BitVec.toNat_allOnes,ry,sB K]at Y;simpa using Y
 rw[e]at h;exact h
def ad5(e:ax)(m:aT Go.Addr)(E h off:Nat)(X:ab (ab aS))(f:Rd e m X.length h off 1 (X.map fg))(n:∀s,s∈X->s.length<=9223372036854775807):ar prog 177 [.slice m X.length E] [e] (λr J=>r=.int .u32 ((4294967295-qD X:Nat):Int)/\J=[e]):=by
 have F:=f.len;refine aE func177 λW=>?_;refine aa 19 ?_;refine ah.cp [7,8] (λk:Nat=>k<=X.length) (λk=>[(9,I (k:Int)),(3,.int .u32 (qD (X.take k):Int))]) (λk=>[e]) (λk=>X.length-k) 0 (cO _) ?_;rintro k u K b;refine bl ?_;have q:qD (X.take k)<4294967296:=ajZ T6 _;by_cases c:k<X.length
 .have Q:=getD_some (l:=X) c;have T:=n (X.getD k default) (jX Q);have Y:qD (X.take (k+1))=iS (qD (X.take k)) (X.getD k default):=by rw[lw Q,qD,vp];rfl
  refine aa 14 ?_;refine ai.v (V.VC ad rfl TX (EL ac)) ?_;refine aa 11 ?_;rotate_left;refine ah.cp [14,5,7,8,9] (λj:Nat=>j<=(X.getD k default).length) (λj=>[(15,I (j:Int)),(3,.int .u32 (iS (qD (X.take k)) ((X.getD k default).take j):Int))]) (λj=>[e]) (λj=>(X.getD k default).length-j) 0 (cO _) ?_;rintro j y L a;refine bl ?_;have w:iS (qD (X.take k)) ((X.getD k default).take j)<4294967296:=tK q _;by_cases i:j<(X.getD k default).length
  .obtain⟨x,U⟩:=cl i;have z:=aeU (qD (X.take k)) U;refine aa 21 ?_;refine ai.v (V.aaB ad rfl rfl TX) ?_;refine ai.o (av.fn rfl (LC _ _ ?_) ?_);exact cf;refine aa 8 ?_;rotate_left;rw[<-z];exact Out.z' a (j+1) ac ac
  .obtain rfl:j=(X.getD k default).length:=by omega
   rw[ir,<-Y];refine aa 17 ?_;exact Out.z' b (k+1) ac ac
 .obtain rfl:k=X.length:=by omega
  rw[ir]at*;refine aa 15 ?_;refine ai.v (V.aaA rfl rfl (LG q)) ?_;exact aP 5
def iu(c:Nat):ab aS:=[UInt8.ofNat c,UInt8.ofNat (c/256),UInt8.ofNat (c/65536),UInt8.ofNat (c/16777216)]
def y8(m:Nat):IntKind.u8.wrap (m:Int)=((UInt8.ofNat m).toNat:Int):=by rw[y1];simp
def BG(m e d:Nat)(L:2^e=d)(h:e<32):(m:Int).fdiv (2^(Min.min ((e:Int)).toNat IntKind.u32.bits))=((m/d:Nat):Int):=by
 have c:Min.min ((e:Int)).toNat IntKind.u32.bits=e:=by have:IntKind.u32.bits=32:=rfl;omega
 rw[c,Bw _ (by exact Int.le_of_lt (Int.pow_pos T6)),<-L];simp
def V.aa6{n:dq}{Y:Nat}{F:a7}{q:String}{D:Array Go.Edge}(ad:ca P){t u E e:Nat}{x:bf}{v:aj}{X T G J:aS}(U:aR M x=some v)(K:row v E 1 4 [.int .u8 (X.toNat:Int),.int .u8 (T.toNat:Int),.int .u8 (G.toNat:Int),.int .u8 (J.toNat:Int)]∈C)(j:bM ad.strs u=some a:=by exact rfl)(R:bM ad.fe t=some e:=by exact rfl)(L:mu ad.ints e=some .u8:=by exact rfl):aK P n M C ⟨some Y,.convert t u x,F,q,D,Q⟩ (S [X,T,G,J]):=
 V.XE ad (l:=[X,T,G,J]) U K j R L
def BH(c:Nat):dr prog 176 [.int .u32 (c:Int)] (S (iu c)):=by refine aE func176 λW=>?_;refine aa 8 ?_;refine ai.v (V.U0 ad rfl rfl (y8 _)) ?_;refine au ?_;refine ai.v (V.VD rfl rfl (BG _ 8 256 rfl T6)) ?_;refine ai.v (V.U0 ad rfl rfl (y8 _)) ?_;refine au ?_;refine ai.v (V.VD rfl rfl (BG _ 16 65536 rfl T6)) ?_;refine ai.v (V.U0 ad rfl rfl (y8 _)) ?_;refine au ?_;refine ai.v (V.VD rfl rfl (BG _ 24 16777216 rfl T6)) ?_;refine ai.v (V.U0 ad rfl rfl (y8 _)) ?_;refine aq 0 λq=>?_;refine ai.v (V.aa6 ad rfl T1) ?_;exact aP 5
def iv(s:ab aS):Nat:=4294967295-iS 4294967295 s
def FK(s:ab aS):iv s<4294967296:=by unfold iv;omega
def gL(s:ab aS):ab aS:=if 16384<s.length then[]else bG s.length++iu (iv (bG s.length++s))++s
def FL(g:Nat)(a b:ab aS)(K:a.length<=9223372036854775807)(X:b.length<=9223372036854775807):ar prog 177 [.slice (some ⟨g,0,none⟩) 2 2] [row (.slice (some ⟨g,0,none⟩) 2 2) 9 1 2 [S a,S b]] (λr J=>r=.int .u32 (iv (a++b):Int)/\J=[row (.slice (some ⟨g,0,none⟩) 2 2) 9 1 2 [S a,S b]]):=by have:=ad5 _ _ 2 g 0 [a,b] (Rd.lits (E:=9) (z:=2) fg [a,b] rfl rfl (λ_=>rfl) T3) Ui;rw[show 4294967295-qD [a,b]=iv (a++b) by rw[iv,xh];rfl]at this;exact this
def adw(s:ab aS)(Q:s.length<=9223372036854770000):dr prog 123 [S s] (S (gL s)):=by
 have Y:(s.length:Int)<=9223372036854775807:=ac
 have v:=fU Y;have k:(iu (iv ([]++bG s.length++s))).length=4:=rfl;refine aE func123 λW=>?_;refine aa 13 ?_;refine Pr (λF=>?_) λF=>?_;rotate_left;refine aa 5 ?_;refine ai.o (O.VH dt 5 1 rfl (λn=>?_));refine aq 8 λv=>?_;refine ai.p' rfl (qB _ _ _ _ _ ?_ ?_) ?_;iterate 2 exact cf
 refine O6 λJ Z=>?_;refine ai.p' rfl (FL _ _ _ ?_ ?_) ?_;iterate 2 exact cf
 refine au ?_;refine ai.o (av.fn rfl (BH _) ?_);refine P3 λN=>?_;refine aa 7 ?_;refine P3 λM=>?_;refine aa 6 ?_;refine ai.p' rfl (vq _ _ _) ?_;refine aa 6 ?_;rotate_left
 .rw[gL,aQ ac]
 .rw[gL,aM ac];simp
def FN:∀(l:ab aS) (i acc v:Nat) (s:ab aS),iR l i acc=some (v,s)->s.length<l.length
 |[],_,_,_,_,h=>by simp[iR]at h
 |x::Z,i,acc,v,s,h=>by
  simp only[iR]at h;split at h
  .cases h
  .split at h
   .split at h
    .cases h
    .simp only[eY,ny]at h;rw[<-h.2];simp
   .have:=FN Z _ _ _ _ h;simp;omega
def xi(n:Nat):∀(i acc:Nat) (l:ab aS),n<128^(9-i)->(n≠0\/i=0)->iR (fA n++l) i acc=some (acc+n*128^i,l):=by
 induction n using Nat.strongRecOn with
 |_ n d=>
  intro i acc l a o;have ao:i<=8:=by
   rcases o1 8 i with h|h
   .rw[show 9-i=0 by omega]at a;simp at a;omega
   .exact h
  by_cases T:n<128
  .rw[pg T];have e:(UInt8.ofNat n).toNat=n:=by simp;omega
   simp only[ly,gJ,iR,e];rw[aM ac,aQ T,aM ac,sB T]
  .rw[pQ T];have e:(UInt8.ofNat (128+n%128)).toNat=128+n%128:=by simp;omega
   simp only[ly,iR,e];have D:i<=7:=by
    rcases o1 7 i with h|h
    .rw[show 9-i=1 by omega]at a;omega
    .exact h
   rw[aM ac,aM ac,d (n/128) ac (i+1) _ l (by
    have Y:9-i=(9-(i+1))+1:=ac
    rw[Y,xd]at a;exact Nat.div_lt_of_lt_mul ac) (.inl ac)]
   congr 2;rw[show(128+n%128)%128=n%128 by omega,xd,qi,BC (128^i) 128,<-Nat.mul_assoc,<-fr];congr 2;omega
def BI(a:n<=9223372036854775807)(i:ab aS)(G:Int):ph ⟨bG n++i,false⟩ G=if G<(n.toNat:Int)then(0,⟨[],true⟩)else((n.toNat:Int),⟨i,false⟩):=by unfold ph pR bG;rw[xi n.toNat 0 0 i ac (.inr rfl)];simp
def nD:ab aS->Nat
 |[]=>0
 |x::Z=>x.toNat%128+128*nD Z
theorem adC(p:ab aS)(x:aS)(P:∀y,y∈p->128<=y.toNat)(U:x.toNat<128)(o:x.toNat≠0\/p=[]):fA (nD (p++[x]))=p++[x]/\(x.toNat≠0->1<=nD (p++[x])):=by
 induction p with
 |nil=>
  have e:nD ([]++[x])=x.toNat:=by simp[nD];omega
  rw[e,pg U];exact⟨T3,ac⟩
 |cons y p d=>
  have E:x.toNat≠0:=by
   rcases o with h|h
   .exact h
   .cases h
  obtain⟨Y,N⟩:=d (λz v=>P z (by simp[v])) (.inl E);have F:=P y T3;have U:=y.toNat_lt;have R:=N E;have e:nD (y::p++[x])=y.toNat%128+128*nD (p++[x]):=rfl;refine⟨?_,λ_=>by rw[e];omega⟩;rw[e,pQ ac,show(y.toNat%128+128*nD (p++[x]))/128=nD (p++[x]) by omega,Y];rw[show 128+(y.toNat%128+128*nD (p++[x]))%128=y.toNat by omega];simp
def LJ(n:Int):mF ⟨[],true⟩ n=([],⟨[],true⟩):=by simp[mF]
def V.Yb{n:dq}{K:a7}{E:aT (Nat×Bool)}(ad:ca P){t u:Nat}{x f:bf}{p q:ab aS}{k:Go.IntKind}{i:Int}(U:aR M x=some (S p))(T:aR M f=some (.int k i))(aW:p.drop i.toNat=q)(o:0<=i:=by omega)(Y:i<=p.length:=by omega)(j:bM ad.strs t=some u:=by exact rfl):aK P n M C ⟨some J,.slice t x (some f) none none,K,D,G,E⟩ (S q):=aW▸V.Xx ad U T j o Y
def V.aa7{n:dq}{K:a7}{E:aT (Nat×Bool)}(ad:ca P){t u:Nat}{x f:bf}{p q:ab aS}{k:Go.IntKind}{i:Int}(U:aR M x=some (S p))(T:aR M f=some (.int k i))(aW:p.take i.toNat=q)(o:0<=i:=by omega)(Y:i<=p.length:=by omega)(j:bM ad.strs t=some u:=by exact rfl):aK P n M C ⟨some J,.slice t x none (some f) none,K,D,G,E⟩ (S q):=aW▸V.Wn ad U T j o Y
def ajJ(a:ab aS):ay.ob .neq a a=some false:=by simp[ay.ob]
def acY{a b:ab aS}(h:a≠b):ay.ob .neq a b=some true:=by simp[ay.ob,h]
theorem FO:∀(l:ab aS) (i acc v:Nat) (s:ab aS),iR l i acc=some (v,s)->∃p x,l=p++x::s/\(∀y,y∈p->128<=y.toNat)/\x.toNat<128/\(x.toNat≠0\/(i=0/\p=[]))/\v=acc+nD (p++[x])*128^i
 |[],_,_,_,_,h=>by simp[iR]at h
 |x::Z,i,acc,v,s,h=>by
  simp only[iR]at h;split at h
  .cases h
  .split at h
   .split at h
    .cases h
    .rename_i U o;simp only[eY,ny]at h;obtain⟨rfl,rfl⟩:=h;refine⟨[],x,rfl,T3,U,?_,by simp[nD]⟩;grind
   .rename_i U;obtain⟨p,y,Y,N,R,M,a⟩:=FO Z (i+1) _ v s h;grind [List.mem_cons.1,nD,Nat.pow_succ,Nat.add_mul]
def afb{s:ab aS}{v:Nat}{i:ab aS}(h:iR s 0 0=some (v,i)):s=bG (v:Int)++i:=by grind [FO,adC,nD,bG,Int.toNat_natCast]
def gE(s:ab aS):ab aS×Int:=
 match iR s 0 0 with
 |none=>([],0)
 |some (v,i)=>
  if 16384<v then([],0)else if i.length<4+v then([],0)
  else if iu (iv (bG (v:Int)++(i.drop 4).take v))=i.take 4 then((i.drop 4).take v,((s.length-i.length+4+v:Nat):Int))else([],0)
def FP{i:ab aS}{n:Nat}(h:i.length<n):mF ⟨i,false⟩ (n:Int)=([],⟨[],true⟩):=by grind [mF]
def BJ{i:ab aS}{n:Nat}(h:¬i.length<n):mF ⟨i,false⟩ (n:Int)=(i.take n,⟨i.drop n,false⟩):=by grind [mF]
def FQ(s:ab aS)(Q:s.length<=140737488351232):dr prog 129 [S s] (.tuple #[S (gE s).1,I (gE s).2]):=by
 have u:=λb=>y5 b ⟨s,false⟩ 16384 (by show s.length<=_;omega);have f:=λb n=>tJ b ⟨[],true⟩ n T3;have N:=λb=>y3 b ⟨[],true⟩;simp only[LJ]at f;unfold ph pR at u;rw[aM T3]at u;unfold gE;cases G:iR s 0 0 with
 |none=>
  simp only[G]at u;exact DV
 |some q=>
  obtain⟨v,i⟩:=q;simp only[G]at u;dsimp only at u⊢;have q:=afb G;by_cases L:16384<v
  .rw[aQ (show(16384:Int)<(v:Int) by omega)]at u;rw[aQ L];exact DV
  .rw[aM (show¬(16384:Int)<(v:Int) by omega)]at u;rw[aM L];have K:s.length=(bG (v:Int)).length+i.length:=by grind
   have m:=λb=>tJ b ⟨i,false⟩ ((4:Nat):Int) Uh;by_cases Z:i.length<4
   .rw[aQ ac];simp only[FP Z]at m;refine Pj λW p=>?_;refine ai.p' rfl (m _) ?_;exact Kg
   .simp only[BJ Z]at m;have l:=λb=>tJ b ⟨i.drop 4,false⟩ (v:Int) Uh;by_cases f:i.length<4+v
    .rw[aQ f];simp only[FP (i:=i.drop 4) (n:=v) Uh]at l;refine Pj λW p=>?_;refine ai.p' rfl (m _) ?_;refine aa 8 ?_;refine ai.p' rfl (l _) ?_;refine aa 8 ?_;refine ai.p' rfl (N _) ?_;exact aP 13
    .rw[aM f];simp only[BJ (i:=i.drop 4) (n:=v) Uh]at l;have h (b:Nat):=y3 b ⟨(i.drop 4).drop v,false⟩;have w (b:Nat):=Lm b ⟨(i.drop 4).drop v,false⟩;have N (g:Nat):=FL g (bG (v:Int)) ((i.drop 4).take v) ac Uh;have y:((i.drop 4).drop v).length=i.length-4-v:=by grind
     by_cases aW:iu (iv (bG (v:Int)++(i.drop 4).take v))=i.take 4
     .rw[aQ aW];have a:=BH (iv (bG (v:Int)++(i.drop 4).take v));rw[aW]at a;refine Pj λW p=>?_;refine Qd λb c=>?_;refine ai.p' rfl (qB _ _ _ _ _ ?_ ?_) ?_;iterate 2 exact cf
      refine O6 λC n=>?_;refine ai.p' rfl (N _) ?_;refine aa 3 ?_;refine ai.v (V.ob rfl rfl (ajJ _)) ?_;refine aa 11 ?_;refine ai.p' rfl (w _) ?_;refine aa 8 ?_;have M:((s.length:Int)-((((i.drop 4).drop v).length:Nat):Int))=((s.length-i.length+4+v:Nat):Int):=by rw[y];omega
      dsimp only;rw[M]
     .rw[aM aW];have a:=BH (iv (bG (v:Int)++(i.drop 4).take v));refine Pj λW p=>?_;refine Qd λb c=>?_;refine ai.p' rfl (qB _ _ _ _ _ ?_ ?_) ?_;iterate 2 exact cf
      refine O6 λC n=>?_;refine ai.p' rfl (N _) ?_;refine aa 3 ?_;refine ai.v (V.ob rfl rfl (acY aW)) ?_;exact aP 12
def aiP(s:ab aS):(gE s).2=0\/∃k:Nat,(gE s).2=(k:Int)/\5<=k/\k<=s.length:=by
 unfold gE;cases G:iR s 0 0 with
 |none=>exact .inl rfl
 |some q=>
  obtain⟨v,i⟩:=q;have y:=FN _ _ _ _ _ G;dsimp only;split
  .exact .inl rfl
  .split
   .exact .inl rfl
   .split
    .exact .inr ⟨_,rfl,ac,ac⟩
    .exact .inl rfl
def sK(s:ab aS):Nat->Nat->ab (Nat×ab aS)
 |0,_=>[]
 |f+1,i=>if(gE (s.drop i)).2=0 then[]else(i+(gE (s.drop i)).2.toNat,(gE (s.drop i)).1)::sK s f (i+(gE (s.drop i)).2.toNat)
def xj(s:ab aS):ab (Nat×ab aS):=sK s (s.length+1) 0
def encS(x:Nat×ab aS):ab aj:=[I (x.1:Int),S x.2]
def aid(s:ab aS):ar prog 141 [S s] [] (λv J=>∃q,v=.func (.func 205) #[] #[aw q 0]/\J=[cells q 9 [S s]]):=by refine aE func141 λW=>?_;exact R6
def aes(q:Nat)(s:ab aS)(Q:s.length<=140737488351232):rm prog 205 [aw q 0] [cells q 9 [S s]] encS (xj s) [cells q 9 [S s]]:=by
 intro l M G X u D o z;refine aE func205 λW=>?_;refine aa 6 ?_;refine ah.cp [0,1] (λy:Nat×ab (Nat×ab aS)×Nat×M=>y.1<=s.length/\s.length+1<=y.2.2.1+y.1/\xj s=y.2.1++sK s y.2.2.1 y.1/\G y.2.1 y.2.2.2) (λy=>[(3,I (y.1:Int))]) (λy=>[u y.2.2.2]) (λy=>s.length-y.1) (0,[],s.length+1,D) ⟨cO _,cD _,rfl,o⟩ ?_;rintro⟨i,pre,f,h⟩⟨ao,k,L,T⟩ K b;dsimp only at ao k L T;refine bl ?_;obtain⟨f,rfl⟩:∃t,f=t+1:=⟨f-1,ac⟩
 rw[sK]at L;have F:s.drop ((i:Int)).toNat=s.drop i:=by rw[i3]
 have r:=FQ (s.drop i) Uh;rcases aiP (s.drop i)with o|⟨k,o,a,u⟩
 .rw[o]at r;rw[aQ o,dT]at L;refine aa 5 ?_;refine ai.v (V.Yb ad rfl rfl F) ?_;refine aa 22 ?_
  .exact⟨_,_,⟨h,.inl (by rw[L];exact T),rfl⟩,Uc⟩
 .rw[o]at r;rw[aM (by rw[o];omega),o,i3]at L;rw[k9]at u;have l:bd .eql (k:Int) 0=some false:=by simp[bd];omega
  have K:=z _ _ _ h L T;unfold encS at K;dsimp only at K;rw[show((i+k:Nat):Int)=(i:Int)+(k:Int) by omega]at K;refine aa 5 ?_;refine ai.v (V.Yb ad rfl rfl F) ?_;refine aa 12 ?_;refine ai.v (V.cmp rfl rfl l) ?_;refine aa 18 ?_;refine ai.o (av.Vd rfl rfl (K) Uc ?_);rintro Z g0⟨R,T,rfl,E,r,rfl⟩;refine Pm (λZ=>?_) λZ=>?_;refine aa 5 ?_
  .exact⟨_,_,⟨_,.inr ⟨pre++[(i+k,(gE (s.drop i)).1)],⟨sK s f (i+k),by rw[L];simp⟩,r TX⟩,rfl⟩,Uc⟩
  refine aa 2 ?_;refine Out.z' b (i+k,pre++[(i+k,(gE (s.drop i)).1)],f,_) ⟨by show i+k<=_;omega,by show _<=f+(i+k);omega,by rw[L];simp,E TX⟩ (by show s.length-(i+k)<s.length-i;omega) (z:=?_);exact de.cons rfl rfl (de.cons rfl rfl (de.cons rfl rfl de.nil))
def LQ(b:Nat)(v:aj)(Z:ab aS)(x:bm)(Y:x.Round<=9223372036854775807)(N:x.a1<=9223372036854775807)(U:Z.length<=900000):ar prog 172 [aw b 0,A x.c] [cells b 231 (gd.c ⟨v⟩),rows dt v 5 1 Z] (λr J=>∃t,r=.tuple #[]/\J=[cells b 231 (gd.c ⟨t⟩),rows dt t 5 1 (Z++(bG x.Round++bG x.a1))]):=by
 refine aE func172 λW=>?_;refine aq 2 λm=>?_;refine aq 8 λt=>?_;refine ai.p' rfl (FA _ _ _ _ _ _ ?_ ?_ ?_) ?_;iterate 3 exact cf
 rintro _ _⟨Q,rfl,rfl⟩;exact aP 3
def cZ(d:bN):Prop:=(0<=d.Version/\d.Version<=1099511627776/\0<=d.cP/\d.cP<=1099511627776/\0<=d.Number/\d.Number<=1099511627776/\(d.cP=0↔d.Number=0)/\d.Key.length<=16/\d.Value.length<=32)/\
 ((d.Kind=0/\d.Value=[]/\d.Version=0/\d.Key=[]/\d.cP=0)\/((d.Kind=1\/d.Kind=4)/\d.Value=[]/\d.Version=0/\d.Key≠[])\/(d.Kind=2/\d.Key≠[]/\d.Version=0)\/(d.Kind=3/\d.Key≠[])\/(d.Kind=5/\d.Value=[]/\d.Version=0))
instance(d:bN):Decidable (cZ d):=by unfold cZ;infer_instance
def nE(d:bN):Bool:=decide (cZ d)
def ajQ{d:bN}{t:Bool}(h:t=true↔cZ d):B t=B (nE d):=by
 unfold nE;congr 1;by_cases p:cZ d
 .rw[ic p];exact h.2 p
 .rw[lg p];cases t with
  |false=>rfl
  |true=>exact absurd (h.1 rfl) p
def y9(d:bN):dr prog 54 [A d.c] (B (nE d)):=by
 by_cases u:d.Key=[]
 .have F:d.Key.length=0:=by rw[u];rfl
  by_cases L:d.Value=[]
  .have K:d.Value.length=0:=by rw[L];rfl
   refine M5 (λW l o=>?_) λW l o=>?_
   exact T9
   refine T0 (λY=>?_) λY=>?_;refine aa 29 ?_
   exact T9
   refine T0 (λN=>?_) λN=>?_;refine aa 24 ?_
   exact T9
   refine T0 (λR=>?_) λR=>?_;refine aa 19 ?_
   exact T9
   refine Px ?_;refine Pr (λZ=>?_) λZ=>?_
   exact T9
   refine aa 23 ?_;refine ai.aY (λy=>?_) (λy=>?_);refine aa 15 ?_
   exact T9
   refine T5 (λU=>?_) λU=>?_;refine aa 8 ?_
   exact T9
   refine aa 30 ?_;refine ah.cs (λC=>?_) (λC=>?_);refine Qa (λX=>?_) λX=>?_;refine aa 17 ?_
   exact T9
   refine aa 16 ?_
   exact T9
   refine aa 7 ?_;refine ah.cs (λk=>?_) (λk=>?_);refine aa 7 ?_;refine Qx (λb=>?_) λb=>?_
   exact T9
   refine aa 11 ?_
   exact T9
   refine PD (λh=>?_) λh=>?_;refine Qa (λs=>?_) λs=>?_;refine aa 11 ?_
   exact T9
   refine aa 11 ?_
   exact T9
   refine T5 (λG=>?_) λG=>?_;refine aa 18 ?_
   exact T9
   refine T5 (λf=>?_) λf=>?_;refine aa 12 ?_
   exact T9
   refine T5 (λt=>?_) λt=>?_;refine aa 10 ?_
   exact T9
   refine aa 10 ?_
   exact T9
  .have K:0<d.Value.length:=pH.2 L;refine M5 (λW l o=>?_) λW l o=>?_
   exact T9
   refine T0 (λY=>?_) λY=>?_;refine aa 29 ?_
   exact T9
   refine T0 (λN=>?_) λN=>?_;refine aa 24 ?_
   exact T9
   refine T0 (λR=>?_) λR=>?_;refine aa 19 ?_
   exact T9
   refine Px ?_;refine Pr (λZ=>?_) λZ=>?_
   exact T9
   refine aa 17 ?_;refine ai.aY (λM=>?_) (λM=>?_);refine aa 20 ?_
   exact T9
   refine T0 (λy=>?_) λy=>?_;refine aa 15 ?_
   exact T9
   refine T5 (λU=>?_) λU=>?_;refine aa 8 ?_
   exact T9
   refine aa 30 ?_;refine ah.cs (λC=>?_) (λC=>?_);refine aa 20 ?_
   exact T9
   refine aa 7 ?_;refine ah.cs (λX=>?_) (λX=>?_);refine aa 18 ?_
   exact T9
   refine PD (λk=>?_) λk=>?_;refine aa 15 ?_
   exact T9
   refine T5 (λx=>?_) λx=>?_;refine aa 18 ?_
   exact T9
   refine T5 (λh=>?_) λh=>?_;refine aa 12 ?_
   exact T9
   refine T5 (λs=>?_) λs=>?_;refine aa 10 ?_
   exact T9
   refine aa 10 ?_
   exact T9
 .have F:0<d.Key.length:=pH.2 u;by_cases L:d.Value=[]
  .have K:d.Value.length=0:=by rw[L];rfl
   refine M5 (λW l o=>?_) λW l o=>?_
   exact T9
   refine T0 (λY=>?_) λY=>?_;refine aa 29 ?_
   exact T9
   refine T0 (λN=>?_) λN=>?_;refine aa 24 ?_
   exact T9
   refine T0 (λR=>?_) λR=>?_;refine aa 19 ?_
   exact T9
   refine Px ?_;refine Pr (λZ=>?_) λZ=>?_
   exact T9
   refine NG (λa=>?_) λa=>?_;refine aa 26 ?_
   exact T9
   refine aa 12 ?_;refine ai.aY (λy=>?_) (λy=>?_);refine aa 15 ?_
   exact T9
   refine T5 (λU=>?_) λU=>?_;refine aa 8 ?_
   exact T9
   refine aa 30 ?_;refine ah.cs (λC=>?_) (λC=>?_);refine Qa (λX=>?_) λX=>?_;refine aa 17 ?_
   exact T9
   refine aa 16 ?_
   exact T9
   refine aa 7 ?_;refine ah.cs (λk=>?_) (λk=>?_);refine aa 7 ?_;refine Qx (λb=>?_) λb=>?_
   exact T9
   refine aa 11 ?_
   exact T9
   refine PD (λh=>?_) λh=>?_;refine Qa (λs=>?_) λs=>?_;refine aa 11 ?_
   exact T9
   refine aa 11 ?_
   exact T9
   refine T5 (λG=>?_) λG=>?_;refine aa 18 ?_
   exact T9
   refine T5 (λf=>?_) λf=>?_;refine aa 12 ?_
   exact T9
   refine T5 (λt=>?_) λt=>?_;refine aa 10 ?_
   exact T9
   refine aa 10 ?_
   exact T9
  .have K:0<d.Value.length:=pH.2 L;refine M5 (λW l o=>?_) λW l o=>?_
   exact T9
   refine T0 (λY=>?_) λY=>?_;refine aa 29 ?_
   exact T9
   refine T0 (λN=>?_) λN=>?_;refine aa 24 ?_
   exact T9
   refine T0 (λR=>?_) λR=>?_;refine aa 19 ?_
   exact T9
   refine Px ?_;refine Pr (λZ=>?_) λZ=>?_
   exact T9
   refine NG (λa=>?_) λa=>?_;refine aa 26 ?_
   exact T9
   refine KJ (λM=>?_) λM=>?_;refine aa 20 ?_
   exact T9
   refine T0 (λy=>?_) λy=>?_;refine aa 15 ?_
   exact T9
   refine T5 (λU=>?_) λU=>?_;refine aa 8 ?_
   exact T9
   refine aa 30 ?_;refine ah.cs (λC=>?_) (λC=>?_);refine aa 20 ?_
   exact T9
   refine aa 7 ?_;refine ah.cs (λX=>?_) (λX=>?_);refine aa 18 ?_
   exact T9
   refine PD (λk=>?_) λk=>?_;refine aa 15 ?_
   exact T9
   refine T5 (λx=>?_) λx=>?_;refine aa 18 ?_
   exact T9
   refine T5 (λh=>?_) λh=>?_;refine aa 12 ?_
   exact T9
   refine T5 (λs=>?_) λs=>?_;refine aa 10 ?_
   exact T9
   refine aa 10 ?_
   exact T9
def bX.l(x:bX):ab Int:=[x.gC,x.dx,x.bv,x.gm,x.om,x.nB,x.pE]
variable{d:bX}
def mI(l:ab Int):ab aj:=l.map λn=>I n
def bX.V7(x:bX):x.c=mI x.l:=rfl
def kM(a b:bX):bX:=⟨Max.max a.gC b.gC,Max.max a.dx b.dx,Max.max a.bv b.bv,Max.max a.gm b.gm,Max.max a.om b.om,Max.max a.nB b.nB,Max.max a.pE b.pE⟩
def qE(a b:bX)(k:Nat):ab Int:=(kM a b).l.take k++a.l.drop k
theorem bX.UE(a:bX):a.l.length=7:=rfl
def LR(a b:bX)(k:Nat):(qE a b k).length=7:=by unfold qE;rw[b2,fp,k9,bX.UE,bX.UE];omega
def agW(a b:bX):qE a b 7=(kM a b).l:=rfl
def FR(a b:bX)(u:k<7):∃x y,a.l[k]?=some x/\b.l[k]?=some y/\(kM a b).l[k]?=some (Max.max x y):=by rcases(by omega:k=0\/k=1\/k=2\/k=3\/k=4\/k=5\/k=6)with h|h|h|h|h|h|h<;>subst h<;>exact⟨_,_,rfl,rfl,rfl⟩
def acB(a b:bX)(u:k<7):(qE a b k)[k]?=a.l[k]?:=by unfold qE;rw[ji (by rw[fp,bX.UE];omega),fp,bX.UE,mY];congr 1;omega
def LV(a b:bX){v:Int}(u:k<7)(W:(kM a b).l[k]?=some v):(qE a b k).set k v=qE a b (k+1):=by unfold qE;rw[List.set_append,aM (by rw[fp,bX.UE];omega),oj,W,fp,bX.UE];rw[show k-Min.min k 7=0 by omega];have:a.l.drop k=a.l[k]'(by rw[bX.UE];exact u)::a.l.drop (k+1):=vr _;rw[this,EN];simp
def FT{l:ab Int}{x:Int}(h:l[k]?=some x):(mI l)[0+k*1]?=some (I x):=by rw[pd,h8,mI,h9,h];rfl
theorem BK{l:ab Int}{x:Int}(h:k<l.length):bA (0+k*1) [I x] (mI l) (mI (l.set k x)):=⟨by rw[pd,h8,eg,mI,mI,List.map_set,FU,aQ Ub];simp⟩
def FV{l:ab Int}(h:k<l.length):Nat.blt (0+k*1) (mI l).length=true:=by rw[mC,mI,eT];omega
def nF(Z:ab bX):bX:=Z.foldl kM bX.z
def LW(Z:ab bX)(x:bX):nF (Z++[x])=kM (nF Z) x:=by simp[nF]
def acP(e:ax)(l:aT Go.Addr)(Q b off:Nat)(Z:ab bX)(f:Rd e l Z.length b off 7 (Z.map bX.c)):ar prog 247 [.slice l Z.length Q] [e] (λr J=>r=A (nF Z).c/\J=[e]):=by
 have F:=f.small;simp only[Go.maxLen]at F;refine aE func247 λW=>?_;refine aq 2 λp=>?_;refine aq 4 λh=>?_;refine aa 11 ?_;refine ah.cp [9,8,3,2] (λy:Nat=>y<=Z.length) (λy=>[(10,I (y:Int))]) (λy=>[cells h 50 (nF (Z.take y)).c]) (λy=>Z.length-y) 0 (cO _) ?_;rintro i ao K n;refine bl ?_;by_cases s:i<Z.length
 .obtain⟨x,U⟩:=cl s;have m:=lw U;have Y:nF (Z.take (i+1))=kM (nF (Z.take i)) x:=by rw[m,LW]
  generalize nF (Z.take i)=a at*;refine aq 15 λg=>?_;refine aa 10 ?_;rotate_left;refine ah.cp [14,10,9,8,3,2] (λk:Nat=>k<=7) (λk=>[(15,I (k:Int))]) (λk=>[cells h 50 (mI (qE a x k))]) (λk=>7-k) 0 (cO _) ?_;intro k E X w;refine bl ?_;by_cases M:k<7
  .obtain⟨u,v,R,L,q⟩:=FR a x M;have C:(qE a x k)[k]?=some u:=by rw[acB a x M,R]
   have T:=LR a x k;have N:x.c[k]?=some (I v):=by rw[bX.V7,mI,h9,L];rfl
   refine aa 14 ?_;refine ai.v (V.Wq ad rfl rfl N M) ?_;refine aa 7 ?_;refine ai.v (V.Us ad (k:=k) rfl rfl rfl) ?_;refine ai.v (V.C' ad (z:=FT C)) ?_;refine aa 2 ?_;refine ai.v (V.Us ad (k:=k) rfl rfl rfl) ?_;refine ai.o (O.K' ad ?_ (j:=FV ac) (i:=BK ac));refine aa 7 ?_;rotate_left;exact Out.z' w (k+1) ac Qk (t:=by rw[<-LV a x M q];(repeat(first|exact ak.nil|exact al.here|apply ak.cons|apply al.there)))
  .obtain rfl:k=7:=by omega
   rw[agW];refine aa 17 ?_;exact Out.z' n (i+1) Uk TY (t:=by rw[Y,bX.V7 (kM a x)];(repeat(first|exact ak.nil|exact al.here|apply ak.cons|apply al.there)))
 .obtain rfl:i=Z.length:=by omega
  rw[ir];clear n;exact aP 20
def acU(u:k<7):bX.z.l[k]?=some 0:=by rcases(by omega:k=0\/k=1\/k=2\/k=3\/k=4\/k=5\/k=6)with h|h|h|h|h|h|h<;>subst h<;>rfl
def vs(c d:aN):aN:={c with eG:=nF [c.eG,d.eG],Seq:=Max.max c.Seq d.Seq}
def m9(c:aN)(Z:ab aN):aN:=Z.foldl vs {c with eG:=nF [c.eG,c.eG]}
def ad7(c:aN)(Z:ab aN)(x:aN):m9 c (Z++[x])=vs (m9 c Z) x:=by simp[m9]
def vt(e:ax)(s:aT Go.Addr)(E b off:Nat)(c:aN)(Z:ab aN)(f:Rd e s Z.length b off 14 (Z.map aN.c)):ar prog 202 [A c.c,.slice s Z.length E] [e] (λr J=>r=A (m9 c Z).c/\J=[e]):=by
 have F:=f.small;simp only[Go.maxLen]at F;have M (x y:bX) (g:Nat):ar prog 247 [.slice (some ⟨g,0,none⟩) 2 2] [rows bX.c (.slice (some ⟨g,0,none⟩) 2 2) 50 7 [x,y]] (λr J=>r=A (nF [x,y]).c/\J=[rows bX.c (.slice (some ⟨g,0,none⟩) 2 2) 50 7 [x,y]]):=
  acP _ _ 2 _ _ [x,y] (Rd.rows (l:=[x,y]) bX.len T3)
 refine aE func202 λW=>?_;refine aq 2 λp=>?_;refine aq 0 λN=>?_;refine aa 8 ?_;refine ai.o (O.Q' ad bX.c [_,_] rfl (bI.agg rfl (bI.agg rfl bI.nil)) rfl rfl (λu=>?_));refine ai.p' rfl (M _ _ _) ?_;refine aa 14 ?_;refine ah.cp [15,14,4,2] (λi:Nat=>i<=Z.length) (λi=>[(16,I (i:Int))]) (λi=>[cells p 52 (m9 c (Z.take i)).c]) (λi=>Z.length-i) 0 (cO _) ?_;rintro i ao K n;refine bl ?_;by_cases k:i<Z.length
 .obtain⟨x,U⟩:=cl k;have m:=lw U;have Y:m9 c (Z.take (i+1))=vs (m9 c (Z.take i)) x:=by rw[m,ad7]
  generalize m9 c (Z.take i)=a at*;refine aq 15 λd=>?_;refine aa 3 ?_;refine ah.Uv [12,14] ?_ aB.j.j.j.d'.d' aB.j.j.j.j.d';refine ae 1 0 ?_;refine ae 2 2 ?_;refine ae 1 6 ?_;refine ae 2 8 ?_;refine af.t 1 rfl (V.UY ad) ?_;refine af.t 7 rfl (V.C' ad) ?_;refine ae 1 10 ?_;refine af.q' 4 rfl (O.Q' ad bX.c [_,_] rfl (bI.agg rfl (bI.agg rfl bI.nil)) rfl rfl (λh=>?_));refine au ?_;refine af.p' 5 rfl rfl (M _ _ _) ?_;refine aa 2 ?_;refine ae 1 11 ?_;refine af.l 12 rfl (O.VX ad ?_);refine au ?_;refine ae 1 13 ?_;refine af.l 14 rfl (O.K' ad ?_);refine aa 8 ?_;rotate_left;all_goals exact Out.z' n (i+1) Uk TY (t:=by rw[Y];(repeat(first|exact ak.nil|exact al.here|apply ak.cons|apply al.there)))
 .obtain rfl:i=Z.length:=by omega
  rw[ir];clear n;exact aP 20
def jp(b:Nat)(n G:Int)(i:ab aS)(o:0<=n)(Y:n<=G)(K:G<=9223372036854775807)(f:i.length<=1000000000):ar prog 190 [aw b 0,I G] [cells b 306 (eU.c ⟨bG n++i,false⟩)] (λr J=>r=I n/\J=[cells b 306 (eU.c ⟨i,false⟩)]):=by have T:=fU (n:=n) ac;have h:=y5 b ⟨bG n++i,false⟩ G Rq;rw[BI ac,aM ac,FW o]at h;exact h
def FX(b:Nat)(t:ab aS)(G:Int)(i:ab aS)(Y:(t.length:Int)<=G)(K:G<=1000000000)(f:i.length<=100000000):ar prog 269 [aw b 0,I G] [cells b 306 (eU.c ⟨bG (t.length:Int)++(t++i),false⟩)] (λr J=>r=S t/\J=[cells b 306 (eU.c ⟨i,false⟩)]):=by
 have T:=fU (n:=(t.length:Int)) ac;have h:=adf b ⟨bG (t.length:Int)++(t++i),false⟩ G Rq;have e:y6 ⟨bG (t.length:Int)++(t++i),false⟩ G=(t,⟨i,false⟩):=by unfold y6;rw[BI ac,aM ac,FW ac];rw[BJ T3];simp
 rw[e]at h;exact h
def BL(b:Nat)(y:Bool)(i:ab aS)(f:i.length<=1000000000):ar prog 196 [aw b 0] [cells b 306 (eU.c ⟨bG (if y then 1 else 0)++i,false⟩)] (λr J=>r=B y/\J=[cells b 306 (eU.c ⟨i,false⟩)]):=by
 generalize a:(if y then(1:Int)else 0)=n;have E:0<=n/\n<=1:=by subst a;cases y<;>decide
 have T:=fU (n:=n) ac;have h:=aeR b ⟨bG n++i,false⟩ Rq;rw[BI ac,aM ac,FW E.1]at h;have e:decide (n=1)=y:=by subst a;cases y<;>rfl
 rw[e]at h;exact h
def jJ(x:ag):ab aS:=bG x.a1++bG x.bT
def ie(x:bm):ab aS:=bG x.Round++bG x.a1
def xk(b:Nat)(v:aj)(Z:ab aS)(x:ag)(Y:x.a1<=9223372036854775807)(N:x.bT<=9223372036854775807)(U:Z.length<=900000):ar prog 171 [aw b 0,A x.c] [cells b 231 (gd.c ⟨v⟩),rows dt v 5 1 Z] (λr J=>∃t,r=.tuple #[]/\J=[cells b 231 (gd.c ⟨t⟩),rows dt t 5 1 (Z++jJ x)]):=by
 unfold jJ;refine aE func171 λW=>?_;refine aq 2 λm=>?_;refine aq 8 λt=>?_;refine ai.p' rfl (FA _ _ _ _ _ _ ?_ ?_ ?_) ?_;iterate 3 exact cf
 rintro _ _⟨Q,rfl,rfl⟩;exact aP 3
def xl(b:Nat)(x:ag)(i:ab aS)(G:bq x 7=true)(f:i.length<=100000000):ar prog 194 [aw b 0] [cells b 306 (eU.c ⟨jJ x++i,false⟩)] (λr J=>r=A x.c/\J=[cells b 306 (eU.c ⟨i,false⟩)]):=by
 obtain⟨i,C,j,W⟩:0<=x.a1/\x.a1<7/\1<=x.bT/\x.bT<=64:=by simp only[bq,c5,dl]at G;omega
 have E:=fU (n:=x.bT) ac;unfold jJ;rw[cn];refine aE func194 λW=>?_;refine aq 2 λp=>?_;refine aa 5 ?_;refine ai.p' rfl (jp _ _ _ _ ?_ ?_ ?_ ?_) ?_;iterate 4 exact cf
 refine aa 2 ?_;refine ai.p' rfl (jp _ _ _ _ ?_ ?_ ?_ ?_) ?_;iterate 4 exact cf
 exact aP 7
def tL(b:Nat)(v:aj)(Z:ab aS)(x:bm)(Y:x.Round<=9223372036854775807)(N:x.a1<=9223372036854775807)(U:Z.length<=900000):ar prog 172 [aw b 0,A x.c] [cells b 231 (gd.c ⟨v⟩),rows dt v 5 1 Z] (λr J=>∃t,r=.tuple #[]/\J=[cells b 231 (gd.c ⟨t⟩),rows dt t 5 1 (Z++ie x)]):=LQ b v Z x Y N U
def kn{b:bm}(h:cH b n=true):0<=b.Round/\b.Round<=1099511627776/\0<=b.a1/\b.a1<n:=by simpa[cH]using h
def tM(b:Nat)(x:bm)(i:ab aS)(G:cH x 7=true)(f:i.length<=100000000):ar prog 195 [aw b 0] [cells b 306 (eU.c ⟨ie x++i,false⟩)] (λr J=>r=A x.c/\J=[cells b 306 (eU.c ⟨i,false⟩)]):=by
 obtain⟨i,C,j,W⟩:=kn G;have E:=fU (n:=x.a1) ac;unfold ie;rw[cn];refine aE func195 λW=>?_;refine aq 2 λp=>?_;refine aa 5 ?_;refine ai.p' rfl (jp _ _ _ _ ?_ ?_ ?_ ?_) ?_;iterate 4 exact cf
 refine aa 2 ?_;refine ai.p' rfl (jp _ _ _ _ ?_ ?_ ?_ ?_) ?_;iterate 4 exact cf
 exact aP 7
def oC(d:bN):ab aS:=bG d.Kind++(bG (d.Key.length:Int)++(d.Key++(bG (d.Value.length:Int)++(d.Value++(bG d.Version++(bG d.cP++bG d.Number))))))
def xm(b:Nat)(v:aj)(Z:ab aS)(m n o:Int)(g:Nat)(K:m<=9223372036854775807)(h:n<=9223372036854775807)(p:o<=9223372036854775807)(U:Z.length<=900000):ar prog 170 [aw b 0,.slice (some ⟨g,0,none⟩) 3 3] [cells b 231 (gd.c ⟨v⟩),rows dt v 5 1 Z,row (.slice (some ⟨g,0,none⟩) 3 3) 3 1 3 [I m,I n,I o]] (λr J=>∃t,r=.tuple #[]/\J=[cells b 231 (gd.c ⟨t⟩),rows dt t 5 1 (Z++(bG m++(bG n++bG o))),row (.slice (some ⟨g,0,none⟩) 3 3) 3 1 3 [I m,I n,I o]]):=by have:=y2 b v Z [m,n,o] _ _ 3 g 0 (Rd.lits (E:=3) (z:=3) tw [m,n,o] rfl rfl (λ_=>rfl) T3) (by intro q aW;simp at aW;rcases aW with rfl|rfl|rfl<;>assumption) Ui;exact Rr
def sL{d:bN}(h:cZ d):0<=d.Kind/\d.Kind<=5/\d.Key.length<=16/\d.Value.length<=32/\0<=d.Version/\d.Version<=1099511627776/\0<=d.cP/\d.cP<=1099511627776/\0<=d.Number/\d.Number<=1099511627776:=by unfold cZ at h;omega
def L0(b:Nat)(v:aj)(Z:ab aS)(d:bN)(w:cZ d)(U:Z.length<=700000):ar prog 230 [aw b 0,A d.c] [cells b 231 (gd.c ⟨v⟩),rows dt v 5 1 Z] (λr J=>∃t,r=.tuple #[]/\J=[cells b 231 (gd.c ⟨t⟩),rows dt t 5 1 (Z++oC d)]):=by
 obtain⟨Y,N,R,M,a,C,y,U,x,K⟩:=sL w;have E:=fU (n:=d.Kind) ac;have i:=fU (n:=(d.Key.length:Int)) ac;have J:=fU (n:=(d.Value.length:Int)) ac;have e:Z++bG d.Kind++(bG (d.Key.length:Int)++d.Key)++(bG (d.Value.length:Int)++d.Value)++(bG d.Version++(bG d.cP++bG d.Number))=Z++oC d:=by simp only[oC,cn]
 rw[<-e];refine aE func230 λW=>?_;refine aq 2 λm=>?_;refine aq 7 λu=>?_;refine ai.p' rfl (qB _ _ _ _ _ ?_ ?_) ?_;iterate 2 exact cf
 rintro _ _⟨N,rfl,rfl⟩;refine aa 8 ?_;refine ai.p' rfl (FB _ _ _ _ ?_) ?_;exact cf;rintro _ _⟨f,rfl,rfl⟩;refine aa 8 ?_;refine ai.p' rfl (FB _ _ _ _ ?_) ?_;exact cf;rintro _ _⟨Q,rfl,rfl⟩;refine aq 11 λc=>?_;refine ai.p' rfl (xm _ _ _ _ _ _ _ ?_ ?_ ?_ ?_) ?_;iterate 4 exact cf
 rintro _ _⟨C,rfl,rfl⟩;exact aP 3
def L1(b:Nat)(d:bN)(i:ab aS)(w:cZ d)(f:i.length<=10000000):ar prog 244 [aw b 0] [cells b 306 (eU.c ⟨oC d++i,false⟩)] (λr J=>r=A d.c/\J=[cells b 306 (eU.c ⟨i,false⟩)]):=by
 obtain⟨Y,N,R,Z,a,M,y,U,x,C⟩:=sL w;have J:=fU (n:=(d.Value.length:Int)) ac;have f:=fU (n:=d.Version) ac;have Y:=fU (n:=d.cP) ac;have b:=fU (n:=d.Number) ac;have i:=fU (n:=(d.Key.length:Int)) ac;have x:dr prog 54 [A d.c] (B true):=by have:=y9 d;rwa[nE,ic w]at this
 unfold oC;simp only[cn];refine aE func244 λW=>?_;refine aq 2 λp=>?_;refine aa 5 ?_;refine ai.p' rfl (jp _ _ _ _ ?_ ?_ ?_ ?_) ?_;iterate 4 exact cf
 refine aa 2 ?_;refine ai.p' rfl (FX _ _ _ _ ?_ ?_ ?_) ?_;iterate 3 exact cf
 refine aa 2 ?_;refine ai.p' rfl (FX _ _ _ _ ?_ ?_ ?_) ?_;iterate 3 exact cf
 refine aa 2 ?_;refine ai.p' rfl (jp _ _ _ _ ?_ ?_ ?_ ?_) ?_;iterate 4 exact cf
 refine aa 2 ?_;refine ai.p' rfl (jp _ _ _ _ ?_ ?_ ?_ ?_) ?_;iterate 4 exact cf
 refine aa 2 ?_;refine ai.p' rfl (jp _ _ _ _ ?_ ?_ ?_ ?_) ?_;iterate 4 exact cf
 refine aq 2 λm=>?_;refine aa 7 ?_;refine ai.p' rfl (y3 _ _) ?_;exact aP 19
def jK(n:Int)(k:Nat)(m:Int):Bool:=decide (0<=m)&&decide (m<=64)&&(decide ((k:Int)<n)||decide (m=0))
def fB(d:bX)(n:Int):Bool:=jK n 0 d.gC&&jK n 1 d.dx&&jK n 2 d.bv&&jK n 3 d.gm&&jK n 4 d.om&&jK n 5 d.nB&&jK n 6 d.pE
def rA:fB d n=true↔∀(k:Nat) (m:Int),d.l[k]?=some m->jK n k m=true:=by
 constructor
 .intro h k m u;simp only[fB,c5]at h;have T:k<7:=by have:=(cT.1 u).1;rwa[bX.UE]at this
  rcases(by omega:k=0\/k=1\/k=2\/k=3\/k=4\/k=5\/k=6)with e|e|e|e|e|e|e<;>subst e<;>cases u<;>simp[h]
 .intro h;simp only[fB,c5];exact⟨⟨⟨⟨⟨⟨h 0 _ rfl,h 1 _ rfl⟩,h 2 _ rfl⟩,h 3 _ rfl⟩,h 4 _ rfl⟩,h 5 _ rfl⟩,h 6 _ rfl⟩
def bX.Yd(h:d.l[k]?=some m):d.c[k]?=some (I m):=by rw[bX.V7,mI,h9,h];rfl
def FY(d:bX)(n:Int):dr prog 147 [A d.c,I n] (B (fB d n)):=by
 refine aE func147 λW=>?_;refine aq 2 λp=>?_;refine aa 11 ?_;refine ah.cp [7,1,2] (λk:Nat=>k<=7/\∀j m,j<k->d.l[j]?=some m->jK n j m=true) (λk=>[(8,I (k:Int))]) (λk=>[]) (λk=>7-k) 0 ⟨cO _,λ_ _ h=>absurd h (xn _)⟩ ?_;rintro k⟨u,r⟩ K b;refine bl ?_;by_cases i:k<7
 .obtain⟨m,F⟩:∃m,d.l[k]?=some m:=⟨_,hs (by grind [bX.UE])⟩
  have U:=bX.Yd F;by_cases X:jK n k m=true
  .have T:=X;simp only[jK,c5,iL,dl]at T;have Q:∀j E,j<k+1->d.l[j]?=some E->jK n j E=true:=by
    intro j E y f;rcases Nat.lt_succ_iff_lt_or_eq.1 y with y|rfl
    .exact r j E y f
    .rw[F]at f;cases f;exact X
   refine aa 14 ?_;refine ai.v (V.Wq ad rfl rfl U i) ?_;refine aa 19 ?_;refine R3 (λR=>?_) λR=>?_;rotate_left;refine aa 14 ?_;rotate_left;all_goals exact Out.z' b (k+1) ⟨ac,Q⟩ ac
  .have T:=X;simp only[jK,c5,iL,dl]at T;have e:fB d n=false:=by
    cases G:fB d n with
    |false=>rfl
    |true=>exact absurd (rA.1 G k m F) X
   rw[e];refine aa 14 ?_;refine ai.v (V.Wq ad rfl rfl U i) ?_;refine aa 9 ?_;refine ai.aY (λY=>?_) (λY=>?_);exact aP 27;refine Qa (λN=>?_) λN=>?_;exact aP 23;exact aP 24
 .obtain rfl:k=7:=by omega
  have e:fB d n=true:=rA.2 λj m F=>r j m (by have:=(cT.1 F).1;rwa[bX.UE]at this) F;rw[e];exact aP 19
def eJ(c:aN)(n:Int):Bool:=nE c.cv&&(fB c.eG n&&(decide (0<=c.Seq)&&decide (c.Seq<=1099511627776)))
def FZ(c:aN)(n:Int):dr prog 169 [A c.c,I n] (B (eJ c n)):=by
 have Y:=y9 c.cv;have N:=FY c.eG n;unfold eJ;cases w:nE c.cv<;>rw[w]at Y
 exact KP
 cases L:fB c.eG n<;>rw[L]at N
 exact KP
 refine aE func169 λW=>?_;refine aq 2 λp=>?_;refine aa 20 ?_;refine ai.aY (λo=>?_) (λo=>?_);refine aa 9 ?_
 exact SM
 refine aa 9 ?_
 exact SM
def oD{c:aN}(h:eJ c n=true):cZ c.cv/\fB c.eG n=true/\0<=c.Seq/\c.Seq<=1099511627776:=by simp only[eJ,c5,dl]at h;grind [nE]
def sN(d:bX):ab aS:=d.l.flatMap bG
def j2(c:aN):ab aS:=oC c.cv++(sN c.eG++bG c.Seq)
def nG(h:n<=127):(bG n).length<=1:=Bt 0 _ ac
def F0(l:ab Int)(h:∀m,m∈l->m<=127):(l.flatMap bG).length<=l.length:=by
 induction l with
 |nil=>simp
 |cons m l d=>
  have Y:=nG (h m T3);grind
def tN(h:fB d n=true):∀m,m∈d.l->0<=m/\m<=64:=by intro m K;obtain⟨k,u⟩:=sx K;have:=rA.1 h k m u;simp only[jK,c5,dl]at this;exact this.1
theorem za(h:fB d n=true):(sN d).length<=7:=F0 d.l λm K=>by have:=tN h m K;omega
theorem F1{d:bN}(h:cZ d):(oC d).length<=200:=by obtain⟨Y,N,R,Z,a,M,y,U,x,C⟩:=sL h;grind [fU,oC,List.length_append]
def zb{c:aN}(h:eJ c n=true):(j2 c).length<=300:=by obtain⟨Y,N,R,Z⟩:=oD h;grind [F1,za,fU,j2,List.length_append]
def Rd.aa8(p:Nat)(c:aN):Rd (cells p 52 c.c) (some ⟨p,6,none⟩) c.eG.l.length p 6 1 (c.eG.l.map tw):=
 ⟨T3,by rw[bX.UE];decide,λ_=>rfl,λw n i x U=>by
  rw[h9]at U;obtain⟨m,K,rfl⟩:=qg.1 U;refine⟨rfl,λj u R=>?_⟩;have y:j=0:=by have:=(cT.1 R).1;simp[tw]at this;omega
  subst y;simp only[tw,qk,eY]at R;subst R;rw[Av n];have T:i<7:=Th
  rcases(by omega:i=0\/i=1\/i=2\/i=3\/i=4\/i=5\/i=6)with e|e|e|e|e|e|e<;>subst e<;>cases K<;>rfl⟩
def zc(b:Nat)(v:aj)(Z:ab aS)(c:aN)(n:Int)(q:eJ c n=true)(U:Z.length<=600000):ar prog 174 [aw b 0,A c.c] [cells b 231 (gd.c ⟨v⟩),rows dt v 5 1 Z] (λr J=>∃t,r=.tuple #[]/\J=[cells b 231 (gd.c ⟨t⟩),rows dt t 5 1 (Z++j2 c)]):=by
 obtain⟨Y,N,R,M⟩:=oD q;have E:=F1 Y;have i:=za N;have M:=fU (n:=c.Seq) ac;have e:Z++oC c.cv++sN c.eG++bG c.Seq=Z++j2 c:=by simp only[j2,cn]
 rw[<-e];have a (v:aj) (X:ab aS) (p:Nat) (F:X.length<=700000):
   ar prog 170 [aw b 0,.slice (some ⟨p,6,none⟩) 7 7] [cells b 231 (gd.c ⟨v⟩),rows dt v 5 1 X,cells p 52 c.c] (λr J=>∃t,r=.tuple #[]/\J=[cells b 231 (gd.c ⟨t⟩),rows dt t 5 1 (X++sN c.eG),cells p 52 c.c]):=
  y2 b v X c.eG.l _ _ 7 p 6 (Rd.aa8 p c) (λm K=>by have:=tN N m K;omega) TD
 refine aE func174 λW=>?_;refine aq 2 λm=>?_;refine aa 7 ?_;refine ai.p' rfl (L0 _ _ _ _ ?_ ?_) ?_;iterate 2 exact cf
 rintro _ _⟨C,rfl,rfl⟩;refine aa 7 ?_;refine ai.v (V.XV ad rfl) ?_;refine ai.p' rfl (a _ _ _ ?_) ?_;exact cf;rintro _ _⟨M,rfl,rfl⟩;refine aq 7 λT=>?_;refine ai.p' rfl (qB _ _ _ _ _ ?_ ?_) ?_;iterate 2 exact cf
 rintro _ _⟨Q,rfl,rfl⟩;exact aP 3
def rB(d:bX)(k:Nat):ab Int:=d.l.take k++List.replicate (7-k) 0
def ahn(u:k<7)(K:d.l[k]?=some m):(rB d k).set k m=rB d (k+1):=by unfold rB;have T:=bX.UE d;rw[List.set_append,aM Uh,oj,K,fp,T];rw[show k-Min.min k 7=0 by omega,show 7-k=(7-(k+1))+1 by omega,AL,EN];simp
def BM(u:k<=7):(rB d k).length=7:=by grind [rB,List.length_append,List.length_take,List.length_replicate,bX.UE]
def ahS{l:ab Int}(h:l[k]?=some m):(l.drop k).flatMap bG=bG m++(l.drop (k+1)).flatMap bG:=by obtain⟨u,rfl⟩:=cT.1 h;rw[vr u,gn]
def sO(c:aN)(k:Nat):ab aj:=c.cv.c++(mI (rB c.eG k)++[I 0])
def aeG(c:aN):sO c 7=aN.c {c with Seq:=0}:=by unfold sO rB;rw[show 7-7=0 from rfl,List.replicate_zero,dT,show c.eG.l.take 7=c.eG.l from rfl];rfl
theorem adP{c:aN}(u:k<7)(K:c.eG.l[k]?=some m):bA (6+k*1) [I m] (sO c k) (sO c (k+1)):=⟨by
 have h:=(BK (l:=rB c.eG k) (x:=m) (k:=k) (by rw[BM ac];exact u)).1;rw[ahn u K]at h;unfold sO;have T:(mI (rB c.eG k)).length=7:=by rw[mI,eT,BM ac]
 rw[<-h];simp only[eg,pd,h8,dD,gv];have M:c.cv.c.length=6:=rfl;rw[sj,o7 ac,wS,w7 ac];rw[k8 ac,List.drop_eq_nil_of_le ac,M,show 6+k-6=k by omega,show 6+k+1-6=k+1 by omega];simp⟩
def L6{c:aN}(u:k<=7):(sO c k).length=14:=by unfold sO;rw[b2,b2,mI,eT,BM u];rfl
def zd(b:Nat)(c:aN)(n:Int)(s:ab aS)(q:eJ c n=true)(f:s.length<=1000000):ar prog 197 [aw b 0] [cells b 306 (eU.c ⟨j2 c++s,false⟩)] (λr J=>r=A c.c/\J=[cells b 306 (eU.c ⟨s,false⟩)]):=by
 obtain⟨Y,N,R,Z⟩:=oD q;have M:=za N;have X:=fU (n:=c.Seq) ac;unfold j2;simp only[cn];have T:(sN c.eG++(bG c.Seq++s)).length<=10000000:=Uh
 refine aE func197 λW=>?_;refine aq 2 λp=>?_;refine aa 5 ?_;refine ai.p' rfl (L1 _ _ _ ?_ ?_) ?_;iterate 2 exact cf
 refine aq 2 λh=>?_;refine aa 10 ?_;refine ah.cp [3,2,0] (λk:Nat=>k<=7) (λk=>[(8,I (k:Int))]) (λk=>[cells h 52 (sO c k),cells b 306 (eU.c ⟨(c.eG.l.drop k).flatMap bG++(bG c.Seq++s),false⟩)]) (λk=>7-k) 0 (cO _) ?_;intro k u K i;refine bl ?_;by_cases E:k<7
 .obtain⟨m,F⟩:∃m,c.eG.l[k]?=some m:=⟨_,hs (by grind [bX.UE])⟩
  have t:=tN N m (jX F);have Q:=L6 (c:=c) (k:=k) ac;have C:((c.eG.l.drop (k+1)).flatMap bG++(bG c.Seq++s)).length<=1000000000:=by
   have:=F0 (c.eG.l.drop (k+1)) λx U=>by have:=tN N x (List.mem_of_mem_drop U);omega
   have y:(c.eG.l.drop (k+1)).length<=7:=by rw[k9,bX.UE];omega
   simp only[b2];omega
  rw[ahS F,cn];refine aa 20 ?_;refine ai.p' rfl (jp _ _ _ _ ?_ ?_ ?_ ?_) ?_;iterate 4 exact cf
  refine aa 2 ?_;refine ai.v (V.Us ad (k:=k) rfl rfl rfl) ?_;refine ai.o (O.K' ad ?_ (j:=by rw[mC];omega) (i:=adP E F));refine aa 7 ?_;rotate_left;exact Out.z' i (k+1) ac ac
 .obtain rfl:k=7:=by omega
  rw[aeG,show(c.eG.l.drop 7).flatMap bG=[]from rfl,gJ];clear i;refine aa 15 ?_;refine ai.p' rfl (jp _ _ _ _ ?_ ?_ ?_ ?_) ?_;iterate 4 exact cf
  refine aa 9 ?_;refine ai.p' rfl (y3 _ _) ?_;exact aP 14
end Go.Proofs.YteogojgnkjegmaaGreatDoor
