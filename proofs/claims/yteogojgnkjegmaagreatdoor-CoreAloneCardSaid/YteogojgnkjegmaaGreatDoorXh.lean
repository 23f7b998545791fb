/-
 Part of the proof.
-/
import Derived.Test.YteogojgnkjegmaaGreatDoorXg
set_option linter.all false
set_option maxRecDepth 8000
set_option maxHeartbeats 8000000
namespace Go.Proofs.YteogojgnkjegmaaGreatDoor
open Go.ay Go.Proofs.Tryz
variable{k:Nat}{n:Int}{M:Array Go.Edge}{Z:aQ (Nat×Bool)}{G:String}{m:Int}{a:Nat}{N:ab ax}{P:bF}{J:bv}{Y:aZ}{F:aQ (Nat×Bool)}
def p7:Nat:=3988292384
def lo(c:Nat):Nat:=if c%2=1 then(c/2)^^^p7 else c/2
def gu:Nat->Nat->Nat
 |0,c=>c
 |k+1,c=>lo (gu k c)
def Dj(b c:Nat)(k:Nat):Nat:=if b/2^k%2≠c%2 then(c/2)^^^p7 else c/2
def vj(b:Nat):Nat->Nat->Nat
 |0,c=>c
 |k+1,c=>Dj b (vj b k c) k
def Dk(a b:Nat):(a^^^b)/2=(a/2)^^^(b/2):=by have:=Nat.shiftRight_xor_distrib (a:=a) (b:=b) (i:=1);simpa[Nat.shiftRight_eq_div_pow]using this
def Dl(a b:Nat):(a^^^b)%2=(a%2+b%2)%2:=by have:=Nat.xor_mod_two_eq_one (a:=a) (b:=b);omega
def IV(b c:Nat):∀k,gu k (c^^^b)=vj b k c^^^(b/2^k)
 |0=>by simp[gu,vj]
 |k+1=>by
  have e:b/2^(k+1)=b/2^k/2:=by rw[vh,Nat.div_div_eq_div_mul]
  rw[gu,vj,IV b c k,lo,Dj,Dk,Dl,e];by_cases h:b/2^k%2=vj b k c%2
  .rw[aN ac,aN ac]
  .rw[aT ac,aT ac,pf,pf,zs p7]
def lp(c b:Nat):Nat:=gu 8 (c^^^b)
def zt(m:Nat)(h:m<4294967296):IntKind.u32.wrap (m:Int)=(m:Int):=Kl
def vk{b:Nat}(o:a<4294967296)(R:b<4294967296):a^^^b<4294967296:=Dm (n:=32) o R
def zu{b:Nat}(o:a<4294967296)(R:b<4294967296):j7 .xor .u32 (a:Int) (b:Int)=some ((a^^^b:Nat):Int):=by
 have h:=vk o R;simp only[j7,q9];show some (IntKind.u32.wrap ((BitVec.ofNat 32 a^^^BitVec.ofNat 32 b).toNat:Int))=_
 rw[BitVec.toNat_xor,p6,p6,q3 o,q3 R];congr 1;exact zt _ h
def abV(o:a<4294967296):j7 .and .u32 (a:Int) 1=some ((a%2:Nat):Int):=by
 simp only[j7,q9];show some (IntKind.u32.wrap ((BitVec.ofNat 32 a&&&BitVec.ofNat 32 1).toNat:Int))=_
 rw[Dn,p6,p6,q3 o,show 1%2^32=1 from rfl,Nat.and_one_is_mod];congr 1;exact zt _ ac
def Do(m:Nat):(m:Int).fdiv (2^(Min.min (1:Int).toNat IntKind.u32.bits))=((m/2:Nat):Int):=by have:(2^(Min.min (1:Int).toNat IntKind.u32.bits):Int)=((2:Nat):Int):=rfl;rw[this,zl _ ac];omega
def aea{c:Nat}(h:c<4294967296):lo c<4294967296:=by
 unfold lo p7;split
 .exact vk ac ac
 .omega
def xe{c:Nat}(h:c<4294967296):∀k,gu k c<4294967296
 |0=>h
 |k+1=>aea (xe h k)
def aaB{c b:Nat}(h:c<4294967296)(R:b<256):lp c b<4294967296:=xe (vk h ac) 8
def ae4(o:a<4294967296):j7 .xor .u32 (a:Int) 3988292384=some ((a^^^p7:Nat):Int):=zu o (b:=p7) XG
def I0(c:Nat)(b:aP)(h:c<4294967296):cX prog 231 [.int .u32 (c:Int),.int .u8 (b.toNat:Int)] (.int .u32 (lp c b.toNat:Int)):=by
 have R:=b.toNat_lt;refine aB func231 λW=>?_;have U:=vk h (show b.toNat<4294967296 by omega);refine aa 9 ?_;refine ai.v (V.Sk ad rfl rfl (zt _ ac)) ?_;refine ai.v (V.S3 rfl rfl (zu h ac)) ?_;refine aa 10 ?_;refine ah.cb [] (λk:Nat=>k<=8) (λk=>[(9,I (k:Int)),(0,.int .u32 (gu k (c^^^b.toNat):Int))]) (λk=>[]) (λk=>8-k) 0 (cw _) ?_;rintro k T K a;refine bh ?_;by_cases m:k<8
 .have u:=xe U k;have y:gu (k+1) (c^^^b.toNat)=lo (gu k (c^^^b.toNat)):=rfl;rw[lo]at y;refine aa 14 ?_;refine ai.v (V.S3 rfl rfl (abV u)) ?_;refine aa 3 ?_;refine ah.cs (λf=>?_) (λf=>?_);refine aa 2 ?_;refine ai.v (V.SV rfl rfl (Do _)) ?_;refine ai.v (V.S3 rfl rfl (ae4 ac)) ?_;refine aa 8 ?_;rotate_left;refine aa 2 ?_;refine ai.v (V.SV rfl rfl (Do _)) ?_;refine aa 8 ?_;rotate_left
  .rw[aT ac]at y;rw[<-y];exact IL
  .rw[aN ac]at y;rw[<-y];exact IL
 .obtain rfl:k=8:=by omega
  exact aM 20
def hZ(c:Nat)(s:ab aP):Nat:=s.foldl (λc b=>lp c b.toNat) c
def pg(P:ab (ab aP)):Nat:=P.foldl hZ 4294967295
def r8{c:Nat}(h:c<4294967296)(s:ab aP):hZ c s<4294967296:=by
 induction s generalizing c with
 |nil=>exact h
 |cons x s u=>exact u (aaB h x.toNat_lt)
def aaE{c:Nat}(h:c<4294967296)(P:ab (ab aP)):P.foldl hZ c<4294967296:=by
 induction P generalizing c with
 |nil=>exact h
 |cons x s u=>exact u (r8 h x)
def I2{s:ab aP}{x:aP}(c:Nat)(h:s[k]?=some x):hZ c (s.take (k+1))=lp (hZ c (s.take k)) x.toNat:=by rw[kl h,hZ,tx];rfl
def vl(c:Nat)(s t:ab aP):hZ c (s++t)=hZ (hZ c s) t:=tx ..
def aed(o:a<4294967296):j7 .xor .u32 (if IntKind.u32.signed then-1 else IntKind.u32.max) (a:Int)=some ((4294967295-a:Nat):Int):=by
 have h:=zu (a:=4294967295) (b:=a) XG o;have e:4294967295^^^a=4294967295-a:=by
  have F:=BitVec.toNat_not (x:=BitVec.ofNat 32 a);rw[p6,q3 o]at F;have M:(~~~(BitVec.ofNat 32 a))=BitVec.allOnes 32^^^BitVec.ofNat 32 a:=by ext i ao;simp[-BitVec.reduceAllOnes]
  rw[M,BitVec.toNat_xor,BitVec.toNat_allOnes,p6,q3 o]at F;simpa using F
 rw[e]at h;exact h
def abF(e:ax)(c:aQ Go.Addr)(C D off:Nat)(P:ab (ab aP))(E:Rd e c P.length D off 1 (P.map eP))(m:∀s,s∈P->s.length<=9223372036854775807):ar prog 177 [.slice c P.length C] [e] (λr Y=>r=.int .u32 ((4294967295-pg P:Nat):Int)/\Y=[e]):=by
 have R:=E.len;refine aB func177 λW=>?_;refine aa 19 ?_;refine ah.cb [7,8] (λk:Nat=>k<=P.length) (λk=>[(9,I (k:Int)),(3,.int .u32 (pg (P.take k):Int))]) (λk=>[e]) (λk=>P.length-k) 0 (cw _) ?_;rintro k T K a;refine bh ?_;have u:pg (P.take k)<4294967296:=aaE XG _;by_cases y:k<P.length
 .have Q:=getD_some (l:=P) y;have M:=m (P.getD k default) (j5 Q);have J:pg (P.take (k+1))=hZ (pg (P.take k)) (P.getD k default):=by rw[kl Q,pg,tx];rfl
  refine aa 14 ?_;refine ai.v (V.SU ad rfl XF (Cu ac)) ?_;refine aa 11 ?_;rotate_left;refine ah.cb [14,5,7,8,9] (λj:Nat=>j<=(P.getD k default).length) (λj=>[(15,I (j:Int)),(3,.int .u32 (hZ (pg (P.take k)) ((P.getD k default).take j):Int))]) (λj=>[e]) (λj=>(P.getD k default).length-j) 0 (cw _) ?_;rintro j p L t;refine bh ?_;have b:hZ (pg (P.take k)) ((P.getD k default).take j)<4294967296:=r8 u _;by_cases n:j<(P.getD k default).length
  .obtain⟨x,U⟩:=b8 n;have w:=I2 (pg (P.take k)) U;refine aa 21 ?_;refine ai.v (V.Wl ad rfl rfl XF) ?_;refine ai.o (aw.fn rfl (I0 _ _ ?_) ?_);exact b1;refine aa 8 ?_;rotate_left;rw[<-w];exact Out.t' t (j+1) ac ac
  .obtain rfl:j=(P.getD k default).length:=by omega
   rw[hE,<-J];refine aa 17 ?_;exact IL
 .obtain rfl:k=P.length:=by omega
  rw[hE]at*;refine aa 15 ?_;refine ai.v (V.Wk rfl rfl (aed u)) ?_;exact aM 5
def hF(c:Nat):ab aP:=[UInt8.ofNat c,UInt8.ofNat (c/256),UInt8.ofNat (c/65536),UInt8.ofNat (c/16777216)]
def xf(m:Nat):IntKind.u8.wrap (m:Int)=((UInt8.ofNat m).toNat:Int):=by rw[w8];simp
def zv(m e d:Nat)(g:2^e=d)(h:e<32):(m:Int).fdiv (2^(Min.min ((e:Int)).toNat IntKind.u32.bits))=((m/d:Nat):Int):=by
 have y:Min.min ((e:Int)).toNat IntKind.u32.bits=e:=by have:IntKind.u32.bits=32:=rfl;omega
 rw[y,zl _ (by exact Int.le_of_lt (Int.pow_pos XG)),<-g];simp
def V.WR{n:c7}{s:Nat}(ad:bV P){t u E e:Nat}{x:bd}{v:aj}{Z C L X:aP}(U:aO J x=some v)(K:row v E 1 4 [.int .u8 (Z.toNat:Int),.int .u8 (C.toNat:Int),.int .u8 (L.toNat:Int),.int .u8 (X.toNat:Int)]∈N)(j:bA ad.strs u=some a:=by exact rfl)(R:bA ad.eO t=some e:=by exact rfl)(d:k9 ad.ints e=some .u8:=by exact rfl):aK P n J N ⟨some s,.convert t u x,Y,G,M,F⟩ (S [Z,C,L,X]):=
 V.UL ad (l:=[Z,C,L,X]) U K j R d
def zw(c:Nat):cX prog 176 [.int .u32 (c:Int)] (S (hF c)):=by refine aB func176 λW=>?_;refine aa 8 ?_;refine ai.v (V.Sk ad rfl rfl (xf _)) ?_;refine av ?_;refine ai.v (V.SV rfl rfl (zv _ 8 256 rfl XG)) ?_;refine ai.v (V.Sk ad rfl rfl (xf _)) ?_;refine av ?_;refine ai.v (V.SV rfl rfl (zv _ 16 65536 rfl XG)) ?_;refine ai.v (V.Sk ad rfl rfl (xf _)) ?_;refine av ?_;refine ai.v (V.SV rfl rfl (zv _ 24 16777216 rfl XG)) ?_;refine ai.v (V.Sk ad rfl rfl (xf _)) ?_;refine aq 0 λF=>?_;refine ai.v (V.WR ad rfl XB) ?_;exact aM 5
def hG(s:ab aP):Nat:=4294967295-hZ 4294967295 s
def Dp(s:ab aP):hG s<4294967296:=by unfold hG;omega
def gb(s:ab aP):ab aP:=if 16384<s.length then[]else bt s.length++hF (hG (bt s.length++s))++s
def Dq(g:Nat)(a b:ab aP)(o:a.length<=9223372036854775807)(R:b.length<=9223372036854775807):ar prog 177 [.slice (some ⟨g,0,none⟩) 2 2] [row (.slice (some ⟨g,0,none⟩) 2 2) 9 1 2 [S a,S b]] (λr Y=>r=.int .u32 (hG (a++b):Int)/\Y=[row (.slice (some ⟨g,0,none⟩) 2 2) 9 1 2 [S a,S b]]):=by have:=abF _ _ 2 g 0 [a,b] (Rd.lits (E:=9) (o:=2) eP [a,b] rfl rfl (λ_=>rfl) XE) XM;rw[show 4294967295-pg [a,b]=hG (a++b) by rw[hG,vl];rfl]at this;exact this
def Dr(s:ab aP)(Q:s.length<=9223372036854770000):cX prog 123 [S s] (S (gb s)):=by
 have F:(s.length:Int)<=9223372036854775807:=ac
 have v:=fq F;have l:(hF (hG ([]++bt s.length++s))).length=4:=rfl;refine aB func123 λW=>?_;refine aa 13 ?_;refine Rx (λf=>?_) λf=>?_;rotate_left;refine aa 5 ?_;refine ai.o (O.SZ c0 5 1 rfl (λd=>?_));refine aq 8 λC=>?_;refine ai.o' rfl (pe _ _ _ _ _ ?_ ?_) ?_;iterate 2 exact b1
 refine Mk λU J=>?_;refine ai.o' rfl (Dq _ _ _ ?_ ?_) ?_;iterate 2 exact b1
 refine av ?_;refine ai.o (aw.fn rfl (zw _) ?_);refine JF λZ=>?_;refine aa 7 ?_;refine JF λN=>?_;refine aa 6 ?_;refine ai.o' rfl (ty _ _ _) ?_;refine aa 6 ?_;rotate_left
 .rw[gb,aT ac]
 .rw[gb,aN ac];simp
def Ds:∀(l:ab aP) (i acc v:Nat) (n:ab aP),hY l i acc=some (v,n)->n.length<l.length
 |[],_,_,_,_,h=>by simp[hY]at h
 |x::Z,i,acc,v,n,h=>by
  simp only[hY]at h;split at h
  .cases h
  .split at h
   .split at h
    .cases h
    .simp only[er,md]at h;rw[<-h.2];simp
   .have:=Ds Z _ _ _ _ h;simp;omega
def vm(n:Nat):∀(i acc:Nat) (l:ab aP),n<128^(9-i)->(n≠0\/i=0)->hY (e8 n++l) i acc=some (acc+n*128^i,l):=by
 induction n using Nat.strongRecOn with
 |_ n u=>
  intro i acc l v f;have ao:i<=8:=by
   rcases n4 8 i with h|h
   .rw[show 9-i=0 by omega]at v;simp at v;omega
   .exact h
  by_cases E:n<128
  .rw[nO E];have e:(UInt8.ofNat n).toNat=n:=by simp;omega
   simp only[kn,gi,hY,e];rw[aN ac,aT E,aN ac,q3 E]
  .rw[oq E];have e:(UInt8.ofNat (128+n%128)).toNat=128+n%128:=by simp;omega
   simp only[kn,hY,e];have K:i<=7:=by
    rcases n4 7 i with h|h
    .rw[show 9-i=1 by omega]at v;omega
    .exact h
   rw[aN ac,aN ac,u (n/128) ac (i+1) _ l (by
    have J:9-i=(9-(i+1))+1:=ac
    rw[J,vh]at v;exact Nat.div_lt_of_lt_mul ac) (.inl ac)]
   congr 2;rw[show(128+n%128)%128=n%128 by omega,vh,oX,zr (128^i) 128,<-Nat.mul_assoc,<-eZ];congr 2;omega
def zx(v:n<=9223372036854775807)(i:ab aP)(c:Int):nP ⟨bt n++i,false⟩ c=if c<(n.toNat:Int)then(0,⟨[],true⟩)else((n.toNat:Int),⟨i,false⟩):=by unfold nP ot bt;rw[vm n.toNat 0 0 i ac (.inr rfl)];simp
def ml:ab aP->Nat
 |[]=>0
 |x::Z=>x.toNat%128+128*ml Z
theorem ads(p:ab aP)(x:aP)(r:∀y,y∈p->128<=y.toNat)(U:x.toNat<128)(f:x.toNat≠0\/p=[]):e8 (ml (p++[x]))=p++[x]/\(x.toNat≠0->1<=ml (p++[x])):=by
 induction p with
 |nil=>
  have e:ml ([]++[x])=x.toNat:=by simp[ml];omega
  rw[e,nO U];exact⟨XE,ac⟩
 |cons y p u=>
  have R:x.toNat≠0:=by
   rcases f with h|h
   .exact h
   .cases h
  obtain⟨F,M⟩:=u (λz w=>r z (by simp[w])) (.inl R);have G:=r y XE;have n:=y.toNat_lt;have g:=M R;have e:ml (y::p++[x])=y.toNat%128+128*ml (p++[x]):=rfl;refine⟨?_,λ_=>by rw[e];omega⟩;rw[e,oq ac,show(y.toNat%128+128*ml (p++[x]))/128=ml (p++[x]) by omega,F];rw[show 128+(y.toNat%128+128*ml (p++[x]))%128=y.toNat by omega];simp
def aeY(n:Int):ln ⟨[],true⟩ n=([],⟨[],true⟩):=by simp[ln]
def V.Vk{n:c7}{s:Nat}(ad:bV P){t u:Nat}{x C:bd}{p q:ab aP}{k:Go.IntKind}{i:Int}(U:aO J x=some (S p))(E:aO J C=some (.int k i))(bb:p.drop i.toNat=q)(f:0<=i:=by omega)(F:i<=p.length:=by omega)(j:bA ad.strs t=some u:=by exact rfl):aK P n J N ⟨some s,.slice t x (some C) none none,Y,G,M,Z⟩ (S q):=bb▸V.UE ad U E j f F
def V.WS{n:c7}{s:Nat}(ad:bV P){t u:Nat}{x C:bd}{p q:ab aP}{k:Go.IntKind}{i:Int}(U:aO J x=some (S p))(E:aO J C=some (.int k i))(bb:p.take i.toNat=q)(f:0<=i:=by omega)(F:i<=p.length:=by omega)(j:bA ad.strs t=some u:=by exact rfl):aK P n J N ⟨some s,.slice t x none (some C) none,Y,G,M,Z⟩ (S q):=bb▸V.TD ad U E j f F
def I7(a:ab aP):ay.mR .neq a a=some false:=by simp[ay.mR]
def I8{a b:ab aP}(h:a≠b):ay.mR .neq a b=some true:=by simp[ay.mR,h]
theorem Dt:∀(l:ab aP) (i acc v:Nat) (n:ab aP),hY l i acc=some (v,n)->∃p x,l=p++x::n/\(∀y,y∈p->128<=y.toNat)/\x.toNat<128/\(x.toNat≠0\/(i=0/\p=[]))/\v=acc+ml (p++[x])*128^i
 |[],_,_,_,_,h=>by simp[hY]at h
 |x::Z,i,acc,v,n,h=>by
  simp only[hY]at h;split at h
  .cases h
  .split at h
   .split at h
    .cases h
    .rename_i U f;simp only[er,md]at h;obtain⟨rfl,rfl⟩:=h;refine⟨[],x,rfl,XE,U,?_,by simp[ml]⟩;grind
   .rename_i U;obtain⟨p,y,F,M,g,z,N⟩:=Dt Z (i+1) _ v n h;grind [List.mem_cons.1,ml,Nat.pow_succ,Nat.add_mul]
def I9{s:ab aP}{v:Nat}{n:ab aP}(h:hY s 0 0=some (v,n)):s=bt (v:Int)++n:=by grind [Dt,ads,ml,bt,Int.toNat_natCast]
def fV(s:ab aP):ab aP×Int:=
 match hY s 0 0 with
 |none=>([],0)
 |some (v,n)=>
  if 16384<v then([],0)else if n.length<4+v then([],0)
  else if hF (hG (bt (v:Int)++(n.drop 4).take v))=n.take 4 then((n.drop 4).take v,((s.length-n.length+4+v:Nat):Int))else([],0)
def Du{i:ab aP}{n:Nat}(h:i.length<n):ln ⟨i,false⟩ (n:Int)=([],⟨[],true⟩):=by grind [ln]
def zy{i:ab aP}{n:Nat}(h:¬i.length<n):ln ⟨i,false⟩ (n:Int)=(i.take n,⟨i.drop n,false⟩):=by grind [ln]
def Dv(s:ab aP)(Q:s.length<=140737488351232):cX prog 129 [S s] (.tuple #[S (fV s).1,I (fV s).2]):=by
 have a:=λb=>xc b ⟨s,false⟩ 16384 (by show s.length<=_;omega);have T:=λb n=>r7 b ⟨[],true⟩ n XE;have x:=λb=>xa b ⟨[],true⟩;simp only[aeY]at T;unfold nP ot at a;rw[aN XE]at a;unfold fV;cases D:hY s 0 0 with
 |none=>
  simp only[D]at a;exact Oc
 |some q=>
  obtain⟨v,i⟩:=q;simp only[D]at a;dsimp only at a⊢;have u:=I9 D;by_cases t:16384<v
  .rw[aT (show(16384:Int)<(v:Int) by omega)]at a;rw[aT t];exact Oc
  .rw[aN (show¬(16384:Int)<(v:Int) by omega)]at a;rw[aN t];have M:s.length=(bt (v:Int)).length+i.length:=by grind
   have L:=λb=>r7 b ⟨i,false⟩ ((4:Nat):Int) XK;by_cases g:i.length<4
   .rw[aT ac];simp only[Du g]at L;refine Qp λW h=>?_;refine ai.o' rfl (L _) ?_;exact M3
   .simp only[zy g]at L;have d:=λb=>r7 b ⟨i.drop 4,false⟩ (v:Int) XK;by_cases o:i.length<4+v
    .rw[aT o];simp only[Du (i:=i.drop 4) (n:=v) XK]at d;refine Qp λW h=>?_;refine ai.o' rfl (L _) ?_;refine aa 8 ?_;refine ai.o' rfl (d _) ?_;refine aa 8 ?_;refine ai.o' rfl (x _) ?_;exact aM 13
    .rw[aN o];simp only[zy (i:=i.drop 4) (n:=v) XK]at d;have n (b:Nat):=xa b ⟨(i.drop 4).drop v,false⟩;have t (b:Nat):=IJ b ⟨(i.drop 4).drop v,false⟩;have M (g:Nat):=Dq g (bt (v:Int)) ((i.drop 4).take v) ac XK;have D:((i.drop 4).drop v).length=i.length-4-v:=by grind
     by_cases bb:hF (hG (bt (v:Int)++(i.drop 4).take v))=i.take 4
     .rw[aT bb];have N:=zw (hG (bt (v:Int)++(i.drop 4).take v));rw[bb]at N;refine Qp λW h=>?_;refine Lp λC g=>?_;refine ai.o' rfl (pe _ _ _ _ _ ?_ ?_) ?_;iterate 2 exact b1
      refine Mk λG x=>?_;refine ai.o' rfl (M _) ?_;refine aa 3 ?_;refine ai.v (V.mR rfl rfl (I7 _)) ?_;refine aa 11 ?_;refine ai.o' rfl (t _) ?_;refine aa 8 ?_;have E:((s.length:Int)-((((i.drop 4).drop v).length:Nat):Int))=((s.length-i.length+4+v:Nat):Int):=by rw[D];omega
      dsimp only;rw[E]
     .rw[aN bb];have N:=zw (hG (bt (v:Int)++(i.drop 4).take v));refine Qp λW h=>?_;refine Lp λC g=>?_;refine ai.o' rfl (pe _ _ _ _ _ ?_ ?_) ?_;iterate 2 exact b1
      refine Mk λG x=>?_;refine ai.o' rfl (M _) ?_;refine aa 3 ?_;refine ai.v (V.mR rfl rfl (I8 bb)) ?_;exact aM 12
def ac3(s:ab aP):(fV s).2=0\/∃k:Nat,(fV s).2=(k:Int)/\5<=k/\k<=s.length:=by
 unfold fV;cases D:hY s 0 0 with
 |none=>exact .inl rfl
 |some q=>
  obtain⟨v,n⟩:=q;have m:=Ds _ _ _ _ _ D;dsimp only;split
  .exact .inl rfl
  .split
   .exact .inl rfl
   .split
    .exact .inr ⟨_,rfl,ac,ac⟩
    .exact .inl rfl
def rb(s:ab aP):Nat->Nat->ab (Nat×ab aP)
 |0,_=>[]
 |f+1,i=>if(fV (s.drop i)).2=0 then[]else(i+(fV (s.drop i)).2.toNat,(fV (s.drop i)).1)::rb s f (i+(fV (s.drop i)).2.toNat)
def vn(s:ab aP):ab (Nat×ab aP):=rb s (s.length+1) 0
def encS(x:Nat×ab aP):ab aj:=[I (x.1:Int),S x.2]
def Jb(s:ab aP):ar prog 141 [S s] [] (λv Y=>∃q,v=.func (.func 205) #[] #[au q 0]/\Y=[cells q 9 [S s]]):=by refine aB func141 λW=>?_;exact Pq
def Jc(q:Nat)(s:ab aP)(Q:s.length<=140737488351232):pW prog 205 [au q 0] [cells q 9 [S s]] encS (vn s) [cells q 9 [S s]]:=by
 intro l D G X j R L Z;refine aB func205 λW=>?_;refine aa 6 ?_;refine ah.cb [0,1] (λy:Nat×ab (Nat×ab aP)×Nat×D=>y.1<=s.length/\s.length+1<=y.2.2.1+y.1/\vn s=y.2.1++rb s y.2.2.1 y.1/\G y.2.1 y.2.2.2) (λy=>[(3,I (y.1:Int))]) (λy=>[j y.2.2.2]) (λy=>s.length-y.1) (0,[],s.length+1,R) ⟨cw _,cl _,rfl,L⟩ ?_;rintro⟨i,pre,f,P⟩⟨ao,k,b,M⟩ K a;dsimp only at ao k b M;refine bh ?_;obtain⟨f,rfl⟩:∃x,f=x+1:=⟨f-1,ac⟩
 rw[rb]at b;have C:s.drop ((i:Int)).toNat=s.drop i:=by rw[iB]
 have u:=Dv (s.drop i) XK;rcases ac3 (s.drop i)with j|⟨k,j,N,T⟩
 .rw[j]at u;rw[aT j,dk]at b;refine aa 5 ?_;refine ai.v (V.Vk ad rfl rfl C) ?_;refine aa 22 ?_
  .exact⟨_,_,⟨P,.inl (by rw[b];exact M),rfl⟩,XC⟩
 .rw[j]at u;rw[aN (by rw[j];omega),j,iB]at b;rw[j6]at T;have z:a8 .eql (k:Int) 0=some false:=by simp[a8];omega
  have Q:=Z _ _ _ P b M;unfold encS at Q;dsimp only at Q;rw[show((i+k:Nat):Int)=(i:Int)+(k:Int) by omega]at Q;refine aa 5 ?_;refine ai.v (V.Vk ad rfl rfl C) ?_;refine aa 12 ?_;refine ai.v (V.cmp rfl rfl z) ?_;refine aa 18 ?_;refine ai.o (aw.Sx rfl rfl (Q) XC ?_);rintro l i9⟨X,P,rfl,R,p,rfl⟩;refine Rl (λg=>?_) λg=>?_;refine aa 5 ?_
  .exact⟨_,_,⟨_,.inr ⟨pre++[(i+k,(fV (s.drop i)).1)],⟨rb s f (i+k),by rw[b];simp⟩,p XF⟩,rfl⟩,XC⟩
  refine aa 2 ?_;refine Out.t' a (i+k,pre++[(i+k,(fV (s.drop i)).1)],f,_) ⟨by show i+k<=_;omega,by show _<=f+(i+k);omega,by rw[b];simp,R XF⟩ (by show s.length-(i+k)<s.length-i;omega) (g:=?_);exact dg.cons rfl rfl (dg.cons rfl rfl (dg.cons rfl rfl dg.nil))
def Jd(b:Nat)(v:aj)(Z:ab aP)(x:bk)(F:x.Round<=9223372036854775807)(M:x.be<=9223372036854775807)(U:Z.length<=900000):ar prog 172 [au b 0,A x.c] [cells b 231 (fw.c ⟨v⟩),rows c0 v 5 1 Z] (λr Y=>∃X,r=.tuple #[]/\Y=[cells b 231 (fw.c ⟨X⟩),rows c0 X 5 1 (Z++(bt x.Round++bt x.be))]):=by
 refine aB func172 λW=>?_;refine aq 2 λa=>?_;refine aq 8 λh=>?_;refine ai.o' rfl (Df _ _ _ _ _ _ ?_ ?_ ?_) ?_;iterate 3 exact b1
 rintro _ _⟨Q,rfl,rfl⟩;exact aM 3
def cK(d:bP):Prop:=(0<=d.Version/\d.Version<=1099511627776/\0<=d.cy/\d.cy<=1099511627776/\0<=d.Number/\d.Number<=1099511627776/\(d.cy=0↔d.Number=0)/\d.Key.length<=16/\d.Value.length<=32)/\
 ((d.Kind=0/\d.Value=[]/\d.Version=0/\d.Key=[]/\d.cy=0)\/((d.Kind=1\/d.Kind=4)/\d.Value=[]/\d.Version=0/\d.Key≠[])\/(d.Kind=2/\d.Key≠[]/\d.Version=0)\/(d.Kind=3/\d.Key≠[])\/(d.Kind=5/\d.Value=[]/\d.Version=0))
instance(d:bP):Decidable (cK d):=by unfold cK;infer_instance
def mm(d:bP):Bool:=decide (cK d)
def di{d:bP}{t:Bool}(h:t=true↔cK d):B t=B (mm d):=by
 unfold mm;congr 1;by_cases Z:cK d
 .rw[iE Z];exact h.2 Z
 .rw[kc Z];cases t with
  |false=>rfl
  |true=>exact absurd (h.1 rfl) Z
def xg(d:bP):cX prog 54 [A d.c] (B (mm d)):=by
 by_cases T:d.Key=[]
 .have K:d.Key.length=0:=by rw[T];rfl
  by_cases t:d.Value=[]
  .have J:d.Value.length=0:=by rw[t];rfl
   refine Pm (λW L f=>?_) λW L f=>?_
   exact XL
   refine RH (λF=>?_) λF=>?_;refine aa 29 ?_
   exact XL
   refine RH (λM=>?_) λM=>?_;refine aa 24 ?_
   exact XL
   refine RH (λg=>?_) λg=>?_;refine aa 19 ?_
   exact XL
   refine JP ?_;refine Rx (λz=>?_) λz=>?_
   exact XL
   refine aa 23 ?_;refine ai.aU (λs=>?_) (λs=>?_);refine aa 15 ?_
   exact XL
   refine Ri (λa=>?_) λa=>?_;refine aa 8 ?_
   exact XL
   refine aa 30 ?_;refine ah.cs (λG=>?_) (λG=>?_);refine RE (λl=>?_) λl=>?_;refine aa 17 ?_
   exact XL
   refine aa 16 ?_
   exact XL
   refine aa 7 ?_;refine ah.cs (λQ=>?_) (λQ=>?_);refine aa 7 ?_;refine RA (λY=>?_) λY=>?_
   exact XL
   refine aa 11 ?_
   exact XL
   refine RD (λu=>?_) λu=>?_;refine RE (λP=>?_) λP=>?_;refine aa 11 ?_
   exact XL
   refine aa 11 ?_
   exact XL
   refine Ri (λq=>?_) λq=>?_;refine aa 18 ?_
   exact XL
   refine Ri (λD=>?_) λD=>?_;refine aa 12 ?_
   exact XL
   refine Ri (λo=>?_) λo=>?_;refine aa 10 ?_
   exact XL
   refine aa 10 ?_
   exact XL
  .have J:0<d.Value.length:=od.2 t;refine Pm (λW L f=>?_) λW L f=>?_
   exact XL
   refine RH (λF=>?_) λF=>?_;refine aa 29 ?_
   exact XL
   refine RH (λM=>?_) λM=>?_;refine aa 24 ?_
   exact XL
   refine RH (λg=>?_) λg=>?_;refine aa 19 ?_
   exact XL
   refine JP ?_;refine Rx (λz=>?_) λz=>?_
   exact XL
   refine aa 17 ?_;refine ai.aU (λE=>?_) (λE=>?_);refine aa 20 ?_
   exact XL
   refine RH (λs=>?_) λs=>?_;refine aa 15 ?_
   exact XL
   refine Ri (λa=>?_) λa=>?_;refine aa 8 ?_
   exact XL
   refine aa 30 ?_;refine ah.cs (λG=>?_) (λG=>?_);refine aa 20 ?_
   exact XL
   refine aa 7 ?_;refine ah.cs (λl=>?_) (λl=>?_);refine aa 18 ?_
   exact XL
   refine RD (λQ=>?_) λQ=>?_;refine aa 15 ?_
   exact XL
   refine Ri (λX=>?_) λX=>?_;refine aa 18 ?_
   exact XL
   refine Ri (λu=>?_) λu=>?_;refine aa 12 ?_
   exact XL
   refine Ri (λP=>?_) λP=>?_;refine aa 10 ?_
   exact XL
   refine aa 10 ?_
   exact XL
 .have K:0<d.Key.length:=od.2 T;by_cases t:d.Value=[]
  .have J:d.Value.length=0:=by rw[t];rfl
   refine Pm (λW L f=>?_) λW L f=>?_
   exact XL
   refine RH (λF=>?_) λF=>?_;refine aa 29 ?_
   exact XL
   refine RH (λM=>?_) λM=>?_;refine aa 24 ?_
   exact XL
   refine RH (λg=>?_) λg=>?_;refine aa 19 ?_
   exact XL
   refine JP ?_;refine Rx (λz=>?_) λz=>?_
   exact XL
   refine Ru (λN=>?_) λN=>?_;refine aa 26 ?_
   exact XL
   refine aa 12 ?_;refine ai.aU (λs=>?_) (λs=>?_);refine aa 15 ?_
   exact XL
   refine Ri (λa=>?_) λa=>?_;refine aa 8 ?_
   exact XL
   refine aa 30 ?_;refine ah.cs (λG=>?_) (λG=>?_);refine RE (λl=>?_) λl=>?_;refine aa 17 ?_
   exact XL
   refine aa 16 ?_
   exact XL
   refine aa 7 ?_;refine ah.cs (λQ=>?_) (λQ=>?_);refine aa 7 ?_;refine RA (λY=>?_) λY=>?_
   exact XL
   refine aa 11 ?_
   exact XL
   refine RD (λu=>?_) λu=>?_;refine RE (λP=>?_) λP=>?_;refine aa 11 ?_
   exact XL
   refine aa 11 ?_
   exact XL
   refine Ri (λq=>?_) λq=>?_;refine aa 18 ?_
   exact XL
   refine Ri (λD=>?_) λD=>?_;refine aa 12 ?_
   exact XL
   refine Ri (λo=>?_) λo=>?_;refine aa 10 ?_
   exact XL
   refine aa 10 ?_
   exact XL
  .have J:0<d.Value.length:=od.2 t;refine Pm (λW L f=>?_) λW L f=>?_
   exact XL
   refine RH (λF=>?_) λF=>?_;refine aa 29 ?_
   exact XL
   refine RH (λM=>?_) λM=>?_;refine aa 24 ?_
   exact XL
   refine RH (λg=>?_) λg=>?_;refine aa 19 ?_
   exact XL
   refine JP ?_;refine Rx (λz=>?_) λz=>?_
   exact XL
   refine Ru (λN=>?_) λN=>?_;refine aa 26 ?_
   exact XL
   refine RG (λE=>?_) λE=>?_;refine aa 20 ?_
   exact XL
   refine RH (λs=>?_) λs=>?_;refine aa 15 ?_
   exact XL
   refine Ri (λa=>?_) λa=>?_;refine aa 8 ?_
   exact XL
   refine aa 30 ?_;refine ah.cs (λG=>?_) (λG=>?_);refine aa 20 ?_
   exact XL
   refine aa 7 ?_;refine ah.cs (λl=>?_) (λl=>?_);refine aa 18 ?_
   exact XL
   refine RD (λQ=>?_) λQ=>?_;refine aa 15 ?_
   exact XL
   refine Ri (λX=>?_) λX=>?_;refine aa 18 ?_
   exact XL
   refine Ri (λu=>?_) λu=>?_;refine aa 12 ?_
   exact XL
   refine Ri (λP=>?_) λP=>?_;refine aa 10 ?_
   exact XL
   refine aa 10 ?_
   exact XL
def bI.l(x:bI):ab Int:=[x.fS,x.eu,x.bu,x.hb,x.n9,x.nD,x.oa]
variable{d:bI}
def lq(l:ab Int):ab aj:=l.map λn=>I n
def bI.Tm(x:bI):x.c=lq x.l:=rfl
def jK(a b:bI):bI:=⟨Max.max a.fS b.fS,Max.max a.eu b.eu,Max.max a.bu b.bu,Max.max a.hb b.hb,Max.max a.n9 b.n9,Max.max a.nD b.nD,Max.max a.oa b.oa⟩
def ph(a b:bI)(k:Nat):ab Int:=(jK a b).l.take k++a.l.drop k
theorem bI.RX(a:bI):a.l.length=7:=rfl
def Je(a b:bI)(k:Nat):(ph a b k).length=7:=by unfold ph;rw[bM,eX,j6,bI.RX,bI.RX];omega
def aer(a b:bI):ph a b 7=(jK a b).l:=rfl
def Dw(a b:bI)(T:k<7):∃x y,a.l[k]?=some x/\b.l[k]?=some y/\(jK a b).l[k]?=some (Max.max x y):=by rcases(by omega:k=0\/k=1\/k=2\/k=3\/k=4\/k=5\/k=6)with h|h|h|h|h|h|h<;>subst h<;>exact⟨_,_,rfl,rfl,rfl⟩
def adR(a b:bI)(T:k<7):(ph a b k)[k]?=a.l[k]?:=by unfold ph;rw[iu (by rw[eX,bI.RX];omega),eX,bI.RX,lL];congr 1;omega
def Jh(a b:bI){v:Int}(T:k<7)(t:(jK a b).l[k]?=some v):(ph a b k).set k v=ph a b (k+1):=by unfold ph;rw[List.set_append,aN (by rw[eX,bI.RX];omega),mY,t,eX,bI.RX];rw[show k-Min.min k 7=0 by omega];have:a.l.drop k=a.l[k]'(by rw[bI.RX];exact T)::a.l.drop (k+1):=tz _;rw[this,Cw];simp
def Dx{l:ab Int}{x:Int}(h:l[k]?=some x):(lq l)[0+k*1]?=some (I x):=by rw[nJ,hm,lq,ho,h];rfl
theorem zz{l:ab Int}{x:Int}(h:k<l.length):bq (0+k*1) [I x] (lq l) (lq (l.set k x)):=⟨by rw[nJ,hm,dD,lq,lq,List.map_set,Dy,aT XV];simp⟩
def Dz{l:ab Int}(h:k<l.length):Nat.blt (0+k*1) (lq l).length=true:=by rw[lk,lq,ev];omega
def mn(Z:ab bI):bI:=Z.foldl jK bI.z
def Ji(Z:ab bI)(x:bI):mn (Z++[x])=jK (mn Z) x:=by simp[mn]
def adW(e:ax)(m:aQ Go.Addr)(C b off:Nat)(Z:ab bI)(q:Rd e m Z.length b off 7 (Z.map bI.c)):ar prog 247 [.slice m Z.length C] [e] (λr Y=>r=A (mn Z).c/\Y=[e]):=by
 have R:=q.small;simp only[Go.maxLen]at R;refine aB func247 λW=>?_;refine aq 2 λL=>?_;refine aq 4 λw=>?_;refine aa 11 ?_;refine ah.cb [9,8,3,2] (λy:Nat=>y<=Z.length) (λy=>[(10,I (y:Int))]) (λy=>[cells w 50 (mn (Z.take y)).c]) (λy=>Z.length-y) 0 (cw _) ?_;rintro i ao K p;refine bh ?_;by_cases l:i<Z.length
 .obtain⟨x,U⟩:=b8 l;have n:=kl U;have J:mn (Z.take (i+1))=jK (mn (Z.take i)) x:=by rw[n,Ji]
  generalize mn (Z.take i)=a at*;refine aq 15 λQ=>?_;refine aa 10 ?_;rotate_left;refine ah.cb [14,10,9,8,3,2] (λk:Nat=>k<=7) (λk=>[(15,I (k:Int))]) (λk=>[cells w 50 (lq (ph a x k))]) (λk=>7-k) 0 (cw _) ?_;intro k T s j;refine bh ?_;by_cases h:k<7
  .obtain⟨u,v,X,t,F⟩:=Dw a x h;have N:(ph a x k)[k]?=some u:=by rw[adR a x h,X]
   have E:=Je a x k;have D:x.c[k]?=some (I v):=by rw[bI.Tm,lq,ho,t];rfl
   refine aa 14 ?_;refine ai.v (V.TG ad rfl rfl D h) ?_;refine aa 7 ?_;refine ai.v (V.RL ad (k:=k) rfl rfl rfl) ?_;refine ai.v (V.y' ad (g:=Dx N)) ?_;refine aa 2 ?_;refine ai.v (V.RL ad (k:=k) rfl rfl rfl) ?_;refine ai.o (O.G' ad ?_ (j:=Dz ac) (z:=zz ac));refine aa 7 ?_;rotate_left;exact Out.t' j (k+1) ac ZB (q:=by rw[<-Jh a x h F];(repeat(first|exact ak.nil|exact al.here|apply ak.cons|apply al.there)))
  .obtain rfl:k=7:=by omega
   rw[aer];refine aa 17 ?_;exact Out.t' p (i+1) XO XR (q:=by rw[J,bI.Tm (jK a x)];(repeat(first|exact ak.nil|exact al.here|apply ak.cons|apply al.there)))
 .obtain rfl:i=Z.length:=by omega
  rw[hE];clear p;exact aM 20
def Jk(T:k<7):bI.z.l[k]?=some 0:=by rcases(by omega:k=0\/k=1\/k=2\/k=3\/k=4\/k=5\/k=6)with h|h|h|h|h|h|h<;>subst h<;>rfl
def tA(c d:aV):aV:={c with dX:=mn [c.dX,d.dX],Seq:=Max.max c.Seq d.Seq}
def lW(c:aV)(Z:ab aV):aV:=Z.foldl tA {c with dX:=mn [c.dX,c.dX]}
def aa9(c:aV)(Z:ab aV)(x:aV):lW c (Z++[x])=tA (lW c Z) x:=by simp[lW]
def tB(e:ax)(m:aQ Go.Addr)(C b off:Nat)(c:aV)(Z:ab aV)(T:Rd e m Z.length b off 14 (Z.map aV.c)):ar prog 202 [A c.c,.slice m Z.length C] [e] (λr Y=>r=A (lW c Z).c/\Y=[e]):=by
 have R:=T.small;simp only[Go.maxLen]at R;have q (x y:bI) (g:Nat):ar prog 247 [.slice (some ⟨g,0,none⟩) 2 2] [rows bI.c (.slice (some ⟨g,0,none⟩) 2 2) 50 7 [x,y]] (λr Y=>r=A (mn [x,y]).c/\Y=[rows bI.c (.slice (some ⟨g,0,none⟩) 2 2) 50 7 [x,y]]):=
  adW _ _ 2 _ _ [x,y] (Rd.rows (l:=[x,y]) bI.len XE)
 refine aB func202 λW=>?_;refine aq 2 λL=>?_;refine aq 0 λh=>?_;refine aa 8 ?_;refine ai.o (O.N' ad bI.c [_,_] rfl (bx.agg rfl (bx.agg rfl bx.nil)) rfl rfl (λw=>?_));refine ai.o' rfl (q _ _ _) ?_;refine aa 14 ?_;refine ah.cb [15,14,4,2] (λi:Nat=>i<=Z.length) (λi=>[(16,I (i:Int))]) (λi=>[cells L 52 (lW c (Z.take i)).c]) (λi=>Z.length-i) 0 (cw _) ?_;rintro i ao K p;refine bh ?_;by_cases s:i<Z.length
 .obtain⟨x,U⟩:=b8 s;have n:=kl U;have J:lW c (Z.take (i+1))=tA (lW c (Z.take i)) x:=by rw[n,aa9]
  generalize lW c (Z.take i)=a at*;refine aq 15 λX=>?_;refine aa 3 ?_;refine ah.RN [12,14] ?_ aA.j.j.j.d'.d' aA.j.j.j.j.d';refine ae 1 0 ?_;refine ae 2 2 ?_;refine ae 1 6 ?_;refine ae 2 8 ?_;refine af.t 1 rfl (V.Si ad) ?_;refine af.t 7 rfl (V.y' ad) ?_;refine ae 1 10 ?_;refine af.p' 4 rfl (O.N' ad bI.c [_,_] rfl (bx.agg rfl (bx.agg rfl bx.nil)) rfl rfl (λd=>?_));refine av ?_;refine af.o' 5 rfl rfl (q _ _ _) ?_;refine aa 2 ?_;refine ae 1 11 ?_;refine af.l 12 rfl (O.Tc ad ?_);refine av ?_;refine ae 1 13 ?_;refine af.l 14 rfl (O.G' ad ?_);refine aa 8 ?_;rotate_left;all_goals exact Out.t' p (i+1) XO XR (q:=by rw[J];(repeat(first|exact ak.nil|exact al.here|apply ak.cons|apply al.there)))
 .obtain rfl:i=Z.length:=by omega
  rw[hE];clear p;exact aM 20
def iF(b:Nat)(n m:Int)(i:ab aP)(f:0<=n)(F:n<=m)(K:m<=9223372036854775807)(o:i.length<=1000000000):ar prog 190 [au b 0,I m] [cells b 306 (ek.c ⟨bt n++i,false⟩)] (λr Y=>r=I n/\Y=[cells b 306 (ek.c ⟨i,false⟩)]):=by have E:=fq (n:=n) ac;have h:=xc b ⟨bt n++i,false⟩ m M6;rw[zx ac,aN ac,DA f]at h;exact h
def DB(b:Nat)(t:ab aP)(m:Int)(i:ab aP)(F:(t.length:Int)<=m)(K:m<=1000000000)(o:i.length<=100000000):ar prog 269 [au b 0,I m] [cells b 306 (ek.c ⟨bt (t.length:Int)++(t++i),false⟩)] (λr Y=>r=S t/\Y=[cells b 306 (ek.c ⟨i,false⟩)]):=by
 have E:=fq (n:=(t.length:Int)) ac;have h:=abe b ⟨bt (t.length:Int)++(t++i),false⟩ m M6;have e:xd ⟨bt (t.length:Int)++(t++i),false⟩ m=(t,⟨i,false⟩):=by unfold xd;rw[zx ac,aN ac,DA ac];rw[zy XE];simp
 rw[e]at h;exact h
def zA(b:Nat)(y:Bool)(i:ab aP)(o:i.length<=1000000000):ar prog 196 [au b 0] [cells b 306 (ek.c ⟨bt (if y then 1 else 0)++i,false⟩)] (λr Y=>r=B y/\Y=[cells b 306 (ek.c ⟨i,false⟩)]):=by
 generalize v:(if y then(1:Int)else 0)=n;have a:0<=n/\n<=1:=by subst v;cases y<;>decide
 have E:=fq (n:=n) ac;have h:=adm b ⟨bt n++i,false⟩ M6;rw[zx ac,aN ac,DA a.1]at h;have e:decide (n=1)=y:=by subst v;cases y<;>rfl
 rw[e]at h;exact h
def iV(x:ag):ab aP:=bt x.be++bt x.bH
def hs(x:bk):ab aP:=bt x.Round++bt x.be
def vo(b:Nat)(v:aj)(Z:ab aP)(x:ag)(F:x.be<=9223372036854775807)(M:x.bH<=9223372036854775807)(U:Z.length<=900000):ar prog 171 [au b 0,A x.c] [cells b 231 (fw.c ⟨v⟩),rows c0 v 5 1 Z] (λr Y=>∃X,r=.tuple #[]/\Y=[cells b 231 (fw.c ⟨X⟩),rows c0 X 5 1 (Z++iV x)]):=by
 unfold iV;refine aB func171 λW=>?_;refine aq 2 λa=>?_;refine aq 8 λh=>?_;refine ai.o' rfl (Df _ _ _ _ _ _ ?_ ?_ ?_) ?_;iterate 3 exact b1
 rintro _ _⟨Q,rfl,rfl⟩;exact aM 3
def vp(b:Nat)(x:ag)(n:ab aP)(q:bB x 7=true)(o:n.length<=100000000):ar prog 194 [au b 0] [cells b 306 (ek.c ⟨iV x++n,false⟩)] (λr Y=>r=A x.c/\Y=[cells b 306 (ek.c ⟨n,false⟩)]):=by
 obtain⟨m,M,z,C⟩:0<=x.be/\x.be<7/\1<=x.bH/\x.bH<=64:=by simp only[bB,cZ,da]at q;omega
 have h:=fq (n:=x.bH) ac;unfold iV;rw[cd];refine aB func194 λW=>?_;refine aq 2 λo=>?_;refine aa 5 ?_;refine ai.o' rfl (iF _ _ _ _ ?_ ?_ ?_ ?_) ?_;iterate 4 exact b1
 refine aa 2 ?_;refine ai.o' rfl (iF _ _ _ _ ?_ ?_ ?_ ?_) ?_;iterate 4 exact b1
 exact aM 7
def r9(b:Nat)(v:aj)(Z:ab aP)(x:bk)(F:x.Round<=9223372036854775807)(M:x.be<=9223372036854775807)(U:Z.length<=900000):ar prog 172 [au b 0,A x.c] [cells b 231 (fw.c ⟨v⟩),rows c0 v 5 1 Z] (λr Y=>∃X,r=.tuple #[]/\Y=[cells b 231 (fw.c ⟨X⟩),rows c0 X 5 1 (Z++hs x)]):=Jd b v Z x F M U
def ou{b:bk}(h:eD b n=true):0<=b.Round/\b.Round<=1099511627776/\0<=b.be/\b.be<n:=by simpa[eD]using h
def sa(b:Nat)(x:bk)(n:ab aP)(q:eD x 7=true)(o:n.length<=100000000):ar prog 195 [au b 0] [cells b 306 (ek.c ⟨hs x++n,false⟩)] (λr Y=>r=A x.c/\Y=[cells b 306 (ek.c ⟨n,false⟩)]):=by
 obtain⟨m,M,z,C⟩:=ou q;have h:=fq (n:=x.be) ac;unfold hs;rw[cd];refine aB func195 λW=>?_;refine aq 2 λo=>?_;refine aa 5 ?_;refine ai.o' rfl (iF _ _ _ _ ?_ ?_ ?_ ?_) ?_;iterate 4 exact b1
 refine aa 2 ?_;refine ai.o' rfl (iF _ _ _ _ ?_ ?_ ?_ ?_) ?_;iterate 4 exact b1
 exact aM 7
def na(d:bP):ab aP:=bt d.Kind++(bt (d.Key.length:Int)++(d.Key++(bt (d.Value.length:Int)++(d.Value++(bt d.Version++(bt d.cy++bt d.Number))))))
def vq(b:Nat)(v:aj)(Z:ab aP)(m n o:Int)(g:Nat)(K:m<=9223372036854775807)(h:n<=9223372036854775807)(N:o<=9223372036854775807)(U:Z.length<=900000):ar prog 170 [au b 0,.slice (some ⟨g,0,none⟩) 3 3] [cells b 231 (fw.c ⟨v⟩),rows c0 v 5 1 Z,row (.slice (some ⟨g,0,none⟩) 3 3) 3 1 3 [I m,I n,I o]] (λr Y=>∃X,r=.tuple #[]/\Y=[cells b 231 (fw.c ⟨X⟩),rows c0 X 5 1 (Z++(bt m++(bt n++bt o))),row (.slice (some ⟨g,0,none⟩) 3 3) 3 1 3 [I m,I n,I o]]):=by have:=w9 b v Z [m,n,o] _ _ 3 g 0 (Rd.lits (E:=3) (o:=3) rQ [m,n,o] rfl rfl (λ_=>rfl) XE) (by intro q bb;simp at bb;rcases bb with rfl|rfl|rfl<;>assumption) XM;exact L8
def re{d:bP}(h:cK d):0<=d.Kind/\d.Kind<=5/\d.Key.length<=16/\d.Value.length<=32/\0<=d.Version/\d.Version<=1099511627776/\0<=d.cy/\d.cy<=1099511627776/\0<=d.Number/\d.Number<=1099511627776:=by unfold cK at h;omega
def ago(b:Nat)(v:aj)(Z:ab aP)(d:bP)(n:cK d)(U:Z.length<=700000):ar prog 230 [au b 0,A d.c] [cells b 231 (fw.c ⟨v⟩),rows c0 v 5 1 Z] (λr Y=>∃X,r=.tuple #[]/\Y=[cells b 231 (fw.c ⟨X⟩),rows c0 X 5 1 (Z++na d)]):=by
 obtain⟨F,M,g,z,N,E,s,v,T,G⟩:=re n;have h:=fq (n:=d.Kind) ac;have l:=fq (n:=(d.Key.length:Int)) ac;have g:=fq (n:=(d.Value.length:Int)) ac;have e:Z++bt d.Kind++(bt (d.Key.length:Int)++d.Key)++(bt (d.Value.length:Int)++d.Value)++(bt d.Version++(bt d.cy++bt d.Number))=Z++na d:=by simp only[na,cd]
 rw[<-e];refine aB func230 λW=>?_;refine aq 2 λa=>?_;refine aq 7 λY=>?_;refine ai.o' rfl (pe _ _ _ _ _ ?_ ?_) ?_;iterate 2 exact b1
 rintro _ _⟨d,rfl,rfl⟩;refine aa 8 ?_;refine ai.o' rfl (Dg _ _ _ _ ?_) ?_;exact b1;rintro _ _⟨X,rfl,rfl⟩;refine aa 8 ?_;refine ai.o' rfl (Dg _ _ _ _ ?_) ?_;exact b1;rintro _ _⟨a,rfl,rfl⟩;refine aq 11 λo=>?_;refine ai.o' rfl (vq _ _ _ _ _ _ _ ?_ ?_ ?_ ?_) ?_;iterate 4 exact b1
 rintro _ _⟨G,rfl,rfl⟩;exact aM 3
def Jn(b:Nat)(d:bP)(n:ab aP)(i:cK d)(o:n.length<=10000000):ar prog 244 [au b 0] [cells b 306 (ek.c ⟨na d++n,false⟩)] (λr Y=>r=A d.c/\Y=[cells b 306 (ek.c ⟨n,false⟩)]):=by
 obtain⟨F,M,g,z,N,E,s,v,T,G⟩:=re i;have g:=fq (n:=(d.Value.length:Int)) ac;have L:=fq (n:=d.Version) ac;have E:=fq (n:=d.cy) ac;have F:=fq (n:=d.Number) ac;have l:=fq (n:=(d.Key.length:Int)) ac;have J:cX prog 54 [A d.c] (B true):=by have:=xg d;rwa[mm,iE i]at this
 unfold na;simp only[cd];refine aB func244 λW=>?_;refine aq 2 λo=>?_;refine aa 5 ?_;refine ai.o' rfl (iF _ _ _ _ ?_ ?_ ?_ ?_) ?_;iterate 4 exact b1
 refine aa 2 ?_;refine ai.o' rfl (DB _ _ _ _ ?_ ?_ ?_) ?_;iterate 3 exact b1
 refine aa 2 ?_;refine ai.o' rfl (DB _ _ _ _ ?_ ?_ ?_) ?_;iterate 3 exact b1
 refine aa 2 ?_;refine ai.o' rfl (iF _ _ _ _ ?_ ?_ ?_ ?_) ?_;iterate 4 exact b1
 refine aa 2 ?_;refine ai.o' rfl (iF _ _ _ _ ?_ ?_ ?_ ?_) ?_;iterate 4 exact b1
 refine aa 2 ?_;refine ai.o' rfl (iF _ _ _ _ ?_ ?_ ?_ ?_) ?_;iterate 4 exact b1
 refine aq 2 λa=>?_;refine aa 7 ?_;refine ai.o' rfl (xa _ _) ?_;exact aM 19
def iW(n:Int)(k:Nat)(m:Int):Bool:=decide (0<=m)&&decide (m<=64)&&(decide ((k:Int)<n)||decide (m=0))
def e9(d:bI)(n:Int):Bool:=iW n 0 d.fS&&iW n 1 d.eu&&iW n 2 d.bu&&iW n 3 d.hb&&iW n 4 d.n9&&iW n 5 d.nD&&iW n 6 d.oa
def p8:e9 d n=true↔∀(k:Nat) (m:Int),d.l[k]?=some m->iW n k m=true:=by
 constructor
 .intro h k m T;simp only[e9,cZ]at h;have E:k<7:=by have:=(cI.1 T).1;rwa[bI.RX]at this
  rcases(by omega:k=0\/k=1\/k=2\/k=3\/k=4\/k=5\/k=6)with e|e|e|e|e|e|e<;>subst e<;>cases T<;>simp[h]
 .intro h;simp only[e9,cZ];exact⟨⟨⟨⟨⟨⟨h 0 _ rfl,h 1 _ rfl⟩,h 2 _ rfl⟩,h 3 _ rfl⟩,h 4 _ rfl⟩,h 5 _ rfl⟩,h 6 _ rfl⟩
def bI.Vl(h:d.l[k]?=some m):d.c[k]?=some (I m):=by rw[bI.Tm,lq,ho,h];rfl
def DC(d:bI)(n:Int):cX prog 147 [A d.c,I n] (B (e9 d n)):=by
 refine aB func147 λW=>?_;refine aq 2 λo=>?_;refine aa 11 ?_;refine ah.cb [7,1,2] (λk:Nat=>k<=7/\∀j m,j<k->d.l[j]?=some m->iW n j m=true) (λk=>[(8,I (k:Int))]) (λk=>[]) (λk=>7-k) 0 ⟨cw _,λ_ _ h=>absurd h (vr _)⟩ ?_;rintro k⟨T,z⟩ K a;refine bh ?_;by_cases r:k<7
 .obtain⟨m,R⟩:∃m,d.l[k]?=some m:=⟨_,gM (by grind [bI.RX])⟩
  have U:=bI.Vl R;by_cases X:iW n k m=true
  .have y:=X;simp only[iW,cZ,ib,da]at y;have Q:∀j x,j<k+1->d.l[j]?=some x->iW n j x=true:=by
    intro j x p J;rcases Nat.lt_succ_iff_lt_or_eq.1 p with p|rfl
    .exact z j x p J
    .rw[R]at J;cases J;exact X
   refine aa 14 ?_;refine ai.v (V.TG ad rfl rfl U r) ?_;refine aa 19 ?_;refine Rg (λg=>?_) λg=>?_;rotate_left;refine aa 14 ?_;rotate_left;all_goals exact Out.t' a (k+1) ⟨ac,Q⟩ ac
  .have y:=X;simp only[iW,cZ,ib,da]at y;have e:e9 d n=false:=by
    cases q:e9 d n with
    |false=>rfl
    |true=>exact absurd (p8.1 q k m R) X
   rw[e];refine aa 14 ?_;refine ai.v (V.TG ad rfl rfl U r) ?_;refine aa 9 ?_;refine ai.aU (λF=>?_) (λF=>?_);exact aM 27;refine RE (λM=>?_) λM=>?_;exact aM 23;exact aM 24
 .obtain rfl:k=7:=by omega
  have e:e9 d n=true:=p8.2 λj m R=>z j m (by have:=(cI.1 R).1;rwa[bI.RX]at this) R;rw[e];exact aM 19
def eQ(c:aV)(n:Int):Bool:=mm c.cz&&(e9 c.dX n&&(decide (0<=c.Seq)&&decide (c.Seq<=1099511627776)))
def DD(c:aV)(n:Int):cX prog 169 [A c.c,I n] (B (eQ c n)):=by
 have F:=xg c.cz;have M:=DC c.dX n;unfold eQ;cases b:mm c.cz<;>rw[b]at F
 exact Hr
 cases d:e9 c.dX n<;>rw[d]at M
 exact Hr
 refine aB func169 λW=>?_;refine aq 2 λo=>?_;refine aa 20 ?_;refine ai.aU (λf=>?_) (λf=>?_);refine aa 9 ?_
 exact OF
 refine aa 9 ?_
 exact OF
def nQ{c:aV}(h:eQ c n=true):cK c.cz/\e9 c.dX n=true/\0<=c.Seq/\c.Seq<=1099511627776:=by simp only[eQ,cZ,da]at h;grind [mm]
def rf(d:bI):ab aP:=d.l.flatMap bt
def ja(c:aV):ab aP:=na c.cz++(rf c.dX++bt c.Seq)
def mo(h:n<=127):(bt n).length<=1:=zi 0 _ ac
def DE(l:ab Int)(h:∀m,m∈l->m<=127):(l.flatMap bt).length<=l.length:=by
 induction l with
 |nil=>simp
 |cons m l u=>
  have F:=mo (h m XE);grind
def sc(h:e9 d n=true):∀m,m∈d.l->0<=m/\m<=64:=by intro m K;obtain⟨k,T⟩:=qZ K;have:=p8.1 h k m T;simp only[iW,cZ,da]at this;exact this.1
theorem xh(h:e9 d n=true):(rf d).length<=7:=DE d.l λm K=>by have:=sc h m K;omega
theorem DF{d:bP}(h:cK d):(na d).length<=200:=by obtain⟨F,M,g,z,N,E,s,v,T,G⟩:=re h;grind [fq,na,List.length_append]
def xi{c:aV}(h:eQ c n=true):(ja c).length<=300:=by obtain⟨F,M,g,z⟩:=nQ h;grind [DF,xh,fq,ja,List.length_append]
def Rd.WT(p:Nat)(c:aV):Rd (cells p 52 c.c) (some ⟨p,6,none⟩) c.dX.l.length p 6 1 (c.dX.l.map rQ):=
 ⟨XE,by rw[bI.RX];decide,λ_=>rfl,λw b i x U=>by
  rw[ho]at U;obtain⟨m,K,rfl⟩:=oW.1 U;refine⟨rfl,λj u R=>?_⟩;have y:j=0:=by have:=(cI.1 R).1;simp[rQ]at this;omega
  subst y;simp only[rQ,oZ,er]at R;subst R;rw[ym b];have E:i<7:=M0
  rcases(by omega:i=0\/i=1\/i=2\/i=3\/i=4\/i=5\/i=6)with e|e|e|e|e|e|e<;>subst e<;>cases K<;>rfl⟩
def xj(b:Nat)(v:aj)(Z:ab aP)(c:aV)(n:Int)(u:eQ c n=true)(U:Z.length<=600000):ar prog 174 [au b 0,A c.c] [cells b 231 (fw.c ⟨v⟩),rows c0 v 5 1 Z] (λr Y=>∃X,r=.tuple #[]/\Y=[cells b 231 (fw.c ⟨X⟩),rows c0 X 5 1 (Z++ja c)]):=by
 obtain⟨F,M,g,z⟩:=nQ u;have h:=DF F;have l:=xh M;have g:=fq (n:=c.Seq) ac;have e:Z++na c.cz++rf c.dX++bt c.Seq=Z++ja c:=by simp only[ja,cd]
 rw[<-e];have a (v:aj) (J:ab aP) (p:Nat) (G:J.length<=700000):
   ar prog 170 [au b 0,.slice (some ⟨p,6,none⟩) 7 7] [cells b 231 (fw.c ⟨v⟩),rows c0 v 5 1 J,cells p 52 c.c] (λr Y=>∃X,r=.tuple #[]/\Y=[cells b 231 (fw.c ⟨X⟩),rows c0 X 5 1 (J++rf c.dX),cells p 52 c.c]):=
  w9 b v J c.dX.l _ _ 7 p 6 (Rd.WT p c) (λm K=>by have:=sc M m K;omega) P4
 refine aB func174 λW=>?_;refine aq 2 λp=>?_;refine aa 7 ?_;refine ai.o' rfl (ago _ _ _ _ ?_ ?_) ?_;iterate 2 exact b1
 rintro _ _⟨z,rfl,rfl⟩;refine aa 7 ?_;refine ai.v (V.U2 ad rfl) ?_;refine ai.o' rfl (a _ _ _ ?_) ?_;exact b1;rintro _ _⟨g,rfl,rfl⟩;refine aq 7 λJ=>?_;refine ai.o' rfl (pe _ _ _ _ _ ?_ ?_) ?_;iterate 2 exact b1
 rintro _ _⟨a,rfl,rfl⟩;exact aM 3
def p9(d:bI)(k:Nat):ab Int:=d.l.take k++List.replicate (7-k) 0
def ab8(T:k<7)(K:d.l[k]?=some m):(p9 d k).set k m=p9 d (k+1):=by unfold p9;have E:=bI.RX d;rw[List.set_append,aN XK,mY,K,eX,E];rw[show k-Min.min k 7=0 by omega,show 7-k=(7-(k+1))+1 by omega,yC,Cw];simp
def zB(T:k<=7):(p9 d k).length=7:=by grind [p9,List.length_append,List.length_take,List.length_replicate,bI.RX]
def afQ{l:ab Int}(h:l[k]?=some m):(l.drop k).flatMap bt=bt m++(l.drop (k+1)).flatMap bt:=by obtain⟨T,rfl⟩:=cI.1 h;rw[tz T,fG]
def rh(c:aV)(k:Nat):ab aj:=c.cz.c++(lq (p9 c.dX k)++[I 0])
def aap(c:aV):rh c 7=aV.c {c with Seq:=0}:=by unfold rh p9;rw[show 7-7=0 from rfl,List.replicate_zero,dk,show c.dX.l.take 7=c.dX.l from rfl];rfl
theorem aeq{c:aV}(T:k<7)(K:c.dX.l[k]?=some m):bq (6+k*1) [I m] (rh c k) (rh c (k+1)):=⟨by
 have h:=(zz (l:=p9 c.dX k) (x:=m) (k:=k) (by rw[zB ac];exact T)).1;rw[ab8 T K]at h;unfold rh;have E:(lq (p9 c.dX k)).length=7:=by rw[lq,ev,zB ac]
 rw[<-h];simp only[dD,nJ,hm,dp,fY];have E:c.cz.c.length=6:=rfl;rw[qO,nB ac,uV,vc ac];rw[j4 ac,List.drop_eq_nil_of_le ac,E,show 6+k-6=k by omega,show 6+k+1-6=k+1 by omega];simp⟩
def Js{c:aV}(T:k<=7):(rh c k).length=14:=by unfold rh;rw[bM,bM,lq,ev,zB T];rfl
def xk(b:Nat)(c:aV)(n:Int)(i:ab aP)(u:eQ c n=true)(t:i.length<=1000000):ar prog 197 [au b 0] [cells b 306 (ek.c ⟨ja c++i,false⟩)] (λr Y=>r=A c.c/\Y=[cells b 306 (ek.c ⟨i,false⟩)]):=by
 obtain⟨F,M,g,z⟩:=nQ u;have s:=xh M;have f:=fq (n:=c.Seq) ac;unfold ja;simp only[cd];have d:(rf c.dX++(bt c.Seq++i)).length<=10000000:=XK
 refine aB func197 λW=>?_;refine aq 2 λL=>?_;refine aa 5 ?_;refine ai.o' rfl (Jn _ _ _ ?_ ?_) ?_;iterate 2 exact b1
 refine aq 2 λp=>?_;refine aa 10 ?_;refine ah.cb [3,2,0] (λk:Nat=>k<=7) (λk=>[(8,I (k:Int))]) (λk=>[cells p 52 (rh c k),cells b 306 (ek.c ⟨(c.dX.l.drop k).flatMap bt++(bt c.Seq++i),false⟩)]) (λk=>7-k) 0 (cw _) ?_;intro k T K a;refine bh ?_;by_cases w:k<7
 .obtain⟨m,R⟩:∃m,c.dX.l[k]?=some m:=⟨_,gM (by grind [bI.RX])⟩
  have Q:=sc M m (j5 R);have X:=Js (c:=c) (k:=k) ac;have J:((c.dX.l.drop (k+1)).flatMap bt++(bt c.Seq++i)).length<=1000000000:=by
   have:=DE (c.dX.l.drop (k+1)) λx U=>by have:=sc M x (List.mem_of_mem_drop U);omega
   have h:(c.dX.l.drop (k+1)).length<=7:=by rw[j6,bI.RX];omega
   simp only[bM];omega
  rw[afQ R,cd];refine aa 20 ?_;refine ai.o' rfl (iF _ _ _ _ ?_ ?_ ?_ ?_) ?_;iterate 4 exact b1
  refine aa 2 ?_;refine ai.v (V.RL ad (k:=k) rfl rfl rfl) ?_;refine ai.o (O.G' ad ?_ (j:=by rw[lk];omega) (z:=aeq w R));refine aa 7 ?_;rotate_left;exact IL
 .obtain rfl:k=7:=by omega
  rw[aap,show(c.dX.l.drop 7).flatMap bt=[]from rfl,gi];clear a;refine aa 15 ?_;refine ai.o' rfl (iF _ _ _ _ ?_ ?_ ?_ ?_) ?_;iterate 4 exact b1
  refine aa 9 ?_;refine ai.o' rfl (xa _ _) ?_;exact aM 14
end Go.Proofs.YteogojgnkjegmaaGreatDoor
