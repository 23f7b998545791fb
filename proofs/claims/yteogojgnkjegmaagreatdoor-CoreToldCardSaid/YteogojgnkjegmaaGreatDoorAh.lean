/-
 Part of the proof.
-/
import Derived.Test.YteogojgnkjegmaaGreatDoorAf
set_option linter.all false
set_option maxRecDepth 8000
set_option maxHeartbeats 8000000
namespace Go.Proofs.YteogojgnkjegmaaGreatDoor
open Go.az Go.Proofs.Tryz
variable{d:Array Go.Edge}{D:aT (Nat×Bool)}{F:ab ay}{a n:Nat}{k:Go.IntKind}{P:b1}{M:bJ}{C:Nat}{G:aT (Nat×Bool)}{Q:a8}
def fZ(n:Nat):ab aS:=if n<128 then[UInt8.ofNat n]else UInt8.ofNat (128+n%128)::fZ (n/128)
termination_by n
decreasing_by omega
def bL(n:Int):ab aS:=fZ n.toNat
def p7(h:n<128):fZ n=[UInt8.ofNat n]:=by rw[fZ];exact aJ h
def qH(h:¬n<128):fZ n=UInt8.ofNat (128+n%128)::fZ (n/128):=by rw[fZ];exact aG h
def C3(k:Nat):∀n,n<128^(k+1)->(fZ n).length<=k+1:=by
 induction k with
 |zero=>intro n h;rw[p7 VR];simp
 |succ k X=>
  intro n h;by_cases u:n<128
  .rw[p7 u];simp
  .rw[qH u];have:=X (n/128) (by rw[wD]at h;exact Nat.div_lt_of_lt_mul ac)
   simp;omega
def fG{n:Int}(h:n<=9223372036854775807):(bL n).length<=9:=C3 8 _ ac
def C4(n:Nat):1<=(fZ n).length:=by
 by_cases u:n<128
 .rw[p7 u];simp
 .rw[qH u];simp
def C5(n:Int):1<=(bL n).length:=by
 unfold bL;by_cases u:n.toNat<128
 .rw[p7 u];simp
 .rw[qH u];simp
def akz{n:Int}(h:n<=9223372036854775807):IntKind.u64.wrap (Max.max n 0)=((n.toNat:Nat):Int):=by
 have:Max.max n 0=((n.toNat:Nat):Int):=ac
 rw[this];simp only[IntKind.wrap,IntKind.signed,IntKind.bits];simp;omega
def afM(m:Nat)(h:m<128):IntKind.u8.wrap (m:Int)=((UInt8.ofNat m).toNat:Int):=Nn
def Ac(m:Nat):IntKind.u8.wrap (m:Int)=((m%256:Nat):Int):=Nn
def aeW:∀x:Fin 256,(BitVec.ofNat 8 x.val|||128#8).toNat=128+x.val%128:=VI
def aiF(m:Nat):l2 .or .u8 (IntKind.u8.wrap (m:Int)) 128=some ((UInt8.ofNat (128+m%128)).toNat:Int):=by
 have Y:=aeW ⟨m%256,ac⟩;have p:BitVec.ofInt IntKind.u8.bits (IntKind.u8.wrap (m:Int))=BitVec.ofNat 8 (m%256):=by rw[Ac];exact tL 8 _
 have h:BitVec.ofInt IntKind.u8.bits 128=128#8:=rfl;simp only[l2,p,h];have Z:(BitVec.ofNat 8 (m%256)|||128#8).toNat=128+m%128:=by rw[Y];simp only;omega
 show some (IntKind.u8.wrap ((BitVec.ofNat 8 (m%256)|||128#8).toNat:Int))=_
 rw[Z,Ac];congr 1
def afO(m:Nat):(m:Int).fdiv (2^(Min.min (7:Int).toNat IntKind.u64.bits))=((m/128:Nat):Int):=by have:(2^(Min.min (7:Int).toNat IntKind.u64.bits):Int)=((128:Nat):Int):=rfl;rw[this,C6 _ ac];omega
def O.Xo{r:aT Nat}{W:a2}{D:ab Nat}{n:dF}{K:Nat}{u:a8}{g:String}{C:bJ->ab ay->Prop}{o:Type}(f:o->ab aj)(E R:Nat){T:a8}{x:bj}{c:ab aj}(U:aR M x=some (A c))(X:∀b,C ((K,av b 0)::M) (cells b T c::rows f (.slice none 0 0) E R []::F))(m:Nat.blt K n.n=true:=by exact rfl):aw P r W D n ⟨some K,.box T x,u,g,d,G⟩ M F C:=
 aw.aat (C:=λN J=>∃b,N=(K,av b 0)::M/\J=cells b T c::F) (aw.aap m U λb=>⟨b,rfl,rfl⟩) (by rintro N J⟨b,rfl,rfl⟩;exact⟨_,X b,λw s=>(s.XE f E R).perm (hV _ _ _)⟩)
def Ad(b:Nat)(v:aj)(N:ab aS)(d:ab Int)(e:ay)(i:aT Go.Addr)(Q E off:Nat)(f:Rd e i d.length E off 1 (d.map uO))(s:∀n,n∈d->n<=9223372036854775807)(U:N.length+9*d.length<=1000000):ar prog 170 [av b 0,.slice i d.length Q] [cells b 231 (gB.c ⟨v⟩),rows dL v 5 1 N,e] (λr J=>∃t,r=.tuple #[]/\J=[cells b 231 (gB.c ⟨t⟩),rows dL t 5 1 (N++d.flatMap bL),e]):=by
 refine aF func170 λW=>?_;refine aa 8 ?_;refine ah.cq [8,7,0] (λx:Nat×ab aS×aj=>x.1<=d.length/\x.2.1=N++(d.take x.1).flatMap bL/\x.2.1.length+9*(d.length-x.1)<=1000000)
  (λx=>[(9,I (x.1:Int))]) (λx=>[cells b 231 (gB.c ⟨x.2.2⟩),rows dL x.2.2 5 1 x.2.1]) (λx=>d.length-x.1) (0,N,v) ⟨cG _,VK,Mm⟩ ?_
 rintro⟨k,pre,C⟩⟨T,z,u⟩ K l;dsimp only at T z u;refine bh ?_;have g:=f.len;by_cases h:k<d.length
 .have y:d.getD k default<=9223372036854775807:=s _ (by simp[h]);have R:=fG y;have Ye:=C5 (d.getD k default);refine aa 14 ?_;refine ai.v (V.Xk ad rfl VV (Gq ac)) ?_;refine aa 7 ?_;refine ai.v (V.WI ad rfl rfl (akz VV)) ?_;refine aa 5 ?_;rotate_left;refine ah.cq [9,8,7,0] (λx:Nat×ab aS×aj=>∃p,x.2.1=pre++p/\p++fZ x.1=bL (d.getD k default)/\p.length+1<=9) (λx=>[(6,.int .u64 (x.1:Int))]) (λx=>[cells b 231 (gB.c ⟨x.2.2⟩),rows dL x.2.2 5 1 x.2.1]) (λx=>x.1) ((d.getD k default).toNat,pre,C) ⟨[],VK,rfl,VK⟩ ?_;rintro⟨m,q,F⟩⟨p,aV,P,G⟩ L M;dsimp only at P G aV;have Yg:q.length=pre.length+p.length:=by rw[aV];simp
  refine bh ?_;refine aa 7 ?_;refine ah.cs (λa=>?_) (λa=>?_);refine aa 11 ?_;refine ai.v (V.XB ad) ?_;refine ai.v (V.Xt rfl rfl (aiF _)) ?_;refine aq 0 λYc=>?_;refine ai.o (O.Z' ad rfl rfl Vz (cz.one ad VF Gr) (λYi Yh=>?_));refine aa 7 ?_;refine ai.v (V.Xl rfl rfl (afO _)) ?_;refine aa 3 ?_;rotate_left;refine aa 12 ?_;refine ai.v (V.WI ad rfl rfl (afM _ ac)) ?_;refine aq 0 λYf=>?_;refine ai.o (O.Z' ad rfl rfl Vz (cz.one ad VF Gr) (λw j=>?_));refine aa 10 ?_;rotate_left
  .have X:=qH (n:=m) ac;have Y:=C4 (m/128);have Z:p.length+((fZ (m/128)).length+1)<=9:=by
    have:(p++fZ m).length=(bL (d.getD k default)).length:=by rw[P]
    rw[X]at this;simp only[bQ,df]at this;omega
   exact Out.C' M (m/128,q++[UInt8.ofNat (128+m%128)],_) ⟨p++[UInt8.ofNat (128+m%128)],by simp[aV],by rw[ck,<-P,X];rfl,VG⟩ Mm
  .have X:=p7 (n:=m) ac;have Z:p++[UInt8.ofNat m]=bL (d.getD k default):=by rw[<-P,X]
   have D:q++[UInt8.ofNat m]=N++(d.take (k+1)).flatMap bL:=by rw[aV,ck,Z,z,F2 h,l3,ck];simp[List.getD,h]
   exact Out.C' l (k+1,q++[UInt8.ofNat m],_) ⟨Mm,D,VG⟩ Mm
 .refine aa 12 ?_;obtain rfl:pre=N++d.flatMap bL:=by rw[z,lr ac]
  exact⟨_,_,⟨C,rfl,rfl⟩,ak.cons al.here (ak.cons al.here (ak.cons al.here ak.nil))⟩
def wE(b:Nat)(v:aj)(N:ab aS):ar prog 124 [av b 0] [cells b 231 (gB.c ⟨v⟩),rows dL v 5 1 N] (λr J=>r=S N/\J=[cells b 231 (gB.c ⟨v⟩),rows dL v 5 1 N]):=by refine aF func124 λW=>?_;refine aa 11 ?_;refine ai.v (V.aaI ad) ?_;exact aQ 5
def tM(s:ab aS):ar prog 130 [S s] [] (λr J=>∃b,r=av b 0/\J=[cells b 306 (fd.c ⟨s,false⟩)]):=by refine aF func130 λW=>?_;refine aq 9 λa=>?_;exact aQ 5
def sq(b:Nat)(s:fd):ar prog 243 [av b 0] [cells b 306 s.c] (λr J=>r=.tuple #[]/\J=[cells b 306 (fd.c ⟨[],true⟩)]):=by refine aF func243 λW=>?_;exact aQ 18
def Hf(b:Nat)(s:fd):ar prog 132 [av b 0] [cells b 306 s.c] (λr J=>r=B (!s.pn&&decide (s.k2=[]))/\J=[cells b 306 s.c]):=by
 refine aF func132 λW=>?_;refine aa 17 ?_;refine M2 (λf=>?_) λf=>?_
 .simp[*]
 refine aa 11 ?_
 .simp[*]
def Ae(b:Nat)(s:fd):ar prog 192 [av b 0] [cells b 306 s.c] (λr J=>r=B s.pn/\J=[cells b 306 s.c]):=by refine aF func192 λW=>?_;exact aQ 20
def ajg(b:Nat)(s:fd):ar prog 193 [av b 0] [cells b 306 s.c] (λr J=>r=I (s.k2.length:Int)/\J=[cells b 306 s.c]):=by refine aF func193 λW=>?_;exact aQ 27
def C7{b:Nat}(J:a<256)(X:b<256)(h:UInt8.ofNat a=UInt8.ofNat b):a=b:=by have:=c7 UInt8.toNat h;simp at this;omega
def af8(a:Nat):∀b,(fZ b).take (fZ a).length=fZ a->a=b:=by
 induction a using Nat.strongRecOn with
 |_ a T=>
  intro b h;by_cases J:a<128
  .rw[p7 J]at h;by_cases X:b<128
   .rw[p7 X]at h;exact(C7 ac ac VR).symm
   .rw[qH X]at h;have:=C7 (a:=128+b%128) (b:=a) ac ac VR;omega
  .rw[qH J]at h;by_cases X:b<128
   .rw[p7 X]at h;have Y:=C4 (a/128);have:=c7 List.length h;simp only[e8,df,gv]at this;omega
   .rw[qH X]at h;simp only[df,ws,q9]at h;have Y:=C7 ac ac h.1;have Z:=T (a/128) ac (b/128) h.2;omega
def afX{a b:Int}(J:0<=a)(X:0<=b)(h:(bL b).take (bL a).length=bL a):a=b:=by have:=af8 _ _ h;omega
def rv(b:Nat)(v:aj)(N:ab aS)(n:Int)(g:Nat)(h:n<=9223372036854775807)(U:N.length<=900000):ar prog 170 [av b 0,.slice (some ⟨g,0,none⟩) 1 1] [cells b 231 (gB.c ⟨v⟩),rows dL v 5 1 N,row (.slice (some ⟨g,0,none⟩) 1 1) 3 1 1 [I n]] (λr J=>∃L,r=.tuple #[]/\J=[cells b 231 (gB.c ⟨L⟩),rows dL L 5 1 (N++bL n),row (.slice (some ⟨g,0,none⟩) 1 1) 3 1 1 [I n]]):=by have:=Ad b v N [n] _ _ 1 g 0 (Rd.lits (E:=3) (z:=1) uO [n] rfl rfl (λ_=>rfl) VK) VR VG;exact L2
def Hg(b:Nat)(v:aj)(N:ab aS)(m n:Int)(g:Nat)(K:m<=9223372036854775807)(h:n<=9223372036854775807)(U:N.length<=900000):ar prog 170 [av b 0,.slice (some ⟨g,0,none⟩) 2 2] [cells b 231 (gB.c ⟨v⟩),rows dL v 5 1 N,row (.slice (some ⟨g,0,none⟩) 2 2) 3 1 2 [I m,I n]] (λr J=>∃L,r=.tuple #[]/\J=[cells b 231 (gB.c ⟨L⟩),rows dL L 5 1 (N++(bL m++bL n)),row (.slice (some ⟨g,0,none⟩) 2 2) 3 1 2 [I m,I n]]):=by have:=Ad b v N [m,n] _ _ 2 g 0 (Rd.lits (E:=3) (z:=2) uO [m,n] rfl rfl (λ_=>rfl) VK) (by intro q aV;simp at aV;rcases aV with rfl|rfl<;>assumption) VG;exact L2
def ahD(b:Nat)(v:aj)(N t:ab aS)(U:N.length+t.length<=2000000):ar prog 175 [av b 0,S t] [cells b 231 (gB.c ⟨v⟩),rows dL v 5 1 N] (λr J=>∃L,r=.tuple #[]/\J=[cells b 231 (gB.c ⟨L⟩),rows dL L 5 1 (N++t)]):=by refine aF func175 λW=>?_;refine aa 7 ?_;refine ai.o (O.W2 ad rfl rfl Vz (cz.str ad) (λs P r=>?_));exact aQ 5
def Hh(b:Nat)(v:aj)(N t:ab aS)(U:N.length+t.length<=800000):ar prog 262 [av b 0,S t] [cells b 231 (gB.c ⟨v⟩),rows dL v 5 1 N] (λr J=>∃L,r=.tuple #[]/\J=[cells b 231 (gB.c ⟨L⟩),rows dL L 5 1 (N++(bL t.length++t))]):=by
 have G:=fG (n:=(t.length:Int)) ac;refine aF func262 λW=>?_;refine aq 5 λo=>?_;refine ai.x' rfl (rv _ _ _ _ _ ?_ ?_) ?_;iterate 2 exact co
 rintro _ _⟨J,rfl,rfl⟩;refine aa 6 ?_;refine Ui λZ=>?_;refine aa 3 ?_;rw[ck];exact⟨_,_,⟨_,rfl,rfl⟩,ak.cons al.here (ak.cons al.here ak.nil)⟩
def C9(b:Nat)(v:aj)(N:ab aS)(y:Bool)(U:N.length<=800000):ar prog 173 [av b 0,B y] [cells b 231 (gB.c ⟨v⟩),rows dL v 5 1 N] (λr J=>∃L,r=.tuple #[]/\J=[cells b 231 (gB.c ⟨L⟩),rows dL L 5 1 (N++bL (if y then 1 else 0))]):=by
 refine aF func173 λW=>?_;refine Si (λM=>?_) λM=>?_;refine aq 2 λp=>?_;refine ai.x' rfl (rv _ _ _ _ _ ?_ ?_) ?_;iterate 2 exact co
 rintro _ _⟨K,rfl,rfl⟩;refine aa 3 ?_;rotate_left;refine aq 2 λa=>?_;refine ai.x' rfl (rv _ _ _ _ _ ?_ ?_) ?_;iterate 2 exact co
 rintro _ _⟨C,rfl,rfl⟩;refine aa 3 ?_;rotate_left
 exact SN
 exact SN
def nw(s:fd)(n:Int):ab aS×fd:=if s.pn=true\/n<0\/(s.k2.length:Int)<n then([],⟨[],true⟩)else(s.k2.take n.toNat,⟨s.k2.drop n.toNat,s.pn⟩)
def u2(b:Nat)(s:fd)(n:Int)(E:s.k2.length<=9223372036854775807):ar prog 191 [av b 0,I n] [cells b 306 s.c] (λr J=>r=S (nw s n).1/\J=[cells b 306 (nw s n).2.c]):=by
 refine aF func191 λW=>?_;refine aa 17 ?_;refine ai.aX (λf=>?_) (λf=>?_);refine aa 18 ?_;refine ai.x' rfl (sq _ _) ?_;refine aa 11 ?_;rotate_left;refine RJ (λD=>?_) λD=>?_;refine aa 14 ?_;refine ai.x' rfl (sq _ _) ?_;refine aa 11 ?_;rotate_left;refine aa 10 ?_;refine ah.cs (λm=>?_) (λm=>?_);refine aa 3 ?_;refine ai.x' rfl (sq _ _) ?_;refine aa 11 ?_;rotate_left;refine aa 9 ?_;refine ai.v (V.X8 ad) ?_;refine aa 11 ?_;refine ai.v (V.aaA ad) ?_;refine aa 13 ?_;rotate_left;all_goals first
  |(rw[show nw s n=([],⟨[],true⟩)from aJ (by simp_all)];exact⟨_,_,⟨rfl,rfl⟩,ak.cons al.here ak.nil⟩)
  |(rw[show nw s n=(s.k2.take n.toNat,⟨s.k2.drop n.toNat,s.pn⟩)from aG (by simp_all)];exact⟨_,_,⟨rfl,rfl⟩,ak.cons al.here ak.nil⟩)
def js:ab aS->Nat->Nat->aT (Nat×ab aS)
 |[],_,_=>none
 |x::N,i,acc=>if 8<i then none else if x.toNat<128 then(if x.toNat=0/\0<i then none else some (acc+x.toNat%128*128^i,N))else js N (i+1) (acc+(x.toNat%128)*128^i)
def qI(d:Int)(s:fd)(i acc:Nat):Int×fd:=
 if s.pn=true then(0,⟨[],true⟩)else match js s.k2 i acc with
  |some (v,x)=>if d<(v:Int)then(0,⟨[],true⟩)else((v:Int),⟨x,false⟩)
  |none=>(0,⟨[],true⟩)
def p8(s:fd)(d:Int):Int×fd:=qI d s 0 0
def aiv:∀x:Fin 256,(BitVec.ofNat 8 x.val&&&127#8).toNat=x.val%128:=VI
def akj(x:aS):l2 .and .u8 (x.toNat:Int) 127=some ((x.toNat%128:Nat):Int):=by
 have Y:=aiv ⟨x.toNat,x.toNat_lt⟩;have p:BitVec.ofInt IntKind.u8.bits (x.toNat:Int)=BitVec.ofNat 8 x.toNat:=tL 8 _;have h:BitVec.ofInt IntKind.u8.bits 127=127#8:=rfl;simp only[l2,p,h];show some (IntKind.u8.wrap ((BitVec.ofNat 8 x.toNat&&&127#8).toNat:Int))=_
 rw[Y,Ac];simp only;congr 2;omega
def Da(m:Nat)(h:m<2^64):IntKind.u64.wrap (m:Int)=(m:Int):=MF
def Hi(i:Nat):(2:Nat)^(7*i)=128^i:=by rw[Nat.pow_mul]
def Db{i:Nat}(h:i<=8):128^i<=128^8:=Nat.pow_le_pow_right ac h
def ala(x i:Nat)(U:x<128)(am:i<=8):IntKind.u64.wrap ((x:Int)*2^(Min.min (7*(i:Int)).toNat IntKind.u64.bits))=((x*128^i:Nat):Int):=by
 have e:Min.min (7*(i:Int)).toNat IntKind.u64.bits=7*i:=by have:IntKind.u64.bits=64:=rfl;omega
 rw[e];have h:((x:Int)*2^(7*i))=((x*128^i:Nat):Int):=by rw[<-Hi];simp
 rw[h];have:=CU (show x<=127 by omega) (Db am);exact Da _ ac
def ahr(a y i:Nat)(J:a<128^i)(am:i<=8)(C:y<128):l2 .or .u64 (a:Int) ((y*128^i:Nat):Int)=some ((a+y*128^i:Nat):Int):=by
 have Y:=Db am;have Z:=CU (show y<=127 by omega) Y;have p:BitVec.ofInt IntKind.u64.bits (a:Int)=BitVec.ofNat 64 a:=tL 64 _;have h:BitVec.ofInt IntKind.u64.bits ((y*128^i:Nat):Int)=BitVec.ofNat 64 (y*128^i):=tL 64 _;have j:a|||y*128^i=a+y*128^i:=by rw[<-Hi]at J⊢;have:=Nat.two_pow_add_eq_or_of_lt J y;rw[yd y,Nat.or_comm,<-this];omega
 simp only[l2,p,h];show some (IntKind.u64.wrap ((BitVec.ofNat 64 a|||BitVec.ofNat 64 (y*128^i)).toNat:Int))=_
 rw[BitVec.toNat_or,sr,sr,tG ac,tG ac,j,Da _ ac]
def Af(m:Nat)(h:m<2^63):IntKind.i64.wrap (m:Int)=(m:Int):=Cv (nl.ZJ ac)
def ajA(s:fd):nw s 1=match s.pn,s.k2 with
  |false,x::N=>([x],⟨N,false⟩)
  |_,_=>([],⟨[],true⟩):=by
 unfold nw
 cases c:s.pn<;>cases am:s.k2<;>simp<;>omega
def ye{d:Int}{c:fd}{i acc:Nat}{x:aS}{N:ab aS}(b:¬c.pn=true)(q:c.k2=x::N):qI d c i acc=if 8<i then(0,⟨[],true⟩)else if x.toNat<128 then(if x.toNat=0/\0<i then(0,⟨[],true⟩)else if d<((acc+x.toNat%128*128^i:Nat):Int)then(0,⟨[],true⟩)else(((acc+x.toNat%128*128^i:Nat):Int),⟨N,false⟩)) else qI d ⟨N,false⟩ (i+1) (acc+x.toNat%128*128^i):=by
 unfold qI;rw[aG b,q];simp only[js];by_cases Y:8<i
 .simp only[aJ Y]
 .by_cases Z:x.toNat<128
  .by_cases D:x.toNat=0/\0<i
   .simp only[aG Y,aJ Z,aJ D]
   .simp only[aG Y,aJ Z,aG D]
  .simp only[aG Y,aG Z,h8,iH]
def Ag(b:Nat)(s:fd)(d:Int)(E:s.k2.length<=9223372036854775807):ar prog 190 [av b 0,I d] [cells b 306 s.c] (λr J=>r=I (p8 s d).1/\J=[cells b 306 (p8 s d).2.c]):=by
 refine aF func190 λW=>?_;refine aa 16 ?_;refine ah.cq [0,1] (λx:Nat×Nat×fd=>qI d x.2.2 x.1 x.2.1=p8 s d/\x.2.1<128^x.1/\x.1<=9/\x.2.2.k2.length<=9223372036854775807) (λx=>[(5,.int .u64 (x.2.1:Int)),(6,I (7*(x.1:Int)))]) (λx=>[cells b 306 x.2.2.c]) (λx=>10-x.1) (0,0,s) ⟨rfl,VK,VK,E⟩ ?_;rintro⟨i,acc,c⟩⟨P,Z,am,q⟩ K l;dsimp only at P Z am q;refine bh ?_;have g:=ajA c;by_cases m:c.pn=true
 .have Y:ar prog 191 [av b 0,I 1] [cells b 306 c.c] (λr J=>r=S []/\J=[cells b 306 (fd.c ⟨[],true⟩)]):=by have:=u2 b c 1 q;rwa[show nw c 1=([],⟨[],true⟩) by rw[g,m]]at this
  refine aa 25 ?_;refine Pg ?_;rw[<-P,show qI d c i acc=(0,⟨[],true⟩)from aJ m];exact⟨_,_,⟨rfl,rfl⟩,ak.cons al.here ak.nil⟩
 .cases k:c.k2 with
  |nil=>
   have Y:ar prog 191 [av b 0,I 1] [cells b 306 c.c] (λr J=>r=S []/\J=[cells b 306 (fd.c ⟨[],true⟩)]):=by have:=u2 b c 1 q;rwa[show nw c 1=([],⟨[],true⟩) by rw[g,k];cases c.pn<;>rfl]at this
   refine aa 25 ?_;refine Pg ?_;rw[<-P,show qI d c i acc=(0,⟨[],true⟩) by unfold qI;rw[aG m,k];rfl];exact⟨_,_,⟨rfl,rfl⟩,ak.cons al.here ak.nil⟩
  |cons x N=>
   have Y:ar prog 191 [av b 0,I 1] [cells b 306 c.c] (λr J=>r=S [x]/\J=[cells b 306 (fd.c ⟨N,false⟩)]):=by have:=u2 b c 1 q;rwa[show nw c 1=([x],⟨N,false⟩) by rw[g,k];simp at m;rw[m]]at this
   have E:i<=8->acc+(x.toNat%128)*128^i<2^63:=λa=>by have Y:=Db a;have Z:=CU (show x.toNat%128<=127 by omega) Y;omega
   have h:=x.toNat_lt;clear g;refine aa 16 ?_;refine ai.dS (λZ=>?_) (λZ=>?_);exact mq Z;replace Z:=g5 Z;refine Si (λD=>?_) λD=>?_;refine aa 3 ?_;refine Pg ?_;rotate_left;refine aa 6 ?_;refine ai.v (V.ZK ad rfl rfl ac rfl) ?_;refine ai.v (V.Xt rfl rfl (akj _)) ?_;refine ai.v (V.WI ad rfl rfl (Da _ ac)) ?_;refine au ?_;refine ai.v (V.aco rfl rfl (ala _ _ ac ac)) ?_;refine ai.v (V.Xt rfl rfl (ahr _ _ _ VV ac ac)) ?_;refine aa 6 ?_;refine ai.v (V.ZK ad rfl rfl ac rfl) ?_;refine Tf (λb=>?_) λb=>?_;refine aa 4 ?_;refine ai.v (V.ZK ad rfl rfl ac rfl) ?_;refine LF (λw=>?_) λw=>?_;refine RJ (λa=>?_) λa=>?_;refine aa 11 ?_;refine Pg ?_;rotate_left;refine au ?_;refine ai.v (V.WI ad rfl rfl (Af _ (E ac))) ?_;refine Si (λF=>?_) λF=>?_;refine aa 3 ?_;refine Pg ?_;rotate_left;refine aa 5 ?_;refine ai.v (V.WI ad rfl rfl (Af _ (E ac))) ?_;refine aa 9 ?_;rotate_left;refine aa 5 ?_;refine ai.v (V.WI ad rfl rfl (Af _ (E ac))) ?_;refine Si (λo=>?_) λo=>?_;refine aa 3 ?_;refine Pg ?_;rotate_left;refine aa 5 ?_;refine ai.v (V.WI ad rfl rfl (Af _ (E ac))) ?_;refine aa 9 ?_;rotate_left;refine aa 8 ?_;rotate_left;all_goals first
    |(rw[<-P,ye m k,aJ ac];exact⟨_,_,⟨rfl,rfl⟩,ak.cons al.here ak.nil⟩;done)
    |(rw[<-P,ye m k,aG ac,aJ ac,aJ ac];exact⟨_,_,⟨rfl,rfl⟩,ak.cons al.here ak.nil⟩;done)
    |(rw[<-P,ye m k,aG ac,aJ ac,aG ac,aJ VV];exact⟨_,_,⟨rfl,rfl⟩,ak.cons al.here ak.nil⟩;done)
    |(rw[<-P,ye m k,aG ac,aJ ac,aG ac,aG VV];exact⟨_,_,⟨rfl,rfl⟩,ak.cons al.here ak.nil⟩;done)
    |skip
   have n:acc+x.toNat%128*128^i<128^(i+1):=by have Z:=kY (128^i) (show x.toNat%128+1<=128 by omega);rw[wD];rw[fK]at Z;omega
   exact Out.C' l (i+1,acc+x.toNat%128*128^i,⟨N,false⟩) ⟨by dsimp only;rw[<-P,ye m k,aG ac,aG ac],n,Mm,by dsimp only;rw[k]at q;simp at q;omega⟩ Mm
def afI(b:Nat)(s:fd)(E:s.k2.length<=9223372036854775807):ar prog 196 [av b 0] [cells b 306 s.c] (λr J=>r=B (decide ((p8 s 1).1=1))/\J=[cells b 306 (p8 s 1).2.c]):=by refine aF func196 λW=>?_;refine aa 8 ?_;refine ai.x' rfl (Ag _ _ _ ?_) ?_;exact co;exact aQ 7
def Hj:∀(l:ab aS) (i acc v:Nat) (Y:ab aS),js l i acc=some (v,Y)->Y.length<=l.length
 |[],_,_,_,_,h=>by simp[js]at h
 |x::N,i,acc,v,Y,h=>by
  simp only[js]at h;split at h
  .cases h
  .split at h
   .split at h
    .cases h
    .simp only[fj,nV]at h;rw[<-h.2];simp
   .have:=Hj N _ _ _ _ h;simp;omega
def MZ(s:fd)(d:Int):(p8 s d).2.k2.length<=s.k2.length:=by
 unfold p8 qI;split
 .simp
 .split
  .rename_i v x h;have:=Hj _ _ _ _ _ h;split<;>simp<;>omega
  .simp
def Ah(s:fd)(d:Int):ab aS×fd:=nw (p8 s d).2 (p8 s d).1
def amb(b:Nat)(s:fd)(d:Int)(E:s.k2.length<=9223372036854775807):ar prog 269 [av b 0,I d] [cells b 306 s.c] (λr J=>r=S (Ah s d).1/\J=[cells b 306 (Ah s d).2.c]):=by have u:=MZ s d;refine aF func269 λW=>?_;refine aa 10 ?_;refine ai.x' rfl (Ag _ _ _ ?_) ?_;exact co;refine au ?_;refine ai.x' rfl (u2 _ _ _ ?_) ?_;exact co;exact aQ 6
def ss:Nat:=3988292384
def nx(c:Nat):Nat:=if c%2=1 then(c/2)^^^ss else c/2
def hx:Nat->Nat->Nat
 |0,c=>c
 |k+1,c=>nx (hx k c)
def Hk(b c:Nat)(k:Nat):Nat:=if b/2^k%2≠c%2 then(c/2)^^^ss else c/2
def yf(b:Nat):Nat->Nat->Nat
 |0,c=>c
 |k+1,c=>Hk b (yf b k c) k
def Hl(a b:Nat):(a^^^b)/2=(a/2)^^^(b/2):=by have:=Nat.shiftRight_xor_distrib (a:=a) (b:=b) (i:=1);simpa[Nat.shiftRight_eq_div_pow]using this
def Hm(a b:Nat):(a^^^b)%2=(a%2+b%2)%2:=by have:=Nat.xor_mod_two_eq_one (a:=a) (b:=b);omega
def aeC(b c:Nat):∀k,hx k (c^^^b)=yf b k c^^^(b/2^k)
 |0=>by simp[hx,yf]
 |k+1=>by
  have e:b/2^(k+1)=b/2^k/2:=by rw[wD,Nat.div_div_eq_div_mul]
  rw[hx,yf,aeC b c k,nx,Hk,Hl,Hm,e];by_cases h:b/2^k%2=yf b k c%2
  .rw[aG ac,aG ac]
  .rw[aJ ac,aJ ac,rx,rx,Dc ss]
def ny(c b:Nat):Nat:=hx 8 (c^^^b)
def Dd(m:Nat)(h:m<4294967296):IntKind.u32.wrap (m:Int)=(m:Int):=MF
def yg{b:Nat}(J:a<4294967296)(X:b<4294967296):a^^^b<4294967296:=Hn (n:=32) J X
def De{b:Nat}(J:a<4294967296)(X:b<4294967296):l2 .xor .u32 (a:Int) (b:Int)=some ((a^^^b:Nat):Int):=by
 have h:=yg J X;simp only[l2,tL];show some (IntKind.u32.wrap ((BitVec.ofNat 32 a^^^BitVec.ofNat 32 b).toNat:Int))=_
 rw[BitVec.toNat_xor,sr,sr,tG J,tG X];congr 1;exact Dd _ h
def aj7(J:a<4294967296):l2 .and .u32 (a:Int) 1=some ((a%2:Nat):Int):=by
 simp only[l2,tL];show some (IntKind.u32.wrap ((BitVec.ofNat 32 a&&&BitVec.ofNat 32 1).toNat:Int))=_
 rw[Ho,sr,sr,tG J,show 1%2^32=1 from rfl,Nat.and_one_is_mod];congr 1;exact Dd _ ac
def Hp(m:Nat):(m:Int).fdiv (2^(Min.min (1:Int).toNat IntKind.u32.bits))=((m/2:Nat):Int):=by have:(2^(Min.min (1:Int).toNat IntKind.u32.bits):Int)=((2:Nat):Int):=rfl;rw[this,C6 _ ac];omega
def agI{c:Nat}(h:c<4294967296):nx c<4294967296:=by
 unfold nx ss;split
 .exact yg ac ac
 .omega
def Ai{c:Nat}(h:c<4294967296):∀k,hx k c<4294967296
 |0=>h
 |k+1=>agI (Ai h k)
def M4{c b:Nat}(h:c<4294967296)(X:b<256):ny c b<4294967296:=Ai (yg h ac) 8
def ajt(J:a<4294967296):l2 .xor .u32 (a:Int) 3988292384=some ((a^^^ss:Nat):Int):=De J (b:=ss) VI
def aki(c:Nat)(b:aS)(h:c<4294967296):dH prog 231 [.int .u32 (c:Int),.int .u8 (b.toNat:Int)] (.int .u32 (ny c b.toNat:Int)):=by
 have X:=b.toNat_lt;refine aF func231 λW=>?_;have U:=yg h (show b.toNat<4294967296 by omega);refine aa 9 ?_;refine ai.v (V.WI ad rfl rfl (Dd _ ac)) ?_;refine ai.v (V.Xt rfl rfl (De h ac)) ?_;refine aa 10 ?_;refine ah.cq [] (λk:Nat=>k<=8) (λk=>[(9,I (k:Int)),(0,.int .u32 (hx k (c^^^b.toNat):Int))]) (λk=>[]) (λk=>8-k) 0 (cG _) ?_;rintro k T K i;refine bh ?_;by_cases n:k<8
 .have q:=Ai U k;have p:hx (k+1) (c^^^b.toNat)=nx (hx k (c^^^b.toNat)):=rfl;rw[nx]at p;refine aa 14 ?_;refine ai.v (V.Xt rfl rfl (aj7 q)) ?_;refine Tf (λM=>?_) λM=>?_;refine aa 2 ?_;refine ai.v (V.Xl rfl rfl (Hp _)) ?_;refine ai.v (V.Xt rfl rfl (ajt ac)) ?_;refine aa 8 ?_;rotate_left;refine aa 2 ?_;refine ai.v (V.Xl rfl rfl (Hp _)) ?_;refine aa 8 ?_;rotate_left
  .rw[aJ ac]at p;rw[<-p];exact Out.C' i (k+1) ac ac
  .rw[aG ac]at p;rw[<-p];exact Out.C' i (k+1) ac ac
 .obtain rfl:k=8:=by omega
  exact aQ 20
def jt(c:Nat)(s:ab aS):Nat:=s.foldl (λc b=>ny c b.toNat) c
def ry(p:ab (ab aS)):Nat:=p.foldl jt 4294967295
def u3{c:Nat}(h:c<4294967296)(s:ab aS):jt c s<4294967296:=by
 induction s generalizing c with
 |nil=>exact h
 |cons x s X=>exact X (M4 h x.toNat_lt)
def alV{c:Nat}(h:c<4294967296)(p:ab (ab aS)):p.foldl jt c<4294967296:=by
 induction p generalizing c with
 |nil=>exact h
 |cons x s X=>exact X (u3 h x)
def ahs{s:ab aS}{k:Nat}{x:aS}(c:Nat)(h:s[k]?=some x):jt c (s.take (k+1))=ny (jt c (s.take k)) x.toNat:=by rw[mm h,jt,wC];rfl
def yh(c:Nat)(s t:ab aS):jt c (s++t)=jt (jt c s) t:=wC ..
def alb(J:a<4294967296):l2 .xor .u32 (if IntKind.u32.signed then-1 else IntKind.u32.max) (a:Int)=some ((4294967295-a:Nat):Int):=by
 have h:=De (a:=4294967295) (b:=a) VI J;have e:4294967295^^^a=4294967295-a:=by
  have Y:=BitVec.toNat_not (x:=BitVec.ofNat 32 a);rw[sr,tG J]at Y;have Z:(~~~(BitVec.ofNat 32 a))=BitVec.allOnes 32^^^BitVec.ofNat 32 a:=by ext i am;simp[-BitVec.reduceAllOnes]
  rw[Z,BitVec.toNat_xor,BitVec.toNat_allOnes,sr,tG J]at Y;simpa using Y
 rw[e]at h;exact h
def agj(e:ay)(n:aT Go.Addr)(Q N off:Nat)(y:ab (ab aS))(f:Rd e n y.length N off 1 (y.map fy))(h:∀s,s∈y->s.length<=9223372036854775807):ar prog 177 [.slice n y.length Q] [e] (λr J=>r=.int .u32 ((4294967295-ry y:Nat):Int)/\J=[e]):=by
 have F:=f.len;refine aF func177 λW=>?_;refine aa 19 ?_;refine ah.cq [7,8] (λk:Nat=>k<=y.length) (λk=>[(9,I (k:Int)),(3,.int .u32 (ry (y.take k):Int))]) (λk=>[e]) (λk=>y.length-k) 0 (cG _) ?_;rintro k T K i;refine bh ?_;have q:ry (y.take k)<4294967296:=alV VI _;by_cases Z:k<y.length
 .have E:=getD_some (l:=y) Z;have M:=h (y.getD k default) (im E);have Y:ry (y.take (k+1))=jt (ry (y.take k)) (y.getD k default):=by rw[mm E,ry,wC];rfl
  refine aa 14 ?_;refine ai.v (V.Xk ad rfl VV (Gq ac)) ?_;refine aa 11 ?_;rotate_left;refine ah.cq [14,5,7,8,9] (λj:Nat=>j<=(y.getD k default).length) (λj=>[(15,I (j:Int)),(3,.int .u32 (jt (ry (y.take k)) ((y.getD k default).take j):Int))]) (λj=>[e]) (λj=>(y.getD k default).length-j) 0 (cG _) ?_;rintro j w L p;refine bh ?_;have c:jt (ry (y.take k)) ((y.getD k default).take j)<4294967296:=u3 q _;by_cases t:j<(y.getD k default).length
  .obtain⟨x,U⟩:=cl t;have a:=ahs (ry (y.take k)) U;refine aa 21 ?_;refine ai.v (V.ack ad rfl rfl VV) ?_;refine ai.o (aw.fn rfl (aki _ _ ?_) ?_);exact co;refine aa 8 ?_;rotate_left;rw[<-a];exact Out.C' p (j+1) ac ac
  .obtain rfl:j=(y.getD k default).length:=by omega
   rw[iI,<-Y];refine aa 17 ?_;exact Out.C' i (k+1) ac ac
 .obtain rfl:k=y.length:=by omega
  rw[iI]at*;refine aa 15 ?_;refine ai.v (V.acj rfl rfl (alb q)) ?_;exact aQ 5
def i4(c:Nat):ab aS:=[UInt8.ofNat c,UInt8.ofNat (c/256),UInt8.ofNat (c/65536),UInt8.ofNat (c/16777216)]
def Aj(m:Nat):IntKind.u8.wrap (m:Int)=((UInt8.ofNat m).toNat:Int):=by rw[Ac];simp
def Df(m e d:Nat)(P:2^e=d)(h:e<32):(m:Int).fdiv (2^(Min.min ((e:Int)).toNat IntKind.u32.bits))=((m/d:Nat):Int):=by
 have p:Min.min ((e:Int)).toNat IntKind.u32.bits=e:=by have:IntKind.u32.bits=32:=rfl;omega
 rw[p,C6 _ (by exact Int.le_of_lt (Int.pow_pos VI)),<-P];simp
def V.acQ{n:dF}{g:String}(ad:cj P){t u E e:Nat}{x:bj}{v:aj}{w G J h:aS}(U:aR M x=some v)(K:row v E 1 4 [.int .u8 (w.toNat:Int),.int .u8 (G.toNat:Int),.int .u8 (J.toNat:Int),.int .u8 (h.toNat:Int)]∈F)(f:bT ad.strs u=some a:=by exact rfl)(Y:bT ad.fw t=some e:=by exact rfl)(r:nk ad.ints e=some .u8:=by exact rfl):aN P n M F ⟨some C,.convert t u x,Q,g,d,D⟩ (S [w,G,J,h]):=
 V.aaH ad (l:=[w,G,J,h]) U K f Y r
def Dg(c:Nat):dH prog 176 [.int .u32 (c:Int)] (S (i4 c)):=by refine aF func176 λW=>?_;refine aa 8 ?_;refine ai.v (V.WI ad rfl rfl (Aj _)) ?_;refine au ?_;refine ai.v (V.Xl rfl rfl (Df _ 8 256 rfl VI)) ?_;refine ai.v (V.WI ad rfl rfl (Aj _)) ?_;refine au ?_;refine ai.v (V.Xl rfl rfl (Df _ 16 65536 rfl VI)) ?_;refine ai.v (V.WI ad rfl rfl (Aj _)) ?_;refine au ?_;refine ai.v (V.Xl rfl rfl (Df _ 24 16777216 rfl VI)) ?_;refine ai.v (V.WI ad rfl rfl (Aj _)) ?_;refine aq 0 λx=>?_;refine ai.v (V.acQ ad rfl VF) ?_;exact aQ 5
def i5(s:ab aS):Nat:=4294967295-jt 4294967295 s
def Hq(s:ab aS):i5 s<4294967296:=by unfold i5;omega
def he(s:ab aS):ab aS:=if 16384<s.length then[]else bL s.length++i4 (i5 (bL s.length++s))++s
def Hr(g:Nat)(a b:ab aS)(J:a.length<=9223372036854775807)(X:b.length<=9223372036854775807):ar prog 177 [.slice (some ⟨g,0,none⟩) 2 2] [row (.slice (some ⟨g,0,none⟩) 2 2) 9 1 2 [S a,S b]] (λr J=>r=.int .u32 (i5 (a++b):Int)/\J=[row (.slice (some ⟨g,0,none⟩) 2 2) 9 1 2 [S a,S b]]):=by have:=agj _ _ 2 g 0 [a,b] (Rd.lits (E:=9) (z:=2) fy [a,b] rfl rfl (λ_=>rfl) VK) VG;rw[show 4294967295-ry [a,b]=i5 (a++b) by rw[i5,yh];rfl]at this;exact this
def aeK(s:ab aS)(E:s.length<=9223372036854770000):dH prog 123 [S s] (S (he s)):=by
 have Y:(s.length:Int)<=9223372036854775807:=ac
 have G:=fG Y;have l:(i4 (i5 ([]++bL s.length++s))).length=4:=rfl;refine aF func123 λW=>?_;refine aa 13 ?_;refine R4 (λC=>?_) λC=>?_;rotate_left;refine aa 5 ?_;refine ai.o (O.Xo dL 5 1 rfl (λF=>?_));refine aq 8 λk=>?_;refine ai.x' rfl (rv _ _ _ _ _ ?_ ?_) ?_;iterate 2 exact co
 refine Me λY U=>?_;refine ai.x' rfl (Hr _ _ _ ?_ ?_) ?_;iterate 2 exact co
 refine au ?_;refine ai.o (aw.fn rfl (Dg _) ?_);refine Ui λJ=>?_;refine aa 7 ?_;refine Ui λZ=>?_;refine aa 6 ?_;refine ai.x' rfl (wE _ _ _) ?_;refine aa 6 ?_;rotate_left
 .rw[he,aJ ac]
 .rw[he,aG ac];simp
def Ht:∀(l:ab aS) (i acc v:Nat) (Y:ab aS),js l i acc=some (v,Y)->Y.length<l.length
 |[],_,_,_,_,h=>by simp[js]at h
 |x::N,i,acc,v,Y,h=>by
  simp only[js]at h;split at h
  .cases h
  .split at h
   .split at h
    .cases h
    .simp only[fj,nV]at h;rw[<-h.2];simp
   .have:=Ht N _ _ _ _ h;simp;omega
def yi(n:Nat):∀(i acc:Nat) (x:ab aS),n<128^(9-i)->(n≠0\/i=0)->js (fZ n++x) i acc=some (acc+n*128^i,x):=by
 induction n using Nat.strongRecOn with
 |_ n X=>
  intro i acc x y W;have am:i<=8:=by
   rcases o9 8 i with h|h
   .rw[show 9-i=0 by omega]at y;simp at y;omega
   .exact h
  by_cases u:n<128
  .rw[p7 u];have e:(UInt8.ofNat n).toNat=n:=by simp;omega
   simp only[mQ,g4,js,e];rw[aG ac,aJ u,aG ac,tG u]
  .rw[qH u];have e:(UInt8.ofNat (128+n%128)).toNat=128+n%128:=by simp;omega
   simp only[mQ,js,e];have K:i<=7:=by
    rcases o9 7 i with h|h
    .rw[show 9-i=1 by omega]at y;omega
    .exact h
   rw[aG ac,aG ac,X (n/128) ac (i+1) _ x (by
    have h:9-i=(9-(i+1))+1:=ac
    rw[h,wD]at y;exact Nat.div_lt_of_lt_mul ac) (.inl ac)]
   congr 2;rw[show(128+n%128)%128=n%128 by omega,wD,pd,yd (128^i) 128,<-Nat.mul_assoc,<-fK];congr 2;omega
def Dh{n:Int}(y:n<=9223372036854775807)(x:ab aS)(d:Int):p8 ⟨bL n++x,false⟩ d=if d<(n.toNat:Int)then(0,⟨[],true⟩)else((n.toNat:Int),⟨x,false⟩):=by unfold p8 qI bL;rw[yi n.toNat 0 0 x ac (.inr rfl)];simp
def n3:ab aS->Nat
 |[]=>0
 |x::N=>x.toNat%128+128*n3 N
def akO(p:ab aS)(x:aS)(P:∀y,y∈p->128<=y.toNat)(U:x.toNat<128)(W:x.toNat≠0\/p=[]):fZ (n3 (p++[x]))=p++[x]/\(x.toNat≠0->1<=n3 (p++[x])):=by
 induction p with
 |nil=>
  have e:n3 ([]++[x])=x.toNat:=by simp[n3];omega
  rw[e,p7 U];exact⟨VK,ac⟩
 |cons y p X=>
  have E:x.toNat≠0:=by
   rcases W with h|h
   .exact h
   .cases h
  obtain⟨Y,Z⟩:=X (λz v=>P z (by simp[v])) (.inl E);have C:=P y VK;have N:=y.toNat_lt;have D:=Z E;have e:n3 (y::p++[x])=y.toNat%128+128*n3 (p++[x]):=rfl;refine⟨?_,λ_=>by rw[e];omega⟩;rw[e,qH ac,show(y.toNat%128+128*n3 (p++[x]))/128=n3 (p++[x]) by omega,Y];rw[show 128+(y.toNat%128+128*n3 (p++[x]))%128=y.toNat by omega];simp
def ahn(n:Int):nw ⟨[],true⟩ n=([],⟨[],true⟩):=by simp[nw]
def V.abc{n:dF}{g:String}(ad:cj P){t u:Nat}{x c:bj}{p q:ab aS}{i:Int}(U:aR M x=some (S p))(E:aR M c=some (.int k i))(aV:p.drop i.toNat=q)(W:0<=i:=by omega)(Y:i<=p.length:=by omega)(f:bT ad.strs t=some u:=by exact rfl):aN P n M F ⟨some C,.slice t x (some c) none none,Q,g,d,D⟩ (S q):=aV▸V.aaA ad U E f W Y
def V.acR{n:dF}{g:String}(ad:cj P){t u:Nat}{x c:bj}{p q:ab aS}{i:Int}(U:aR M x=some (S p))(E:aR M c=some (.int k i))(aV:p.take i.toNat=q)(W:0<=i:=by omega)(Y:i<=p.length:=by omega)(f:bT ad.strs t=some u:=by exact rfl):aN P n M F ⟨some C,.slice t x none (some c) none,Q,g,d,D⟩ (S q):=aV▸V.X8 ad U E f W Y
def ajW(a:ab aS):az.pe .neq a a=some false:=by simp[az.pe]
def Nf{a b:ab aS}(h:a≠b):az.pe .neq a b=some true:=by simp[az.pe,h]
def Hu:∀(l:ab aS) (i acc v:Nat) (J:ab aS),js l i acc=some (v,J)->∃p x,l=p++x::J/\(∀y,y∈p->128<=y.toNat)/\x.toNat<128/\(x.toNat≠0\/(i=0/\p=[]))/\v=acc+n3 (p++[x])*128^i
 |[],_,_,_,_,h=>by simp[js]at h
 |x::N,i,acc,v,J,h=>by
  simp only[js]at h;split at h
  .cases h
  .split at h
   .split at h
    .cases h
    .rename_i U W;simp only[fj,nV]at h;obtain⟨rfl,rfl⟩:=h;refine⟨[],x,rfl,VK,U,?_,by simp[n3]⟩;by_cases e:x.toNat=0
     .right;exact⟨ac,rfl⟩
     .exact .inl e
   .rename_i U;obtain⟨p,y,Y,Z,D,m,t⟩:=Hu N (i+1) _ v J h;refine⟨x::p,y,by rw[Y];rfl,?_,D,?_,?_⟩
    .intro z w;rcases cQ.1 w with rfl|w
     .omega
     .exact Z z w
    .rcases m with m|⟨m,_⟩
     .exact .inl m
     .omega
    .rw[t,mQ,n3,wD,fK,pd,yd 128 (n3 _),Nat.mul_assoc,yd 128 (128^i)]
def Ng{s:ab aS}{v:Nat}{x:ab aS}(h:js s 0 0=some (v,x)):s=bL (v:Int)++x:=by
 obtain⟨p,x,Y,Z,D,m,t⟩:=Hu _ _ _ _ _ h;have:=(akO p x Z D (m.imp id And.right)).1;have e:v=n3 (p++[x]):=by rw[t];simp
 rw[bL,hY,e,this,Y];simp
def g6(s:ab aS):ab aS×Int:=
 match js s 0 0 with
 |none=>([],0)
 |some (v,x)=>
  if 16384<v then([],0)else if x.length<4+v then([],0)
  else if i4 (i5 (bL (v:Int)++(x.drop 4).take v))=x.take 4 then((x.drop 4).take v,((s.length-x.length+4+v:Nat):Int))else([],0)
def Hv{x:ab aS}(h:x.length<n):nw ⟨x,false⟩ (n:Int)=([],⟨[],true⟩):=by unfold nw;rw[aJ (by right;right;show((x.length:Nat):Int)<n;omega)]
def Di{x:ab aS}(h:¬x.length<n):nw ⟨x,false⟩ (n:Int)=(x.take n,⟨x.drop n,false⟩):=by
 unfold nw;have Z:¬(false=true\/(n:Int)<0\/((x.length:Nat):Int)<n):=by
  rintro(Y|Y|Y)
  .cases Y
  .omega
  .omega
 rw[aG Z];simp
def Hw(s:ab aS)(E:s.length<=140737488351232):dH prog 129 [S s] (.tuple #[S (g6 s).1,I (g6 s).2]):=by
 have X:=λb=>Ag b ⟨s,false⟩ 16384 (by show s.length<=_;omega);have f:=λb n=>u2 b ⟨[],true⟩ n VK;have C:=λb=>Ae b ⟨[],true⟩;simp only[ahn]at f;unfold p8 qI at X;rw[aG VK]at X;unfold g6;cases G:js s 0 0 with
 |none=>
  simp only[G]at X;exact OP
 |some q=>
  obtain⟨v,x⟩:=q;simp only[G]at X;dsimp only at X⊢;have q:=Ng G;by_cases t:16384<v
  .rw[aJ (show(16384:Int)<(v:Int) by omega)]at X;rw[aJ t];exact OP
  .rw[aG (show¬(16384:Int)<(v:Int) by omega)]at X;rw[aG t];have Y:s.length=(bL (v:Int)).length+x.length:=by rw[q,bQ]
   have z:=λb=>u2 b ⟨x,false⟩ ((4:Nat):Int) (by show x.length<=_;omega);by_cases m:x.length<4
   .rw[aJ ac];simp only[Hv m]at z;refine TZ λW j=>?_;refine ai.x' rfl (z _) ?_;exact Ry
   .simp only[Di m]at z;have E:=λb=>u2 b ⟨x.drop 4,false⟩ (v:Int) (by show(x.drop 4).length<=_;rw[jn];omega);by_cases g:x.length<4+v
    .rw[aJ g];simp only[Hv (x:=x.drop 4) (n:=v) (by rw[jn];omega)]at E;refine TZ λW j=>?_;refine ai.x' rfl (z _) ?_;refine aa 8 ?_;refine ai.x' rfl (E _) ?_;refine aa 8 ?_;refine ai.x' rfl (C _) ?_;exact aQ 13
    .rw[aG g];simp only[Di (x:=x.drop 4) (n:=v) (by rw[jn];omega)]at E;have N (b:Nat):=Ae b ⟨(x.drop 4).drop v,false⟩;have p (b:Nat):=ajg b ⟨(x.drop 4).drop v,false⟩;have Z (g:Nat):=Hr g (bL (v:Int)) ((x.drop 4).take v) ac Pq;have h:((x.drop 4).drop v).length=x.length-4-v:=by rw[jn,jn]
     by_cases aV:i4 (i5 (bL (v:Int)++(x.drop 4).take v))=x.take 4
     .rw[aJ aV];have t:=Dg (i5 (bL (v:Int)++(x.drop 4).take v));rw[aV]at t;refine TZ λW j=>?_;refine R5 λK Y=>?_;refine ai.x' rfl (rv _ _ _ _ _ ?_ ?_) ?_;iterate 2 exact co
      refine Me λM w=>?_;refine ai.x' rfl (Z _) ?_;refine aa 3 ?_;refine ai.v (V.pe rfl rfl (ajW _)) ?_;refine aa 11 ?_;refine ai.x' rfl (p _) ?_;refine aa 8 ?_;have b:((s.length:Int)-((((x.drop 4).drop v).length:Nat):Int))=((s.length-x.length+4+v:Nat):Int):=by rw[h];omega
      dsimp only;rw[b]
     .rw[aG aV];have t:=Dg (i5 (bL (v:Int)++(x.drop 4).take v));refine TZ λW j=>?_;refine R5 λK Y=>?_;refine ai.x' rfl (rv _ _ _ _ _ ?_ ?_) ?_;iterate 2 exact co
      refine Me λM w=>?_;refine ai.x' rfl (Z _) ?_;refine aa 3 ?_;refine ai.v (V.pe rfl rfl (Nf aV)) ?_;exact aQ 12
def aj4(s:ab aS):(g6 s).2=0\/∃k:Nat,(g6 s).2=(k:Int)/\5<=k/\k<=s.length:=by
 unfold g6;cases G:js s 0 0 with
 |none=>exact .inl rfl
 |some q=>
  obtain⟨v,x⟩:=q;have n:=Ht _ _ _ _ _ G;dsimp only;split
  .exact .inl rfl
  .split
   .exact .inl rfl
   .split
    .exact .inr ⟨_,rfl,ac,ac⟩
    .exact .inl rfl
def tN(s:ab aS):Nat->Nat->ab (Nat×ab aS)
 |0,_=>[]
 |f+1,i=>if(g6 (s.drop i)).2=0 then[]else(i+(g6 (s.drop i)).2.toNat,(g6 (s.drop i)).1)::tN s f (i+(g6 (s.drop i)).2.toNat)
def yj(s:ab aS):ab (Nat×ab aS):=tN s (s.length+1) 0
def encS(x:Nat×ab aS):ab aj:=[I (x.1:Int),S x.2]
def aj8(s:ab aS):ar prog 141 [S s] [] (λv J=>∃q,v=.func (.func 205) #[] #[av q 0]/\J=[cells q 9 [S s]]):=by refine aF func141 λW=>?_;exact Ve
def Nj(q:Nat)(s:ab aS)(E:s.length<=140737488351232):sg prog 205 [av q 0] [cells q 9 [S s]] encS (yj s) [cells q 9 [S s]]:=by
 intro l T G X F z u o;refine aF func205 λW=>?_;refine aa 6 ?_;refine ah.cq [0,1] (λy:Nat×ab (Nat×ab aS)×Nat×T=>y.1<=s.length/\s.length+1<=y.2.2.1+y.1/\yj s=y.2.1++tN s y.2.2.1 y.1/\G y.2.1 y.2.2.2) (λy=>[(3,I (y.1:Int))]) (λy=>[F y.2.2.2]) (λy=>s.length-y.1) (0,[],s.length+1,z) ⟨cG _,cx _,rfl,u⟩ ?_;rintro⟨i,pre,f,x⟩⟨am,k,Y,c⟩ K h;dsimp only at am k Y c;refine bh ?_;obtain⟨f,rfl⟩:∃v,f=v+1:=⟨f-1,ac⟩
 rw[tN]at Y;have J:s.drop ((i:Int)).toNat=s.drop i:=by rw[hY]
 have w:=Hw (s.drop i) (by rw[jn];omega);rcases aj4 (s.drop i)with W|⟨k,W,t,T⟩
 .rw[W]at w;rw[aJ W,db]at Y;refine aa 5 ?_;refine ai.v (V.abc ad rfl rfl J) ?_;refine aa 22 ?_
  .exact⟨_,_,⟨x,.inl (by rw[Y];exact c),rfl⟩,VH⟩
 .rw[W]at w;rw[aG (by rw[W];omega),W,hY]at Y;rw[jn]at T;have L:bb .eql (k:Int) 0=some false:=by simp[bb];omega
  have U:=o _ _ _ x Y c;unfold encS at U;dsimp only at U;rw[show((i+k:Nat):Int)=(i:Int)+(k:Int) by omega]at U;refine aa 5 ?_;refine ai.v (V.abc ad rfl rfl J) ?_;refine aa 12 ?_;refine ai.v (V.cmp rfl rfl L) ?_;refine aa 18 ?_;refine ai.o (aw.WX rfl rfl (U) VH ?_);rintro K C⟨j,F,rfl,E,g,rfl⟩;refine US (λm=>?_) λm=>?_;refine aa 5 ?_
  .exact⟨_,_,⟨_,.inr ⟨pre++[(i+k,(g6 (s.drop i)).1)],⟨tN s f (i+k),Hs⟩,g VV⟩,rfl⟩,VH⟩
  refine aa 2 ?_;refine Out.C' h (i+k,pre++[(i+k,(g6 (s.drop i)).1)],f,_) ⟨by show i+k<=_;omega,by show _<=f+(i+k);omega,Hs,E VV⟩ (by show s.length-(i+k)<s.length-i;omega) (j:=?_);exact dy.cons rfl rfl (dy.cons rfl rfl (dy.cons rfl rfl dy.nil))
def aer(b:Nat)(v:aj)(N:ab aS)(x:bp)(Y:x.Round<=9223372036854775807)(Z:x.a1<=9223372036854775807)(U:N.length<=900000):ar prog 172 [av b 0,A x.c] [cells b 231 (gB.c ⟨v⟩),rows dL v 5 1 N] (λr J=>∃L,r=.tuple #[]/\J=[cells b 231 (gB.c ⟨L⟩),rows dL L 5 1 (N++(bL x.Round++bL x.a1))]):=by
 refine aF func172 λW=>?_;refine aq 2 λx=>?_;refine aq 8 λa=>?_;refine ai.x' rfl (Hg _ _ _ _ _ _ ?_ ?_ ?_) ?_;iterate 3 exact co
 rintro _ _⟨C,rfl,rfl⟩;exact aQ 3
def dh(d:bF):Prop:=(0<=d.Version/\d.Version<=1099511627776/\0<=d.c3/\d.c3<=1099511627776/\0<=d.Number/\d.Number<=1099511627776/\(d.c3=0↔d.Number=0)/\d.Key.length<=16/\d.Value.length<=32)/\
 ((d.Kind=0/\d.Value=[]/\d.Version=0/\d.Key=[]/\d.c3=0)\/((d.Kind=1\/d.Kind=4)/\d.Value=[]/\d.Version=0/\d.Key≠[])\/(d.Kind=2/\d.Key≠[]/\d.Version=0)\/(d.Kind=3/\d.Key≠[])\/(d.Kind=5/\d.Value=[]/\d.Version=0))
instance(d:bF):Decidable (dh d):=by unfold dh;infer_instance
def oL(d:bF):Bool:=decide (dh d)
def ag6{d:bF}{t:Bool}(h:t=true↔dh d):B t=B (oL d):=by
 unfold oL;congr 1;by_cases a:dh d
 .rw[iq a];exact h.2 a
 .rw[l5 a];cases t with
  |false=>rfl
  |true=>exact absurd (h.1 rfl) a
def Ak(d:bF):dH prog 54 [A d.c] (B (oL d)):=by
 by_cases T:d.Key=[]
 .have U:d.Key.length=0:=by rw[T];rfl
  by_cases t:d.Value=[]
  .have k:d.Value.length=0:=by rw[t];rfl
   refine PU (λW y f=>?_) λW y f=>?_
   exact VD
   refine VE (λY=>?_) λY=>?_;refine aa 29 ?_
   exact VD
   refine VE (λZ=>?_) λZ=>?_;refine aa 24 ?_
   exact VD
   refine VE (λD=>?_) λD=>?_;refine aa 19 ?_
   exact VD
   refine RK ?_;refine R4 (λm=>?_) λm=>?_
   exact VD
   refine aa 23 ?_;refine ai.aX (λw=>?_) (λw=>?_);refine aa 15 ?_
   exact VD
   refine Vy (λa=>?_) λa=>?_;refine aa 8 ?_
   exact VD
   refine aa 30 ?_;refine ah.cs (λs=>?_) (λs=>?_);refine RJ (λF=>?_) λF=>?_;refine aa 17 ?_
   exact VD
   refine aa 16 ?_
   exact VD
   refine aa 7 ?_;refine ah.cs (λL=>?_) (λL=>?_);refine aa 7 ?_;refine M2 (λp=>?_) λp=>?_
   exact VD
   refine aa 11 ?_
   exact VD
   refine Si (λP=>?_) λP=>?_;refine RJ (λN=>?_) λN=>?_;refine aa 11 ?_
   exact VD
   refine aa 11 ?_
   exact VD
   refine Vy (λX=>?_) λX=>?_;refine aa 18 ?_
   exact VD
   refine Vy (λu=>?_) λu=>?_;refine aa 12 ?_
   exact VD
   refine Vy (λE=>?_) λE=>?_;refine aa 10 ?_
   exact VD
   refine aa 10 ?_
   exact VD
  .have k:0<d.Value.length:=qA.2 t;refine PU (λW y f=>?_) λW y f=>?_
   exact VD
   refine VE (λY=>?_) λY=>?_;refine aa 29 ?_
   exact VD
   refine VE (λZ=>?_) λZ=>?_;refine aa 24 ?_
   exact VD
   refine VE (λD=>?_) λD=>?_;refine aa 19 ?_
   exact VD
   refine RK ?_;refine R4 (λm=>?_) λm=>?_
   exact VD
   refine aa 17 ?_;refine ai.aX (λb=>?_) (λb=>?_);refine aa 20 ?_
   exact VD
   refine VE (λw=>?_) λw=>?_;refine aa 15 ?_
   exact VD
   refine Vy (λa=>?_) λa=>?_;refine aa 8 ?_
   exact VD
   refine aa 30 ?_;refine ah.cs (λs=>?_) (λs=>?_);refine aa 20 ?_
   exact VD
   refine aa 7 ?_;refine ah.cs (λF=>?_) (λF=>?_);refine aa 18 ?_
   exact VD
   refine Si (λL=>?_) λL=>?_;refine aa 15 ?_
   exact VD
   refine Vy (λo=>?_) λo=>?_;refine aa 18 ?_
   exact VD
   refine Vy (λP=>?_) λP=>?_;refine aa 12 ?_
   exact VD
   refine Vy (λN=>?_) λN=>?_;refine aa 10 ?_
   exact VD
   refine aa 10 ?_
   exact VD
 .have U:0<d.Key.length:=qA.2 T;by_cases t:d.Value=[]
  .have k:d.Value.length=0:=by rw[t];rfl
   refine PU (λW y f=>?_) λW y f=>?_
   exact VD
   refine VE (λY=>?_) λY=>?_;refine aa 29 ?_
   exact VD
   refine VE (λZ=>?_) λZ=>?_;refine aa 24 ?_
   exact VD
   refine VE (λD=>?_) λD=>?_;refine aa 19 ?_
   exact VD
   refine RK ?_;refine R4 (λm=>?_) λm=>?_
   exact VD
   refine OK (λz=>?_) λz=>?_;refine aa 26 ?_
   exact VD
   refine aa 12 ?_;refine ai.aX (λw=>?_) (λw=>?_);refine aa 15 ?_
   exact VD
   refine Vy (λa=>?_) λa=>?_;refine aa 8 ?_
   exact VD
   refine aa 30 ?_;refine ah.cs (λs=>?_) (λs=>?_);refine RJ (λF=>?_) λF=>?_;refine aa 17 ?_
   exact VD
   refine aa 16 ?_
   exact VD
   refine aa 7 ?_;refine ah.cs (λL=>?_) (λL=>?_);refine aa 7 ?_;refine M2 (λp=>?_) λp=>?_
   exact VD
   refine aa 11 ?_
   exact VD
   refine Si (λP=>?_) λP=>?_;refine RJ (λN=>?_) λN=>?_;refine aa 11 ?_
   exact VD
   refine aa 11 ?_
   exact VD
   refine Vy (λX=>?_) λX=>?_;refine aa 18 ?_
   exact VD
   refine Vy (λu=>?_) λu=>?_;refine aa 12 ?_
   exact VD
   refine Vy (λE=>?_) λE=>?_;refine aa 10 ?_
   exact VD
   refine aa 10 ?_
   exact VD
  .have k:0<d.Value.length:=qA.2 t;refine PU (λW y f=>?_) λW y f=>?_
   exact VD
   refine VE (λY=>?_) λY=>?_;refine aa 29 ?_
   exact VD
   refine VE (λZ=>?_) λZ=>?_;refine aa 24 ?_
   exact VD
   refine VE (λD=>?_) λD=>?_;refine aa 19 ?_
   exact VD
   refine RK ?_;refine R4 (λm=>?_) λm=>?_
   exact VD
   refine OK (λz=>?_) λz=>?_;refine aa 26 ?_
   exact VD
   refine Px (λb=>?_) λb=>?_;refine aa 20 ?_
   exact VD
   refine VE (λw=>?_) λw=>?_;refine aa 15 ?_
   exact VD
   refine Vy (λa=>?_) λa=>?_;refine aa 8 ?_
   exact VD
   refine aa 30 ?_;refine ah.cs (λs=>?_) (λs=>?_);refine aa 20 ?_
   exact VD
   refine aa 7 ?_;refine ah.cs (λF=>?_) (λF=>?_);refine aa 18 ?_
   exact VD
   refine Si (λL=>?_) λL=>?_;refine aa 15 ?_
   exact VD
   refine Vy (λo=>?_) λo=>?_;refine aa 18 ?_
   exact VD
   refine Vy (λP=>?_) λP=>?_;refine aa 12 ?_
   exact VD
   refine Vy (λN=>?_) λN=>?_;refine aa 10 ?_
   exact VD
   refine aa 10 ?_
   exact VD
end Go.Proofs.YteogojgnkjegmaaGreatDoor
