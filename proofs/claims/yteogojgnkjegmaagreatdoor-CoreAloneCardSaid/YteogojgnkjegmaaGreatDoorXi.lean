/-
 Part of the proof.
-/
import Derived.Test.YteogojgnkjegmaaGreatDoorXh
set_option linter.all false
set_option maxRecDepth 8000
set_option maxHeartbeats 8000000
namespace Go.Proofs.YteogojgnkjegmaaGreatDoor
open Go.ay Go.Proofs.Tryz
structure nb where
 hq:ab aj
 us:ab aj
 ej:hq.length=7
 hu:us.length=7
structure g3 where
 gP:Nat
 kr:Nat
 C:nb
 D:nb
def nb.new:nb:=⟨List.replicate 7 (.slice none 0 0),List.replicate 7 (.slice none 0 0),rfl,rfl⟩
abbrev xl(b:Nat)(L:nb)(p:aJ aV):ax:=dM aV.c 323 52 14 b L.hq L.us p
abbrev vs(b:Nat)(L:nb)(p:aJ Bool):ax:=dM eH 325 4 1 b L.hq L.us p
def aaw(j:Nat)(L:nb)(p:aJ aV)(x:ag)(t:aV)(m:p.wf):ar prog 149 [au j 0,A x.c,A t.c] [xl j L p] (λr F=>∃b:nb,r=B (bB x p.aS)/\F=[xl j b (p.set x t)]):=by refine ar.post (Ik j L.hq L.us p x t m L.ej L.hu) ?_;rintro v F⟨D,d,U,M,rfl,rfl⟩;exact⟨_,⟨⟨D,d,U,M⟩,rfl,rfl⟩,λ_ _ _ h=>h⟩
def Ju(j:Nat)(L:nb)(p:aJ Bool)(x:ag)(t:Bool)(m:p.wf):ar prog 257 [au j 0,A x.c,B t] [vs j L p] (λr F=>∃b:nb,r=B (bB x p.aS)/\F=[vs j b (p.set x t)]):=by refine ar.post (In j L.hq L.us p x t m L.ej L.hu) ?_;rintro v F⟨D,d,U,M,rfl,rfl⟩;exact⟨_,⟨⟨D,d,U,M⟩,rfl,rfl⟩,λ_ _ _ h=>h⟩
structure bj where
 calls:aJ aV
 done:aJ Bool
structure bj.ok(g:bj):Prop where
 c:g.calls.ok
 d:g.done.ok
def bj.new(n:Int):bj:=⟨aJ.new n,aJ.new n⟩
def bj.R8(n:Int):(bj.new n).ok:=⟨aJ.R8 n,aJ.R8 n⟩
def bj.is(g:bj)(x:ag):Bool:=(g.calls.at x).isSome
def bj.over(g:bj)(x:ag):Bool:=(g.done.at x).isSome
def bj.call(g:bj)(x:ag):aV:=(g.calls.at x).getD aV.z
def bj.Sm(g:bj)(x:ag)(c:aV):Bool:=e9 c.dX 7&&(!g.is x&&bB x g.calls.aS)
def bj.R2(g:bj)(x:ag)(c:aV):bj:=if g.Sm x c then{g with calls:=g.calls.set x c}else g
def bj.gD(g:bj)(Z:ab ag):bj:={g with done:=Z.foldl (λp x=>p.set x true) g.done}
def bj.T7{g:bj}(h:g.ok)(Z:ab ag):(g.gD Z).ok:=by
 refine⟨h.c,?_⟩;show(Z.foldl (λp x=>p.set x true) g.done).ok
 have:=h.d;generalize g.done=p at*;induction Z generalizing p with
 |nil=>exact this
 |cons x Z u=>exact u _ (aJ.SL this x true)
def bj.WU{g:bj}(h:g.ok)(x:ag)(c:aV):(g.R2 x c).ok:=by
 unfold bj.R2;split
 .exact⟨aJ.SL h.c x c,h.d⟩
 .exact h
def bj.TL(g:bj)(x y:ag):Int:=if x=y then 0 else if(g.call x).Seq<(g.call y).Seq\/((g.call x).Seq=(g.call y).Seq/\pd x y=true)then-1 else 1
def hH(w:Nat)(L:g3)(g:bj):ab ax:=[cells w 260 (ob.c ⟨au L.gP 0,au L.kr 0⟩),xl L.gP L.C g.calls,vs L.kr L.D g.done]
def g4(w:Nat)(L:g3)(g:bj):ax:=aI (hH w L g)
section
variable{P:bF}{f:eg}{args:ab aj}{Y:ab ax}
def ar.Vm{J:Type}{Q:aj->J->Prop}{T:J->ab ax}(h:ar P f args Y (λr F=>∃z,Q r z/\F=T z)):ar P f args [aI Y] (λr F=>∃z,Q r z/\F=[aI (T z)]):=
 ar.eqv aL.aI h Kr
def ar.TM{Q:aj->Prop}{T:ab ax}(h:ar P f args Y (λr F=>Q r/\F=T)):ar P f args [aI Y] (λr F=>Q r/\F=[aI T]):=
 ar.eqv aL.aI h (by rintro r F⟨U,rfl⟩;exact⟨_,⟨U,rfl⟩,aL.aI.symm⟩)
end
def aci(n:Int):ar prog 104 [I n] [] (λr F=>∃w L,r=au w 0/\F=[g4 w L (bj.new n)]):=by
 have h:ar prog 104 [I n] [] (λr F=>∃w:Nat×g3,r=au w.1 0/\F=hH w.1 w.2 (bj.new n)):=by
  unfold hH;refine aB func104 λW=>?_;refine aa 8 ?_;refine ai.o' rfl (abq _) ?_;rintro _ _⟨j,rfl,rfl⟩;refine aa 2 ?_;refine ai.o' rfl (ad3 _) ?_;rintro _ _⟨q,rfl,rfl⟩;refine aq 2 λd=>?_;refine aa 5 ?_
  .exact⟨_,_,⟨(_,⟨_,_,nb.new,nb.new⟩),rfl,rfl⟩,XC⟩
 refine ar.post h ?_;rintro r F⟨⟨w,L⟩,rfl,rfl⟩;exact⟨_,⟨w,L,rfl,rfl⟩,λ_ _ _ h=>h.toBag⟩
def Jw(w:Nat)(L:g3)(g:bj)(h:g.ok)(x:ag):ar prog 221 [au w 0,A x.c] (hH w L g) (λr F=>r=B (g.is x)/\F=hH w L g):=by
 have d:=vf L.gP L.C.hq L.C.us g.calls x h.c.towf L.C.ej L.C.hu;unfold bj.is hH;cases Q:g.calls.at x<;>rw[Q]at d
 exact H0
 exact H0
def DG(w:Nat)(L:g3)(g:bj)(h:g.ok)(x:ag):ar prog 222 [au w 0,A x.c] (hH w L g) (λr F=>r=B (g.over x)/\F=hH w L g):=by
 have z:=Im L.kr L.D.hq L.D.us g.done x h.d.towf L.D.ej L.D.hu;unfold bj.over hH;cases Q:g.done.at x<;>rw[Q]at z
 exact N3
 exact N3
def adi(w:Nat)(L:g3)(g:bj)(h:g.ok)(x:ag):ar prog 161 [au w 0,A x.c] (hH w L g) (λr F=>r=.tuple #[A (g.call x).c,B (g.is x)]/\F=hH w L g):=by
 have d:=vf L.gP L.C.hq L.C.us g.calls x h.c.towf L.C.ej L.C.hu;unfold bj.is bj.call hH;cases Q:g.calls.at x<;>rw[Q]at d
 exact HN
 exact HN
def afq(w:Nat)(L:g3)(g:bj)(h:g.ok)(x:ag)(c:aV):ar prog 106 [au w 0,A x.c,A c.c] (hH w L g) (λr F=>∃n,r=B (g.Sm x c)/\F=hH w n (g.R2 x c)):=by
 obtain⟨a,z,C,D⟩:=L;have J:=DC c.dX 7;have d:=vf a C.hq C.us g.calls x h.c.towf C.ej C.hu;have v:=aaw a C g.calls x c h.c.towf;have j:g.is x=(g.calls.at x).isSome:=rfl;unfold bj.R2;generalize u:g.Sm x c=b;unfold bj.Sm at u;rw[j]at u;cases q:e9 c.dX 7<;>rw[q]at J u
 .rw[sb]at u;subst u;simp only[hr,ii];unfold hH;dsimp only;refine aB func106 λW=>?_;refine aq 2 λU=>?_;refine aq 0 λK=>?_;refine aa 25 ?_
  exact KR
 .rw[pa]at u;cases Q:g.calls.at x<;>rw[Q]at d u
  .simp only[Option.isSome_none,Bool.not_false,pa]at u;rw[u]at v;have T:(if b=true then({g with calls:=g.calls.set x c}:bj)else g)={g with calls:=g.calls.set x c}:=by
    cases b
    .rw[aN XG,aJ.set,u];rfl
    .rfl
   rw[T];unfold hH;dsimp only;refine aB func106 λW=>?_;refine QC λU K=>?_;refine ah.n' ?_ aA.d'.d'.d'.d'.j;refine HC ?_ ?_;refine NQ λZ=>?_;refine Np λm=>?_;rotate_left;refine xH λZ=>?_;refine OZ ?_;refine Np λE=>?_;rotate_left;all_goals exact⟨_,_,⟨⟨a,z,_,D⟩,rfl,rfl⟩,XC⟩
  .simp only[Option.isSome_some,yy,sb]at u;subst u;simp only[hr,ii];unfold hH;dsimp only;refine aB func106 λW=>?_;refine QC λU K=>?_;refine ah.n' ?_ aA.d'.d'.d'.d'.j;refine HC ?_ ?_;refine NQ λZ=>?_;refine aa 16 ?_
   exact KR
   refine xH λZ=>?_;refine OZ ?_;refine aa 16 ?_
   exact KR
def Jz(w:Nat)(L:g3)(g:bj)(h:g.ok)(x y:ag):ar prog 273 [au w 0,A x.c,A y.c] (hH w L g) (λr F=>r=I (g.TL x y)/\F=hH w L g):=by
 have z (x:ag):=vf L.gP L.C.hq L.C.us g.calls x h.c.towf L.C.ej L.C.hu;have o:=zd x y;have Q (x:ag):∃i:Bool,ve (g.calls.at x)=.tuple #[A (g.call x).c,B i]:=by
  unfold bj.call;cases g.calls.at x
  .exact⟨false,rfl⟩
  .exact⟨true,rfl⟩
 obtain⟨j,b⟩:=Q x;obtain⟨X,J⟩:=Q y;have G:=z x;have R:=z y;rw[b]at G;rw[J]at R;clear z Q;unfold bj.TL;generalize g.call x=ac5 at*;generalize g.call y=acr at*;unfold hH;have n (k:Nat):=ag.P' x y k;by_cases d:x=y
 .rw[aT d];rw[iE d]at n;refine I5 (λW U K Z=>?_) λW U K=>?_;refine OJ (λN=>?_) ?_;exact aM 13;refine Iu λN=>?_;exact aM 13;refine Qb λZ=>?_;refine OJ (λN=>?_) ?_;exact aM 13;refine Iu λN=>?_;exact aM 13
 .rw[aN d];rw[kc d]at n;cases E:pd x y<;>rw[E]at o
  .refine I5 (λW U K Z=>?_) λW U K=>?_;refine OJ (λN=>?_) ?_;refine RB (λp=>?_) λp=>?_
   exact X0
   refine RG (λm=>?_) λm=>?_;refine aa 19 ?_
   exact X0
   refine aa 19 ?_
   exact X0
   refine Iu λN=>?_;refine RB (λa=>?_) λa=>?_
   exact X0
   refine RG (λYc=>?_) λYc=>?_;refine aa 19 ?_
   exact X0
   refine aa 19 ?_
   exact X0
   refine Qb λZ=>?_;refine OJ (λN=>?_) ?_;refine RB (λl=>?_) λl=>?_
   exact X0
   refine RG (λs=>?_) λs=>?_;refine aa 19 ?_
   exact X0
   refine aa 19 ?_
   exact X0
   refine Iu λN=>?_;refine RB (λM=>?_) λM=>?_
   exact X0
   refine RG (λu=>?_) λu=>?_;refine aa 19 ?_
   exact X0
   refine aa 19 ?_
   exact X0
  .refine I5 (λW U K Z=>?_) λW U K=>?_;refine OJ (λN=>?_) ?_;refine RB (λYe=>?_) λYe=>?_
   exact X1
   refine RG (λYf=>?_) λYf=>?_;refine aa 18 ?_
   exact X1
   refine aa 19 ?_
   exact X1
   refine Iu λN=>?_;refine RB (λYg=>?_) λYg=>?_
   exact X1
   refine RG (λYh=>?_) λYh=>?_;refine aa 18 ?_
   exact X1
   refine aa 19 ?_
   exact X1
   refine Qb λZ=>?_;refine OJ (λN=>?_) ?_;refine RB (λT=>?_) λT=>?_
   exact X1
   refine RG (λq=>?_) λq=>?_;refine aa 18 ?_
   exact X1
   refine aa 19 ?_
   exact X1
   refine Iu λN=>?_;refine RB (λD=>?_) λD=>?_
   exact X1
   refine RG (λt=>?_) λt=>?_;refine aa 18 ?_
   exact X1
   refine aa 19 ?_
   exact X1
end Go.Proofs.YteogojgnkjegmaaGreatDoor
namespace Go.Proofs.YteogojgnkjegmaaGreatDoor
open Go.ay Go.Proofs.Tryz
def DH(e:ax)(m:aQ Go.Addr)(C F off:Nat)(l:ab ag)(T:Rd e m l.length F off 2 (l.map ag.c))(E:l.length<=1000000):ar prog 158 [.slice m l.length C] [e] (λr Y=>∃v,r=v/\Y=[rows ag.c v 46 2 l,e]):=by
 cases m with
 |none=>
  have K:l=[]:=by
   cases l with
   |nil=>rfl
   |cons a l=>have:=T.addr XE;simp at this
  subst K;refine aB func158 λW=>?_;refine ah.RK ag.c 46 2 ?_;refine aa 9 ?_;refine ai.v (V.T1 ad) ?_;exact aM 11
 |some a=>
  by_cases f:l=[]
  .subst f;refine aB func158 λW=>?_;refine ID ?_;refine ai.o (O.N' ad ag.c [] rfl bx.nil rfl rfl (λC=>?_));refine av ?_;refine ai.v (V.U0 ad rfl rfl (ce.UN ad T XB ag.B' ag.len) ac) ?_;exact aM 5
  .have w:0<l.length:=od.2 f;refine aB func158 λW=>?_;refine ID ?_;refine ai.o (O.N' ad ag.c [] rfl bx.nil rfl rfl (λC=>?_));refine av ?_;refine ai.o (O.UZ ad rfl rfl (ce.rd ad T XB ag.B' ag.len w) f ag.len (λK m=>?_));exact aM 5
def pi(x:ag)(l:ab ag):Int:=match l.findIdx? (λy=>decide (y=x))with|some i=>(i:Int)|none=>-1
def JA{x:ag}{l:ab ag}{i:Nat}(U:l[i]?=some x)(h:∀(j:Nat) (y:ag),j<i->l[j]?=some y->y≠x):pi x l=i:=by obtain⟨F,rfl⟩:=cI.1 U;unfold pi;rw[tD.2 ⟨F,XE,λj p=>by simpa using h j _ p (gM ac)⟩]
def JB{x:ag}{l:ab ag}(h:∀(j:Nat) (y:ag),l[j]?=some y->y≠x):pi x l=-1:=by unfold pi;rw[vt.2];intro y G;obtain⟨j,p⟩:=qZ G;simpa using h j y p
def DI(e:ax)(m:aQ Go.Addr)(C F off:Nat)(l:ab ag)(x:ag)(q:Rd e m l.length F off 2 (l.map ag.c))(E:l.length<=1000000):ar prog 229 [.slice m l.length C,A x.c] [e] (λr Y=>r=I (pi x l)/\Y=[e]):=by
 refine aB func229 λW=>?_;refine aq 2 λb=>?_;refine aa 12 ?_;refine ah.cb [7,3,0] (λi:Nat=>i<=l.length/\∀(j:Nat) (y:ag),j<i->l[j]?=some y->y≠x) (λi=>[(8,I (i:Int))]) (λ_=>[]) (λi=>l.length-i) 0 ⟨cw _,λj y h=>absurd h (vr _)⟩ ?_;rintro i⟨ao,M⟩ K a;refine bh ?_;by_cases n:i<l.length
 .obtain⟨y,G⟩:=b8 n;have s (k:Nat):=ag.P' x y k;by_cases T:x=y
  .subst T;rw[JA G M];rw[iE rfl]at s;refine Qn ?_;exact aM 16
  .rw[kc T]at s;refine Qn ?_;refine aa 10 ?_;rotate_left;refine Out.t' a (i+1) ?_ OB;exact ⟨ac,λj z p w=>by
    by_cases t:j=i
    .subst t;rw[G]at w;rw[<-gW w];exactλh=>T h.symm
    .exact M j z ac w⟩
 .rw[JB λj y G=>M j y Z3 G];clear a;exact aM 19
def JC(x:ag)(l:ab ag):decide (0<=pi x l)=decide (x∈l):=by
 unfold pi;cases h:l.findIdx? (λy=>decide (y=x))with
 |none=>
  rw[vt]at h;refine df.2 ⟨λF=>absurd F XG,λF=>?_⟩;have:=h x F;simp at this
 |some i=>
  obtain⟨F,M,_⟩:=tD.1 h;refine df.2 ⟨λ_=>?_,λ_=>sd i⟩;have:l[i]=x:=Io
  rw[<-this];exact List.getElem_mem F
def DJ(e:ax)(m:aQ Go.Addr)(C F off:Nat)(l:ab ag)(x:ag)(T:Rd e m l.length F off 2 (l.map ag.c))(E:l.length<=1000000):ar prog 164 [.slice m l.length C,A x.c] [e] (λr Y=>r=B (decide (x∈l))/\Y=[e]):=by have j:=DI e m C F off l x T E;rw[<-JC];generalize pi x l=k at*;refine aB func164 λW=>?_;refine aq 2 λa=>?_;exact aM 15
def il(h:Nat)(k:Nat):ab ag:=(List.range k).map λi:Nat=>⟨(h:Int),(i:Int)+1⟩
def kQ(d:bI)(k:Nat):ab ag:=(List.range k).flatMap λr=>il r (d.l.getD r 0).toNat
def pj(d:bI):ab ag:=kQ d 7
def DK(h k:Nat):il h (k+1)=il h k++[⟨(h:Int),(k:Int)+1⟩]:=by simp[il,se]
def vu(d:bI)(k:Nat):kQ d (k+1)=kQ d k++il k (d.l.getD k 0).toNat:=by simp[kQ,se]
def JD{x k m:Nat}(h:k<m):∃d,il x m=il x k++⟨(x:Int),(k:Int)+1⟩::d:=by
 obtain⟨j,rfl⟩:∃j,m=k+1+j:=⟨m-(k+1),ac⟩
 refine⟨(il x (k+1+j)).drop (k+1),?_⟩;have e:il x (k+1+j)=il x (k+1)++(il x (k+1+j)).drop (k+1):=by
  have F:(il x (k+1+j)).take (k+1)=il x (k+1):=by unfold il;rw[<-List.map_take,List.take_range];congr 2;omega
  conv=>lhs;rw[<-mU (k+1) (il x (k+1+j)),F]
 conv=>lhs;rw[e,DK]
 simp
def DL(d:bI)(k:Nat):∀j:Nat,∃t,kQ d (k+j)=kQ d k++t
 |0=>⟨[],XE⟩
 |j+1=>by obtain⟨t,h⟩:=DL d k j;exact⟨t++il (k+j) (d.l.getD (k+j) 0).toNat,by rw[<-oX,vu,h,cd]⟩
def acz{d:bI}{k m:Nat}(T:k<7)(K:m<(d.l.getD k 0).toNat):∃g,pj d=(kQ d k++il k m)++⟨(k:Int),(m:Int)+1⟩::g:=by obtain⟨t,h⟩:=DL d (k+1) (7-(k+1));obtain⟨g,M⟩:=JD (x:=k) K;refine⟨g++t,?_⟩;unfold pj;rw[show 7=k+1+(7-(k+1)) by omega,h,vu,M];simp
def afH(d:bI):ar prog 272 [A d.c] [] (λv Y=>∃q,v=.func (.func 284) #[] #[au q 0]/\Y=[cells q 50 d.c]):=by refine aB func272 λW=>?_;refine aq 2 λt=>?_;exact aM 11
def afg(x:ag):ab aj:=[A x.c]
def JH(q:Nat)(d:bI)(b:e9 d 7=true):pW prog 284 [au q 0] [cells q 50 d.c] afg (pj d) [cells q 50 d.c]:=by
 intro l t G X S R L Z;refine aB func284 λW=>?_;refine aa 7 ?_;refine ah.cb [6,0,1] (λy:Nat×t=>y.1<=7/\G (kQ d y.1) y.2) (λy=>[(7,I (y.1:Int))]) (λy=>[S y.2]) (λy=>7-y.1) (0,R) ⟨ac,L⟩ ?_;rintro⟨k,f⟩⟨T,M⟩ K p;dsimp only at T M;refine bh ?_;by_cases F:k<7
 .obtain⟨num,a⟩:∃m,d.l[k]?=some m:=⟨_,gM (by rw[bI.RX];exact F)⟩
  have U:=bI.Vl a;have D:=p8.1 b k num a;simp only[iW,cZ,ib,da]at D;obtain⟨m,rfl⟩:=q7 D.1.1;have N:(d.l.getD k 0).toNat=m:=by rw[List.getD,a];rfl
  refine aa 14 ?_;refine ai.v (V.TG ad rfl rfl U F) ?_;refine aa 10 ?_;rotate_left;refine ah.cb [4,3,7,6,0,1] (λy:Nat×t=>y.1<=m/\G (kQ d k++il k y.1) y.2) (λy=>[(5,I ((y.1:Int)+1))]) (λy=>[S y.2]) (λy=>m-y.1) (0,f) ⟨ac,by simpa[il]using M⟩ ?_;rintro⟨j,h⟩⟨w,J⟩ r P;dsimp only at w J;refine bh ?_;by_cases n:j<m
  .obtain⟨g,s⟩:=acz (d:=d) F (show j<(d.l.getD k 0).toNat by omega);have Q:=Z _ _ g h s J;refine aa 19 ?_;refine ai.o (aw.Sx rfl rfl (Q) XC ?_);rintro Y nc⟨z,u,rfl,i,x,rfl⟩;refine Rl (λC=>?_) λC=>?_;refine aa 10 ?_
   .exact⟨_,_,⟨_,.inr ⟨(kQ d k++il k j)++[⟨(k:Int),(j:Int)+1⟩],⟨g,by rw[s];simp⟩,Ya⟩,rfl⟩,XC⟩
   refine aa 8 ?_;rotate_left;refine Out.t' P (j+1,_) ?_ (by show m-(j+1)<m-j;omega);exact ⟨Zw,by show G (kQ d k++il k (j+1)) _;rw[DK,<-cd];apply_assumption;assumption⟩
  .obtain rfl:j=m:=by omega
   clear P;refine aa 19 ?_;refine Out.t' p (k+1,h) ?_ ZB;exact ⟨ZM,by show G (kQ d (k+1)) h;rw[vu,N];exact J⟩
 .obtain rfl:k=7:=by omega
  clear p;refine aa 12 ?_
  exact NF
def DM(w:Nat)(L:g3)(g:bj)(h:g.ok)(x:ag):ar prog 221 [au w 0,A x.c] [g4 w L g] (λr Y=>r=B (g.is x)/\Y=[g4 w L g]):=ar.TM (Jw w L g h x)
def DN(w:Nat)(L:g3)(g:bj)(h:g.ok)(x:ag):ar prog 222 [au w 0,A x.c] [g4 w L g] (λr Y=>r=B (g.over x)/\Y=[g4 w L g]):=ar.TM (DG w L g h x)
def aga(w:Nat)(L:g3)(g:bj)(h:g.ok)(x:ag):ar prog 161 [au w 0,A x.c] [g4 w L g] (λr Y=>r=.tuple #[A (g.call x).c,B (g.is x)]/\Y=[g4 w L g]):=ar.TM (adi w L g h x)
def JJ(w:Nat)(L:g3)(g:bj)(h:g.ok)(x:ag)(c:aV):ar prog 106 [au w 0,A x.c,A c.c] [g4 w L g] (λr Y=>∃b,r=B (g.Sm x c)/\Y=[g4 w b (g.R2 x c)]):=ar.Vm (afq w L g h x c)
def JK(w:Nat)(L:g3)(g:bj)(h:g.ok)(x y:ag):ar prog 273 [au w 0,A x.c,A y.c] [g4 w L g] (λr Y=>r=I (g.TL x y)/\Y=[g4 w L g]):=ar.TM (Jz w L g h x y)
def bj.waits(g:bj)(x:ag):ab ag:=(pj (g.call x).dX).filter λy=>decide (y≠x)&&!g.over y
def bj.gE(g:bj):Prop:=∀x,e9 (g.call x).dX 7=true
def bj.WV(n:Int):(bj.new n).gE:=λx=>by
 unfold bj.call bj.new;dsimp only;rw[aJ.SM];show e9 bI.z 7=true
 decide
def bj.vv{g:bj}(h:g.ok)(q:g.gE)(x:ag)(c:aV):(g.R2 x c).gE:=by
 unfold bj.R2;split
 .rename_i u;intro y;unfold bj.call;dsimp only;rw[aJ.Sn h.c];simp only[bj.Sm,cZ]at u;split
  .exact u.1
  .exact q y
 .exact q
def bj.WW{g:bj}(q:g.gE)(Z:ab ag):(g.gD Z).gE:=q
def DO{d:bI}(b:e9 d 7=true):∀k,k<=7->(kQ d k).length<=64*k
 |0,_=>by simp[kQ]
 |k+1,h=>by
  have u:=DO b k ac;rw[vu,bM];have:(il k (d.l.getD k 0).toNat).length=(d.l.getD k 0).toNat:=by simp[il]
  obtain⟨num,v⟩:∃m,d.l[k]?=some m:=⟨_,gM P4⟩
  have q:=p8.1 b k num v;simp only[iW,cZ,ib,da]at q;have e:d.l.getD k 0=num:=by rw[List.getD,v];rfl
  rw[e]at this;rw[e];omega
def DP{d:bI}(b:e9 d 7=true):(pj d).length<=448:=DO b 7 ac
theorem bj.T8{g:bj}(q:g.gE)(x:ag):(g.waits x).length<=448:=jk (ri _ _) (DP (q x))
def aam(X w:Nat)(L:g3)(g:bj)(h:g.ok)(q:g.gE)(x:ag)(W:iy)(n:W.graph=au w 0):ar prog 255 [au X 0,A x.c] (cells X 343 W.c::hH w L g) (λr F=>∃v,r=v/\F=rows ag.c v 46 2 (g.waits x)::cells X 343 W.c::hH w L g):=by
 obtain⟨aaq,E,rT,pV,DQ,adB,JO,afo⟩:=W;dsimp only at n;subst n;have z:=vf L.gP L.C.hq L.C.us g.calls x h.c.towf L.C.ej L.C.hu;have u (y:ag):=DG w L g h y;have Q:∃i:Bool,ve (g.calls.at x)=.tuple #[A (g.call x).c,B i]:=by
  unfold bj.call;cases g.calls.at x
  .exact⟨false,rfl⟩
  .exact⟨true,rfl⟩
 obtain⟨i,afY⟩:=Q;rw[afY]at z;have P:=q x;unfold bj.waits;generalize g.call x=c at*;have nR:=afH c.dX;unfold hH at*;refine aB func255 λW=>?_;refine aa 2 ?_;refine ai.o (O.R9 (λs=>?_));refine aq 0 λl=>?_;refine aa 3 ?_;refine ah.mt [4,3,2] (λ_:Nat=>True) (λp=>[(5,au p 0)]) (λp=>[cells p 52 c.c]) ?_ ?_
 .intro fa j;refine ah.n' ?_ aA.j.j.j.j.d'.d';refine ae 3 0 ?_;refine ae 1 7 ?_;refine af.bu 3 12 rfl rfl ?_ ?_;refine aw.q' (V.y' ad) ?_;refine av ?_;refine ae 2 4 ?_;refine af.bu 6 12 rfl rfl ?_ ?_;refine aw.q' (V.y' ad) ?_;refine av ?_;refine af.bu 8 12 rfl rfl ?_ ?_;refine aw.R' rfl (z) XC ?_;refine K1 λK=>?_;refine av ?_;rotate_left;refine O.K' ad (λK=>?_);refine av ?_;refine af.o' 8 rfl rfl (z) ?_;refine Rs ?_;rotate_left;refine O.K' ad (λK=>?_);refine av ?_;refine ae 1 6 ?_;refine af.o' 8 rfl rfl (z) ?_;refine Rs ?_;rotate_left;refine O.K' ad (λK=>?_);refine av ?_;refine ae 4 3 ?_;refine af.o' 8 rfl rfl (z) ?_;refine Rs ?_;rotate_left;all_goals exact Out.t' j _ trivial trivial
 rintro K-;refine bh ?_;refine aq 2 λG=>?_;refine aa 8 ?_;rintro _ _⟨Yg,rfl,rfl⟩;refine aa 4 ?_;refine ah.RK ag.c 46 2 ?_;refine ah.rg (JH _ c.dX P) (λy:aj×ab ag=>[cells G 98 [y.1],rows ag.c y.1 46 2 y.2,cells s 340 [au X 0],cells l 46 x.c,cells X 343 (iy.c ⟨au w 0,E,rT,pV,DQ,adB,JO,afo⟩),cells w 260 (ob.c ⟨au L.gP 0,au L.kr 0⟩),xl L.gP L.C g.calls,vs L.kr L.D g.done])
  (λpre y=>y.2=(pre.filter λy=>decide (y≠x)&&!g.over y)/\y.1.oneCell'=true) (λ_ _ _=>False) (.slice none 0 0,[]) ⟨rfl,rfl⟩ ?_ ?_ ?_
 .rintro pre y f⟨R,Y⟩ cb rec N⟨m,T⟩ e6 eh iP zC d;dsimp only at m T;have Yc:Y.length<=448:=by have M:=DP P;rw[N,bM]at M;have cp:=ri (λy=>decide (y≠x)&&!g.over y) pre;rw[m];omega
  have t:=u y;have b (k:Nat):=ag.P' y x k;refine bh ?_;by_cases J:y=x
  .rw[iE J]at b;refine aq 1 λa=>?_;refine aa 5 ?_;refine ah.n' ?_ aA.d'.d'.j.j.d'.d'.d'.j.d'.d';refine ae 4 0 ?_;refine bs 28 ?_;refine ae 8 4 ?_;refine aa 5 ?_;exact Out.rd d (_,Y) ⟨by rw[m,mq];simp[J],T⟩
  .rw[kc J]at b;cases Z:g.over y<;>rw[Z]at t
   .refine Ih λa=>?_;refine aq 6 λYf=>?_;refine ai.o (O.O' ad rfl rfl XJ (ce.one ad XB ag.B') (λYe U=>?_));refine aa 3 ?_;rotate_left;refine Out.rd d (_,Y++[y]) ⟨by rw[m,mq];simp[J,Z],?_⟩;rfl
   .refine Ih λa=>?_;refine aa 5 ?_;rotate_left;exact Out.rd d (_,Y) ⟨by rw[m,mq];simp[J,Z],T⟩
 .rintro⟨R,Y⟩ ie⟨m,T⟩;dsimp only at m T;subst m;refine bh ?_;exact aM 10
 exact X6
end Go.Proofs.YteogojgnkjegmaaGreatDoor
section
class Go.ay.bR where
 o:Option Go.Obj
end
namespace Go.Proofs.YteogojgnkjegmaaGreatDoor
open Go.ay Go.Proofs.Tryz
variable[Go.ay.bR]
variable{n:Int}{m:aD}{k:Nat}
def iX(k:Nat):Bool:=k==1||k==2||k==3||k==5||k==7
def h0(k:Nat):Bool:=k==7
def vw:ab (ab aj):=(List.range 9).map λk=>[B (iX k),B (h0 k)]
def vx(h:k<9):vw[k]?=some [B (iX k),B (h0 k)]:=by unfold vw;rw[ho,List.getElem?_range h];rfl
def cv:ax where
 fB:=[0]
 holds w:=w.heap[0]?=bR.o/\qG w 0 0 2 vw
 loc w h9 h cB:=by refine⟨by rw[h 0 XE];exact cB.1,?_⟩;intro i x cr;obtain⟨cm,dd⟩:=cB.2 i x cr;refine⟨cm,λj u hu=>?_⟩;have:=dd j u hu;unfold Go.World.cell? at this⊢;rw[h 0 XE];exact this
 lt w h x cr:=by
  obtain rfl:x=0:=X8
  have:=(h.2 0 _ (vx ac)).2 0 (B (iX 0)) rfl;unfold Go.World.cell? at this;cases lr:w.heap[0]? with
  |none=>rw[lr]at this;cases this
  |some o=>exact(ny.1 lr).1
def qa:Rd cv (some ⟨0,0,none⟩) 9 0 0 2 vw:=⟨rfl,XG,λ_=>rfl,λ_ h=>h.2⟩
structure gQ(m:aD)(n:Int):Prop where
 jb:1<=m.Kind
 kd:m.Kind<=8
 f1:0<=m.bm
 f2:m.bm<n
 t1:0<=m.b3
 t2:m.b3<n
 item:bB m.Item n=true
 b2:eD m.ch n=true
 call:if iX m.Kind.toNat then eQ m.Call n=true else m.Call=aV.z
 bare:h0 m.Kind.toNat=false->m.cY=bk.z/\m.Status=0
 same:m.dB=true->m.Kind=2\/h0 m.Kind.toNat=true
 known:h0 m.Kind.toNat=true->eD m.cY n=true/\0<=m.Status/\m.Status<=3/\(m.Status=0->m.cY=bk.z/\m.Call=aV.z/\m.dB=false)
open Classical in
noncomputable def eo(m:aD)(n:Int):Bool:=decide (gQ m n)
def cj{t:Bool}(h:t=true↔gQ m n):B t=B (eo m n):=by
 unfold eo;congr 1;by_cases Z:gQ m n
 .simp[Z,h.2 Z]
 .cases t with
  |false=>simp[Z]
  |true=>exact absurd (h.1 rfl) Z
def DR(h:¬gQ m n):B false=B (eo m n):=cj (by simp[h])
def aeO:gQ m n↔(1<=m.Kind/\m.Kind<=8)/\(0<=m.bm/\m.bm<n)/\(0<=m.b3/\m.b3<n)/\bB m.Item n=true/\eD m.ch n=true/\(if iX m.Kind.toNat then eQ m.Call n=true else m.Call=aV.z)/\(h0 m.Kind.toNat=false->m.cY=bk.z/\m.Status=0)/\(m.dB=true->m.Kind=2\/h0 m.Kind.toNat=true)/\(h0 m.Kind.toNat=true->eD m.cY n=true/\(0<=m.Status/\m.Status<=3)/\(m.Status=0->m.cY=bk.z/\m.Call=aV.z/\m.dB=false)):=
 ⟨λh=>⟨⟨h.jb,h.kd⟩,⟨h.f1,h.f2⟩,⟨h.t1,h.t2⟩,h.item,h.b2,h.call,h.bare,h.same,λT=>⟨(h.known T).1,⟨(h.known T).2.1,(h.known T).2.2.1⟩,(h.known T).2.2.2⟩⟩,
  λ⟨F,M,g,z,N,E,s,v,q⟩=>⟨F.1,F.2,M.1,M.2,g.1,g.2,z,N,E,s,v,λT=>⟨(q T).1,(q T).2.1.1,(q T).2.1.2,(q T).2.2⟩⟩⟩
def xm(m:aD)(n:Int):ar prog 121 [A m.c,I n] [cv] (λr Yc=>r=B (eo m n)/\Yc=[cv]):=by
 by_cases cc:1<=m.Kind/\m.Kind<=8
 .obtain⟨k,Ye⟩:∃k:Nat,m.Kind=(k:Int):=⟨m.Kind.toNat,ac⟩
  have D:=vx (k:=k) ac;have ao:=lU m.Item n;have R:=w6 m.ch n;have t:=w6 m.cY n;have u:=DD m.Call n;have q:m.Kind.toNat=k:=ac
  refine aB func121 λW=>?_;refine aq 2 λvy=>?_;refine aa 22 ?_;refine ai.aU (λZm=>?_) (λZm=>?_);refine aa 27 ?_
  exact XI
  refine RG (λZn=>?_) λZn=>?_;refine aa 21 ?_
  exact XI
  refine RH (λZo=>?_) λZo=>?_;refine aa 16 ?_
  exact XI
  refine aa 7 ?_;refine Rx (λZp=>?_) λZp=>?_
  exact XI
  refine aa 8 ?_;refine ai.o (aw.fn rfl (ao) ?_);refine aa 2 ?_;refine ai.aU (λZq=>?_) (λZq=>?_);refine aa 17 ?_
  exact XI
  refine aa 8 ?_;refine Rx (λZr=>?_) λZr=>?_
  exact XI
  refine aa 6 ?_;refine ai.v (V.RL ad (k:=k) rfl rfl Ye) ?_;refine Rv λlV=>?_;refine aa 11 ?_;refine ai.aU (λZs=>?_) (λZs=>?_);refine aa 3 ?_;refine ai.v (V.ne (aV.P' _ _ _)) ?_;refine aa 4 ?_;refine Rp (λZt=>?_) λZt=>?_
  exact XI
  refine RH (λy=>?_) λy=>?_;exact absurd (hI (ht y) XF:true=false) XG;refine aa 16 ?_;refine ai.aU (λp=>?_) (λp=>?_);refine aa 3 ?_;refine ai.v (V.ne (bk.P' _ _ _)) ?_;refine av ?_;refine ai.aU (λw=>?_) (λw=>?_);refine aa 18 ?_
  exact XI
  refine aa 8 ?_;refine Rp (λYf=>?_) λYf=>?_
  exact XI
  refine aa 5 ?_;refine Rz (λYg Yh=>?_) (λYg Yh=>?_) λYg=>?_;refine aa 7 ?_;refine Rp (λb=>?_) λb=>?_
  exact XI
  exact absurd (hI (ht b) XF:true=false) XG;refine aa 16 ?_;refine Rp (λi=>?_) λi=>?_
  exact XI
  exact absurd (hI (ht i) XF:true=false) XG;refine aa 21 ?_;refine Rp (λl=>?_) λl=>?_
  exact XI
  exact absurd (hI (ht l) XF:true=false) XG;refine aa 19 ?_;refine Rz (λYi Yj=>?_) (λYi Yj=>?_) λYi=>?_;refine aa 7 ?_;refine Q5 λs=>?_;refine aa 8 ?_;refine LI (λh Yk=>?_) λh Yk=>?_;refine aa 17 ?_;refine Rz (λYl Ym=>?_) (λYl Ym=>?_) λYl=>?_;refine Rt (λYn Yo=>?_) (λYn Yo=>?_) λYn=>?_
  exact XI
  refine aa 8 ?_
  exact XI
  refine aa 12 ?_
  exact XI
  refine aa 17 ?_
  exact XI
  refine aa 22 ?_
  exact XI
  refine aa 20 ?_;refine Rz (λYp Yq=>?_) (λYp Yq=>?_) λYp=>?_;refine Rt (λYr Ys=>?_) (λYr Ys=>?_) λYr=>?_
  exact XI
  refine aa 8 ?_
  exact XI
  refine aa 12 ?_
  exact XI
  refine aa 17 ?_
  exact XI
  refine aa 22 ?_
  exact XI
  refine aa 16 ?_;refine LI (λx Yt=>?_) λx Yt=>?_;refine aa 17 ?_;refine Rz (λYu Yv=>?_) (λYu Yv=>?_) λYu=>?_;refine Rt (λYw Yx=>?_) (λYw Yx=>?_) λYw=>?_
  exact XI
  refine aa 8 ?_
  exact XI
  refine aa 12 ?_
  exact XI
  refine aa 17 ?_
  exact XI
  refine aa 22 ?_
  exact XI
  refine aa 20 ?_;refine Rz (λYy Yz=>?_) (λYy Yz=>?_) λYy=>?_;refine Rt (λYA YB=>?_) (λYA YB=>?_) λYA=>?_
  exact XI
  refine aa 8 ?_
  exact XI
  refine aa 12 ?_
  exact XI
  refine aa 17 ?_
  exact XI
  refine aa 22 ?_
  exact XI
  refine aa 21 ?_;refine LI (λY YC=>?_) λY YC=>?_;refine aa 17 ?_;refine Rz (λYD YE=>?_) (λYD YE=>?_) λYD=>?_;refine Rt (λYF YG=>?_) (λYF YG=>?_) λYF=>?_
  exact XI
  refine aa 8 ?_
  exact XI
  refine aa 12 ?_
  exact XI
  refine aa 17 ?_
  exact XI
  refine aa 22 ?_
  exact XI
  refine aa 20 ?_;refine Rz (λYH YI=>?_) (λYH YI=>?_) λYH=>?_;refine Rt (λYJ YK=>?_) (λYJ YK=>?_) λYJ=>?_
  exact XI
  refine aa 8 ?_
  exact XI
  refine aa 12 ?_
  exact XI
  refine aa 17 ?_
  exact XI
  refine aa 22 ?_
  exact XI
  refine aa 14 ?_;refine ai.aU (λF=>?_) (λF=>?_);refine aa 9 ?_;refine Rp (λYL=>?_) λYL=>?_
  exact XI
  refine RG (λYM=>?_) λYM=>?_;refine aa 3 ?_;refine ai.v (V.ne (bk.P' _ _ _)) ?_;refine av ?_;refine ai.aU (λYN=>?_) (λYN=>?_);refine aa 18 ?_
  exact XI
  refine aa 8 ?_;refine Rp (λYO=>?_) λYO=>?_
  exact XI
  refine aa 5 ?_;refine Rz (λYP YQ=>?_) (λYP YQ=>?_) λYP=>?_;refine aa 7 ?_;refine Rp (λU=>?_) λU=>?_
  exact XI
  exact absurd (hI (ht U) XF:true=false) XG;refine aa 16 ?_;refine Rp (λJ=>?_) λJ=>?_
  exact XI
  exact absurd (hI (ht J) XF:true=false) XG;refine aa 21 ?_;refine Rp (λZ=>?_) λZ=>?_
  exact XI
  exact absurd (hI (ht Z) XF:true=false) XG;refine aa 19 ?_;refine Rz (λYR YS=>?_) (λYR YS=>?_) λYR=>?_;refine aa 7 ?_;refine Q5 λN=>?_;refine aa 8 ?_;refine LI (λG YT=>?_) λG YT=>?_;refine aa 2 ?_;refine Rg (λYU=>?_) λYU=>?_;refine Rz (λYV YW=>?_) (λYV YW=>?_) λYV=>?_;refine Rt (λYX YY=>?_) (λYX YY=>?_) λYX=>?_
  exact XI
  refine aa 8 ?_
  exact XI
  refine aa 12 ?_
  exact XI
  refine aa 17 ?_
  exact XI
  refine aa 22 ?_
  exact XI
  refine aa 14 ?_;refine Rz (λYZ Y0=>?_) (λYZ Y0=>?_) λYZ=>?_;refine Rt (λY1 Y2=>?_) (λY1 Y2=>?_) λY1=>?_
  exact XI
  refine aa 8 ?_
  exact XI
  refine aa 12 ?_
  exact XI
  refine aa 17 ?_
  exact XI
  refine aa 22 ?_
  exact XI
  refine aa 20 ?_;refine Rz (λY3 Y4=>?_) (λY3 Y4=>?_) λY3=>?_;refine Rt (λY5 Y6=>?_) (λY5 Y6=>?_) λY5=>?_
  exact XI
  refine aa 8 ?_
  exact XI
  refine aa 12 ?_
  exact XI
  refine aa 17 ?_
  exact XI
  refine aa 22 ?_
  exact XI
  refine aa 16 ?_;refine LI (λM Y7=>?_) λM Y7=>?_;refine aa 2 ?_;refine Rg (λY8=>?_) λY8=>?_;refine Rz (λY9 Za=>?_) (λY9 Za=>?_) λY9=>?_;refine Rt (λZb Zc=>?_) (λZb Zc=>?_) λZb=>?_
  exact XI
  refine aa 8 ?_
  exact XI
  refine aa 12 ?_
  exact XI
  refine aa 17 ?_
  exact XI
  refine aa 22 ?_
  exact XI
  refine aa 14 ?_;refine Rz (λZd Ze=>?_) (λZd Ze=>?_) λZd=>?_;refine Rt (λZf Zg=>?_) (λZf Zg=>?_) λZf=>?_
  exact XI
  refine aa 8 ?_
  exact XI
  refine aa 12 ?_
  exact XI
  refine aa 17 ?_
  exact XI
  refine aa 22 ?_
  exact XI
  refine aa 20 ?_;refine Rz (λZh Zi=>?_) (λZh Zi=>?_) λZh=>?_;refine Rt (λZj Zk=>?_) (λZj Zk=>?_) λZj=>?_
  exact XI
  refine aa 8 ?_
  exact XI
  refine aa 12 ?_
  exact XI
  refine aa 17 ?_
  exact XI
  refine aa 22 ?_
  exact XI
  refine aa 21 ?_;refine LI (λC Zl=>?_) λC Zl=>?_;refine aa 2 ?_;refine Rg (λK=>?_) λK=>?_;refine Rz (λX Q=>?_) (λX Q=>?_) λX=>?_;refine Rt (λT E=>?_) (λT E=>?_) λT=>?_
  exact XI
  refine aa 8 ?_
  exact XI
  refine aa 12 ?_
  exact XI
  refine aa 17 ?_
  exact XI
  refine aa 22 ?_
  exact XI
  refine aa 14 ?_;refine Rz (λL d=>?_) (λL d=>?_) λL=>?_;refine Rt (λg z=>?_) (λg z=>?_) λg=>?_
  exact XI
  refine aa 8 ?_
  exact XI
  refine aa 12 ?_
  exact XI
  refine aa 17 ?_
  exact XI
  refine aa 22 ?_
  exact XI
  refine aa 20 ?_;refine Rz (λf j=>?_) (λf j=>?_) λf=>?_;refine Rt (λP a=>?_) (λP a=>?_) λP=>?_
  exact XI
  refine aa 8 ?_
  exact XI
  refine aa 12 ?_
  exact XI
  refine aa 17 ?_
  exact XI
  refine aa 22 ?_
  exact XI
  exact absurd (hI (ht F) XF:false=true) XG
 .refine aB func121 λW=>?_;refine aq 2 λvy=>?_;refine Ru (λK=>?_) λK=>?_;refine aa 37 ?_
  exact I4
  refine aa 38 ?_
  exact I4
def mr(m:aD):ab aP:=if h0 m.Kind.toNat then hs m.cY++bt m.Status else[]
def ks(m:aD):ab aP:=if h0 m.Kind.toNat||m.Kind==2 then bt (if m.dB then 1 else 0)else[]
def jN(m:aD):ab aP:=if iX m.Kind.toNat then ja m.Call else[]
def he(m:aD):ab aP:=bt m.Kind++(bt m.bm++(bt m.b3++(iV m.Item++(hs m.ch++(mr m++(ks m++jN m))))))
def DS(F:1<=k)(M:k<=8):(k=7)\/(k=2)\/(k≠7/\k≠2/\iX k=true/\h0 k=false)\/(k≠7/\k≠2/\iX k=false/\h0 k=false):=by rcases(by omega:k=1\/k=2\/k=3\/k=4\/k=5\/k=6\/k=7\/k=8)with h|h|h|h|h|h|h|h<;>subst h<;>decide
def tE{b:bk}(h:eD b n=true)(v:n<=1000):(hs b).length<=18:=by obtain⟨F,M,g,z⟩:=ou h;have h:=fq (n:=b.Round) ac;have l:=fq (n:=b.be) ac;unfold hs;rw[bM];omega
def tF{x:ag}(h:bB x n=true):0<=x.be/\x.be<n/\1<=x.bH/\x.bH<=64:=by simp only[bB,cZ,da]at h;omega
def zD{x:ag}(h:bB x n=true)(v:n<=1000):(iV x).length<=18:=by obtain⟨F,M,g,z⟩:=tF h;have h:=fq (n:=x.bH) ac;have l:=fq (n:=x.be) ac;unfold iV;rw[bM];omega
def ov{x:ag}{m:Int}(h:bB x n=true)(v:n<=m):bB x m=true:=by have:=tF h;simp only[bB,cZ,da];omega
def rj{x:bk}{m:Int}(h:eD x n=true)(v:n<=m):eD x m=true:=by have:=ou h;simp only[eD,da];omega
def adA(b:Nat)(v:aj)(m:aD)(n:Int)(i:n<=7)(h:gQ m n):ar prog 122 [au b 0,A m.c] [cells b 231 (fw.c ⟨v⟩),rows c0 v 5 1 [],cv] (λr Y=>∃X,r=.tuple #[]/\Y=[cells b 231 (fw.c ⟨X⟩),rows c0 X 5 1 (he m),cv]):=by
 obtain⟨k,U⟩:∃k:Nat,m.Kind=(k:Int):=⟨m.Kind.toNat,by have:=h.jb;omega⟩
 have q:m.Kind.toNat=k:=ac
 have P:=h.jb;have j:=h.kd;have f1:=h.f1;have f2:=h.f2;have t1:=h.t1;have t2:=h.t2;have D:=vx (k:=k) ac;obtain⟨xn,tG,acP,aem⟩:=tF h.item;obtain⟨f,o,qb,zE⟩:=ou h.b2;refine KM λF l z pk JS JT=>?_;rcases DS (k:=k) ac ac with e|e|⟨y,R,p,T⟩|⟨y,R,p,T⟩
 .subst e;obtain⟨g,s,v3,v4⟩:=h.known (by rw[q];rfl);obtain⟨E,rT,pV,DQ⟩:=ou g;have JU:=tE g ac;have afO:=fq (n:=m.Status) ac;have u:eQ m.Call n=true:=by have:=h.call;rw[q]at this;simpa[iX]using this
  have a (v:aj) (N:ab aP) (G:N.length<=600000):=xj b v N m.Call n u G;have e:[]++(bt m.Kind++(bt m.bm++bt m.b3))++iV m.Item++hs m.ch++hs m.cY++bt m.Status++bt (if m.dB then 1 else 0)++ja m.Call=he m:=by simp[he,mr,ks,jN,q,iX,h0,cd]
  rw[<-e];simp only[show iX 7=true from rfl,show h0 7=true from rfl]at D;refine LL λW w K=>?_;refine ai.o' rfl (vq _ _ _ _ _ _ _ ?_ ?_ ?_ ?_) ?_;iterate 4 exact b1
  rintro _ _⟨J,rfl,rfl⟩;refine aa 8 ?_;refine ai.o' rfl (vo _ _ _ _ ?_ ?_ ?_) ?_;iterate 3 exact b1
  rintro _ _⟨t,rfl,rfl⟩;refine aa 8 ?_;refine ai.o' rfl (r9 _ _ _ _ ?_ ?_ ?_) ?_;iterate 3 exact b1
  rintro _ _⟨Z,rfl,rfl⟩;refine aa 7 ?_;refine ai.v (V.RL ad (k:=7) rfl rfl U) ?_;refine Rv λx=>?_;refine aa 16 ?_;refine ai.o' rfl (r9 _ _ _ _ ?_ ?_ ?_) ?_;iterate 3 exact b1
  rintro _ _⟨M,rfl,rfl⟩;refine aq 7 λd=>?_;refine ai.o' rfl (pe _ _ _ _ _ ?_ ?_) ?_;iterate 2 exact b1
  rintro _ _⟨L,rfl,rfl⟩;refine aa 20 ?_;exact Lw
 .subst e;have u:eQ m.Call n=true:=by have:=h.call;rw[q]at this;simpa[iX]using this
  have a (v:aj) (N:ab aP) (G:N.length<=600000):=xj b v N m.Call n u G;have e:[]++(bt m.Kind++(bt m.bm++bt m.b3))++iV m.Item++hs m.ch++bt (if m.dB then 1 else 0)++ja m.Call=he m:=OO
  rw[<-e];simp only[show iX 2=true from rfl,show h0 2=false from rfl]at D;refine LL λW w K=>?_;refine ai.o' rfl (vq _ _ _ _ _ _ _ ?_ ?_ ?_ ?_) ?_;iterate 4 exact b1
  rintro _ _⟨J,rfl,rfl⟩;refine aa 8 ?_;refine ai.o' rfl (vo _ _ _ _ ?_ ?_ ?_) ?_;iterate 3 exact b1
  rintro _ _⟨t,rfl,rfl⟩;refine aa 8 ?_;refine ai.o' rfl (r9 _ _ _ _ ?_ ?_ ?_) ?_;iterate 3 exact b1
  rintro _ _⟨Z,rfl,rfl⟩;refine aa 7 ?_;refine ai.v (V.RL ad (k:=2) rfl rfl U) ?_;refine Rv λx=>?_;refine aa 30 ?_;exact Lw
 .have u:eQ m.Call n=true:=by have:=h.call;rw[q,p]at this;simpa using this
  have a (v:aj) (N:ab aP) (G:N.length<=600000):=xj b v N m.Call n u G;have e:[]++(bt m.Kind++(bt m.bm++bt m.b3))++iV m.Item++hs m.ch++ja m.Call=he m:=by
   have:¬m.Kind=2:=ac
   simp[he,mr,ks,jN,q,p,T,cd,this]
  rw[<-e];simp only[p,T]at D;refine LL λW w K=>?_;refine ai.o' rfl (vq _ _ _ _ _ _ _ ?_ ?_ ?_ ?_) ?_;iterate 4 exact b1
  rintro _ _⟨J,rfl,rfl⟩;refine aa 8 ?_;refine ai.o' rfl (vo _ _ _ _ ?_ ?_ ?_) ?_;iterate 3 exact b1
  rintro _ _⟨t,rfl,rfl⟩;refine aa 8 ?_;refine ai.o' rfl (r9 _ _ _ _ ?_ ?_ ?_) ?_;iterate 3 exact b1
  rintro _ _⟨Z,rfl,rfl⟩;refine JG ?_;refine Rv λx=>?_;refine aa 39 ?_;refine ai.o' rfl (a _ _ ?_) ?_;exact b1;rintro _ _⟨C,rfl,rfl⟩;exact aM 3
 .have e:[]++(bt m.Kind++(bt m.bm++bt m.b3))++iV m.Item++hs m.ch=he m:=by
   have:¬m.Kind=2:=ac
   simp[he,mr,ks,jN,q,p,T,cd,this]
  rw[<-e];simp only[p,T]at D;refine LL λW w K=>?_;refine ai.o' rfl (vq _ _ _ _ _ _ _ ?_ ?_ ?_ ?_) ?_;iterate 4 exact b1
  rintro _ _⟨J,rfl,rfl⟩;refine aa 8 ?_;refine ai.o' rfl (vo _ _ _ _ ?_ ?_ ?_) ?_;iterate 3 exact b1
  rintro _ _⟨t,rfl,rfl⟩;refine aa 8 ?_;refine ai.o' rfl (r9 _ _ _ _ ?_ ?_ ?_) ?_;iterate 3 exact b1
  rintro _ _⟨Z,rfl,rfl⟩;refine JG ?_;refine Rv λx=>?_;exact aM 37
def acF(b:Nat)(m:aD)(n:Int)(w:n<=7)(h:gQ m n):ar prog 131 [au b 0] [cells b 306 (ek.c ⟨he m,false⟩),cv] (λr Y=>r=A m.c/\Y=[cells b 306 (ek.c ⟨[],false⟩),cv]):=by
 obtain⟨k,U⟩:∃k:Nat,m.Kind=(k:Int):=⟨m.Kind.toNat,by have:=h.jb;omega⟩
 have q:m.Kind.toNat=k:=ac
 have jb:=h.jb;have kd:=h.kd;have f1:=h.f1;have f2:=h.f2;have t1:=h.t1;have t2:=h.t2;have D:=vx (k:=k) ac;have q1:=ov h.item w;have j:=rj h.b2 w;refine KM λG Z P pk JS JT=>?_;have M:=h.call;have K:=h.bare;have N:=h.same;have C:=h.known;rw[q]at M K N C;rcases DS (k:=k) ac ac with e|e|⟨F,J,p,T⟩|⟨F,J,p,T⟩
 .subst e;obtain⟨g,l,v3,v4⟩:=C rfl;have v0:=rj g w;have JU:=tE g ac;have afO:=fq (n:=m.Status) ac;have u:eQ m.Call n=true:=by simpa[iX]using M
  have X:=xi u;have a (i:ab aP) (o:i.length<=1000000):=xk b m.Call n i u o;have e:bt m.Kind++(bt m.bm++(bt m.b3++(iV m.Item++(hs m.ch++(hs m.cY++(bt m.Status++(bt (if m.dB then 1 else 0)++(ja m.Call++[]))))))))=he m:=by simp[he,mr,ks,jN,q,iX,h0,cd]
  rw[<-e];clear e;simp only[show iX 7=true from rfl,show h0 7=true from rfl]at D;refine Mt λW t=>?_;refine ai.o' rfl (iF _ _ _ _ ?_ ?_ ?_ ?_) ?_;iterate 4 exact b1
  refine aa 2 ?_;refine ai.o' rfl (iF _ _ _ _ ?_ ?_ ?_ ?_) ?_;iterate 4 exact b1
  refine aa 2 ?_;refine ai.o' rfl (iF _ _ _ _ ?_ ?_ ?_ ?_) ?_;iterate 4 exact b1
  refine aa 2 ?_;refine ai.o' rfl (vp _ _ _ ?_ ?_) ?_;iterate 2 exact b1
  refine aa 2 ?_;refine ai.o' rfl (sa _ _ _ ?_ ?_) ?_;iterate 2 exact b1
  refine aq 2 λy=>?_;refine aa 7 ?_;refine ai.v (V.RL ad (k:=7) rfl rfl U) ?_;refine Rv λx=>?_;refine aa 13 ?_;refine ai.o' rfl (sa _ _ _ ?_ ?_) ?_;iterate 2 exact b1
  refine aa 2 ?_;refine ai.o' rfl (iF _ _ _ _ ?_ ?_ ?_ ?_) ?_;iterate 4 exact b1
  refine aa 22 ?_;refine ai.o' rfl (zA _ _ _ ?_) ?_;exact b1;refine aa 15 ?_;refine ai.o' rfl (a _ ?_) ?_;exact b1;exact aM 13
 .subst e;obtain⟨g,l⟩:=K rfl;have u:eQ m.Call n=true:=by simpa[iX]using M
  have X:=xi u;have a (i:ab aP) (o:i.length<=1000000):=xk b m.Call n i u o;have e:bt m.Kind++(bt m.bm++(bt m.b3++(iV m.Item++(hs m.ch++(bt (if m.dB then 1 else 0)++(ja m.Call++[]))))))=he m:=OO
  rw[<-e];clear e;simp only[show iX 2=true from rfl,show h0 2=false from rfl]at D;obtain⟨mk,qL,mt,E,f,e5,s,L,d⟩:=m;dsimp only at*;subst g l;refine Mt λW t=>?_;refine ai.o' rfl (iF _ _ _ _ ?_ ?_ ?_ ?_) ?_;iterate 4 exact b1
  refine aa 2 ?_;refine ai.o' rfl (iF _ _ _ _ ?_ ?_ ?_ ?_) ?_;iterate 4 exact b1
  refine aa 2 ?_;refine ai.o' rfl (iF _ _ _ _ ?_ ?_ ?_ ?_) ?_;iterate 4 exact b1
  refine aa 2 ?_;refine ai.o' rfl (vp _ _ _ ?_ ?_) ?_;iterate 2 exact b1
  refine aa 2 ?_;refine ai.o' rfl (sa _ _ _ ?_ ?_) ?_;iterate 2 exact b1
  refine aq 2 λy=>?_;refine aa 7 ?_;refine ai.v (V.RL ad (k:=2) rfl rfl U) ?_;refine Rv λx=>?_;refine aa 28 ?_;refine ai.o' rfl (zA _ _ _ ?_) ?_;exact b1;refine aa 15 ?_;refine ai.o' rfl (a _ ?_) ?_;exact b1;exact aM 13
 .obtain⟨g,l⟩:=K T;have u:eQ m.Call n=true:=by rw[p]at M;simpa using M
  have X:=xi u;have R:¬m.Kind=2:=ac
  have Q:m.dB=false:=by
   cases Q:m.dB with
   |false=>rfl
   |true=>
     rcases N Q with h|h
     .exact absurd h R
     .rw[T]at h;cases h
  have a (i:ab aP) (o:i.length<=1000000):=xk b m.Call n i u o;have e:bt m.Kind++(bt m.bm++(bt m.b3++(iV m.Item++(hs m.ch++(ja m.Call++[])))))=he m:=by simp[he,mr,ks,jN,q,p,T,cd,R]
  rw[<-e];clear e;simp only[p,T]at D;obtain⟨mk,qL,mt,E,f,e5,s,L,d⟩:=m;dsimp only at*;subst g l Q;refine Mt λW t=>?_;refine ai.o' rfl (iF _ _ _ _ ?_ ?_ ?_ ?_) ?_;iterate 4 exact b1
  refine aa 2 ?_;refine ai.o' rfl (iF _ _ _ _ ?_ ?_ ?_ ?_) ?_;iterate 4 exact b1
  refine aa 2 ?_;refine ai.o' rfl (iF _ _ _ _ ?_ ?_ ?_ ?_) ?_;iterate 4 exact b1
  refine aa 2 ?_;refine ai.o' rfl (vp _ _ _ ?_ ?_) ?_;iterate 2 exact b1
  refine aa 2 ?_;refine ai.o' rfl (sa _ _ _ ?_ ?_) ?_;iterate 2 exact b1
  refine aq 2 λy=>?_;refine JG ?_;refine Rv λx=>?_;refine aa 38 ?_;refine ai.o' rfl (a _ ?_) ?_;exact b1;exact aM 13
 .obtain⟨g,l⟩:=K T;have u:m.Call=aV.z:=by rw[p]at M;simpa using M
  have R:¬m.Kind=2:=ac
  have Q:m.dB=false:=by
   cases Q:m.dB with
   |false=>rfl
   |true=>
     rcases N Q with h|h
     .exact absurd h R
     .rw[T]at h;cases h
  have e:bt m.Kind++(bt m.bm++(bt m.b3++(iV m.Item++(hs m.ch++[]))))=he m:=by simp[he,mr,ks,jN,q,p,T,cd,R]
  rw[<-e];clear e;simp only[p,T]at D;obtain⟨mk,qL,mt,E,f,e5,s,L,d⟩:=m;dsimp only at*;subst g l Q u;refine Mt λW t=>?_;refine ai.o' rfl (iF _ _ _ _ ?_ ?_ ?_ ?_) ?_;iterate 4 exact b1
  refine aa 2 ?_;refine ai.o' rfl (iF _ _ _ _ ?_ ?_ ?_ ?_) ?_;iterate 4 exact b1
  refine aa 2 ?_;refine ai.o' rfl (iF _ _ _ _ ?_ ?_ ?_ ?_) ?_;iterate 4 exact b1
  refine aa 2 ?_;refine ai.o' rfl (vp _ _ _ ?_ ?_) ?_;iterate 2 exact b1
  refine aa 2 ?_;refine ai.o' rfl (sa _ _ _ ?_ ?_) ?_;iterate 2 exact b1
  refine aq 2 λy=>?_;refine JG ?_;refine Rv λx=>?_;exact aM 46
end Go.Proofs.YteogojgnkjegmaaGreatDoor
