/-
 Part of the proof.
-/
import Derived.Test.YteogojgnkjegmaaGreatDoorAh
set_option linter.all false
set_option maxRecDepth 8000
set_option maxHeartbeats 8000000
namespace Go.Proofs.YteogojgnkjegmaaGreatDoor
open Go.ay Go.Proofs.Tryz
structure oE where
 ia:ab aj
 us:ab aj
 dU:ia.length=7
 hu:us.length=7
structure hN where
 na:Nat
 qF:Nat
 C:oE
 D:oE
def oE.new:oE:=⟨List.replicate 7 (.slice none 0 0),List.replicate 7 (.slice none 0 0),rfl,rfl⟩
abbrev ze(b:Nat)(L:oE)(p:aJ aN):ax:=ep aN.c 323 52 14 b L.ia L.us p
abbrev xo(b:Nat)(L:oE)(p:aJ Bool):ax:=ep e8 325 4 1 b L.ia L.us p
def L7(y:Nat)(L:oE)(p:aJ aN)(x:ag)(t:aN)(n:p.wf):ar prog 149 [aw y 0,A x.c,A t.c] [ze y L p] (λr J=>∃T:oE,r=B (bq x p.aH)/\J=[ze y T (p.set x t)]):=by refine ar.post (afO y L.ia L.us p x t n L.dU L.hu) ?_;rintro v J⟨g,w,U,N,rfl,rfl⟩;exact⟨_,⟨⟨g,w,U,N⟩,rfl,rfl⟩,λ_ _ _ h=>h⟩
def aeM(y:Nat)(L:oE)(p:aJ Bool)(x:ag)(t:Bool)(n:p.wf):ar prog 257 [aw y 0,A x.c,B t] [xo y L p] (λr J=>∃T:oE,r=B (bq x p.aH)/\J=[xo y T (p.set x t)]):=by refine ar.post (ajk y L.ia L.us p x t n L.dU L.hu) ?_;rintro v J⟨g,w,U,N,rfl,rfl⟩;exact⟨_,⟨⟨g,w,U,N⟩,rfl,rfl⟩,λ_ _ _ h=>h⟩
structure bs where
 calls:aJ aN
 done:aJ Bool
structure bs.ok(g:bs):Prop where
 c:g.calls.ok
 d:g.done.ok
def bs.new(n:Int):bs:=⟨aJ.new n,aJ.new n⟩
def bs.UL(n:Int):(bs.new n).ok:=⟨aJ.UL n,aJ.UL n⟩
def bs.is(g:bs)(x:ag):Bool:=(g.calls.at x).isSome
def bs.over(g:bs)(x:ag):Bool:=(g.done.at x).isSome
def bs.call(g:bs)(x:ag):aN:=(g.calls.at x).getD aN.z
def bs.U3(g:bs)(x:ag)(c:aN):Bool:=fB c.eG 7&&(!g.is x&&bq x g.calls.aH)
def bs.UF(g:bs)(x:ag)(c:aN):bs:=if g.U3 x c then{g with calls:=g.calls.set x c}else g
def bs.hg(g:bs)(Z:ab ag):bs:={g with done:=Z.foldl (λp x=>p.set x true) g.done}
def bs.WT{g:bs}(h:g.ok)(Z:ab ag):(g.hg Z).ok:=by
 refine⟨h.c,?_⟩;show(Z.foldl (λp x=>p.set x true) g.done).ok
 have:=h.d;generalize g.done=p at*;induction Z generalizing p with
 |nil=>exact this
 |cons x Z d=>exact d _ (aJ.Vr this x true)
def bs.aa9{g:bs}(h:g.ok)(x:ag)(c:aN):(g.UF x c).ok:=by
 unfold bs.UF;split
 .exact⟨aJ.Vr h.c x c,h.d⟩
 .exact h
def bs.Ww(g:bs)(x y:ag):Int:=if x=y then 0 else if(g.call x).Seq<(g.call y).Seq\/((g.call x).Seq=(g.call y).Seq/\qA x y=true)then-1 else 1
def iw(s:Nat)(L:hN)(g:bs):ab ax:=[cells s 260 (pF.c ⟨aw L.na 0,aw L.qF 0⟩),ze L.na L.C g.calls,xo L.qF L.D g.done]
def hO(s:Nat)(L:hN)(g:bs):ax:=aL (iw s L g)
section
variable{P:bU}{f:eR}{args:ab aj}{Y:ab ax}
def ar.Zu{F:Type}{Q:aj->F->Prop}{T:F->ab ax}(h:ar P f args Y (λr J=>∃z,Q r z/\J=T z)):ar P f args [aL Y] (λr J=>∃z,Q r z/\J=[aL (T z)]):=
 ar.eqv aO.aL h Qs
def ar.Wx{Q:aj->Prop}{T:ab ax}(h:ar P f args Y (λr J=>Q r/\J=T)):ar P f args [aL Y] (λr J=>Q r/\J=[aL T]):=
 ar.eqv aO.aL h (by rintro r J⟨U,rfl⟩;exact⟨_,⟨U,rfl⟩,aO.aL.symm⟩)
end
def aeq(n:Int):ar prog 104 [I n] [] (λr J=>∃s L,r=aw s 0/\J=[hO s L (bs.new n)]):=by
 have h:ar prog 104 [I n] [] (λr J=>∃s:Nat×hN,r=aw s.1 0/\J=iw s.1 s.2 (bs.new n)):=by
  unfold iw;refine aE func104 λW=>?_;refine aa 8 ?_;refine ai.p' rfl (KY _) ?_;rintro _ _⟨g,rfl,rfl⟩;refine aa 2 ?_;refine ai.p' rfl (acN _) ?_;rintro _ _⟨c,rfl,rfl⟩;refine aq 2 λi=>?_;refine aa 5 ?_
  .exact⟨_,_,⟨(_,⟨_,_,oE.new,oE.new⟩),rfl,rfl⟩,Uc⟩
 refine ar.post h ?_;rintro r J⟨⟨s,L⟩,rfl,rfl⟩;exact⟨_,⟨s,L,rfl,rfl⟩,λ_ _ _ h=>h.toBag⟩
def aiB(s:Nat)(L:hN)(g:bs)(h:g.ok)(x:ag):ar prog 221 [aw s 0,A x.c] (iw s L g) (λr J=>r=B (g.is x)/\J=iw s L g):=by
 have b:=xa L.na L.C.ia L.C.us g.calls x h.c.towf L.C.dU L.C.hu;unfold bs.is iw;cases t:g.calls.at x<;>rw[t]at b
 exact Qg
 exact Qg
def F2(s:Nat)(L:hN)(g:bs)(h:g.ok)(x:ag):ar prog 222 [aw s 0,A x.c] (iw s L g) (λr J=>r=B (g.over x)/\J=iw s L g):=by
 have b:=ajc L.qF L.D.ia L.D.us g.done x h.d.towf L.D.dU L.D.hu;unfold bs.over iw;cases t:g.done.at x<;>rw[t]at b
 exact rC
 exact rC
def Mb(s:Nat)(L:hN)(g:bs)(h:g.ok)(x:ag):ar prog 161 [aw s 0,A x.c] (iw s L g) (λr J=>r=.tuple #[A (g.call x).c,B (g.is x)]/\J=iw s L g):=by
 have b:=xa L.na L.C.ia L.C.us g.calls x h.c.towf L.C.dU L.C.hu;unfold bs.is bs.call iw;cases t:g.calls.at x<;>rw[t]at b
 exact Mh
 exact Mh
def aeE(s:Nat)(L:hN)(g:bs)(h:g.ok)(x:ag)(c:aN):ar prog 106 [aw s 0,A x.c,A c.c] (iw s L g) (λr J=>∃T,r=B (g.U3 x c)/\J=iw s T (g.UF x c)):=by
 obtain⟨E,o,C,D⟩:=L;have U:=FY c.eG 7;have m:=xa E C.ia C.us g.calls x h.c.towf C.dU C.hu;have v:=L7 E C g.calls x c h.c.towf;have n:g.is x=(g.calls.at x).isSome:=rfl;unfold bs.UF;generalize q:g.U3 x c=b;unfold bs.U3 at q;rw[n]at q;cases G:fB c.eG 7<;>rw[G]at U q
 .rw[sM]at q;subst q;simp only[hM,iq];unfold iw;dsimp only;refine aE func106 λW=>?_;refine aq 2 λZ=>?_;refine aq 0 λd=>?_;refine aa 25 ?_
  exact Nj
 .rw[qu]at q;cases t:g.calls.at x<;>rw[t]at m q
  .simp only[Option.isSome_none,Bool.not_false,qu]at q;rw[q]at v;have X:(if b=true then({g with calls:=g.calls.set x c}:bs)else g)={g with calls:=g.calls.set x c}:=by
    cases b
    .rw[aM T6,aJ.set,q];rfl
    .rfl
   rw[X];refine Om (λW Z d u=>?_) λW Z d=>?_;refine OF λQ=>?_;rotate_left;refine O.N' ad (λu=>?_);refine au ?_;refine af.p' 5 rfl rfl (m) ?_;refine M3 ?_;refine OF λz=>?_;rotate_left;all_goals exact⟨_,_,⟨⟨E,o,_,D⟩,rfl,rfl⟩,Uc⟩
  .simp only[Option.isSome_some,AI,sM]at q;subst q;simp only[hM,iq];refine Om (λW Z d u=>?_) λW Z d=>?_;refine aa 16 ?_
   exact Nj
   refine O.N' ad (λu=>?_);refine au ?_;refine af.p' 5 rfl rfl (m) ?_;refine M3 ?_;refine aa 16 ?_
   exact Nj
def afk(s:Nat)(L:hN)(g:bs)(h:g.ok)(x y:ag):ar prog 273 [aw s 0,A x.c,A y.c] (iw s L g) (λr J=>r=I (g.Ww x y)/\J=iw s L g):=by
 have m (x:ag):=xa L.na L.C.ia L.C.us g.calls x h.c.towf L.C.dU L.C.hu;have w:=Bo x y;have t (x:ag):∃i:Bool,w9 (g.calls.at x)=.tuple #[A (g.call x).c,B i]:=by
  unfold bs.call;cases g.calls.at x
  .exact⟨false,rfl⟩
  .exact⟨true,rfl⟩
 obtain⟨Q,b⟩:=t x;obtain⟨l,U⟩:=t y;have n:=m x;have X:=m y;rw[b]at n;rw[U]at X;clear m t;unfold bs.Ww;generalize g.call x=ab0 at*;generalize g.call y=ab6 at*;unfold iw;have N (k:Nat):=ag.R' x y k;by_cases z:x=y
 .rw[aQ z];rw[ic z]at N;refine Tc (λW Z d u=>?_) λW Z d=>?_;refine Sb (λo=>?_) ?_;exact aP 13;refine RL λo=>?_;exact aP 13;refine MY λu=>?_;refine Sb (λo=>?_) ?_;exact aP 13;refine RL λo=>?_;exact aP 13
 .rw[aM z];rw[lg z]at N;cases T:qA x y<;>rw[T]at w
  .refine Tc (λW Z d u=>?_) λW Z d=>?_;refine Sb (λo=>?_) ?_;refine QH (λD=>?_) λD=>?_
   exact St
   refine KJ (λG=>?_) λG=>?_;refine aa 19 ?_
   exact St
   refine aa 19 ?_
   exact St
   refine RL λo=>?_;refine QH (λR=>?_) λR=>?_
   exact St
   refine KJ (λYc=>?_) λYc=>?_;refine aa 19 ?_
   exact St
   refine aa 19 ?_
   exact St
   refine MY λu=>?_;refine Sb (λo=>?_) ?_;refine QH (λj=>?_) λj=>?_
   exact St
   refine KJ (λa=>?_) λa=>?_;refine aa 19 ?_
   exact St
   refine aa 19 ?_
   exact St
   refine RL λo=>?_;refine QH (λp=>?_) λp=>?_
   exact St
   refine KJ (λM=>?_) λM=>?_;refine aa 19 ?_
   exact St
   refine aa 19 ?_
   exact St
  .refine Tc (λW Z d u=>?_) λW Z d=>?_;refine Sb (λo=>?_) ?_;refine QH (λYe=>?_) λYe=>?_
   exact QG
   refine KJ (λYf=>?_) λYf=>?_;refine aa 18 ?_
   exact QG
   refine aa 19 ?_
   exact QG
   refine RL λo=>?_;refine QH (λYg=>?_) λYg=>?_
   exact QG
   refine KJ (λYh=>?_) λYh=>?_;refine aa 18 ?_
   exact QG
   refine aa 19 ?_
   exact QG
   refine MY λu=>?_;refine Sb (λo=>?_) ?_;refine QH (λK=>?_) λK=>?_
   exact QG
   refine KJ (λF=>?_) λF=>?_;refine aa 18 ?_
   exact QG
   refine aa 19 ?_
   exact QG
   refine RL λo=>?_;refine QH (λE=>?_) λE=>?_
   exact QG
   refine KJ (λq=>?_) λq=>?_;refine aa 18 ?_
   exact QG
   refine aa 19 ?_
   exact QG
end Go.Proofs.YteogojgnkjegmaaGreatDoor
namespace Go.Proofs.YteogojgnkjegmaaGreatDoor
open Go.ay Go.Proofs.Tryz
def F3(e:ax)(m:aT Go.Addr)(E K off:Nat)(l:ab ag)(f:Rd e m l.length K off 2 (l.map ag.c))(T:l.length<=1000000):ar prog 158 [.slice m l.length E] [e] (λr J=>∃v,r=v/\J=[rows ag.c v 46 2 l,e]):=by
 cases m with
 |none=>
  have t:l=[]:=by
   cases l with
   |nil=>rfl
   |cons a l=>have:=f.addr T3;simp at this
  subst t;refine aE func158 λW=>?_;refine ah.Ur ag.c 46 2 ?_;refine aa 9 ?_;refine ai.v (V.WM ad) ?_;exact aP 11
 |some a=>
  by_cases L:l=[]
  .subst L;refine aE func158 λW=>?_;refine N1 ?_;refine ai.o (O.Q' ad ag.c [] rfl bI.nil rfl rfl (λg=>?_));refine au ?_;refine ai.v (V.XT ad rfl rfl (cq.XG ad f T1 ag.F' ag.len) ac) ?_;exact aP 5
  .have E:0<l.length:=pH.2 L;refine aE func158 λW=>?_;refine N1 ?_;refine ai.o (O.Q' ad ag.c [] rfl bI.nil rfl rfl (λg=>?_));refine au ?_;refine ai.o (O.XS ad rfl rfl (cq.rd ad f T1 ag.F' ag.len E) L ag.len (λr T=>?_));exact aP 5
def qG(x:ag)(l:ab ag):Int:=match l.findIdx? (λy=>decide (y=x))with|some i=>(i:Int)|none=>-1
def Me{x:ag}{l:ab ag}{i:Nat}(U:l[i]?=some x)(h:∀(j:Nat) (y:ag),j<i->l[j]?=some y->y≠x):qG x l=i:=by obtain⟨Y,rfl⟩:=cT.1 U;unfold qG;rw[vv.2 ⟨Y,T3,λj y=>by simpa using h j _ y (hs ac)⟩]
def afM{x:ag}{l:ab ag}(h:∀(j:Nat) (y:ag),l[j]?=some y->y≠x):qG x l=-1:=by unfold qG;rw[xp.2];intro y F;obtain⟨j,c⟩:=sx F;simpa using h j y c
def F4(e:ax)(n:aT Go.Addr)(E X off:Nat)(l:ab ag)(x:ag)(f:Rd e n l.length X off 2 (l.map ag.c))(T:l.length<=1000000):ar prog 229 [.slice n l.length E,A x.c] [e] (λr J=>r=I (qG x l)/\J=[e]):=by
 refine aE func229 λW=>?_;refine aq 2 λY=>?_;refine aa 12 ?_;refine ah.cp [7,3,0] (λi:Nat=>i<=l.length/\∀(j:Nat) (y:ag),j<i->l[j]?=some y->y≠x) (λi=>[(8,I (i:Int))]) (λ_=>[]) (λi=>l.length-i) 0 ⟨cO _,λj y h=>absurd h (xn _)⟩ ?_;rintro i⟨ao,w⟩ K m;refine bl ?_;by_cases s:i<l.length
 .obtain⟨y,F⟩:=cl s;have U (k:Nat):=ag.R' x y k;by_cases u:x=y
  .subst u;rw[Me F w];rw[ic rfl]at U;refine Ke ?_;exact aP 16
  .rw[lg u]at U;refine Ke ?_;refine aa 10 ?_;rotate_left;refine Out.z' m (i+1) ?_ FM;exact ⟨ac,λj z b v=>by
    by_cases Z:j=i
    .subst Z;rw[F]at v;rw[<-hc v];exactλh=>u h.symm
    .exact w j z ac v⟩
 .rw[afM λj y F=>w j y (by have:=(cT.1 F).1;omega) F];clear m;exact aP 19
def ac5(x:ag)(l:ab ag):decide (0<=qG x l)=decide (x∈l):=by
 unfold qG;cases h:l.findIdx? (λy=>decide (y=x))with
 |none=>
  rw[xp]at h;refine dC.2 ⟨λY=>absurd Y T6,λY=>?_⟩;have:=h x Y;simp at this
 |some i=>
  obtain⟨Y,N,_⟩:=vv.1 h;refine dC.2 ⟨λ_=>?_,λ_=>tO i⟩;have:l[i]=x:=by simpa using N
  rw[<-this];exact List.getElem_mem Y
def F5(e:ax)(m:aT Go.Addr)(E K off:Nat)(l:ab ag)(x:ag)(f:Rd e m l.length K off 2 (l.map ag.c))(T:l.length<=1000000):ar prog 164 [.slice m l.length E,A x.c] [e] (λr J=>r=B (decide (x∈l))/\J=[e]):=by have b:=F4 e m E K off l x f T;rw[<-ac5];generalize qG x l=k at*;refine aE func164 λW=>?_;refine aq 2 λm=>?_;exact aP 15
def i5(U:Nat)(k:Nat):ab ag:=(List.range k).map λi:Nat=>⟨(U:Int),(i:Int)+1⟩
def l6(d:bX)(k:Nat):ab ag:=(List.range k).flatMap λr=>i5 r (d.l.getD r 0).toNat
def qH(d:bX):ab ag:=l6 d 7
def F6(U k:Nat):i5 U (k+1)=i5 U k++[⟨(U:Int),(k:Int)+1⟩]:=by simp[i5,tP]
def xq(d:bX)(k:Nat):l6 d (k+1)=l6 d k++i5 k (d.l.getD k 0).toNat:=by simp[l6,tP]
def ae7{U k m:Nat}(h:k<m):∃L,i5 U m=i5 U k++⟨(U:Int),(k:Int)+1⟩::L:=by
 obtain⟨j,rfl⟩:∃j,m=k+1+j:=⟨m-(k+1),ac⟩
 refine⟨(i5 U (k+1+j)).drop (k+1),?_⟩;have e:i5 U (k+1+j)=i5 U (k+1)++(i5 U (k+1+j)).drop (k+1):=by
  have Y:(i5 U (k+1+j)).take (k+1)=i5 U (k+1):=by unfold i5;rw[<-List.map_take,List.take_range];congr 2;omega
  conv=>lhs;rw[<-oe (k+1) (i5 U (k+1+j)),Y]
 conv=>lhs;rw[e,F6]
 simp
def F7(d:bX)(k:Nat):∀j:Nat,∃t,l6 d (k+j)=l6 d k++t
 |0=>⟨[],T3⟩
 |j+1=>by obtain⟨t,h⟩:=F7 d k j;exact⟨t++i5 (k+j) (d.l.getD (k+j) 0).toNat,by rw[<-qi,xq,h,cn]⟩
def aeX{d:bX}{k m:Nat}(u:k<7)(K:m<(d.l.getD k 0).toNat):∃L,qH d=(l6 d k++i5 k m)++⟨(k:Int),(m:Int)+1⟩::L:=by obtain⟨t,h⟩:=F7 d (k+1) (7-(k+1));obtain⟨L,N⟩:=ae7 (U:=k) K;refine⟨L++t,?_⟩;unfold qH;rw[show 7=k+1+(7-(k+1)) by omega,h,xq,N];simp
def agx(d:bX):ar prog 272 [A d.c] [] (λv J=>∃q,v=.func (.func 284) #[] #[aw q 0]/\J=[cells q 50 d.c]):=by refine aE func272 λW=>?_;refine aq 2 λl=>?_;exact aP 11
def afw(x:ag):ab aj:=[A x.c]
def Ml(q:Nat)(d:bX)(w:fB d 7=true):rm prog 284 [aw q 0] [cells q 50 d.c] afw (qH d) [cells q 50 d.c]:=by
 intro l M G X S D Z P;refine aE func284 λW=>?_;refine aa 7 ?_;refine ah.cp [6,0,1] (λy:Nat×M=>y.1<=7/\G (l6 d y.1) y.2) (λy=>[(7,I (y.1:Int))]) (λy=>[S y.2]) (λy=>7-y.1) (0,D) ⟨ac,Z⟩ ?_;rintro⟨k,h⟩⟨u,E⟩ K n;dsimp only at u E;refine bl ?_;by_cases Y:k<7
 .obtain⟨num,a⟩:∃m,d.l[k]?=some m:=⟨_,hs (by rw[bX.UE];exact Y)⟩
  have U:=bX.Yd a;have R:=rA.1 w k num a;simp only[jK,c5,iL,dl]at R;obtain⟨m,rfl⟩:=rt R.1.1;have N:(d.l.getD k 0).toNat=m:=by rw[List.getD,a];rfl
  refine aa 14 ?_;refine ai.v (V.Wq ad rfl rfl U Y) ?_;refine aa 10 ?_;rotate_left;refine ah.cp [4,3,7,6,0,1] (λy:Nat×M=>y.1<=m/\G (l6 d k++i5 k y.1) y.2) (λy=>[(5,I ((y.1:Int)+1))]) (λy=>[S y.2]) (λy=>m-y.1) (0,h) ⟨ac,by simpa[i5]using E⟩ ?_;rintro⟨j,F⟩⟨b,J⟩ T r;dsimp only at b J;refine bl ?_;by_cases i:j<m
  .obtain⟨L,z⟩:=aeX (d:=d) Y (show j<(d.l.getD k 0).toNat by omega);have Q:=P _ _ L F z J;refine aa 19 ?_;refine ai.o (av.Vd rfl rfl (Q) Uc ?_);rintro x oF⟨f,t,rfl,p,s,rfl⟩;refine Pm (λC=>?_) λC=>?_;refine aa 10 ?_
   .exact⟨_,_,⟨_,.inr ⟨(l6 d k++i5 k j)++[⟨(k:Int),(j:Int)+1⟩],⟨L,by rw[z];simp⟩,Ks⟩,rfl⟩,Uc⟩
   refine aa 8 ?_;rotate_left;refine Out.z' r (j+1,_) ?_ (by show m-(j+1)<m-j;omega);exact ⟨SB,by show G (l6 d k++i5 k (j+1)) _;rw[F6,<-cn];apply_assumption;assumption⟩
  .obtain rfl:j=m:=by omega
   clear r;refine aa 19 ?_;refine Out.z' n (k+1,F) ?_ Qk;exact ⟨NC,by show G (l6 d (k+1)) F;rw[xq,N];exact J⟩
 .obtain rfl:k=7:=by omega
  clear n;refine aa 12 ?_
  .exact⟨_,_,⟨h,.inl E,rfl⟩,Uc⟩
def F8(s:Nat)(L:hN)(g:bs)(h:g.ok)(x:ag):ar prog 221 [aw s 0,A x.c] [hO s L g] (λr J=>r=B (g.is x)/\J=[hO s L g]):=ar.Wx (aiB s L g h x)
def F9(s:Nat)(L:hN)(g:bs)(h:g.ok)(x:ag):ar prog 222 [aw s 0,A x.c] [hO s L g] (λr J=>r=B (g.over x)/\J=[hO s L g]):=ar.Wx (F2 s L g h x)
def ac8(s:Nat)(L:hN)(g:bs)(h:g.ok)(x:ag):ar prog 161 [aw s 0,A x.c] [hO s L g] (λr J=>r=.tuple #[A (g.call x).c,B (g.is x)]/\J=[hO s L g]):=ar.Wx (Mb s L g h x)
def ahC(s:Nat)(L:hN)(g:bs)(h:g.ok)(x:ag)(c:aN):ar prog 106 [aw s 0,A x.c,A c.c] [hO s L g] (λr J=>∃T,r=B (g.U3 x c)/\J=[hO s T (g.UF x c)]):=ar.Zu (aeE s L g h x c)
def agZ(s:Nat)(L:hN)(g:bs)(h:g.ok)(x y:ag):ar prog 273 [aw s 0,A x.c,A y.c] [hO s L g] (λr J=>r=I (g.Ww x y)/\J=[hO s L g]):=ar.Wx (afk s L g h x y)
def bs.waits(g:bs)(x:ag):ab ag:=(qH (g.call x).eG).filter λy=>decide (y≠x)&&!g.over y
def bs.g1(g:bs):Prop:=∀x,fB (g.call x).eG 7=true
def bs.aba(n:Int):(bs.new n).g1:=λx=>by
 unfold bs.call bs.new;dsimp only;rw[aJ.Vw];show fB bX.z 7=true
 decide
def bs.xr{g:bs}(h:g.ok)(G:g.g1)(x:ag)(c:aN):(g.UF x c).g1:=by
 unfold bs.UF;split
 .rename_i q;intro y;unfold bs.call;dsimp only;rw[aJ.U5 h.c];simp only[bs.U3,c5]at q;split
  .exact q.1
  .exact G y
 .exact G
def bs.abb{g:bs}(G:g.g1)(Z:ab ag):(g.hg Z).g1:=G
def Ga{d:bX}(w:fB d 7=true):∀k,k<=7->(l6 d k).length<=64*k
 |0,_=>by simp[l6]
 |k+1,h=>by
  have o:=Ga w k ac;rw[xq,b2];have:(i5 k (d.l.getD k 0).toNat).length=(d.l.getD k 0).toNat:=by simp[i5]
  obtain⟨num,a⟩:∃m,d.l[k]?=some m:=⟨_,hs TD⟩
  have G:=rA.1 w k num a;simp only[jK,c5,iL,dl]at G;have e:d.l.getD k 0=num:=by rw[List.getD,a];rfl
  rw[e]at this;rw[e];omega
def Gb{d:bX}(w:fB d 7=true):(qH d).length<=448:=Ga w 7 ac
theorem bs.WU{g:bs}(G:g.g1)(x:ag):(g.waits x).length<=448:=jy (sP _ _) (Gb (G x))
def agd(P s:Nat)(L:hN)(g:bs)(h:g.ok)(G:g.g1)(x:ag)(W:jn)(M:W.graph=aw s 0):ar prog 255 [aw P 0,A x.c] (cells P 343 W.c::iw s L g) (λr J=>∃v,r=v/\J=rows ag.c v 46 2 (g.waits x)::cells P 343 W.c::iw s L g):=by
 obtain⟨Gc,Q,oo,m2,Gd,aey,afh,agP⟩:=W;dsimp only at M;subst M;have b:=xa L.na L.C.ia L.C.us g.calls x h.c.towf L.C.dU L.C.hu;have q (y:ag):=F2 s L g h y;have j:∃i:Bool,w9 (g.calls.at x)=.tuple #[A (g.call x).c,B i]:=by
  unfold bs.call;cases g.calls.at x
  .exact⟨false,rfl⟩
  .exact⟨true,rfl⟩
 obtain⟨i,acy⟩:=j;rw[acy]at b;have n:=G x;unfold bs.waits;generalize g.call x=c at*;have nb:=agx c.eG;unfold iw at*;refine aE func255 λW=>?_;refine aa 2 ?_;refine ai.o (O.UQ (λR=>?_));refine aq 0 λT=>?_;refine aa 3 ?_;refine ah.mt [4,3,2] (λ_:Nat=>True) (λp=>[(5,aw p 0)]) (λp=>[cells p 52 c.c]) ?_ ?_
 .intro fM w;refine ah.n' ?_ aB.j.j.j.j.d'.d';refine ae 3 0 ?_;refine ae 1 7 ?_;refine af.bv 3 12 rfl rfl ?_ ?_;refine av.x' (V.C' ad) ?_;refine au ?_;refine ae 2 4 ?_;refine af.bv 6 12 rfl rfl ?_ ?_;refine av.x' (V.C' ad) ?_;refine au ?_;refine af.bv 8 12 rfl rfl ?_ ?_;refine av.Z' rfl (b) Uc ?_;refine R1 λz=>?_;refine au ?_;rotate_left;refine O.N' ad (λz=>?_);refine au ?_;refine af.p' 8 rfl rfl (b) ?_;refine Sc ?_;rotate_left;refine O.N' ad (λz=>?_);refine au ?_;refine ae 1 6 ?_;refine af.p' 8 rfl rfl (b) ?_;refine Sc ?_;rotate_left;refine O.N' ad (λz=>?_);refine au ?_;refine ae 4 3 ?_;refine af.p' 8 rfl rfl (b) ?_;refine Sc ?_;rotate_left;all_goals exact Out.z' w _ trivial trivial
 rintro z-;refine bl ?_;refine aq 2 λu=>?_;refine aa 8 ?_;rintro _ _⟨Yg,rfl,rfl⟩;refine aa 4 ?_;refine ah.Ur ag.c 46 2 ?_;refine ah.rg (Ml _ c.eG n) (λy:aj×ab ag=>[cells u 98 [y.1],rows ag.c y.1 46 2 y.2,cells R 340 [aw P 0],cells T 46 x.c,cells P 343 (jn.c ⟨aw s 0,Q,oo,m2,Gd,aey,afh,agP⟩),cells s 260 (pF.c ⟨aw L.na 0,aw L.qF 0⟩),ze L.na L.C g.calls,xo L.qF L.D g.done])
  (λpre y=>y.2=(pre.filter λy=>decide (y≠x)&&!g.over y)/\y.1.oneCell'=true) (λ_ _ _=>False) (.slice none 0 0,[]) ⟨rfl,rfl⟩ ?_ ?_ ?_
 .rintro pre y U⟨f,E⟩ cp rec F⟨Z,a⟩ c1 eI jk zf t;dsimp only at Z a;have Yc:E.length<=448:=by have X:=Gb n;rw[F,b2]at X;have cd:=sP (λy=>decide (y≠x)&&!g.over y) pre;rw[Z];omega
  have d:=q y;have N (k:Nat):=ag.R' y x k;refine bl ?_;by_cases m:y=x
  .rw[ic m]at N;refine aq 1 λK=>?_;refine aa 5 ?_;refine ah.n' ?_ aB.d'.d'.j.j.d'.d'.d'.j.d'.d';refine ae 4 0 ?_;refine bE 28 ?_;refine ae 8 4 ?_;refine aa 5 ?_;exact Out.rd t (_,E) ⟨by rw[Z,nH];simp[m],a⟩
  .rw[lg m]at N;cases l:g.over y<;>rw[l]at d
   .refine Tp λK=>?_;refine aq 6 λYf=>?_;refine ai.o (O.U' ad rfl rfl T8 (cq.one ad T1 ag.F') (λYe Y=>?_));refine aa 3 ?_;rotate_left;refine Out.rd t (_,E++[y]) ⟨by rw[Z,nH];simp[m,l],?_⟩;rfl
   .refine Tp λK=>?_;refine aa 5 ?_;rotate_left;exact Out.rd t (_,E) ⟨by rw[Z,nH];simp[m,l],a⟩
 .rintro⟨f,E⟩ hV⟨Z,a⟩;dsimp only at Z a;subst Z;refine bl ?_;exact aP 10
 exact Sw
end Go.Proofs.YteogojgnkjegmaaGreatDoor
section
class Go.ay.b4 where
 o:Option Go.Obj
end
namespace Go.Proofs.YteogojgnkjegmaaGreatDoor
open Go.ay Go.Proofs.Tryz
variable[Go.ay.b4]
variable{n:Int}{m:aD}{k:Nat}
def i6(k:Nat):Bool:=k==1||k==2||k==3||k==5||k==7
def ig(k:Nat):Bool:=k==7
def xt:ab (ab aj):=(List.range 9).map λk=>[B (i6 k),B (ig k)]
def xu(h:k<9):xt[k]?=some [B (i6 k),B (ig k)]:=by unfold xt;rw[h9,List.getElem?_range h];rfl
def cJ:ax where
 gk:=[0]
 holds w:=w.heap[0]?=b4.o/\sc w 0 0 2 xt
 loc w iI h cG:=by refine⟨by rw[h 0 T3];exact cG.1,?_⟩;intro i x b3;obtain⟨bg,bY⟩:=cG.2 i x b3;refine⟨bg,λj u hu=>?_⟩;have:=bY j u hu;unfold Go.World.cell? at this⊢;rw[h 0 T3];exact this
 lt w h x b3:=by
  obtain rfl:x=0:=SZ
  have:=(h.2 0 _ (xu ac)).2 0 (B (i6 0)) rfl;unfold Go.World.cell? at this;cases ix:w.heap[0]? with
  |none=>rw[ix]at this;cases this
  |some o=>exact(o4.1 ix).1
def ae6:Rd cJ (some ⟨0,0,none⟩) 9 0 0 2 xt:=⟨rfl,T6,λ_=>rfl,λ_ h=>h.2⟩
structure hx(m:aD)(n:Int):Prop where
 gF:1<=m.Kind
 g2:m.Kind<=8
 f1:0<=m.bh
 f2:m.bh<n
 t1:0<=m.bK
 t2:m.bK<n
 item:bq m.Item n=true
 bj:cH m.bB n=true
 call:if i6 m.Kind.toNat then eJ m.Call n=true else m.Call=aN.z
 bare:ig m.Kind.toNat=false->m.b0=bm.z/\m.Status=0
 same:m.cL=true->m.Kind=2\/ig m.Kind.toNat=true
 known:ig m.Kind.toNat=true->cH m.b0 n=true/\0<=m.Status/\m.Status<=3/\(m.Status=0->m.b0=bm.z/\m.Call=aN.z/\m.cL=false)
open Classical in
noncomputable def c3(m:aD)(n:Int):Bool:=decide (hx m n)
def cz{t:Bool}(h:t=true↔hx m n):B t=B (c3 m n):=by
 unfold c3;congr 1;by_cases p:hx m n
 .simp[p,h.2 p]
 .cases t with
  |false=>simp[p]
  |true=>exact absurd (h.1 rfl) p
def ajG(h:¬hx m n):B false=B (c3 m n):=cz (by simp[h])
def adS:hx m n↔(1<=m.Kind/\m.Kind<=8)/\(0<=m.bh/\m.bh<n)/\(0<=m.bK/\m.bK<n)/\bq m.Item n=true/\cH m.bB n=true/\(if i6 m.Kind.toNat then eJ m.Call n=true else m.Call=aN.z)/\(ig m.Kind.toNat=false->m.b0=bm.z/\m.Status=0)/\(m.cL=true->m.Kind=2\/ig m.Kind.toNat=true)/\(ig m.Kind.toNat=true->cH m.b0 n=true/\(0<=m.Status/\m.Status<=3)/\(m.Status=0->m.b0=bm.z/\m.Call=aN.z/\m.cL=false)):=
 ⟨λh=>⟨⟨h.gF,h.g2⟩,⟨h.f1,h.f2⟩,⟨h.t1,h.t2⟩,h.item,h.bj,h.call,h.bare,h.same,λu=>⟨(h.known u).1,⟨(h.known u).2.1,(h.known u).2.2.1⟩,(h.known u).2.2.2⟩⟩,
  λ⟨Y,N,R,Z,a,M,y,U,x⟩=>⟨Y.1,Y.2,N.1,N.2,R.1,R.2,Z,a,M,y,U,λu=>⟨(x u).1,(x u).2.1.1,(x u).2.1.2,(x u).2.2⟩⟩⟩
def zg(m:aD)(n:Int):ar prog 121 [A m.c,I n] [cJ] (λr Yc=>r=B (c3 m n)/\Yc=[cJ]):=by
 by_cases cc:1<=m.Kind/\m.Kind<=8
 .obtain⟨k,Ye⟩:∃k:Nat,m.Kind=(k:Int):=⟨m.Kind.toNat,ac⟩
  have G:=xu (k:=k) ac;have ao:=m7 m.Item n;have X:=y0 m.bB n;have L:=y0 m.b0 n;have q:=FZ m.Call n;have D:m.Kind.toNat=k:=ac
  refine aE func121 λW=>?_;refine aq 2 λoG=>?_;refine aa 22 ?_;refine ai.aY (λZm=>?_) (λZm=>?_);refine aa 27 ?_
  exact Ue
  refine KJ (λZn=>?_) λZn=>?_;refine aa 21 ?_
  exact Ue
  refine T0 (λZo=>?_) λZo=>?_;refine aa 16 ?_
  exact Ue
  refine aa 7 ?_;refine Pr (λZp=>?_) λZp=>?_
  exact Ue
  refine aa 8 ?_;refine ai.o (av.fn rfl (ao) ?_);refine aa 2 ?_;refine ai.aY (λZq=>?_) (λZq=>?_);refine aa 17 ?_
  exact Ue
  refine aa 8 ?_;refine Pr (λZr=>?_) λZr=>?_
  exact Ue
  refine aa 6 ?_;refine ai.v (V.Us ad (k:=k) rfl rfl Ye) ?_;refine OU λl5=>?_;refine aa 11 ?_;refine ai.aY (λZs=>?_) (λZs=>?_);refine aa 3 ?_;refine ai.v (V.ne (aN.R' _ _ _)) ?_;refine aa 4 ?_;refine P5 (λZt=>?_) λZt=>?_
  exact Ue
  refine T0 (λu=>?_) λu=>?_;exact absurd (iy (ih u) TX:true=false) T6;refine aa 16 ?_;refine ai.aY (λF=>?_) (λF=>?_);refine aa 3 ?_;refine ai.v (V.ne (bm.R' _ _ _)) ?_;refine au ?_;refine ai.aY (λT=>?_) (λT=>?_);refine aa 18 ?_
  exact Ue
  refine aa 8 ?_;refine P5 (λYf=>?_) λYf=>?_
  exact Ue
  refine aa 5 ?_;refine Ud (λYg Yh=>?_) (λYg Yh=>?_) λYg=>?_;refine aa 7 ?_;refine P5 (λE=>?_) λE=>?_
  exact Ue
  exact absurd (iy (ih E) TX:true=false) T6;refine aa 16 ?_;refine P5 (λQ=>?_) λQ=>?_
  exact Ue
  exact absurd (iy (ih Q) TX:true=false) T6;refine aa 21 ?_;refine P5 (λR=>?_) λR=>?_
  exact Ue
  exact absurd (iy (ih R) TX:true=false) T6;refine aa 19 ?_;refine Ud (λYi Yj=>?_) (λYi Yj=>?_) λYi=>?_;refine aa 7 ?_;refine Nd λf=>?_;refine aa 8 ?_;refine KK (λt Yk=>?_) λt Yk=>?_;refine aa 17 ?_;refine Ud (λYl Ym=>?_) (λYl Ym=>?_) λYl=>?_;refine Lg (λYn Yo=>?_) (λYn Yo=>?_) λYn=>?_
  exact Ue
  refine aa 8 ?_
  exact Ue
  refine aa 12 ?_
  exact Ue
  refine aa 17 ?_
  exact Ue
  refine aa 22 ?_
  exact Ue
  refine aa 20 ?_;refine Ud (λYp Yq=>?_) (λYp Yq=>?_) λYp=>?_;refine Lg (λYr Ys=>?_) (λYr Ys=>?_) λYr=>?_
  exact Ue
  refine aa 8 ?_
  exact Ue
  refine aa 12 ?_
  exact Ue
  refine aa 17 ?_
  exact Ue
  refine aa 22 ?_
  exact Ue
  refine aa 16 ?_;refine KK (λg Yt=>?_) λg Yt=>?_;refine aa 17 ?_;refine Ud (λYu Yv=>?_) (λYu Yv=>?_) λYu=>?_;refine Lg (λYw Yx=>?_) (λYw Yx=>?_) λYw=>?_
  exact Ue
  refine aa 8 ?_
  exact Ue
  refine aa 12 ?_
  exact Ue
  refine aa 17 ?_
  exact Ue
  refine aa 22 ?_
  exact Ue
  refine aa 20 ?_;refine Ud (λYy Yz=>?_) (λYy Yz=>?_) λYy=>?_;refine Lg (λYA YB=>?_) (λYA YB=>?_) λYA=>?_
  exact Ue
  refine aa 8 ?_
  exact Ue
  refine aa 12 ?_
  exact Ue
  refine aa 17 ?_
  exact Ue
  refine aa 22 ?_
  exact Ue
  refine aa 21 ?_;refine KK (λd YC=>?_) λd YC=>?_;refine aa 17 ?_;refine Ud (λYD YE=>?_) (λYD YE=>?_) λYD=>?_;refine Lg (λYF YG=>?_) (λYF YG=>?_) λYF=>?_
  exact Ue
  refine aa 8 ?_
  exact Ue
  refine aa 12 ?_
  exact Ue
  refine aa 17 ?_
  exact Ue
  refine aa 22 ?_
  exact Ue
  refine aa 20 ?_;refine Ud (λYH YI=>?_) (λYH YI=>?_) λYH=>?_;refine Lg (λYJ YK=>?_) (λYJ YK=>?_) λYJ=>?_
  exact Ue
  refine aa 8 ?_
  exact Ue
  refine aa 12 ?_
  exact Ue
  refine aa 17 ?_
  exact Ue
  refine aa 22 ?_
  exact Ue
  refine aa 14 ?_;refine ai.aY (λz=>?_) (λz=>?_);refine aa 9 ?_;refine P5 (λYL=>?_) λYL=>?_
  exact Ue
  refine KJ (λYM=>?_) λYM=>?_;refine aa 3 ?_;refine ai.v (V.ne (bm.R' _ _ _)) ?_;refine au ?_;refine ai.aY (λYN=>?_) (λYN=>?_);refine aa 18 ?_
  exact Ue
  refine aa 8 ?_;refine P5 (λYO=>?_) λYO=>?_
  exact Ue
  refine aa 5 ?_;refine Ud (λYP YQ=>?_) (λYP YQ=>?_) λYP=>?_;refine aa 7 ?_;refine P5 (λP=>?_) λP=>?_
  exact Ue
  exact absurd (iy (ih P) TX:true=false) T6;refine aa 16 ?_;refine P5 (λj=>?_) λj=>?_
  exact Ue
  exact absurd (iy (ih j) TX:true=false) T6;refine aa 21 ?_;refine P5 (λw=>?_) λw=>?_
  exact Ue
  exact absurd (iy (ih w) TX:true=false) T6;refine aa 19 ?_;refine Ud (λYR YS=>?_) (λYR YS=>?_) λYR=>?_;refine aa 7 ?_;refine Nd λa=>?_;refine aa 8 ?_;refine KK (λp YT=>?_) λp YT=>?_;refine aa 2 ?_;refine R3 (λYU=>?_) λYU=>?_;refine Ud (λYV YW=>?_) (λYV YW=>?_) λYV=>?_;refine Lg (λYX YY=>?_) (λYX YY=>?_) λYX=>?_
  exact Ue
  refine aa 8 ?_
  exact Ue
  refine aa 12 ?_
  exact Ue
  refine aa 17 ?_
  exact Ue
  refine aa 22 ?_
  exact Ue
  refine aa 14 ?_;refine Ud (λYZ Y0=>?_) (λYZ Y0=>?_) λYZ=>?_;refine Lg (λY1 Y2=>?_) (λY1 Y2=>?_) λY1=>?_
  exact Ue
  refine aa 8 ?_
  exact Ue
  refine aa 12 ?_
  exact Ue
  refine aa 17 ?_
  exact Ue
  refine aa 22 ?_
  exact Ue
  refine aa 20 ?_;refine Ud (λY3 Y4=>?_) (λY3 Y4=>?_) λY3=>?_;refine Lg (λY5 Y6=>?_) (λY5 Y6=>?_) λY5=>?_
  exact Ue
  refine aa 8 ?_
  exact Ue
  refine aa 12 ?_
  exact Ue
  refine aa 17 ?_
  exact Ue
  refine aa 22 ?_
  exact Ue
  refine aa 16 ?_;refine KK (λy Y7=>?_) λy Y7=>?_;refine aa 2 ?_;refine R3 (λY8=>?_) λY8=>?_;refine Ud (λY9 Za=>?_) (λY9 Za=>?_) λY9=>?_;refine Lg (λZb Zc=>?_) (λZb Zc=>?_) λZb=>?_
  exact Ue
  refine aa 8 ?_
  exact Ue
  refine aa 12 ?_
  exact Ue
  refine aa 17 ?_
  exact Ue
  refine aa 22 ?_
  exact Ue
  refine aa 14 ?_;refine Ud (λZd Ze=>?_) (λZd Ze=>?_) λZd=>?_;refine Lg (λZf Zg=>?_) (λZf Zg=>?_) λZf=>?_
  exact Ue
  refine aa 8 ?_
  exact Ue
  refine aa 12 ?_
  exact Ue
  refine aa 17 ?_
  exact Ue
  refine aa 22 ?_
  exact Ue
  refine aa 20 ?_;refine Ud (λZh Zi=>?_) (λZh Zi=>?_) λZh=>?_;refine Lg (λZj Zk=>?_) (λZj Zk=>?_) λZj=>?_
  exact Ue
  refine aa 8 ?_
  exact Ue
  refine aa 12 ?_
  exact Ue
  refine aa 17 ?_
  exact Ue
  refine aa 22 ?_
  exact Ue
  refine aa 21 ?_;refine KK (λb Zl=>?_) λb Zl=>?_;refine aa 2 ?_;refine R3 (λi=>?_) λi=>?_;refine Ud (λl s=>?_) (λl s=>?_) λl=>?_;refine Lg (λh x=>?_) (λh x=>?_) λh=>?_
  exact Ue
  refine aa 8 ?_
  exact Ue
  refine aa 12 ?_
  exact Ue
  refine aa 17 ?_
  exact Ue
  refine aa 22 ?_
  exact Ue
  refine aa 14 ?_;refine Ud (λY U=>?_) (λY U=>?_) λY=>?_;refine Lg (λJ Z=>?_) (λJ Z=>?_) λJ=>?_
  exact Ue
  refine aa 8 ?_
  exact Ue
  refine aa 12 ?_
  exact Ue
  refine aa 17 ?_
  exact Ue
  refine aa 22 ?_
  exact Ue
  refine aa 20 ?_;refine Ud (λN M=>?_) (λN M=>?_) λN=>?_;refine Lg (λC K=>?_) (λC K=>?_) λC=>?_
  exact Ue
  refine aa 8 ?_
  exact Ue
  refine aa 12 ?_
  exact Ue
  refine aa 17 ?_
  exact Ue
  refine aa 22 ?_
  exact Ue
  exact absurd (iy (ih z) TX:false=true) T6
 .refine aE func121 λW=>?_;refine aq 2 λoG=>?_;refine NG (λm=>?_) λm=>?_;refine aa 37 ?_
  exact J4
  refine aa 38 ?_
  exact J4
def nI(m:aD):ab aS:=if ig m.Kind.toNat then ie m.b0++bG m.Status else[]
def lD(m:aD):ab aS:=if ig m.Kind.toNat||m.Kind==2 then bG (if m.cL then 1 else 0)else[]
def kR(m:aD):ab aS:=if i6 m.Kind.toNat then j2 m.Call else[]
def hZ(m:aD):ab aS:=bG m.Kind++(bG m.bh++(bG m.bK++(jJ m.Item++(ie m.bB++(nI m++(lD m++kR m))))))
def Gf(Y:1<=k)(N:k<=8):(k=7)\/(k=2)\/(k≠7/\k≠2/\i6 k=true/\ig k=false)\/(k≠7/\k≠2/\i6 k=false/\ig k=false):=by rcases(by omega:k=1\/k=2\/k=3\/k=4\/k=5\/k=6\/k=7\/k=8)with h|h|h|h|h|h|h|h<;>subst h<;>decide
def vw{b:bm}(h:cH b n=true)(a:n<=1000):(ie b).length<=18:=by obtain⟨Y,N,R,Z⟩:=kn h;have E:=fU (n:=b.Round) ac;have i:=fU (n:=b.a1) ac;unfold ie;rw[b2];omega
def tQ{x:ag}(h:bq x n=true):0<=x.a1/\x.a1<n/\1<=x.bT/\x.bT<=64:=by simp only[bq,c5,dl]at h;omega
def BN{x:ag}(h:bq x n=true)(a:n<=1000):(jJ x).length<=18:=by obtain⟨Y,N,R,Z⟩:=tQ h;have E:=fU (n:=x.bT) ac;have i:=fU (n:=x.a1) ac;unfold jJ;rw[b2];omega
def pS{x:ag}{m:Int}(h:bq x n=true)(a:n<=m):bq x m=true:=by have:=tQ h;simp only[bq,c5,dl];omega
def pT{x:bm}{m:Int}(h:cH x n=true)(a:n<=m):cH x m=true:=by have:=kn h;simp only[cH,dl];omega
def Mu(b:Nat)(v:aj)(m:aD)(n:Int)(a:n<=7)(h:hx m n):ar prog 122 [aw b 0,A m.c] [cells b 231 (gd.c ⟨v⟩),rows dt v 5 1 [],cJ] (λr Z=>∃t,r=.tuple #[]/\Z=[cells b 231 (gd.c ⟨t⟩),rows dt t 5 1 (hZ m),cJ]):=by
 obtain⟨k,X⟩:∃k:Nat,m.Kind=(k:Int):=⟨m.Kind.toNat,by have:=h.gF;omega⟩
 have D:m.Kind.toNat=k:=ac
 have gF:=h.gF;have g2:=h.g2;have f1:=h.f1;have f2:=h.f2;have t1:=h.t1;have t2:=h.t2;have G:=xu (k:=k) ac;obtain⟨zh,vx,ab3,acg⟩:=tQ h.item;obtain⟨x,Q,L,y⟩:=kn h.bj;refine Sq λR U p qI Mv Mw=>?_;rcases Gf (k:=k) ac ac with e|e|⟨s,Y,z,M⟩|⟨s,Y,z,M⟩
 .subst e;obtain⟨f,g,v3,v4⟩:=h.known (by rw[D];rfl);obtain⟨j,oo,m2,Gd⟩:=kn f;have afs:=vw f ac;have ado:=fU (n:=m.Status) ac;have q:eJ m.Call n=true:=by have:=h.call;rw[D]at this;simpa[i6]using this
  have u (v:aj) (K:ab aS) (T:K.length<=600000):=zc b v K m.Call n q T;have e:[]++(bG m.Kind++(bG m.bh++bG m.bK))++jJ m.Item++ie m.bB++ie m.b0++bG m.Status++bG (if m.cL then 1 else 0)++j2 m.Call=hZ m:=by simp[hZ,nI,lD,kR,D,i6,ig,cn]
  rw[<-e];simp only[show i6 7=true from rfl,show ig 7=true from rfl]at G;refine RM λW i w=>?_;refine ai.p' rfl (xm _ _ _ _ _ _ _ ?_ ?_ ?_ ?_) ?_;iterate 4 exact cf
  rintro _ _⟨J,rfl,rfl⟩;refine aa 8 ?_;refine ai.p' rfl (xk _ _ _ _ ?_ ?_ ?_) ?_;iterate 3 exact cf
  rintro _ _⟨d,rfl,rfl⟩;refine aa 8 ?_;refine ai.p' rfl (tL _ _ _ _ ?_ ?_ ?_) ?_;iterate 3 exact cf
  rintro _ _⟨N,rfl,rfl⟩;refine aa 7 ?_;refine ai.v (V.Us ad (k:=7) rfl rfl X) ?_;refine OU λC=>?_;refine aa 16 ?_;refine ai.p' rfl (tL _ _ _ _ ?_ ?_ ?_) ?_;iterate 3 exact cf
  rintro _ _⟨E,rfl,rfl⟩;refine aq 7 λo=>?_;refine ai.p' rfl (qB _ _ _ _ _ ?_ ?_) ?_;iterate 2 exact cf
  rintro _ _⟨P,rfl,rfl⟩;refine aa 20 ?_;exact Kk
 .subst e;have q:eJ m.Call n=true:=by have:=h.call;rw[D]at this;simpa[i6]using this
  have u (v:aj) (K:ab aS) (T:K.length<=600000):=zc b v K m.Call n q T;have e:[]++(bG m.Kind++(bG m.bh++bG m.bK))++jJ m.Item++ie m.bB++bG (if m.cL then 1 else 0)++j2 m.Call=hZ m:=by simp[hZ,nI,lD,kR,D,show m.Kind=2 from X,i6,ig,cn]
  rw[<-e];simp only[show i6 2=true from rfl,show ig 2=false from rfl]at G;refine RM λW i w=>?_;refine ai.p' rfl (xm _ _ _ _ _ _ _ ?_ ?_ ?_ ?_) ?_;iterate 4 exact cf
  rintro _ _⟨J,rfl,rfl⟩;refine aa 8 ?_;refine ai.p' rfl (xk _ _ _ _ ?_ ?_ ?_) ?_;iterate 3 exact cf
  rintro _ _⟨d,rfl,rfl⟩;refine aa 8 ?_;refine ai.p' rfl (tL _ _ _ _ ?_ ?_ ?_) ?_;iterate 3 exact cf
  rintro _ _⟨N,rfl,rfl⟩;refine aa 7 ?_;refine ai.v (V.Us ad (k:=2) rfl rfl X) ?_;refine OU λC=>?_;refine aa 30 ?_;exact Kk
 .have q:eJ m.Call n=true:=by have:=h.call;rw[D,z]at this;simpa using this
  have u (v:aj) (K:ab aS) (T:K.length<=600000):=zc b v K m.Call n q T;have e:[]++(bG m.Kind++(bG m.bh++bG m.bK))++jJ m.Item++ie m.bB++j2 m.Call=hZ m:=by
   have:¬m.Kind=2:=ac
   simp[hZ,nI,lD,kR,D,z,M,cn,this]
  rw[<-e];simp only[z,M]at G;refine RM λW i w=>?_;refine ai.p' rfl (xm _ _ _ _ _ _ _ ?_ ?_ ?_ ?_) ?_;iterate 4 exact cf
  rintro _ _⟨J,rfl,rfl⟩;refine aa 8 ?_;refine ai.p' rfl (xk _ _ _ _ ?_ ?_ ?_) ?_;iterate 3 exact cf
  rintro _ _⟨d,rfl,rfl⟩;refine aa 8 ?_;refine ai.p' rfl (tL _ _ _ _ ?_ ?_ ?_) ?_;iterate 3 exact cf
  rintro _ _⟨N,rfl,rfl⟩;refine aa 7 ?_;refine ai.v (V.Us ad (k:=k) rfl rfl X) ?_;refine OU λC=>?_;refine aa 39 ?_;refine ai.p' rfl (u _ _ ?_) ?_;exact cf;rintro _ _⟨F,rfl,rfl⟩;exact aP 3
 .have e:[]++(bG m.Kind++(bG m.bh++bG m.bK))++jJ m.Item++ie m.bB=hZ m:=by
   have:¬m.Kind=2:=ac
   simp[hZ,nI,lD,kR,D,z,M,cn,this]
  rw[<-e];simp only[z,M]at G;refine RM λW i w=>?_;refine ai.p' rfl (xm _ _ _ _ _ _ _ ?_ ?_ ?_ ?_) ?_;iterate 4 exact cf
  rintro _ _⟨J,rfl,rfl⟩;refine aa 8 ?_;refine ai.p' rfl (xk _ _ _ _ ?_ ?_ ?_) ?_;iterate 3 exact cf
  rintro _ _⟨d,rfl,rfl⟩;refine aa 8 ?_;refine ai.p' rfl (tL _ _ _ _ ?_ ?_ ?_) ?_;iterate 3 exact cf
  rintro _ _⟨N,rfl,rfl⟩;refine aa 7 ?_;refine ai.v (V.Us ad (k:=k) rfl rfl X) ?_;refine OU λC=>?_;exact aP 37
def aia(b:Nat)(m:aD)(n:Int)(a:n<=7)(h:hx m n):ar prog 131 [aw b 0] [cells b 306 (eU.c ⟨hZ m,false⟩),cJ] (λr J=>r=A m.c/\J=[cells b 306 (eU.c ⟨[],false⟩),cJ]):=by
 obtain⟨k,T⟩:∃k:Nat,m.Kind=(k:Int):=⟨m.Kind.toNat,by have:=h.gF;omega⟩
 have D:m.Kind.toNat=k:=ac
 have gF:=h.gF;have g2:=h.g2;have f1:=h.f1;have f2:=h.f2;have t1:=h.t1;have t2:=h.t2;have G:=xu (k:=k) ac;have sz:=pS h.item a;have d:=pT h.bj a;refine Sq λg R o qI Mv Mw=>?_;have Z:=h.call;have X:=h.bare;have M:=h.same;have j:=h.known;rw[D]at Z X M j;rcases Gf (k:=k) ac ac with e|e|⟨U,F,P,N⟩|⟨U,F,P,N⟩
 .subst e;obtain⟨f,C,v3,v4⟩:=j rfl;have v0:=pT f a;have afs:=vw f ac;have ado:=fU (n:=m.Status) ac;have q:eJ m.Call n=true:=by simpa[i6]using Z
  have w:=zb q;have u (i:ab aS) (t:i.length<=1000000):=zd b m.Call n i q t;have e:bG m.Kind++(bG m.bh++(bG m.bK++(jJ m.Item++(ie m.bB++(ie m.b0++(bG m.Status++(bG (if m.cL then 1 else 0)++(j2 m.Call++[]))))))))=hZ m:=by simp[hZ,nI,lD,kR,D,i6,ig,cn]
  rw[<-e];clear e;simp only[show i6 7=true from rfl,show ig 7=true from rfl]at G;refine Sg λW p=>?_;refine ai.p' rfl (jp _ _ _ _ ?_ ?_ ?_ ?_) ?_;iterate 4 exact cf
  refine aa 2 ?_;refine ai.p' rfl (jp _ _ _ _ ?_ ?_ ?_ ?_) ?_;iterate 4 exact cf
  refine aa 2 ?_;refine ai.p' rfl (jp _ _ _ _ ?_ ?_ ?_ ?_) ?_;iterate 4 exact cf
  refine aa 2 ?_;refine ai.p' rfl (xl _ _ _ ?_ ?_) ?_;iterate 2 exact cf
  refine aa 2 ?_;refine ai.p' rfl (tM _ _ _ ?_ ?_) ?_;iterate 2 exact cf
  refine aq 2 λl=>?_;refine aa 7 ?_;refine ai.v (V.Us ad (k:=7) rfl rfl T) ?_;refine OU λK=>?_;refine aa 13 ?_;refine ai.p' rfl (tM _ _ _ ?_ ?_) ?_;iterate 2 exact cf
  refine aa 2 ?_;refine ai.p' rfl (jp _ _ _ _ ?_ ?_ ?_ ?_) ?_;iterate 4 exact cf
  refine aa 22 ?_;refine ai.p' rfl (BL _ _ _ ?_) ?_;exact cf;refine aa 15 ?_;refine ai.p' rfl (u _ ?_) ?_;exact cf;exact aP 13
 .subst e;obtain⟨f,C⟩:=X rfl;have q:eJ m.Call n=true:=by simpa[i6]using Z
  have w:=zb q;have u (i:ab aS) (t:i.length<=1000000):=zd b m.Call n i q t;have e:bG m.Kind++(bG m.bh++(bG m.bK++(jJ m.Item++(ie m.bB++(bG (if m.cL then 1 else 0)++(j2 m.Call++[]))))))=hZ m:=by simp[hZ,nI,lD,kR,D,show m.Kind=2 from T,i6,ig,cn]
  rw[<-e];clear e;simp only[show i6 2=true from rfl,show ig 2=false from rfl]at G;obtain⟨mk,ki,mt,y,s,fx,E,x,Y⟩:=m;dsimp only at*;subst f C;refine Sg λW p=>?_;refine ai.p' rfl (jp _ _ _ _ ?_ ?_ ?_ ?_) ?_;iterate 4 exact cf
  refine aa 2 ?_;refine ai.p' rfl (jp _ _ _ _ ?_ ?_ ?_ ?_) ?_;iterate 4 exact cf
  refine aa 2 ?_;refine ai.p' rfl (jp _ _ _ _ ?_ ?_ ?_ ?_) ?_;iterate 4 exact cf
  refine aa 2 ?_;refine ai.p' rfl (xl _ _ _ ?_ ?_) ?_;iterate 2 exact cf
  refine aa 2 ?_;refine ai.p' rfl (tM _ _ _ ?_ ?_) ?_;iterate 2 exact cf
  refine aq 2 λl=>?_;refine aa 7 ?_;refine ai.v (V.Us ad (k:=2) rfl rfl T) ?_;refine OU λK=>?_;refine aa 28 ?_;refine ai.p' rfl (BL _ _ _ ?_) ?_;exact cf;refine aa 15 ?_;refine ai.p' rfl (u _ ?_) ?_;exact cf;exact aP 13
 .obtain⟨f,C⟩:=X N;have q:eJ m.Call n=true:=by rw[P]at Z;simpa using Z
  have w:=zb q;have L:¬m.Kind=2:=ac
  have Q:m.cL=false:=by
   cases Q:m.cL with
   |false=>rfl
   |true=>
     rcases M Q with h|h
     .exact absurd h L
     .rw[N]at h;cases h
  have u (i:ab aS) (t:i.length<=1000000):=zd b m.Call n i q t;have e:bG m.Kind++(bG m.bh++(bG m.bK++(jJ m.Item++(ie m.bB++(j2 m.Call++[])))))=hZ m:=by simp[hZ,nI,lD,kR,D,P,N,cn,L]
  rw[<-e];clear e;simp only[P,N]at G;obtain⟨mk,ki,mt,y,s,fx,E,x,Y⟩:=m;dsimp only at*;subst f C Q;refine Sg λW p=>?_;refine ai.p' rfl (jp _ _ _ _ ?_ ?_ ?_ ?_) ?_;iterate 4 exact cf
  refine aa 2 ?_;refine ai.p' rfl (jp _ _ _ _ ?_ ?_ ?_ ?_) ?_;iterate 4 exact cf
  refine aa 2 ?_;refine ai.p' rfl (jp _ _ _ _ ?_ ?_ ?_ ?_) ?_;iterate 4 exact cf
  refine aa 2 ?_;refine ai.p' rfl (xl _ _ _ ?_ ?_) ?_;iterate 2 exact cf
  refine aa 2 ?_;refine ai.p' rfl (tM _ _ _ ?_ ?_) ?_;iterate 2 exact cf
  refine aq 2 λl=>?_;refine aa 7 ?_;refine ai.v (V.Us ad (k:=k) rfl rfl T) ?_;refine OU λK=>?_;refine aa 38 ?_;refine ai.p' rfl (u _ ?_) ?_;exact cf;exact aP 13
 .obtain⟨f,C⟩:=X N;have q:m.Call=aN.z:=by rw[P]at Z;simpa using Z
  have L:¬m.Kind=2:=ac
  have Q:m.cL=false:=by
   cases Q:m.cL with
   |false=>rfl
   |true=>
     rcases M Q with h|h
     .exact absurd h L
     .rw[N]at h;cases h
  have e:bG m.Kind++(bG m.bh++(bG m.bK++(jJ m.Item++(ie m.bB++[]))))=hZ m:=by simp[hZ,nI,lD,kR,D,P,N,cn,L]
  rw[<-e];clear e;simp only[P,N]at G;obtain⟨mk,ki,mt,y,s,fx,E,x,Y⟩:=m;dsimp only at*;subst f C Q q;refine Sg λW p=>?_;refine ai.p' rfl (jp _ _ _ _ ?_ ?_ ?_ ?_) ?_;iterate 4 exact cf
  refine aa 2 ?_;refine ai.p' rfl (jp _ _ _ _ ?_ ?_ ?_ ?_) ?_;iterate 4 exact cf
  refine aa 2 ?_;refine ai.p' rfl (jp _ _ _ _ ?_ ?_ ?_ ?_) ?_;iterate 4 exact cf
  refine aa 2 ?_;refine ai.p' rfl (xl _ _ _ ?_ ?_) ?_;iterate 2 exact cf
  refine aa 2 ?_;refine ai.p' rfl (tM _ _ _ ?_ ?_) ?_;iterate 2 exact cf
  refine aq 2 λl=>?_;refine aa 7 ?_;refine ai.v (V.Us ad (k:=k) rfl rfl T) ?_;refine OU λK=>?_;exact aP 46
end Go.Proofs.YteogojgnkjegmaaGreatDoor
