/-
 Part of the proof.
-/
import Derived.Test.YteogojgnkjegmaaGreatDoorAp
set_option linter.all false
set_option maxRecDepth 8000
set_option maxHeartbeats 8000000
namespace Go.Proofs.YteogojgnkjegmaaGreatDoor
open Go.az Go.Proofs.Tryz
def D4(C:aj)(E:ay)(p:ag->Bool):Prop:=∀x:ag,DI prog C [A x.c] [E] (λr J=>r=B (p x)/\J=[E])
def sH(p:ag->Bool)(l:ab ag):Int:=match l.findIdx? p with|some i=>(i:Int)|none=>-1
def ajX{p:ag->Bool}{x:ag}{l:ab ag}{i:Nat}(U:l[i]?=some x)(z:p x=true)(h:∀(j:Nat) (y:ag),j<i->l[j]?=some y->p y=false):sH p l=i:=by obtain⟨Y,rfl⟩:=cF.1 U;unfold sH;rw[wJ.2 ⟨Y,z,λj v=>by rw[h j _ v (hl ac)];decide⟩]
def aj6{p:ag->Bool}{l:ab ag}(h:∀(j:Nat) (y:ag),l[j]?=some y->p y=false):sH p l=-1:=by unfold sH;rw[yq.2];intro y C;obtain⟨j,v⟩:=tB C;exact h j y v
def ahM(e:ay)(n:aT Go.Addr)(Q X off:Nat)(l:ab ag)(f:Rd e n l.length X off 2 (l.map ag.c))(u:l.length<=1000000)(D:aj)(E:ay)(p:ag->Bool)(q:D4 D E p):ar prog 258 [.slice n l.length Q,D] [e,E] (λr J=>r=I (sH p l)/\J=[e,E]):=by
 refine aF func258 λW=>?_;refine aa 14 ?_;refine ah.cq [7,1,0] (λi:Nat=>i<=l.length/\∀(j:Nat) (y:ag),j<i->l[j]?=some y->p y=false) (λi=>[(8,I (i:Int))]) (λ_=>[]) (λi=>l.length-i) 0 ⟨cG _,λj y h=>absurd h (yo _)⟩ ?_;rintro i⟨am,t⟩ K k;refine bh ?_;by_cases s:i<l.length
 .obtain⟨y,C⟩:=cl s;have F:=q y;cases T:p y<;>rw[T]at F
  .refine aa 23 ?_;refine ai.v (V.Wb ad rfl f (kk C)) ?_;refine ai.o (aw.Wl F rfl rfl VH ?_);refine aa 10 ?_;rotate_left;refine Out.C' k (i+1) ?_ UJ;exact ⟨ac,λj z w a=>by
    by_cases b:j=i
    .subst b;rw[C]at a;rw[<-gs a];exact T
    .exact t j z ac a⟩
  .rw[ajX C T t];refine aa 23 ?_;refine ai.v (V.Wb ad rfl f (kk C)) ?_;refine ai.o (aw.Wl F rfl rfl VH ?_);exact aQ 16
 .rw[aj6 λj y C=>t j y Na C];clear k;exact aQ 19
def D5{p:ag->Bool}{l:ab ag}{j:Nat}{y:ag}(h:l[j]?=some y):(l.take (j+1)).filter p=(l.take j).filter p++(if p y then[y]else[]):=by rw[oC,h,nA];congr 1;simp only[x6,ro,yN]
def Qp(v:aj)(l:ab ag)(u:l.length<=1000000)(d:aj)(E:ay)(p:ag->Bool)(q:D4 d E p):ar prog 226 [v,d] [rows ag.c v 46 2 l,E] (λr J=>∃n Q,r=.slice n (l.filter λx=>!p x).length Q/\J=[rows ag.c (.slice n (l.filter λx=>!p x).length Q) 46 2 (l.filter λx=>!p x),E]):=by
 refine aF func226 λW=>?_;refine ah.fact (jc (f:=ag.c) (v:=v) (l:=l) ag.len VF) λF=>?_;obtain⟨n,Q,dW,rfl,t⟩:=F;have G:=ahM _ _ Q _ _ l t ac d E p q;cases h:l.findIdx? p with
 |none=>
  have b:sH p l=-1:=by unfold sH;rw[h]
  have Z:(l.filter λx=>!p x)=l:=by rw[ww];intro x U;rw[yq.1 h x U];rfl
  rw[b]at G;rw[Z];refine aa 31 ?_;all_goals exact⟨_,_,⟨_,_,rfl,rfl⟩,VH⟩
 |some i=>
  have b:sH p l=(i:Int):=by unfold sH;rw[h]
  obtain⟨am,Ym,Yc⟩:=wJ.1 h;rw[b]at G;refine ah.fact (h6 (f:=ag.c) (v:=.slice n l.length Q) (l:=l) VF) λYj=>?_;rcases Yj with⟨_,Y⟩|⟨g,D,P,Yh,Ye⟩
  .subst Y;simp at am
  simp only[tS,true_and]at P;obtain⟨rfl,rfl⟩:=P;clear t;have fE:bb .eql (i:Int) (-1)=some false:=by simp only[bb];congr 1
  refine aa 18 ?_;refine ai.v (V.cmp rfl rfl fE) ?_;refine aa 14 ?_;have L:l.take i=(l.take (i+1)).filter λx=>!p x:=by
   rw[D5 (hl am),Ym];simp only[Cm,h8,iH,db];rw[ww.2];intro x U;obtain⟨j,w⟩:=tB U;rw[mN]at w;split at w
   .rename_i Yf;have:=Yc j Yf;rw[hl ac,fj]at w;rw[w]at this;simp[this]
   .cases w
  refine ah.cq [1,0] (λz:Nat×Nat×ab ag=>z.2.1+1<=z.1/\z.1<=l.length/\z.2.2.length=l.length/\z.2.2.take z.2.1=((l.take z.1).filter λx=>!p x)/\z.2.2.drop z.1=l.drop z.1) (λz=>[(6,I (z.1:Int)),(5,I (z.2.1:Int))]) (λz=>[rows ag.c (.slice (some ⟨g,0,none⟩) l.length Q) 46 2 z.2.2]) (λz=>l.length-z.1) (i+1,i,l) ⟨cx _,am,rfl,L,rfl⟩ ?_;rintro⟨j,i,M⟩⟨Yo,w,R,Yg,Yi⟩ K s;dsimp only at Yo w R Yg Yi;refine bh ?_;by_cases N:j<l.length
  .obtain⟨y,C⟩:=cl N;have Yn:M[j]?=some y:=by have:=c7 (λm=>m[0]?) Yi;simp only[l0,hj]at this;rw[this,C]
   have X:=q y;cases T:p y<;>rw[T]at X
   .refine LX λnv=>?_;refine aa 9 ?_;refine ai.v (V.E' ad (k:=i) rfl rfl rfl rfl ac) ?_;refine ai.o (O.N' ad (f:=ag.c) (a:=y) rfl rfl VS R ac ag.len ag.J' ?_);refine aa 14 ?_;rotate_left;refine Out.C' s (j+1,i+1,M.set i y) ?_ Vf;exact ⟨by show i+1+1<=j+1;omega,by show j+1<=l.length;omega,SE,by
     rw[D5 C,T,<-Yg];simp only[Bool.not_false,ik];rw[oC,List.take_set,i2,aJ rfl,aJ ac];rw[List.set_eq_of_length_le Pq];rfl,by
     show(M.set i y).drop (j+1)=l.drop (j+1)
     rw[List.drop_set,aJ ac,<-sa,<-sa,Yi]⟩
   .refine LX λnv=>?_;refine aa 12 ?_;rotate_left;refine Out.C' s (j+1,i,M) ?_ Vf;exact ⟨by show i+1<=j+1;omega,by show j+1<=l.length;omega,R,by
     show M.take i=_
     rw[D5 C,T,<-Yg];simp,by
     show M.drop (j+1)=l.drop (j+1)
     rw[<-sa,<-sa,Yi]⟩
  .clear s;have Yk:j=l.length:=by omega
   subst Yk;rw[iI]at Yg;refine aa 15 ?_;refine ah.cut (f:=ag.c) (l:=M) (cap:=Q) i ag.len ac ?_ (bV:=U9);rw[<-Yg];have Yl:(M.take i).length=i:=Pq
   generalize M.take i=e4 at*;subst Yl;refine aa 4 ?_;refine ai.v (V.WD ad (i:=e4.length) rfl rfl ac) ?_;refine ai.o (O.ZN ad rfl VJ ac ac ac ?_);refine aa 6 ?_;refine ai.v (V.Xm ad (j:=e4.length) rfl rfl ac) ?_;refine aa 5 ?_;all_goals exact⟨_,_,⟨_,_,rfl,rfl⟩,VH⟩
end Go.Proofs.YteogojgnkjegmaaGreatDoor
namespace Go.Proofs.YteogojgnkjegmaaGreatDoor
open Go.az Go.Proofs.Tryz
variable[Go.az.b5]
variable{n:Int}{N:ab ag}
abbrev yO:aL Bool->ag->aL Bool:=λp x=>p.set x true
def ai7{p:aL Bool}(h:p.ok)(N:ab ag):(N.foldl yO p).ok:=(bv.ZW (g:=⟨aL.new 0,p⟩) ⟨aL.Wo 0,h⟩ N).d
def ae6{p:aL Bool}{l:ab ag}{k:Nat}{y:ag}(h:l[k]?=some y):(l.take (k+1)).foldl yO p=((l.take k).foldl yO p).set y true:=by rw[oC,h,wC];rfl
def aiR(Z:Nat)(L:h9)(g:bv)(h:g.ok)(e:ay)(n:aT Go.Addr)(Q E off:Nat)(l:ab ag)(f:Rd e n l.length E off 2 (l.map ag.c))(u:l.length<=1000000):ar prog 225 [av Z 0,.slice n l.length Q] (i6 Z L g++[e]) (λr J=>∃X:h9,r=.tuple #[]/\J=i6 Z X (g.hL l)++[e]):=by
 obtain⟨m,U,C,D⟩:=L;unfold i6 bv.hL;refine bh ?_;refine aF func225 λW=>?_;refine aa 8 ?_;refine ah.cq [7,6,0] (λz:Nat×pu=>z.1<=l.length) (λz=>[(8,I (z.1:Int))]) (λz=>[yp U z.2 ((l.take z.1).foldl yO g.done)]) (λz=>l.length-z.1) (0,D) (cG _) ?_;rintro⟨k,o⟩ T K i;dsimp only at T;refine bh ?_;by_cases s:k<l.length
 .obtain⟨y,F⟩:=cl s;have b:=aee U o ((l.take k).foldl yO g.done) y true (ai7 h.d _).towf;rw[<-ae6 F]at b;refine aa 14 ?_;refine ai.v (V.Wb ad rfl f (kk F)) ?_;refine aq 0 λa=>?_;refine aa 10 ?_;refine ah.p' ?_ aC.j.j.d'.j.d';refine ae 5 0 ?_;refine af.x' 5 rfl rfl (b) ?_;rintro _ _⟨t,rfl,rfl⟩;refine aa 9 ?_;rotate_left;refine Out.C' i (k+1,t) ?_ Ox;exact (by show k+1<=l.length;omega)
 .obtain rfl:k=l.length:=by omega
  clear i;rw[iI];refine aa 12 ?_;all_goals exact⟨_,_,⟨⟨m,U,C,o⟩,rfl,rfl⟩,VH⟩
def agB(Z:Nat)(L:h9)(g:bv)(h:g.ok)(e:ay)(n:aT Go.Addr)(Q X off:Nat)(l:ab ag)(f:Rd e n l.length X off 2 (l.map ag.c))(u:l.length<=1000000):ar prog 225 [av Z 0,.slice n l.length Q] [ia Z L g,e] (λr J=>∃F:h9,r=.tuple #[]/\J=[ia Z F (g.hL l),e]):=by refine ar.eqv (aP.aK.append (aP.refl [e])) (aiR Z L g h e n Q X off l f u) ?_;rintro r J⟨F,Y,rfl⟩;exact⟨_,⟨F,Y,rfl⟩,(aP.aK.append (aP.refl [e])).symm⟩
def D6(x y:ag):Int:=if rt x y=true then-1 else if x=y then 0 else 1
def D7(x y:ag):Int:=if rt x y=true then-1 else 1
def akc(x y:ag):ar prog 108 [A x.c,A y.c] [] (λr J=>r=I (D6 x y)/\J=[]):=by
 have N (k:Nat):=ag.Y' x y k;have p:=CY x y;unfold D6;cases u:rt x y<;>rw[u]at p
 .by_cases U:x=y
  .rw[iq U]at N;rw[aJ U];refine aF func108 λW=>?_;refine aq 2 λY=>?_;refine aq 0 λx=>?_;refine aa 18 ?_;refine ai.v (V.eq (N _)) ?_;exact aQ 13
  .rw[l5 U]at N;rw[aG U];refine aF func108 λW=>?_;refine aq 2 λY=>?_;refine aq 0 λx=>?_;refine aa 18 ?_;refine ai.v (V.eq (N _)) ?_;exact aQ 14
 .refine aF func108 λW=>?_;refine aq 2 λY=>?_;refine aq 0 λx=>?_;exact aQ 23
def aeG(x y:ag):ar prog 165 [A x.c,A y.c] [] (λr J=>r=I (D7 x y)/\J=[]):=by
 have p:=CY x y;unfold D7;cases u:rt x y<;>rw[u]at p
 .refine aF func165 λW=>?_;refine aq 2 λY=>?_;refine aq 0 λx=>?_;exact aQ 21
 .refine aF func165 λW=>?_;refine aq 2 λY=>?_;refine aq 0 λx=>?_;exact aQ 20
def ag2(E:ay):m4 (.func (.func 108) #[] #[]) E D6:=λx y=>⟨108,[],[],rfl,Vw,ar.post (ar.frame (bg:=[E]) (akc x y)) C8⟩
def ajG(E:ay):m4 (.func (.func 165) #[] #[]) E D7:=λx y=>⟨165,[],[],rfl,Vw,ar.post (ar.frame (bg:=[E]) (aeG x y)) C8⟩
def aiQ(Z:Nat)(L:h9)(g:bv)(h:g.ok):D4 (.func (.func 222) #[av Z 0] #[]) (ia Z L g) g.over:=λx=>
 ⟨222,[av Z 0],[],rfl,Vw,HN Z L g h x⟩
structure dl where
 g:bv
 done:ab ag
 dc:ab ag
structure l7 where
 qg:Nat
 L:h9
 yP:aj
 dw:aj
def la(b:Nat)(X:l7)(s:dl):ab ay:=[cells b 207 (p0.c ⟨av X.qg 0,X.yP,X.dw⟩),ia X.qg X.L s.g,rows ag.c X.yP 46 2 s.done,rows ag.c X.dw 46 2 s.dc]
def ky(b:Nat)(X:l7)(s:dl):ay:=aK (la b X s)
def dl.new(n:Int):dl:=⟨bv.new n,[],[]⟩
def ags(n:Int):ar prog 75 [I n] [] (λr J=>∃b X,r=av b 0/\J=[ky b X (dl.new n)]):=by
 have T:=akf n;have h:ar prog 75 [I n] [] (λr J=>∃z:Nat×l7,r=av z.1 0/\J=la z.1 z.2 (dl.new n)):=by unfold la dl.new;refine aF func75 λW=>?_;refine ah.V5 ag.c 46 2 ?_;refine ah.V5 ag.c 46 2 ?_;refine aa 9 ?_;rintro _ _⟨x,m,rfl,rfl⟩;refine aq 2 λp=>?_;refine aa 5 ?_;all_goals exact⟨_,_,⟨(_,⟨_,_,_,_⟩),rfl,rfl⟩,VH⟩
 refine ar.post h ?_;rintro r J⟨⟨b,X⟩,rfl,rfl⟩;exact⟨_,⟨b,X,rfl,rfl⟩,λ_ _ _ h=>h.toBag⟩
def dl.Xz(s:dl)(x:ag)(c:aO)(L:dl):Prop:=L.g=s.g.Wf x c/\L.done=s.done/\(if s.g.WE x c then L.dc.Perm (s.dc++[x])else L.dc=s.dc)
def I5(b:Nat)(X:l7)(s:dl)(h:s.g.ok)(u:s.dc.length<=1000)(x:ag)(c:aO):ar prog 77 [av b 0,A x.c,A c.c] [ky b X s] (λr J=>∃z:l7×dl,(r=B (s.g.WE x c)/\s.Xz x c z.2)/\J=[ky b z.1 z.2]):=by
 refine ar.abe (T:=λz:l7×dl=>la b z.1 z.2) ?_;obtain⟨Z,L,D,Q⟩:=X;obtain⟨g,done,o⟩:=s;dsimp only at h u;have K:=alA Z L g h x c;unfold la dl.Xz;dsimp only;refine aF func77 λW=>?_;cases j:g.WE x c<;>rw[j]at K
 .refine Q2 λq a=>?_;refine OX λC=>?_;refine aa 11 ?_;all_goals exact⟨_,_,⟨(⟨Z,_,D,Q⟩,⟨_,done,o⟩),⟨rfl,rfl,rfl,VK⟩,rfl⟩,VH⟩
 .refine Q2 λq a=>?_;refine OX λC=>?_;refine aa 6 ?_;refine ah.V9 [10] ?_ aC.j.j.d'.d'.j.j aC.j.j.j.d'.j.j;refine Py ?_;refine af.y' 6 rfl (O.V' ad ag.c [x] rfl (bP.agg rfl bP.nil) rfl rfl (λR=>?_));refine au ?_;refine af.y' 7 rfl (O.W2 ad rfl rfl Vz (cz.rows (l:=[x]) ad VF ag.J') (λw M G=>?_));refine au ?_;refine ae 2 8 ?_;refine af.l 10 rfl (O.O' ad ?_);refine aa 3 ?_;have P:(o++[x]).length=o.length+1:=by simp
  refine ah.fact (h6 (f:=ag.c) (v:=w) (l:=o++[x]) VF) λN=>?_;rcases N with⟨_,U⟩|⟨Y,E,rfl,F,p⟩
  .simp at U
  have y:=DL Y E (o++[x]) ac (ia Z C (g.Wf x c)) _ _ (ag2 _);unfold eS at y;dsimp only;refine aa 7 ?_;rintro _ _⟨t,Q,rfl,rfl⟩;refine aa 10 ?_;all_goals exact⟨_,_,⟨(⟨Z,C,D,.slice (some ⟨Y,0,none⟩) (o++[x]).length E⟩,⟨g.Wf x c,done,t⟩),⟨rfl,rfl,rfl,VV⟩,rfl⟩,VH⟩
def dl.fin(s:dl)(l:ab ag):dl:=⟨s.g.hL l,s.done++l,s.dc.filter λx=>!(s.g.hL l).over x⟩
def ah8(m:Nat)(X:l7)(s:dl)(h:s.g.ok)(a:s.dc.length<=1000)(b:s.done.length<=1000)(e:ay)(n:aT Go.Addr)(Q F off:Nat)(l:ab ag)(f:Rd e n l.length F off 2 (l.map ag.c))(u:l.length<=1000000)(v:0<l.length):ar prog 160 [av m 0,.slice n l.length Q] (la m X s++[e]) (λr J=>∃T,r=.tuple #[]/\J=la m T (s.fin l)++[e]):=by obtain⟨Z,L,D,q⟩:=X;obtain⟨g,done,o⟩:=s;dsimp only at h a b;have C:=agB Z L g h e n Q F off l f u;have P:=bv.ZW h l;unfold la dl.fin;refine bh ?_;refine aF func160 λW=>?_;have w (F:h9):=Qp q o ac (.func (.func 222) #[av Z 0] #[]) (ia Z F (g.hL l)) (g.hL l).over (aiQ Z F _ P);refine aa 8 ?_;rintro _ _⟨z,rfl,rfl⟩;refine aa 11 ?_;refine ai.o (O.W2 ad rfl rfl Vz (cz.rd ad f VF ag.J' ag.len v) (λD J N=>?_));refine aa 5 ?_;refine ah.V9 [13] ?_ aC.j.j.d'.j.j aC.j.j.j.j.j;refine ae 4 0 ?_;refine ae 3 5 ?_;refine af.t 4 rfl (V.F' ad) ?_;refine af.t 8 rfl (V.F' ad) ?_;refine af.n' 9 rfl (V.kZ) ?_;refine af.x' 10 rfl rfl (w _) ?_;rintro _ _⟨N,M,rfl,rfl⟩;refine aa 2 ?_;refine ae 2 11 ?_;refine af.l 13 rfl (O.O' ad ?_);refine aa 3 ?_;all_goals exact⟨_,_,⟨⟨Z,z,_,_⟩,rfl,rfl⟩,VH⟩
def bv.Z5{g:bv}(h:g.ok):∀(l:ab ag),(∀x∈l,bt x g.done.aE=true)->∀x,(g.hL l).over x=(g.over x||decide (x∈l))
 |[],_,x=>by show g.over x=_;simp
 |y::l,u,x=>by
  have P:({g with done:=g.done.set y true}:bv).ok:=⟨h.c,aL.Xe h.d y true⟩
  have X:=bv.Z5 P l (λz v=>by
   show bt z (g.done.set y true).aE=true
   rw[aL.Xd];exact u z (e0 _ v)) x
  have e:g.hL (y::l)=({g with done:=g.done.set y true}:bv).hL l:=rfl;rw[e,X];have Y:({g with done:=g.done.set y true}:bv).over x=(g.over x||decide (x=y)):=by
   unfold bv.over;dsimp only;rw[aL.WN h.d,u y (er ..)];by_cases U:x=y
   .rw[aJ ⟨rfl,U⟩];simp[U]
   .rw[aG (λq=>U q.2)];simp[U]
  rw[Y,Bool.or_assoc];congr 1;by_cases U:x=y<;>simp[U]
def bv.abl(g:bv):∀(l:ab ag),(g.hL l).done.aE=g.done.aE
 |[]=>rfl
 |y::l=>by have e:g.hL (y::l)=({g with done:=g.done.set y true}:bv).hL l:=rfl;rw[e,bv.abl _ l];exact aL.Xd ..
def bv.XR{g:bv}(h:g.ok){x:ag}{c:aO}(q:g.WE x c=true)(y:ag):(g.Wf x c).is y=(g.is y||decide (y=x)):=by
 unfold bv.Wf;rw[aJ q];unfold bv.is;dsimp only;simp only[bv.WE,c1]at q;rw[aL.WN h.c,q.2.2];by_cases Y:y=x
 .rw[aJ ⟨rfl,Y⟩];simp[Y]
 .rw[aG (λq=>Y q.2)];simp[Y]
def bv.XS(g:bv)(x:ag)(c:aO)(y:ag):(g.Wf x c).over y=g.over y:=by unfold bv.Wf;split<;>rfl
def bv.adc(g:bv)(x:ag)(c:aO):(g.Wf x c).done=g.done:=by unfold bv.Wf;split<;>rfl
def bv.ade(g:bv)(x:ag)(c:aO):(g.Wf x c).calls.aE=g.calls.aE:=by
 unfold bv.Wf;split
 .exact aL.Xd ..
 .rfl
structure hp(n:Int)(s:dl):Prop where
 g:s.g.ok
 aW:s.g.hy
 rc:s.g.calls.aE=n
 rd:s.g.done.aE=n
 gF:n<=7
 on:s.dc.Nodup
 gz:∀x,x∈s.dc↔s.g.is x=true/\s.g.over x=false
 dn:s.done.Nodup
 vl:∀x,x∈s.done↔s.g.over x=true
 gt:∀x,s.g.over x=true->s.g.is x=true
def hp.new(W:0<=n)(h:n<=7):hp n (dl.new n):=by
 have d {o:Type} [Inhabited o]:(aL.new n:aL o).aE=n:=by unfold aL.new;dsimp only;omega
 have Y (x:ag):(bv.new n).is x=false:=by unfold bv.is bv.new;dsimp only;rw[aL.W4];rfl
 have Z (x:ag):(bv.new n).over x=false:=by unfold bv.over bv.new;dsimp only;rw[aL.W4];rfl
 refine⟨bv.Wo n,bv.acU n,d,d,h,?_,λx=>?_,?_,λx=>?_,λx U=>?_⟩
 .exact mT
 .constructor
  .intro q;cases q
  .rintro⟨q,_⟩;rw[show(dl.new n).g=bv.new n from rfl,Y]at q;cases q
 .exact mT
 .constructor
  .intro q;cases q
  .intro q;rw[show(dl.new n).g=bv.new n from rfl,Z]at q;cases q
 .rw[show(dl.new n).g=bv.new n from rfl,Z]at U;cases U
def hp.Z6{s:dl}(h:hp n s){x:ag}(U:s.g.is x=true):bt x n=true:=by unfold bv.is at U;obtain⟨t,f⟩:=uK.1 U;have:=aL.Zx f;rwa[h.rc]at this
def hp.XJ{s:dl}(h:hp n s){l:ab ag}(y:l.Nodup)(u:∀x∈l,s.g.is x=true):l.length<=448:=
 sF y λx U=>n5 (h.Z6 (u x U)) h.gF
def hp.XT{s:dl}(h:hp n s):s.dc.length<=448:=h.XJ h.on λx U=>((h.gz x).1 U).1
def hp.abm{s:dl}(h:hp n s):s.done.length<=448:=h.XJ h.dn λx U=>h.gt x ((h.vl x).1 U)
def hp.abn{s:dl}(h:hp n s):s.g.calls.aE<=7:=by rw[h.rc];exact h.gF
def hp.Wf{s L:dl}{x:ag}{c:aO}(h:hp n s)(E:s.Xz x c L):hp n L:=by
 obtain⟨Y,Z,D⟩:=E;by_cases q:s.g.WE x c=true
 .rw[aJ q]at D;have U:s.g.is x=false:=by simp only[bv.WE,c1,kf]at q;exact q.2.1
  have P:s.g.over x=false:=by
   cases p:s.g.over x with
   |false=>rfl
   |true=>have:=h.gt x p;rw[U]at this;cases this
  have m:x∉s.dc:=λK=>by have:=((h.gz x).1 K).1;rw[U]at this;cases this
  refine⟨by rw[Y];exact bv.acT h.g x c,by rw[Y];exact bv.ys h.g h.aW x c,by rw[Y,bv.ade];exact h.rc,by rw[Y,bv.adc];exact h.rd,h.gF,?_,λy=>?_,by rw[Z];exact h.dn,λy=>by rw[Z,Y,bv.XS];exact h.vl y,λy C=>?_⟩
  .rw[D.nodup_iff,gr];exact⟨h.on,VK,λa J b X=>by rw[fF]at X;subst X;exactλe=>m (e▸J)⟩
  .rw[D.mem_iff,Y,bv.XR h.g q,bv.XS,eh,fF,h.gz y];simp only[hc,cO];constructor
   .rintro(⟨a,b⟩|rfl)
    .exact⟨.inl a,b⟩
    .exact⟨.inr rfl,P⟩
   .rintro⟨a|a,b⟩
    .exact .inl ⟨a,b⟩
    .exact .inr a
  .rw[Y,bv.XS]at C;rw[Y,bv.XR h.g q,h.gt y C];rfl
 .rw[aG q]at D;have e:L=s:=by obtain⟨g,d,o⟩:=s;obtain⟨k,T,R⟩:=L;dsimp only at Y Z D;unfold bv.Wf at Y;rw[aG q]at Y;rw[Y,Z,D]
  rw[e];exact h
def hp.fin{s:dl}(h:hp n s){l:ab ag}(y:l.Nodup)(u:∀x∈l,s.g.is x=true/\s.g.over x=false):hp n (s.fin l):=by
 have W:=bv.Z5 h.g l (λx U=>by rw[h.rd];exact h.Z6 (u x U).1);have K (x:ag):(s.g.hL l).is x=s.g.is x:=rfl;refine⟨bv.ZW h.g l,bv.acV h.aW l,h.rc,(bv.abl s.g l).trans h.rd,h.gF,h.on.filter _,λx=>?_,?_,λx=>?_,λx U=>?_⟩
 .show x∈s.dc.filter _↔(s.g.hL l).is x=true/\(s.g.hL l).over x=false;rw[mU,h.gz x,K];simp only[kf,W,yI];constructor
  .rintro⟨⟨a,b⟩,c⟩;exact⟨a,c⟩
  .rintro⟨a,b,c⟩;exact⟨⟨a,b⟩,b,c⟩
 .show(s.done++l).Nodup;rw[gr];refine⟨h.dn,y,λa J b X e=>?_⟩;subst e;have:=(h.vl a).1 J;rw[(u a X).2]at this;cases this
 .show x∈s.done++l↔(s.g.hL l).over x=true;rw[eh,h.vl x,W];simp only[hc,cO]
 .have U:(s.g.hL l).over x=true:=U;rw[W,hc,cO]at U;rcases U with U|U
  .exact h.gt x U
  .exact(u x U).1
structure GoR(n:Int)(s:dl)(xs:ab ag)(cL:dl):Prop where
 ok:hp n cL
 calls:cL.g.calls=s.g.calls
 h1:xs.Nodup
 is:∀x∈xs,s.g.is x=true/\s.g.over x=false
 dw:∀x,cL.g.over x=(s.g.over x||decide (x∈xs))
def GoR.refl{s:dl}(h:hp n s):GoR n s [] s:=⟨h,rfl,VK,VK,λx=>VK⟩
def GoR.XU{s L:dl}(h:GoR n s N L)(x:ag):L.g.is x=s.g.is x:=by unfold bv.is;rw[h.calls]
def GoR.fin{s L:dl}{l:ab ag}(h:GoR n s N L)(y:l.Nodup)(u:∀x∈l,L.g.is x=true/\L.g.over x=false):GoR n s (N++l) (L.fin l):=by
 have W:=bv.Z5 h.ok.g l (λx U=>by rw[h.ok.rd];exact h.ok.Z6 (u x U).1);have Z (x:ag) (U:x∈l):x∉N/\s.g.over x=false:=by have:=(u x U).2;rw[h.dw x,yI,jW]at this;exact⟨this.2,this.1⟩
 refine⟨h.ok.fin y u,h.calls,?_,?_,λx=>?_⟩
 .rw[gr];exact⟨h.h1,y,λa J b X e=>(Z b X).1 (e▸J)⟩
 .intro x U;rcases eh.1 U with U|U
  .exact h.is x U
  .exact⟨by rw[<-h.XU x];exact(u x U).1,(Z x U).2⟩
 .show(L.g.hL l).over x=_;rw[W,h.dw x,Bool.or_assoc];congr 1;rw[<-Bool.decide_or];exact dR.2 (by rw[eh])
def GoR.len{s L:dl}(h:GoR n s N L):N.length<=448:=h.ok.XJ h.h1 λx U=>by rw[h.XU x];exact(h.is x U).1
end Go.Proofs.YteogojgnkjegmaaGreatDoor
namespace Go.az
open Go
section
variable{P:b1}{r:aT Nat}{W:a2}{D:ab Nat}{n:dF}{Q:da}{Y N:bJ}{Z U J:ab ay}{C:Array cc}{M:ab cc}{w:a2}
def I6(P:b1)(f:fb)(E:ab aj)(u:ab ay){o F:Type}(K:o->ab aj)(A:F->ab o->Prop)(c:F->ab ay):Prop:=
 ∀(l:Nat) (T:Type) (G X:ab o->T->Prop) (S:T->ay) (j:T),G [] j->
  (∀z pre x a b,A z (pre++x::a)->G pre b->lx P l (K x) [S b] (λv U=>∃F t,v=.bool t/\(t=true->G (pre++[x]) F)/\(t=false->X (pre++[x]) F)/\U=[S F]))->
  ar P f (.func (.yield l) #[] #[]::E) (S j::u) (λ_ U=>∃F z,((∃K,A z K/\G K F)\/∃pre a,A z (pre++a)/\X pre F)/\U=S F::c z)
def ah.n9{o j I7:Type}{g:bj}{aX:ab Tmp}{assign body:Code}{kn:fb}{f:ab aj}{R:o->ab aj}{n6:I7->ab o->Prop}{u k:ab ay}{m:I7->ab ay}(iG:I6 P kn f u R n6 m)(S:j->ab ay)(G:ab o->j->Prop)(X:dY->ab o->j->Prop)(fx:j)(eV:G [] fx)(round:∀z pre x y b l rec,n6 z (pre++x::y)->G pre b->re rec->∀(eK:a2) (jV:ab Nat) (K:da),(∀e F,gA e=true->Way G X (pre++[x]) e F->∀a w,H eK jV (kl l rec::S F) w->K e a w)->ah P (some l) eK jV ⟨n.n,[]⟩ (Exit.then (sf P l body K) tt) assign (rf aX (R x) Y) (cm l rec .normal::S b))(done:∀z E b c,n6 z E->G E b->Out W D ⟨n.n,c::n.ds⟩ Q .normal Y (gK c::(S b++(m z++k))))(left:∀z b c e pre,gA e=true->fu e=false->(∃y,n6 z (pre++y))->X e pre b->Out W D ⟨n.n,c::n.ds⟩ Q e Y (gK c::(S b++(m z++k))))(bG:aR Y g=some (.func (.func kn) #[] f.toArray):=by exact rfl)(Ye:lp P kn=true:=by kernel_rfl)(Yf:ak Z (S fx++u) k:=by(repeat(first|exact ak.nil|exact al.here|apply ak.cons|apply al.there)))(dd:∀x,aX.length=(R x).length:=by intro _;rfl)(cn:(aX.all λp=>Nat.blt p n.n)=true:=by exact rfl):ah P none W D n Q (.rangeFunc g aX.toArray assign body) Y Z:=by
 have Yc:ah P none W D n Q (.rangeFunc g aX.toArray assign body) Y (aK (S fx)::(u++k)):=by
  have Yh:∀{e:dY} {pre:ab o} {b:j},gA e=true->Way G X pre e b->(fu e=true/\G pre b)\/(fu e=false/\X e pre b):=by
   intro e pre b q h;cases e with
   |normal=>exact .inl ⟨rfl,h⟩
   |ret=>exact .inr ⟨rfl,h⟩
   |exit id=>exact .inr ⟨rfl,h⟩
   |_=>cases q
  refine ah.XF (mo:={p:ab o×o×ab o×j//(∃z,n6 z (p.1++p.2.1::p.2.2.1))/\G p.1 p.2.2.2}) (s:=u) (k:=k) (λi=>R i.1.2.1) (aK (S fx)) (λi=>aK (S i.1.2.2.2)) (λi e cL=>∃F,cL=aK (S F)/\Way G X (i.1.1++[i.1.2.1]) e F)
   (λe d=>∃F z,d=aK (S F)::m z/\((e=.normal/\∃E,n6 z E/\G E F)\/(fu e=false/\∃pre y,n6 z (pre++y)/\X e pre F))) bG Ye ?_ (λi=>dd _) cn ?_ ?_ ?_
  .have:∀(l:ab ay) (s:ay),ak (s::(l++k)) (s::l) k:=by
    intro l s;refine ak.cons al.here ?_;induction l with
    |nil=>exact ak.nil
    |cons x l mj=>exact ak.cons al.here mj
   exact this u _
  .rintro⟨⟨pre,x,y,b⟩,⟨z,b6⟩,dA⟩ l rec c2 eK K cJ;have du:br [cm l rec .normal,aK (S b)]=br (cm l rec .normal::S b):=by simp only[jl,wl];simp[br]
   have:=round z pre x y b l rec b6 dA c2 eK (br [cm l rec .normal,aK (S b)]) K (λe F q eo a w t=>cJ e (aK (S F)) q ⟨F,rfl,eo⟩ a w (by have T:H eK (br [cm l rec .normal,aK (S b)]) (S F++[kl l rec]) w:=t.perm (by simpa using(oG (l₁:=[kl l rec]) (l₂:=S F)));exact(T.toBag).perm (hV ..)))
   refine ah.of λa w c0 t=>?_;refine this.get a w c0 ?_;have T:=(t.perm (hV ..)).Ww;exact T.perm VK
  .intro l rec fX;have dT:=iG l (dY×j) (λpre p=>p.1=.normal/\G pre p.2) (λpre p=>gA p.1=true/\fu p.1=false/\X p.1 pre p.2) (λp=>aK [cm l rec p.1,aK (S p.2)]) (.normal,fx) ⟨rfl,eV⟩ ?_
   .refine dT.conv (λw h=>?_) ?_ ?_
    .exact hS.toBag (bg:=[cm l rec .normal,aK (S fx)]) h
    .exact(tr (bg:=[cm l rec .normal,aK (S fx)])).symm
    .rintro v U⟨⟨e,F⟩,z,bN,rfl⟩;refine⟨cm l rec e::aK (S F)::m z,⟨e,_,?_,⟨F,z,rfl,?_⟩,rfl⟩,λW D w h=>h.Ww (bg:=[cm l rec e,aK (S F)])⟩
     .rcases bN with⟨_,_,h,_⟩|⟨_,_,_,h,_⟩
      exact Qv
      .exact h
     .rcases bN with⟨E,dd,h,L⟩|⟨pre,y,cn,_,cd,gw⟩
      .exact .inl ⟨h,E,dd,L⟩
      .exact .inr ⟨cd,pre,y,cn,gw⟩
   .rintro z pre x y⟨e,b⟩ b6⟨dg,dA⟩;simp only at dg dA;subst dg;refine(fX ⟨(pre,x,y,b),⟨z,b6⟩,dA⟩).conv (λw h=>?_) ?_ ?_
    exact TS
    .have:=(tr (bg:=[cm l rec .normal,aK (S b)]) (ao:=[]))
     simpa using this
    .rintro v U⟨e,cL,rfl,q,⟨F,rfl,eo⟩,rfl⟩;refine⟨[aK [cm l rec e,aK (S F)]],⟨(e,F),fu e,rfl,λh=>?_,λh=>?_,rfl⟩,λW D w h=>H.toBag (bg:=[cm l rec e,aK (S F)]) (ao:=[]) VR⟩
     .rcases Yh q eo with⟨T,L⟩|⟨T,L⟩
      .refine⟨?_,L⟩;cases e<;>first|rfl|cases T
      .rw[T]at h;cases h
     .rcases Yh q eo with⟨T,L⟩|⟨T,L⟩
      .rw[T]at h;cases h
      .exact⟨q,T,L⟩
  .rintro c e d q⟨F,z,rfl,bN⟩;have conv:∀{e:dY},Out W D ⟨n.n,c::n.ds⟩ Q e Y (gK c::(S F++(m z++k)))->Out W D ⟨n.n,c::n.ds⟩ Q e Y (gK c::(aK (S F)::m z++k)):=λh=>Out.of λa w c0 t=>by refine h.get a w c0 ?_;have T:H W D (aK (S F)::(gK c::(m z++k))) w:=t.perm Ql;exact T.Ww.perm ow
   rcases bN with⟨rfl,E,dd,dA⟩|⟨Yg,pre,y,Yi,jp⟩
   .exact conv (done z E F c dd dA)
   .exact conv (left z F c e pre q Yg ⟨y,Yi⟩ jp)
 refine ah.of λa w c0 t=>?_;refine Yc.get a w c0 ?_;have T:=t.Wy Yf;rw[ck]at T;exact T.toBag
end
end Go.az
namespace Go.Proofs.YteogojgnkjegmaaGreatDoor
open Go.az Go.Proofs.Tryz
variable[Go.az.b5]
variable{G:ab cY}{k:ab aS}{n:Int}
structure yQ(n:Int)(s:dl)(xs:ab ag)(cL:dl):Prop extends GoR n s xs cL where
 none:s.dc=[]->xs=[]/\cL=s
 one:∀x,s.dc=[x]->s.g.waits x=[]->xs=[x]
def GoR.part{s L F:dl}{x:ag}{N:ab ag}{Y:ab hg}{v:ab ag}{j:Nat}{p:hg}(W:GoR n s N L)(w:n8 L.g x Y v G)(h:GoR n s (N++(Y.take j).flatMap (·.l)) F)(z:Y[j]?=some p):p.l.Nodup/\∀y∈p.l,F.g.is y=true/\F.g.over y=false:=by
 obtain⟨v,P⟩:=cF.1 z;have k:Y=Y.take j++p::Y.drop (j+1):=by conv=>lhs;rw[<-nU j Y,wF v,P]
 have l:=w.h1;rw[k,l3,fW,gr]at l;have s:=(gr.1 l.2.1).1;refine⟨s,λy C=>?_⟩;have K:p∈Y:=im z;have am:=w.is y (wB.2 ⟨p,K,C⟩);have m:=am.2;rw[W.dw y,yI,jW]at m;refine⟨by rw[h.XU y,<-W.XU y];exact am.1,?_⟩;rw[h.dw y,m.1,xK,jW,eh,nt];refine⟨m.2,λq=>?_⟩;exact l.2.2 y q y (eh.2 (.inl C)) rfl
def GoR.adf{s r:dl}{x y:ag}{F:ab ag}{U:ab hg}{j:ab ag}{k:Nat}(h:hp n s)(a:s.dc=[x])(Y:s.g.waits x=[])(T:k+1=1)(R:k=0->F=[]/\r=s)(C:s.dc[k]?=some y)(w:n8 r.g y U j G):F++U.flatMap (·.l)=[x]:=by
 obtain rfl:k=0:=ac
 obtain⟨rfl,rfl⟩:=R rfl;rw[a,ra,fj]at C;subst C;have am:=(h.gz x).1 My;have:=(w.one am.1 am.2 Y).1;rw[g4,xR,this];rfl
def akX(n:Int)(q i:Nat)(X:l7)(s:dl)(h:hp n s):I6 prog 157 [av q 0] [cells q 89 [av i 0],ky i X s] (λx:ag=>[A x.c,A (s.g.call x).c]) (λ(z:l7×dl) xs=>yQ n s xs z.2) (λz=>[cells q 89 [av i 0],ky i z.1 z.2]):=by
 intro et km G ahQ S fx Yp jv;have lJ (b:km) (X:l7) (s:dl):aP [S b,cells q 89 [av i 0],ky i X s] (S b::cells q 89 [av i 0]::la i X s):=aP.cons _ (aP.cons _ aP.aK);suffices Yg:ar prog 157 [.func (.yield et) #[] #[],av q 0] (S fx::cells q 89 [av i 0]::la i X s) (λ_ Yc=>∃(de:km) (z:l7×dl),((∃xs,yQ n s xs z.2/\G xs de)\/∃pre Ye,yQ n s (pre++Ye) z.2/\ahQ pre de)/\Yc=S de::cells q 89 [av i 0]::la i z.1 z.2) by refine ar.eqv (lJ fx X s) Yg ?_;rintro v Yc⟨de,z,bf,rfl⟩;exact⟨_,⟨de,z,bf,rfl⟩,(lJ de z.1 z.2).symm⟩
 have YM:=h.XT;obtain⟨qg,L,yP,dw⟩:=X;refine aF func157 λW=>?_;unfold la;refine bh ?_;refine ah.V5 ag.c 46 2 ?_;refine ah.fact (jc (f:=ag.c) (v:=dw) (l:=s.dc) ag.len VF) λE=>?_;obtain⟨Yt,M,b3,rfl,Yy⟩:=E;have Yz:=HH _ _ M _ _ s.dc Yy ac;refine aa 22 ?_;refine ai.x' rfl (Yz) ?_;rintro v0 r⟨YY,rfl,rfl⟩;refine aa 6 ?_;refine ah.fact (jc (f:=ag.c) (v:=v0) (l:=s.dc) ag.len VF) λE=>?_;obtain⟨Zb,Y4,e2,rfl,YT⟩:=E;refine ah.cq [21,20,1,0] (λz:Nat×l7×dl×aj×ab ag=>z.1<=s.dc.length/\GoR n s z.2.2.2.2 z.2.2.1/\(z.1=0->z.2.2.2.2=[]/\z.2.2.1=s)/\(∀x,s.dc=[x]->s.g.waits x=[]->z.1=1->z.2.2.2.2=[x]))
  (λz=>[(22,I (z.1:Int)),(3,z.2.2.2.1)]) (λz=>rows ag.c z.2.2.2.1 46 2 z.2.2.2.2::la i z.2.1 z.2.2.1) (λz=>s.dc.length-z.1) (0,⟨qg,L,yP,.slice Yt s.dc.length M⟩,s,.slice none 0 0,[]) ⟨cG _,GoR.refl h,λ_=>⟨rfl,rfl⟩,λ_ _ _ h=>absurd (show(0:Nat)=1 from h) VI⟩ ?_
 rintro⟨k,⟨R,fr,a,J⟩,r,hh,F⟩⟨ca,m,d,Yo⟩ K cJ;dsimp only at ca m d Yo;dsimp only[la,List.cons_append,List.nil_append];by_cases Yf:k<s.dc.length
 .obtain⟨y,fX⟩:=cl Yf;have mX:=I4 R fr r.g m.ok.g m.ok.aW m.ok.abn y;refine aa 14 ?_;refine ai.v (V.Wb ad rfl YT (kk fX)) ?_;refine aq 0 λn2=>?_;refine aa 4 ?_;refine ah.p' ?_ aC.d'.j.j.j.j.j.j.j.d';refine ae 3 0 ?_;refine ae 1 4 ?_;refine ae 1 3 ?_;refine af.x' 5 rfl rfl (mX) ?_;rintro _ _⟨YP,Y5,t,N,YF,Yh,rfl,rfl⟩;refine aa 2 ?_;refine ae 5 6 ?_;refine aa 10 ?_;rotate_left;have D:n8 r.g y t N YF:=by assumption
  refine ah.fact (jc (f:=hg.c) (v:=YP) (l:=t) hg.len VF) λE=>?_;obtain⟨Zc,Y6,bU,rfl,YU⟩:=E;have YK:t.length<=448:=iB (D2 _ λp cn=>(D.dS p cn).2) (m.ok.XJ D.h1 λx b6=>(D.is x b6).1);refine ah.cq [36,35,22,21,20,1,0] (λz:Nat×l7×dl×aj=>z.1<=t.length/\GoR n s (F++(t.take z.1).flatMap (·.l)) z.2.2.1)
   (λz=>[(37,I (z.1:Int)),(3,z.2.2.2)]) (λz=>rows ag.c z.2.2.2 46 2 (F++(t.take z.1).flatMap (·.l))::la i z.2.1 z.2.2.1) (λz=>t.length-z.1) (0,⟨R,fr,a,J⟩,r,hh) ⟨cG _,by simpa using m⟩ ?_ (t:=by rw[xU,nY,db];(repeat(first|exact ak.nil|exact al.here|apply ak.cons|apply al.there)))
  rintro⟨j,⟨YG,gG,YH,YI⟩,s2,lL⟩⟨dK,P⟩ fP Y;dsimp only at dK P;dsimp only[la,List.cons_append,List.nil_append];by_cases u:j<t.length
  .obtain⟨p,cn⟩:=cl u;obtain⟨Yu,Yw⟩:=GoR.part m D P cn;obtain⟨⟨sB,off,YJ⟩,YQ⟩:=D.dS p (im cn);have w:0<p.l.length:=qA.2 YQ;have Ym:p.l.length<=448:=P.ok.XJ Yu λx b6=>(Yw x b6).1;have Yv:=P.len;have c0:=ah8 i ⟨YG,gG,YH,YI⟩ s2 P.ok.g (by have:=P.ok.XT;omega) (by have:=P.ok.abm;omega) (dt YF) p.cK p.cap sB off p.l YJ ac w;have T:=P.fin Yu Yw;have C:(t.take (j+1)).flatMap (·.l)=(t.take j).flatMap (·.l)++p.l:=by rw[oC,cn,l3];simp
   rw[ck,<-C]at T;unfold la at c0;dsimp only[List.cons_append,List.nil_append]at c0;have Yl:∀v,rows ag.c v 46 2 ((F++(t.take j).flatMap (·.l))++p.l)=rows ag.c v 46 2 (F++(t.take (j+1)).flatMap (·.l)):=λv=>by rw[C,ck]
   generalize Yr:F++(t.take j).flatMap (·.l)=adY at*;refine aa 14 ?_;refine ai.v (V.Xk ad rfl YU (kk cn)) ?_;refine aa 8 ?_;rintro _ _⟨YR,rfl,rfl⟩;refine aa 6 ?_;refine ai.o (O.W2 ad rfl rfl Vz (cz.rd ad YJ VF ag.J' ag.len w) (λYE Y7 Y8=>?_));refine aa 8 ?_;rotate_left;rw[Yl];exact Out.C' Y (j+1,YR,s2.fin p.l,YE) ⟨EY,T⟩ (by show t.length-(j+1)<t.length-j;omega)
  .obtain rfl:j=t.length:=by omega
   clear Y;rw[iI]at P⊢;refine aa 17 ?_;exact Out.C' cJ (k+1,⟨YG,gG,YH,YI⟩,s2,lL,F++t.flatMap (·.l)) ⟨Rh,P,λdT=>absurd (show k+1=0 from dT) ac,λx ej cE Yx=>GoR.adf h ej cE Yx d fX D⟩ UU
 .obtain rfl:k=s.dc.length:=by omega
  clear cJ;have Q:yQ n s F r:=⟨m,λej=>d (by rw[ej];rfl),λx ej cE=>Yo x ej cE (by rw[ej];rfl)⟩
  refine ah.fact (jc (f:=ag.c) (v:=hh) (l:=F) ag.len VF) λE=>?_;obtain⟨Zd,Y9,D8,rfl,YV⟩:=E;have Yv:=m.len;refine aa 20 ?_;refine ah.cq [50,49,1,0] (λz:Nat×km=>z.1<=F.length/\G (F.take z.1) z.2) (λz=>[(51,I (z.1:Int))]) (λz=>[S z.2]) (λz=>F.length-z.1) (0,fx) ⟨cG _,Yp⟩ ?_;rintro⟨j,hN⟩⟨dK,Z⟩ fP Y;dsimp only at dK Z;refine bh ?_;by_cases u:j<F.length
  .obtain⟨y,fX⟩:=cl u;obtain⟨Yq,dg⟩:=cF.1 fX;have Yi:F=F.take j++y::F.drop (j+1):=by conv=>lhs;rw[<-nU j F,wF Yq,dg]
   have C:F.take (j+1)=F.take j++[y]:=by rw[oC,fX];rfl
   have U:=jv (⟨R,fr,a,J⟩,r) (F.take j) y (F.drop (j+1)) hN (by rw[<-Yi];exact Q) Z;rw[<-C]at U;have dG:=akr R fr r.g m.ok.g y;have YW:r.g.call y=s.g.call y:=by unfold bv.call;rw[m.calls]
   rw[YW]at dG;refine aa 14 ?_;refine ai.v (V.Wb ad rfl YV (kk fX)) ?_;refine aq 0 λYj=>?_;refine aa 4 ?_;refine ah.p' ?_ aC.d'.j.j.j.j.j.j.j.d';refine NQ ?_ ?_ ?_;refine aw.V0 rfl (dG) VH ?_;refine Vh λYn=>?_;refine aa 7 ?_;refine ai.o (aw.WX rfl rfl (U) VH ?_);rintro v5 I8⟨Za,Ze,rfl,Yk,Ys,rfl⟩;refine US (λYS=>?_) λYS=>?_;refine aa 6 ?_;rotate_left;refine aa 7 ?_;rotate_left;refine O.Q' ad (λYn=>?_);refine au ?_;refine af.x' 5 rfl rfl (dG) ?_;refine Qs ?_;refine aa 7 ?_;refine ai.o (aw.WX rfl rfl (U) VH ?_);rintro YB YC⟨Y0,Y2,rfl,YD,YA,rfl⟩;refine US (λYN=>?_) λYN=>?_;refine aa 6 ?_;rotate_left;refine aa 7 ?_;rotate_left;refine MU λYn=>?_;refine af.x' 5 rfl rfl (dG) ?_;refine Qs ?_;refine aa 7 ?_;refine ai.o (aw.WX rfl rfl (U) VH ?_);rintro Zf YZ⟨Y1,Y3,rfl,YL,YX,rfl⟩;refine US (λYO=>?_) λYO=>?_;refine aa 6 ?_;rotate_left;refine aa 7 ?_;rotate_left;all_goals first
    |refine Out.C' Y (j+1,_) ?_ (by show F.length-(j+1)<F.length-j;omega);exact ⟨EY,by show G (F.take (j+1)) _;apply_assumption;assumption⟩
    |exact⟨_,_,⟨_,(⟨R,fr,a,J⟩,r),.inr ⟨F.take (j+1),F.drop (j+1),by rw[nU];exact Q,L7⟩,rfl⟩,VH⟩
  .obtain rfl:j=F.length:=by omega
   clear Y;rw[iI]at Z;refine aa 12 ?_;exact⟨_,_,⟨hN,(⟨R,fr,a,J⟩,r),.inl ⟨F,Q,Z⟩,rfl⟩,VH⟩
structure qO(s:dl)(l:ab ag):Prop where
 h1:l.Nodup
 aW:∀y∈l,s.g.is y=false/\bt y 7=true
 no:s.dc=[]->l=[]
def qO.len{s:dl}{l:ab ag}(h:qO s l):l.length<=448:=sF h.h1 λx U=>(h.aW x U).2
def qO.perm{s:dl}{l f:ab ag}(h:qO s l)(z:f.Perm l):qO s f:=
 ⟨z.nodup_iff.2 h.h1,λy C=>h.aW y (z.mem_iff.1 C),λa=>by rw[h.no a]at z;exact List.perm_nil.1 z⟩
structure vm(s:dl)(l:ab ag):Prop where
 h1:l.Nodup
 aW:∀y∈l,s.g.is y=false/\bt y 7=true
def vm.add{s:dl}{l:ab ag}{y:ag}(h:vm s l)(Y:y∉l)(Z:s.g.is y=false)(D:bt y 7=true):vm s (l++[y]):=by
 refine⟨?_,?_⟩
 .rw[gr];exact⟨h.h1,VK,λa J b X=>by rw[fF]at X;subst X;exactλe=>Y (e▸J)⟩
 .intro z v;rcases eh.1 v with v|v
  .exact h.aW z v
  .rw[fF]at v;subst v;exact⟨Z,D⟩
def vm.len{s:dl}{l:ab ag}(h:vm s l):l.length<=448:=sF h.h1 λx U=>(h.aW x U).2
def afS(n:Int)(b:Nat)(X:l7)(s:dl)(h:hp n s):ar prog 115 [av b 0] [ky b X s] (λr J=>∃v l,qO s l/\r=v/\J=[rows ag.c v 46 2 l,ky b X s]):=by
 have lJ:aP [ky b X s] (la b X s):=aP.aK;suffices p:ar prog 115 [av b 0] (la b X s) (λr J=>∃v l,qO s l/\r=v/\J=rows ag.c v 46 2 l::la b X s) by refine ar.eqv lJ p ?_;rintro v J⟨ez,l,bf,bW,rfl⟩;exact⟨_,⟨ez,l,bf,bW,rfl⟩,aP.cons _ lJ.symm⟩
 have Yr:=h.XT;obtain⟨qg,L,yP,dw⟩:=X;refine aF func115 λW=>?_;unfold la;dsimp only;refine ah.V5 ag.c 46 2 ?_;refine ah.fact (jc (f:=ag.c) (v:=dw) (l:=s.dc) ag.len VF) λF=>?_;obtain⟨Yl,Yk,b3,rfl,Yn⟩:=F;refine aa 32 ?_;refine ah.cq [16,15,0] (λz:Nat×aj×ab ag=>z.1<=s.dc.length/\vm s z.2.2/\(z.1=0->z.2.2=[])/\z.2.1.oneCell'=true)
  (λz=>[(17,I (z.1:Int)),(3,z.2.1)]) (λz=>[rows ag.c z.2.1 46 2 z.2.2]) (λz=>s.dc.length-z.1) (0,.slice none 0 0,[]) ⟨cG _,⟨mT,λ_ h=>VL⟩,λ_=>rfl,rfl⟩ ?_
 rintro⟨k,hh,t⟩⟨ca,u,R,T⟩ K cJ;dsimp only at ca u R T;refine bh ?_;by_cases a:k<s.dc.length
 .obtain⟨y,fX⟩:=cl a;have mX:=I4 qg L s.g h.g h.aW h.abn y;refine aa 14 ?_;refine ai.v (V.Wb ad rfl Yn (kk fX)) ?_;refine aq 0 λn2=>?_;refine aa 4 ?_;refine ah.p' ?_ aC.j.j.j.d'.j.d';refine ae 5 0 ?_;refine af.x' 5 rfl rfl (mX) ?_;rintro _ _⟨Yv,w,Y,G,Yt,Ye,rfl,rfl⟩;refine aa 2 ?_;refine ae 5 6 ?_;refine aa 10 ?_;rotate_left;have D:n8 s.g y Y G Yt:=by assumption
  have Ym:G.length<=448:=sF D.qN λx C=>(D.ms x C).2.2;refine ah.fact (jc (f:=ag.c) (v:=w) (l:=G) ag.len VF) λF=>?_;obtain⟨Ys,Yp,dW,rfl,q⟩:=F;refine ah.cq [31,30,17,16,15,0] (λz:Nat×aj×ab ag=>z.1<=G.length/\vm s z.2.2/\z.2.1.oneCell'=true)
   (λz=>[(32,I (z.1:Int)),(3,z.2.1)]) (λz=>[rows ag.c z.2.1 46 2 z.2.2]) (λz=>G.length-z.1) (0,hh,t) ⟨cG _,u,T⟩ ?_
  rintro⟨j,lL,U⟩⟨dK,E,d⟩ fP m;dsimp only at dK E d;refine bh ?_;have Yc:=E.len;by_cases P:j<G.length
  .obtain⟨x,C⟩:=cl P;have i:=D.ms x (im C);refine ah.fact (jc (f:=ag.c) (v:=lL) (l:=U) ag.len VF) λF=>?_;obtain⟨Yi,M,jN,rfl,Yj⟩:=F;have Q:=HJ _ _ M _ _ U x Yj ac;by_cases N:x∈U
   .rw[iq N]at Q;refine aa 14 ?_;refine ai.v (V.Wb ad rfl q (kk C)) ?_;refine aq 0 λD9=>?_;refine aa 20 ?_;rotate_left;exact Out.C' m (j+1,.slice Yi U.length M,U) ⟨EY,E,rfl⟩ TH
   .rw[l5 N]at Q;refine aa 14 ?_;refine ai.v (V.Wb ad rfl q (kk C)) ?_;refine aq 0 λD9=>?_;refine aa 16 ?_;refine ai.o (O.V' ad ag.c [x] rfl (bP.agg rfl bP.nil) rfl rfl (λYo=>?_));refine ai.o (O.W2 ad rfl rfl Vz (cz.rows (l:=[x]) ad VF ag.J') (λYu Yw Yq=>?_));refine aa 8 ?_;rotate_left;exact Out.C' m (j+1,Yu,U++[x]) ⟨EY,E.add N i.1 i.2.2,VV⟩ TH
  .obtain rfl:j=G.length:=by omega
   clear m;refine aa 17 ?_;exact Out.C' cJ (k+1,lL,U) ⟨Rh,E,λdT=>absurd (show k+1=0 from dT) ac,d⟩ UU
 .obtain rfl:k=s.dc.length:=by omega
  clear cJ;have qe:qO s t:=⟨u.h1,u.aW,λej=>R (by rw[ej];rfl)⟩
  have Yh:=u.len;refine ah.fact (h6 (f:=ag.c) (v:=hh) (l:=t) VF) λZ=>?_;rcases Z with⟨rfl,rfl⟩|⟨jZ,gN,rfl,Yg,Yf⟩
  .have y:=PO (.func (.func 165) #[] #[]) rfl;refine aa 27 ?_;all_goals exact⟨_,_,⟨_,_,qe,rfl,rfl⟩,VH⟩
  .have y:=DL jZ gN t ac (ia qg L s.g) _ _ (ajG _);unfold eS at y;refine aa 16 ?_;rintro _ _⟨U,Ye,rfl,rfl⟩;refine aa 11 ?_;have z:U.Perm t:=by assumption
   all_goals exact⟨_,_,⟨_,_,qe.perm z,rfl,rfl⟩,VH⟩
abbrev gm:=ab (ab aS×fe)
abbrev iy:fe->aj:=λp=>A p.c
abbrev jd(m:Nat)(l:gm):ay:=bz m2 iy m l
def aiw(k:ab aS):ab aj:=[S k]
def jA:hX prog 261 9 346=true:=rfl
def QF(m:Nat):ar prog 261 [.map (some m)] [] (λr J=>∃a,r=.func (.func 276) #[] #[av a 0]/\J=[cells a 261 [.map (some m)]]):=by refine aF func261 λW=>?_;exact Ve
def I9{o:Type}:∀{l:ab o} {j:Nat} {x:o},l[j]?=some x->(x::l.eraseIdx j).Perm l
 |[],_,_,h=>VT
 |a::l,0,x,h=>by
  have:a=x:=VR
  subst this;exact hI _
 |a::l,j+1,x,h=>by
  have X:=I9 (l:=l) (j:=j) (x:=x) VR;show(x::a::l.eraseIdx j).Perm (a::l)
  exact(hV a x _).trans (X.cons a)
structure aji(ve:Type) where
 pre:ab (ab aS)
 c:ve
 todo:gm
 last:aT (ab aS×fe)
def amt(a m:Nat)(l:gm):G0 prog 276 [av a 0] aiw (l.map (·.1)) [cells a 261 [.map (some m)],jd m l] [cells a 261 [.map (some m)],jd m l]:=by
 intro y P G X Z g u L;refine ar.post (R:=λ_ J=>∃d pre q k s,((G pre d/\pre.Perm (l.map (·.1)))\/X pre d)/\J=[lC m2 iy m q l k s,Z d,cells a 261 [.map (some m)]]) ?_ ?_
 .refine aF func276 λW=>?_;refine aa 3 ?_;refine ai.o (aw.aaY jA rfl Vz (λQ=>?_));refine aa 3 ?_;refine ah.cq [0,5] (λy:aji P=>G y.pre y.c/\(y.pre++y.todo.map (·.1)).Perm (l.map (·.1))) (λ_=>[]) (λy=>[lC m2 iy m Q l y.todo y.last,Z y.c]) (λy=>y.todo.length) ⟨[],g,l,none⟩ ⟨u,hI _⟩ ?_;rintro⟨pre,c,k,s⟩⟨T,z⟩ K i;dsimp only at T z;refine bh ?_;by_cases f:k=[]
  .subst f;clear i;refine aa 2 ?_;refine ai.o (aw.aaZ rfl VF ?_);refine aa 10 ?_
   .exact⟨_,_,⟨c,pre,Q,[],s,.inl ⟨T,Td⟩,rfl⟩,VH⟩
  .refine aa 2 ?_;refine ai.o (aw.aa0 f rfl Nc (λD n w=>?_));refine aa 8 ?_;obtain⟨r,Y⟩:=n;have j:=(cF.1 w).1;have U:((r,Y)::k.eraseIdx D).Perm k:=I9 w;have b:(pre++r::(k.eraseIdx D).map (·.1)).Perm (l.map (·.1)):=by refine mW ?_ z;exact(U.map (·.1)).append_left pre
   have x:=L pre r _ c b T;refine aa 2 ?_;refine ai.v (aN.Xb (p:=(r,Y)) rfl VF) ?_;refine aa 8 ?_;refine ai.o (aw.WX rfl rfl (x) VH ?_);rintro F C⟨M,Yc,rfl,E,t,rfl⟩;refine US (λN=>?_) λN=>?_;refine aa 5 ?_
   .exact⟨_,_,⟨_,pre++[r],Q,k.eraseIdx D,_,.inr L7,rfl⟩,VH⟩
   refine aa 2 ?_;refine Out.C' i ⟨pre++[r],_,k.eraseIdx D,some (r,Y)⟩ ?_ (by show(k.eraseIdx D).length<k.length;rw[DE,aJ j];omega);exact ⟨L7,by rw[ck];exact b⟩
 .rintro v J⟨d,pre,q,k,s,h,rfl⟩;refine⟨[Z d,cells a 261 [.map (some m)],jd m l],⟨d,pre,h,rfl⟩,λW D w b=>?_⟩;exact b.Zv.perm (oG (l₁:=[_]) (l₂:=[_,_]))
def afU(a m:Nat)(l:gm)(u:l.length<=100000):ar prog 285 [.slice none 0 0,.func (.func 276) #[] #[av a 0]] [cells a 261 [.map (some m)],jd m l] (λr J=>∃v T,T.Perm (l.map (·.1))/\r=v/\J=[cells a 261 [.map (some m)],jd m l,rows fy v 9 1 T]):=by
 refine aF func285 λW=>?_;refine ah.V5 fy 9 1 ?_;refine aa 2 ?_;refine ai.o (O.Wz (λx=>?_));refine aa 10 ?_;refine ah.acH (amt a m l) (λy:aj×ab (ab aS)=>[cells x 61 [y.1],rows fy y.1 9 1 y.2]) (λpre y=>y.2=pre) (λ_ _ _=>False) (.slice none 0 0,[]) rfl ?_ ?_ ?_
 .rintro pre i w⟨v,T⟩ c rec z n g s h K k;dsimp only at n;subst n;have P:=z.length_eq;simp only[bQ,df,dZ]at P;refine bh ?_;refine aq 8 λQ=>?_;refine ai.o (O.Z' ad rfl rfl Vz (cz.one (f:=fy) (a:=i) ad VF (λ_=>rfl)) (λL Z=>?_));refine aa 3 ?_;exact Out.rd k (.slice (some ⟨L,0,none⟩) (T++[i]).length Z,T++[i]) rfl
 .rintro pre⟨v,T⟩ b n z;dsimp only at n;subst n;refine bh ?_;refine aa 10 ?_
  .exact⟨_,_,⟨_,T,z,rfl,rfl⟩,VH⟩
 .intro _ _ _ _ _ _ h;exact h.elim
def akM(a m:Nat)(l:gm)(u:l.length<=100000):ar prog 274 [.func (.func 276) #[] #[av a 0]] [cells a 261 [.map (some m)],jd m l] (λr J=>∃v T,T.Perm (l.map (·.1))/\r=v/\J=[cells a 261 [.map (some m)],jd m l,rows fy v 9 1 T]):=by
 have z:=afU a m l u;refine aF func274 λW=>?_;refine aa 9 ?_;rintro _ _⟨s,r,E,rfl,rfl⟩;refine aa 6 ?_
 .exact⟨_,_,⟨_,_,VV,rfl,rfl⟩,VH⟩
def ajc{o U:ab (ab aS)}(h:o.Perm U):(o.mergeSort λx y=>decide (x<=y))=(U.mergeSort λx y=>decide (x<=y)):=by
 have v:∀a b c:ab aS,decide (a<=b)=true->decide (b<=c)=true->decide (a<=c)=true:=by intro a b c Y Z;simp only[cO]at*;exact List.le_trans Y Z
 have u:∀a b:ab aS,(decide (a<=b)||decide (b<=a))=true:=by intro a b;simp only[hc,cO];exact List.le_total a b
 have p:(o.mergeSort λx y=>decide (x<=y)).Perm (U.mergeSort λx y=>decide (x<=y)):=(List.mergeSort_perm _ _).trans (h.trans (List.mergeSort_perm _ _).symm);have r:=List.pairwise_mergeSort (le:=λx y:ab aS=>decide (x<=y)) v u o;have q:=List.pairwise_mergeSort (le:=λx y:ab aS=>decide (x<=y)) v u U;refine List.Perm.eq_of_pairwise ?_ r q p;intro a b _ _ Y Z;simp only[cO]at*;exact List.le_antisymm Y Z
def lb(l:gm):ab (ab aS):=(l.map (·.1)).mergeSort λx y=>decide (x<=y)
def sorted(a m:Nat)(l:gm)(u:l.length<=100000):ar Tryz.prog 260 [.func (.func 276) #[] #[av a 0]] [cells a 261 [.map (some m)],jd m l] (λr J=>∃v,r=v/\J=[cells a 261 [.map (some m)],jd m l,rows fy v 9 1 (lb l)]):=by
 have z:=akM a m l u;refine aF Tryz.func260 λW=>?_;refine aa 9 ?_;rintro _ _⟨b,Q,E,rfl,rfl⟩;refine aa 4 ?_;have c:Q.Perm (l.map (·.1)):=by assumption
 have M:lb l=Q.mergeSort λx y=>decide (x<=y):=(ajc c).symm;have P:=c.length_eq;rw[dZ]at P;rw[M];refine ah.fact (h6 (aI _ (aI _ (aH _)))) λY=>?_;rcases Y with⟨rfl,rfl⟩|⟨g,D,rfl,_⟩
 .have f:=alD [];rw[show([]:ab (ab aS)).mergeSort (λx y=>decide (x<=y))=[] by simp];exact aQ 15
 .have f:=PE 9 g D Q (by omega);exact aQ 15
def rK(p k:ab aS):Bool:=decide (p.length<=k.length)&&decide (k.take p.length=p)
def ahL(k p:ab aS):dH prog 166 [S k,S p] (B (rK p k)):=by
 unfold rK;by_cases h:p.length<=k.length
 .rw[iq h,qB];refine aF func166 λW=>?_;refine aa 17 ?_;refine ai.v (V.X8 ad) ?_;exact aQ 8
 .rw[l5 h,tP];refine aF func166 λW=>?_;exact aQ 26
def ajZ(k p:ab aS):dH prog 119 [S k,S p] (B (rK p k)):=by have y:=ahL k p;refine aF func119 λW=>?_;exact aQ 15
def n9(b m:Nat)(l:gm):ab ay:=[cells b 263 (mS.c ⟨.map (some m)⟩),jd m l]
def QN(v:aj)(t:v.oneCell'=true)(p:ab aS):ar prog 228 [v,S p] [] (λr J=>∃a c,r=.func (.func 259) #[] #[av a 0,av c 0]/\J=[cells a 208 [v],cells c 9 [S p]]):=by
 refine aF func228 λW=>?_;refine aa 2 ?_;refine ai.o (O.Wz (λx=>?_));refine ai.o (O.Wz (λx=>?_));refine aa 11 ?_
 exact Mx
def QO(p:fe):ab aj:=[A p.c]
def look(l:gm)(k:ab aS):fe:=(aZ l k).getD fe.z
def qP(p:ab aS)(l:gm)(i:Nat):ab fe:=(((lb l).take i).filter (rK p)).map (look l)
def ua(p:ab aS)(l:gm):ab fe:=((lb l).filter (rK p)).map (look l)
def al2(p:ab aS)(l:gm):qP p l (lb l).length=ua p l:=by unfold qP ua;rw[iI]
def aim{p:ab aS}{l:gm}{i:Nat}(T:(lb l)[i]?=some k):qP p l (i+1)=qP p l i++(if rK p k=true then[look l k]else[]):=by unfold qP;rw[mm T,nA,hJ];congr 1;by_cases h:rK p k=true<;>simp[h]
def afE{p:ab aS}{l:gm}{i:Nat}(T:(lb l)[i]?=some k)(h:rK p k=true):∃w,ua p l=qP p l i++look l k::w:=by
 obtain⟨u,r⟩:=cF.1 T;refine⟨(((lb l).drop (i+1)).filter (rK p)).map (look l),?_⟩;have e:lb l=(lb l).take i++k::(lb l).drop (i+1):=by rw[<-r,List.getElem_cons_drop,nU]
 unfold ua;conv=>lhs;rw[e]
 rw[nA,hJ,ro,aJ h,eE];rfl
def Ja(l:gm):(lb l).length=l.length:=by unfold lb;simp
def kM(w:a2):(Go.zeroValue 346).run prog w=.ok (A fe.z.c) w:=rfl
def Jb(a c b m:Nat)(p:ab aS)(l:gm)(u:l.length<=100000):sg prog 259 [av a 0,av c 0] [cells a 208 [av b 0],cells c 9 [S p],cells b 263 (mS.c ⟨.map (some m)⟩),jd m l] QO (ua p l) [cells a 208 [av b 0],cells c 9 [S p],cells b 263 (mS.c ⟨.map (some m)⟩),jd m l]:=by
 intro y E G X yE j t f;have r:=Ja l;have s:=QF m;have x (q:Nat):=sorted q m l u;refine aF func259 λW=>?_;refine aa 17 ?_;rintro _ _⟨Yc,rfl,rfl⟩;refine au ?_;refine ai.x' rfl (x _) ?_;rintro _ _⟨Ye,rfl,rfl⟩;refine aa 6 ?_;refine ah.fact (h6 VF) λF=>?_;refine ah.cq [14,13,2,1,0] (λy:Nat×E=>y.1<=(lb l).length/\G (qP p l y.1) y.2) (λy=>[(15,I (y.1:Int))]) (λy=>[yE y.2]) (λy=>(lb l).length-y.1) (0,j) ⟨cG _,t⟩ ?_;rintro⟨i,h⟩⟨am,Q⟩ K J;dsimp only at am Q;refine bh ?_;by_cases N:i<(lb l).length
 .obtain⟨k,T⟩:=cl N;rcases F with⟨Y,Z⟩|⟨g,R,rfl,_⟩
  .rw[Z]at N;simp at N
  have n:=ajZ k p;have U:=aim (p:=p) T;cases P:rK p k with
  |false=>
   rw[P]at n U;simp only[h8,iH,db]at U;refine aa 13 ?_;refine ai.v (V.E' ad (k:=i) rfl rfl rfl rfl ac) ?_;refine ai.v (V.Wm ad rfl VF (λ_=>rfl) T) ?_;refine aa 29 ?_;rotate_left;refine Out.C' J (i+1,h) ?_ LY;exact ⟨VU,by show G (qP p l (i+1)) h;rw[U];exact Q⟩
  |true=>
   rw[P]at n U;simp only[ik]at U;obtain⟨w,C⟩:=afE T P;have L:=f (qP p l i) (look l k) w h C Q;refine aa 13 ?_;refine ai.v (V.E' ad (k:=i) rfl rfl rfl rfl ac) ?_;refine ai.v (V.Wm ad rfl VF (λ_=>rfl) T) ?_;refine aa 15 ?_;refine ai.v (aN.Wj (l:=l) (k:=k) (aU:=iy) fe.z ho jA kM rfl rfl VF) ?_;refine ai.o (aw.WX rfl rfl (L) VH ?_);rintro D tU⟨Yg,Yh,rfl,d,M,rfl⟩;refine Si (λYf=>?_) λYf=>?_;refine aa 6 ?_
   .exact⟨_,_,⟨_,.inr ⟨qP p l i++[look l k],⟨w,by rw[C];simp⟩,L7⟩,rfl⟩,VH⟩
   refine aa 7 ?_;rotate_left;refine Out.C' J (i+1,_) ?_ LY;exact ⟨VU,by show G (qP p l (i+1)) _;rw[U];apply_assumption;assumption⟩
 .obtain rfl:i=(lb l).length:=by omega
  rw[al2]at Q;clear J;refine aa 12 ?_
  .exact⟨_,_,⟨h,.inl Q,rfl⟩,VH⟩
end Go.Proofs.YteogojgnkjegmaaGreatDoor
