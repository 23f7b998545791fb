/-
 Part of the proof.
-/
import Derived.Test.YteogojgnkjegmaaGreatDoorXp
set_option linter.all false
set_option maxRecDepth 8000
set_option maxHeartbeats 8000000
namespace Go.Proofs.YteogojgnkjegmaaGreatDoor
open Go.ay Go.Proofs.Tryz
variable[Go.ay.bR]
variable{n:Int}{Z:ab ag}
def bj.Ug{g:bj}(h:g.ok):∀(l:ab ag),(∀x∈l,bB x g.done.aS=true)->∀x,(g.gD l).over x=(g.over x||decide (x∈l))
 |[],_,x=>by show g.over x=_;simp
 |y::l,E,x=>by
  have W:({g with done:=g.done.set y true}:bj).ok:=⟨h.c,aJ.SL h.d y true⟩
  have u:=bj.Ug W l (λz w=>by
   show bB z (g.done.set y true).aS=true
   rw[aJ.SK];exact E z (hn _ w)) x
  have e:g.gD (y::l)=({g with done:=g.done.set y true}:bj).gD l:=rfl;rw[e,u];have J:({g with done:=g.done.set y true}:bj).over x=(g.over x||decide (x=y)):=by
   unfold bj.over;dsimp only;rw[aJ.Sn h.d,E y (iT ..)];by_cases p:x=y
   .rw[aT ⟨rfl,p⟩];simp[p]
   .rw[aN (λu=>p u.2)];simp[p]
  rw[J,Bool.or_assoc];congr 1;grind
def bj.Vv(g:bj):∀(l:ab ag),(g.gD l).done.aS=g.done.aS
 |[]=>rfl
 |y::l=>by have e:g.gD (y::l)=({g with done:=g.done.set y true}:bj).gD l:=rfl;rw[e,bj.Vv _ l];exact aJ.SK ..
def bj.Uh{g:bj}(h:g.ok){x:ag}{c:aV}(u:g.Sm x c=true)(y:ag):(g.R2 x c).is y=(g.is y||decide (y=x)):=by unfold bj.R2;rw[aT u];unfold bj.is;dsimp only;simp only[bj.Sm,cZ]at u;rw[aJ.Sn h.c,u.2.2];grind
def bj.TO(g:bj)(x:ag)(c:aV)(y:ag):(g.R2 x c).over y=g.over y:=by unfold bj.R2;split<;>rfl
def bj.Xd(g:bj)(x:ag)(c:aV):(g.R2 x c).done=g.done:=by unfold bj.R2;split<;>rfl
def bj.Xe(g:bj)(x:ag)(c:aV):(g.R2 x c).calls.aS=g.calls.aS:=by grind [bj.R2,aJ.SK]
structure gS(n:Int)(s:cQ):Prop where
 g:s.g.ok
 aW:s.g.gE
 rc:s.g.calls.aS=n
 rd:s.g.done.aS=n
 hN:n<=7
 on:s.cF.Nodup
 fD:∀x,x∈s.cF↔s.g.is x=true/\s.g.over x=false
 dn:s.done.Nodup
 sr:∀x,x∈s.done↔s.g.over x=true
 fo:∀x,s.g.over x=true->s.g.is x=true
def gS.new(f:0<=n)(h:n<=7):gS n (cQ.new n):=by
 have o {D:Type} [Inhabited D]:(aJ.new n:aJ D).aS=n:=by grind [aJ.new]
 have F (x:ag):(bj.new n).is x=false:=by grind [bj.is,bj.new,aJ.SM]
 have M (x:ag):(bj.new n).over x=false:=by grind [bj.over,bj.new,aJ.SM]
 refine⟨bj.R8 n,bj.WV n,o,o,h,?_,λx=>?_,?_,λx=>?_,λx U=>?_⟩
 .exact oh
 .grind [cQ.new,bj.new]
 .exact oh
 .grind [cQ.new,bj.new]
 .grind [cQ.new,bj.new]
def gS.Ui{s:cQ}(h:gS n s){x:ag}(U:s.g.is x=true):bB x n=true:=by unfold bj.is at U;obtain⟨t,j⟩:=sZ.1 U;have:=aJ.TK j;rwa[h.rc]at this
def gS.Ti{s:cQ}(h:gS n s){l:ab ag}(v:l.Nodup)(E:∀x∈l,s.g.is x=true):l.length<=448:=
 qh v λx U=>ov (h.Ui (E x U)) h.hN
def gS.Tq{s:cQ}(h:gS n s):s.cF.length<=448:=h.Ti h.on λx U=>((h.fD x).1 U).1
def gS.Vw{s:cQ}(h:gS n s):s.done.length<=448:=h.Ti h.dn λx U=>h.fo x ((h.sr x).1 U)
def gS.Vx{s:cQ}(h:gS n s):s.g.calls.aS<=7:=by rw[h.rc];exact h.hN
def gS.R2{s W:cQ}{x:ag}{c:aV}(h:gS n s)(Q:s.S8 x c W):gS n W:=by
 obtain⟨F,M,z⟩:=Q;by_cases u:s.g.Sm x c=true
 .rw[aT u]at z;have U:s.g.is x=false:=by simp only[bj.Sm,cZ,j3]at u;exact u.2.1
  have i:s.g.over x=false:=by
   cases Z:s.g.over x with
   |false=>rfl
   |true=>have:=h.fo x Z;rw[U]at this;cases this
  have k:x∉s.cF:=λK=>by have:=((h.fD x).1 K).1;rw[U]at this;cases this
  refine⟨by rw[F];exact bj.WU h.g x c,by rw[F];exact bj.vv h.g h.aW x c,by rw[F,bj.Xe];exact h.rc,by rw[F,bj.Xd];exact h.rd,h.hN,?_,λy=>?_,by rw[M];exact h.dn,λy=>by rw[M,F,bj.TO];exact h.sr y,λy G=>?_⟩
  .rw[z.nodup_iff,gV];exact⟨h.on,XE,λa o b R=>XK⟩
  .rw[z.mem_iff,F,bj.Uh h.g u,bj.TO,eN,iz,h.fD y];grind
  .rw[F,bj.TO]at G;rw[F,bj.Uh h.g u,h.fo y G];rfl
 .rw[aN u]at z;have e:W=s:=by obtain⟨g,d,o⟩:=s;obtain⟨L,l,n⟩:=W;grind [bj.R2]
  rw[e];exact h
def gS.fin{s:cQ}(h:gS n s){l:ab ag}(v:l.Nodup)(E:∀x∈l,s.g.is x=true/\s.g.over x=false):gS n (s.fin l):=by
 have k:=bj.Ug h.g l (λx U=>by rw[h.rd];exact h.Ui (E x U).1);have K (x:ag):(s.g.gD l).is x=s.g.is x:=rfl;refine⟨bj.T7 h.g l,bj.WW h.aW l,h.rc,(bj.Vv s.g l).trans h.rd,h.hN,h.on.filter _,λx=>?_,?_,λx=>?_,λx U=>?_⟩
 .show x∈s.cF.filter _↔(s.g.gD l).is x=true/\(s.g.gD l).over x=false;rw[r3,h.fD x,K];grind
 .show(s.done++l).Nodup;rw[gV];refine⟨h.dn,v,λa o b R e=>?_⟩;subst e;have:=(h.sr a).1 o;grind
 .show x∈s.done++l↔(s.g.gD l).over x=true;rw[eN,h.sr x,k];grind
 .have U:(s.g.gD l).over x=true:=U;rw[k,ib,da]at U;rcases U with U|U
  .exact h.fo x U
  .exact(E x U).1
structure GoR(n:Int)(s:cQ)(xs:ab ag)(cn:cQ):Prop where
 ok:gS n cn
 calls:cn.g.calls=s.g.calls
 jW:xs.Nodup
 is:∀x∈xs,s.g.is x=true/\s.g.over x=false
 dH:∀x,cn.g.over x=(s.g.over x||decide (x∈xs))
def GoR.refl{s:cQ}(h:gS n s):GoR n s [] s:=⟨h,rfl,XE,XE,λx=>XE⟩
def GoR.TP{s z:cQ}(h:GoR n s Z z)(x:ag):z.g.is x=s.g.is x:=by unfold bj.is;rw[h.calls]
def GoR.fin{s z:cQ}{l:ab ag}(h:GoR n s Z z)(v:l.Nodup)(E:∀x∈l,z.g.is x=true/\z.g.over x=false):GoR n s (Z++l) (z.fin l):=by
 have k:=bj.Ug h.ok.g l (λx U=>by rw[h.ok.rd];exact h.ok.Ui (E x U).1);have M (x:ag) (U:x∈l):x∉Z/\s.g.over x=false:=by have:=(E x U).2;rw[h.dH x,E6,j8]at this;grind
 refine⟨h.ok.fin v E,h.calls,?_,?_,λx=>?_⟩
 .rw[gV];exact⟨h.jW,v,λa o b R e=>(M b R).1 (e▸o)⟩
 .intro x U;rcases eN.1 U with U|U
  .exact h.is x U
  .exact⟨by rw[<-h.TP x];exact(E x U).1,(M x U).2⟩
 .show(z.g.gD l).over x=_;rw[k,h.dH x,Bool.or_assoc];grind
def GoR.len{s z:cQ}(h:GoR n s Z z):Z.length<=448:=h.ok.Ti h.jW λx U=>by rw[h.TP x];exact(h.is x U).1
end Go.Proofs.YteogojgnkjegmaaGreatDoor
namespace Go.ay
open Go
section
variable{P:bF}{r:aQ Nat}{W:aY}{D:ab Nat}{n:c7}{Q:cE}{Y Z:bv}{J F U:ab ax}{G:Array bS}{N:ab bS}{w:aY}
def E7(P:bF)(i:eg)(L:ab aj)(C:ab ax){o M:Type}(f:o->ab aj)(A:M->ab o->Prop)(u:M->ab ax):Prop:=
 ∀(l:Nat) (t:Type) (G X:ab o->t->Prop) (S:t->ax) (K:t),G [] K->
  (∀z pre x d b,A z (pre++x::d)->G pre b->jG P l (f x) [S b] (λv F=>∃q t,v=.bool t/\(t=true->G (pre++[x]) q)/\(t=false->X (pre++[x]) q)/\F=[S q]))->
  ar P i (.func (.yield l) #[] #[]::L) (S K::C) (λ_ F=>∃q z,((∃M,A z M/\G M q)\/∃pre d,A z (pre++d)/\X pre q)/\F=S q::u z)
def ah.l0{o y E8:Type}{g:bd}{aU:ab Tmp}{assign body:Code}{iO:eg}{t:ab aj}{f:o->ab aj}{lX:E8->ab o->Prop}{C T:ab ax}{u:E8->ab ax}(hV:E7 P iO t C f lX u)(S:y->ab ax)(G:ab o->y->Prop)(X:dj->ab o->y->Prop)(k:y)(ep:G [] k)(round:∀z pre x d b l rec,lX z (pre++x::d)->G pre b->o1 rec->∀(eh:aY) (iP:ab Nat) (K:cE),(∀e q,fv e=true->Way G X (pre++[x]) e q->∀a w,H eh iP (iN l rec::S q) w->K e a w)->ah P (some l) eh iP ⟨n.n,[]⟩ (Exit.then (pU P l body K) qQ) assign (o2 aU (f x) Y) (bZ l rec .normal::S b))(done:∀z R b c,lX z R->G R b->Out W D ⟨n.n,c::n.ds⟩ Q .normal Y (fC c::(S b++(u z++T))))(left:∀z b c e pre,fv e=true->eL e=false->(∃d,lX z (pre++d))->X e pre b->Out W D ⟨n.n,c::n.ds⟩ Q e Y (fC c::(S b++(u z++T))))(bU:aO Y g=some (.func (.func iO) #[] t.toArray):=by exact rfl)(Ye:jE P iO=true:=by kernel_rfl)(Yf:ak J (S k++C) T:=by(repeat(first|exact ak.nil|exact al.here|apply ak.cons|apply al.there)))(dO:∀x,aU.length=(f x).length:=by intro _;rfl)(ei:(aU.all λp=>Nat.blt p n.n)=true:=by exact rfl):ah P none W D n Q (.rangeFunc g aU.toArray assign body) Y J:=by
 have Yc:ah P none W D n Q (.rangeFunc g aU.toArray assign body) Y (aI (S k)::(C++T)):=by
  have Yh:∀{e:dj} {pre:ab o} {b:y},fv e=true->Way G X pre e b->(eL e=true/\G pre b)\/(eL e=false/\X e pre b):=by
   intro e pre b m h;cases e with
   |normal=>exact .inl ⟨rfl,h⟩
   |ret=>exact .inr ⟨rfl,h⟩
   |exit id=>exact .inr ⟨rfl,h⟩
   |_=>cases m
  refine ah.Te (km:={p:ab o×o×ab o×y//(∃z,lX z (p.1++p.2.1::p.2.2.1))/\G p.1 p.2.2.2}) (d:=C) (t:=T) (λi=>f i.1.2.1) (aI (S k)) (λi=>aI (S i.1.2.2.2)) (λi e cn=>∃q,cn=aI (S q)/\Way G X (i.1.1++[i.1.2.1]) e q)
   (λe E=>∃q z,E=aI (S q)::u z/\((e=.normal/\∃R,lX z R/\G R q)\/(eL e=false/\∃pre d,lX z (pre++d)/\X e pre q))) bU Ye ?_ (λi=>dO _) ei ?_ ?_ ?_
  .have:∀(l:ab ax) (s:ax),ak (s::(l++T)) (s::l) T:=by
    intro l s;refine ak.cons al.here ?_;induction l with
    |nil=>exact ak.nil
    |cons x l la=>exact ak.cons al.here la
   exact this C _
  .rintro⟨⟨pre,x,d,b⟩,⟨z,cr⟩,dT⟩ l rec e6 eh K cu;have ef:bg [bZ l rec .normal,aI (S b)]=bg (bZ l rec .normal::S b):=by simp only[hS,tg];simp[bg]
   have:=round z pre x d b l rec cr dT e6 eh (bg [bZ l rec .normal,aI (S b)]) K (λe q m dW a w j=>cu e (aI (S q)) m ⟨q,rfl,dW⟩ a w (by have M:H eh (bg [bZ l rec .normal,aI (S b)]) (S q++[iN l rec]) w:=j.perm (by simpa using(mZ (l₁:=[iN l rec]) (l₂:=S q)));exact(M.toBag).perm (gZ ..)))
   refine ah.of λa w cT j=>?_;refine this.get a w cT ?_;have M:=(j.perm (gZ ..)).R7;exact M.perm XE
  .intro l rec e7;have eJ:=hV l (dj×y) (λpre p=>p.1=.normal/\G pre p.2) (λpre p=>fv p.1=true/\eL p.1=false/\X p.1 pre p.2) (λp=>aI [bZ l rec p.1,aI (S p.2)]) (.normal,k) ⟨rfl,ep⟩ ?_
   .refine eJ.conv (λw h=>?_) ?_ ?_
    .exact gI.toBag (bc:=[bZ l rec .normal,aI (S k)]) h
    .exact(qP (bc:=[bZ l rec .normal,aI (S k)])).symm
    .rintro v F⟨⟨e,q⟩,z,bY,rfl⟩;refine⟨bZ l rec e::aI (S q)::u z,⟨e,_,?_,⟨q,z,rfl,?_⟩,rfl⟩,λW D w h=>h.R7 (bc:=[bZ l rec e,aI (S q)])⟩
     .rcases bY with⟨_,_,h,_⟩|⟨_,_,_,h,_⟩
      exact ZI
      .exact h
     .rcases bY with⟨R,dO,h,L⟩|⟨pre,d,ei,_,cp,fZ⟩
      .exact .inl ⟨h,R,dO,L⟩
      .exact .inr ⟨cp,pre,d,ei,fZ⟩
   .rintro z pre x d⟨e,b⟩ cr⟨ea,dT⟩;simp only at ea dT;subst ea;refine(e7 ⟨(pre,x,d,b),⟨z,cr⟩,dT⟩).conv (λw h=>?_) ?_ ?_
    exact Lq
    .have:=(qP (bc:=[bZ l rec .normal,aI (S b)]) (an:=[]))
     simpa using this
    .rintro v F⟨e,cn,rfl,m,⟨q,rfl,dW⟩,rfl⟩;refine⟨[aI [bZ l rec e,aI (S q)]],⟨(e,q),eL e,rfl,λh=>?_,λh=>?_,rfl⟩,λW D w h=>H.toBag (bc:=[bZ l rec e,aI (S q)]) (an:=[]) XV⟩
     .rcases Yh m dW with⟨M,L⟩|⟨M,L⟩
      .refine⟨?_,L⟩;cases e<;>first|rfl|cases M
      .rw[M]at h;cases h
     .rcases Yh m dW with⟨M,L⟩|⟨M,L⟩
      .rw[M]at h;cases h
      .exact⟨m,M,L⟩
  .rintro c e E m⟨q,z,rfl,bY⟩;have conv:∀{e:dj},Out W D ⟨n.n,c::n.ds⟩ Q e Y (fC c::(S q++(u z++T)))->Out W D ⟨n.n,c::n.ds⟩ Q e Y (fC c::(aI (S q)::u z++T)):=λh=>Out.of λa w cT j=>by refine h.get a w cT ?_;have M:H W D (aI (S q)::(fC c::(u z++T))) w:=j.perm HT;exact M.R7.perm mO
   rcases bY with⟨rfl,R,dO,dT⟩|⟨Yg,pre,d,Yi,hW⟩
   .exact conv (done z R q c dO dT)
   .exact conv (left z q c e pre m Yg ⟨d,Yi⟩ hW)
 refine ah.of λa w cT j=>?_;refine Yc.get a w cT ?_;have M:=j.Se Yf;rw[cd]at M;exact M.toBag
end
end Go.ay
namespace Go.Proofs.YteogojgnkjegmaaGreatDoor
open Go.ay Go.Proofs.Tryz
variable[Go.ay.bR]
variable{N:ab ag}{G:ab co}{k:ab aP}{n:Int}
structure vV(n:Int)(s:cQ)(xs:ab ag)(cn:cQ):Prop extends GoR n s xs cn where
 none:s.cF=[]->xs=[]/\cn=s
 one:∀x,s.cF=[x]->s.g.waits x=[]->xs=[x]
def GoR.part{s z D:cQ}{x:ag}{Z:ab ag}{M:ab gd}{j:Nat}{p:gd}(f:GoR n s Z z)(u:lZ z.g x M N G)(h:GoR n s (Z++(M.take j).flatMap (·.l)) D)(r:M[j]?=some p):p.l.Nodup/\∀y∈p.l,D.g.is y=true/\D.g.over y=false:=by
 obtain⟨w,d⟩:=cI.1 r;have n:M=M.take j++p::M.drop (j+1):=by conv=>lhs;rw[<-mU j M,tz w,d]
 have b:=u.jW;rw[n,lP,fG,gV]at b;have a:=(gV.1 b.2.1).1;refine⟨a,λy G=>?_⟩;have K:p∈M:=j5 r;have ao:=u.is y (vd.2 ⟨p,K,G⟩);have v:=ao.2;rw[f.dH y,E6,j8]at v;refine⟨by rw[h.TP y,<-f.TP y];exact ao.1,?_⟩;rw[h.dH y,v.1,yz,j8,eN,q4];refine⟨v.2,λu=>?_⟩;exact b.2.2 y u y (eN.2 (.inl G)) rfl
def GoR.Xf{s s1:cQ}{x y:ag}{q:ab ag}{C:ab gd}{k:Nat}(h:gS n s)(Z:s.cF=[x])(m:s.g.waits x=[])(T:k+1=1)(R:k=0->q=[]/\s1=s)(M:s.cF[k]?=some y)(u:lZ s1.g y C N G):q++C.flatMap (·.l)=[x]:=by
 obtain rfl:k=0:=ac
 obtain⟨rfl,rfl⟩:=R rfl;rw[Z,oZ,er]at M;subst M;have ao:=(h.fD x).1 (by rw[Z];simp);have:=(u.one ao.1 ao.2 m).1;rw[gi,uR,this];rfl
def acy(n:Int)(q P:Nat)(X:ke)(s:cQ)(h:gS n s):E7 prog 157 [au q 0] [cells q 89 [au P 0],i0 P X s] (λx:ag=>[A x.c,A (s.g.call x).c]) (λ(z:ke×cQ) xs=>vV n s xs z.2) (λz=>[cells q 89 [au P 0],i0 P z.1 z.2]):=by
 intro eE mg G Mv S gN Yn lv;have lu (b:mg) (X:ke) (s:cQ):aL [S b,cells q 89 [au P 0],i0 P X s] (S b::cells q 89 [au P 0]::jw P X s):=aL.cons _ (aL.cons _ aL.aI);suffices Yg:ar prog 157 [.func (.yield eE) #[] #[],au q 0] (S gN::cells q 89 [au P 0]::jw P X s) (λ_ Yc=>∃(eM:mg) (z:ke×cQ),((∃xs,vV n s xs z.2/\G xs eM)\/∃pre Ye,vV n s (pre++Ye) z.2/\Mv pre eM)/\Yc=S eM::cells q 89 [au P 0]::jw P z.1 z.2) by refine ar.eqv (lu gN X s) Yg ?_;rintro v Yc⟨eM,z,cm,rfl⟩;exact⟨_,⟨eM,z,cm,rfl⟩,(lu eM z.1 z.2).symm⟩
 have YM:=h.Tq;obtain⟨nX,L,vU,dH⟩:=X;refine aB func157 λW=>?_;unfold jw;refine bh ?_;refine ah.RK ag.c 46 2 ?_;refine ah.fact (hM (f:=ag.c) (v:=dH) (l:=s.cF) ag.len XB) λR=>?_;obtain⟨Yr,Z,bG,rfl,Yv⟩:=R;have Yx:=DH _ _ Z _ _ s.cF Yv ac;refine aa 22 ?_;refine ai.o' rfl (Yx) ?_;rintro v0 s1⟨YX,rfl,rfl⟩;refine aa 6 ?_;refine ah.fact (hM (f:=ag.c) (v:=v0) (l:=s.cF) ag.len XB) λR=>?_;obtain⟨Za,Y3,gP,rfl,YS⟩:=R;refine ah.cb [21,20,1,0] (λz:Nat×ke×cQ×aj×ab ag=>z.1<=s.cF.length/\GoR n s z.2.2.2.2 z.2.2.1/\(z.1=0->z.2.2.2.2=[]/\z.2.2.1=s)/\(∀x,s.cF=[x]->s.g.waits x=[]->z.1=1->z.2.2.2.2=[x]))
  (λz=>[(22,I (z.1:Int)),(3,z.2.2.2.1)]) (λz=>rows ag.c z.2.2.2.1 46 2 z.2.2.2.2::jw P z.2.1 z.2.2.1) (λz=>s.cF.length-z.1) (0,⟨nX,L,vU,.slice Yr s.cF.length Z⟩,s,.slice none 0 0,[]) ⟨cw _,GoR.refl h,λ_=>⟨rfl,rfl⟩,λ_ _ _ h=>absurd (show(0:Nat)=1 from h) XG⟩ ?_
 rintro⟨k,⟨Y,fX,i,F⟩,s1,l1,D⟩⟨cc,M,u,Yo⟩ K cu;dsimp only at cc M u Yo;dsimp only[jw,List.cons_append,List.nil_append];by_cases Yf:k<s.cF.length
 .obtain⟨y,e7⟩:=b8 Yf;have kP:=E4 Y fX s1.g M.ok.g M.ok.aW M.ok.Vx y;refine aa 14 ?_;refine ai.v (V.RP ad rfl YS (iM e7)) ?_;refine aq 0 λlV=>?_;refine aa 4 ?_;refine ah.n' ?_ aA.d'.j.j.j.j.j.j.j.d';refine ae 3 0 ?_;refine ae 1 4 ?_;refine ae 1 3 ?_;refine af.o' 5 rfl rfl (kP) ?_;rintro _ _⟨YO,Y4,d,C,YF,Yh,rfl,rfl⟩;refine aa 2 ?_;refine ae 5 6 ?_;refine aa 10 ?_;rotate_left;have r:lZ s1.g y d C YF:=by assumption
  refine ah.fact (hM (f:=gd.c) (v:=YO) (l:=d) gd.len XB) λR=>?_;obtain⟨Zb,Y5,bD,rfl,YT⟩:=R;have YK:d.length<=448:=jk (Ak _ λp ei=>(r.de p ei).2) (M.ok.Ti r.jW λx cr=>(r.is x cr).1);refine ah.cb [36,35,22,21,20,1,0] (λz:Nat×ke×cQ×aj=>z.1<=d.length/\GoR n s (D++(d.take z.1).flatMap (·.l)) z.2.2.1)
   (λz=>[(37,I (z.1:Int)),(3,z.2.2.2)]) (λz=>rows ag.c z.2.2.2 46 2 (D++(d.take z.1).flatMap (·.l))::jw P z.2.1 z.2.2.1) (λz=>d.length-z.1) (0,⟨Y,fX,i,F⟩,s1,l1) ⟨cw _,Io⟩ ?_ (d:=by rw[uU,m2,dk];(repeat(first|exact ak.nil|exact al.here|apply ak.cons|apply al.there)))
  rintro⟨j,⟨YG,pu,YH,YI⟩,s2,ni⟩⟨eB,J⟩ fa a;dsimp only at eB J;dsimp only[jw,List.cons_append,List.nil_append];by_cases w:j<d.length
  .obtain⟨p,ei⟩:=b8 w;obtain⟨Yu,YB⟩:=GoR.part M r J ei;obtain⟨⟨sq,off,YJ⟩,YP⟩:=r.de p (j5 ei);have m:0<p.l.length:=od.2 YP;have Yk:p.l.length<=448:=J.ok.Ti Yu λx cr=>(YB x cr).1;have Ys:=J.len;have cT:=afb P ⟨YG,pu,YH,YI⟩ s2 J.ok.g (by have:=J.ok.Tq;omega) (by have:=J.ok.Vw;omega) (cR YF) p.cG p.cap sq off p.l YJ ac m;have N:=J.fin Yu YB;have t:(d.take (j+1)).flatMap (·.l)=(d.take j).flatMap (·.l)++p.l:=by rw[mY,ei,lP];simp
   rw[cd,<-t]at N;unfold jw at cT;dsimp only[List.cons_append,List.nil_append]at cT;have Yt:∀v,rows ag.c v 46 2 ((D++(d.take j).flatMap (·.l))++p.l)=rows ag.c v 46 2 (D++(d.take (j+1)).flatMap (·.l)):=λv=>by rw[t,cd]
   generalize Yw:D++(d.take j).flatMap (·.l)=adh at*;refine aa 14 ?_;refine ai.v (V.SU ad rfl YT (iM ei)) ?_;refine aa 8 ?_;rintro _ _⟨YQ,rfl,rfl⟩;refine aa 6 ?_;refine ai.o (O.SC ad rfl rfl XJ (ce.rd ad YJ XB ag.B' ag.len m) (λYD Y6 Y7=>?_));refine aa 8 ?_;rotate_left;rw[Yt];exact Out.t' a (j+1,YQ,s2.fin p.l,YD) ⟨Zw,N⟩ (by show d.length-(j+1)<d.length-j;omega)
  .obtain rfl:j=d.length:=by omega
   clear a;rw[hE]at J⊢;refine aa 17 ?_;exact Out.t' cu (k+1,⟨YG,pu,YH,YI⟩,s2,ni,D++d.flatMap (·.l)) ⟨Yb,J,λeJ=>absurd (show k+1=0 from eJ) ac,λx dz cB YE=>GoR.Xf h dz cB YE u e7 r⟩ MQ
 .obtain rfl:k=s.cF.length:=by omega
  clear cu;have T:vV n s D s1:=⟨M,λdz=>u (by rw[dz];rfl),λx dz cB=>Yo x dz cB (by rw[dz];rfl)⟩
  refine ah.fact (hM (f:=ag.c) (v:=l1) (l:=D) ag.len XB) λR=>?_;obtain⟨Zc,Y8,adL,rfl,YU⟩:=R;have Ys:=M.len;refine aa 20 ?_;refine ah.cb [50,49,1,0] (λz:Nat×mg=>z.1<=D.length/\G (D.take z.1) z.2) (λz=>[(51,I (z.1:Int))]) (λz=>[S z.2]) (λz=>D.length-z.1) (0,gN) ⟨cw _,Yn⟩ ?_;rintro⟨j,nk⟩⟨eB,U⟩ fa a;dsimp only at eB U;refine bh ?_;by_cases w:j<D.length
  .obtain⟨y,e7⟩:=b8 w;obtain⟨Yp,ea⟩:=cI.1 e7;have Yi:D=D.take j++y::D.drop (j+1):=by conv=>lhs;rw[<-mU j D,tz Yp,ea]
   have t:D.take (j+1)=D.take j++[y]:=by rw[mY,e7];rfl
   have Q:=lv (⟨Y,fX,i,F⟩,s1) (D.take j) y (D.drop (j+1)) nk (by rw[<-Yi];exact T) U;rw[<-t]at Q;have ee:=aga Y fX s1.g M.ok.g y;have YV:s1.g.call y=s.g.call y:=by unfold bj.call;rw[M.calls]
   rw[YV]at ee;refine aa 14 ?_;refine ai.v (V.RP ad rfl YU (iM e7)) ?_;refine aq 0 λYj=>?_;refine aa 4 ?_;refine ah.n' ?_ aA.d'.j.j.j.j.j.j.j.d';refine ae 3 0 ?_;refine ae 1 4 ?_;refine af.bu 3 9 rfl rfl ?_ ?_;refine aw.q' (V.y' ad) ?_;refine av ?_;refine af.bu 5 9 rfl rfl ?_ ?_;refine aw.R' rfl (ee) XC ?_;refine NQ λYm=>?_;refine aa 7 ?_;refine ai.o (aw.Sx rfl rfl (Q) XC ?_);rintro v5 E9⟨Y9,Zd,rfl,Yl,Yq,rfl⟩;refine Rl (λYR=>?_) λYR=>?_;refine aa 6 ?_;rotate_left;refine aa 7 ?_;rotate_left;refine O.K' ad (λYm=>?_);refine av ?_;refine af.o' 5 rfl rfl (ee) ?_;refine OZ ?_;refine aa 7 ?_;refine ai.o (aw.Sx rfl rfl (Q) XC ?_);rintro Yz YA⟨YZ,Y1,rfl,YC,Yy,rfl⟩;refine Rl (λE=>?_) λE=>?_;refine aa 6 ?_;rotate_left;refine aa 7 ?_;rotate_left;refine Mx λYm=>?_;refine af.o' 5 rfl rfl (ee) ?_;refine OZ ?_;refine aa 7 ?_;refine ai.o (aw.Sx rfl rfl (Q) XC ?_);rintro Ze YY⟨Y0,Y2,rfl,YL,YW,rfl⟩;refine Rl (λYN=>?_) λYN=>?_;refine aa 6 ?_;rotate_left;refine aa 7 ?_;rotate_left;all_goals first
    |refine Out.t' a (j+1,_) ?_ (by show D.length-(j+1)<D.length-j;omega);exact ⟨Zw,by show G (D.take (j+1)) _;apply_assumption;assumption⟩
    |exact⟨_,_,⟨_,(⟨Y,fX,i,F⟩,s1),.inr ⟨D.take (j+1),D.drop (j+1),by rw[mU];exact T,Ya⟩,rfl⟩,XC⟩
  .obtain rfl:j=D.length:=by omega
   clear a;rw[hE]at U;refine aa 12 ?_;exact⟨_,_,⟨nk,(⟨Y,fX,i,F⟩,s1),.inl ⟨D,T,U⟩,rfl⟩,XC⟩
structure oB(s:cQ)(l:ab ag):Prop where
 jW:l.Nodup
 aW:∀y∈l,s.g.is y=false/\bB y 7=true
 no:s.cF=[]->l=[]
def oB.len{s:cQ}{l:ab ag}(h:oB s l):l.length<=448:=qh h.jW λx U=>(h.aW x U).2
def oB.perm{s:cQ}{l E:ab ag}(h:oB s l)(r:E.Perm l):oB s E:=
 ⟨r.nodup_iff.2 h.jW,λy G=>h.aW y (r.mem_iff.1 G),λZ=>by rw[h.no Z]at r;exact List.perm_nil.1 r⟩
structure ss(s:cQ)(l:ab ag):Prop where
 jW:l.Nodup
 aW:∀y∈l,s.g.is y=false/\bB y 7=true
def ss.add{s:cQ}{l:ab ag}{y:ag}(h:ss s l)(F:y∉l)(M:s.g.is y=false)(W:bB y 7=true):ss s (l++[y]):=by
 refine⟨?_,?_⟩
 .rw[gV];exact⟨h.jW,XE,λa o b R=>by rw[iz]at R;subst R;exactλe=>F (e▸o)⟩
 .intro z w;rcases eN.1 w with w|w
  .exact h.aW z w
  .rw[iz]at w;subst w;exact⟨M,W⟩
def ss.len{s:cQ}{l:ab ag}(h:ss s l):l.length<=448:=qh h.jW λx U=>(h.aW x U).2
def Mw(n:Int)(a:Nat)(X:ke)(s:cQ)(h:gS n s):ar prog 115 [au a 0] [i0 a X s] (λr F=>∃v l,oB s l/\r=v/\F=[rows ag.c v 46 2 l,i0 a X s]):=by
 have lu:aL [i0 a X s] (jw a X s):=aL.aI;suffices q:ar prog 115 [au a 0] (jw a X s) (λr F=>∃v l,oB s l/\r=v/\F=rows ag.c v 46 2 l::jw a X s) by refine ar.eqv lu q ?_;rintro v F⟨dE,l,cm,dd,rfl⟩;exact⟨_,⟨dE,l,cm,dd,rfl⟩,aL.cons _ lu.symm⟩
 have Yr:=h.Tq;obtain⟨nX,L,vU,dH⟩:=X;refine aB func115 λW=>?_;unfold jw;dsimp only;refine ah.RK ag.c 46 2 ?_;refine ah.fact (hM (f:=ag.c) (v:=dH) (l:=s.cF) ag.len XB) λR=>?_;obtain⟨Yl,Yk,bG,rfl,Yn⟩:=R;refine aa 32 ?_;refine ah.cb [16,15,0] (λz:Nat×aj×ab ag=>z.1<=s.cF.length/\ss s z.2.2/\(z.1=0->z.2.2=[])/\z.2.1.oneCell'=true)
  (λz=>[(17,I (z.1:Int)),(3,z.2.1)]) (λz=>[rows ag.c z.2.1 46 2 z.2.2]) (λz=>s.cF.length-z.1) (0,.slice none 0 0,[]) ⟨cw _,⟨oh,λ_ h=>XT⟩,λ_=>rfl,rfl⟩ ?_
 rintro⟨k,l1,G⟩⟨cc,Y,Q,T⟩ K cu;dsimp only at cc Y Q T;refine bh ?_;by_cases E:k<s.cF.length
 .obtain⟨y,e7⟩:=b8 E;have kP:=E4 nX L s.g h.g h.aW h.Vx y;refine aa 14 ?_;refine ai.v (V.RP ad rfl Yn (iM e7)) ?_;refine aq 0 λlV=>?_;refine aa 4 ?_;refine ah.n' ?_ aA.j.j.j.d'.j.d';refine ae 5 0 ?_;refine af.o' 5 rfl rfl (kP) ?_;rintro _ _⟨Yv,D,t,i,Yt,Yf,rfl,rfl⟩;refine aa 2 ?_;refine ae 5 6 ?_;refine aa 10 ?_;rotate_left;have w:lZ s.g y t i Yt:=by assumption
  have Ym:i.length<=448:=qh w.oA λx N=>(w.ms x N).2.2;refine ah.fact (hM (f:=ag.c) (v:=D) (l:=i) ag.len XB) λR=>?_;obtain⟨Ys,Yp,dA,rfl,M⟩:=R;refine ah.cb [31,30,17,16,15,0] (λz:Nat×aj×ab ag=>z.1<=i.length/\ss s z.2.2/\z.2.1.oneCell'=true)
   (λz=>[(32,I (z.1:Int)),(3,z.2.1)]) (λz=>[rows ag.c z.2.1 46 2 z.2.2]) (λz=>i.length-z.1) (0,l1,G) ⟨cw _,Y,T⟩ ?_
  rintro⟨j,ni,J⟩⟨eB,P,m⟩ fa p;dsimp only at eB P m;refine bh ?_;have Yc:=P.len;by_cases C:j<i.length
  .obtain⟨x,N⟩:=b8 C;have u:=w.ms x (j5 N);refine ah.fact (hM (f:=ag.c) (v:=ni) (l:=J) ag.len XB) λR=>?_;obtain⟨Yi,U,vS,rfl,Yj⟩:=R;have b:=DJ _ _ U _ _ J x Yj ac;by_cases d:x∈J
   .rw[iE d]at b;refine aa 14 ?_;refine ai.v (V.RP ad rfl M (iM N)) ?_;refine aq 0 λFa=>?_;refine aa 20 ?_;rotate_left;exact Out.t' p (j+1,.slice Yi J.length U,J) ⟨Zw,P,rfl⟩ Oz
   .rw[kc d]at b;refine aa 14 ?_;refine ai.v (V.RP ad rfl M (iM N)) ?_;refine aq 0 λFa=>?_;refine aa 16 ?_;refine ai.o (O.N' ad ag.c [x] rfl (bx.agg rfl bx.nil) rfl rfl (λYo=>?_));refine ai.o (O.SC ad rfl rfl XJ (ce.rows (l:=[x]) ad XB ag.B') (λYu Yw Yq=>?_));refine aa 8 ?_;rotate_left;exact Out.t' p (j+1,Yu,J++[x]) ⟨Zw,P.add d u.1 u.2.2,XF⟩ Oz
  .obtain rfl:j=i.length:=by omega
   clear p;refine aa 17 ?_;exact Out.t' cu (k+1,ni,J) ⟨Yb,P,λeJ=>absurd (show k+1=0 from eJ) ac,m⟩ MQ
 .obtain rfl:k=s.cF.length:=by omega
  clear cu;have nW:oB s G:=⟨Y.jW,Y.aW,λdz=>Q (by rw[dz];rfl)⟩
  have Yh:=Y.len;refine ah.fact (hc (f:=ag.c) (v:=l1) (l:=G) XB) λZ=>?_;rcases Z with⟨rfl,rfl⟩|⟨lR,jH,rfl,Yg,Ye⟩
  .have r:=aeE (.func (.func 165) #[] #[]) rfl;refine aa 27 ?_;all_goals exact⟨_,_,⟨_,_,nW,rfl,rfl⟩,XC⟩
  .have r:=z2 lR jH G ac (g4 nX L s.g) _ _ (Mq _);unfold dV at r;refine aa 16 ?_;rintro _ _⟨d,Yf,rfl,rfl⟩;refine aa 11 ?_;have r:d.Perm G:=by assumption
   all_goals exact⟨_,_,⟨_,_,nW.perm r,rfl,rfl⟩,XC⟩
abbrev fk:=ab (ab aP×el)
abbrev hi:el->aj:=λp=>A p.c
abbrev hO(m:Nat)(l:fk):ax:=bn kU hi m l
def afA(k:ab aP):ab aj:=[S k]
def h7:g1 prog 261 9 346=true:=rfl
def aaF(m:Nat):ar prog 261 [.map (some m)] [] (λr Y=>∃a,r=.func (.func 276) #[] #[au a 0]/\Y=[cells a 261 [.map (some m)]]):=by refine aB func261 λW=>?_;exact Pq
def Fb{D:Type}:∀{l:ab D} {j:Nat} {x:D},l[j]?=some x->(x::l.eraseIdx j).Perm l
 |[],_,_,h=>XU
 |a::l,0,x,h=>by
  have:a=x:=XV
  subst this;exact gA _
 |a::l,j+1,x,h=>by
  have u:=Fb (l:=l) (j:=j) (x:=x) XV;show(x::a::l.eraseIdx j).Perm (a::l)
  exact(gZ a x _).trans (u.cons a)
structure adq(sj:Type) where
 pre:ab (ab aP)
 c:sj
 todo:fk
 last:aQ (ab aP×el)
def afr(a m:Nat)(l:fk):C3 prog 276 [au a 0] afA (l.map (·.1)) [cells a 261 [.map (some m)],hO m l] [cells a 261 [.map (some m)],hO m l]:=by
 intro y n G X g b L Z;refine ar.post (R:=λ_ Y=>∃P pre q k t,((G pre P/\pre.Perm (l.map (·.1)))\/X pre P)/\Y=[jL kU hi m q l k t,g P,cells a 261 [.map (some m)]]) ?_ ?_
 .refine aB func276 λW=>?_;refine aa 3 ?_;refine ai.o (aw.U4 h7 rfl XJ (λU=>?_));refine aa 3 ?_;refine ah.cb [0,5] (λy:adq n=>G y.pre y.c/\(y.pre++y.todo.map (·.1)).Perm (l.map (·.1))) (λ_=>[]) (λy=>[jL kU hi m U l y.todo y.last,g y.c]) (λy=>y.todo.length) ⟨[],b,l,none⟩ ⟨L,gA _⟩ ?_;rintro⟨pre,c,k,t⟩⟨J,r⟩ K w;dsimp only at J r;refine bh ?_;by_cases f:k=[]
  .subst f;clear w;refine aa 2 ?_;refine ai.o (aw.U5 rfl XB ?_);refine aa 10 ?_
   .exact⟨_,_,⟨c,pre,U,[],t,.inl ⟨J,by simpa using r⟩,rfl⟩,XC⟩
  .refine aa 2 ?_;refine ai.o (aw.U6 f rfl LB (λN C M=>?_));refine aa 8 ?_;obtain⟨x,z⟩:=C;have F:=(cI.1 M).1;have d:((x,z)::k.eraseIdx N).Perm k:=Fb M;have Q:(pre++x::(k.eraseIdx N).map (·.1)).Perm (l.map (·.1)):=by refine kO ?_ r;exact(d.map (·.1)).append_left pre
   have T:=Z pre x _ c Q J;refine aa 2 ?_;refine ai.v (aK.SI (p:=(x,z)) rfl XB) ?_;refine aa 8 ?_;refine ai.o (aw.Sx rfl rfl (T) XC ?_);rintro s i9⟨D,E,rfl,u,i,rfl⟩;refine Rl (λj=>?_) λj=>?_;refine aa 5 ?_
   .exact⟨_,_,⟨_,pre++[x],U,k.eraseIdx N,_,.inr Ya,rfl⟩,XC⟩
   refine aa 2 ?_;refine Out.t' w ⟨pre++[x],_,k.eraseIdx N,some (x,z)⟩ ?_ (by show(k.eraseIdx N).length<k.length;rw[zU,aT F];omega);exact ⟨Ya,by rw[cd];exact Q⟩
 .rintro v Y⟨P,pre,q,k,t,h,rfl⟩;refine⟨[g P,cells a 261 [.map (some m)],hO m l],⟨P,pre,h,rfl⟩,λW D w f=>?_⟩;exact f.TI.perm (mZ (l₁:=[_]) (l₂:=[_,_]))
def MB(a m:Nat)(l:fk)(E:l.length<=100000):ar prog 285 [.slice none 0 0,.func (.func 276) #[] #[au a 0]] [cells a 261 [.map (some m)],hO m l] (λr Y=>∃v c,c.Perm (l.map (·.1))/\r=v/\Y=[cells a 261 [.map (some m)],hO m l,rows eP v 9 1 c]):=by
 refine aB func285 λW=>?_;refine ah.RK eP 9 1 ?_;refine aa 2 ?_;refine ai.o (O.R9 (λL=>?_));refine aa 10 ?_;refine ah.WI (afr a m l) (λy:aj×ab (ab aP)=>[cells L 61 [y.1],rows eP y.1 9 1 y.2]) (λpre y=>y.2=pre) (λ_ _ _=>False) (.slice none 0 0,[]) rfl ?_ ?_ ?_
 .rintro pre i d⟨v,c⟩ s rec p U t z k K w;dsimp only at U;subst U;have g:=p.length_eq;simp only[bM,dp,ev]at g;refine bh ?_;refine aq 8 λn=>?_;refine ai.o (O.O' ad rfl rfl XJ (ce.one (f:=eP) (a:=i) ad XB (λ_=>rfl)) (λj P=>?_));refine aa 3 ?_;exact Out.rd w (.slice (some ⟨j,0,none⟩) (c++[i]).length P,c++[i]) rfl
 .rintro pre⟨v,c⟩ b U p;dsimp only at U;subst U;refine bh ?_;refine aa 10 ?_
  .exact⟨_,_,⟨_,c,p,rfl,rfl⟩,XC⟩
 .intro _ _ _ _ _ _ h;exact h.elim
def MC(a m:Nat)(l:fk)(E:l.length<=100000):ar prog 274 [.func (.func 276) #[] #[au a 0]] [cells a 261 [.map (some m)],hO m l] (λr Y=>∃v w,w.Perm (l.map (·.1))/\r=v/\Y=[cells a 261 [.map (some m)],hO m l,rows eP v 9 1 w]):=by
 have L:=MB a m l E;refine aB func274 λW=>?_;refine aa 9 ?_;rintro _ _⟨a,o,R,rfl,rfl⟩;refine aa 6 ?_
 .exact⟨_,_,⟨_,_,XF,rfl,rfl⟩,XC⟩
def MD{Y l:ab (ab aP)}(h:Y.Perm l):(Y.mergeSort λx y=>decide (x<=y))=(l.mergeSort λx y=>decide (x<=y)):=by
 have o:∀a b c:ab aP,decide (a<=b)=true->decide (b<=c)=true->decide (a<=c)=true:=by intro a b c F M;simp only[da]at*;exact List.le_trans F M
 have L:∀a b:ab aP,(decide (a<=b)||decide (b<=a))=true:=by intro a b;simp only[ib,da];exact List.le_total a b
 have p:(Y.mergeSort λx y=>decide (x<=y)).Perm (l.mergeSort λx y=>decide (x<=y)):=(List.mergeSort_perm _ _).trans (h.trans (List.mergeSort_perm _ _).symm);have s1:=List.pairwise_mergeSort (le:=λx y:ab aP=>decide (x<=y)) o L Y;have s2:=List.pairwise_mergeSort (le:=λx y:ab aP=>decide (x<=y)) o L l;refine List.Perm.eq_of_pairwise ?_ s1 s2 p;intro a b _ _ F M;simp only[da]at*;exact List.le_antisymm F M
def jx(l:fk):ab (ab aP):=(l.map (·.1)).mergeSort λx y=>decide (x<=y)
def sorted(a m:Nat)(l:fk)(E:l.length<=100000):ar prog 260 [.func (.func 276) #[] #[au a 0]] [cells a 261 [.map (some m)],hO m l] (λr Y=>∃v,r=v/\Y=[cells a 261 [.map (some m)],hO m l,rows eP v 9 1 (jx l)]):=by
 have L:=MC a m l E;refine aB func260 λW=>?_;refine aa 9 ?_;rintro _ _⟨p,z,R,rfl,rfl⟩;refine aa 4 ?_;have P:z.Perm (l.map (·.1)):=XF
 have f:jx l=z.mergeSort λx y=>decide (x<=y):=(MD P).symm;have d:=P.length_eq;rw[ev]at d;rw[f];refine ah.fact (hc (aF _ (aF _ (aE _)))) λn=>?_;rcases n with⟨rfl,rfl⟩|⟨g,F,rfl,_⟩
 .have f:=Lu [];rw[show([]:ab (ab aP)).mergeSort (λx y=>decide (x<=y))=[] by simp];exact aM 15
 .have f:=Lt 9 g F z ac;exact aM 15
def pv(p k:ab aP):Bool:=decide (p.length<=k.length)&&decide (k.take p.length=p)
def ME(k p:ab aP):cX prog 166 [S k,S p] (B (pv p k)):=by
 unfold pv;by_cases h:p.length<=k.length
 .rw[iE h,pa];refine aB func166 λW=>?_;refine aa 17 ?_;refine ai.v (V.TD ad) ?_;exact aM 8
 .rw[kc h,sb];refine aB func166 λW=>?_;exact aM 26
def acE(k p:ab aP):cX prog 119 [S k,S p] (B (pv p k)):=by have o:=ME k p;refine aB func119 λW=>?_;exact aM 15
def l0(b m:Nat)(l:fk):ab ax:=[cells b 263 (kL.c ⟨.map (some m)⟩),hO m l]
def MG(v:aj)(t:v.oneCell'=true)(p:ab aP):ar prog 228 [v,S p] [] (λr Y=>∃a c,r=.func (.func 259) #[] #[au a 0,au c 0]/\Y=[cells a 208 [v],cells c 9 [S p]]):=by
 refine aB func228 λW=>?_;refine aa 2 ?_;refine ai.o (O.R9 (λt=>?_));refine ai.o (O.R9 (λa=>?_));refine aa 11 ?_
 exact XZ
def aah(p:el):ab aj:=[A p.c]
def look(l:fk)(k:ab aP):el:=(br l k).getD el.z
def oC(p:ab aP)(l:fk)(i:Nat):ab el:=(((jx l).take i).filter (pv p)).map (look l)
def rt(p:ab aP)(l:fk):ab el:=((jx l).filter (pv p)).map (look l)
def ab7(p:ab aP)(l:fk):oC p l (jx l).length=rt p l:=by unfold oC rt;rw[hE]
def ac2{p:ab aP}{l:fk}{i:Nat}(T:(jx l)[i]?=some k):oC p l (i+1)=oC p l i++(if pv p k=true then[look l k]else[]):=by unfold oC;rw[kl T,mq,iA];congr 1;by_cases h:pv p k=true<;>simp[h]
def MK{p:ab aP}{l:fk}{i:Nat}(T:(jx l)[i]?=some k)(h:pv p k=true):∃d,rt p l=oC p l i++look l k::d:=by
 obtain⟨E,C⟩:=cI.1 T;refine⟨(((jx l).drop (i+1)).filter (pv p)).map (look l),?_⟩;have e:jx l=(jx l).take i++k::(jx l).drop (i+1):=by rw[<-C,List.getElem_cons_drop,mU]
 unfold rt;conv=>lhs;rw[e]
 rw[mq,iA,wX,aT h,eK];rfl
def Fc(l:fk):(jx l).length=l.length:=by unfold jx;simp
def jf(w:aY):(Go.zeroValue 346).run prog w=.ok (A el.z.c) w:=rfl
def Fe(a c b m:Nat)(p:ab aP)(l:fk)(E:l.length<=100000):pW prog 259 [au a 0,au c 0] [cells a 208 [au b 0],cells c 9 [S p],cells b 263 (kL.c ⟨.map (some m)⟩),hO m l] aah (rt p l) [cells a 208 [au b 0],cells c 9 [S p],cells b 263 (kL.c ⟨.map (some m)⟩),hO m l]:=by
 intro y D G X vI Q L Z;have P:=Fc l;have w:=aaF m;have n (q:Nat):=sorted q m l E;refine aB func259 λW=>?_;refine aa 17 ?_;rintro _ _⟨Yc,rfl,rfl⟩;refine av ?_;refine ai.o' rfl (n _) ?_;rintro _ _⟨Ye,rfl,rfl⟩;refine aa 6 ?_;refine ah.fact (hc XB) λN=>?_;refine ah.cb [14,13,2,1,0] (λy:Nat×D=>y.1<=(jx l).length/\G (oC p l y.1) y.2) (λy=>[(15,I (y.1:Int))]) (λy=>[vI y.2]) (λy=>(jx l).length-y.1) (0,Q) ⟨cw _,L⟩ ?_;rintro⟨i,h⟩⟨ao,J⟩ K j;dsimp only at ao J;refine bh ?_;by_cases s:i<(jx l).length
 .obtain⟨k,T⟩:=b8 s;rcases N with⟨F,M⟩|⟨g,u,rfl,_⟩
  .rw[M]at s;simp at s
  have f:=acE k p;have R:=ac2 (p:=p) T;cases r:pv p k with
  |false=>
   rw[r]at f R;simp only[hr,ii,dk]at R;refine aa 13 ?_;refine ai.v (V.x' ad (k:=i) rfl rfl rfl rfl ac) ?_;refine ai.v (V.RZ ad rfl XB (λ_=>rfl) T) ?_;refine aa 29 ?_;rotate_left;refine Out.t' j (i+1,h) ?_ N0;exact ⟨XO,by show G (oC p l (i+1)) h;rw[R];exact J⟩
  |true=>
   rw[r]at f R;simp only[hA]at R;obtain⟨d,Y⟩:=MK T r;have t:=Z (oC p l i) (look l k) d h Y J;refine aa 13 ?_;refine ai.v (V.x' ad (k:=i) rfl rfl rfl rfl ac) ?_;refine ai.v (V.RZ ad rfl XB (λ_=>rfl) T) ?_;refine aa 15 ?_;refine ai.v (aK.RW (l:=l) (k:=k) (aR:=hi) el.z gl h7 jf rfl rfl XB) ?_;refine ai.o (aw.Sx rfl rfl (t) XC ?_);rintro C nc⟨Yg,Yh,rfl,x,U,rfl⟩;refine RD (λYf=>?_) λYf=>?_;refine aa 6 ?_
   .exact⟨_,_,⟨_,.inr ⟨oC p l i++[look l k],⟨d,by rw[Y];simp⟩,Ya⟩,rfl⟩,XC⟩
   refine aa 7 ?_;rotate_left;refine Out.t' j (i+1,_) ?_ N0;exact ⟨XO,by show G (oC p l (i+1)) _;rw[R];apply_assumption;assumption⟩
 .obtain rfl:i=(jx l).length:=by omega
  rw[ab7]at J;clear j;refine aa 12 ?_
  .exact⟨_,_,⟨h,.inl J,rfl⟩,XC⟩
def adr:ar prog 105 [] [] (λr Y=>∃b m,r=au b 0/\Y=l0 b m []):=by
 unfold l0 hO;refine aB func105 λW=>?_;refine aa 7 ?_;refine ai.o (aw.mkMap kU hi rfl (λt=>?_));refine aq 1 λa=>?_;refine aa 5 ?_
 exact XZ
def tU(l:fk)(k v:ab aP):fk:=bw l k ⟨k,v,(look l k).Version+1⟩
def MM(b m:Nat)(l:fk)(k v:ab aP)(t:0<=(look l k).Version/\(look l k).Version<=1000000):ar prog 227 [au b 0,S k,S v] (l0 b m l) (λr Y=>r=A (g0.c ⟨0,[],(look l k).Version+1,.slice none 0 0⟩)/\Y=l0 b m (tU l k v)):=by unfold tU;have a:0<=((br l k).getD el.z).Version/\((br l k).getD el.z).Version<=1000000:=t;unfold l0 hO;refine aB func227 λW=>?_;refine aq 2 λC=>?_;refine aa 9 ?_;refine ai.v (aK.RW (l:=l) (k:=k) (aR:=hi) el.z gl h7 jf rfl rfl XB) ?_;refine aq 0 λY=>?_;refine aa 19 ?_;refine ah.n' ?_ aA.j.d'.j.d';refine ae 6 0 ?_;refine af.p' 6 rfl (aw.R1 (l:=l) (k:=k) (v:=(⟨k,v,(look l k).Version+1⟩:el)) (aR:=hi) gl h7 rfl rfl rfl XQ ?_);exact aM 13
end Go.Proofs.YteogojgnkjegmaaGreatDoor
namespace Go.ay
open Go
variable[Go.ay.bR]
section
variable{P:bF}{n:c7}{N:bv}{R:ab ax}{Z:Nat}{X:aZ}{J:String}{C:Array Edge}{M:aQ (Nat×Bool)}{F U:Type}[DecidableEq F]{G:F->aj}{Y:U->aj}{K:aZ}{l:ab (F×U)}
end
end Go.ay
namespace Go.Proofs.YteogojgnkjegmaaGreatDoor
open Go.ay Go.Proofs.Tryz
variable[Go.ay.bR]
variable{n:Nat}
def kf(r:Int)(v:ab aP)(a:Int):g0:=⟨r,v,a,.slice none 0 0⟩
def oD(l:fk)(d:bP):g0×fk:=
 if d.Kind=0 then(kf 0 [] 0,l)
 else if d.Kind=2 then(kf 0 [] ((look l d.Key).Version+1),tU l d.Key d.Value)
 else if d.Kind=3 then(if(look l d.Key).Version=d.Version then(kf 0 [] ((look l d.Key).Version+1),tU l d.Key d.Value)else(kf 8 [] (look l d.Key).Version,l))
 else if d.Kind=1\/d.Kind=4 then(if(br l d.Key).isSome=true then(if d.Kind=4 then(kf 0 [] (look l d.Key).Version,eC l d.Key)else(kf 0 (look l d.Key).Value (look l d.Key).Version,l))else(kf 5 [] 0,l))
 else(kf 1 [] 0,l)
def ad6(b m:Nat)(l:fk)(d:bP)(T:d.Kind≠5)(t:0<=(look l d.Key).Version/\(look l d.Key).Version<=1000000):ar prog 162 [au b 0,A d.c] (l0 b m l) (λr Q=>r=A (oD l d).1.c/\Q=l0 b m (oD l d).2):=by
 have r:=MM b m l d.Key d.Value t;have g:(br l d.Key).getD el.z=look l d.Key:=rfl;unfold oD kf;unfold l0 hO at r⊢;by_cases f:d.Kind=0
 .rw[aT f];refine Rw (λW a h u=>?_) λW a h=>?_;exact aM 27;refine Rm λu=>?_;exact aM 27
 rw[aN f];by_cases E:d.Kind=2
 .rw[aT E];refine Rw (λW a h u=>?_) λW a h=>?_;exact aM 40;refine Rm λu=>?_;exact aM 40
 rw[aN E];by_cases T:d.Kind=3
 .rw[aT T];by_cases j:(look l d.Key).Version=d.Version
  .rw[aT j];have v:((br l d.Key).getD el.z).Version=d.Version:=j;refine Rw (λW a h u=>?_) λW a h=>?_;exact aM 60;refine Rm λu=>?_;exact aM 60
  .rw[aN j];have v:¬((br l d.Key).getD el.z).Version=d.Version:=j;refine Rw (λW a h u=>?_) λW a h=>?_;exact aM 55;refine Rm λu=>?_;exact aM 55
 rw[aN T];by_cases s:d.Kind=1\/d.Kind=4
 .rw[aT s];cases Q:(br l d.Key).isSome with
  |false=>
   rw[aN XG];rcases s with b|g
   .refine Rw (λW a h u=>?_) λW a h=>?_;exact Kt;refine Rm λu=>?_;exact Kt
   .refine Rw (λW a h u=>?_) λW a h=>?_;exact Kt;refine Rm λu=>?_;exact Kt
  |true=>
   rw[aT rfl];by_cases g:d.Kind=4
   .rw[aT g];refine Rw (λW a h u=>?_) λW a h=>?_;refine aa 65 ?_;refine Q5 λf=>?_;exact MW;refine Rm λu=>?_;refine aa 65 ?_;refine Q5 λf=>?_;exact MW
   .rw[aN g];have b:d.Kind=1:=s.resolve_right g;refine Rw (λW a h u=>?_) λW a h=>?_;refine aa 65 ?_;refine Q5 λQ=>?_;exact aM 24;refine Rm λu=>?_;refine aa 65 ?_;refine Q5 λj=>?_;exact aM 24
 .rw[aN s];refine Rw (λW a h u=>?_) λW a h=>?_;exact aM 68;refine Rm λu=>?_;exact aM 68
def su(p:ab aP)(l:fk):ab (ab aP):=(rt p l).map (·.Key)
def Ap(p:ab aP)(l:fk):(rt p l).length<=l.length:=by unfold rt;rw[ev,<-Fc l];exact ri _ _
structure i1(n:Nat)(l:fk):Prop where
 kV:(l.map (·.1)).Nodup
 len:l.length<=n
 key:∀k p,br l k=some p->p.Key=k/\1<=p.Version/\p.Version<=n
def i1.zero:i1 0 []:=⟨oh,cl _,λk p h=>by rw[mi]at h;cases h⟩
def i1.up{l:fk}(h:i1 n l):i1 (n+1) l:=⟨h.kV,ZZ,λk p r=>by have M:=h.key k p r;exact⟨M.1,M.2.1,ac⟩⟩
def i1.ge{l:fk}(h:i1 n l)(k:ab aP):0<=(look l k).Version/\(look l k).Version<=n:=by
 unfold look;cases q:br l k with
 |none=>exact⟨ju _,by show(0:Int)<=n;omega⟩
 |some p=>have:=h.key k p q;show 0<=p.Version/\p.Version<=n;omega
def adO{l:fk}{k:ab aP}{p:el}:(bw l k p).length<=l.length+1:=by
 induction l with
 |nil=>rw[oe];exact cl _
 |cons q l u=>
  rw[ka];split
  .simp
  .simp only[dp];omega
def i1.put{l:fk}(h:i1 n l)(k v:ab aP):i1 (n+1) (tU l k v):=by
 unfold tU;refine⟨p1 h.kV,jk adO ZZ,λE p r=>?_⟩;rw[kM]at r;have t:=h.ge k;by_cases e:E=k
 .rw[aT e]at r;cases r;refine⟨e.symm,?_,?_⟩
  .show 1<=(look l k).Version+1;omega
  .show(look l k).Version+1<=((n+1:Nat):Int);omega
 .rw[aN e]at r;have:=h.key E p r;refine⟨this.1,this.2.1,ac⟩
def i1.del{l:fk}(h:i1 n l)(k:ab aP):i1 (n+1) (eC l k):=by
 refine⟨q5 h.kV,jk (m6 l k).length_le ZZ,λE p r=>?_⟩;rw[w1 h.kV]at r;split at r
 .cases r
 .have:=h.key E p r;exact⟨this.1,this.2.1,ac⟩
def i1.Uj{l:fk}(h:i1 n l)(d:bP):i1 (n+1) (oD l d).2:=by
 unfold oD;repeat' split
 all_goals first
  |exact h.up
  |exact h.put _ _
  |exact h.del _
end Go.Proofs.YteogojgnkjegmaaGreatDoor
namespace Go.Proofs.YteogojgnkjegmaaGreatDoor
open Go.ay Go.Proofs.Tryz
def Ff{D:Type}{l:ab D}{h:ab Bool}{r k:Nat}(m:D)(T:k≠r):im (l.set r m) (h.set r true) k=im l h k:=by
 have y:(l.set r m)[k]?=l[k]?:=by rw[kq,aN (λe=>T e.symm)]
 have J:(h.set r true)[k]?=h[k]?:=by rw[kq,aN (λe=>T e.symm)]
 unfold im List.getD;rw[y,J]
def Fg{D:Type}{l:ab D}{h:ab Bool}{r:Nat}{m:D}(E:r<l.length)(b:h[r]?=some false):∀k:Nat,(k<=r->h5 (l.set r m) (h.set r true) k=h5 l h k)/\(r<k->(h5 (l.set r m) (h.set r true) k).Perm ((r,m)::h5 l h k))
 |0=>⟨λ_=>rfl,λh=>absurd h ac⟩
 |k+1=>by
  obtain⟨F,M⟩:=Fg (m:=m) E b k;have a:=(cI.1 b).1;refine⟨λT=>?_,λT=>?_⟩
  .rw[nj,nj,F ac,Ff m ac]
  .by_cases P:k=r
   .subst P;have y:im (l.set k m) (h.set k true) k=some (k,m):=by unfold im;rw[List.getD,kq,aT rfl,aT a,aT (by rfl),kq,aT rfl,aT E];rfl
    have J:im l h k=none:=by unfold im;rw[List.getD,b,aN XE]
    rw[nj,nj,F (cl _),y,J];simp only[u9,zO,dk];exact(mZ (l₁:=h5 l h k) (l₂:=[(k,m)]))
   .rw[nj,nj,Ff m P];exact(M ac).append_right _
def Fh{D:Type}{l:ab D}{h:ab Bool}{r:Nat}{m:D}(o:r<7)(E:l.length=7)(y:h[r]?=some false):(fd (l.set r m) (h.set r true)).Perm ((r,m)::fd l h):=
 (Fg ac y 7).2 o
def MP{x:a2}(w:x.wf){h:Int}(u:x.can h=true):h.toNat<7/\x.c2[h.toNat]?=some false:=by
 obtain⟨F,M,g⟩:=a2.TN.1 u;have T:h.toNat<7:=ac
 refine⟨T,?_⟩;cases y:x.c2[h.toNat]? with
 |none=>simp[List.getD,y]at g
 |some v=>simp[List.getD,y]at g;rw[g]
def ab4(n U:Int)(x:ag)(y:bk):ar prog 99 [I n,I U,A x.c,A y.c] [] (λr Y=>∃b,r=au b 0/\Y=[cells b 243 (bK.c {bK.z with n:=n,self:=U,item:=x,b2:=y})]):=by refine aB func99 λW=>?_;refine aq 2 λC=>?_;refine aq 0 λY=>?_;refine aq 10 λF=>?_;exact aM 5
def Fi{l:ab aD}{h:ab Bool}{n:Int}(E:l.length=7)(y:h.length=7):(nH l h n).length=183:=by have e:=jF aD.len l;simp only[nH,bM,e,E,ev,y,m4]
def bK.at{x:bK}(E:x.fx.length=7)(y:x.en.length=7):x.c[190]?=some x.next:=by
 have e:x.c=([.int .i64 x.n,.int .i64 x.self]++(x.item.c++(x.b2.c++([.bool x.lost]++(nH x.fx x.en x.gt)))))++[x.next]:=by simp[bK.c]
 have t:=Fi (n:=x.gt) E y;rw[e,iu (by simp[t,ag.len,bk.len])];simp[t,ag.len,bk.len]
def oE(x:bK)(k:Nat):aD:={aD.z with Kind:=6,bm:=x.self,b3:=(k:Int),Item:=x.item,ch:=x.b2}
def MR(b:Nat)(x:bK)(m:Nat)(p:x.n=(m:Int))(R:m<=100)(j:x.lost=false)(U:x.next=.pointer none)(E:x.fx.length=7)(s:x.en.length=7):ar prog 98 [au b 0] [cells b 243 x.c] (λr Y=>∃v,r=v/\Y=[rows aD.c v 176 25 ((List.range m).map (oE x)),cells b 243 x.c]):=by
 have Q:=bK.at E s;rw[U]at Q;refine aB func98 λW=>?_;refine ah.RK aD.c 176 25 ?_;refine aa 20 ?_;refine ah.cs (λh=>?_) (λh=>?_);exact absurd (hI (ht h) XF:true=false) XG;refine aa 5 ?_;refine ai.v (V.y' ad (g:=Q)) ?_;refine aa 24 ?_;refine ah.cb [28,0] (λy:Nat×aj=>y.1<=m) (λy=>[(29,I (y.1:Int)),(3,y.2)]) (λy=>[rows aD.c y.2 176 25 ((List.range y.1).map (oE x))]) (λy=>m-y.1) (0,_) (cw _) ?_;rintro⟨k,v⟩ T K w;dsimp only at T;refine bh ?_;have d:((List.range k).map (oE x)).length=k:=XE
 by_cases l:k<m
 .have i:(List.range (k+1)).map (oE x)=(List.range k).map (oE x)++[oE x k]:=by rw[se,iA];rfl
  generalize(List.range k).map (oE x)=L at*;have o:(L.length+1)*1000<=1000000:=ac
  refine aa 17 ?_;refine ah.n' ?_ aA.d'.j;refine ae 14 0 ?_;refine af.i' 14 rfl (V.Sj ad (v:=(oE x k).c)) ?_;refine c1 15 λg=>?_;refine af.p' 16 rfl (O.O' ad rfl rfl XJ (ce.one (f:=aD.c) (a:=oE x k) ad XB aD.B') (λP z=>?_));refine av ?_;refine ae 1 17 ?_;refine aa 7 ?_;rotate_left;all_goals exact Out.t' w (k+1,_) Yb (by show m-(k+1)<m-k;omega) (q:=by rw[i];(repeat(first|exact ak.nil|exact al.here|apply ak.cons|apply al.there)))
 .obtain rfl:k=m:=by omega
  clear w;exact aM 20
structure bK.wf(x:bK):Prop where
 fx:x.fx.length=7
 en:x.en.length=7
 gt:0<=x.gt/\x.gt<=50
def bK.pre(x:bK):ab aj:=[I x.n,I x.self]++(x.item.c++(x.b2.c++[B x.lost]))
def bK.Tg(x:bK):x.c=c3 x.pre x.fx x.en x.gt [x.next]:=rfl
def bK.wf.v{x:bK}(w:x.wf):je x.pre 7 x.fx x.en:=⟨rfl,w.fx,w.en⟩
def bK.len{x:bK}(w:x.wf):x.c.length=191:=by rw[bK.Tg,c3.len w.v];rfl
theorem bK.Xg{x:bK}(w:x.wf)(v:aj):bq 190 [v] x.c ({x with next:=v}:bK).c:=⟨by
 have t:=Fi (n:=x.gt) w.fx w.en;have e:∀u:aj,({x with next:=u}:bK).c=([.int .i64 x.n,.int .i64 x.self]++(x.item.c++(x.b2.c++([.bool x.lost]++(nH x.fx x.en x.gt)))))++([u]++[]):=λu=>by simp[bK.c]
 have z:x.c=({x with next:=x.next}:bK).c:=rfl;rw[z,e,e];exact sk (by simp[t,ag.len,bk.len]) rfl⟩
def bK.Xh{x:bK}(w:x.wf):Nat.blt 190 x.c.length=true:=by rw[bK.len w];rfl
def Aq(b:Nat)(x:bK)(w:x.wf)(p:Int)(c:aV):ar prog 265 [au b 0,I p,A c.c] [cells b 243 x.c] (λr Y=>∃q,r=.tuple #[]/\Y=[cells b 243 ({x with next:=au q 0}:bK).c,cells q 183 (lB x.n x.self x.item x.b2 c p).c]):=by have a:=EY x.n x.self x.item x.b2 c p;have R:=bK.Xh w;have Q (q:Nat):=bK.Xg w (au q 0);refine aB func265 λW=>?_;refine aq 2 λC=>?_;refine aa 2 ?_;refine ah.RN [22] ?_ aA.d'.d' aA.j.d';refine ae 4 0 ?_;refine ae 3 5 ?_;refine ae 3 9 ?_;refine ae 3 13 ?_;refine ae 2 17 ?_;refine af.t 4 rfl (V.y' ad) ?_;refine af.t 8 rfl (V.y' ad) ?_;refine af.t 12 rfl (V.Si ad) ?_;refine af.t 16 rfl (V.Si ad) ?_;refine af.o' 19 rfl rfl (a) ?_;rintro _ _⟨W,rfl,rfl⟩;refine aa 2 ?_;refine ae 2 20 ?_;refine af.l 22 rfl (O.G' ad ?_ (j:=R) (z:=Q _));exact aM 3
def xK(x:bK)(c:aV):aD:={aD.z with Kind:=5,b3:=x.self,Item:=x.item,Call:=c}
def gD(x:bK)(c:aV):a2:={lB x.n x.self x.item x.b2 c 2 with call:=c,phase:=3}
def aaY(x:bK)(c:aV)(v:1<=x.n):(lB x.n x.self x.item x.b2 c 2).z' (xK x c)=(gD x c,true):=by
 unfold a2.z';rw[aN (by
  show¬(2<(2:Int)\/x.item≠x.item\/x.self≠x.self\/(0:Int)<0\/x.n<=0)
  simp;omega),aT (show(xK x c).Kind=5 from rfl)]
 rfl
def Fj(b:Nat)(x:bK)(w:x.wf)(c:aV)(v:1<=x.n/\x.n<=1000):ar prog 237 [au b 0,A c.c] [cells b 243 x.c] (λr Y=>∃q,r=.tuple #[]/\Y=[cells b 243 ({x with next:=au q 0}:bK).c,cells q 183 (gD x c).c]):=by have o:=Aq b x w 2 c;have f (q:Nat):=Af q (lB x.n x.self x.item x.b2 c 2) (Ae _ _ _ _ _ _) (xK x c) (show 0<=x.n/\x.n<=1000 by omega);rw[aaY x c v.1]at f;have Q (q:Nat):=bK.at (x:={x with next:=au q 0}) w.fx w.en;refine aB func237 λW=>?_;refine aq 2 λa=>?_;refine aa 7 ?_;rintro _ _⟨y,rfl,rfl⟩;refine aa 3 ?_;refine ah.n' ?_ aA.d'.j.d';refine ae 3 0 ?_;refine af.i' 3 rfl (V.y' ad (g:=Q _)) ?_;refine ae 9 4 ?_;refine af.i' 13 rfl (V.Sj ad (v:=(xK x c).c)) ?_;refine af.o' 14 rfl rfl (f _) ?_;exact aM 4
end Go.Proofs.YteogojgnkjegmaaGreatDoor
