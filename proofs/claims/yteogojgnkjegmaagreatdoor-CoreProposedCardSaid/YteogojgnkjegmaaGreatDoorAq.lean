/-
 Part of the proof.
-/
import Derived.Test.YteogojgnkjegmaaGreatDoorAp
set_option linter.all false
set_option maxRecDepth 8000
set_option maxHeartbeats 8000000
namespace Go.Proofs.YteogojgnkjegmaaGreatDoor
open Go.ay Go.Proofs.Tryz
variable[Go.ay.b4]
variable{n:Int}{Z:ab ag}
def bs.W2{g:bs}(h:g.ok):∀(l:ab ag),(∀x∈l,bq x g.done.aH=true)->∀x,(g.hg l).over x=(g.over x||decide (x∈l))
 |[],_,x=>by show g.over x=_;simp
 |y::l,T,x=>by
  have r:({g with done:=g.done.set y true}:bs).ok:=⟨h.c,aJ.Vr h.d y true⟩
  have o:=bs.W2 r l (λz v=>by
   show bq z (g.done.set y true).aH=true
   rw[aJ.Vq];exact T z (hI _ v)) x
  have e:g.hg (y::l)=({g with done:=g.done.set y true}:bs).hg l:=rfl;rw[e,o];have Y:({g with done:=g.done.set y true}:bs).over x=(g.over x||decide (x=y)):=by
   unfold bs.over;dsimp only;rw[aJ.U5 h.d,T y (gS ..)];by_cases N:x=y
   .rw[aQ ⟨rfl,N⟩];simp[N]
   .rw[aM (λq=>N q.2)];simp[N]
  rw[Y,Bool.or_assoc];congr 1;grind
def bs.ZB(g:bs):∀(l:ab ag),(g.hg l).done.aH=g.done.aH
 |[]=>rfl
 |y::l=>by have e:g.hg (y::l)=({g with done:=g.done.set y true}:bs).hg l:=rfl;rw[e,bs.ZB _ l];exact aJ.Vq ..
def bs.W3{g:bs}(h:g.ok){x:ag}{c:aN}(q:g.U3 x c=true)(y:ag):(g.UF x c).is y=(g.is y||decide (y=x)):=by unfold bs.UF;rw[aQ q];unfold bs.is;dsimp only;simp only[bs.U3,c5]at q;rw[aJ.U5 h.c,q.2.2];grind
def bs.WA(g:bs)(x:ag)(c:aN)(y:ag):(g.UF x c).over y=g.over y:=by unfold bs.UF;split<;>rfl
def bs.abs(g:bs)(x:ag)(c:aN):(g.UF x c).done=g.done:=by unfold bs.UF;split<;>rfl
def bs.abt(g:bs)(x:ag)(c:aN):(g.UF x c).calls.aH=g.calls.aH:=by grind [bs.UF,aJ.Vq]
structure hC(n:Int)(s:db):Prop where
 g:s.g.ok
 aV:s.g.g1
 rc:s.g.calls.aH=n
 rd:s.g.done.aH=n
 gO:n<=7
 on:s.ea.Nodup
 fZ:∀x,x∈s.ea↔s.g.is x=true/\s.g.over x=false
 dn:s.done.Nodup
 ub:∀x,x∈s.done↔s.g.over x=true
 fR:∀x,s.g.over x=true->s.g.is x=true
def hC.new(o:0<=n)(h:n<=7):hC n (db.new n):=by
 have f {t:Type} [Inhabited t]:(aJ.new n:aJ t).aH=n:=by grind [aJ.new]
 have Y (x:ag):(bs.new n).is x=false:=by grind [bs.is,bs.new,aJ.Vw]
 have N (x:ag):(bs.new n).over x=false:=by grind [bs.over,bs.new,aJ.Vw]
 refine⟨bs.UL n,bs.aba n,f,f,h,?_,λx=>?_,?_,λx=>?_,λx U=>?_⟩
 .exact pK
 .grind [db.new,bs.new]
 .exact pK
 .grind [db.new,bs.new]
 .grind [db.new,bs.new]
def hC.W4{s:db}(h:hC n s){x:ag}(U:s.g.is x=true):bq x n=true:=by unfold bs.is at U;obtain⟨t,j⟩:=uT.1 U;have:=aJ.Wv j;rwa[h.rc]at this
def hC.V2{s:db}(h:hC n s){l:ab ag}(a:l.Nodup)(T:∀x∈l,s.g.is x=true):l.length<=448:=
 rJ a λx U=>pS (h.W4 (T x U)) h.gO
def hC.Wb{s:db}(h:hC n s):s.ea.length<=448:=h.V2 h.on λx U=>((h.fZ x).1 U).1
def hC.ZC{s:db}(h:hC n s):s.done.length<=448:=h.V2 h.dn λx U=>h.fR x ((h.ub x).1 U)
def hC.ZD{s:db}(h:hC n s):s.g.calls.aH<=7:=by rw[h.rc];exact h.gO
def hC.UF{s W:db}{x:ag}{c:aN}(h:hC n s)(Q:s.VS x c W):hC n W:=by
 obtain⟨Y,N,R⟩:=Q;by_cases q:s.g.U3 x c=true
 .rw[aQ q]at R;have U:s.g.is x=false:=by simp only[bs.U3,c5,ke]at q;exact q.2.1
  have k:s.g.over x=false:=by
   cases p:s.g.over x with
   |false=>rfl
   |true=>have:=h.fR x p;rw[U]at this;cases this
  have v:x∉s.ea:=λK=>by have:=((h.fZ x).1 K).1;rw[U]at this;cases this
  refine⟨by rw[Y];exact bs.aa9 h.g x c,by rw[Y];exact bs.xr h.g h.aV x c,by rw[Y,bs.abt];exact h.rc,by rw[Y,bs.abs];exact h.rd,h.gO,?_,λy=>?_,by rw[N];exact h.dn,λy=>by rw[N,Y,bs.WA];exact h.ub y,λy F=>?_⟩
  .rw[R.nodup_iff,hH];exact⟨h.on,T3,λa K b X=>Uh⟩
  .rw[R.mem_iff,Y,bs.W3 h.g q,bs.WA,fd,i2,h.fZ y];grind
  .rw[Y,bs.WA]at F;rw[Y,bs.W3 h.g q,h.fR y F];rfl
 .rw[aM q]at R;have e:W=s:=by obtain⟨g,d,o⟩:=s;obtain⟨m,q,t⟩:=W;grind [bs.UF]
  rw[e];exact h
def hC.fin{s:db}(h:hC n s){l:ab ag}(p:l.Nodup)(T:∀x∈l,s.g.is x=true/\s.g.over x=false):hC n (s.fin l):=by
 have J:=bs.W2 h.g l (λx U=>by rw[h.rd];exact h.W4 (T x U).1);have y (x:ag):(s.g.hg l).is x=s.g.is x:=rfl;refine⟨bs.WT h.g l,bs.abb h.aV l,h.rc,(bs.ZB s.g l).trans h.rd,h.gO,h.on.filter _,λx=>?_,?_,λx=>?_,λx U=>?_⟩
 .show x∈s.ea.filter _↔(s.g.hg l).is x=true/\(s.g.hg l).over x=false;rw[oz,h.fZ x,y];grind
 .show(s.done++l).Nodup;rw[hH];refine⟨h.dn,p,λa K b X e=>?_⟩;subst e;have:=(h.ub a).1 K;grind
 .show x∈s.done++l↔(s.g.hg l).over x=true;rw[fd,h.ub x,J];grind
 .have U:(s.g.hg l).over x=true:=U;rw[J,iL,dl]at U;rcases U with U|U
  .exact h.fR x U
  .exact(T x U).1
structure GoR(n:Int)(s:db)(xs:ab ag)(cE:db):Prop where
 ok:hC n cE
 calls:cE.g.calls=s.g.calls
 jN:xs.Nodup
 is:∀x∈xs,s.g.is x=true/\s.g.over x=false
 dN:∀x,cE.g.over x=(s.g.over x||decide (x∈xs))
def GoR.refl{s:db}(h:hC n s):GoR n s [] s:=⟨h,rfl,T3,T3,λx=>T3⟩
def GoR.WB{s d:db}(h:GoR n s Z d)(x:ag):d.g.is x=s.g.is x:=by unfold bs.is;rw[h.calls]
def GoR.fin{s d:db}{l:ab ag}(h:GoR n s Z d)(p:l.Nodup)(T:∀x∈l,d.g.is x=true/\d.g.over x=false):GoR n s (Z++l) (d.fin l):=by
 have J:=bs.W2 h.ok.g l (λx U=>by rw[h.ok.rd];exact h.ok.W4 (T x U).1);have N (x:ag) (U:x∈l):x∉Z/\s.g.over x=false:=by have:=(T x U).2;rw[h.dN x,Cv,jZ]at this;grind
 refine⟨h.ok.fin p T,h.calls,?_,?_,λx=>?_⟩
 .rw[hH];exact⟨h.jN,p,λa K b X e=>(N b X).1 (e▸K)⟩
 .intro x U;rcases fd.1 U with U|U
  .exact h.is x U
  .exact⟨by rw[<-h.WB x];exact(T x U).1,(N x U).2⟩
 .show(d.g.hg l).over x=_;rw[J,h.dN x,Bool.or_assoc];grind
def GoR.len{s d:db}(h:GoR n s Z d):Z.length<=448:=h.ok.V2 h.jN λx U=>by rw[h.WB x];exact(h.is x U).1
end Go.Proofs.YteogojgnkjegmaaGreatDoor
namespace Go.ay
open Go
section
variable{P:bU}{r:aT Nat}{W:aZ}{D:ab Nat}{n:dq}{Q:cU}{Y M:bC}{Z U J:ab ax}{C:Array b6}{N:ab b6}{w:aZ}
def Hu(P:bU)(F:eR)(m:ab aj)(h:ab ax){t X:Type}(g:t->ab aj)(A:X->ab t->Prop)(j:X->ab ax):Prop:=
 ∀(l:Nat) (K:Type) (G X:ab t->K->Prop) (S:K->ax) (q:K),G [] q->
  (∀z pre x L b,A z (pre++x::L)->G pre b->kJ P l (g x) [S b] (λv U=>∃s t,v=.bool t/\(t=true->G (pre++[x]) s)/\(t=false->X (pre++[x]) s)/\U=[S s]))->
  ar P F (.func (.yield l) #[] #[]::m) (S q::h) (λ_ U=>∃s z,((∃K,A z K/\G K s)\/∃pre L,A z (pre++L)/\X pre s)/\U=S s::j z)
def ah.nh{d o Hv:Type}{g:bf}{aY:ab Tmp}{assign body:Code}{jE:eR}{q:ab aj}{t:d->ab aj}{nc:Hv->ab d->Prop}{T j:ab ax}{y:Hv->ab ax}(ib:Hu P jE q T t nc y)(S:o->ab ax)(G:ab d->o->Prop)(X:dI->ab d->o->Prop)(ff:o)(eE:G [] ff)(round:∀z pre x L b l rec,nc z (pre++x::L)->G pre b->qm rec->∀(eI:aZ) (jk:ab Nat) (K:cU),(∀e k,ga e=true->Way G X (pre++[x]) e k->∀a w,H eI jk (jC l rec::S k) w->K e a w)->ah P (some l) eI jk ⟨n.n,[]⟩ (Exit.then (rl P l body K) sl) assign (qn aY (t x) Y) (ce l rec .normal::S b))(done:∀z u b c,nc z u->G u b->Out W D ⟨n.n,c::n.ds⟩ Q .normal Y (gl c::(S b++(y z++j))))(left:∀z b c e pre,ga e=true->fc e=false->(∃L,nc z (pre++L))->X e pre b->Out W D ⟨n.n,c::n.ds⟩ Q e Y (gl c::(S b++(y z++j))))(bF:aR Y g=some (.func (.func jE) #[] q.toArray):=by exact rfl)(Ye:kF P jE=true:=by kernel_rfl)(Yf:ak Z (S ff++T) j:=by(repeat(first|exact ak.nil|exact al.here|apply ak.cons|apply al.there)))(dJ:∀x,aY.length=(t x).length:=by intro _;rfl)(cu:(aY.all λp=>Nat.blt p n.n)=true:=by exact rfl):ah P none W D n Q (.rangeFunc g aY.toArray assign body) Y Z:=by
 have Yc:ah P none W D n Q (.rangeFunc g aY.toArray assign body) Y (aL (S ff)::(T++j)):=by
  have Yh:∀{e:dI} {pre:ab d} {b:o},ga e=true->Way G X pre e b->(fc e=true/\G pre b)\/(fc e=false/\X e pre b):=by
   intro e pre b E h;cases e with
   |normal=>exact .inl ⟨rfl,h⟩
   |ret=>exact .inr ⟨rfl,h⟩
   |exit id=>exact .inr ⟨rfl,h⟩
   |_=>cases E
  refine ah.VZ (lx:={p:ab d×d×ab d×o//(∃z,nc z (p.1++p.2.1::p.2.2.1))/\G p.1 p.2.2.2}) (x:=T) (k:=j) (λi=>t i.1.2.1) (aL (S ff)) (λi=>aL (S i.1.2.2.2)) (λi e cE=>∃k,cE=aL (S k)/\Way G X (i.1.1++[i.1.2.1]) e k)
   (λe m=>∃k z,m=aL (S k)::y z/\((e=.normal/\∃u,nc z u/\G u k)\/(fc e=false/\∃pre L,nc z (pre++L)/\X e pre k))) bF Ye ?_ (λi=>dJ _) cu ?_ ?_ ?_
  .have:∀(l:ab ax) (s:ax),ak (s::(l++j)) (s::l) j:=by
    intro l s;refine ak.cons al.here ?_;induction l with
    |nil=>exact ak.nil
    |cons x l lu=>exact ak.cons al.here lu
   exact this T _
  .rintro⟨⟨pre,x,L,b⟩,⟨z,b3⟩,dv⟩ l rec c1 eI K cA;have dM:bn [ce l rec .normal,aL (S b)]=bn (ce l rec .normal::S b):=by simp only[iJ,u7];simp[bn]
   have:=round z pre x L b l rec b3 dv c1 eI (bn [ce l rec .normal,aL (S b)]) K (λe k E eF a w f=>cA e (aL (S k)) E ⟨k,rfl,eF⟩ a w (by have F:H eI (bn [ce l rec .normal,aL (S b)]) (S k++[jC l rec]) w:=f.perm (by simpa using(oq (l₁:=[jC l rec]) (l₂:=S k)));exact(F.toBag).perm (hK ..)))
   refine ah.of λa w c2 f=>?_;refine this.get a w c2 ?_;have F:=(f.perm (hK ..)).UO;exact F.perm T3
  .intro l rec fy;have dE:=ib l (dI×o) (λpre p=>p.1=.normal/\G pre p.2) (λpre p=>ga p.1=true/\fc p.1=false/\X p.1 pre p.2) (λp=>aL [ce l rec p.1,aL (S p.2)]) (.normal,ff) ⟨rfl,eE⟩ ?_
   .refine dE.conv (λw h=>?_) ?_ ?_
    .exact hn.toBag (be:=[ce l rec .normal,aL (S ff)]) h
    .exact(sk (be:=[ce l rec .normal,aL (S ff)])).symm
    .rintro v U⟨⟨e,k⟩,z,bH,rfl⟩;refine⟨ce l rec e::aL (S k)::y z,⟨e,_,?_,⟨k,z,rfl,?_⟩,rfl⟩,λW D w h=>h.UO (be:=[ce l rec e,aL (S k)])⟩
     .rcases bH with⟨_,_,h,_⟩|⟨_,_,_,h,_⟩
      exact LL
      .exact h
     .rcases bH with⟨u,dJ,h,R⟩|⟨pre,L,cu,_,cd,gX⟩
      .exact .inl ⟨h,u,dJ,R⟩
      .exact .inr ⟨cd,pre,L,cu,gX⟩
   .rintro z pre x L⟨e,b⟩ b3⟨c9,dv⟩;simp only at c9 dv;subst c9;refine(fy ⟨(pre,x,L,b),⟨z,b3⟩,dv⟩).conv (λw h=>?_) ?_ ?_
    exact RT
    .have:=(sk (be:=[ce l rec .normal,aL (S b)]) (an:=[]))
     simpa using this
    .rintro v U⟨e,cE,rfl,E,⟨k,rfl,eF⟩,rfl⟩;refine⟨[aL [ce l rec e,aL (S k)]],⟨(e,k),fc e,rfl,λh=>?_,λh=>?_,rfl⟩,λW D w h=>H.toBag (be:=[ce l rec e,aL (S k)]) (an:=[]) Ub⟩
     .rcases Yh E eF with⟨F,R⟩|⟨F,R⟩
      .refine⟨?_,R⟩;cases e<;>first|rfl|cases F
      .rw[F]at h;cases h
     .rcases Yh E eF with⟨F,R⟩|⟨F,R⟩
      .rw[F]at h;cases h
      .exact⟨E,F,R⟩
  .rintro c e m E⟨k,z,rfl,bH⟩;have conv:∀{e:dI},Out W D ⟨n.n,c::n.ds⟩ Q e Y (gl c::(S k++(y z++j)))->Out W D ⟨n.n,c::n.ds⟩ Q e Y (gl c::(aL (S k)::y z++j)):=λh=>Out.of λa w c2 f=>by refine h.get a w c2 ?_;have F:H W D (aL (S k)::(gl c::(y z++j))) w:=f.perm Oa;exact F.UO.perm n8
   rcases bH with⟨rfl,u,dJ,dv⟩|⟨Yg,pre,L,Yi,iP⟩
   .exact conv (done z u k c dJ dv)
   .exact conv (left z k c e pre E Yg ⟨L,Yi⟩ iP)
 refine ah.of λa w c2 f=>?_;refine Yc.get a w c2 ?_;have F:=f.UP Yf;rw[cn]at F;exact F.toBag
end
end Go.ay
namespace Go.Proofs.YteogojgnkjegmaaGreatDoor
open Go.ay Go.Proofs.Tryz
variable[Go.ay.b4]
variable{X:ab ag}{P:ab gN}{G:ab cI}{k:ab aS}{n:Int}
structure xM(n:Int)(s:db)(xs:ab ag)(cE:db):Prop extends GoR n s xs cE where
 none:s.ea=[]->xs=[]/\cE=s
 one:∀x,s.ea=[x]->s.g.waits x=[]->xs=[x]
def GoR.part{s d Q:db}{x:ag}{Z:ab ag}{j:Nat}{p:gN}(o:GoR n s Z d)(r:ng d.g x P X G)(h:GoR n s (Z++(P.take j).flatMap (·.l)) Q)(z:P[j]?=some p):p.l.Nodup/\∀y∈p.l,Q.g.is y=true/\Q.g.over y=false:=by
 obtain⟨c,L⟩:=cT.1 z;have W:P=P.take j++p::P.drop (j+1):=by conv=>lhs;rw[<-oe j P,vr c,L]
 have x:=r.jN;rw[W,m1,gn,hH]at x;have C:=(hH.1 x.2.1).1;refine⟨C,λy F=>?_⟩;have K:p∈P:=jX z;have ao:=r.is y (w8.2 ⟨p,K,F⟩);have m:=ao.2;rw[o.dN y,Cv,jZ]at m;refine⟨by rw[h.WB y,<-o.WB y];exact ao.1,?_⟩;rw[h.dN y,m.1,wI,jZ,fd,qw];refine⟨m.2,λq=>?_⟩;exact x.2.2 y q y (fd.2 (.inl F)) rfl
def GoR.abu{s s1:db}{x y:ag}{K:ab ag}{k:Nat}(h:hC n s)(p:s.ea=[x])(i:s.g.waits x=[])(u:k+1=1)(c:k=0->K=[]/\s1=s)(F:s.ea[k]?=some y)(r:ng s1.g y P X G):K++P.flatMap (·.l)=[x]:=by
 obtain rfl:k=0:=ac
 obtain⟨rfl,rfl⟩:=c rfl;rw[p,qk,eY]at F;subst F;have ao:=(h.fZ x).1 (by rw[p];simp);have:=(r.one ao.1 ao.2 i).1;rw[gJ,wO,this];rfl
def ajE(n:Int)(q m:Nat)(X:lk)(s:db)(h:hC n s):Hu prog 157 [aw q 0] [cells q 89 [aw m 0],jP m X s] (λx:ag=>[A x.c,A (s.g.call x).c]) (λ(z:lk×db) xs=>xM n s xs z.2) (λz=>[cells q 89 [aw m 0],jP m z.1 z.2]):=by
 intro e3 jD G afm S ff Yo mK;have lE (b:jD) (X:lk) (s:db):aO [S b,cells q 89 [aw m 0],jP m X s] (S b::cells q 89 [aw m 0]::kt m X s):=aO.cons _ (aO.cons _ aO.aL);suffices Yg:ar prog 157 [.func (.yield e3) #[] #[],aw q 0] (S ff::cells q 89 [aw m 0]::kt m X s) (λ_ Yc=>∃(dm:jD) (z:lk×db),((∃xs,xM n s xs z.2/\G xs dm)\/∃pre Ye,xM n s (pre++Ye) z.2/\afm pre dm)/\Yc=S dm::cells q 89 [aw m 0]::kt m z.1 z.2) by refine ar.eqv (lE ff X s) Yg ?_;rintro v Yc⟨dm,z,bg,rfl⟩;exact⟨_,⟨dm,z,bg,rfl⟩,(lE dm z.1 z.2).symm⟩
 have YM:=h.Wb;obtain⟨pp,L,xL,dN⟩:=X;refine aE func157 λW=>?_;unfold kt;refine bl ?_;refine ah.Ur ag.c 46 2 ?_;refine ah.fact (iD (f:=ag.c) (v:=dN) (l:=s.ea) ag.len T1) λD=>?_;obtain⟨Ys,C,bW,rfl,Yy⟩:=D;have Yz:=F3 _ _ C _ _ s.ea Yy ac;refine aa 22 ?_;refine ai.p' rfl (Yz) ?_;rintro v0 s1⟨YX,rfl,rfl⟩;refine aa 6 ?_;refine ah.fact (iD (f:=ag.c) (v:=v0) (l:=s.ea) ag.len T1) λD=>?_;obtain⟨Za,Y3,na,rfl,YS⟩:=D;refine ah.cp [21,20,1,0] (λz:Nat×lk×db×aj×ab ag=>z.1<=s.ea.length/\GoR n s z.2.2.2.2 z.2.2.1/\(z.1=0->z.2.2.2.2=[]/\z.2.2.1=s)/\(∀x,s.ea=[x]->s.g.waits x=[]->z.1=1->z.2.2.2.2=[x]))
  (λz=>[(22,I (z.1:Int)),(3,z.2.2.2.1)]) (λz=>rows ag.c z.2.2.2.1 46 2 z.2.2.2.2::kt m z.2.1 z.2.2.1) (λz=>s.ea.length-z.1) (0,⟨pp,L,xL,.slice Ys s.ea.length C⟩,s,.slice none 0 0,[]) ⟨cO _,GoR.refl h,λ_=>⟨rfl,rfl⟩,λ_ _ _ h=>absurd (show(0:Nat)=1 from h) T6⟩ ?_
 rintro⟨k,⟨a,gA,i,Z⟩,s1,j7,F⟩⟨cc,T,t,Yp⟩ K cA;dsimp only at cc T t Yp;dsimp only[kt,List.cons_append,List.nil_append];by_cases Yf:k<s.ea.length
 .obtain⟨y,fy⟩:=cl Yf;have l4:=Hs a gA s1.g T.ok.g T.ok.aV T.ok.ZD y;refine aa 14 ?_;refine ai.v (V.Ux ad rfl YS (jB fy)) ?_;refine aq 0 λl5=>?_;refine aa 4 ?_;refine ah.n' ?_ aB.d'.j.j.j.j.j.j.j.d';refine ae 3 0 ?_;refine ae 1 4 ?_;refine ae 1 3 ?_;refine af.p' 5 rfl rfl (l4) ?_;rintro _ _⟨YO,Y4,P,M,YF,Yi,rfl,rfl⟩;refine aa 2 ?_;refine ae 5 6 ?_;refine aa 10 ?_;rotate_left;have U:ng s1.g y P M YF:=by assumption
  refine ah.fact (iD (f:=gN.c) (v:=YO) (l:=P) gN.len T1) λD=>?_;obtain⟨Zb,Y5,bQ,rfl,YT⟩:=D;have YK:P.length<=448:=jy (Cq _ λp cu=>(U.dA p cu).2) (T.ok.V2 U.jN λx b3=>(U.is x b3).1);refine ah.cp [36,35,22,21,20,1,0] (λz:Nat×lk×db×aj=>z.1<=P.length/\GoR n s (F++(P.take z.1).flatMap (·.l)) z.2.2.1)
   (λz=>[(37,I (z.1:Int)),(3,z.2.2.2)]) (λz=>rows ag.c z.2.2.2 46 2 (F++(P.take z.1).flatMap (·.l))::kt m z.2.1 z.2.2.1) (λz=>P.length-z.1) (0,⟨a,gA,i,Z⟩,s1,j7) ⟨cO _,by simpa using T⟩ ?_ (o:=by rw[wR,ov,dT];(repeat(first|exact ak.nil|exact al.here|apply ak.cons|apply al.there)))
  rintro⟨j,⟨YG,g4,YH,YI⟩,s2,oK⟩⟨dR,Y⟩ fM r;dsimp only at dR Y;dsimp only[kt,List.cons_append,List.nil_append];by_cases R:j<P.length
  .obtain⟨p,cu⟩:=cl R;obtain⟨Yv,Yw⟩:=GoR.part T U Y cu;obtain⟨⟨rF,off,YJ⟩,YP⟩:=U.dA p (jX cu);have E:0<p.l.length:=pH.2 YP;have Yk:p.l.length<=448:=Y.ok.V2 Yv λx b3=>(Yw x b3).1;have Yt:=Y.len;have c2:=aeY m ⟨YG,g4,YH,YI⟩ s2 Y.ok.g (by have:=Y.ok.Wb;omega) (by have:=Y.ok.ZC;omega) (c8 YF) p.cV p.cap rF off p.l YJ ac E;have Q:=Y.fin Yv Yw;have J:(P.take (j+1)).flatMap (·.l)=(P.take j).flatMap (·.l)++p.l:=by rw[oj,cu,m1];simp
   rw[cn,<-J]at Q;unfold kt at c2;dsimp only[List.cons_append,List.nil_append]at c2;have Ym:∀v,rows ag.c v 46 2 ((F++(P.take j).flatMap (·.l))++p.l)=rows ag.c v 46 2 (F++(P.take (j+1)).flatMap (·.l)):=λv=>by rw[J,cn]
   generalize Yu:F++(P.take j).flatMap (·.l)=ack at*;refine aa 14 ?_;refine ai.v (V.VC ad rfl YT (jB cu)) ?_;refine aa 8 ?_;rintro _ _⟨YQ,rfl,rfl⟩;refine aa 6 ?_;refine ai.o (O.Vj ad rfl rfl T8 (cq.rd ad YJ T1 ag.F' ag.len E) (λYE Y6 Y7=>?_));refine aa 8 ?_;rotate_left;rw[Ym];exact Out.z' r (j+1,YQ,s2.fin p.l,YE) ⟨SB,Q⟩ (by show P.length-(j+1)<P.length-j;omega)
  .obtain rfl:j=P.length:=by omega
   clear r;rw[ir]at Y⊢;refine aa 17 ?_;exact Out.z' cA (k+1,⟨YG,g4,YH,YI⟩,s2,oK,F++P.flatMap (·.l)) ⟨QR,Y,λdE=>absurd (show k+1=0 from dE) ac,λx dy cG Yx=>GoR.abu h dy cG Yx t fy U⟩ Cf
 .obtain rfl:k=s.ea.length:=by omega
  clear cA;have d:xM n s F s1:=⟨T,λdy=>t (by rw[dy];rfl),λx dy cG=>Yp x dy cG (by rw[dy];rfl)⟩
  refine ah.fact (iD (f:=ag.c) (v:=j7) (l:=F) ag.len T1) λD=>?_;obtain⟨Zc,Y8,Cw,rfl,YU⟩:=D;have Yt:=T.len;refine aa 20 ?_;refine ah.cp [50,49,1,0] (λz:Nat×jD=>z.1<=F.length/\G (F.take z.1) z.2) (λz=>[(51,I (z.1:Int))]) (λz=>[S z.2]) (λz=>F.length-z.1) (0,ff) ⟨cO _,Yo⟩ ?_;rintro⟨j,hB⟩⟨dR,N⟩ fM r;dsimp only at dR N;refine bl ?_;by_cases R:j<F.length
  .obtain⟨y,fy⟩:=cl R;obtain⟨Yq,c9⟩:=cT.1 fy;have Yh:F=F.take j++y::F.drop (j+1):=by conv=>lhs;rw[<-oe j F,vr Yq,c9]
   have J:F.take (j+1)=F.take j++[y]:=by rw[oj,fy];rfl
   have u:=mK (⟨a,gA,i,Z⟩,s1) (F.take j) y (F.drop (j+1)) hB (by rw[<-Yh];exact d) N;rw[<-J]at u;have dQ:=ac8 a gA s1.g T.ok.g y;have YV:s1.g.call y=s.g.call y:=by unfold bs.call;rw[T.calls]
   rw[YV]at dQ;refine aa 14 ?_;refine ai.v (V.Ux ad rfl YU (jB fy)) ?_;refine aq 0 λYj=>?_;refine aa 4 ?_;refine ah.n' ?_ aB.d'.j.j.j.j.j.j.j.d';refine OL ?_ ?_ ?_;refine av.Z' rfl (dQ) Uc ?_;refine TJ λYl=>?_;refine aa 7 ?_;refine ai.o (av.Vd rfl rfl (u) Uc ?_);rintro v5 Hw⟨Y9,Zd,rfl,Yn,Yr,rfl⟩;refine Pm (λYR=>?_) λYR=>?_;refine aa 6 ?_;rotate_left;refine aa 7 ?_;rotate_left;refine O.N' ad (λYl=>?_);refine au ?_;refine af.p' 5 rfl rfl (dQ) ?_;refine M3 ?_;refine aa 7 ?_;refine ai.o (av.Vd rfl rfl (u) Uc ?_);rintro YB YC⟨YZ,Y1,rfl,YD,YA,rfl⟩;refine Pm (λw=>?_) λw=>?_;refine aa 6 ?_;rotate_left;refine aa 7 ?_;rotate_left;refine LA λYl=>?_;refine af.p' 5 rfl rfl (dQ) ?_;refine M3 ?_;refine aa 7 ?_;refine ai.o (av.Vd rfl rfl (u) Uc ?_);rintro Ze YY⟨Y0,Y2,rfl,YL,YW,rfl⟩;refine Pm (λYN=>?_) λYN=>?_;refine aa 6 ?_;rotate_left;refine aa 7 ?_;rotate_left;all_goals first
    |refine Out.z' r (j+1,_) ?_ N2;exact ⟨SB,by show G (F.take (j+1)) _;apply_assumption;assumption⟩
    |exact⟨_,_,⟨_,(⟨a,gA,i,Z⟩,s1),.inr ⟨F.take (j+1),F.drop (j+1),by rw[oe];exact d,Ks⟩,rfl⟩,Uc⟩
  .obtain rfl:j=F.length:=by omega
   clear r;rw[ir]at N;refine aa 12 ?_;exact⟨_,_,⟨hB,(⟨a,gA,i,Z⟩,s1),.inl ⟨F,d,N⟩,rfl⟩,Uc⟩
structure pY(s:db)(l:ab ag):Prop where
 jN:l.Nodup
 aV:∀y∈l,s.g.is y=false/\bq y 7=true
 no:s.ea=[]->l=[]
def pY.len{s:db}{l:ab ag}(h:pY s l):l.length<=448:=rJ h.jN λx U=>(h.aV x U).2
def pY.perm{s:db}{l:ab ag}(h:pY s l)(z:X.Perm l):pY s X:=
 ⟨z.nodup_iff.2 h.jN,λy F=>h.aV y (z.mem_iff.1 F),λp=>by rw[h.no p]at z;exact List.perm_nil.1 z⟩
structure uc(s:db)(l:ab ag):Prop where
 jN:l.Nodup
 aV:∀y∈l,s.g.is y=false/\bq y 7=true
def uc.add{s:db}{l:ab ag}{y:ag}(h:uc s l)(Y:y∉l)(N:s.g.is y=false)(R:bq y 7=true):uc s (l++[y]):=by
 refine⟨?_,?_⟩
 .rw[hH];exact⟨h.jN,T3,λa K b X=>by rw[i2]at X;subst X;exactλe=>Y (e▸K)⟩
 .intro z v;rcases fd.1 v with v|v
  .exact h.aV z v
  .rw[i2]at v;subst v;exact⟨N,R⟩
def uc.len{s:db}{l:ab ag}(h:uc s l):l.length<=448:=rJ h.jN λx U=>(h.aV x U).2
def Pc(n:Int)(p:Nat)(X:lk)(s:db)(h:hC n s):ar prog 115 [aw p 0] [jP p X s] (λr N=>∃v l,pY s l/\r=v/\N=[rows ag.c v 46 2 l,jP p X s]):=by
 have lE:aO [jP p X s] (kt p X s):=aO.aL;suffices d:ar prog 115 [aw p 0] (kt p X s) (λr N=>∃v l,pY s l/\r=v/\N=rows ag.c v 46 2 l::kt p X s) by refine ar.eqv lE d ?_;rintro v N⟨ei,l,bg,bY,rfl⟩;exact⟨_,⟨ei,l,bg,bY,rfl⟩,aO.cons _ lE.symm⟩
 have Yr:=h.Wb;obtain⟨pp,L,xL,dN⟩:=X;refine aE func115 λW=>?_;unfold kt;dsimp only;refine ah.Ur ag.c 46 2 ?_;refine ah.fact (iD (f:=ag.c) (v:=dN) (l:=s.ea) ag.len T1) λT=>?_;obtain⟨Yl,Yk,bW,rfl,Yn⟩:=T;refine aa 32 ?_;refine ah.cp [16,15,0] (λz:Nat×aj×ab ag=>z.1<=s.ea.length/\uc s z.2.2/\(z.1=0->z.2.2=[])/\z.2.1.oneCell'=true)
  (λz=>[(17,I (z.1:Int)),(3,z.2.1)]) (λz=>[rows ag.c z.2.1 46 2 z.2.2]) (λz=>s.ea.length-z.1) (0,.slice none 0 0,[]) ⟨cO _,⟨pK,λ_ h=>Ua⟩,λ_=>rfl,rfl⟩ ?_
 rintro⟨k,j7,E⟩⟨cc,C,m,a⟩ K cA;dsimp only at cc C m a;refine bl ?_;by_cases t:k<s.ea.length
 .obtain⟨y,fy⟩:=cl t;have l4:=Hs pp L s.g h.g h.aV h.ZD y;refine aa 14 ?_;refine ai.v (V.Ux ad rfl Yn (jB fy)) ?_;refine aq 0 λl5=>?_;refine aa 4 ?_;refine ah.n' ?_ aB.j.j.j.d'.j.d';refine ae 5 0 ?_;refine af.p' 5 rfl rfl (l4) ?_;rintro _ _⟨Yv,G,Z,F,Yt,Yf,rfl,rfl⟩;refine aa 2 ?_;refine ae 5 6 ?_;refine aa 10 ?_;rotate_left;have U:ng s.g y Z F Yt:=by assumption
  have Ym:F.length<=448:=rJ U.pX λx M=>(U.ms x M).2.2;refine ah.fact (iD (f:=ag.c) (v:=G) (l:=F) ag.len T1) λT=>?_;obtain⟨Ys,Yp,eb,rfl,D⟩:=T;refine ah.cp [31,30,17,16,15,0] (λz:Nat×aj×ab ag=>z.1<=F.length/\uc s z.2.2/\z.2.1.oneCell'=true)
   (λz=>[(32,I (z.1:Int)),(3,z.2.1)]) (λz=>[rows ag.c z.2.1 46 2 z.2.2]) (λz=>F.length-z.1) (0,j7,E) ⟨cO _,C,a⟩ ?_
  rintro⟨j,oK,Y⟩⟨dR,J,u⟩ fM w;dsimp only at dR J u;refine bl ?_;have Yc:=J.len;by_cases R:j<F.length
  .obtain⟨x,M⟩:=cl R;have q:=U.ms x (jX M);refine ah.fact (iD (f:=ag.c) (v:=oK) (l:=Y) ag.len T1) λT=>?_;obtain⟨Yi,i,kr,rfl,Yj⟩:=T;have Q:=F5 _ _ i _ _ Y x Yj ac;by_cases b:x∈Y
   .rw[ic b]at Q;refine aa 14 ?_;refine ai.v (V.Ux ad rfl D (jB M)) ?_;refine aq 0 λHx=>?_;refine aa 20 ?_;rotate_left;exact Out.z' w (j+1,.slice Yi Y.length i,Y) ⟨SB,J,rfl⟩ N2
   .rw[lg b]at Q;refine aa 14 ?_;refine ai.v (V.Ux ad rfl D (jB M)) ?_;refine aq 0 λHx=>?_;refine aa 16 ?_;refine ai.o (O.Q' ad ag.c [x] rfl (bI.agg rfl bI.nil) rfl rfl (λYo=>?_));refine ai.o (O.Vj ad rfl rfl T8 (cq.rows (l:=[x]) ad T1 ag.F') (λYu Yw Yq=>?_));refine aa 8 ?_;rotate_left;exact Out.z' w (j+1,Yu,Y++[x]) ⟨SB,J.add b q.1 q.2.2,TX⟩ N2
  .obtain rfl:j=F.length:=by omega
   clear w;refine aa 17 ?_;exact Out.z' cA (k+1,oK,Y) ⟨QR,J,λdE=>absurd (show k+1=0 from dE) ac,u⟩ Cf
 .obtain rfl:k=s.ea.length:=by omega
  clear cA;have pn:pY s E:=⟨C.jN,C.aV,λdy=>m (by rw[dy];rfl)⟩
  have Yh:=C.len;refine ah.fact (hW (f:=ag.c) (v:=j7) (l:=E) T1) λP=>?_;rcases P with⟨rfl,rfl⟩|⟨jI,jm,rfl,Yg,Ye⟩
  .have v:=aiS (.func (.func 165) #[] #[]) rfl;refine aa 27 ?_;all_goals exact⟨_,_,⟨_,_,pn,rfl,rfl⟩,Uc⟩
  .have v:=Ca jI jm E ac (hO pp L s.g) _ _ (aiH _);unfold eB at v;refine aa 16 ?_;rintro _ _⟨C,Yf,rfl,rfl⟩;refine aa 11 ?_;have z:C.Perm E:=by assumption
   all_goals exact⟨_,_,⟨_,_,pn.perm z,rfl,rfl⟩,Uc⟩
abbrev fN:=ab (ab aS×eV)
abbrev h3:eV->aj:=λp=>A p.c
abbrev iE(m:Nat)(l:fN):ax:=bz ma h3 m l
def ac1(k:ab aS):ab aj:=[S k]
def iY:hv prog 261 9 346=true:=rfl
def ahb(m:Nat):ar prog 261 [.map (some m)] [] (λr J=>∃a,r=.func (.func 276) #[] #[aw a 0]/\J=[cells a 261 [.map (some m)]]):=by refine aE func261 λW=>?_;exact R6
def Hy{t:Type}:∀{l:ab t} {j:Nat} {x:t},l[j]?=some x->(x::l.eraseIdx j).Perm l
 |[],_,_,h=>Uj
 |a::l,0,x,h=>by
  have:a=x:=Ub
  subst this;exact he _
 |a::l,j+1,x,h=>by
  have d:=Hy (l:=l) (j:=j) (x:=x) Ub;show(x::a::l.eraseIdx j).Perm (a::l)
  exact(hK a x _).trans (d.cons a)
structure aeF(tW:Type) where
 pre:ab (ab aS)
 c:tW
 todo:fN
 last:aT (ab aS×eV)
def afB(a m:Nat)(l:fN):Fm prog 276 [aw a 0] ac1 (l.map (·.1)) [cells a 261 [.map (some m)],iE m l] [cells a 261 [.map (some m)],iE m l]:=by
 intro y C G X k Y w j;refine ar.post (R:=λ_ J=>∃g pre q f t,((G pre g/\pre.Perm (l.map (·.1)))\/X pre g)/\J=[kN ma h3 m q l f t,k g,cells a 261 [.map (some m)]]) ?_ ?_
 .refine aE func276 λW=>?_;refine aa 3 ?_;refine ai.o (av.XX iY rfl T8 (λU=>?_));refine aa 3 ?_;refine ah.cp [0,5] (λy:aeF C=>G y.pre y.c/\(y.pre++y.todo.map (·.1)).Perm (l.map (·.1))) (λ_=>[]) (λy=>[kN ma h3 m U l y.todo y.last,k y.c]) (λy=>y.todo.length) ⟨[],Y,l,none⟩ ⟨w,he _⟩ ?_;rintro⟨pre,c,f,t⟩⟨x,z⟩ K b;dsimp only at x z;refine bl ?_;by_cases L:f=[]
  .subst L;clear b;refine aa 2 ?_;refine ai.o (av.XY rfl T1 ?_);refine aa 10 ?_
   .exact⟨_,_,⟨c,pre,U,[],t,.inl ⟨x,LX⟩,rfl⟩,Uc⟩
  .refine aa 2 ?_;refine ai.o (av.XZ L rfl PC (λN P M=>?_));refine aa 8 ?_;obtain⟨n,D⟩:=P;have i:=(cT.1 M).1;have s:((n,D)::f.eraseIdx N).Perm f:=Hy M;have d:(pre++n::(f.eraseIdx N).map (·.1)).Perm (l.map (·.1)):=by refine l3 ?_ z;exact(s.map (·.1)).append_left pre
   have F:=j pre n _ c d x;refine aa 2 ?_;refine ai.v (aK.Vo (p:=(n,D)) rfl T1) ?_;refine aa 8 ?_;refine ai.o (av.Vd rfl rfl (F) Uc ?_);rintro Z g0⟨u,Q,rfl,E,r,rfl⟩;refine Pm (λT=>?_) λT=>?_;refine aa 5 ?_
   .exact⟨_,_,⟨_,pre++[n],U,f.eraseIdx N,_,.inr Ks,rfl⟩,Uc⟩
   refine aa 2 ?_;refine Out.z' b ⟨pre++[n],_,f.eraseIdx N,some (n,D)⟩ ?_ (by show(f.eraseIdx N).length<f.length;rw[B4,aQ i];omega);exact ⟨Ks,by rw[cn];exact d⟩
 .rintro v J⟨g,pre,q,f,t,h,rfl⟩;refine⟨[k g,cells a 261 [.map (some m)],iE m l],⟨g,pre,h,rfl⟩,λW D w r=>?_⟩;exact r.Ws.perm (oq (l₁:=[_]) (l₂:=[_,_]))
def Ph(a m:Nat)(l:fN)(T:l.length<=100000):ar prog 285 [.slice none 0 0,.func (.func 276) #[] #[aw a 0]] [cells a 261 [.map (some m)],iE m l] (λr J=>∃v k,k.Perm (l.map (·.1))/\r=v/\J=[cells a 261 [.map (some m)],iE m l,rows fg v 9 1 k]):=by
 refine aE func285 λW=>?_;refine ah.Ur fg 9 1 ?_;refine aa 2 ?_;refine ai.o (O.UQ (λp=>?_));refine aa 10 ?_;refine ah.aaX (afB a m l) (λy:aj×ab (ab aS)=>[cells p 61 [y.1],rows fg y.1 9 1 y.2]) (λpre y=>y.2=pre) (λ_ _ _=>False) (.slice none 0 0,[]) rfl ?_ ?_ ?_
 .rintro pre i L⟨v,k⟩ h rec z U t c P K n;dsimp only at U;subst U;have w:=z.length_eq;simp only[b2,dD,eT]at w;refine bl ?_;refine aq 8 λs=>?_;refine ai.o (O.U' ad rfl rfl T8 (cq.one (f:=fg) (a:=i) ad T1 (λ_=>rfl)) (λZ F=>?_));refine aa 3 ?_;exact Out.rd n (.slice (some ⟨Z,0,none⟩) (k++[i]).length F,k++[i]) rfl
 .rintro pre⟨v,k⟩ b U z;dsimp only at U;subst U;refine bl ?_;refine aa 10 ?_
  .exact⟨_,_,⟨_,k,z,rfl,rfl⟩,Uc⟩
 .intro _ _ _ _ _ _ h;exact h.elim
def agq(a m:Nat)(l:fN)(T:l.length<=100000):ar prog 274 [.func (.func 276) #[] #[aw a 0]] [cells a 261 [.map (some m)],iE m l] (λr J=>∃v k,k.Perm (l.map (·.1))/\r=v/\J=[cells a 261 [.map (some m)],iE m l,rows fg v 9 1 k]):=by
 have b:=Ph a m l T;refine aE func274 λW=>?_;refine aa 9 ?_;rintro _ _⟨k,t,E,rfl,rfl⟩;refine aa 6 ?_
 .exact⟨_,_,⟨_,_,TX,rfl,rfl⟩,Uc⟩
def adE{E i:ab (ab aS)}(h:E.Perm i):(E.mergeSort λx y=>decide (x<=y))=(i.mergeSort λx y=>decide (x<=y)):=by
 have k:∀a b c:ab aS,decide (a<=b)=true->decide (b<=c)=true->decide (a<=c)=true:=by intro a b c Y N;simp only[dl]at*;exact List.le_trans Y N
 have G:∀a b:ab aS,(decide (a<=b)||decide (b<=a))=true:=by intro a b;simp only[iL,dl];exact List.le_total a b
 have p:(E.mergeSort λx y=>decide (x<=y)).Perm (i.mergeSort λx y=>decide (x<=y)):=(List.mergeSort_perm _ _).trans (h.trans (List.mergeSort_perm _ _).symm);have s1:=List.pairwise_mergeSort (le:=λx y:ab aS=>decide (x<=y)) k G E;have s2:=List.pairwise_mergeSort (le:=λx y:ab aS=>decide (x<=y)) k G i;refine List.Perm.eq_of_pairwise ?_ s1 s2 p;intro a b _ _ Y N;simp only[dl]at*;exact List.le_antisymm Y N
def ku(l:fN):ab (ab aS):=(l.map (·.1)).mergeSort λx y=>decide (x<=y)
def sorted(a m:Nat)(l:fN)(T:l.length<=100000):ar prog 260 [.func (.func 276) #[] #[aw a 0]] [cells a 261 [.map (some m)],iE m l] (λr J=>∃v,r=v/\J=[cells a 261 [.map (some m)],iE m l,rows fg v 9 1 (ku l)]):=by
 have b:=agq a m l T;refine aE func260 λW=>?_;refine aa 9 ?_;rintro _ _⟨i,R,E,rfl,rfl⟩;refine aa 4 ?_;have n:R.Perm (l.map (·.1)):=TX
 have u:ku l=R.mergeSort λx y=>decide (x<=y):=(adE n).symm;have w:=n.length_eq;rw[eT]at w;rw[u];refine ah.fact (hW (aG _ (aG _ (aF _)))) λz=>?_;rcases z with⟨rfl,rfl⟩|⟨g,c,rfl,_⟩
 .have o:=aeT [];rw[show([]:ab (ab aS)).mergeSort (λx y=>decide (x<=y))=[] by simp];exact aP 15
 .have o:=agS 9 g c R ac;exact aP 15
def qP(p k:ab aS):Bool:=decide (p.length<=k.length)&&decide (k.take p.length=p)
def ahI(k p:ab aS):dr prog 166 [S k,S p] (B (qP p k)):=by
 unfold qP;by_cases h:p.length<=k.length
 .rw[ic h,qu];refine aE func166 λW=>?_;refine aa 17 ?_;refine ai.v (V.Wn ad) ?_;exact aP 8
 .rw[lg h,sM];refine aE func166 λW=>?_;exact aP 26
def ahY(k p:ab aS):dr prog 119 [S k,S p] (B (qP p k)):=by have v:=ahI k p;refine aE func119 λW=>?_;exact aP 15
def nh(b m:Nat)(l:fN):ab ax:=[cells b 263 (lZ.c ⟨.map (some m)⟩),iE m l]
def Pn(v:aj)(W:v.oneCell'=true)(p:ab aS):ar prog 228 [v,S p] [] (λr J=>∃a c,r=.func (.func 259) #[] #[aw a 0,aw c 0]/\J=[cells a 208 [v],cells c 9 [S p]]):=by
 refine aE func228 λW=>?_;refine aa 2 ?_;refine ai.o (O.UQ (λp=>?_));refine ai.o (O.UQ (λm=>?_));refine aa 11 ?_
 exact R7
def adA(p:eV):ab aj:=[A p.c]
def look(l:fN)(k:ab aS):eV:=(a8 l k).getD eV.z
def pZ(p:ab aS)(l:fN)(i:Nat):ab eV:=(((ku l).take i).filter (qP p)).map (look l)
def s0(p:ab aS)(l:fN):ab eV:=((ku l).filter (qP p)).map (look l)
def Pp(p:ab aS)(l:fN):pZ p l (ku l).length=s0 p l:=by unfold pZ s0;rw[ir]
def Pq{p:ab aS}{l:fN}{i:Nat}(u:(ku l)[i]?=some k):pZ p l (i+1)=pZ p l i++(if qP p k=true then[look l k]else[]):=by unfold pZ;rw[lw u,nH,jo];congr 1;by_cases h:qP p k=true<;>simp[h]
def ag3{p:ab aS}{l:fN}{i:Nat}(u:(ku l)[i]?=some k)(h:qP p k=true):∃L,s0 p l=pZ p l i++look l k::L:=by
 obtain⟨T,L⟩:=cT.1 u;refine⟨(((ku l).drop (i+1)).filter (qP p)).map (look l),?_⟩;have e:ku l=(ku l).take i++k::(ku l).drop (i+1):=by rw[<-L,List.getElem_cons_drop,oe]
 unfold s0;conv=>lhs;rw[e]
 rw[nH,jo,vj,aQ h,e7];rfl
def Hz(l:fN):(ku l).length=l.length:=by unfold ku;simp
def j8(w:aZ):(Go.zeroValue 346).run prog w=.ok (A eV.z.c) w:=rfl
def HA(a c b m:Nat)(p:ab aS)(l:fN)(T:l.length<=100000):rm prog 259 [aw a 0,aw c 0] [cells a 208 [aw b 0],cells c 9 [S p],cells b 263 (lZ.c ⟨.map (some m)⟩),iE m l] adA (s0 p l) [cells a 208 [aw b 0],cells c 9 [S p],cells b 263 (lZ.c ⟨.map (some m)⟩),iE m l]:=by
 intro y M G X xC D d Z;have J:=Hz l;have n:=ahb m;have s (q:Nat):=sorted q m l T;refine aE func259 λW=>?_;refine aa 17 ?_;rintro _ _⟨Yc,rfl,rfl⟩;refine au ?_;refine ai.p' rfl (s _) ?_;rintro _ _⟨Ye,rfl,rfl⟩;refine aa 6 ?_;refine ah.fact (hW T1) λE=>?_;refine ah.cp [14,13,2,1,0] (λy:Nat×M=>y.1<=(ku l).length/\G (pZ p l y.1) y.2) (λy=>[(15,I (y.1:Int))]) (λy=>[xC y.2]) (λy=>(ku l).length-y.1) (0,D) ⟨cO _,d⟩ ?_;rintro⟨i,U⟩⟨ao,x⟩ K w;dsimp only at ao x;refine bl ?_;by_cases h:i<(ku l).length
 .obtain⟨k,u⟩:=cl h;rcases E with⟨Y,N⟩|⟨g,f,rfl,_⟩
  .rw[N]at h;simp at h
  have r:=ahY k p;have R:=Pq (p:=p) u;cases P:qP p k with
  |false=>
   rw[P]at r R;simp only[hM,iq,dT]at R;refine aa 13 ?_;refine ai.v (V.B' ad (k:=i) rfl rfl rfl rfl ac) ?_;refine ai.v (V.UH ad rfl T1 (λ_=>rfl) u) ?_;refine aa 29 ?_;rotate_left;refine Out.z' w (i+1,U) ?_ MS;exact ⟨Uk,by show G (pZ p l (i+1)) U;rw[R];exact x⟩
  |true=>
   rw[P]at r R;simp only[h7]at R;obtain⟨L,j⟩:=ag3 u P;have t:=Z (pZ p l i) (look l k) L U j x;refine aa 13 ?_;refine ai.v (V.B' ad (k:=i) rfl rfl rfl rfl ac) ?_;refine ai.v (V.UH ad rfl T1 (λ_=>rfl) u) ?_;refine aa 15 ?_;refine ai.v (aK.UD (l:=l) (k:=k) (aU:=h3) eV.z gU iY j8 rfl rfl T1) ?_;refine ai.o (av.Vd rfl rfl (t) Uc ?_);rintro Q oF⟨Yg,Yh,rfl,C,F,rfl⟩;refine PD (λYf=>?_) λYf=>?_;refine aa 6 ?_
   .exact⟨_,_,⟨_,.inr ⟨pZ p l i++[look l k],⟨L,by rw[j];simp⟩,Ks⟩,rfl⟩,Uc⟩
   refine aa 7 ?_;rotate_left;refine Out.z' w (i+1,_) ?_ MS;exact ⟨Uk,by show G (pZ p l (i+1)) _;rw[R];apply_assumption;assumption⟩
 .obtain rfl:i=(ku l).length:=by omega
  rw[Pp]at x;clear w;refine aa 12 ?_
  .exact⟨_,_,⟨U,.inl x,rfl⟩,Uc⟩
def Ps:ar prog 105 [] [] (λr J=>∃b m,r=aw b 0/\J=nh b m []):=by
 unfold nh iE;refine aE func105 λW=>?_;refine aa 7 ?_;refine ai.o (av.mkMap ma h3 rfl (λl=>?_));refine aq 1 λm=>?_;refine aa 5 ?_
 exact R7
def vM(l:fN)(k v:ab aS):fN:=bx l k ⟨k,v,(look l k).Version+1⟩
def Pt(b m:Nat)(l:fN)(k v:ab aS)(W:0<=(look l k).Version/\(look l k).Version<=1000000):ar prog 227 [aw b 0,S k,S v] (nh b m l) (λr J=>r=A (hL.c ⟨0,[],(look l k).Version+1,.slice none 0 0⟩)/\J=nh b m (vM l k v)):=by unfold vM;have w:0<=((a8 l k).getD eV.z).Version/\((a8 l k).getD eV.z).Version<=1000000:=W;unfold nh iE;refine aE func227 λW=>?_;refine aq 2 λg=>?_;refine aa 9 ?_;refine ai.v (aK.UD (l:=l) (k:=k) (aU:=h3) eV.z gU iY j8 rfl rfl T1) ?_;refine aq 0 λu=>?_;refine aa 19 ?_;refine ah.n' ?_ aB.j.d'.j.d';refine ae 6 0 ?_;refine af.q' 6 rfl (av.UC (l:=l) (k:=k) (v:=(⟨k,v,(look l k).Version+1⟩:eV)) (aU:=h3) gU iY rfl rfl rfl T4 ?_);exact aP 13
end Go.Proofs.YteogojgnkjegmaaGreatDoor
namespace Go.ay
open Go
variable[Go.ay.b4]
section
variable{P:bU}{n:dq}{Z:bC}{X:ab ax}{M:Nat}{F:a7}{N:String}{C:Array Edge}{T:aT (Nat×Bool)}{U J:Type}[DecidableEq U]{K:U->aj}{Y:J->aj}{u:a7}{l:ab (U×J)}
end
end Go.ay
namespace Go.Proofs.YteogojgnkjegmaaGreatDoor
open Go.ay Go.Proofs.Tryz
variable[Go.ay.b4]
variable{n:Nat}
def ll(E:Int)(v:ab aS)(Q:Int):hL:=⟨E,v,Q,.slice none 0 0⟩
def p0(l:fN)(d:bN):hL×fN:=
 if d.Kind=0 then(ll 0 [] 0,l)
 else if d.Kind=2 then(ll 0 [] ((look l d.Key).Version+1),vM l d.Key d.Value)
 else if d.Kind=3 then(if(look l d.Key).Version=d.Version then(ll 0 [] ((look l d.Key).Version+1),vM l d.Key d.Value)else(ll 8 [] (look l d.Key).Version,l))
 else if d.Kind=1\/d.Kind=4 then(if(a8 l d.Key).isSome=true then(if d.Kind=4 then(ll 0 [] (look l d.Key).Version,e9 l d.Key)else(ll 0 (look l d.Key).Value (look l d.Key).Version,l))else(ll 5 [] 0,l))
 else(ll 1 [] 0,l)
def ajO(b m:Nat)(l:fN)(d:bN)(E:d.Kind≠5)(W:0<=(look l d.Key).Version/\(look l d.Key).Version<=1000000):ar prog 162 [aw b 0,A d.c] (nh b m l) (λr E=>r=A (p0 l d).1.c/\E=nh b m (p0 l d).2):=by
 have E:=Pt b m l d.Key d.Value W;have f:(a8 l d.Key).getD eV.z=look l d.Key:=rfl;unfold p0 ll;unfold nh iE at E⊢;by_cases Q:d.Kind=0
 .rw[aQ Q];refine J8 (λW m E g=>?_) λW m E=>?_;exact aP 27;refine TN λg=>?_;exact aP 27
 rw[aM Q];by_cases Q:d.Kind=2
 .rw[aQ Q];refine J8 (λW m E g=>?_) λW m E=>?_;exact aP 40;refine TN λg=>?_;exact aP 40
 rw[aM Q];by_cases Q:d.Kind=3
 .rw[aQ Q];by_cases q:(look l d.Key).Version=d.Version
  .rw[aQ q];have D:((a8 l d.Key).getD eV.z).Version=d.Version:=q;refine J8 (λW m E g=>?_) λW m E=>?_;exact aP 60;refine TN λg=>?_;exact aP 60
  .rw[aM q];have D:¬((a8 l d.Key).getD eV.z).Version=d.Version:=q;refine J8 (λW m E g=>?_) λW m E=>?_;exact aP 55;refine TN λg=>?_;exact aP 55
 rw[aM Q];by_cases s:d.Kind=1\/d.Kind=4
 .rw[aQ s];cases Q:(a8 l d.Key).isSome with
  |false=>
   rw[aM T6];rcases s with j|Q
   .refine J8 (λW m E g=>?_) λW m E=>?_;exact Lz;refine TN λg=>?_;exact Lz
   .refine J8 (λW m E g=>?_) λW m E=>?_;exact Lz;refine TN λg=>?_;exact Lz
  |true=>
   rw[aQ rfl];by_cases Q:d.Kind=4
   .rw[aQ Q];refine J8 (λW m E g=>?_) λW m E=>?_;refine aa 65 ?_;refine Nd λq=>?_;exact QB;refine TN λg=>?_;refine aa 65 ?_;refine Nd λq=>?_;exact QB
   .rw[aM Q];have j:d.Kind=1:=s.resolve_right Q;refine J8 (λW m E g=>?_) λW m E=>?_;refine aa 65 ?_;refine Nd λQ=>?_;exact aP 24;refine TN λg=>?_;refine aa 65 ?_;refine Nd λQ=>?_;exact aP 24
 .rw[aM s];refine J8 (λW m E g=>?_) λW m E=>?_;exact aP 68;refine TN λg=>?_;exact aP 68
def ud(p:ab aS)(l:fN):ab (ab aS):=(s0 p l).map (·.Key)
def Cx(p:ab aS)(l:fN):(s0 p l).length<=l.length:=by unfold s0;rw[eT,<-Hz l];exact sP _ _
structure jQ(n:Nat)(l:fN):Prop where
 mb:(l.map (·.1)).Nodup
 len:l.length<=n
 key:∀k p,a8 l k=some p->p.Key=k/\1<=p.Version/\p.Version<=n
def jQ.zero:jQ 0 []:=⟨pK,cD _,λk p h=>by rw[m4]at h;cases h⟩
def jQ.up{l:fN}(h:jQ n l):jQ (n+1) l:=⟨h.mb,J5,λk p z=>by have N:=h.key k p z;exact⟨N.1,N.2.1,ac⟩⟩
def jQ.gP{l:fN}(h:jQ n l)(k:ab aS):0<=(look l k).Version/\(look l k).Version<=n:=by
 unfold look;cases G:a8 l k with
 |none=>exact⟨gg _,by show(0:Int)<=n;omega⟩
 |some p=>have:=h.key k p G;show 0<=p.Version/\p.Version<=n;omega
def acw{l:fN}{k:ab aS}{p:eV}:(bx l k p).length<=l.length+1:=by
 induction l with
 |nil=>rw[qv];exact cD _
 |cons q l d=>
  rw[lB];split
  .simp
  .simp only[dD];omega
def jQ.put{l:fN}(h:jQ n l)(k v:ab aS):jQ (n+1) (vM l k v):=by
 unfold vM;refine⟨qy h.mb,jy acw J5,λu p z=>?_⟩;rw[hw]at z;have W:=h.gP k;by_cases e:u=k
 .rw[aQ e]at z;cases z;refine⟨e.symm,?_,?_⟩
  .show 1<=(look l k).Version+1;omega
  .show(look l k).Version+1<=((n+1:Nat):Int);omega
 .rw[aM e]at z;have:=h.key u p z;refine⟨this.1,this.2.1,ac⟩
def jQ.del{l:fN}(h:jQ n l)(k:ab aS):jQ (n+1) (e9 l k):=by
 refine⟨sE h.mb,jy (pM l k).length_le J5,λu p z=>?_⟩;rw[sF h.mb]at z;split at z
 .cases z
 .have:=h.key u p z;exact⟨this.1,this.2.1,ac⟩
def jQ.W5{l:fN}(h:jQ n l)(d:bN):jQ (n+1) (p0 l d).2:=by
 unfold p0;repeat' split
 all_goals first
  |exact h.up
  |exact h.put _ _
  |exact h.del _
end Go.Proofs.YteogojgnkjegmaaGreatDoor
namespace Go.Proofs.YteogojgnkjegmaaGreatDoor
open Go.ay Go.Proofs.Tryz
def HB{t:Type}{l:ab t}{h:ab Bool}{r k:Nat}(m:t)(u:k≠r):i7 (l.set r m) (h.set r true) k=i7 l h k:=by
 have c:(l.set r m)[k]?=l[k]?:=by rw[l0,aM (λe=>u e.symm)]
 have Y:(h.set r true)[k]?=h[k]?:=by rw[l0,aM (λe=>u e.symm)]
 unfold i7 List.getD;rw[c,Y]
def HC{t:Type}{l:ab t}{h:ab Bool}{r:Nat}{m:t}(T:r<l.length)(j:h[r]?=some false):∀k:Nat,(k<=r->iW (l.set r m) (h.set r true) k=iW l h k)/\(r<k->(iW (l.set r m) (h.set r true) k).Perm ((r,m)::iW l h k))
 |0=>⟨λ_=>rfl,λh=>absurd h ac⟩
 |k+1=>by
  obtain⟨Y,N⟩:=HC (m:=m) T j k;have D:=(cT.1 j).1;refine⟨λu=>?_,λu=>?_⟩
  .rw[oL,oL,Y ac,HB m ac]
  .by_cases C:k=r
   .subst C;have c:i7 (l.set k m) (h.set k true) k=some (k,m):=by unfold i7;rw[List.getD,l0,aQ rfl,aQ D,aQ (by rfl),l0,aQ rfl,aQ T];rfl
    have U:i7 l h k=none:=by unfold i7;rw[List.getD,j,aM T3]
    rw[oL,oL,Y (cD _),c,U];simp only[w4,BX,dT];exact(oq (l₁:=iW l h k) (l₂:=[(k,m)]))
   .rw[oL,oL,HB m C];exact(N ac).append_right _
def HD{t:Type}{l:ab t}{h:ab Bool}{r:Nat}{m:t}(f:r<7)(T:l.length=7)(j:h[r]?=some false):(fD (l.set r m) (h.set r true)).Perm ((r,m)::fD l h):=
 (HC ac j 7).2 f
def aiG{x:a6}(w:x.wf){U:Int}(q:x.can U=true):U.toNat<7/\x.dB[U.toNat]?=some false:=by
 obtain⟨Y,N,R⟩:=a6.Wy.1 q;have u:U.toNat<7:=ac
 refine⟨u,?_⟩;cases j:x.dB[U.toNat]? with
 |none=>simp[List.getD,j]at R
 |some v=>simp[List.getD,j]at R;rw[R]
def aiW(n X:Int)(x:ag)(y:bm):ar prog 99 [I n,I X,A x.c,A y.c] [] (λr J=>∃b,r=aw b 0/\J=[cells b 243 (bV.c {bV.z with n:=n,self:=X,item:=x,bj:=y})]):=by refine aE func99 λW=>?_;refine aq 2 λg=>?_;refine aq 0 λu=>?_;refine aq 10 λq=>?_;exact aP 5
def HE{l:ab aD}{h:ab Bool}{n:Int}(T:l.length=7)(j:h.length=7):(pb l h n).length=183:=by have e:=kI aD.len l;simp only[pb,b2,e,T,eT,j,ox]
def bV.at{x:bV}(T:x.fz.length=7)(j:x.ey.length=7):x.c[190]?=some x.next:=by
 have e:x.c=([.int .i64 x.n,.int .i64 x.self]++(x.item.c++(x.bj.c++([.bool x.lost]++(pb x.fz x.ey x.ez)))))++[x.next]:=by simp[bV.c]
 have W:=HE (n:=x.ez) T j;rw[e,ji (by simp[W,ag.len,bm.len])];simp[W,ag.len,bm.len]
def pq(x:bV)(k:Nat):aD:={aD.z with Kind:=6,bh:=x.self,bK:=(k:Int),Item:=x.item,bB:=x.bj}
def aim(b:Nat)(x:bV)(m:Nat)(p:x.n=(m:Int))(F:m<=100)(o:x.lost=false)(U:x.next=.pointer none)(T:x.fz.length=7)(j:x.ey.length=7):ar prog 98 [aw b 0] [cells b 243 x.c] (λr J=>∃v,r=v/\J=[rows aD.c v 176 25 ((List.range m).map (pq x)),cells b 243 x.c]):=by
 have t:=bV.at T j;rw[U]at t;refine aE func98 λW=>?_;refine ah.Ur aD.c 176 25 ?_;refine aa 20 ?_;refine ah.cs (λX=>?_) (λX=>?_);exact absurd (iy (ih X) TX:true=false) T6;refine aa 5 ?_;refine ai.v (V.C' ad (z:=t)) ?_;refine aa 24 ?_;refine ah.cp [28,0] (λy:Nat×aj=>y.1<=m) (λy=>[(29,I (y.1:Int)),(3,y.2)]) (λy=>[rows aD.c y.2 176 25 ((List.range y.1).map (pq x))]) (λy=>m-y.1) (0,_) (cO _) ?_;rintro⟨k,v⟩ u K l;dsimp only at u;refine bl ?_;have w:((List.range k).map (pq x)).length=k:=T3
 by_cases s:k<m
 .have i:(List.range (k+1)).map (pq x)=(List.range k).map (pq x)++[pq x k]:=by rw[tP,jo];rfl
  generalize(List.range k).map (pq x)=L at*;have z:(L.length+1)*1000<=1000000:=ac
  refine aa 17 ?_;refine ah.n' ?_ aB.d'.j;refine ae 14 0 ?_;refine af.i' 14 rfl (V.UZ ad (d:=(pq x k).c)) ?_;refine df 15 λh=>?_;refine af.q' 16 rfl (O.U' ad rfl rfl T8 (cq.one (f:=aD.c) (a:=pq x k) ad T1 aD.F') (λY P=>?_));refine au ?_;refine ae 1 17 ?_;refine aa 7 ?_;rotate_left;all_goals exact Out.z' l (k+1,_) QR (by show m-(k+1)<m-k;omega) (t:=by rw[i];(repeat(first|exact ak.nil|exact al.here|apply ak.cons|apply al.there)))
 .obtain rfl:k=m:=by omega
  clear l;exact aP 20
structure bV.wf(x:bV):Prop where
 fz:x.fz.length=7
 ey:x.ey.length=7
 ez:0<=x.ez/\x.ez<=50
def bV.pre(x:bV):ab aj:=[I x.n,I x.self]++(x.item.c++(x.bj.c++[B x.lost]))
def bV.V1(x:bV):x.c=du x.pre x.fz x.ey x.ez [x.next]:=rfl
def bV.wf.v{x:bV}(w:x.wf):j6 x.pre 7 x.fz x.ey:=⟨rfl,w.fz,w.ey⟩
def bV.len{x:bV}(w:x.wf):x.c.length=191:=by rw[bV.V1,du.len w.v];rfl
theorem bV.abv{x:bV}(w:x.wf)(v:aj):bA 190 [v] x.c ({x with next:=v}:bV).c:=⟨by
 have W:=HE (n:=x.ez) w.fz w.ey;have e:∀u:aj,({x with next:=u}:bV).c=([.int .i64 x.n,.int .i64 x.self]++(x.item.c++(x.bj.c++([.bool x.lost]++(pb x.fz x.ey x.ez)))))++([u]++[]):=λu=>by simp[bV.c]
 have l:x.c=({x with next:=x.next}:bV).c:=rfl;rw[l,e,e];exact tX (by simp[W,ag.len,bm.len]) rfl⟩
def bV.abw{x:bV}(w:x.wf):Nat.blt 190 x.c.length=true:=by rw[bV.len w];rfl
def Cy(b:Nat)(x:bV)(w:x.wf)(p:Int)(c:aN):ar prog 265 [aw b 0,I p,A c.c] [cells b 243 x.c] (λr J=>∃q,r=.tuple #[]/\J=[cells b 243 ({x with next:=aw q 0}:bV).c,cells q 183 (iC x.n x.self x.item x.bj c p).c]):=by have u:=Hn x.n x.self x.item x.bj c p;have X:=bV.abw w;have Q (q:Nat):=bV.abv w (aw q 0);refine aE func265 λW=>?_;refine aq 2 λg=>?_;refine aa 2 ?_;refine ah.Uv [22] ?_ aB.d'.d' aB.j.d';refine ae 4 0 ?_;refine ae 3 5 ?_;refine ae 3 9 ?_;refine ae 3 13 ?_;refine ae 2 17 ?_;refine af.t 4 rfl (V.C' ad) ?_;refine af.t 8 rfl (V.C' ad) ?_;refine af.t 12 rfl (V.UY ad) ?_;refine af.t 16 rfl (V.UY ad) ?_;refine af.p' 19 rfl rfl (u) ?_;rintro _ _⟨z,rfl,rfl⟩;refine aa 2 ?_;refine ae 2 20 ?_;refine af.l 22 rfl (O.K' ad ?_ (j:=X) (i:=Q _));exact aP 3
def zB(x:bV)(c:aN):aD:={aD.z with Kind:=5,bK:=x.self,Item:=x.item,Call:=c}
def hg(x:bV)(c:aN):a6:={iC x.n x.self x.item x.bj c 2 with call:=c,phase:=3}
def agz(x:bV)(c:aN)(a:1<=x.n):(iC x.n x.self x.item x.bj c 2).y' (zB x c)=(hg x c,true):=by
 unfold a6.y';rw[aM (by
  show¬(2<(2:Int)\/x.item≠x.item\/x.self≠x.self\/(0:Int)<0\/x.n<=0)
  simp;omega),aQ (show(zB x c).Kind=5 from rfl)]
 rfl
def HF(b:Nat)(x:bV)(w:x.wf)(c:aN)(a:1<=x.n/\x.n<=1000):ar prog 237 [aw b 0,A c.c] [cells b 243 x.c] (λr J=>∃q,r=.tuple #[]/\J=[cells b 243 ({x with next:=aw q 0}:bV).c,cells q 183 (hg x c).c]):=by have p:=Cy b x w 2 c;have v (q:Nat):=Cm q (iC x.n x.self x.item x.bj c 2) (Cl _ _ _ _ _ _) (zB x c) (show 0<=x.n/\x.n<=1000 by omega);rw[agz x c a.1]at v;have t (q:Nat):=bV.at (x:={x with next:=aw q 0}) w.fz w.ey;refine aE func237 λW=>?_;refine aq 2 λm=>?_;refine aa 7 ?_;rintro _ _⟨g,rfl,rfl⟩;refine aa 3 ?_;refine ah.n' ?_ aB.d'.j.d';refine ae 3 0 ?_;refine af.i' 3 rfl (V.C' ad (z:=t _)) ?_;refine ae 9 4 ?_;refine af.i' 13 rfl (V.UZ ad (d:=(zB x c).c)) ?_;refine af.p' 14 rfl rfl (v _) ?_;exact aP 4
end Go.Proofs.YteogojgnkjegmaaGreatDoor
