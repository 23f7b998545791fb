/-
 Part of the proof.
-/
import Derived.Test.YteogojgnkjegmaaGreatDoorXc
import Derived.Test.YteogojgnkjegmaaGreatDoorXe
set_option linter.all false
set_option maxRecDepth 8000
set_option maxHeartbeats 8000000
namespace Go.ay
open Go
section
variable{P:bF}{r:aQ Nat}{W:aY}{D:ab Nat}{N:Nat}{Q:cE}{F U:bv}{Y J bc:ab ax}{w:aY}
def w0(bc Y:ab ax):aL (aI bc::Y) (bc++Y):=aL.append (an:=[aI bc]) aL.aI (aL.refl Y)
def H8(bc K Y:ab ax):aL (bc++(aI K::Y)) (bc++(K++Y)):=(aL.refl bc).append (w0 K Y)
def C1:∀(Z y:ab Nat),g9 (Z++y)=g9 Z++g9 y
 |[],_=>rfl
 |b::Z,y=>by simp only[kn,g9];rw[C1 Z y]
def ah.WH{o:Type}{c:Code}(m:ab Nat)(J:o->Prop)(E:o->bv)(S:o->ab ax)(i:o->Nat)(G:o){s:bv}{C:ab ax}(v:J G) (h:∀x n,J x->∀K:Act->aY->Prop,(∀y R,J y->i y<i x->∀a w,dc ⟨N,R⟩ (E y++s) a->H W D (S y++(aI (g9 R)::C)) w->K a w)->ah P r W D ⟨N,n⟩ (Exit.then K Q) c (E x++s) (S x++(aI (g9 n)::C))) (T:kJ F m s:=by(repeat(first|exact kJ.nil|apply kJ.cons rfl))) (d:dg F (E G):=by(repeat(first|exact dg.nil|refine dg.cons rfl rfl ?_))) (u:ak Y (S G) C:=by(repeat(first|exact ak.nil|exact al.here|apply ak.cons|apply al.there))):ah P r W D ⟨N,[]⟩ Q (.loop c) F Y:=ah.of λa w L f=>by
 classical
 let I:Act->aY->Prop:=λa w=>∃x n,J x/\dc ⟨N,n⟩ (E x++s) a/\H W D (S x++(aI (g9 n)::C)) w;let M:Act->aY->Nat->Prop:=λa w k=>∃x n,J x/\i x=k/\dc ⟨N,n⟩ (E x++s) a/\H W D (S x++(aI (g9 n)::C)) w;have ex:∀a w,I a w->∃k,M a w k/\∀j,j<k->¬M a w j:=λa w ⟨x,n,Z,l⟩=>BE _ (i x) ⟨x,n,Z,rfl,l⟩;let m:Act->aY->Nat:=λa w=>if h:I a w then Classical.choose (ex a w h)else 0
 have mspec:∀a w (h:I a w),M a w (m a w)/\∀j,j<m a w->¬M a w j:=λa w h=>HS
 have k:H W D (S G++(aI (g9 [])::C)) w:=(f.Se u).eqv (H8 (S G) [] C).symm;refine wpIn_loop I m ⟨G,[],v,L.sub (d.app T.sub).get,k⟩ λa w j=>?_;obtain⟨⟨x,n,q,Z,l,b⟩,_⟩:=mspec a w j;refine sV (ah.get (h x n q (λa w=>∃y R,J y/\i y<i x/\dc ⟨N,R⟩ (E y++s) a/\H W D (S y++(aI (g9 R)::C)) w) (λy R Z M a w g z=>⟨y,R,Z,M,g,z⟩)) a w l b) λe p s bb=>?_;cases e with
 |normal=>
  obtain⟨y,R,k,G,n,l⟩:=bb;refine⟨⟨y,R,k,n,l⟩,?_⟩;have M:I p s:=⟨y,R,k,n,l⟩
  have:=(mspec p s M).2 (i y);rcases n4 (i y) (m p s)with b|u
  .exact absurd ⟨y,R,k,rfl,n,l⟩ (this b)
  .omega
 |_=>exact bb
def Out.U8{o:Type}{J G:o->Prop}{E:o->bv}{S:o->ab ax}{i:bv}{C R:ab ax}{K:Act->aY->Prop}{b:ab Nat} (p:∀y l,J y->G y->∀a w,dc ⟨N,l⟩ (E y++i) a->H W D (S y++(aI (g9 l)::C)) w->K a w) (M:ab Nat) (y:o) (q:J y) (t:G y) (d:dg F (E y++i):=by(repeat(first|exact dg.nil|refine dg.cons rfl rfl ?_))) (u:ak Y (S y++(g9 M++(aI (g9 b)::C))) R:=by(repeat(first|exact ak.nil|exact al.here|apply ak.cons|apply al.there))):Out W D ⟨N,M++b⟩ (Exit.then K Q) .normal F Y:=Out.of λa w L f=>by refine p y (M++b) q t a w (L.sub d.get) ?_;have Z:=f.gB u;refine Z.eqv ?_;refine(aL.refl (S y)).append ?_;refine aL.trans ?_ (w0 (g9 (M++b)) C).symm;rw[C1,cd];exact(aL.refl (g9 M)).append (w0 (g9 b) C)
def C2(x:ax)(m:ab ax):∀l:ab ax,al (l++x::m) x (l++m)
 |[]=>al.here
 |_::l=>al.there (C2 x m l)
def ah.U9{n:c7}{c:Code}{K:ab ax}(h:ah P r W D n Q c F (K++bc))(u:ak Y [aI bc] K:=by(repeat(first|exact ak.nil|exact al.here|apply ak.cons|apply al.there))):ah P r W D n Q c F Y:=by refine ah.eqv ?_ h;refine(aL.RS u.perm).trans ?_;exact(w0 bc K).trans (aL.RS mZ)
end
end Go.ay
namespace Go.ay
open Go
section
variable{Y F:Type}[DecidableEq Y]
def aeZ(k:Y):eC ([]:ab (Y×F)) k=[]:=rfl
theorem r4(p:Y×F)(l:ab (Y×F))(k:Y):eC (p::l) k=if k=p.1 then l else p::eC l k:=by
 unfold eC;simp only[ga];by_cases h:k=p.1
 .simp[h]
 .rw[aN h,aN h,u2 k l (0+1)];cases ga k l 0 with
  |none=>simp
  |some q=>simp
def aaX{l:ab (Y×F)}{k:Y}(h:k∉l.map (·.1)):br l k=none:=by
 induction l with
 |nil=>rfl
 |cons p l u=>
  rw[eK,dq,q4]at h;rw[jp,aN h.1,u h.2]
theorem m6(l:ab (Y×F))(k:Y):(eC l k).Sublist l:=by
 induction l with
 |nil=>exact pb
 |cons p l u=>
  rw[r4];split
  .exact Ib _ _
  .exact u.cons_cons _
def q5{l:ab (Y×F)}{k:Y}(h:(l.map (·.1)).Nodup):((eC l k).map (·.1)).Nodup:=h.sublist ((m6 l k).map _)
def Ic{l:ab (Y×F)}{k x:Y}{v:F}(h:x∈(bw l k v).map (·.1)):x=k\/x∈l.map (·.1):=by
 induction l with
 |nil=>rw[oe]at h;exact .inl XV
 |cons p l u=>
  rw[ka]at h;split at h
  .rcases dq.1 h with h|h
   .exact .inl h
   .exact .inr (hn _ h)
  .rcases dq.1 h with h|h
   .exact .inr (by rw[h];exact iT ..)
   .rcases u h with h|h
    .exact .inl h
    .exact .inr (hn _ h)
def p1{l:ab (Y×F)}{k:Y}{v:F}(h:(l.map (·.1)).Nodup):((bw l k v).map (·.1)).Nodup:=by
 induction l with
 |nil=>rw[oe];simp
 |cons p l T=>
  rw[eK,lf]at h;rw[ka];split
  .rename_i e;subst e;rw[eK,lf];exact h
  .rename_i e;rw[eK,lf];refine⟨λu=>?_,T h.2⟩;rcases Ic u with u|u
   .exact e u.symm
   .exact h.1 u
theorem w1{l:ab (Y×F)}{k y:Y}(h:(l.map (·.1)).Nodup):br (eC l k) y=if y=k then none else br l y:=by
 induction l with
 |nil=>rw[aeZ,mi];split<;>rfl
 |cons p l u=>
  rw[eK,lf]at h;rw[r4];by_cases T:k=p.1
  .rw[aT T,jp];by_cases v:y=k
   .rw[aT v,v,T];exact aaX h.1
   .rw[aN v,aN (by rw[<-T];exact v)]
  .rw[aN T,jp,jp,u h.2];by_cases v:y=k
   .subst v;simp[T]
   .simp[v]
end
section
variable{P:bF}{r:aQ Nat}{W:aY}{D:ab Nat}{n:c7}{Q:cE}{J:bv}{M Z:ab ax}{w:aY}{K:Nat}{a1:aZ}{G:String}{X:Array Edge}{R:aQ (Nat×Bool)}{C:bv->ab ax->Prop}
variable{Y F:Type}[DecidableEq Y]{U:Y->aj}{aR:F->aj}{N:aZ}{l:ab (Y×F)}
def Ie{t c e a1:aZ}(a:gO P N U)(j:g1 P t N e=true){b:Nat}{k:Y}(h:pX w b (l.map λp=>(U p.1,aR p.2))):∃o,(Builtin.delete_ #[t,c] a1 #[.map (some b),U k]).run P w=.ok (.tuple #[]) (w.putObj b o)/\pX (w.putObj b o) b ((eC l k).map λp=>(U p.1,aR p.2)):=by
 obtain⟨x,L,T,t,u,E⟩:=h;have m:=(ny.1 T).1;have d:∀o,(setObj b o).run P w=.ok () (w.putObj b o):=λo=>by simp[setObj,Sem.run,T,World.putObj]
 have h:x.toList.length=l.length:=by have:=db List.length t;simpa using this
 unfold Builtin.delete_ eC;simp only[List.getElem?_toArray,oZ,qJ,ct,dN (qY j),dv,r0 T,a.check,tl a k w t];cases s:ga k l 0 with
 |none=>
  refine⟨.map x L,XY,?_⟩;exact⟨_,_,qR m,t,u,E⟩
 |some q=>
  obtain⟨i,v⟩:=q;have ao:=(uY s).2;simp only[y2]at ao;have T:=(cI.1 ao).1;refine⟨.map (x.eraseIdxIfInBounds i) L,XY,?_⟩;have q:(x.eraseIdxIfInBounds i).toList=x.toList.eraseIdx i:=XE
  refine⟨_,_,qR m,?_,λx T=>?_,?_⟩
  .dsimp only;rw[q,y6,t,y6]
  .rw[q]at T;exact u x ((va _ _).subset T)
  .rw[q];exact E.sublist ((va _ _).map _)
def aw.St{t v e:aZ}{x y:bd}{b:Nat}{k:Y}(p:gO P N U)(j:g1 P t N e=true)(u:aO J x=some (.map (some b)))(T:aO J y=some (U k)) (E:az M (bn U aR b l) (bn U aR b (eC l k)) Z) (d:C J Z):aw P r W D n ⟨none,.call ⟨.builtin .delete,#[x,y],#[t,v]⟩,a1,G,X,R⟩ J M C:=aw.of λK Q s a w L f=>by
 have c:bn U aR b l∈M:=by obtain⟨l,r,rfl,_⟩:=E.split;simp
 have h:=f.mem c;unfold bn at h;rw[oc]at h;obtain⟨o,a,q⟩:=Ie (k:=k) (c:=v) (a1:=a1) p j h;refine iK (v:=.tuple #[]) rfl ?_ (s _ _ d _ _ (L.SB _) (f.UV E q));simp[execOp,resolve,invoke,builtin,L.eval u,L.eval T,a]
end
end Go.ay
namespace Go.ay
open Go
section
variable{P:bF}{r:aQ Nat}{W:aY}{D:ab Nat}{n:c7}{Q:cE}{F Z:bv}{U Y J:ab ax}{G:Array bS}{N:ab bS}{w:aY}
def C3(P:bF)(b:eg)(o:ab aj){y:Type}(f:y->ab aj)(M:ab y)(K u:ab ax):Prop:=
 ∀(l:Nat) (i:Type) (G X:ab y->i->Prop) (S:i->ax) (p:i),G [] p->
  (∀pre i d c,(pre++i::d).Perm M->G pre c->jG P l (f i) [S c] (λv Y=>∃a t,v=.bool t/\(t=true->G (pre++[i]) a)/\(t=false->X (pre++[i]) a)/\Y=[S a]))->
  ar P b (.func (.yield l) #[] #[]::o) (S p::K) (λ_ Y=>∃a pre,((G pre a/\pre.Perm M)\/X pre a)/\Y=S a::u)
def ah.WI{R C:Type}{g:bd}{aU:ab Tmp}{assign body:Code}{iO:eg}{o:ab aj}{f:R->ab aj}{xs:ab R}{t u T:ab ax}(hV:C3 P iO o f xs t u)(S:C->ab ax)(G:ab R->C->Prop)(X:dj->ab R->C->Prop)(M:C)(ep:G [] M)(round:∀pre i d c l rec,(pre++i::d).Perm xs->G pre c->o1 rec->∀(eh:aY) (iP:ab Nat) (K:cE),(∀e m,fv e=true->Way G X (pre++[i]) e m->∀a w,H eh iP (iN l rec::S m) w->K e a w)->ah P (some l) eh iP ⟨n.n,[]⟩ (Exit.then (pU P l body K) qQ) assign (o2 aU (f i) F) (bZ l rec .normal::S c))(done:∀pre c b,G pre c->pre.Perm xs->Out W D ⟨n.n,b::n.ds⟩ Q .normal F (fC b::(S c++(u++T))))(left:∀pre c b e,fv e=true->eL e=false->X e pre c->Out W D ⟨n.n,b::n.ds⟩ Q e F (fC b::(S c++(u++T))))(bU:aO F g=some (.func (.func iO) #[] o.toArray):=by exact rfl)(Ye:jE P iO=true:=by kernel_rfl)(Yg:ak U (S M++t) T:=by(repeat(first|exact ak.nil|exact al.here|apply ak.cons|apply al.there)))(dO:∀x,aU.length=(f x).length:=by intro _;rfl)(ei:(aU.all λp=>Nat.blt p n.n)=true:=by exact rfl):ah P none W D n Q (.rangeFunc g aU.toArray assign body) F U:=by
 have Yh:∀(l:ab ax) (s:ax),ak (s::(l++T)) (s::l) T:=by
  intro l s;refine ak.cons al.here ?_;induction l with
  |nil=>exact ak.nil
  |cons x l la=>exact ak.cons al.here la
 have Yj:∀{e:dj} {k:ab R} {c:C},fv e=true->Way G X k e c->(eL e=true/\G k c)\/(eL e=false/\X e k c):=by
  intro e k c y h;cases e with
  |normal=>exact .inl ⟨rfl,h⟩
  |ret=>exact .inr ⟨rfl,h⟩
  |exit id=>exact .inr ⟨rfl,h⟩
  |_=>cases y
 have Yc:ah P none W D n Q (.rangeFunc g aU.toArray assign body) F (aI (S M)::(t++T)):=by
  refine ah.Te (km:={p:ab R×R×ab R×C//(p.1++p.2.1::p.2.2.1).Perm xs/\G p.1 p.2.2.2}) (d:=t) (t:=T) (λi=>f i.1.2.1) (aI (S M)) (λi=>aI (S i.1.2.2.2)) (λi e cn=>∃m,cn=aI (S m)/\Way G X (i.1.1++[i.1.2.1]) e m)
   (λe q=>∃m k,q=aI (S m)::u/\((e=.normal/\G k m/\k.Perm xs)\/(eL e=false/\X e k m))) bU Ye (Yh _ _) (λi=>dO _) ei ?_ ?_ ?_
  .rintro⟨⟨pre,i,d,c⟩,cf,j⟩ l rec e6 eh K cu;have E:∀(c:C) (e:ax),aL [e,aI (S c)] (e::S c):=λc e=>aL.cons e aL.aI;have:=round pre i d c l rec cf j e6 eh (bg [bZ l rec .normal,aI (S c)]) K (λe m y dW a w cM=>cu e _ y ⟨m,rfl,dW⟩ a w (cM.eqv (E m _).symm));exact ah.eqv (E c _) this
  .intro l rec e7;have eJ:=hV l (dj×C) (λk p=>p.1=.normal/\G k p.2) (λk p=>fv p.1=true/\eL p.1=false/\X p.1 k p.2) (λp=>aI [bZ l rec p.1,aI (S p.2)]) (.normal,M) ⟨rfl,ep⟩ ?_
   .refine eJ.eqv (an:=bZ l rec .normal::aI (S M)::t) ?_ ?_
    .exact(aL.append (an:=[aI [bZ l rec .normal,aI (S M)]]) aL.aI (aL.refl t)).symm
    .rintro v Y⟨⟨e,m⟩,k,bY,rfl⟩;refine⟨bZ l rec e::aI (S m)::u,⟨e,_,?_,⟨m,k,rfl,?_⟩,rfl⟩,aL.append (an:=[aI [bZ l rec e,aI (S m)]]) aL.aI (aL.refl _)⟩
     .rcases bY with⟨⟨h,_⟩,_⟩|⟨h,_⟩
      exact ZI
      .exact h
     .rcases bY with⟨⟨h,z⟩,cp⟩|⟨_,cp,fZ⟩
      .exact .inl ⟨h,z,cp⟩
      .exact .inr ⟨cp,fZ⟩
   .rintro pre i d⟨e,c⟩ cf⟨ea,j⟩;simp only at ea j;subst ea;refine(e7 ⟨(pre,i,d,c),cf,j⟩).eqv (an:=[aI [bZ l rec .normal,aI (S c)]]) aL.aI ?_;rintro v Y⟨e,cn,rfl,y,⟨m,rfl,dW⟩,rfl⟩;refine⟨[aI [bZ l rec e,aI (S m)]],⟨(e,m),eL e,rfl,λh=>?_,λh=>?_,rfl⟩,aL.aI.symm⟩
    .rcases Yj y dW with⟨L,z⟩|⟨L,z⟩
     .refine⟨?_,z⟩;cases e<;>first|rfl|cases L
     .rw[L]at h;cases h
    .rcases Yj y dW with⟨L,z⟩|⟨L,z⟩
     .rw[L]at h;cases h
     .exact⟨y,L,z⟩
  .rintro b e q y⟨m,k,rfl,bY⟩;have conv:∀{e:dj},Out W D ⟨n.n,b::n.ds⟩ Q e F (fC b::(S m++(u++T)))->Out W D ⟨n.n,b::n.ds⟩ Q e F (fC b::(aI (S m)::u++T)):=λh=>
    Out.eqv (aL.cons _ (by have:=aL.append (an:=[aI (S m)]) aL.aI (aL.refl (u++T));simpa using this)) h
   rcases bY with⟨rfl,j,Yf⟩|⟨Yi,hW⟩
   .exact conv (done k m b j Yf)
   .exact conv (left k m b e y Yi hW)
 refine ah.eqv (bc:=aI (S M)::(t++T)) ?_ Yc;refine(aL.RS Yg.perm).trans ?_;rw[cd];exact(aL.append (an:=[aI (S M)]) aL.aI (aL.refl (t++T))).symm
def ar.post{f:eg}{args:ab aj}{R K:aj->ab ax->Prop}(h:ar P f args U R)(o:∀v Y,R v Y->∃J,K v J/\∀W D w,H W D Y w->H W D J w):ar P f args U K:=ar.of λw j=>
 (h.get w j).mono λe s ⟨v,Y,d,T,f⟩=>by obtain⟨J,M,C⟩:=o v Y T;exact⟨v,J,d,M,C _ _ _ f⟩
end
end Go.ay
namespace Go.ay
open Go
section
variable{P:bF}{r:aQ Nat}{W:aY}{D:ab Nat}{n:c7}{F:bv}{U:ab ax}{Y:Array bS}
def af.hb{M:Act->aY->Prop}{c l:ab ax}{o:ab Nat}{t:Nat}{v:Array Bool}{N:Bool}{x G ok:bS}(i j k:Nat)(ao:Y[i]?=some x)(p:Y[j]?=some G)(T:Y[k]?=some ok) (Z:aw P r W D n x F U (λL J=>(∀w,H W D J w->e4 c w)/\(∀w,H W D J w->e4 l w)/\af P r W D n Y M c l o true t (v.setIfInBounds i true) L J)) (C:aw P r W D n G F U (λL J=>(∀w,H W D J w->e4 c w)/\(∀w,H W D J w->e4 l w)/\af P r W D n Y M c l o true t (v.setIfInBounds j true) L J)) (g:aw P r W D n ok F U (λL J=>(∀w,H W D J w->e4 c w)/\(∀w,H W D J w->e4 l w)/\af P r W D n Y M c l o true t (v.setIfInBounds k true) L J)) (R:(Region.ready .any Y v==[i,j,k]&&![i,j,k].isEmpty)=true:=by kernel_rfl) (f:gK F Y x.guard=some true:=by exact rfl) (a:gK F Y G.guard=some true:=by exact rfl) (X:gK F Y ok.guard=some true:=by exact rfl):af P r W D n Y M c l o N (t+1) v F U:=
 af.each [i,j,k] R (by
  intro m K;rcases dq.1 K with rfl|K
  .exact⟨x,ao,f,Z⟩
  .rcases dq.1 K with rfl|K
   .exact⟨G,p,a,C⟩
   .obtain rfl:m=k:=by simpa using K
    exact⟨ok,T,X,g⟩)
end
end Go.ay
namespace Go.ay
open Go
variable{m:aQ Addr}{C:bv->ab ax->Prop}{R:aQ (Nat×Bool)}{Q:cE}{q:ab ax}{off:Nat}{G:Type}
abbrev vb(k:Array aj)(t:Nat×Nat):Prop:=k.size<=t.1\/t.2=0
def za(P:bF)(g o:Nat)(t:aZ)(L:Nat×Nat):∀(Q:ab aj) (i:Nat) (k:Array aj) (w:aY),w.heap[g]?=some (.cells k t L)->vb k L->o+i+Q.length<=k.size->(∀v∈Q,v.oneCell'=true)->(storeCells ⟨g,o,none⟩ Q i).run P w=.ok () (w.setRow g (k.toList.take (o+i)++Q++k.toList.drop (o+i+Q.length)).toArray)
 |[],i,k,w,q,_,_,_=>by simp only[storeCells,dk,fY,gJ,mU,B5];rw[setRow_self w g k t L q];rfl
 |v::l,i,k,w,q,T,E,K=>by
  have ao:o+i<k.size:=by simp at E;omega
  have z:(⟨g,o,none⟩:Addr).add i=⟨g,o+i,none⟩:=by unfold Addr.add;split<;>simp_all
  have u:w.cell? ⟨g,o+i,none⟩=some k[o+i]:=by simp[World.cell?,q,ao]
  have j:w.frozen? ⟨g,o+i,none⟩=false:=by
   obtain⟨Q,d⟩:=L;simp only[World.frozen?,q,If,j8];rcases T with h|h
   .left;dsimp only at h⊢;omega
   .right;dsimp only at h⊢;omega
  have h:(store ((⟨g,o,none⟩:Addr).add i) v).run P w=.ok () (w.setRow g (k.setIfInBounds (o+i) v)):=by rw[z,run_store P w _ v _ (K v XE),u];simp[j,setCell_eq_setRow w g (o+i) k t L v q]
  have u:=za P g o t L l (i+1) (k.setIfInBounds (o+i) v) (w.setRow g (k.setIfInBounds (o+i) v)) (pH w g k _ t _ q) (by simpa[vb]using T) (by simp at E⊢;omega) (λx Q=>K x (by simp[Q]));simp only[storeCells,ct,h,dv,u,setRow_setRow];congr 3;have e:=list_seg_step k.toList (o+i) v l (by simp at E⊢;omega);simpa[Array.toList_setIfInBounds,oX]using e
def jq(w:aY)(e:aZ)(Y:Nat)(v:aj)(n:Nat)(F:ab aj):Prop:=
 F.length=n*Y/\
 ((v=.slice none 0 0/\n=0)\/
  ∃g off K k t,v=.slice (some ⟨g,off,none⟩) n K/\w.heap[g]?=some (.cells k e t)/\vb k t/\n<=K/\K<=maxLen/\off+K*Y<=k.size/\(k.toList.drop off).take (n*Y)=F)
section
variable{w:aY}{e:aZ}{Y:Nat}{v:aj}{n:Nat}{F:ab aj}
def jq.of(h:w.ownsRow 0 e Y v n F):jq w e Y v n F:=by
 refine⟨h.1,?_⟩;rcases h.2 with a|⟨g,u,k,t,T,q,K,Q,z,j⟩
 .exact .inl a
 .exact .inr ⟨g,0,u,k,(0,0),t,q,.inr rfl,K,Q,ac,by simpa using j⟩
def jq.same{s:aY}(h:jq w e Y v n F)(Q:∀g,v.ownBlock=some g->s.heap[g]?=w.heap[g]?):jq s e Y v n F:=by
 refine⟨h.1,?_⟩;rcases h.2 with a|⟨g,off,K,k,t,rfl,q,i⟩
 .exact .inl a
 .exact .inr ⟨g,off,K,k,t,rfl,by rw[Q g rfl];exact q,i⟩
def jq.lt(h:jq w e Y v n F):∀k,v.ownBlock=some k->k<w.heap.size:=by
 intro k T;rcases h.2 with⟨rfl,_⟩|⟨g,off,K,x,t,rfl,q,_⟩
 .simp[Value.ownBlock]at T
 .simp[Value.ownBlock]at T;subst T;exact(ny.1 q).1
def jq.cells{g K:Nat}(h:jq w e Y (.slice (some ⟨g,off,none⟩) n K) n F):∀(j:Nat) (u:aj),F[j]?=some u->w.cell? ⟨g,off+j,none⟩=some u:=by
 intro j u Q;rcases h.2 with⟨t,_⟩|⟨L,E,T,k,d,t,q,_,_,_,_,a⟩
 .cases t
 .cases t;rw[cell_of_row w g (off+j) k e d q];rw[<-a,kC]at Q;split at Q
  .rw[lL]at Q;simpa using Q
  .cases Q
def w2(g off j:Nat):(⟨g,off,none⟩:Addr).add j=⟨g,off+j,none⟩:=by unfold Addr.add;split<;>simp_all
def jq.to{u j:Nat}(h:jq w e Y (.slice m n u) n F)(c:j<=n):jq w e Y (.slice m j u) j (F.take (j*Y)):=by
 have T:j*Y<=n*Y:=jn _ c;refine⟨by rw[eX,h.1];omega,?_⟩;rcases h.2 with⟨t,a⟩|⟨g,off,E,k,L,t,q,l,K,Q,z,p⟩
 .cases t;obtain rfl:j=0:=by omega
  exact .inl ⟨rfl,rfl⟩
 .cases t;refine .inr ⟨g,off,u,k,L,rfl,q,l,ac,Q,z,?_⟩;rw[<-p,r1,pS T]
def jq.from{c:aQ Addr}{u i:Nat}(h:jq w e Y (.slice c n u) n F)(ao:i<=n):jq w e Y (.slice (partAt c u i Y) (n-i) (u-i)) (n-i) (F.drop (i*Y)):=by
 refine⟨by rw[j6,h.1,Nat.sub_mul],?_⟩;rcases h.2 with⟨t,j⟩|⟨g,off,E,k,L,t,q,l,K,Q,z,a⟩
 .cases t;obtain rfl:i=0:=by omega
  refine .inl ⟨?_,ac⟩;unfold partAt;rw[aT rfl,j]
 .cases t;by_cases T:u=i
  .obtain rfl:n=u:=by omega
   subst T;refine .inr ⟨g,off,n-n,k,L,?_,q,l,cl _,ac,by rw[Nat.sub_self,pN];omega,?_⟩
   .unfold partAt;rw[aT rfl]
   .rw[Nat.sub_self,pN,uU];exact(kk (by rw[j6,h.1];omega)).symm
  .refine .inr ⟨g,off+i*Y,u-i,k,L,?_,q,l,ac,ac,?_,?_⟩
   .unfold partAt;rw[aN T];simp[w2]
   .have:i*Y+(u-i)*Y=u*Y:=by rw[<-eZ];congr 1;omega
    omega
   .rw[<-a,List.drop_take,pO,Nat.sub_mul]
end
section
variable{P:bF}{w:aY}
def aeo(t cg X e:aZ)(i:TypeInfo)(z:aj)(Y bytes:Nat)(b:P.underlying t=some (.slice e))(ao:P.info? e=some i)(e0:i.zero=some z)(p:i.size=Y)(E:i.bytes=bytes)(q:z.cells.size=Y)(l:0<Y)(v:aj)(n:Nat)(F:ab aj)(Q:jq w e Y v n F)(x:aj)(m:Nat)(y:ab aj)(T:Src P Y cg x m y w)(L:n+m<=maxLen)(a:(n+m)*bytes<=140737488355328):∃u k,(Builtin.append_ #[t,cg] X #[v,x]).run P w=.ok u k/\jq k e Y u (n+m) (F++y)/\w.grownBy k v.ownBlock/\(u=.slice none 0 0↔v=.slice none 0 0/\m=0)/\(u.ownBlock=v.ownBlock\/u.ownBlock=some w.heap.size)/\w.drawn<=k.drawn:=by
 rcases Q.2 with⟨rfl,rfl⟩|⟨g,off,K,h,r5,rfl,bU,dK,Ye,c,Yc,s⟩
 .have j:F=[]:=kk (by simpa using Q.1);subst j;obtain⟨u,k,d,dd,cp,fZ,lb,m5⟩:=yM (P:=P) (w:=w) t cg X e i z Y bytes b ao e0 p E q l (.slice none 0 0) 0 [] (Ct w 0 e Y) x m y T L a;exact⟨u,k,d,.of dd,cp,fZ,lb,m5⟩
 .subst p;subst E;have E:=T.newsLen;have j:n+m<=9223372036854775807:=by simp only[maxLen]at L;omega
  have d:(F++y).length=(n+m)*i.size:=by rw[bM,Q.1,E,eZ]
  by_cases u:n+m<=K
  .have l:(n+m)*i.size<=K*i.size:=jn _ u;have j:(n+m)*i.size=n*i.size+m*i.size:=eZ ..;have j:off+n*i.size+0+y.length<=h.size:=by rw[E];omega
   have k:=za P g (off+n*i.size) e r5 y 0 h w bU dK j T.one;simp only[gJ]at k;have p:(Builtin.append_ #[t,cg] X #[.slice (some ⟨g,off,none⟩) n K,x]).run P w=
     .ok (.slice (some ⟨g,off,none⟩) (n+m) K) (w.setRow g (h.toList.take (off+n*i.size)++y++h.toList.drop (off+n*i.size+y.length)).toArray):=by
    rcases T.kind with⟨l,E⟩|E<;>simp[Builtin.append_,dN b,dN E,sizeOf,typeInfo,ao,T.len,u,T.cells,w2,k]
   have j:(h.toList.take (off+n*i.size)++y++h.toList.drop (off+n*i.size+y.length)).toArray.size=h.size:=by simp only[nA,bM,eX,j6,mV];omega
   refine⟨_,_,p,⟨d,.inr ⟨g,off,K,_,r5,rfl,pH w g h _ e _ bU,?_,u,c,by rw[j];exact Yc,?_⟩⟩,⟨rfl,rfl,rfl,XE,λk _ E=>uF w g k _ (λe=>E (by simp[Value.ownBlock,e]))⟩,XE,.inl rfl,cl _⟩
   .unfold vb;rw[j];exact dK
   .have l:h.toList.take (off+n*i.size)=h.toList.take off++F:=by rw[List.take_add,s]
    have u:(h.toList.take off).length=off:=by rw[eX,mV];omega
    rw[l];have l:∀R:ab aj,(h.toList.take off++F++y++R).drop off=F++y++R:=λR=>by
     have j:h.toList.take off++F++y++R=h.toList.take off++(F++y++R):=by simp only[cd]
     rw[j,vc ac,qN ac,gi]
    simp only[l];rw[<-d];exact o0
  .have s:∀j u,F[j]?=some u->w.cell? ((⟨g,off,none⟩:Addr).add j)=some u:=λj u l=>by rw[w2];exact Q.cells j u l
   have p:=yP (P:=P) w t cg X e i z b ao e0 (some ⟨g,off,none⟩) n K F (tb w.drew i.size n _ n K F Q.1 (by simpa using s)) x m y T ac ac (wK ac a);have Q:=wH w (n+m) K e;have c:grownCap w (n+m) K e<=maxLen:=wI w (n+m) K e L;refine⟨_,_,p,.of ⟨d,.inr ⟨w.heap.size,_,_,rfl,cw _,wr w.drew _,Q,c,?_,?_⟩⟩,⟨rfl,rfl,rfl,XE,λk E _=>rI w.drew _ E⟩,XE,.inr rfl,uQ _⟩
   .simp only[wJ,nA,yN,q,d,<-eZ];congr 1;omega
   .simp only[yO];rw[<-d];exact o0
end
@[irreducible] def m7(v:Value)(E aG n:Nat)(F:List Value):ax where
 fB:=v.ownBlock.toList
 holds w:=jq w E aG v n F
 loc w h9 h cB:=cB.same λg bU=>h g (by simp[bU])
 lt w h x cr:=by
  have cc:v.ownBlock=some x:=X8
  exact h.lt x cc
def mj(v E Q n F):(m7 v E Q n F).fB=v.ownBlock.toList:=by unfold m7;rfl
def pc(v E Q n F w):(m7 v E Q n F).holds w↔jq w E Q v n F:=by unfold m7;rfl
def dF(f:G->ab aj)(v:aj)(E Q:Nat)(l:ab G):ax:=m7 v E Q l.length (l.flatMap f)
section
variable{P:bF}{r:aQ Nat}{W:aY}{D:ab Nat}{n:c7}{U:bv}{J Z:ab ax}{f:G->ab aj}{w:aY}
variable{N:Nat}{X:aZ}{M:String}{o:Array Edge}
def H.imp{e c:ax}{E:ab ax}(T:ak J [e] E)(i:c.fB=e.fB)(y:∀w,e.holds w->c.holds w)(h:H W D J w):H W D (c::E) w:=by
 have K:=h.Se T;refine⟨λx Q=>?_,?_,λb u=>?_,K.cx,K.size,K.os,K.tape,K.output,K.nv⟩
 .rcases dq.1 Q with rfl|Q
  .exact y w (K.fm e XE)
  .exact K.fm x (by simp[Q])
 .have:=K.nodup;rw[kn,gi,hS]at this;rw[hS,i];exact this
 .refine K.own b ?_;rw[kn,gi,hS,<-i,<-hS];exact u
def dF.of{v:aj}{E Q:Nat}{l:ab G}(w:aY)(h:(rows f v E Q l).holds w):(dF f v E Q l).holds w:=by unfold dF;rw[pc];rw[e1,hz]at h;exact .of h
def aep{v:aj}{E Q:Nat}{l:ab G}:(dF f v E Q l).fB=(rows f v E Q l).fB:=by unfold dF;rw[mj,e1,hl]
def q6{v:aj}{E L:Nat}{l:ab G}(m:∀x,(f x).length=L)(t:dF f v E L l∈J):∀w,H W D J w->∃y q b off,v=.slice y l.length q/\l.length<=q/\Rd (dF f (.slice y l.length q) E L l) y l.length b off L (l.map f):=λw s=>by
 have h:=s.mem t;unfold dF at h;rw[pc]at h;rcases h.2 with⟨rfl,p⟩|⟨g,off,q,Ye,r5,rfl,_,_,K,T,_⟩
 .rw[p];refine⟨none,0,0,0,rfl,cl _,?_⟩;obtain rfl:l=[]:=kk p;exact Rd.nil
 .refine⟨some ⟨g,off,none⟩,q,g,off,rfl,K,⟨XE,ac,λ_=>rfl,λrT Yg=>?_⟩⟩;unfold dF at Yg;rw[pc]at Yg;intro i x Q;rw[ho]at Q;obtain⟨a,k,rfl⟩:=oW.1 Q;refine⟨m a,λj u d=>?_⟩;have c:j<L:=by have:=(cI.1 d).1;rw[m a]at this;exact this
  have Yf:(l.flatMap f)[i*L+j]?=some u:=by
   have Yc:∀(l:ab G) (i:Nat) (a:G),l[i]?=some a->(l.flatMap f)[i*L+j]?=(f a)[j]?:=by
    intro l;induction l with
    |nil=>intro i a h;simp at h
    |cons b l z=>
     intro i a h;cases i with
     |zero=>
      simp only[oZ,er]at h;subst h;rw[fG,pN,hm,pR (by rw[m];exact c)]
     |succ i=>
      rw[fG,iu (by rw[m,eZ];omega),m];rw[show(i+1)*L+j-L=i*L+j by rw[eZ];omega];exact z i a XV
   rw[Yc l i a k];exact d
  have:=Yg.cells (i*L+j) u Yf;rwa[<-oX]at this
def H.WJ{E T m k:Nat}{v L:aj}{F g:ab aj}{l:aY}(h:H W D J w)(u:az J (m7 v E T k F) (m7 L E T m g) Z)(t:jq l E T L m g)(q:w.grownBy l v.ownBlock)(Q:L.ownBlock=v.ownBlock\/L.ownBlock=some w.heap.size)(j:w.drawn<=l.drawn):H W D Z l:=by
 refine h.mN u ⟨λe d=>?_,?_,λx K=>?_,λb y a=>?_,q.size,q.os,q.tape,q.output,j⟩
 .obtain rfl:e=_:=by simpa using d
  rw[pc];exact t
 .have:bg [m7 L E T m g]=L.ownBlock.toList:=by simp[bg,mj]
  rw[this];cases L.ownBlock<;>simp
 .have z:L.ownBlock=some x:=by simpa[bg,mj]using K
  rcases Q with Q|Q
  .left;rw[mj,<-Q,z];simp
  .right;rw[Q]at z;injection z with z;omega
 .refine q.block b y λe=>a ?_;rw[mj,<-e];simp
def O.Va(ad:bV P){t cg E k fN:Nat}{x y:bd}{v u:aj}{l m:ab G}{hU:ab aj}{Z:aj->ab ax}(L:aO U x=some v)(d:aO U y=some u)(b:∀dE,az J (dF f v E k l) (dF f dE E k (l++m)) (Z dE))(h:ce P J f k cg u m)(ee:∀dE,dE.oneCell'=true->C ((N,dE)::U) (Z dE))(ef:Nat.blt N n.n=true:=by exact rfl)(c8:bA ad.eO t=some E:=by exact rfl)(Ye:bA ad.gp E=some k:=by exact rfl)(Yj:bA ad.kD E=some fN:=by exact rfl)(e0:hT ad.ia E=some hU:=by exact rfl)(Yl:hU.length=k:=by exact rfl)(Yg:Nat.blt 0 k=true:=by exact rfl)(Ym:(l.length+m.length)*fN<=140737488355328:=by(first|omega|(simp only[bM,dp,fY,ev];omega)))(Yn:l.length+m.length<=9223372036854775807:=by(first|omega|(simp only[bM,dp,fY,ev];omega))):aw P r W D n ⟨some N,.call ⟨.builtin .append,#[x,y],#[t,cg]⟩,X,M,o,R⟩ U J C:=aw.of λK Q cu a w cT cM=>by
 obtain⟨i,z,ao,Yh,T,j,cp⟩:=ad.info Ye Yj e0;obtain⟨p,q,fE,_⟩:=(b v).split;have Yf:=cM.mem (e:=dF f v E k l) (by rw[fE];simp);unfold dF at Yf;rw[pc]at Yf;have Yo:0<k:=nw Yg;have Yk:z.cells.size=k:=by rw[<-mV,cp,Yl]
 obtain⟨dE,eY,e6,dz,bU,c6,s,Yi⟩:=aeo (P:=P) (w:=w) t cg X E i z k fN (fM (ad.RM c8)) ao Yh T j Yk Yo v _ _ Yf u m.length (m.flatMap f) (h w cM.hold) Zv Ym;have Yp:jq eY E k dE (l++m).length ((l++m).flatMap f):=by rw[bM,lP];exact dz
 have T:dE.oneCell'=true:=by rcases dz.2 with⟨rfl,_⟩|⟨g,off,c,Yc,r5,rfl,_⟩<;>rfl
 have K:=b dE;unfold dF at K;refine iK rfl ?_ (cu _ _ (ee dE T) _ _ (cT.put ef _) (cM.WJ K Yp bU s Yi));simp[execOp,resolve,invoke,builtin,cT.eval L,cT.eval d,e6]
def ah.toX{c:Code}{v:aj}{E u:Nat}{l:ab G}{K:ab ax}(h:ah P r W D n Q c U (dF f v E u l::K))(T:ak J [rows f v E u l] K:=by(repeat(first|exact ak.nil|exact al.here|apply ak.cons|apply al.there))):ah P r W D n Q c U J:=
 ah.hC (λ_ m=>m.imp T aep (dF.of)) h
def dF.to{K j E Q:Nat}{l:ab G}(c:∀x,(f x).length=Q)(p:j<=l.length)(w:aY)(h:(dF f (.slice m l.length K) E Q l).holds w):(dF f (.slice m j K) E Q (l.take j)).holds w:=by
 unfold dF at*;rw[pc]at*;have K:=h.to p;rw[q0 c l j p]at K;have e:(l.take j).length=j:=X4
 rwa[e]
def dF.from{K i E Q:Nat}{l:ab G}(c:∀x,(f x).length=Q)(ao:i<=l.length)(w:aY)(h:(dF f (.slice m l.length K) E Q l).holds w):(dF f (.slice (partAt m K i Q) (l.length-i) (K-i)) E Q (l.drop i)).holds w:=by unfold dF at*;rw[pc]at*;have K:=h.from ao;rw[tn c l i ao]at K;rwa[j6]
def Ii(c:aQ Addr)(K i Q n m k:Nat):(Value.slice (partAt c K i Q) m k).ownBlock=(Value.slice c n K).ownBlock:=by
 unfold partAt;split
 .cases c<;>rfl
 .cases c with
  |none=>rfl
  |some a=>
   simp only[nI,Value.ownBlock];unfold Addr.add;split<;>rfl
def ah.WK{c:Code}{y:aQ Addr}{K E u:Nat}{l:ab G}(j:Nat)(m:∀x,(f x).length=u)(p:j<=l.length)(h:ah P r W D n Q c U (dF f (.slice y j K) E u (l.take j)::q))(T:ak J [dF f (.slice y l.length K) E u l] q:=by(repeat(first|exact ak.nil|exact al.here|apply ak.cons|apply al.there))):ah P r W D n Q c U J:=
 ah.hC (λ_ b=>b.imp T (by unfold dF;rw[mj,mj];cases y<;>rfl) (dF.to m p)) h
def ah.WL{c:Code}{y:aQ Addr}{K E u:Nat}{l:ab G}(i:Nat)(m:∀x,(f x).length=u)(ao:i<=l.length)(h:ah P r W D n Q c U (dF f (.slice (partAt y K i u) (l.length-i) (K-i)) E u (l.drop i)::q))(T:ak J [dF f (.slice y l.length K) E u l] q:=by(repeat(first|exact ak.nil|exact al.here|apply ak.cons|apply al.there))):ah P r W D n Q c U J:=
 ah.hC (λ_ b=>b.imp T (by unfold dF;rw[mj,mj,Ii]) (dF.from m ao)) h
def aw.WM(ad:bV P){Yc zb E a:Nat}{x:bd}{l:ab aP}(u:aO U x=some (S l))(t:∀v,v.oneCell'=true->C ((N,v)::U) (dF c0 v E 1 l::J))(z:l.length<=1000000)(i:Nat.blt N n.n=true:=by exact rfl)(q:bA ad.strs Yc=some a:=by exact rfl)(p:bA ad.eO zb=some E:=by exact rfl)(d:k9 ad.ints E=some .u8:=by exact rfl):aw P r W D n ⟨some N,.convert Yc zb x,X,M,o,R⟩ U J C:=aw.of λK Q c a w L j=>by
 have m:=Lib.run_convert_string_bytes (P:=P) w Yc zb E ⟨l.toArray⟩ (ad.SF q) (fM (ad.RM p)) (ad.R0 d);have s:(⟨l.toArray⟩:ByteArray).size=l.length:=by simp[ByteArray.size]
 have h:=wH w l.length 0 E;have g:grownCap w l.length 0 E<=maxLen:=wI w l.length 0 E Zv;have y:(Lib.bytesCells w E ⟨l.toArray⟩).size=grownCap w l.length 0 E:=by simp only[Lib.bytesCells,wJ,Array.size_map,Array.size_replicate,s];simp;omega
 have k:H w [] [dF c0 (.slice (some ⟨w.heap.size,0,none⟩) l.length (grownCap w l.length 0 E)) E 1 l] (Lib.bytesWorld w E ⟨l.toArray⟩):=by
  refine⟨λe d=>?_,by simp[bg,dF,mj,Value.ownBlock],λb T=>?_,λb T _=>Lib.bytesWorld_at_old w E _ b T,by rw[Lib.bytesWorld_size];omega,?_,?_,?_,?_⟩
  .obtain rfl:e=_:=by simpa using d
   unfold dF;rw[pc];refine⟨by rw[wL];simp,.inr ⟨w.heap.size,0,_,_,_,rfl,Lib.bytesWorld_at_new w E _,.inl (cl _),h,g,by rw[y];omega,?_⟩⟩;rw[yB,wL,nJ];simp[Lib.bytesCells]
  .right;have:b=w.heap.size:=by simpa[bg,dF,mj,Value.ownBlock]using T
   omega
  all_goals(unfold Lib.bytesWorld World.freeze;rw[aN XG];first|rfl|exact uQ _|exact cl _)
 refine iK rfl ?_ (c _ _ (t (.slice (some ⟨w.heap.size,0,none⟩) l.length (grownCap w l.length 0 E)) rfl) _ _ (L.put i _) (j.new k));rw[s]at m;simp only[execOp,L.eval u,ct,m,dv,ed]
def V.WN(ad:bV P){t u e a T b:Nat}{C4:ax}{k:aQ Addr}{x:bd}{l:ab aP}(Q:aO U x=some (.slice k l.length T))(h:Rd C4 k l.length b off 1 (l.map c0))(E:C4∈J)(m:bA ad.strs u=some a:=by exact rfl)(q:bA ad.eO t=some e:=by exact rfl)(p:k9 ad.ints e=some .u8:=by exact rfl):aK P n U J ⟨some N,.convert t u x,X,M,o,R⟩ (S l):=aK.of λa w g c=>by
 have L:(Conv.bytesToString (.slice k l.length T)).run P w=.ok (S l) w:=by
  cases l with
  |nil=>cases k<;>rfl
  |cons y l=>
   have ic:=h.addr XE;subst ic;have Yf:=h.reads w (c.get _ E);have Ye:(loadCells ⟨b,off,none⟩ (y::l).length).run P w=.ok ((y::l).map λb=>Value.int .u8 (b.toNat:Int)).toArray w:=by
    have:=tb (P:=P) w 1 (y::l).length ⟨b,off,none⟩ (y::l).length T ((y::l).map λb=>Value.int .u8 (b.toNat:Int)) XE (λj v d=>by rw[ho]at d;obtain⟨z,i,rfl⟩:=oW.1 d;have K:=(Yf j (c0 z) (by rw[ho,i];rfl)).2 0 (.int .u8 (z.toNat:Int)) rfl;rw[w2];simpa using K)
    simpa[Builtin.firstCells]using this
   have Yc:∀(F:ab aP) (s:ByteArray),(F.map λb=>(b.toNat:Int)).foldl (λr n=>r.push (UInt8.ofNat n.toNat)) s=⟨s.data++F.toArray⟩:=by
    intro F;induction F with
    |nil=>intro s;simp
    |cons x F u=>
     intro s;simp only[eK,n6];rw[u];apply ByteArray.ext;simp[ByteArray.push]
   rw[Go.run_bytesToString w ⟨b,off,none⟩ (y::l).length T ((y::l).map λb=>(b.toNat:Int)) (by simpa[Function.comp_def]using Ye),Yc];simp
 simp only[execOp,g.eval Q,convert,ct,dN (ad.SF m),dN (fM (ad.RM q)),dv,dN (ad.R0 p),L,ed]
def H.WO{g u k o E t:Nat}{F us:ab aj}{w:aY}(h:H W D J w)(T:az J (m7 (.slice (some ⟨g,off,none⟩) k u) E t k F) (m7 (.slice (some ⟨g,off,none⟩) k u) E t k (dD o us F)) Z)(d:o+us.length<=F.length)(K:us.all (·.oneCell')=true):∃eY,(storeCells ⟨g,off+o,none⟩ us).run P w=.ok () eY/\H W D Z eY:=by
 obtain⟨p,q,L,_⟩:=T.split;have Yi:=h.mem (e:=m7 (.slice (some ⟨g,off,none⟩) k u) E t k F) (by rw[L];simp);rw[pc]at Yi;rcases Yi.2 with⟨j,_⟩|⟨tf,Yt,Yj,Ye,r5,j,z,l,Yl,Yh,Yn,c⟩
 .cases j
 cases j;have Yo:=Yi.1;have Yq:k*t<=u*t:=jn _ Yl;have Ym:Ye.toList.length=Ye.size:=mV;have Yf:=za P g (off+o) E r5 us 0 Ye w z l ac (gX.1 K);simp only[gJ]at Yf;refine⟨_,Yf,?_⟩;have s:(Ye.toList.take off).length=off:=X4
 have Yr:Ye.toList=Ye.toList.take off++(F++(Ye.toList.drop off).drop (k*t)):=by rw[<-c,mU,mU]
 generalize Ye.toList.take off=A at*;generalize(Ye.toList.drop off).drop (k*t)=B at*;have y:Ye.toList.take (off+o)=A++F.take o:=by rw[Yr,<-s,C5,nB ac]
 have i:Ye.toList.drop (off+o+us.length)=F.drop (o+us.length)++B:=by rw[Yr,show off+o+us.length=A.length+(o+us.length) by omega,List.drop_length_add_append,vc ac]
 rw[y,i];have Yk:dD o us F=F.take o++us++F.drop (o+us.length):=rfl;have Ys:(dD o us F).length=k*t:=by rw[Yk];simp only[bM,eX,j6];omega
 have Yp:(A++F.take o++us++(F.drop (o+us.length)++B))=A++(dD o us F++B):=by rw[Yk];simp only[cd]
 rw[Yp];have Yg:(A++(dD o us F++B)).toArray.size=Ye.size:=by have:=db List.length Yr;simp only[nA,bM]at this⊢;omega
 refine h.mN T ⟨λe a=>?_,by simp[bg,mj,Value.ownBlock],λx Q=>?_,λb Yc m=>?_,XE,rfl,rfl,rfl,cl _⟩
 .obtain rfl:e=_:=by simpa using a
  rw[pc];refine⟨Ys,.inr ⟨g,off,u,_,r5,rfl,pH w g Ye _ E _ z,by unfold vb;rw[Yg];exact l,Yl,Yh,by rw[Yg];exact Yn,?_⟩⟩;have p:(A++(dD o us F++B)).drop off=dD o us F++B:=by rw[<-s,zc]
  rw[p,<-Ys,o0]
 .left;simpa[bg,mj,Value.ownBlock]using Q
 .exact uF w g b _ λe=>m (by simp[mj,Value.ownBlock,e])
def O.WP(ad:bV P){T u E g k Yc d:Nat}{x y:bd}{l:ab G}{a:G}{v:aj}(q:aO U x=some (au g (off+k*1)))(t:aO U y=some v)(b:f a=[v])(Ye:v.oneCell'=true)(z:az J (dF f (.slice (some ⟨g,off,none⟩) Yc d) E 1 l) (dF f (.slice (some ⟨g,off,none⟩) Yc d) E 1 (l.set k a)) Z)(c:l.length=Yc)(p:k<l.length)(e0:∀x,(f x).length=1)(ee:C U Z)(L:bA ad.one T=some u:=by exact rfl):aw P r W D n ⟨none,.store T x y,X,M,o,R⟩ U J C:=aw.of λK Q cu gq w s h=>by
 subst c;have Yf:az J (m7 (.slice (some ⟨g,off,none⟩) l.length d) E 1 l.length (l.flatMap f)) (m7 (.slice (some ⟨g,off,none⟩) l.length d) E 1 l.length (dD (k*1) [v] (l.flatMap f))) Z:=by have:=z;simp only[dF,b9]at this;rwa[<-b,uT e0 l k a p]
 obtain⟨eY,m,Yg⟩:=H.WO (P:=P) h Yf (by rw[jF e0];simp;omega) (by simp[Ye]);refine rM rfl ?_ (cu _ _ ee _ _ (s.SB undef) Yg);have j:(P.info? T).map (·.size)=some 1:=ad.Ty L;obtain⟨i,ao,Yh⟩:=oW.1 j;have Yi:v.cells=#[v]:=by cases v<;>first|rfl|(cases Ye;done)
 simp only[execOp,s.eval q,s.eval t,Instr.storeAt,Instr.sureAddr,ct,ed,dv];have h:(storeVar T ⟨g,off+k*1,none⟩ v).run P w=.ok () eY:=by
  have a:(storeCells ⟨g,off+k*1,none⟩ v.cells.toList).run P w=.ok () eY:=by rw[Yi];exact m
  simp[storeVar,sizeOf,typeInfo,ao,Yh,Yi]at a⊢;exact a
 rw[h];rfl
def V.Q'{t d:aZ}{x y:bd}{p q v:Int}(L:p-q=v)(K:aO U x=some (I p))(Q:aO U y=some (I q))(u:-9223372036854775808<=p-q/\p-q<=9223372036854775807):aK P n U J ⟨some N,.binOp .sub t x y d,X,M,o,R⟩ (I v):=by subst L;exact V.sub K Q u
def V.Y'{t d:aZ}{x y:bd}{p q v:Int}(L:p+q=v)(K:aO U x=some (I p))(Q:aO U y=some (I q))(u:-9223372036854775808<=p+q/\p+q<=9223372036854775807):aK P n U J ⟨some N,.binOp .add t x y d,X,M,o,R⟩ (I v):=by subst L;exact V.add K Q u
end
end Go.ay
namespace Go.Proofs.YteogojgnkjegmaaGreatDoor
open Go.ay Go.Proofs.Tryz
variable{Y:Type}{k b:Nat}{N:ab aj}
variable[Inhabited Y]
structure aJ(Y:Type) where
 aS:Int
 xs:ab (ab Y)
 cf:ab (ab Bool)
def aJ.x(p:aJ Y)(k:Nat):ab Y:=p.xs.getD k []
def aJ.h(p:aJ Y)(k:Nat):ab Bool:=p.cf.getD k []
structure aJ.wf(p:aJ Y):Prop where
 ael:0<=p.aS
 ao:p.aS<=7
 lS:p.xs.length=7
 lT:p.cf.length=7
 same:∀k,(p.x k).length=(p.h k).length
 m9:∀k,(p.x k).length<=64
def bB(x:ag)(n:Int):Bool:=decide (0<=x.be)&&decide (x.be<n)&&decide (1<=x.bH)&&decide (x.bH<=64)
def gC(l:ab Y)(n:Nat)(d:Y):ab Y:=l++List.replicate (n-l.length) d
def aJ.set(p:aJ Y)(x:ag)(v:Y):aJ Y:=
 if bB x p.aS then{p with xs:=p.xs.set x.be.toNat ((gC (p.x x.be.toNat) x.bH.toNat default).set (x.bH-1).toNat v),cf:=p.cf.set x.be.toNat ((gC (p.h x.be.toNat) x.bH.toNat false).set (x.bH-1).toNat true)}else p
def aJ.at(p:aJ Y)(x:ag):aQ Y:=if bB x p.aS/\(p.h x.be.toNat).getD (x.bH-1).toNat false=true then some ((p.x x.be.toNat).getD (x.bH-1).toNat default)else none
def aJ.top(p:aJ Y)(h:Int):Nat:=if 0<=h/\h<p.aS then(p.x h.toNat).length else 0
def aJ.new(n:Int):aJ Y:=⟨Min.min (Max.max n 0) 7,List.replicate 7 [],List.replicate 7 []⟩
def ca(N v:ab aj)(p:aJ Y):ab aj:=I p.aS::(N++v)
def dM(f:Y->ab aj)(B E X:Nat)(b:Nat)(N v:ab aj)(p:aJ Y):ax:=aI [cells b B (ca N v p),gr f E X N p.xs,gr eH 4 1 v p.cf]
def fy(f:Y->ab aj)(B E X:Nat)(b:Nat)(N a:ab aj)(p:aJ Y)(k:Nat)(v u:aj)(x:ab Y)(h:ab Bool):ab ax:=
 [cells b B (ca (N.set k v) (a.set k u) p),rows f v E X x,rows eH u 4 1 h,gr f E X (N.eraseIdx k) (p.xs.eraseIdx k),gr eH 4 1 (a.eraseIdx k) (p.cf.eraseIdx k)]
def dM.open{f:Y->ab aj}{B E aG:Nat}{a:ab aj}{p:aJ Y}{v u:aj}(t:N[k]?=some v)(R:a[k]?=some u)(U:k<p.xs.length)(n:k<p.cf.length):aL [dM f B E aG b N a p] (fy f B E aG b N a p k v u (p.x k) (p.h k)):=by
 have y:N.set k v=N:=by apply mX;intro j;grind
 have J:a.set k u=a:=by apply mX;intro j;grind
 have F:p.xs[k]?=some (p.x k):=by simp[aJ.x,U]
 have M:p.cf[k]?=some (p.h k):=by simp[aJ.h,n]
 unfold dM fy;rw[y,J];refine aL.aI.trans (aL.cons _ ?_);refine(aL.append (an:=[gr f E aG N p.xs]) (gr.open t F) (gr.open R M)).trans ?_;exact aL.RS (qK _ (gZ ..))
def dM.shut{f:Y->ab aj}{B E X:Nat}{a:ab aj}{p:aJ Y}{v u:aj}{x:ab Y}{h:ab Bool}(t:k<N.length)(R:k<a.length)(U:k<p.xs.length)(y:k<p.cf.length):aL (fy f B E X b N a p k v u x h) [dM f B E X b (N.set k v) (a.set k u) {p with xs:=p.xs.set k x,cf:=p.cf.set k h}]:=by unfold dM fy;refine aL.symm ?_;refine aL.aI.trans (aL.cons _ ?_);refine(aL.append (an:=[gr f E X (N.set k v) (p.xs.set k x)]) (gr.shut t U).symm (gr.shut R y).symm).trans ?_;exact aL.RS (qK _ (gZ ..))
def dM.bare{f:Y->ab aj}{B E X:Nat}{v:ab aj}{p:aJ Y}:aL [dM f B E X b N v p] [cells b B (ca N v p),gr f E X N p.xs,gr eH 4 1 v p.cf]:=aL.aI
def ca.v{us:ab aj}{p:aJ Y}{v:aj}(h:k<N.length):(ca (N.set k v) us p)[1+k*1]?=some v:=by simp only[ca,nJ];grind
def ca.u{a:ab aj}{p:aJ Y}{v:aj}(t:N.length=7)(h:k<a.length):(ca N (a.set k v) p)[8+k*1]?=some v:=by simp only[ca,nJ];grind
def ca.ij{a:ab aj}{p:aJ Y}{v X:aj}(h:k<N.length):dD (1+k*1) [X] (ca (N.set k v) a p)=ca (N.set k X) a p:=Hk
def ca.T3{a:ab aj}{p:aJ Y}{v X:aj}(t:N.length=7)(h:k<a.length):dD (8+k*1) [X] (ca N (a.set k v) p)=ca N (a.set k X) p:=Hk
def ca.r{v:ab aj}{p:aJ Y}:(ca N v p)[0]?=some (I p.aS):=rfl
def tu(l:ab Y)(n:Nat)(d:Y):(gC l n d).length=Max.max l.length n:=by simp[gC];omega
def tv{l:ab Y}{m n:Nat}{d:Y}(F:m=0\/l.length+m<=n)(M:n<=l.length+m):l++List.replicate m d=gC l n d:=by grind [gC]
def tw(l:ab Y)(m:Nat)(d:Y):l++List.replicate (m+1) d=(l++List.replicate m d)++[d]:=by rw[List.replicate_succ',cd]
def aJ.row(p:aJ Y)(k m:Nat):ab (ag×Y):=(List.range m).filterMap λj:Nat=>(p.at ⟨(k:Int),(j:Int)+1⟩).map λt=>(⟨(k:Int),(j:Int)+1⟩,t)
def aJ.upto(p:aJ Y)(k:Nat):ab (ag×Y):=(List.range k).flatMap λk=>p.row k (p.top k)
def aJ.all(p:aJ Y):ab (ag×Y):=p.upto 7
theorem aJ.TJ(p:aJ Y)(k m:Nat):p.row k (m+1)=p.row k m++((p.at ⟨(k:Int),(m:Int)+1⟩).map λt=>((⟨(k:Int),(m:Int)+1⟩:ag),t)).toList:=by grind [aJ.row,List.range_succ]
theorem aJ.Tl(p:aJ Y)(k:Nat):p.upto (k+1)=p.upto k++p.row k (p.top k):=by grind [aJ.upto,List.range_succ]
def aJ.Vb(p:aJ Y)(k:Nat):∀d m:Nat,∃g,p.row k (m+d)=p.row k m++g
 |0,m=>⟨[],XE⟩
 |d+1,m=>by obtain⟨g,h⟩:=aJ.Vb p k d m;grind [Nat.add_assoc,aJ.TJ,List.append_assoc]
def aJ.Vc(p:aJ Y):∀d k:Nat,∃g,p.upto (k+d)=p.upto k++g
 |0,k=>⟨[],XE⟩
 |d+1,k=>by obtain⟨g,h⟩:=aJ.Vc p d k;grind [Nat.add_assoc,aJ.Tl,List.append_assoc]
def aJ.WQ(p:aJ Y){m:Nat}{t:Y}(T:k<7)(K:m<p.top k)(j:p.at ⟨(k:Int),(m:Int)+1⟩=some t):∃d,p.all=(p.upto k++p.row k m)++(⟨(k:Int),(m:Int)+1⟩,t)::d:=by obtain⟨t,F⟩:=aJ.Vc p (7-(k+1)) (k+1);obtain⟨o,M⟩:=aJ.Vb p k (p.top k-(m+1)) (m+1);rw[show k+1+(7-(k+1))=7 by omega]at F;rw[show m+1+(p.top k-(m+1))=p.top k by omega]at M;grind [aJ.all,aJ.Tl,aJ.TJ]
def aJ.Vd{p:aJ Y}(m:p.wf)(r:Int):p.top r<=64:=by
 unfold aJ.top;split
 .exact m.m9 _
 .omega
def aJ.Ve{p:aJ Y}(m:p.wf):∀k:Nat,(p.upto k).length<=64*k
 |0=>by simp[aJ.upto]
 |k+1=>by
  rw[aJ.Tl,bM];have F:=aJ.Ve m k;have M:(p.row k (p.top k)).length<=p.top k:=by have:=List.length_filterMap_le (λj:Nat=>(p.at ⟨(k:Int),(j:Int)+1⟩).map λt=>((⟨(k:Int),(j:Int)+1⟩:ag),t)) (List.range (p.top k));simpa[aJ.row]using this
  have g:=aJ.Vd m (k:Int);omega
def aJ.SJ{p:aJ Y}(m:p.wf):p.all.length<=448:=aJ.Ve m 7
structure aJ.ok(p:aJ Y):Prop extends p.wf where
 last:∀k m,(p.h k).length=m+1->(p.h k)[m]?=some true
def C6(l:ab (ab Y))(k j:Nat)(r:ab Y)(T:k<l.length):(l.set k r).getD j []=if j=k then r else l.getD j []:=XK
def kN{x:ag}{n:Int}(h:bB x n=true):0<=x.be/\x.be<n/\1<=x.bH/\x.bH<=64:=by simp only[bB,cZ,da]at h;omega
theorem aJ.SK(p:aJ Y)(x:ag)(v:Y):(p.set x v).aS=p.aS:=by unfold aJ.set;split<;>rfl
theorem aJ.R8(n:Int):(aJ.new n:aJ Y).ok:=by
 have U:∀k,(aJ.new n:aJ Y).x k=[]:=λk=>by simp only[aJ.x,aJ.new,jM,w3];split<;>rfl
 have y:∀k,(aJ.new n:aJ Y).h k=[]:=λk=>IK
 refine⟨⟨?_,?_,rfl,rfl,λk=>by rw[U,y];rfl,λk=>by rw[U];simp⟩,λk m h=>by rw[y]at h;simp at h⟩
 .show 0<=Min.min (Max.max n 0) 7;omega
 .show Min.min (Max.max n 0) 7<=7;omega
def aJ.T4{p:aJ Y}(m:p.wf){x:ag}{v:Y}(q:bB x p.aS=true)(k:Nat):(p.set x v).x k=if k=x.be.toNat then(gC (p.x x.be.toNat) x.bH.toNat default).set (x.bH-1).toNat v else p.x k:=by have h:=kN q;have ao:=m.ao;have C:=m.lS;rw[aJ.set,aT q];exact C6 _ _ _ _ ac
def aJ.T5{p:aJ Y}(m:p.wf){x:ag}{v:Y}(q:bB x p.aS=true)(k:Nat):(p.set x v).h k=if k=x.be.toNat then(gC (p.h x.be.toNat) x.bH.toNat false).set (x.bH-1).toNat true else p.h k:=by have h:=kN q;have ao:=m.ao;have K:=m.lT;rw[aJ.set,aT q];exact C6 _ _ _ _ ac
def aJ.SL{p:aJ Y}(r:p.ok)(x:ag)(v:Y):(p.set x v).ok:=by
 by_cases q:bB x p.aS=true
 .have h:=kN q;have y:=r.towf;refine⟨⟨by grind [aJ.SK],by rw[aJ.SK];exact y.ao,?_,?_,λk=>?_,λk=>?_⟩,λk m K=>?_⟩
  .rw[aJ.set,aT q];simpa using y.lS
  .rw[aJ.set,aT q];simpa using y.lT
  .rw[aJ.T4 y q,aJ.T5 y q];split
   .simp[tu,y.same]
   .exact y.same k
  .rw[aJ.T4 y q];split
   .have:=y.m9 x.be.toNat;simp[tu];omega
   .exact y.m9 k
  .rw[aJ.T5 y q]at K⊢;split
   .rename_i e;rw[aT e,b9,tu]at K;rw[kq];split
    .rename_i J;rw[aT (by rw[tu];omega)]
    .rename_i J;have E:x.bH.toNat<=(p.h x.be.toNat).length:=by omega
     have:gC (p.h x.be.toNat) x.bH.toNat false=p.h x.be.toNat:=by rw[gC,show x.bH.toNat-(p.h x.be.toNat).length=0 by omega];simp
     rw[this];exact r.last _ m ac
   .rename_i e;rw[aN e]at K;exact r.last k m K
 .have:p.set x v=p:=by rw[aJ.set,aN q]
  rw[this];exact r
theorem aJ.SM(n:Int)(x:ag):(aJ.new n:aJ Y).at x=none:=by
 have y:∀k,(aJ.new n:aJ Y).h k=[]:=λk=>IK
 simp[aJ.at,y]
def C7(l:ab Y)(n j:Nat)(d:Y):(gC l n d).getD j d=l.getD j d:=by simp only[gC,jM,List.getElem?_append,w3];grind
def C8(l:ab Y)(k j:Nat)(r d:Y)(T:k<l.length):(l.set k r).getD j d=if j=k then r else l.getD j d:=XK
def aJ.Sn{p:aJ Y}(r:p.ok)(x:ag)(v:Y)(y:ag):(p.set x v).at y=if bB x p.aS=true/\y=x then some v else p.at y:=by
 by_cases q:bB x p.aS=true
 .have h:=kN q;have m:=r.towf;by_cases G:bB y p.aS=true
  .have M:=kN G;have F:(x.bH-1).toNat<(gC (p.h x.be.toNat) x.bH.toNat false).length:=by rw[tu];omega
   have l:(x.bH-1).toNat<(gC (p.x x.be.toNat) x.bH.toNat default).length:=by rw[tu];omega
   unfold aJ.at;rw[aJ.SK,aJ.T5 m q,aJ.T4 m q];by_cases e:y.be=x.be
   .rw[e];simp only[hA];rw[C8 _ _ _ _ _ F,C8 _ _ _ _ _ l,C7,C7];by_cases J:y.bH=x.bH
    .have:y=x:=by cases x;cases y;simp_all
     subst this;simp[q]
    .have o:¬(y.bH-1).toNat=(x.bH-1).toNat:=by omega
     have D:¬y=x:=λe=>J (by rw[e]);simp only[o,ii,D,nL]
   .have o:¬y.be.toNat=x.be.toNat:=by omega
    have D:¬y=x:=λc=>e (by rw[c]);simp[o,D]
  .have D:¬y=x:=λc=>G (by rw[c];exact q);have m:(p.set x v).at y=none:=by unfold aJ.at;rw[aJ.SK];simp[G]
   have Z:p.at y=none:=by unfold aJ.at;simp[G]
   rw[m,Z,aN (λe=>D e.2)]
 .have:p.set x v=p:=by rw[aJ.set,aN q]
  rw[this,aN (λe=>q e.1)]
def aJ.TK{p:aJ Y}{x:ag}{t:Y}(h:p.at x=some t):bB x p.aS=true:=by grind [aJ.at]
def aJ.Vf{p:aJ Y}(r:p.ok){x:ag}{t:Y}(h:p.at x=some t):(x.bH-1).toNat<p.top x.be:=by
 have D:=kN (aJ.TK h);unfold aJ.at at h;split at h
 .rename_i v;have M:=v.2;rw[jM]at M;have m:(x.bH-1).toNat<(p.h x.be.toNat).length:=by
   rcases n4 (x.bH-1).toNat (p.h x.be.toNat).length with q|q
   .exact q
   .rw[u6 q]at M;cases M
  rw[aJ.top,aT ⟨D.1,D.2.1⟩,r.same];exact m
 .cases h
def aJ.Vg{p:aJ Y}(r:p.ok){m:Nat}(h:p.top (k:Int)=m+1):(p.at ⟨(k:Int),(m:Int)+1⟩).isSome=true:=by
 unfold aJ.top at h;split at h
 .rename_i v;have M:=r.m9 k;have Q:=r.same k;have E:=r.last k m (by rw[<-Q];simpa using h);have ao:=r.ao;simp only[iB]at h;have q:bB ⟨(k:Int),(m:Int)+1⟩ p.aS=true:=by simp only[bB,cZ,da];omega
  unfold aJ.at;grind
 .cases h
def aJ.mem_row{p:aJ Y}{m:Nat}{y:ag×Y}:y∈p.row k m↔∃j,j<m/\y.1=⟨(k:Int),(j:Int)+1⟩/\p.at y.1=some y.2:=by grind [aJ.row,Option.map_eq_some_iff]
def aJ.Vh{p:aJ Y}{y:ag×Y}:y∈p.upto k↔∃i j:Nat,i<k/\j<p.top i/\y.1=⟨(i:Int),(j:Int)+1⟩/\p.at y.1=some y.2:=by unfold aJ.upto;simp only[vd,qD,aJ.mem_row];grind
theorem aJ.Sp{p:aJ Y}(r:p.ok){y:ag×Y}:y∈p.all↔p.at y.1=some y.2:=by
 unfold aJ.all;rw[aJ.Vh];constructor
 .grind
 .intro h;have q:=kN (aJ.TK h);have E:=aJ.Vf r h;have ao:=r.ao;obtain⟨⟨x,num⟩,t⟩:=y;simp only at q E h;have e:(⟨x,num⟩:ag)=⟨(x.toNat:Int),((num-1).toNat:Int)+1⟩:=by grind
  grind
def nM(x y:ag):Prop:=x.be<y.be\/(x.be=y.be/\x.bH<y.bH)
def aJ.Vi(p:aJ Y)(k:Nat):∀m,(p.row k m).Pairwise λx y=>nM x.1 y.1
 |0=>by simp[aJ.row]
 |m+1=>by
  rw[aJ.TJ,List.pairwise_append];refine⟨aJ.Vi p k m,?_,?_⟩
  .grind
  .intro x U y G;obtain⟨j,w,F,_⟩:=aJ.mem_row.1 U;have:y.1=⟨(k:Int),(m:Int)+1⟩:=by
    cases h:p.at ⟨(k:Int),(m:Int)+1⟩with
    |none=>rw[h]at G;simp at G
    |some t=>rw[h]at G;simp at G;rw[G]
   rw[F,this];right;grind
def aJ.Vj(p:aJ Y):∀k,(p.upto k).Pairwise λx y=>nM x.1 y.1
 |0=>by simp[aJ.upto]
 |k+1=>by rw[aJ.Tl,List.pairwise_append];refine⟨aJ.Vj p k,aJ.Vi p k _,?_⟩;intro x U y G;obtain⟨i,j,ao,_,F,_⟩:=aJ.Vh.1 U;obtain⟨r,_,M,_⟩:=aJ.mem_row.1 G;rw[F,M];left;grind
theorem aJ.T6(p:aJ Y):p.all.Pairwise λx y=>nM x.1 y.1:=aJ.Vj p 7
def pd(a b:ag):Bool:=if a.bH=b.bH then decide (a.be<b.be)else decide (a.bH<b.bH)
end Go.Proofs.YteogojgnkjegmaaGreatDoor
